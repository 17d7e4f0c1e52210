/- The law InvoiceSums, walked: whatever the operations, it answers true. -/
import Derived.Test.YtfiaobhkhedpiaaInv11
import Derived.Test.YtfiaobhkhedpiaaBig11
namespace Go.Proofs.Ytfiaobhkhedpiaa
open Go.RowKit

theorem inv_row {Γ : List Asn} {g c m' : Nat} {its : List IA} {m : Bool} (hm : invsA (.slice (some ⟨g, 0, none⟩) m' c) its m ∈ Γ) {i : Nat} {x : IA} (hx : its[i]? = some x) : ∀ w, Hd Γ w → ∀ j v, (encA x)[j]? = some v → w.cell? ⟨g, 0 + i * 13 + j, none⟩ = some v := by
  intro w hh j v hj
  have h : rowOk (.slice (some ⟨g, 0, none⟩) m' c) its w := (hh _ hm).1
  have h1 := flat_get encA 13 (fun _ => rfl) its i x hx j v hj
  have h2 := World.ownsRow.cells h (g := g) rfl _ _ h1
  rw [addr_add] at h2
  rw [← h2]; congr 2; omega
theorem inv_line {Γ : List Asn} {sv : Value} {its : List IA} {m : Bool} (hm : invsA sv its m ∈ Γ) {x : IA} (hx : x ∈ its) {i : Nat} {y : RLine} (hy : x.v.lines[i]? = some y) : ∀ w, Hd Γ w → ∀ j v, (encL y)[j]? = some v → w.cell? ⟨x.b, 0 + i * 4 + j, none⟩ = some v := by
  intro w hh j v hj
  exact row_of_own (enc := encL) (fun _ => rfl) ((hh _ hm).2 x hx) i (encL y) (by simp [hy]) j v hj
theorem All_F (bk : Nat) (sv : Value) (its : List IA) (hn : its.length ≤ 1000000) (hls : ∀ x ∈ its, x.v.lines.length ≤ 1000000) (w0 : World) (h : bookφ bk sv its w0) :
    NewC Try.prog 21 [.pointer (some ⟨bk, 0, none⟩)] w0 (fun y : { y : Value × List IA // vs y.2 = vs its } => y.1.1) (fun y => invsA y.1.1 y.1.2 true) :=
  (All_P bk sv its hn hls w0 h).mono fun e w' ⟨⟨y, hy⟩, he, hc, hY, hF⟩ => ⟨⟨y, by unfold vs; rw [hy]; unfold someL; rw [List.filter_eq_self.2 (fun _ _ => rfl)]⟩, he, hc, hY, hF⟩

theorem askE_zero (s cur : ByteArray) (at_ f t n : Int) : askE s cur at_ f t 0 n ≠ 0 := by
  unfold askE
  split
  · decide
  · split
    · assumption
    · split
      · decide
      · rw [if_pos (.inl (by decide))]; decide
theorem issE_nil (l : List Inv) (account cur : ByteArray) (at_ f t : Int) : issE l account cur at_ f t [] = askE account cur at_ f t 0 l.length ∧ issE l account cur at_ f t [] ≠ 0 := by
  have h : issE l account cur at_ f t [] = askE account cur at_ f t 0 l.length := by
    unfold issE; exact if_pos (askE_zero _ _ _ _ _ _)
  exact ⟨h, by rw [h]; exact askE_zero _ _ _ _ _ _⟩
set_option maxRecDepth 100000 in
theorem Issue_nil (bk : Nat) (sv : Value) (its : List IA) (account cur : ByteArray) (at_ f t : Int) (ad : Option Addr) (c : Nat) (hs : account.size ≤ 4611686018427387904) (w0 : World) (h : bookφ bk sv its w0) :
    PureC Try.prog 15 [.pointer (some ⟨bk, 0, none⟩), .string account, .string cur, .int .i64 at_, .int .i64 f, .int .i64 t, .slice ad 0 c] w0 (.tuple [.int .i64 0, .int .i64 (askE account cur at_ f t 0 its.length)].toArray) := by
  refine c_enter [(0, .pointer (some ⟨bk, 0, none⟩)), (1, .string account), (2, .string cur), (3, .int .i64 at_), (4, .int .i64 f), (5, .int .i64 t), (6, .slice ad 0 c)] [bookA bk sv its false] noB Try.func15 rfl Try.ntmps15 ⟨rfl, rfl, rfl, rfl, rfl, rfl, rfl, trivial⟩ rfl (okC (book_ok false h) okN) dis1 (mineC (by rfl) mineN) ?_
  intro a hS
  refine c_seq ?_
  refine c_region ?_
  refine L_op (s_e hS (e_assign rfl) rfl ?_); clear hS a; intro a hS
  refine L_op (s_e hS (e_assign rfl) rfl ?_); clear hS a; intro a hS
  refine L_nil ?_
  refine n_then ?_
  refine c_seq ?_
  refine c_seq ?_
  refine c_region ?_
  refine L_op (s_e hS (e_move rfl) rfl ?_); clear hS a; intro a hS
  refine L_op (s_e hS (e_move rfl) rfl ?_); clear hS a; intro a hS
  refine L_op (s_e hS (e_move rfl) rfl ?_); clear hS a; intro a hS
  refine L_op (s_e hS (e_move rfl) rfl ?_); clear hS a; intro a hS
  refine L_op (s_e hS (e_move rfl) rfl ?_); clear hS a; intro a hS
  refine L_op (s_e hS (e_move rfl) rfl ?_); clear hS a; intro a hS
  refine L_op (s_e hS (e_move rfl) rfl ?_); clear hS a; intro a hS
  refine L_op (s_e hS (e_len rfl rfl ty_sl22) rfl ?_); clear hS a; intro a hS
  refine L_op (s_callP hS (.cons rfl (.cons rfl (.cons rfl (.cons rfl (.cons rfl (.cons rfl (.cons rfl .nil))))))) cf55 rfl (asked_P bk sv its account cur at_ f t 0 hs _ (hS.get (X := bookA bk sv its false) (by repeat (first | exact .head _ | refine .tail _ ?_)))) ?_); clear hS a; (try clear w); intro a w hS
  refine L_op (s_e hS (e_assign rfl) rfl ?_); clear hS a; intro a hS
  refine L_nil ?_
  refine n_then ?_
  refine c_seq ?_
  refine c_region ?_
  refine L_op (s_e hS (e_move rfl) rfl ?_); clear hS a; intro a hS
  refine L_op (s_e hS (e_bin rfl rfl rfl) rfl ?_); clear hS a; intro a hS
  refine L_nil ?_
  refine n_then ?_
  replace hS := hS.is (t := 34) (c := true) rfl ((decide_eq_true (askE_zero _ _ _ _ _ _)))
  refine c_if_t hS rfl ?_
  refine c_seq ?_
  refine c_region ?_
  refine L_op (s_e hS (e_move rfl) rfl ?_); clear hS a; intro a hS
  refine L_op (s_e hS (e_assign rfl) rfl ?_); clear hS a; intro a hS
  refine L_op (s_e hS (e_assign rfl) rfl ?_); clear hS a; intro a hS
  refine L_nil ?_
  refine n_then ?_
  refine wp_ret ?_
  refine r_then ?_
  refine c_retN hS Try.results15 (.cons (.tmp rfl) (.cons (.tmp rfl) .nil)) rfl ?_
  exact ⟨rfl, hS.chg⟩

/-- an issue of an operation's lines, wherever they lie. -/
theorem Issue_A (bk : Nat) (sv : Value) (its : List IA) (account cur : ByteArray) (at_ f t : Int) (v : Value) (l : List RLine) (hs : account.size ≤ 4611686018427387904) (hn : its.length ≤ 1000000) (hls : ∀ x ∈ its, x.v.lines.length ≤ 1000000)
    (hlen : l.length ≤ 1000000) (hfit : ∀ x ∈ l, x.fits) (w0 : World) (h : bookφ bk sv its w0) (hl : LnAt v l w0) (hd : ∀ k, l ≠ [] → v.ownBlock = some k → ¬ bookF bk sv its k) :
    MutC Try.prog 15 [.pointer (some ⟨bk, 0, none⟩), .string account, .string cur, .int .i64 at_, .int .i64 f, .int .i64 t, v] w0 (bookA bk sv its true) (fun _ : { y : Value × List IA // vs y.2 = (issF (vs its) account cur at_ f t l).1 } => .tuple [.int .i64 (issF (vs its) account cur at_ f t l).2.1, .int .i64 (issF (vs its) account cur at_ f t l).2.2].toArray) (fun y => bookA bk y.1.1 y.1.2 true) := by
  rcases hl with ⟨rfl, a, c, rfl⟩ | ⟨b, off, c, hne, rfl, hr, hlt⟩
  · obtain ⟨e1, e2⟩ := issE_nil (vs its) account cur at_ f t
    have e : issF (vs its) account cur at_ f t [] = (vs its, 0, askE account cur at_ f t 0 its.length) := by
      unfold issF; rw [if_neg e2, e1, vs_len]
    exact pure_mut (Issue_nil bk sv its account cur at_ f t a c hs w0 h) (book_ok true h) ⟨(sv, its), by rw [e]⟩ (by rw [e]) rfl
  · exact Issue_F bk sv its account cur at_ f t (some (b, off)) c (fun e => by cases e) l hs hn hls hlen hfit w0 h hr (fun q hq => by cases hq; exact ⟨hlt, hd b hne rfl⟩)

theorem issF_len (l : List Inv) (account cur : ByteArray) (at_ f t : Int) (ln : List RLine) : (issF l account cur at_ f t ln).1.length ≤ l.length + 1 := by
  unfold issF; split <;> simp
theorem payF_len (add : Inv → Int → Inv) (l : List Inv) (number u : Int) : (payF add l number u).1.length = l.length := by
  unfold payF; split
  · rfl
  · split <;> simp
theorem voidF_len (l : List Inv) (number : Int) : (voidF l number).1.length = l.length := by
  unfold voidF; split
  · rfl
  · split <;> simp
theorem good_each {its : List IA} (h : rightB (vs its)) : ∀ x ∈ its, goodI x.v := fun x hx => (h.each x.v (List.mem_map.2 ⟨x, hx, rfl⟩)).togoodI
theorem lines_each {its : List IA} (h : rightB (vs its)) : ∀ x ∈ its, x.v.lines.length ≤ 1000000 := fun x hx => by have := (good_each h x hx).lines; omega
theorem its_len {a b : List IA} (h : vs a = vs b) : a.length = b.length := by rw [← vs_len a, h, vs_len]
theorem its_of {a : List IA} {k : Nat} (h : k < a.length) : ∃ x, a[k]? = some x := ⟨a[k], List.getElem?_eq_getElem h⟩
theorem vs_at {a b : List IA} (h : vs a = vs b) {k : Nat} {x : IA} (hx : a[k]? = some x) : ∃ y, b[k]? = some y ∧ y.v = x.v := by
  have h1 := vs_get hx
  rw [h] at h1
  unfold vs at h1
  rw [List.getElem?_map, Option.map_eq_some_iff] at h1
  exact h1
theorem bigP0 {w : World} : (bigP ((0 : Int).natAbs) none).ok w := by rw [show (0 : Int).natAbs = 0 from rfl]; exact bigP_none
theorem sum20 {l : List RLine} (h : ∀ x ∈ l, x.fits) (hl : l.length ≤ 60) : (∀ k, (dgs (sumN (l.take k)).natAbs).length ≤ 20 ∧ (dgs (sumT (l.take k)).natAbs).length ≤ 20) := fun k => by
  have h1 := sumN_bd (l.take k) (fun x hx => h x (List.mem_of_mem_take hx))
  have h2 := sumT_bd (l.take k) (fun x hx => h x (List.mem_of_mem_take hx))
  have h3 : (l.take k).length ≤ 60 := by rw [List.length_take]; omega
  exact ⟨len20 (by omega), len20 (by omega)⟩
theorem no_meet {l : List Inv} (h : rightB l) {j k : Nat} {x y : Inv} (hjk : j < k) (hx : l[j]? = some x) (hy : l[k]? = some y) : ¬ ((((x.account = y.account ∧ x.state ≠ 3) ∧ y.state ≠ 3) ∧ x.from_ < y.to_) ∧ y.from_ < x.to_) :=
  fun ⟨⟨⟨⟨h1, h2⟩, h3⟩, h4⟩, h5⟩ => h.apart j k x y hjk hx hy ⟨h1, h2, h3, h4, h5⟩

set_option maxHeartbeats 4000000 in
set_option maxRecDepth 100000 in
theorem InvoiceSums_P (p : Option (Nat × Nat)) (c : Nat) (l : List ROp) (hlen : l.length ≤ 4611686018427387904) (hfit : ∀ x ∈ l, x.fits) (w0 : World) (h : opsφ p l w0) (hb : ∀ q, p = some q → q.1 < w0.heap.size) :
    PureC Try.prog 4 [sliceV p l.length c] w0 (.bool true) := by
  refine c_enter [(0, sliceV p l.length c)] [opsA p l] noB Try.func4 rfl Try.ntmps4 ⟨rfl, trivial⟩ rfl (okC (ops_ok h hb) okN) dis1 (mineC (by rfl) mineN) ?_
  intro a hS
  refine c_seq ?_
  refine c_region ?_
  refine L_op (s_e hS (e_assign rfl) rfl ?_); clear hS a; intro a hS
  refine L_nil ?_
  refine n_then ?_
  refine c_seq ?_
  refine c_region ?_
  refine L_op (s_callP hS .nil cf13 rfl (ifirst_P _) ?_); clear hS a; (try clear w); intro a w hS
  refine L_op (s_e hS (e_assign rfl) rfl ?_); clear hS a; intro a hS
  refine L_nil ?_
  refine n_then ?_
  refine c_seq ?_
  refine c_region ?_
  refine L_op (s_e hS (e_move rfl) rfl ?_); clear hS a; intro a hS
  refine L_op (s_callP hS (.cons rfl .nil) cf20 rfl (few_P p c l hlen hfit _ (hS.get (X := opsA p l) (by repeat (first | exact .head _ | refine .tail _ ?_))) (fun q hq => (hS.ok (opsA p l) (by repeat (first | exact .head _ | refine .tail _ ?_))).lt q.1 (.inl ⟨q.2, by rw [hq]⟩))) ?_); clear hS a; (try clear w); intro a w hS
  refine L_op (s_e hS (e_assign rfl) rfl ?_); clear hS a; intro a hS
  refine L_nil ?_
  refine n_then ?_
  refine c_seq ?_
  refine c_region ?_
  refine L_op (s_callN hS .nil cf14 rfl (New_P _) ?_); clear hS a; (try clear w); intro x30 a w hS
  refine L_op (s_e hS (e_assign rfl) rfl ?_); clear hS a; intro a hS
  refine L_nil ?_
  refine n_then ?_
  refine c_seq ?_
  refine c_seq ?_
  refine c_region ?_
  refine L_op (s_e hS (e_move rfl) rfl ?_); clear hS a; intro a hS
  refine L_op (s_e hS (e_not rfl) rfl ?_); clear hS a; intro a hS
  refine L_op (s_e hS (e_move rfl) rfl ?_); clear hS a; intro a hS
  replace hS := hS.is (t := 33) (c := false) rfl (rfl)
  refine L_go hS rfl rfl (s_e hS (e_move rfl) rfl ?_); clear hS a; intro a hS
  refine L_go hS rfl rfl (s_e hS (e_not rfl) rfl ?_); clear hS a; intro a hS
  first | (refine L_op (s_e hS (e_pick_t rfl rfl) rfl ?_); clear hS a; intro a hS) | (refine L_op (s_e hS (e_pick_f rfl rfl) rfl ?_); clear hS a; intro a hS)
  refine L_op (s_e hS (e_move rfl) rfl ?_); clear hS a; intro a hS
  (first | refine g_splitD (t := 37) hS rfl ?_ ?_ | refine g_split (t := 37) hS rfl ?_ ?_) <;> (clear hS; intro hg37 hS)
  ·
    refine L_skip_f hS rfl rfl rfl ?_; clear hS a; intro a hS
    refine L_skip_f hS rfl rfl rfl ?_; clear hS a; intro a hS
    first | (refine L_op (s_e hS (e_pick_t rfl rfl) rfl ?_); clear hS a; intro a hS) | (refine L_op (s_e hS (e_pick_f rfl rfl) rfl ?_); clear hS a; intro a hS)
    refine L_nil ?_
    refine n_then ?_
    refine c_if_t hS rfl ?_
    refine c_seq ?_
    refine c_region ?_
    refine L_op (s_e hS (e_move rfl) rfl ?_); clear hS a; intro a hS
    refine L_op (s_e hS (e_move rfl) rfl ?_); clear hS a; intro a hS
    replace hS := hS.is (t := 42) (c := true) rfl (rfl)
    refine L_go hS rfl rfl (s_e hS (e_move rfl) rfl ?_); clear hS a; intro a hS
    refine L_go hS rfl rfl (s_e hS (e_nnil rfl ty_u27) rfl ?_); clear hS a; intro a hS
    first | (refine L_op (s_e hS (e_pick_t rfl rfl) rfl ?_); clear hS a; intro a hS) | (refine L_op (s_e hS (e_pick_f rfl rfl) rfl ?_); clear hS a; intro a hS)
    refine L_op (s_e hS (e_assign rfl) rfl ?_); clear hS a; intro a hS
    refine L_nil ?_
    refine n_then ?_
    refine wp_ret ?_
    refine r_then ?_
    refine c_ret1 hS Try.results4 (.tmp rfl) ?_
    exact ⟨rfl, hS.chg⟩
  ·
    have hfew : fewL l := by simpa using hg37
    have hl60 := hfew.1
    refine L_go hS rfl rfl (s_e hS (e_move rfl) rfl ?_); clear hS a; intro a hS
    refine L_go hS rfl rfl (s_e hS (e_nil rfl ty_u27) rfl ?_); clear hS a; intro a hS
    first | (refine L_op (s_e hS (e_pick_t rfl rfl) rfl ?_); clear hS a; intro a hS) | (refine L_op (s_e hS (e_pick_f rfl rfl) rfl ?_); clear hS a; intro a hS)
    refine L_nil ?_
    refine n_then ?_
    replace hS := hS.is (t := 40) (c := false) rfl (rfl)
    refine c_if_f hS rfl ?_
    refine wp_skip ?_
    refine n_then ?_
    refine c_seq ?_
    refine c_seq ?_
    refine c_region ?_
    refine L_op (s_e hS (e_assign rfl) rfl ?_); clear hS a; intro a hS
    refine L_nil ?_
    refine n_then ?_
    refine wp_block ?_
    skip
    refine c_loop (γ := (Nat × Value × List IA)) (fun G a w => St 372 noB w0 a w [(6, .int .i64 (G.1 : Int)), (5, .pointer (some ⟨x30, 0, none⟩)), (0, sliceV p l.length c)] [bookA x30 G.2.1 G.2.2 true, opsA p l] ∧ G.1 ≤ l.length ∧ rightB (vs G.2.2) ∧ G.2.2.length ≤ G.1) (fun G => l.length - G.1) (0, .slice none 0 0, []) ⟨hS.slots (by repeat (first | exact trivial | refine ⟨rfl, ?_⟩)), Nat.zero_le _, right_nil, Nat.le_refl _⟩ ?_
    clear hS a; (try clear w); intro G a w hI
    obtain ⟨i, sv, its⟩ := G
    obtain ⟨hS, hi, hR, hil⟩ := hI
    simp only at hS hi hR hil
    refine c_seq ?_
    refine c_seq ?_
    refine c_region ?_
    refine L_op (s_e hS (e_move rfl) rfl ?_); clear hS a; intro a hS
    refine L_op (s_e hS (e_move rfl) rfl ?_); clear hS a; intro a hS
    refine L_op (s_e hS (e_len rfl rfl ty_sl39) rfl ?_); clear hS a; intro a hS
    refine L_op (s_e hS (e_bin rfl rfl rfl) rfl ?_); clear hS a; intro a hS
    refine L_nil ?_
    refine n_then ?_
    first | refine c_ifD hS rfl (fun hc49 => ?_) (fun hc49 => ?_) | refine c_if hS rfl (fun hc49 => ?_) (fun hc49 => ?_)
    ·
      obtain ⟨o, ho⟩ : ∃ o, l[i]? = some o := ⟨l[i], by simp⟩
      obtain ⟨b, off, rfl⟩ := ops_pos h ho
      have hom := List.mem_of_getElem? ho
      have hof := hfit o hom
      have hoF := hfew.2 o hom
      obtain ⟨la, lc, hlv⟩ := LnAt.shape (h.2 o hom)
      have hn : its.length ≤ 1000000 := by omega
      refine wp_skip ?_
      refine n_then ?_
      refine c_seq ?_
      refine wp_block ?_
      refine c_seq ?_
      refine c_region ?_
      refine L_op (s_e hS (e_move rfl) rfl ?_); clear hS a; intro a hS
      refine L_op (s_callN hS (.cons rfl .nil) cf21 rfl (All_F x30 sv its hn (lines_each hR) _ (hS.get (X := bookA x30 sv its true) (by repeat (first | exact .head _ | refine .tail _ ?_)))) ?_); clear hS a; (try clear w); intro x53 a w hS
      obtain ⟨⟨wasV, was⟩, hwas⟩ := x53
      simp only at hS hwas
      have hwl := its_len hwas
      obtain ⟨wa, wc, rfl⟩ := own_slice (hS.get (X := invsA wasV was true) (by repeat (first | exact .head _ | refine .tail _ ?_))).1
      refine L_op (s_e hS (e_assign rfl) rfl ?_); clear hS a; intro a hS
      refine L_nil ?_
      refine n_then ?_
      refine c_seq ?_
      refine c_region ?_
      refine L_op (s_e hS (e_assign rfl) rfl ?_); clear hS a; intro a hS
      refine L_nil ?_
      refine n_then ?_
      refine c_seq ?_
      refine c_region ?_
      refine L_op (s_e hS (e_move rfl) rfl ?_); clear hS a; intro a hS
      refine L_op (s_e hS (e_move rfl) rfl ?_); clear hS a; intro a hS
      refine L_op (s_e hS (e_ixN rfl rfl ty_sl39 ty_sz44 (by omega)) rfl ?_); clear hS a; intro a hS
      refine L_op (s_e hS (e_loadAC (l := encO o) rfl ty_st44 ty_sz44 (ops_get (by repeat (first | exact .head _ | refine .tail _ ?_)) ho)) rfl ?_); clear hS a; intro a hS
      rw [show encO o = [.int .i64 o.kind, .int .i64 o.at_, .int .i64 o.from_, .int .i64 o.to_, .string o.account, .string o.cur, .slice la o.lines.length lc, .int .i64 o.number, .int .i64 o.units] by unfold encO; rw [hlv]] at hS
      refine L_op (s_alloc hS ty_z44 rfl ?_); clear hS a; (try clear w); intro a w b9 hS
      refine L_op (s_storeA hS rfl rfl ty_sz44 (by repeat (first | apply Rep.head | apply Rep.tail)) (by rfl) (by rfl) (by rfl) ?_); clear hS; (try clear w); intro w hS
      refine L_nil ?_
      refine n_then ?_
      refine c_cut (fun a w => ∃ (sv2 : Value) (its2 : List IA) (bad : Bool), St 372 noB w0 a w [(6, .int .i64 (i : Int)), (0, sliceV (some (b, off)) l.length c), (5, .pointer (some ⟨x30, 0, none⟩)), (7, .slice wa was.length wc), (8, .bool bad)] [bookA x30 sv2 its2 true, invsA (.slice wa was.length wc) was true, opsA (some (b, off)) l] ∧ rightB (vs its2) ∧ goes bad (vs its) (vs its2) ∧ its2.length ≤ its.length + 1) ?_ ?_
      ·
        refine c_seq ?_
        refine c_region ?_
        first | (refine L_op (s_e hS (e_fa0 rfl ty_fo44_0) rfl ?_); clear hS a; intro a hS) | (refine L_op (s_e hS (e_faK rfl ty_fo44_0) rfl ?_); clear hS a; intro a hS)
        refine L_op (s_e hS (e_load rfl (by repeat (first | exact .head _ | refine .tail _ ?_)) ty_sc3 (by rfl)) rfl ?_); clear hS a; intro a hS
        refine L_nil ?_
        refine n_then ?_
        refine wp_block ?_
        refine c_seq ?_
        refine c_region ?_
        refine L_op (s_e hS (e_bin rfl rfl rfl) rfl ?_); clear hS a; intro a hS
        refine L_op (s_e hS (e_assign rfl) rfl ?_); clear hS a; intro a hS
        refine L_nil ?_
        refine n_then ?_
        first | refine c_ifD hS rfl (fun hc60 => ?_) (fun hc60 => ?_) | refine c_if hS rfl (fun hc60 => ?_) (fun hc60 => ?_)
        ·
          refine c_seq ?_
          refine c_region ?_
          refine L_op (s_e hS (e_move rfl) rfl ?_); clear hS a; intro a hS
          first | (refine L_op (s_e hS (e_fa0 rfl ty_fo44_4) rfl ?_); clear hS a; intro a hS) | (refine L_op (s_e hS (e_faK rfl ty_fo44_4) rfl ?_); clear hS a; intro a hS)
          refine L_op (s_e hS (e_load rfl (by repeat (first | exact .head _ | refine .tail _ ?_)) ty_sc9 (by rfl)) rfl ?_); clear hS a; intro a hS
          first | (refine L_op (s_e hS (e_fa0 rfl ty_fo44_5) rfl ?_); clear hS a; intro a hS) | (refine L_op (s_e hS (e_faK rfl ty_fo44_5) rfl ?_); clear hS a; intro a hS)
          refine L_op (s_e hS (e_load rfl (by repeat (first | exact .head _ | refine .tail _ ?_)) ty_sc9 (by rfl)) rfl ?_); clear hS a; intro a hS
          first | (refine L_op (s_e hS (e_fa0 rfl ty_fo44_1) rfl ?_); clear hS a; intro a hS) | (refine L_op (s_e hS (e_faK rfl ty_fo44_1) rfl ?_); clear hS a; intro a hS)
          refine L_op (s_e hS (e_load rfl (by repeat (first | exact .head _ | refine .tail _ ?_)) ty_sc3 (by rfl)) rfl ?_); clear hS a; intro a hS
          first | (refine L_op (s_e hS (e_fa0 rfl ty_fo44_2) rfl ?_); clear hS a; intro a hS) | (refine L_op (s_e hS (e_faK rfl ty_fo44_2) rfl ?_); clear hS a; intro a hS)
          refine L_op (s_e hS (e_load rfl (by repeat (first | exact .head _ | refine .tail _ ?_)) ty_sc3 (by rfl)) rfl ?_); clear hS a; intro a hS
          first | (refine L_op (s_e hS (e_fa0 rfl ty_fo44_3) rfl ?_); clear hS a; intro a hS) | (refine L_op (s_e hS (e_faK rfl ty_fo44_3) rfl ?_); clear hS a; intro a hS)
          refine L_op (s_e hS (e_load rfl (by repeat (first | exact .head _ | refine .tail _ ?_)) ty_sc3 (by rfl)) rfl ?_); clear hS a; intro a hS
          first | (refine L_op (s_e hS (e_fa0 rfl ty_fo44_6) rfl ?_); clear hS a; intro a hS) | (refine L_op (s_e hS (e_faK rfl ty_fo44_6) rfl ?_); clear hS a; intro a hS)
          refine L_op (s_e hS (e_load rfl (by repeat (first | exact .head _ | refine .tail _ ?_)) ty_sc22 (by rfl)) rfl ?_); clear hS a; intro a hS
          have hLn := (hS.get (X := opsA (some (b, off)) l) (by repeat (first | exact .head _ | refine .tail _ ?_))).2 o hom
          rw [hlv] at hLn
          have hsep := hS.sep (X := bookA x30 sv its true) (Y := opsA (some (b, off)) l) (by repeat (first | exact Rem.head | apply Rem.tail)) (by repeat (first | exact .head _ | refine .tail _ ?_))
          refine L_op (s_callM hS (.cons rfl (.cons rfl (.cons rfl (.cons rfl (.cons rfl (.cons rfl (.cons rfl .nil))))))) cf15 rfl (Issue_A x30 sv its o.account o.cur o.at_ o.from_ o.to_ (.slice la o.lines.length lc) o.lines hof.account hn (lines_each hR) (by have := hoF.2.2.1; omega) hof.lines.1 _ (hS.get (X := bookA x30 sv its true) (by repeat (first | exact .head _ | refine .tail _ ?_))) hLn (fun k hne hk hb => hsep k hb (.inr ⟨o, hom, hne, by rw [hlv]; exact hk⟩))) (fun x => (by repeat (first | apply Rep.head | apply Rep.tail))) rfl ?_); clear hS a; (try clear w); intro x76 a w hS
          refine L_op (s_e hS (e_move rfl) rfl ?_); clear hS a; intro a hS
          refine L_op (s_e hS (e_extract rfl rfl) rfl ?_); clear hS a; intro a hS
          refine L_op (s_e hS (e_extract rfl rfl) rfl ?_); clear hS a; intro a hS
          refine L_op (s_e hS (e_assign rfl) rfl ?_); clear hS a; intro a hS
          refine L_op (s_e hS (e_assign rfl) rfl ?_); clear hS a; intro a hS
          refine L_nil ?_
          refine n_then ?_
          refine c_region ?_
          refine L_op (s_e hS (e_move rfl) rfl ?_); clear hS a; intro a hS
          refine L_op (s_callP hS (.cons rfl .nil) cf16 rfl (Num_w _ _) ?_); clear hS a; (try clear w); intro a w hS
          refine L_op (s_e hS (e_bin rfl rfl rfl) rfl ?_); clear hS a; intro a hS
          refine L_op (s_e hS (e_assign rfl) rfl ?_); clear hS a; intro a hS
          refine L_nil ?_
          refine n_block ?_
          first
          | (
            obtain ⟨⟨sv2, its2⟩, e2⟩ := x76
            simp only at hS e2
            have hr := issF_right hR o.account o.cur o.at_ o.from_ o.to_ o.lines hof.lines.1
            have hl2 := issF_len (vs its) o.account o.cur o.at_ o.from_ o.to_ o.lines
            rw [← e2] at hr hl2
            rw [vs_len, vs_len] at hl2
            exact ⟨sv2, its2, _, (hS.pick (by repeat (first | exact Pick.nil | (refine Pick.cons (by repeat (first | exact Rem.head | apply Rem.tail)) ?_)))).slots (by repeat (first | exact trivial | refine ⟨rfl, ?_⟩)), hr.1, hr.2, hl2⟩)
          | (
            obtain ⟨its2, e2⟩ := x90
            simp only at hS e2
            have hr := payF_right hR o.number o.units
            have hl2 := payF_len addP (vs its) o.number o.units
            rw [← e2] at hr hl2
            rw [vs_len, vs_len] at hl2
            exact ⟨sv, its2, _, (hS.pick (by repeat (first | exact Pick.nil | (refine Pick.cons (by repeat (first | exact Rem.head | apply Rem.tail)) ?_)))).slots (by repeat (first | exact trivial | refine ⟨rfl, ?_⟩)), hr.1, hr.2, by omega⟩)
          | (
            obtain ⟨its2, e2⟩ := x104
            simp only at hS e2
            have hr := credF_right hR o.number o.units
            have hl2 := payF_len addC (vs its) o.number o.units
            rw [← e2] at hr hl2
            rw [vs_len, vs_len] at hl2
            exact ⟨sv, its2, _, (hS.pick (by repeat (first | exact Pick.nil | (refine Pick.cons (by repeat (first | exact Rem.head | apply Rem.tail)) ?_)))).slots (by repeat (first | exact trivial | refine ⟨rfl, ?_⟩)), hr.1, hr.2, by omega⟩)
          | (
            obtain ⟨its2, e2⟩ := x115
            simp only at hS e2
            have hr := voidF_right hR o.number
            have hl2 := voidF_len (vs its) o.number
            rw [← e2] at hr hl2
            rw [vs_len, vs_len] at hl2
            exact ⟨sv, its2, _, (hS.pick (by repeat (first | exact Pick.nil | (refine Pick.cons (by repeat (first | exact Rem.head | apply Rem.tail)) ?_)))).slots (by repeat (first | exact trivial | refine ⟨rfl, ?_⟩)), hr.1, hr.2, by omega⟩)
          | exact ⟨sv, its, false, (hS.pick (by repeat (first | exact Pick.nil | (refine Pick.cons (by repeat (first | exact Rem.head | apply Rem.tail)) ?_)))).slots (by repeat (first | exact trivial | refine ⟨rfl, ?_⟩)), hR, goes_refl _ _, by omega⟩
        ·
          refine c_seq ?_
          refine c_region ?_
          refine L_op (s_e hS (e_bin rfl rfl rfl) rfl ?_); clear hS a; intro a hS
          refine L_op (s_e hS (e_assign rfl) rfl ?_); clear hS a; intro a hS
          refine L_nil ?_
          refine n_then ?_
          first | refine c_ifD hS rfl (fun hc82 => ?_) (fun hc82 => ?_) | refine c_if hS rfl (fun hc82 => ?_) (fun hc82 => ?_)
          ·
            refine c_seq ?_
            refine c_region ?_
            refine L_op (s_e hS (e_move rfl) rfl ?_); clear hS a; intro a hS
            first | (refine L_op (s_e hS (e_fa0 rfl ty_fo44_7) rfl ?_); clear hS a; intro a hS) | (refine L_op (s_e hS (e_faK rfl ty_fo44_7) rfl ?_); clear hS a; intro a hS)
            refine L_op (s_e hS (e_load rfl (by repeat (first | exact .head _ | refine .tail _ ?_)) ty_sc3 (by rfl)) rfl ?_); clear hS a; intro a hS
            first | (refine L_op (s_e hS (e_fa0 rfl ty_fo44_8) rfl ?_); clear hS a; intro a hS) | (refine L_op (s_e hS (e_faK rfl ty_fo44_8) rfl ?_); clear hS a; intro a hS)
            refine L_op (s_e hS (e_load rfl (by repeat (first | exact .head _ | refine .tail _ ?_)) ty_sc3 (by rfl)) rfl ?_); clear hS a; intro a hS
            refine L_op (s_callM hS (.cons rfl (.cons rfl (.cons rfl .nil))) cf18 rfl (Pay_F x30 sv its (good_each hR) o.number o.units hn _ (hS.get (X := bookA x30 sv its true) (by repeat (first | exact .head _ | refine .tail _ ?_)))) (fun x => (by repeat (first | apply Rep.head | apply Rep.tail))) rfl ?_); clear hS a; (try clear w); intro x90 a w hS
            refine L_op (s_e hS (e_move rfl) rfl ?_); clear hS a; intro a hS
            refine L_op (s_e hS (e_extract rfl rfl) rfl ?_); clear hS a; intro a hS
            refine L_op (s_e hS (e_extract rfl rfl) rfl ?_); clear hS a; intro a hS
            refine L_op (s_e hS (e_assign rfl) rfl ?_); clear hS a; intro a hS
            refine L_op (s_e hS (e_assign rfl) rfl ?_); clear hS a; intro a hS
            refine L_nil ?_
            refine n_then ?_
            refine c_region ?_
            refine L_op (s_e hS (e_move rfl) rfl ?_); clear hS a; intro a hS
            refine L_op (s_callP hS (.cons rfl .nil) cf16 rfl (Num_w _ _) ?_); clear hS a; (try clear w); intro a w hS
            refine L_op (s_e hS (e_bin rfl rfl rfl) rfl ?_); clear hS a; intro a hS
            refine L_op (s_e hS (e_assign rfl) rfl ?_); clear hS a; intro a hS
            refine L_nil ?_
            refine n_block ?_
            first
            | (
              obtain ⟨⟨sv2, its2⟩, e2⟩ := x76
              simp only at hS e2
              have hr := issF_right hR o.account o.cur o.at_ o.from_ o.to_ o.lines hof.lines.1
              have hl2 := issF_len (vs its) o.account o.cur o.at_ o.from_ o.to_ o.lines
              rw [← e2] at hr hl2
              rw [vs_len, vs_len] at hl2
              exact ⟨sv2, its2, _, (hS.pick (by repeat (first | exact Pick.nil | (refine Pick.cons (by repeat (first | exact Rem.head | apply Rem.tail)) ?_)))).slots (by repeat (first | exact trivial | refine ⟨rfl, ?_⟩)), hr.1, hr.2, hl2⟩)
            | (
              obtain ⟨its2, e2⟩ := x90
              simp only at hS e2
              have hr := payF_right hR o.number o.units
              have hl2 := payF_len addP (vs its) o.number o.units
              rw [← e2] at hr hl2
              rw [vs_len, vs_len] at hl2
              exact ⟨sv, its2, _, (hS.pick (by repeat (first | exact Pick.nil | (refine Pick.cons (by repeat (first | exact Rem.head | apply Rem.tail)) ?_)))).slots (by repeat (first | exact trivial | refine ⟨rfl, ?_⟩)), hr.1, hr.2, by omega⟩)
            | (
              obtain ⟨its2, e2⟩ := x104
              simp only at hS e2
              have hr := credF_right hR o.number o.units
              have hl2 := payF_len addC (vs its) o.number o.units
              rw [← e2] at hr hl2
              rw [vs_len, vs_len] at hl2
              exact ⟨sv, its2, _, (hS.pick (by repeat (first | exact Pick.nil | (refine Pick.cons (by repeat (first | exact Rem.head | apply Rem.tail)) ?_)))).slots (by repeat (first | exact trivial | refine ⟨rfl, ?_⟩)), hr.1, hr.2, by omega⟩)
            | (
              obtain ⟨its2, e2⟩ := x115
              simp only at hS e2
              have hr := voidF_right hR o.number
              have hl2 := voidF_len (vs its) o.number
              rw [← e2] at hr hl2
              rw [vs_len, vs_len] at hl2
              exact ⟨sv, its2, _, (hS.pick (by repeat (first | exact Pick.nil | (refine Pick.cons (by repeat (first | exact Rem.head | apply Rem.tail)) ?_)))).slots (by repeat (first | exact trivial | refine ⟨rfl, ?_⟩)), hr.1, hr.2, by omega⟩)
            | exact ⟨sv, its, false, (hS.pick (by repeat (first | exact Pick.nil | (refine Pick.cons (by repeat (first | exact Rem.head | apply Rem.tail)) ?_)))).slots (by repeat (first | exact trivial | refine ⟨rfl, ?_⟩)), hR, goes_refl _ _, by omega⟩
          ·
            refine c_seq ?_
            refine c_region ?_
            refine L_op (s_e hS (e_bin rfl rfl rfl) rfl ?_); clear hS a; intro a hS
            refine L_op (s_e hS (e_assign rfl) rfl ?_); clear hS a; intro a hS
            refine L_nil ?_
            refine n_then ?_
            first | refine c_ifD hS rfl (fun hc96 => ?_) (fun hc96 => ?_) | refine c_if hS rfl (fun hc96 => ?_) (fun hc96 => ?_)
            ·
              refine c_seq ?_
              refine c_region ?_
              refine L_op (s_e hS (e_move rfl) rfl ?_); clear hS a; intro a hS
              first | (refine L_op (s_e hS (e_fa0 rfl ty_fo44_7) rfl ?_); clear hS a; intro a hS) | (refine L_op (s_e hS (e_faK rfl ty_fo44_7) rfl ?_); clear hS a; intro a hS)
              refine L_op (s_e hS (e_load rfl (by repeat (first | exact .head _ | refine .tail _ ?_)) ty_sc3 (by rfl)) rfl ?_); clear hS a; intro a hS
              first | (refine L_op (s_e hS (e_fa0 rfl ty_fo44_8) rfl ?_); clear hS a; intro a hS) | (refine L_op (s_e hS (e_faK rfl ty_fo44_8) rfl ?_); clear hS a; intro a hS)
              refine L_op (s_e hS (e_load rfl (by repeat (first | exact .head _ | refine .tail _ ?_)) ty_sc3 (by rfl)) rfl ?_); clear hS a; intro a hS
              refine L_op (s_callM hS (.cons rfl (.cons rfl (.cons rfl .nil))) cf19 rfl (Credit_F x30 sv its (good_each hR) o.number o.units hn _ (hS.get (X := bookA x30 sv its true) (by repeat (first | exact .head _ | refine .tail _ ?_)))) (fun x => (by repeat (first | apply Rep.head | apply Rep.tail))) rfl ?_); clear hS a; (try clear w); intro x104 a w hS
              refine L_op (s_e hS (e_move rfl) rfl ?_); clear hS a; intro a hS
              refine L_op (s_e hS (e_extract rfl rfl) rfl ?_); clear hS a; intro a hS
              refine L_op (s_e hS (e_extract rfl rfl) rfl ?_); clear hS a; intro a hS
              refine L_op (s_e hS (e_assign rfl) rfl ?_); clear hS a; intro a hS
              refine L_op (s_e hS (e_assign rfl) rfl ?_); clear hS a; intro a hS
              refine L_nil ?_
              refine n_then ?_
              refine c_region ?_
              refine L_op (s_e hS (e_move rfl) rfl ?_); clear hS a; intro a hS
              refine L_op (s_callP hS (.cons rfl .nil) cf16 rfl (Num_w _ _) ?_); clear hS a; (try clear w); intro a w hS
              refine L_op (s_e hS (e_bin rfl rfl rfl) rfl ?_); clear hS a; intro a hS
              refine L_op (s_e hS (e_assign rfl) rfl ?_); clear hS a; intro a hS
              refine L_nil ?_
              refine n_block ?_
              first
              | (
                obtain ⟨⟨sv2, its2⟩, e2⟩ := x76
                simp only at hS e2
                have hr := issF_right hR o.account o.cur o.at_ o.from_ o.to_ o.lines hof.lines.1
                have hl2 := issF_len (vs its) o.account o.cur o.at_ o.from_ o.to_ o.lines
                rw [← e2] at hr hl2
                rw [vs_len, vs_len] at hl2
                exact ⟨sv2, its2, _, (hS.pick (by repeat (first | exact Pick.nil | (refine Pick.cons (by repeat (first | exact Rem.head | apply Rem.tail)) ?_)))).slots (by repeat (first | exact trivial | refine ⟨rfl, ?_⟩)), hr.1, hr.2, hl2⟩)
              | (
                obtain ⟨its2, e2⟩ := x90
                simp only at hS e2
                have hr := payF_right hR o.number o.units
                have hl2 := payF_len addP (vs its) o.number o.units
                rw [← e2] at hr hl2
                rw [vs_len, vs_len] at hl2
                exact ⟨sv, its2, _, (hS.pick (by repeat (first | exact Pick.nil | (refine Pick.cons (by repeat (first | exact Rem.head | apply Rem.tail)) ?_)))).slots (by repeat (first | exact trivial | refine ⟨rfl, ?_⟩)), hr.1, hr.2, by omega⟩)
              | (
                obtain ⟨its2, e2⟩ := x104
                simp only at hS e2
                have hr := credF_right hR o.number o.units
                have hl2 := payF_len addC (vs its) o.number o.units
                rw [← e2] at hr hl2
                rw [vs_len, vs_len] at hl2
                exact ⟨sv, its2, _, (hS.pick (by repeat (first | exact Pick.nil | (refine Pick.cons (by repeat (first | exact Rem.head | apply Rem.tail)) ?_)))).slots (by repeat (first | exact trivial | refine ⟨rfl, ?_⟩)), hr.1, hr.2, by omega⟩)
              | (
                obtain ⟨its2, e2⟩ := x115
                simp only at hS e2
                have hr := voidF_right hR o.number
                have hl2 := voidF_len (vs its) o.number
                rw [← e2] at hr hl2
                rw [vs_len, vs_len] at hl2
                exact ⟨sv, its2, _, (hS.pick (by repeat (first | exact Pick.nil | (refine Pick.cons (by repeat (first | exact Rem.head | apply Rem.tail)) ?_)))).slots (by repeat (first | exact trivial | refine ⟨rfl, ?_⟩)), hr.1, hr.2, by omega⟩)
              | exact ⟨sv, its, false, (hS.pick (by repeat (first | exact Pick.nil | (refine Pick.cons (by repeat (first | exact Rem.head | apply Rem.tail)) ?_)))).slots (by repeat (first | exact trivial | refine ⟨rfl, ?_⟩)), hR, goes_refl _ _, by omega⟩
            ·
              refine c_seq ?_
              refine c_region ?_
              refine L_op (s_e hS (e_bin rfl rfl rfl) rfl ?_); clear hS a; intro a hS
              refine L_op (s_e hS (e_assign rfl) rfl ?_); clear hS a; intro a hS
              refine L_nil ?_
              refine n_then ?_
              first | refine c_ifD hS rfl (fun hc110 => ?_) (fun hc110 => ?_) | refine c_if hS rfl (fun hc110 => ?_) (fun hc110 => ?_)
              ·
                refine c_region ?_
                refine L_op (s_e hS (e_move rfl) rfl ?_); clear hS a; intro a hS
                first | (refine L_op (s_e hS (e_fa0 rfl ty_fo44_7) rfl ?_); clear hS a; intro a hS) | (refine L_op (s_e hS (e_faK rfl ty_fo44_7) rfl ?_); clear hS a; intro a hS)
                refine L_op (s_e hS (e_load rfl (by repeat (first | exact .head _ | refine .tail _ ?_)) ty_sc3 (by rfl)) rfl ?_); clear hS a; intro a hS
                refine L_op (s_callM hS (.cons rfl (.cons rfl .nil)) cf22 rfl (Void_F x30 sv its (good_each hR) o.number hn _ (hS.get (X := bookA x30 sv its true) (by repeat (first | exact .head _ | refine .tail _ ?_)))) (fun x => (by repeat (first | apply Rep.head | apply Rep.tail))) rfl ?_); clear hS a; (try clear w); intro x115 a w hS
                refine L_op (s_callP hS (.cons rfl .nil) cf16 rfl (Num_w _ _) ?_); clear hS a; (try clear w); intro a w hS
                refine L_op (s_e hS (e_bin rfl rfl rfl) rfl ?_); clear hS a; intro a hS
                refine L_op (s_e hS (e_assign rfl) rfl ?_); clear hS a; intro a hS
                refine L_nil ?_
                refine n_block ?_
                first
                | (
                  obtain ⟨⟨sv2, its2⟩, e2⟩ := x76
                  simp only at hS e2
                  have hr := issF_right hR o.account o.cur o.at_ o.from_ o.to_ o.lines hof.lines.1
                  have hl2 := issF_len (vs its) o.account o.cur o.at_ o.from_ o.to_ o.lines
                  rw [← e2] at hr hl2
                  rw [vs_len, vs_len] at hl2
                  exact ⟨sv2, its2, _, (hS.pick (by repeat (first | exact Pick.nil | (refine Pick.cons (by repeat (first | exact Rem.head | apply Rem.tail)) ?_)))).slots (by repeat (first | exact trivial | refine ⟨rfl, ?_⟩)), hr.1, hr.2, hl2⟩)
                | (
                  obtain ⟨its2, e2⟩ := x90
                  simp only at hS e2
                  have hr := payF_right hR o.number o.units
                  have hl2 := payF_len addP (vs its) o.number o.units
                  rw [← e2] at hr hl2
                  rw [vs_len, vs_len] at hl2
                  exact ⟨sv, its2, _, (hS.pick (by repeat (first | exact Pick.nil | (refine Pick.cons (by repeat (first | exact Rem.head | apply Rem.tail)) ?_)))).slots (by repeat (first | exact trivial | refine ⟨rfl, ?_⟩)), hr.1, hr.2, by omega⟩)
                | (
                  obtain ⟨its2, e2⟩ := x104
                  simp only at hS e2
                  have hr := credF_right hR o.number o.units
                  have hl2 := payF_len addC (vs its) o.number o.units
                  rw [← e2] at hr hl2
                  rw [vs_len, vs_len] at hl2
                  exact ⟨sv, its2, _, (hS.pick (by repeat (first | exact Pick.nil | (refine Pick.cons (by repeat (first | exact Rem.head | apply Rem.tail)) ?_)))).slots (by repeat (first | exact trivial | refine ⟨rfl, ?_⟩)), hr.1, hr.2, by omega⟩)
                | (
                  obtain ⟨its2, e2⟩ := x115
                  simp only at hS e2
                  have hr := voidF_right hR o.number
                  have hl2 := voidF_len (vs its) o.number
                  rw [← e2] at hr hl2
                  rw [vs_len, vs_len] at hl2
                  exact ⟨sv, its2, _, (hS.pick (by repeat (first | exact Pick.nil | (refine Pick.cons (by repeat (first | exact Rem.head | apply Rem.tail)) ?_)))).slots (by repeat (first | exact trivial | refine ⟨rfl, ?_⟩)), hr.1, hr.2, by omega⟩)
                | exact ⟨sv, its, false, (hS.pick (by repeat (first | exact Pick.nil | (refine Pick.cons (by repeat (first | exact Rem.head | apply Rem.tail)) ?_)))).slots (by repeat (first | exact trivial | refine ⟨rfl, ?_⟩)), hR, goes_refl _ _, by omega⟩
              ·
                refine wp_skip ?_
                refine n_block ?_
                first
                | (
                  obtain ⟨⟨sv2, its2⟩, e2⟩ := x76
                  simp only at hS e2
                  have hr := issF_right hR o.account o.cur o.at_ o.from_ o.to_ o.lines hof.lines.1
                  have hl2 := issF_len (vs its) o.account o.cur o.at_ o.from_ o.to_ o.lines
                  rw [← e2] at hr hl2
                  rw [vs_len, vs_len] at hl2
                  exact ⟨sv2, its2, _, (hS.pick (by repeat (first | exact Pick.nil | (refine Pick.cons (by repeat (first | exact Rem.head | apply Rem.tail)) ?_)))).slots (by repeat (first | exact trivial | refine ⟨rfl, ?_⟩)), hr.1, hr.2, hl2⟩)
                | (
                  obtain ⟨its2, e2⟩ := x90
                  simp only at hS e2
                  have hr := payF_right hR o.number o.units
                  have hl2 := payF_len addP (vs its) o.number o.units
                  rw [← e2] at hr hl2
                  rw [vs_len, vs_len] at hl2
                  exact ⟨sv, its2, _, (hS.pick (by repeat (first | exact Pick.nil | (refine Pick.cons (by repeat (first | exact Rem.head | apply Rem.tail)) ?_)))).slots (by repeat (first | exact trivial | refine ⟨rfl, ?_⟩)), hr.1, hr.2, by omega⟩)
                | (
                  obtain ⟨its2, e2⟩ := x104
                  simp only at hS e2
                  have hr := credF_right hR o.number o.units
                  have hl2 := payF_len addC (vs its) o.number o.units
                  rw [← e2] at hr hl2
                  rw [vs_len, vs_len] at hl2
                  exact ⟨sv, its2, _, (hS.pick (by repeat (first | exact Pick.nil | (refine Pick.cons (by repeat (first | exact Rem.head | apply Rem.tail)) ?_)))).slots (by repeat (first | exact trivial | refine ⟨rfl, ?_⟩)), hr.1, hr.2, by omega⟩)
                | (
                  obtain ⟨its2, e2⟩ := x115
                  simp only at hS e2
                  have hr := voidF_right hR o.number
                  have hl2 := voidF_len (vs its) o.number
                  rw [← e2] at hr hl2
                  rw [vs_len, vs_len] at hl2
                  exact ⟨sv, its2, _, (hS.pick (by repeat (first | exact Pick.nil | (refine Pick.cons (by repeat (first | exact Rem.head | apply Rem.tail)) ?_)))).slots (by repeat (first | exact trivial | refine ⟨rfl, ?_⟩)), hr.1, hr.2, by omega⟩)
                | exact ⟨sv, its, false, (hS.pick (by repeat (first | exact Pick.nil | (refine Pick.cons (by repeat (first | exact Rem.head | apply Rem.tail)) ?_)))).slots (by repeat (first | exact trivial | refine ⟨rfl, ?_⟩)), hR, goes_refl _ _, by omega⟩
      ·
        clear hS a; (try clear w); intro a w hS
        obtain ⟨sv2, its2, bad, hS, hR2, hgo, hl2⟩ := hS
        have hn2 : its2.length ≤ 1000000 := by omega
        refine c_seq ?_
        refine c_region ?_
        refine L_op (s_e hS (e_move rfl) rfl ?_); clear hS a; intro a hS
        refine L_op (s_callN hS (.cons rfl .nil) cf21 rfl (All_F x30 sv2 its2 hn2 (lines_each hR2) _ (hS.get (X := bookA x30 sv2 its2 true) (by repeat (first | exact .head _ | refine .tail _ ?_)))) ?_); clear hS a; (try clear w); intro x119 a w hS
        obtain ⟨⟨nowV, now⟩, hnow⟩ := x119
        simp only at hS hnow
        have hnl := its_len hnow
        obtain ⟨na, nc, rfl⟩ := own_slice (hS.get (X := invsA nowV now true) (by repeat (first | exact .head _ | refine .tail _ ?_))).1
        have hgl := hgo.len
        rw [vs_len, vs_len] at hgl
        refine L_op (s_e hS (e_assign rfl) rfl ?_); clear hS a; intro a hS
        refine L_nil ?_
        refine n_then ?_
        refine c_seq ?_
        refine c_seq ?_
        refine c_region ?_
        refine L_op (s_e hS (e_move rfl) rfl ?_); clear hS a; intro a hS
        refine L_op (s_e hS (e_len rfl rfl ty_sl41) rfl ?_); clear hS a; intro a hS
        refine L_op (s_e hS (e_move rfl) rfl ?_); clear hS a; intro a hS
        refine L_op (s_e hS (e_len rfl rfl ty_sl41) rfl ?_); clear hS a; intro a hS
        refine L_op (s_e hS (e_bin rfl rfl rfl) rfl ?_); clear hS a; intro a hS
        refine L_op (s_e hS (e_move rfl) rfl ?_); clear hS a; intro a hS
        replace hS := hS.is (t := 125) (c := false) rfl ((decide_eq_false (by omega)))
        refine L_go hS rfl rfl (s_e hS (e_move rfl) rfl ?_); clear hS a; intro a hS
        refine L_go hS rfl rfl (s_e hS (e_move rfl) rfl ?_); clear hS a; intro a hS
        refine L_merge 6 133 (.bool (false)) hS ?_ ?_
        · intro hcM133
          (first | refine g_splitD (t := 127) hS rfl ?_ ?_ | refine g_split (t := 127) hS rfl ?_ ?_) <;> (clear hS; intro hg127 hS)
          ·
            refine L_go hS rfl rfl (s_e hS (e_move rfl) rfl ?_); clear hS a; intro a hS
            refine L_go hS rfl rfl (s_e hS (e_len rfl rfl ty_sl41) rfl ?_); clear hS a; intro a hS
            refine L_go hS rfl rfl (s_e hS (e_move rfl) rfl ?_); clear hS a; intro a hS
            refine L_go hS rfl rfl (s_e hS (e_len rfl rfl ty_sl41) rfl ?_); clear hS a; intro a hS
            refine L_go hS rfl rfl (s_e hS (e_bin rfl rfl rfl) rfl ?_); clear hS a; intro a hS
            first | (refine L_go hS rfl rfl (s_e hS (e_pick_t rfl rfl) rfl ?_); clear hS a; intro a hS) | (refine L_go hS rfl rfl (s_e hS (e_pick_f rfl rfl) rfl ?_); clear hS a; intro a hS)
            exact hcM133 a w (hS.ends 7 133 127 rfl (congrArg Value.bool (by have := hgl.2 hg127; rw [decide_eq_false_iff_not]; omega)) rfl rfl (by first | exact congrArg Value.bool (decide_eq_true hg127).symm | exact congrArg Value.bool hg127.symm | simp [hg127]) rfl)
          ·
            refine L_skip_t hS rfl rfl rfl ?_; clear hS a; intro a hS
            refine L_skip_t hS rfl rfl rfl ?_; clear hS a; intro a hS
            refine L_skip_t hS rfl rfl rfl ?_; clear hS a; intro a hS
            refine L_skip_t hS rfl rfl rfl ?_; clear hS a; intro a hS
            refine L_skip_t hS rfl rfl rfl ?_; clear hS a; intro a hS
            first | (refine L_go hS rfl rfl (s_e hS (e_pick_t rfl rfl) rfl ?_); clear hS a; intro a hS) | (refine L_go hS rfl rfl (s_e hS (e_pick_f rfl rfl) rfl ?_); clear hS a; intro a hS)
            exact hcM133 a w (hS.ends 7 133 127 rfl (congrArg Value.bool (by first | rfl | (simp [hg127]; done) | (simp [hg127]; omega) | grind)) rfl rfl (by first | exact congrArg Value.bool (decide_eq_false hg127).symm | exact congrArg Value.bool hg127.symm | simp [hg127]) rfl)
        · clear hS a; (try clear w); intro a w hS
          simp only [List.drop_succ_cons, List.drop_zero]
          first | (refine L_op (s_e hS (e_pick_t rfl rfl) rfl ?_); clear hS a; intro a hS) | (refine L_op (s_e hS (e_pick_f rfl rfl) rfl ?_); clear hS a; intro a hS)
          refine L_nil ?_
          refine n_then ?_
          replace hS := hS.is (t := 134) (c := false) rfl (rfl)
          refine c_if_f hS rfl ?_
          refine wp_skip ?_
          refine n_then ?_
          refine c_seq ?_
          refine c_region ?_
          refine L_op (s_e hS (e_assign rfl) rfl ?_); clear hS a; intro a hS
          refine L_nil ?_
          refine n_then ?_
          refine wp_block ?_
          skip
          refine c_loop (γ := Nat) (fun k a w => St 372 noB w0 a w [(17, .int .i64 (k : Int)), (16, .slice na now.length nc), (8, .bool bad), (6, .int .i64 (i : Int)), (0, sliceV (some (b, off)) l.length c), (5, .pointer (some ⟨x30, 0, none⟩)), (7, .slice wa was.length wc)] [invsA (.slice na now.length nc) now true, bookA x30 sv2 its2 true, invsA (.slice wa was.length wc) was true, opsA (some (b, off)) l] ∧ k ≤ now.length) (fun k => now.length - k) 0 ⟨(hS.pick (by repeat (first | exact Pick.nil | (refine Pick.cons (by repeat (first | exact Rem.head | apply Rem.tail)) ?_)))).slots (by repeat (first | exact trivial | refine ⟨rfl, ?_⟩)), Nat.zero_le _⟩ ?_
          clear hS a; (try clear w); intro k a w hI
          obtain ⟨hS, hk⟩ := hI
          refine c_seq ?_
          refine c_seq ?_
          refine c_region ?_
          refine L_op (s_e hS (e_move rfl) rfl ?_); clear hS a; intro a hS
          refine L_op (s_e hS (e_move rfl) rfl ?_); clear hS a; intro a hS
          refine L_op (s_e hS (e_len rfl rfl ty_sl41) rfl ?_); clear hS a; intro a hS
          refine L_op (s_e hS (e_bin rfl rfl rfl) rfl ?_); clear hS a; intro a hS
          refine L_nil ?_
          refine n_then ?_
          first | refine c_ifD hS rfl (fun hc138 => ?_) (fun hc138 => ?_) | refine c_if hS rfl (fun hc138 => ?_) (fun hc138 => ?_)
          ·
            obtain ⟨x, hx⟩ := its_of (a := now) (k := k) (by omega)
            have hxm := List.mem_of_getElem? hx
            obtain ⟨x2, hx2, hx2v⟩ := vs_at hnow hx
            have hx2' : (vs its2)[k]? = some x.v := by rw [← hx2v]; exact vs_get hx2
            have hxr : rightI x.v := hR2.each x.v (List.mem_of_getElem? hx2')
            have hxn := hR2.num k x.v hx2'
            obtain ⟨g, c2, hnv⟩ := sv_some (hS.get (X := invsA (.slice na now.length nc) now true) (by repeat (first | exact .head _ | refine .tail _ ?_))).1 hx
            injection hnv with hna _ hnc
            subst hna hnc
            have q1 := hxr.paid; have q2 := hxr.cred; have q3 := hxr.sum; have q4 := hxr.tot; have q5 := hxr.lines; have q6 := hxr.net; have q7 := hxr.tax; have q8 := hxr.total; have q9 := hxr.done; have q10 := hxr.fit; have q11 := hxr.pos
            have h20 := sum20 q10 (by omega)
            have hsf : (sumN (x.v.lines.take x.v.lines.length)) = x.v.net ∧ (sumT (x.v.lines.take x.v.lines.length)) = x.v.tax := by rw [List.take_length]; exact ⟨q6.symm, q7.symm⟩
            refine wp_skip ?_
            refine n_then ?_
            refine c_seq ?_
            refine wp_block ?_
            refine c_seq ?_
            refine c_region ?_
            refine L_op (s_e hS (e_move rfl) rfl ?_); clear hS a; intro a hS
            refine L_op (s_e hS (e_move rfl) rfl ?_); clear hS a; intro a hS
            refine L_op (s_e hS (e_ixN rfl rfl ty_sl41 ty_sz34 (by omega)) rfl ?_); clear hS a; intro a hS
            refine L_op (s_e hS (e_loadAC (l := encA x) rfl ty_st34 ty_sz34 (inv_row (by repeat (first | exact .head _ | refine .tail _ ?_)) hx)) rfl ?_); clear hS a; intro a hS
            refine L_op (s_alloc hS ty_z34 rfl ?_); clear hS a; (try clear w); intro a w b18 hS
            refine L_op (s_storeA hS rfl rfl ty_sz34 (by repeat (first | apply Rep.head | apply Rep.tail)) (by rfl) (by rfl) (by rfl) ?_); clear hS; (try clear w); intro w hS
            refine L_nil ?_
            refine n_then ?_
            refine c_seq ?_
            refine c_region ?_
            refine L_op (s_e hS (e_build ty_z47 ty_pl47 .nil) rfl ?_); clear hS a; intro a hS
            refine L_op (s_alloc hS ty_z47 rfl ?_); clear hS a; (try clear w); intro a w b19 hS
            refine L_op (s_storeA hS rfl rfl ty_sz47 (by repeat (first | apply Rep.head | apply Rep.tail)) (by rfl) (by rfl) (by rfl) ?_); clear hS; (try clear w); intro w hS
            refine L_nil ?_
            refine n_then ?_
            refine c_seq ?_
            refine c_region ?_
            refine L_op (s_e hS (e_build ty_z47 ty_pl47 .nil) rfl ?_); clear hS a; intro a hS
            refine L_op (s_alloc hS ty_z47 rfl ?_); clear hS a; (try clear w); intro a w b20 hS
            refine L_op (s_storeA hS rfl rfl ty_sz47 (by repeat (first | apply Rep.head | apply Rep.tail)) (by rfl) (by rfl) (by rfl) ?_); clear hS; (try clear w); intro w hS
            refine L_nil ?_
            refine n_then ?_
            refine c_seq ?_
            refine c_seq ?_
            refine c_region ?_
            refine L_op (s_e hS (e_assign rfl) rfl ?_); clear hS a; intro a hS
            refine L_nil ?_
            refine n_then ?_
            refine wp_block ?_
            replace hS := hS.swap (X := .blk b20 [.bool false, .slice none 0 0] 47) (Y := .blk b20 [.bool (decide (sumT (x.v.lines.take 0) < 0)), sliceV none (dgs (sumT (x.v.lines.take 0)).natAbs).length 0] 47) (by repeat (first | apply Rep.head | apply Rep.tail)) (by rw [show sumT (x.v.lines.take 0) = 0 from rfl, show (dgs ((0 : Int)).natAbs).length = 0 by rw [show ((0 : Int)).natAbs = 0 from rfl, dgs_zero]; rfl]; exact hS.ok (.blk b20 [.bool false, .slice none 0 0] 47) (by repeat (first | exact .head _ | refine .tail _ ?_))) (fun _ hb => hb) rfl
            replace hS := hS.swap (X := .blk b19 [.bool false, .slice none 0 0] 47) (Y := .blk b19 [.bool (decide (sumN (x.v.lines.take 0) < 0)), sliceV none (dgs (sumN (x.v.lines.take 0)).natAbs).length 0] 47) (by repeat (first | apply Rep.head | apply Rep.tail)) (by rw [show sumN (x.v.lines.take 0) = 0 from rfl, show (dgs ((0 : Int)).natAbs).length = 0 by rw [show ((0 : Int)).natAbs = 0 from rfl, dgs_zero]; rfl]; exact hS.ok (.blk b19 [.bool false, .slice none 0 0] 47) (by repeat (first | exact .head _ | refine .tail _ ?_))) (fun _ hb => hb) rfl
            replace hS := (hS.more (Y := bigP (sumN (x.v.lines.take 0)).natAbs none) bigP0 (fun b hb => by obtain ⟨off, e⟩ := hb; cases e))
            replace hS := (hS.more (Y := bigP (sumT (x.v.lines.take 0)).natAbs none) bigP0 (fun b hb => by obtain ⟨off, e⟩ := hb; cases e))
            refine c_loop (γ := Nat) (fun j a w => ∃ (p1 p2 : Option (Nat × Nat)) (c3 c4 : Nat), St 372 noB w0 a w [(21, .int .i64 (j : Int)), (18, .pointer (some ⟨b18, 0, none⟩)), (19, .pointer (some ⟨b19, 0, none⟩)), (20, .pointer (some ⟨b20, 0, none⟩)), (17, .int .i64 (k : Int)), (16, .slice (some ⟨g, 0, none⟩) now.length nc), (8, .bool bad), (6, .int .i64 (i : Int)), (0, sliceV (some (b, off)) l.length c), (5, .pointer (some ⟨x30, 0, none⟩)), (7, .slice wa was.length wc)] [.blk b19 [.bool (decide (sumN (x.v.lines.take j) < 0)), sliceV p1 (dgs (sumN (x.v.lines.take j)).natAbs).length c3] 47, .blk b20 [.bool (decide (sumT (x.v.lines.take j) < 0)), sliceV p2 (dgs (sumT (x.v.lines.take j)).natAbs).length c4] 47, bigP (sumN (x.v.lines.take j)).natAbs p1, bigP (sumT (x.v.lines.take j)).natAbs p2, .blk b18 (encA x) 34, invsA (.slice (some ⟨g, 0, none⟩) now.length nc) now true, bookA x30 sv2 its2 true, invsA (.slice wa was.length wc) was true, opsA (some (b, off)) l] ∧ j ≤ x.v.lines.length) (fun j => x.v.lines.length - j) 0 ⟨none, none, 0, 0, (hS.pick (by repeat (first | exact Pick.nil | (refine Pick.cons (by repeat (first | exact Rem.head | apply Rem.tail)) ?_)))).slots (by repeat (first | exact trivial | refine ⟨rfl, ?_⟩)), Nat.zero_le _⟩ ?_
            clear hS a; (try clear w); intro j a w hI
            obtain ⟨p1, p2, c3, c4, hS, hj⟩ := hI
            refine c_seq ?_
            refine c_seq ?_
            refine c_region ?_
            refine L_op (s_e hS (e_move rfl) rfl ?_); clear hS a; intro a hS
            first | (refine L_op (s_e hS (e_fa0 rfl ty_fo34_6) rfl ?_); clear hS a; intro a hS) | (refine L_op (s_e hS (e_faK rfl ty_fo34_6) rfl ?_); clear hS a; intro a hS)
            refine L_op (s_e hS (e_load rfl (by repeat (first | exact .head _ | refine .tail _ ?_)) ty_sc22 (by rfl)) rfl ?_); clear hS a; intro a hS
            refine L_op (s_e hS (e_len rfl rfl ty_sl22) rfl ?_); clear hS a; intro a hS
            refine L_op (s_e hS (e_bin rfl rfl rfl) rfl ?_); clear hS a; intro a hS
            refine L_nil ?_
            refine n_then ?_
            first | refine c_ifD hS rfl (fun hc151 => ?_) (fun hc151 => ?_) | refine c_if hS rfl (fun hc151 => ?_) (fun hc151 => ?_)
            ·
              obtain ⟨y, hy⟩ : ∃ y, x.v.lines[j]? = some y := ⟨x.v.lines[j]'(by omega), List.getElem?_eq_getElem (by omega)⟩
              have hyf := fits_get q10 hy
              have en := sumN_take x.v.lines j y hy
              have et := sumT_take x.v.lines j y hy
              have hj1 := h20 j
              have hy1 := hyf.2.2.1
              have hy2 := hyf.2.2.2
              refine wp_skip ?_
              refine n_then ?_
              refine c_seq ?_
              refine wp_block ?_
              refine c_seq ?_
              refine c_drawS [9] (by kernel_rfl) hS (sub_cons (X := .blk b18 _ _) (by repeat (first | exact .head _ | refine .tail _ ?_)) (sub_cons (X := .blk b19 _ _) (by repeat (first | exact .head _ | refine .tail _ ?_)) (sub_cons (X := invsA (.slice (some ⟨g, 0, none⟩) now.length nc) now true) (by repeat (first | exact .head _ | refine .tail _ ?_)) sub_nil))) ?_; clear hS; (try clear w); intro w hS
              simp only [List.length_cons, List.length_nil, Nat.zero_add, Nat.reduceAdd, List.replicate]
              refine Z_take (i := 0) hS rfl want_none (e_loadA rfl (by repeat (first | exact .head _ | refine .tail _ ?_)) ty_st47 ty_sz47 (by rfl)) (listed' := [true, false, false, false, false, false, false, false, false, false]) rfl (by kernel_rfl) (by kernel_rfl) (by kernel_rfl) (by kernel_rfl) (by kernel_rfl) (sub_cons (by repeat (first | exact .head _ | refine .tail _ ?_)) (sub_cons (by repeat (first | exact .head _ | refine .tail _ ?_)) (sub_cons (by repeat (first | exact .head _ | refine .tail _ ?_)) sub_nil))) (fun _ _ _ h => h) rfl ?_; clear hS a; intro a hS
              first | (refine Z_take0 (i := 1) hS rfl want_none (e_fa0 rfl ty_fo34_6) (listed' := [true, true, false, false, false, false, false, false, false, false]) rfl (by kernel_rfl) (by kernel_rfl) (by kernel_rfl) (fun _ _ _ h => h) rfl ?_; clear hS a; intro a hS) | (refine Z_take0 (i := 1) hS rfl want_none (e_faK rfl ty_fo34_6) (listed' := [true, true, false, false, false, false, false, false, false, false]) rfl (by kernel_rfl) (by kernel_rfl) (by kernel_rfl) (fun _ _ _ h => h) rfl ?_; clear hS a; intro a hS)
              refine Z_take (i := 2) hS rfl want_none (e_load rfl (by repeat (first | exact .head _ | refine .tail _ ?_)) ty_sc22 (by rfl)) (listed' := [true, true, true, false, false, false, false, false, false, false]) rfl (by kernel_rfl) (by kernel_rfl) (by kernel_rfl) (by kernel_rfl) (by kernel_rfl) (sub_cons (by repeat (first | exact .head _ | refine .tail _ ?_)) (sub_cons (by repeat (first | exact .head _ | refine .tail _ ?_)) (sub_cons (by repeat (first | exact .head _ | refine .tail _ ?_)) sub_nil))) (fun _ _ _ h => h) rfl ?_; clear hS a; intro a hS
              refine Z_take0 (i := 3) hS rfl want_none (e_move rfl) (listed' := [true, true, true, true, false, false, false, false, false, false]) rfl (by kernel_rfl) (by kernel_rfl) (by kernel_rfl) (fun _ _ _ h => h) rfl ?_; clear hS a; intro a hS
              refine Z_take0 (i := 4) hS rfl want_none (e_ixN rfl rfl ty_sl22 ty_sz26 (by omega)) (listed' := [true, true, true, true, true, false, false, false, false, false]) rfl (by kernel_rfl) (by kernel_rfl) (by kernel_rfl) (fun _ _ _ h => h) rfl ?_; clear hS a; intro a hS
              first | (refine Z_take0 (i := 5) hS rfl want_none (e_fa0 rfl ty_fo26_2) (listed' := [true, true, true, true, true, true, false, false, false, false]) rfl (by kernel_rfl) (by kernel_rfl) (by kernel_rfl) (fun _ _ _ h => h) rfl ?_; clear hS a; intro a hS) | (refine Z_take0 (i := 5) hS rfl want_none (e_faK rfl ty_fo26_2) (listed' := [true, true, true, true, true, true, false, false, false, false]) rfl (by kernel_rfl) (by kernel_rfl) (by kernel_rfl) (fun _ _ _ h => h) rfl ?_; clear hS a; intro a hS)
              refine Z_take (i := 6) hS rfl want_none (e_loadC rfl ty_sc3 (fun w hh => inv_line (by repeat (first | exact .head _ | refine .tail _ ?_)) hxm hy w hh 2 (.int .i64 y.net) rfl)) (listed' := [true, true, true, true, true, true, true, false, false, false]) rfl (by kernel_rfl) (by kernel_rfl) (by kernel_rfl) (by kernel_rfl) (by kernel_rfl) (sub_cons (by repeat (first | exact .head _ | refine .tail _ ?_)) (sub_cons (by repeat (first | exact .head _ | refine .tail _ ?_)) (sub_cons (by repeat (first | exact .head _ | refine .tail _ ?_)) sub_nil))) (fun _ _ _ h => h) rfl ?_; clear hS a; intro a hS
              refine Z_one (i := 7) rfl (want_none a hS.sl) (listed' := [true, true, true, true, true, true, true, true, false, false]) rfl (by kernel_rfl) (s_callN hS (.cons rfl .nil) cf24 rfl (BigOf_P y.net (by omega) _) ?_); clear hS a; (try clear w); intro x161 a w hS
              refine Z_and hS (sub_cons (by repeat (first | exact .head _ | refine .tail _ ?_)) (sub_cons (by repeat (first | exact .head _ | refine .tail _ ?_)) (sub_cons (by repeat (first | exact .head _ | refine .tail _ ?_)) sub_nil))) ?_
              have hA := BigAdd_P p1 (some (x161.1.1, 0)) c3 x161.1.2 (sumN (x.v.lines.take j)) y.net 20 (by decide) hj1.1 (len20 (by omega)) _ (two_ok (hS.get (X := bigP (sumN (x.v.lines.take j)).natAbs p1) (by repeat (first | exact .head _ | refine .tail _ ?_))) (hS.get (X := bigA y.net x161.1.1) (by repeat (first | exact .head _ | refine .tail _ ?_))) (fun r e => (hS.ok (bigP (sumN (x.v.lines.take j)).natAbs p1) (by repeat (first | exact .head _ | refine .tail _ ?_))).lt r.1 ⟨r.2, e⟩) (fun r e => by cases e; exact (hS.ok (bigA y.net x161.1.1) (by repeat (first | exact .head _ | refine .tail _ ?_))).lt _ rfl))
              rw [← en] at hA
              refine Z_one (i := 8) rfl (want_none a hS.sl) (listed' := [true, true, true, true, true, true, true, true, true, false]) rfl (by kernel_rfl) (s_callN hS (.cons rfl (.cons rfl .nil)) cf23 rfl (hA) ?_); clear hS a; (try clear w); intro x162 a w hS
              clear hA
              refine Z_and hS (sub_cons (by repeat (first | exact .head _ | refine .tail _ ?_)) (sub_cons (by repeat (first | exact .head _ | refine .tail _ ?_)) (sub_cons (by repeat (first | exact .head _ | refine .tail _ ?_)) sub_nil))) ?_
              refine Z_one (i := 9) rfl (want_none a hS.sl) (listed' := [true, true, true, true, true, true, true, true, true, true]) rfl (by kernel_rfl) (s_storeA hS rfl rfl ty_sz47 (by repeat (first | apply Rep.head | apply Rep.tail)) (by rfl) (by rfl) (by rfl) ?_); clear hS; (try clear w); intro w hS
              refine Z_last (by simp) ?_
              refine Z_done (by kernel_rfl) ?_
              refine n_then ?_
              refine c_drawS [9] (by kernel_rfl) hS (sub_cons (X := .blk b18 _ _) (by repeat (first | exact .head _ | refine .tail _ ?_)) (sub_cons (X := .blk b20 _ _) (by repeat (first | exact .head _ | refine .tail _ ?_)) (sub_cons (X := invsA (.slice (some ⟨g, 0, none⟩) now.length nc) now true) (by repeat (first | exact .head _ | refine .tail _ ?_)) sub_nil))) ?_; clear hS; (try clear w); intro w hS
              simp only [List.length_cons, List.length_nil, Nat.zero_add, Nat.reduceAdd, List.replicate]
              refine Z_take (i := 0) hS rfl want_none (e_loadA rfl (by repeat (first | exact .head _ | refine .tail _ ?_)) ty_st47 ty_sz47 (by rfl)) (listed' := [true, false, false, false, false, false, false, false, false, false]) rfl (by kernel_rfl) (by kernel_rfl) (by kernel_rfl) (by kernel_rfl) (by kernel_rfl) (sub_cons (by repeat (first | exact .head _ | refine .tail _ ?_)) (sub_cons (by repeat (first | exact .head _ | refine .tail _ ?_)) (sub_cons (by repeat (first | exact .head _ | refine .tail _ ?_)) sub_nil))) (fun _ _ _ h => h) rfl ?_; clear hS a; intro a hS
              first | (refine Z_take0 (i := 1) hS rfl want_none (e_fa0 rfl ty_fo34_6) (listed' := [true, true, false, false, false, false, false, false, false, false]) rfl (by kernel_rfl) (by kernel_rfl) (by kernel_rfl) (fun _ _ _ h => h) rfl ?_; clear hS a; intro a hS) | (refine Z_take0 (i := 1) hS rfl want_none (e_faK rfl ty_fo34_6) (listed' := [true, true, false, false, false, false, false, false, false, false]) rfl (by kernel_rfl) (by kernel_rfl) (by kernel_rfl) (fun _ _ _ h => h) rfl ?_; clear hS a; intro a hS)
              refine Z_take (i := 2) hS rfl want_none (e_load rfl (by repeat (first | exact .head _ | refine .tail _ ?_)) ty_sc22 (by rfl)) (listed' := [true, true, true, false, false, false, false, false, false, false]) rfl (by kernel_rfl) (by kernel_rfl) (by kernel_rfl) (by kernel_rfl) (by kernel_rfl) (sub_cons (by repeat (first | exact .head _ | refine .tail _ ?_)) (sub_cons (by repeat (first | exact .head _ | refine .tail _ ?_)) (sub_cons (by repeat (first | exact .head _ | refine .tail _ ?_)) sub_nil))) (fun _ _ _ h => h) rfl ?_; clear hS a; intro a hS
              refine Z_take0 (i := 3) hS rfl want_none (e_move rfl) (listed' := [true, true, true, true, false, false, false, false, false, false]) rfl (by kernel_rfl) (by kernel_rfl) (by kernel_rfl) (fun _ _ _ h => h) rfl ?_; clear hS a; intro a hS
              refine Z_take0 (i := 4) hS rfl want_none (e_ixN rfl rfl ty_sl22 ty_sz26 (by omega)) (listed' := [true, true, true, true, true, false, false, false, false, false]) rfl (by kernel_rfl) (by kernel_rfl) (by kernel_rfl) (fun _ _ _ h => h) rfl ?_; clear hS a; intro a hS
              first | (refine Z_take0 (i := 5) hS rfl want_none (e_fa0 rfl ty_fo26_3) (listed' := [true, true, true, true, true, true, false, false, false, false]) rfl (by kernel_rfl) (by kernel_rfl) (by kernel_rfl) (fun _ _ _ h => h) rfl ?_; clear hS a; intro a hS) | (refine Z_take0 (i := 5) hS rfl want_none (e_faK rfl ty_fo26_3) (listed' := [true, true, true, true, true, true, false, false, false, false]) rfl (by kernel_rfl) (by kernel_rfl) (by kernel_rfl) (fun _ _ _ h => h) rfl ?_; clear hS a; intro a hS)
              refine Z_take (i := 6) hS rfl want_none (e_loadC rfl ty_sc3 (fun w hh => inv_line (by repeat (first | exact .head _ | refine .tail _ ?_)) hxm hy w hh 3 (.int .i64 y.tax) rfl)) (listed' := [true, true, true, true, true, true, true, false, false, false]) rfl (by kernel_rfl) (by kernel_rfl) (by kernel_rfl) (by kernel_rfl) (by kernel_rfl) (sub_cons (by repeat (first | exact .head _ | refine .tail _ ?_)) (sub_cons (by repeat (first | exact .head _ | refine .tail _ ?_)) (sub_cons (by repeat (first | exact .head _ | refine .tail _ ?_)) sub_nil))) (fun _ _ _ h => h) rfl ?_; clear hS a; intro a hS
              refine Z_one (i := 7) rfl (want_none a hS.sl) (listed' := [true, true, true, true, true, true, true, true, false, false]) rfl (by kernel_rfl) (s_callN hS (.cons rfl .nil) cf24 rfl (BigOf_P y.tax (by omega) _) ?_); clear hS a; (try clear w); intro x170 a w hS
              refine Z_and hS (sub_cons (by repeat (first | exact .head _ | refine .tail _ ?_)) (sub_cons (by repeat (first | exact .head _ | refine .tail _ ?_)) (sub_cons (by repeat (first | exact .head _ | refine .tail _ ?_)) sub_nil))) ?_
              have hA := BigAdd_P p2 (some (x170.1.1, 0)) c4 x170.1.2 (sumT (x.v.lines.take j)) y.tax 20 (by decide) hj1.2 (len20 (by omega)) _ (two_ok (hS.get (X := bigP (sumT (x.v.lines.take j)).natAbs p2) (by repeat (first | exact .head _ | refine .tail _ ?_))) (hS.get (X := bigA y.tax x170.1.1) (by repeat (first | exact .head _ | refine .tail _ ?_))) (fun r e => (hS.ok (bigP (sumT (x.v.lines.take j)).natAbs p2) (by repeat (first | exact .head _ | refine .tail _ ?_))).lt r.1 ⟨r.2, e⟩) (fun r e => by cases e; exact (hS.ok (bigA y.tax x170.1.1) (by repeat (first | exact .head _ | refine .tail _ ?_))).lt _ rfl))
              rw [← et] at hA
              refine Z_one (i := 8) rfl (want_none a hS.sl) (listed' := [true, true, true, true, true, true, true, true, true, false]) rfl (by kernel_rfl) (s_callN hS (.cons rfl (.cons rfl .nil)) cf23 rfl (hA) ?_); clear hS a; (try clear w); intro x171 a w hS
              clear hA
              refine Z_and hS (sub_cons (by repeat (first | exact .head _ | refine .tail _ ?_)) (sub_cons (by repeat (first | exact .head _ | refine .tail _ ?_)) (sub_cons (by repeat (first | exact .head _ | refine .tail _ ?_)) sub_nil))) ?_
              refine Z_one (i := 9) rfl (want_none a hS.sl) (listed' := [true, true, true, true, true, true, true, true, true, true]) rfl (by kernel_rfl) (s_storeA hS rfl rfl ty_sz47 (by repeat (first | apply Rep.head | apply Rep.tail)) (by rfl) (by rfl) (by rfl) ?_); clear hS; (try clear w); intro w hS
              refine Z_last (by simp) ?_
              refine Z_done (by kernel_rfl) ?_
              refine n_block ?_
              refine n_then ?_
              refine c_region ?_
              refine L_op (s_e hS (e_move rfl) rfl ?_); clear hS a; intro a hS
              first | (refine L_op (s_e hS (e_binN rfl rfl rfl (by omega)) rfl ?_); clear hS a; intro a hS) | (refine L_op (s_e hS (e_bin rfl rfl rfl) rfl ?_); clear hS a; intro a hS)
              refine L_op (s_e hS (e_assign rfl) rfl ?_); clear hS a; intro a hS
              refine L_nil ?_
              replace hS := hS.swap (X := bigA (sumN (x.v.lines.take (j + 1))) x162.1.1) (Y := bigP (sumN (x.v.lines.take (j + 1))).natAbs (some (x162.1.1, 0))) (by repeat (first | apply Rep.head | apply Rep.tail)) (bigP_of (hS.ok (bigA (sumN (x.v.lines.take (j + 1))) x162.1.1) (by repeat (first | exact .head _ | refine .tail _ ?_)))) (fun b hb => by obtain ⟨off, e⟩ := hb; cases e; rfl) rfl
              replace hS := hS.swap (X := bigA (sumT (x.v.lines.take (j + 1))) x171.1.1) (Y := bigP (sumT (x.v.lines.take (j + 1))).natAbs (some (x171.1.1, 0))) (by repeat (first | apply Rep.head | apply Rep.tail)) (bigP_of (hS.ok (bigA (sumT (x.v.lines.take (j + 1))) x171.1.1) (by repeat (first | exact .head _ | refine .tail _ ?_)))) (fun b hb => by obtain ⟨off, e⟩ := hb; cases e; rfl) rfl
              exact ⟨j + 1, by omega, some (x162.1.1, 0), some (x171.1.1, 0), x162.1.2, x171.1.2, (hS.pick (by repeat (first | exact Pick.nil | (refine Pick.cons (by repeat (first | exact Rem.head | apply Rem.tail)) ?_)))).slots (by repeat (first | exact trivial | refine ⟨rfl, ?_⟩)), by omega⟩
            ·
              obtain rfl : j = x.v.lines.length := by omega
              rw [hsf.1, hsf.2] at hS
              have hj1 := h20 x.v.lines.length
              rw [hsf.1, hsf.2] at hj1
              refine wp_exit ?_
              refine x_then (x_then (x_hit ?_))
              refine n_then ?_
              refine c_seq ?_
              refine c_drawS [] (by kernel_rfl) hS (sub_cons (X := .blk b18 _ _) (by repeat (first | exact .head _ | refine .tail _ ?_)) (sub_cons (X := .blk b19 _ _) (by repeat (first | exact .head _ | refine .tail _ ?_)) (sub_cons (X := .blk b20 _ _) (by repeat (first | exact .head _ | refine .tail _ ?_)) sub_nil))) ?_; clear hS; (try clear w); intro w hS
              simp only [List.length_cons, List.length_nil, Nat.zero_add, Nat.reduceAdd, List.replicate]
              refine Z_take (i := 0) hS rfl want_none (e_loadA rfl (by repeat (first | exact .head _ | refine .tail _ ?_)) ty_st47 ty_sz47 (by rfl)) (listed' := [true, false, false, false, false, false, false, false, false, false, false, false, false, false, false, false, false, false, false, false, false, false, false, false, false]) rfl (by kernel_rfl) (by kernel_rfl) (by kernel_rfl) (by kernel_rfl) (by kernel_rfl) (sub_cons (by repeat (first | exact .head _ | refine .tail _ ?_)) (sub_cons (by repeat (first | exact .head _ | refine .tail _ ?_)) (sub_cons (by repeat (first | exact .head _ | refine .tail _ ?_)) sub_nil))) (fun _ _ _ h => h) rfl ?_; clear hS a; intro a hS
              first | (refine Z_take0 (i := 1) hS rfl want_none (e_fa0 rfl ty_fo34_7) (listed' := [true, true, false, false, false, false, false, false, false, false, false, false, false, false, false, false, false, false, false, false, false, false, false, false, false]) rfl (by kernel_rfl) (by kernel_rfl) (by kernel_rfl) (fun _ _ _ h => h) rfl ?_; clear hS a; intro a hS) | (refine Z_take0 (i := 1) hS rfl want_none (e_faK rfl ty_fo34_7) (listed' := [true, true, false, false, false, false, false, false, false, false, false, false, false, false, false, false, false, false, false, false, false, false, false, false, false]) rfl (by kernel_rfl) (by kernel_rfl) (by kernel_rfl) (fun _ _ _ h => h) rfl ?_; clear hS a; intro a hS)
              refine Z_take (i := 2) hS rfl want_none (e_load rfl (by repeat (first | exact .head _ | refine .tail _ ?_)) ty_sc3 (by rfl)) (listed' := [true, true, true, false, false, false, false, false, false, false, false, false, false, false, false, false, false, false, false, false, false, false, false, false, false]) rfl (by kernel_rfl) (by kernel_rfl) (by kernel_rfl) (by kernel_rfl) (by kernel_rfl) (sub_cons (by repeat (first | exact .head _ | refine .tail _ ?_)) (sub_cons (by repeat (first | exact .head _ | refine .tail _ ?_)) (sub_cons (by repeat (first | exact .head _ | refine .tail _ ?_)) sub_nil))) (fun _ _ _ h => h) rfl ?_; clear hS a; intro a hS
              refine Z_one (i := 3) rfl (want_none a hS.sl) (listed' := [true, true, true, true, false, false, false, false, false, false, false, false, false, false, false, false, false, false, false, false, false, false, false, false, false]) rfl (by kernel_rfl) (s_callN hS (.cons rfl .nil) cf24 rfl (BigOf_P x.v.net (by omega) _) ?_); clear hS a; (try clear w); intro x175 a w hS
              refine Z_and hS (sub_cons (by repeat (first | exact .head _ | refine .tail _ ?_)) (sub_cons (by repeat (first | exact .head _ | refine .tail _ ?_)) (sub_cons (by repeat (first | exact .head _ | refine .tail _ ?_)) sub_nil))) ?_
              refine Z_one (i := 4) rfl (want_none a hS.sl) (listed' := [true, true, true, true, true, false, false, false, false, false, false, false, false, false, false, false, false, false, false, false, false, false, false, false, false]) rfl (by kernel_rfl) (s_callP hS (.cons rfl (.cons rfl .nil)) cf25 rfl (BigCmp_P p1 (some (x175.1.1, 0)) c3 x175.1.2 x.v.net x.v.net (by omega) _ (two_ok (hS.get (X := bigP x.v.net.natAbs p1) (by repeat (first | exact .head _ | refine .tail _ ?_))) (hS.get (X := bigA x.v.net x175.1.1) (by repeat (first | exact .head _ | refine .tail _ ?_))) (fun r e => (hS.ok (bigP x.v.net.natAbs p1) (by repeat (first | exact .head _ | refine .tail _ ?_))).lt r.1 ⟨r.2, e⟩) (fun r e => by cases e; exact (hS.ok (bigA x.v.net x175.1.1) (by repeat (first | exact .head _ | refine .tail _ ?_))).lt _ rfl))) ?_); clear hS a; (try clear w); intro a w hS
              refine Z_and hS (sub_cons (by repeat (first | exact .head _ | refine .tail _ ?_)) (sub_cons (by repeat (first | exact .head _ | refine .tail _ ?_)) (sub_cons (by repeat (first | exact .head _ | refine .tail _ ?_)) sub_nil))) ?_
              refine Z_take0 (i := 5) hS rfl want_none (e_bin rfl rfl rfl) (listed' := [true, true, true, true, true, true, false, false, false, false, false, false, false, false, false, false, false, false, false, false, false, false, false, false, false]) rfl (by kernel_rfl) (by kernel_rfl) (by kernel_rfl) (fun _ _ _ h => h) rfl ?_; clear hS a; intro a hS
              refine Z_take0 (i := 6) hS rfl want_none (e_move rfl) (listed' := [true, true, true, true, true, true, true, false, false, false, false, false, false, false, false, false, false, false, false, false, false, false, false, false, false]) rfl (by kernel_rfl) (by kernel_rfl) (by kernel_rfl) (fun _ _ _ h => h) rfl ?_; clear hS a; intro a hS
              replace hS := hS.is (t := 178) (c := true) rfl ((decide_eq_true (cmpZ_eq.2 rfl)))
              refine Z_take (i := 7) hS rfl (want_go rfl rfl) (e_loadA rfl (by repeat (first | exact .head _ | refine .tail _ ?_)) ty_st47 ty_sz47 (by rfl)) (listed' := [true, true, true, true, true, true, true, true, false, false, false, false, false, false, false, false, false, false, false, false, false, false, false, false, false]) rfl (by kernel_rfl) (by kernel_rfl) (by kernel_rfl) (by kernel_rfl) (by kernel_rfl) (sub_cons (by repeat (first | exact .head _ | refine .tail _ ?_)) (sub_cons (by repeat (first | exact .head _ | refine .tail _ ?_)) (sub_cons (by repeat (first | exact .head _ | refine .tail _ ?_)) sub_nil))) (fun _ _ _ h => h) rfl ?_; clear hS a; intro a hS
              first | (refine Z_take0 (i := 8) hS rfl (want_go rfl rfl) (e_fa0 rfl ty_fo34_8) (listed' := [true, true, true, true, true, true, true, true, true, false, false, false, false, false, false, false, false, false, false, false, false, false, false, false, false]) rfl (by kernel_rfl) (by kernel_rfl) (by kernel_rfl) (fun _ _ _ h => h) rfl ?_; clear hS a; intro a hS) | (refine Z_take0 (i := 8) hS rfl (want_go rfl rfl) (e_faK rfl ty_fo34_8) (listed' := [true, true, true, true, true, true, true, true, true, false, false, false, false, false, false, false, false, false, false, false, false, false, false, false, false]) rfl (by kernel_rfl) (by kernel_rfl) (by kernel_rfl) (fun _ _ _ h => h) rfl ?_; clear hS a; intro a hS)
              refine Z_take (i := 9) hS rfl (want_go rfl rfl) (e_load rfl (by repeat (first | exact .head _ | refine .tail _ ?_)) ty_sc3 (by rfl)) (listed' := [true, true, true, true, true, true, true, true, true, true, false, false, false, false, false, false, false, false, false, false, false, false, false, false, false]) rfl (by kernel_rfl) (by kernel_rfl) (by kernel_rfl) (by kernel_rfl) (by kernel_rfl) (sub_cons (by repeat (first | exact .head _ | refine .tail _ ?_)) (sub_cons (by repeat (first | exact .head _ | refine .tail _ ?_)) (sub_cons (by repeat (first | exact .head _ | refine .tail _ ?_)) sub_nil))) (fun _ _ _ h => h) rfl ?_; clear hS a; intro a hS
              refine Z_one (i := 10) rfl (want_go rfl rfl a hS.sl) (listed' := [true, true, true, true, true, true, true, true, true, true, true, false, false, false, false, false, false, false, false, false, false, false, false, false, false]) rfl (by kernel_rfl) (s_callN hS (.cons rfl .nil) cf24 rfl (BigOf_P x.v.tax (by omega) _) ?_); clear hS a; (try clear w); intro x182 a w hS
              refine Z_and hS (sub_cons (by repeat (first | exact .head _ | refine .tail _ ?_)) (sub_cons (by repeat (first | exact .head _ | refine .tail _ ?_)) (sub_cons (by repeat (first | exact .head _ | refine .tail _ ?_)) sub_nil))) ?_
              refine Z_one (i := 11) rfl (want_go rfl rfl a hS.sl) (listed' := [true, true, true, true, true, true, true, true, true, true, true, true, false, false, false, false, false, false, false, false, false, false, false, false, false]) rfl (by kernel_rfl) (s_callP hS (.cons rfl (.cons rfl .nil)) cf25 rfl (BigCmp_P p2 (some (x182.1.1, 0)) c4 x182.1.2 x.v.tax x.v.tax (by omega) _ (two_ok (hS.get (X := bigP x.v.tax.natAbs p2) (by repeat (first | exact .head _ | refine .tail _ ?_))) (hS.get (X := bigA x.v.tax x182.1.1) (by repeat (first | exact .head _ | refine .tail _ ?_))) (fun r e => (hS.ok (bigP x.v.tax.natAbs p2) (by repeat (first | exact .head _ | refine .tail _ ?_))).lt r.1 ⟨r.2, e⟩) (fun r e => by cases e; exact (hS.ok (bigA x.v.tax x182.1.1) (by repeat (first | exact .head _ | refine .tail _ ?_))).lt _ rfl))) ?_); clear hS a; (try clear w); intro a w hS
              refine Z_and hS (sub_cons (by repeat (first | exact .head _ | refine .tail _ ?_)) (sub_cons (by repeat (first | exact .head _ | refine .tail _ ?_)) (sub_cons (by repeat (first | exact .head _ | refine .tail _ ?_)) sub_nil))) ?_
              refine Z_take0 (i := 12) hS rfl (want_go rfl rfl) (e_bin rfl rfl rfl) (listed' := [true, true, true, true, true, true, true, true, true, true, true, true, true, false, false, false, false, false, false, false, false, false, false, false, false]) rfl (by kernel_rfl) (by kernel_rfl) (by kernel_rfl) (fun _ _ _ h => h) rfl ?_; clear hS a; intro a hS
              first | (refine Z_take0 (i := 13) hS rfl want_none (e_pick_t rfl rfl) (listed' := [true, true, true, true, true, true, true, true, true, true, true, true, true, true, false, false, false, false, false, false, false, false, false, false, false]) rfl (by kernel_rfl) (by kernel_rfl) (by kernel_rfl) (fun _ _ _ h => h) rfl ?_; clear hS a; intro a hS) | (refine Z_take0 (i := 13) hS rfl want_none (e_pick_f rfl rfl) (listed' := [true, true, true, true, true, true, true, true, true, true, true, true, true, true, false, false, false, false, false, false, false, false, false, false, false]) rfl (by kernel_rfl) (by kernel_rfl) (by kernel_rfl) (fun _ _ _ h => h) rfl ?_; clear hS a; intro a hS)
              refine Z_take0 (i := 14) hS rfl want_none (e_move rfl) (listed' := [true, true, true, true, true, true, true, true, true, true, true, true, true, true, true, false, false, false, false, false, false, false, false, false, false]) rfl (by kernel_rfl) (by kernel_rfl) (by kernel_rfl) (fun _ _ _ h => h) rfl ?_; clear hS a; intro a hS
              replace hS := hS.is (t := 186) (c := true) rfl ((decide_eq_true (cmpZ_eq.2 rfl)))
              first | (refine Z_take0 (i := 15) hS rfl (want_go rfl rfl) (e_fa0 rfl ty_fo34_9) (listed' := [true, true, true, true, true, true, true, true, true, true, true, true, true, true, true, true, false, false, false, false, false, false, false, false, false]) rfl (by kernel_rfl) (by kernel_rfl) (by kernel_rfl) (fun _ _ _ h => h) rfl ?_; clear hS a; intro a hS) | (refine Z_take0 (i := 15) hS rfl (want_go rfl rfl) (e_faK rfl ty_fo34_9) (listed' := [true, true, true, true, true, true, true, true, true, true, true, true, true, true, true, true, false, false, false, false, false, false, false, false, false]) rfl (by kernel_rfl) (by kernel_rfl) (by kernel_rfl) (fun _ _ _ h => h) rfl ?_; clear hS a; intro a hS)
              refine Z_take (i := 16) hS rfl (want_go rfl rfl) (e_load rfl (by repeat (first | exact .head _ | refine .tail _ ?_)) ty_sc3 (by rfl)) (listed' := [true, true, true, true, true, true, true, true, true, true, true, true, true, true, true, true, true, false, false, false, false, false, false, false, false]) rfl (by kernel_rfl) (by kernel_rfl) (by kernel_rfl) (by kernel_rfl) (by kernel_rfl) (sub_cons (by repeat (first | exact .head _ | refine .tail _ ?_)) (sub_cons (by repeat (first | exact .head _ | refine .tail _ ?_)) (sub_cons (by repeat (first | exact .head _ | refine .tail _ ?_)) sub_nil))) (fun _ _ _ h => h) rfl ?_; clear hS a; intro a hS
              first | (refine Z_take0 (i := 17) hS rfl (want_go rfl rfl) (e_fa0 rfl ty_fo34_7) (listed' := [true, true, true, true, true, true, true, true, true, true, true, true, true, true, true, true, true, true, false, false, false, false, false, false, false]) rfl (by kernel_rfl) (by kernel_rfl) (by kernel_rfl) (fun _ _ _ h => h) rfl ?_; clear hS a; intro a hS) | (refine Z_take0 (i := 17) hS rfl (want_go rfl rfl) (e_faK rfl ty_fo34_7) (listed' := [true, true, true, true, true, true, true, true, true, true, true, true, true, true, true, true, true, true, false, false, false, false, false, false, false]) rfl (by kernel_rfl) (by kernel_rfl) (by kernel_rfl) (fun _ _ _ h => h) rfl ?_; clear hS a; intro a hS)
              refine Z_take (i := 18) hS rfl (want_go rfl rfl) (e_load rfl (by repeat (first | exact .head _ | refine .tail _ ?_)) ty_sc3 (by rfl)) (listed' := [true, true, true, true, true, true, true, true, true, true, true, true, true, true, true, true, true, true, true, false, false, false, false, false, false]) rfl (by kernel_rfl) (by kernel_rfl) (by kernel_rfl) (by kernel_rfl) (by kernel_rfl) (sub_cons (by repeat (first | exact .head _ | refine .tail _ ?_)) (sub_cons (by repeat (first | exact .head _ | refine .tail _ ?_)) (sub_cons (by repeat (first | exact .head _ | refine .tail _ ?_)) sub_nil))) (fun _ _ _ h => h) rfl ?_; clear hS a; intro a hS
              first | (refine Z_take0 (i := 19) hS rfl (want_go rfl rfl) (e_fa0 rfl ty_fo34_8) (listed' := [true, true, true, true, true, true, true, true, true, true, true, true, true, true, true, true, true, true, true, true, false, false, false, false, false]) rfl (by kernel_rfl) (by kernel_rfl) (by kernel_rfl) (fun _ _ _ h => h) rfl ?_; clear hS a; intro a hS) | (refine Z_take0 (i := 19) hS rfl (want_go rfl rfl) (e_faK rfl ty_fo34_8) (listed' := [true, true, true, true, true, true, true, true, true, true, true, true, true, true, true, true, true, true, true, true, false, false, false, false, false]) rfl (by kernel_rfl) (by kernel_rfl) (by kernel_rfl) (fun _ _ _ h => h) rfl ?_; clear hS a; intro a hS)
              refine Z_take (i := 20) hS rfl (want_go rfl rfl) (e_load rfl (by repeat (first | exact .head _ | refine .tail _ ?_)) ty_sc3 (by rfl)) (listed' := [true, true, true, true, true, true, true, true, true, true, true, true, true, true, true, true, true, true, true, true, true, false, false, false, false]) rfl (by kernel_rfl) (by kernel_rfl) (by kernel_rfl) (by kernel_rfl) (by kernel_rfl) (sub_cons (by repeat (first | exact .head _ | refine .tail _ ?_)) (sub_cons (by repeat (first | exact .head _ | refine .tail _ ?_)) (sub_cons (by repeat (first | exact .head _ | refine .tail _ ?_)) sub_nil))) (fun _ _ _ h => h) rfl ?_; clear hS a; intro a hS
              first | (refine Z_take0 (i := 21) hS rfl (want_go rfl rfl) (e_binN rfl rfl rfl (by omega)) (listed' := [true, true, true, true, true, true, true, true, true, true, true, true, true, true, true, true, true, true, true, true, true, true, false, false, false]) rfl (by kernel_rfl) (by kernel_rfl) (by kernel_rfl) (fun _ _ _ h => h) rfl ?_; clear hS a; intro a hS) | (refine Z_take0 (i := 21) hS rfl (want_go rfl rfl) (e_bin rfl rfl rfl) (listed' := [true, true, true, true, true, true, true, true, true, true, true, true, true, true, true, true, true, true, true, true, true, true, false, false, false]) rfl (by kernel_rfl) (by kernel_rfl) (by kernel_rfl) (fun _ _ _ h => h) rfl ?_; clear hS a; intro a hS)
              refine Z_take0 (i := 22) hS rfl (want_go rfl rfl) (e_bin rfl rfl rfl) (listed' := [true, true, true, true, true, true, true, true, true, true, true, true, true, true, true, true, true, true, true, true, true, true, true, false, false]) rfl (by kernel_rfl) (by kernel_rfl) (by kernel_rfl) (fun _ _ _ h => h) rfl ?_; clear hS a; intro a hS
              first | (refine Z_take0 (i := 23) hS rfl want_none (e_pick_t rfl rfl) (listed' := [true, true, true, true, true, true, true, true, true, true, true, true, true, true, true, true, true, true, true, true, true, true, true, true, false]) rfl (by kernel_rfl) (by kernel_rfl) (by kernel_rfl) (fun _ _ _ h => h) rfl ?_; clear hS a; intro a hS) | (refine Z_take0 (i := 23) hS rfl want_none (e_pick_f rfl rfl) (listed' := [true, true, true, true, true, true, true, true, true, true, true, true, true, true, true, true, true, true, true, true, true, true, true, true, false]) rfl (by kernel_rfl) (by kernel_rfl) (by kernel_rfl) (fun _ _ _ h => h) rfl ?_; clear hS a; intro a hS)
              refine Z_take0 (i := 24) hS rfl want_none (e_assign rfl) (listed' := [true, true, true, true, true, true, true, true, true, true, true, true, true, true, true, true, true, true, true, true, true, true, true, true, true]) rfl (by kernel_rfl) (by kernel_rfl) (by kernel_rfl) (fun _ _ _ h => h) rfl ?_; clear hS a; intro a hS
              refine Z_done (by kernel_rfl) ?_
              refine n_then ?_
              refine c_seq ?_
              refine c_region ?_
              replace hS := hS.is (t := 22) (c := true) rfl (decide_eq_true q8)
              replace hS := (hS.pick (Γ' := [.blk b18 (encA x) 34, invsA (.slice (some ⟨g, 0, none⟩) now.length nc) now true, bookA x30 sv2 its2 true, invsA (.slice wa was.length wc) was true, opsA (some (b, off)) l]) (by repeat (first | exact Pick.nil | (refine Pick.cons (by repeat (first | exact Rem.head | apply Rem.tail)) ?_)))).slots (L' := [(22, _), (18, _), (17, _), (16, _), (8, _), (6, _), (0, _), (5, _), (7, _)]) (by repeat (first | exact trivial | refine ⟨rfl, ?_⟩))
              first | (refine L_op (s_e hS (e_fa0 rfl ty_fo34_10) rfl ?_); clear hS a; intro a hS) | (refine L_op (s_e hS (e_faK rfl ty_fo34_10) rfl ?_); clear hS a; intro a hS)
              refine L_op (s_e hS (e_load rfl (by repeat (first | exact .head _ | refine .tail _ ?_)) ty_sc3 (by rfl)) rfl ?_); clear hS a; intro a hS
              first | (refine L_op (s_e hS (e_fa0 rfl ty_fo34_11) rfl ?_); clear hS a; intro a hS) | (refine L_op (s_e hS (e_faK rfl ty_fo34_11) rfl ?_); clear hS a; intro a hS)
              refine L_op (s_e hS (e_load rfl (by repeat (first | exact .head _ | refine .tail _ ?_)) ty_sc3 (by rfl)) rfl ?_); clear hS a; intro a hS
              first | (refine L_op (s_e hS (e_binN rfl rfl rfl (by omega)) rfl ?_); clear hS a; intro a hS) | (refine L_op (s_e hS (e_bin rfl rfl rfl) rfl ?_); clear hS a; intro a hS)
              first | (refine L_op (s_e hS (e_fa0 rfl ty_fo34_9) rfl ?_); clear hS a; intro a hS) | (refine L_op (s_e hS (e_faK rfl ty_fo34_9) rfl ?_); clear hS a; intro a hS)
              refine L_op (s_e hS (e_load rfl (by repeat (first | exact .head _ | refine .tail _ ?_)) ty_sc3 (by rfl)) rfl ?_); clear hS a; intro a hS
              refine L_op (s_e hS (e_bin rfl rfl rfl) rfl ?_); clear hS a; intro a hS
              refine L_op (s_e hS (e_assign rfl) rfl ?_); clear hS a; intro a hS
              refine L_nil ?_
              refine n_then ?_
              refine c_seq ?_
              refine c_seq ?_
              refine c_region ?_
              first | (refine L_op (s_e hS (e_fa0 rfl ty_fo34_0) rfl ?_); clear hS a; intro a hS) | (refine L_op (s_e hS (e_faK rfl ty_fo34_0) rfl ?_); clear hS a; intro a hS)
              refine L_op (s_e hS (e_load rfl (by repeat (first | exact .head _ | refine .tail _ ?_)) ty_sc3 (by rfl)) rfl ?_); clear hS a; intro a hS
              refine L_op (s_e hS (e_move rfl) rfl ?_); clear hS a; intro a hS
              first | (refine L_op (s_e hS (e_binN rfl rfl rfl (by omega)) rfl ?_); clear hS a; intro a hS) | (refine L_op (s_e hS (e_bin rfl rfl rfl) rfl ?_); clear hS a; intro a hS)
              refine L_op (s_e hS (e_bin rfl rfl rfl) rfl ?_); clear hS a; intro a hS
              refine L_op (s_e hS (e_move rfl) rfl ?_); clear hS a; intro a hS
              replace hS := hS.is (t := 209) (c := false) rfl ((decide_eq_false (by omega)))
              refine L_go hS rfl rfl (s_e hS (e_move rfl) rfl ?_); clear hS a; intro a hS
              refine L_go hS rfl rfl (s_e hS (e_not rfl) rfl ?_); clear hS a; intro a hS
              first | (refine L_op (s_e hS (e_pick_t rfl rfl) rfl ?_); clear hS a; intro a hS) | (refine L_op (s_e hS (e_pick_f rfl rfl) rfl ?_); clear hS a; intro a hS)
              refine L_op (s_e hS (e_move rfl) rfl ?_); clear hS a; intro a hS
              replace hS := hS.is (t := 213) (c := false) rfl (rfl)
              first | (refine L_go hS rfl rfl (s_e hS (e_fa0 rfl ty_fo34_10) rfl ?_); clear hS a; intro a hS) | (refine L_go hS rfl rfl (s_e hS (e_faK rfl ty_fo34_10) rfl ?_); clear hS a; intro a hS)
              refine L_go hS rfl rfl (s_e hS (e_load rfl (by repeat (first | exact .head _ | refine .tail _ ?_)) ty_sc3 (by rfl)) rfl ?_); clear hS a; intro a hS
              refine L_go hS rfl rfl (s_e hS (e_bin rfl rfl rfl) rfl ?_); clear hS a; intro a hS
              first | (refine L_op (s_e hS (e_pick_t rfl rfl) rfl ?_); clear hS a; intro a hS) | (refine L_op (s_e hS (e_pick_f rfl rfl) rfl ?_); clear hS a; intro a hS)
              refine L_op (s_e hS (e_move rfl) rfl ?_); clear hS a; intro a hS
              replace hS := hS.is (t := 218) (c := false) rfl ((decide_eq_false (by omega)))
              first | (refine L_go hS rfl rfl (s_e hS (e_fa0 rfl ty_fo34_11) rfl ?_); clear hS a; intro a hS) | (refine L_go hS rfl rfl (s_e hS (e_faK rfl ty_fo34_11) rfl ?_); clear hS a; intro a hS)
              refine L_go hS rfl rfl (s_e hS (e_load rfl (by repeat (first | exact .head _ | refine .tail _ ?_)) ty_sc3 (by rfl)) rfl ?_); clear hS a; intro a hS
              refine L_go hS rfl rfl (s_e hS (e_bin rfl rfl rfl) rfl ?_); clear hS a; intro a hS
              first | (refine L_op (s_e hS (e_pick_t rfl rfl) rfl ?_); clear hS a; intro a hS) | (refine L_op (s_e hS (e_pick_f rfl rfl) rfl ?_); clear hS a; intro a hS)
              refine L_op (s_e hS (e_move rfl) rfl ?_); clear hS a; intro a hS
              replace hS := hS.is (t := 223) (c := false) rfl ((decide_eq_false (by omega)))
              first | (refine L_go hS rfl rfl (s_e hS (e_fa0 rfl ty_fo34_10) rfl ?_); clear hS a; intro a hS) | (refine L_go hS rfl rfl (s_e hS (e_faK rfl ty_fo34_10) rfl ?_); clear hS a; intro a hS)
              refine L_go hS rfl rfl (s_e hS (e_load rfl (by repeat (first | exact .head _ | refine .tail _ ?_)) ty_sc3 (by rfl)) rfl ?_); clear hS a; intro a hS
              first | (refine L_go hS rfl rfl (s_e hS (e_fa0 rfl ty_fo34_11) rfl ?_); clear hS a; intro a hS) | (refine L_go hS rfl rfl (s_e hS (e_faK rfl ty_fo34_11) rfl ?_); clear hS a; intro a hS)
              refine L_go hS rfl rfl (s_e hS (e_load rfl (by repeat (first | exact .head _ | refine .tail _ ?_)) ty_sc3 (by rfl)) rfl ?_); clear hS a; intro a hS
              first | (refine L_go hS rfl rfl (s_e hS (e_binN rfl rfl rfl (by omega)) rfl ?_); clear hS a; intro a hS) | (refine L_go hS rfl rfl (s_e hS (e_bin rfl rfl rfl) rfl ?_); clear hS a; intro a hS)
              first | (refine L_go hS rfl rfl (s_e hS (e_fa0 rfl ty_fo34_9) rfl ?_); clear hS a; intro a hS) | (refine L_go hS rfl rfl (s_e hS (e_faK rfl ty_fo34_9) rfl ?_); clear hS a; intro a hS)
              refine L_go hS rfl rfl (s_e hS (e_load rfl (by repeat (first | exact .head _ | refine .tail _ ?_)) ty_sc3 (by rfl)) rfl ?_); clear hS a; intro a hS
              refine L_go hS rfl rfl (s_e hS (e_bin rfl rfl rfl) rfl ?_); clear hS a; intro a hS
              first | (refine L_op (s_e hS (e_pick_t rfl rfl) rfl ?_); clear hS a; intro a hS) | (refine L_op (s_e hS (e_pick_f rfl rfl) rfl ?_); clear hS a; intro a hS)
              refine L_op (s_e hS (e_move rfl) rfl ?_); clear hS a; intro a hS
              replace hS := hS.is (t := 233) (c := false) rfl ((decide_eq_false (by omega)))
              first | (refine L_go hS rfl rfl (s_e hS (e_fa0 rfl ty_fo34_12) rfl ?_); clear hS a; intro a hS) | (refine L_go hS rfl rfl (s_e hS (e_faK rfl ty_fo34_12) rfl ?_); clear hS a; intro a hS)
              refine L_go hS rfl rfl (s_e hS (e_load rfl (by repeat (first | exact .head _ | refine .tail _ ?_)) ty_sc3 (by rfl)) rfl ?_); clear hS a; intro a hS
              refine L_go hS rfl rfl (s_e hS (e_bin rfl rfl rfl) rfl ?_); clear hS a; intro a hS
              refine L_go hS rfl rfl (s_e hS (e_move rfl) rfl ?_); clear hS a; intro a hS
              refine L_merge 6 243 (.bool (false)) hS ?_ ?_
              · intro hcM243
                (first | refine g_splitD (t := 237) hS rfl ?_ ?_ | refine g_split (t := 237) hS rfl ?_ ?_) <;> (clear hS; intro hg237 hS)
                ·
                  refine L_go hS rfl rfl (s_e hS (e_move rfl) rfl ?_); clear hS a; intro a hS
                  first | (refine L_go hS rfl rfl (s_e hS (e_fa0 rfl ty_fo34_12) rfl ?_); clear hS a; intro a hS) | (refine L_go hS rfl rfl (s_e hS (e_faK rfl ty_fo34_12) rfl ?_); clear hS a; intro a hS)
                  refine L_go hS rfl rfl (s_e hS (e_load rfl (by repeat (first | exact .head _ | refine .tail _ ?_)) ty_sc3 (by rfl)) rfl ?_); clear hS a; intro a hS
                  refine L_go hS rfl rfl (s_e hS (e_bin rfl rfl rfl) rfl ?_); clear hS a; intro a hS
                  refine L_go hS rfl rfl (s_e hS (e_binBn rfl rfl ty_u4) rfl ?_); clear hS a; intro a hS
                  first | (refine L_go hS rfl rfl (s_e hS (e_pick_t rfl rfl) rfl ?_); clear hS a; intro a hS) | (refine L_go hS rfl rfl (s_e hS (e_pick_f rfl rfl) rfl ?_); clear hS a; intro a hS)
                  exact hcM243 a w (hS.ends 7 243 237 rfl (congrArg Value.bool (by have hd := q9 hg237; rw [decide_eq_false_iff_not]; simp only [ne_eq, Decidable.not_not, decide_eq_decide]; exact hd)) rfl rfl (by first | exact congrArg Value.bool (decide_eq_true hg237).symm | exact congrArg Value.bool hg237.symm | simp [hg237]) rfl)
                ·
                  refine L_skip_t hS rfl rfl rfl ?_; clear hS a; intro a hS
                  refine L_skip_t hS rfl rfl rfl ?_; clear hS a; intro a hS
                  refine L_skip_t hS rfl rfl rfl ?_; clear hS a; intro a hS
                  refine L_skip_t hS rfl rfl rfl ?_; clear hS a; intro a hS
                  refine L_skip_t hS rfl rfl rfl ?_; clear hS a; intro a hS
                  first | (refine L_go hS rfl rfl (s_e hS (e_pick_t rfl rfl) rfl ?_); clear hS a; intro a hS) | (refine L_go hS rfl rfl (s_e hS (e_pick_f rfl rfl) rfl ?_); clear hS a; intro a hS)
                  exact hcM243 a w (hS.ends 7 243 237 rfl (congrArg Value.bool (by first | rfl | (simp [hg237]; done) | (simp [hg237]; omega) | grind)) rfl rfl (by first | exact congrArg Value.bool (decide_eq_false hg237).symm | exact congrArg Value.bool hg237.symm | simp [hg237]) rfl)
              · clear hS a; (try clear w); intro a w hS
                simp only [List.drop_succ_cons, List.drop_zero]
                first | (refine L_op (s_e hS (e_pick_t rfl rfl) rfl ?_); clear hS a; intro a hS) | (refine L_op (s_e hS (e_pick_f rfl rfl) rfl ?_); clear hS a; intro a hS)
                refine L_nil ?_
                refine n_then ?_
                replace hS := hS.is (t := 244) (c := false) rfl (rfl)
                refine c_if_f hS rfl ?_
                refine wp_skip ?_
                refine n_then ?_
                refine c_cut (fun a w => St 372 noB w0 a w [(18, .pointer (some ⟨b18, 0, none⟩)), (17, .int .i64 (k : Int)), (16, .slice (some ⟨g, 0, none⟩) now.length nc), (8, .bool bad), (6, .int .i64 (i : Int)), (0, sliceV (some (b, off)) l.length c), (5, .pointer (some ⟨x30, 0, none⟩)), (7, .slice wa was.length wc)] [.blk b18 (encA x) 34, invsA (.slice (some ⟨g, 0, none⟩) now.length nc) now true, bookA x30 sv2 its2 true, invsA (.slice wa was.length wc) was true, opsA (some (b, off)) l]) ?_ ?_
                ·
                  refine c_seq ?_
                  refine c_region ?_
                  refine L_op (s_e hS (e_move rfl) rfl ?_); clear hS a; intro a hS
                  refine L_op (s_e hS (e_move rfl) rfl ?_); clear hS a; intro a hS
                  refine L_op (s_e hS (e_len rfl rfl ty_sl41) rfl ?_); clear hS a; intro a hS
                  refine L_op (s_e hS (e_bin rfl rfl rfl) rfl ?_); clear hS a; intro a hS
                  refine L_nil ?_
                  refine n_then ?_
                  first | refine c_ifD hS rfl (fun hc248 => ?_) (fun hc248 => ?_) | refine c_if hS rfl (fun hc248 => ?_) (fun hc248 => ?_)
                  ·
                    obtain ⟨y, hy⟩ := its_of (a := was) (k := k) (by omega)
                    have hym := List.mem_of_getElem? hy
                    obtain ⟨y2, hy2, hy2v⟩ := vs_at hwas hy
                    have hy2' : (vs its)[k]? = some y.v := by rw [← hy2v]; exact vs_get hy2
                    obtain ⟨z, hz, hst⟩ := hgo.kept k y.v hy2'
                    rw [hx2'] at hz
                    cases hz
                    have hsm := hst.same
                    have hsh := hst.shut
                    obtain ⟨gw, cw, hwv⟩ := sv_some (hS.get (X := invsA (.slice wa was.length wc) was true) (by repeat (first | exact .head _ | refine .tail _ ?_))).1 hy
                    injection hwv with hwa _ hwc
                    subst hwa hwc
                    refine c_seq ?_
                    refine c_region ?_
                    refine L_op (s_e hS (e_move rfl) rfl ?_); clear hS a; intro a hS
                    refine L_op (s_e hS (e_move rfl) rfl ?_); clear hS a; intro a hS
                    refine L_op (s_e hS (e_ixN rfl rfl ty_sl41 ty_sz34 (by omega)) rfl ?_); clear hS a; intro a hS
                    refine L_op (s_e hS (e_loadAC (l := encA y) rfl ty_st34 ty_sz34 (inv_row (by repeat (first | exact .head _ | refine .tail _ ?_)) hy)) rfl ?_); clear hS a; intro a hS
                    refine L_op (s_alloc hS ty_z34 rfl ?_); clear hS a; (try clear w); intro a w b24 hS
                    refine L_op (s_storeA hS rfl rfl ty_sz34 (by repeat (first | apply Rep.head | apply Rep.tail)) (by rfl) (by rfl) (by rfl) ?_); clear hS; (try clear w); intro w hS
                    refine L_nil ?_
                    refine n_then ?_
                    refine c_seq ?_
                    refine c_region ?_
                    first | (refine L_op (s_e hS (e_fa0 rfl ty_fo34_1) rfl ?_); clear hS a; intro a hS) | (refine L_op (s_e hS (e_faK rfl ty_fo34_1) rfl ?_); clear hS a; intro a hS)
                    refine L_op (s_e hS (e_load rfl (by repeat (first | exact .head _ | refine .tail _ ?_)) ty_sc3 (by rfl)) rfl ?_); clear hS a; intro a hS
                    first | (refine L_op (s_e hS (e_fa0 rfl ty_fo34_1) rfl ?_); clear hS a; intro a hS) | (refine L_op (s_e hS (e_faK rfl ty_fo34_1) rfl ?_); clear hS a; intro a hS)
                    refine L_op (s_e hS (e_load rfl (by repeat (first | exact .head _ | refine .tail _ ?_)) ty_sc3 (by rfl)) rfl ?_); clear hS a; intro a hS
                    refine L_op (s_e hS (e_bin rfl rfl rfl) rfl ?_); clear hS a; intro a hS
                    refine L_op (s_e hS (e_move rfl) rfl ?_); clear hS a; intro a hS
                    replace hS := hS.is (t := 258) (c := true) rfl ((decide_eq_true hsm.1))
                    first | (refine L_go hS rfl rfl (s_e hS (e_fa0 rfl ty_fo34_2) rfl ?_); clear hS a; intro a hS) | (refine L_go hS rfl rfl (s_e hS (e_faK rfl ty_fo34_2) rfl ?_); clear hS a; intro a hS)
                    refine L_go hS rfl rfl (s_e hS (e_load rfl (by repeat (first | exact .head _ | refine .tail _ ?_)) ty_sc3 (by rfl)) rfl ?_); clear hS a; intro a hS
                    first | (refine L_go hS rfl rfl (s_e hS (e_fa0 rfl ty_fo34_2) rfl ?_); clear hS a; intro a hS) | (refine L_go hS rfl rfl (s_e hS (e_faK rfl ty_fo34_2) rfl ?_); clear hS a; intro a hS)
                    refine L_go hS rfl rfl (s_e hS (e_load rfl (by repeat (first | exact .head _ | refine .tail _ ?_)) ty_sc3 (by rfl)) rfl ?_); clear hS a; intro a hS
                    refine L_go hS rfl rfl (s_e hS (e_bin rfl rfl rfl) rfl ?_); clear hS a; intro a hS
                    first | (refine L_op (s_e hS (e_pick_t rfl rfl) rfl ?_); clear hS a; intro a hS) | (refine L_op (s_e hS (e_pick_f rfl rfl) rfl ?_); clear hS a; intro a hS)
                    refine L_op (s_e hS (e_move rfl) rfl ?_); clear hS a; intro a hS
                    replace hS := hS.is (t := 265) (c := true) rfl ((decide_eq_true hsm.2.1))
                    first | (refine L_go hS rfl rfl (s_e hS (e_fa0 rfl ty_fo34_3) rfl ?_); clear hS a; intro a hS) | (refine L_go hS rfl rfl (s_e hS (e_faK rfl ty_fo34_3) rfl ?_); clear hS a; intro a hS)
                    refine L_go hS rfl rfl (s_e hS (e_load rfl (by repeat (first | exact .head _ | refine .tail _ ?_)) ty_sc3 (by rfl)) rfl ?_); clear hS a; intro a hS
                    first | (refine L_go hS rfl rfl (s_e hS (e_fa0 rfl ty_fo34_3) rfl ?_); clear hS a; intro a hS) | (refine L_go hS rfl rfl (s_e hS (e_faK rfl ty_fo34_3) rfl ?_); clear hS a; intro a hS)
                    refine L_go hS rfl rfl (s_e hS (e_load rfl (by repeat (first | exact .head _ | refine .tail _ ?_)) ty_sc3 (by rfl)) rfl ?_); clear hS a; intro a hS
                    refine L_go hS rfl rfl (s_e hS (e_bin rfl rfl rfl) rfl ?_); clear hS a; intro a hS
                    first | (refine L_op (s_e hS (e_pick_t rfl rfl) rfl ?_); clear hS a; intro a hS) | (refine L_op (s_e hS (e_pick_f rfl rfl) rfl ?_); clear hS a; intro a hS)
                    refine L_op (s_e hS (e_move rfl) rfl ?_); clear hS a; intro a hS
                    replace hS := hS.is (t := 272) (c := true) rfl ((decide_eq_true hsm.2.2.1))
                    first | (refine L_go hS rfl rfl (s_e hS (e_fa0 rfl ty_fo34_9) rfl ?_); clear hS a; intro a hS) | (refine L_go hS rfl rfl (s_e hS (e_faK rfl ty_fo34_9) rfl ?_); clear hS a; intro a hS)
                    refine L_go hS rfl rfl (s_e hS (e_load rfl (by repeat (first | exact .head _ | refine .tail _ ?_)) ty_sc3 (by rfl)) rfl ?_); clear hS a; intro a hS
                    first | (refine L_go hS rfl rfl (s_e hS (e_fa0 rfl ty_fo34_9) rfl ?_); clear hS a; intro a hS) | (refine L_go hS rfl rfl (s_e hS (e_faK rfl ty_fo34_9) rfl ?_); clear hS a; intro a hS)
                    refine L_go hS rfl rfl (s_e hS (e_load rfl (by repeat (first | exact .head _ | refine .tail _ ?_)) ty_sc3 (by rfl)) rfl ?_); clear hS a; intro a hS
                    refine L_go hS rfl rfl (s_e hS (e_bin rfl rfl rfl) rfl ?_); clear hS a; intro a hS
                    first | (refine L_op (s_e hS (e_pick_t rfl rfl) rfl ?_); clear hS a; intro a hS) | (refine L_op (s_e hS (e_pick_f rfl rfl) rfl ?_); clear hS a; intro a hS)
                    refine L_op (s_e hS (e_move rfl) rfl ?_); clear hS a; intro a hS
                    replace hS := hS.is (t := 279) (c := true) rfl ((decide_eq_true hsm.2.2.2.1))
                    first | (refine L_go hS rfl rfl (s_e hS (e_fa0 rfl ty_fo34_4) rfl ?_); clear hS a; intro a hS) | (refine L_go hS rfl rfl (s_e hS (e_faK rfl ty_fo34_4) rfl ?_); clear hS a; intro a hS)
                    refine L_go hS rfl rfl (s_e hS (e_load rfl (by repeat (first | exact .head _ | refine .tail _ ?_)) ty_sc9 (by rfl)) rfl ?_); clear hS a; intro a hS
                    first | (refine L_go hS rfl rfl (s_e hS (e_fa0 rfl ty_fo34_4) rfl ?_); clear hS a; intro a hS) | (refine L_go hS rfl rfl (s_e hS (e_faK rfl ty_fo34_4) rfl ?_); clear hS a; intro a hS)
                    refine L_go hS rfl rfl (s_e hS (e_load rfl (by repeat (first | exact .head _ | refine .tail _ ?_)) ty_sc9 (by rfl)) rfl ?_); clear hS a; intro a hS
                    refine L_go hS rfl rfl (s_e hS (e_binS rfl rfl rfl) rfl ?_); clear hS a; intro a hS
                    first | (refine L_op (s_e hS (e_pick_t rfl rfl) rfl ?_); clear hS a; intro a hS) | (refine L_op (s_e hS (e_pick_f rfl rfl) rfl ?_); clear hS a; intro a hS)
                    refine L_op (s_e hS (e_move rfl) rfl ?_); clear hS a; intro a hS
                    replace hS := hS.is (t := 286) (c := true) rfl ((decide_eq_true hsm.2.2.2.2.1))
                    first | (refine L_go hS rfl rfl (s_e hS (e_fa0 rfl ty_fo34_6) rfl ?_); clear hS a; intro a hS) | (refine L_go hS rfl rfl (s_e hS (e_faK rfl ty_fo34_6) rfl ?_); clear hS a; intro a hS)
                    refine L_go hS rfl rfl (s_e hS (e_load rfl (by repeat (first | exact .head _ | refine .tail _ ?_)) ty_sc22 (by rfl)) rfl ?_); clear hS a; intro a hS
                    refine L_go hS rfl rfl (s_e hS (e_len rfl rfl ty_sl22) rfl ?_); clear hS a; intro a hS
                    first | (refine L_go hS rfl rfl (s_e hS (e_fa0 rfl ty_fo34_6) rfl ?_); clear hS a; intro a hS) | (refine L_go hS rfl rfl (s_e hS (e_faK rfl ty_fo34_6) rfl ?_); clear hS a; intro a hS)
                    refine L_go hS rfl rfl (s_e hS (e_load rfl (by repeat (first | exact .head _ | refine .tail _ ?_)) ty_sc22 (by rfl)) rfl ?_); clear hS a; intro a hS
                    refine L_go hS rfl rfl (s_e hS (e_len rfl rfl ty_sl22) rfl ?_); clear hS a; intro a hS
                    refine L_go hS rfl rfl (s_e hS (e_bin rfl rfl rfl) rfl ?_); clear hS a; intro a hS
                    first | (refine L_op (s_e hS (e_pick_t rfl rfl) rfl ?_); clear hS a; intro a hS) | (refine L_op (s_e hS (e_pick_f rfl rfl) rfl ?_); clear hS a; intro a hS)
                    refine L_op (s_e hS (e_assign rfl) rfl ?_); clear hS a; intro a hS
                    refine L_nil ?_
                    refine n_then ?_
                    refine c_seq ?_
                    refine c_region ?_
                    replace hS := hS.is (t := 25) (c := true) rfl (decide_eq_true (by rw [hsm.2.2.2.2.2.1]))
                    replace hS := hS.slots (L' := [(25, _), (24, _), (18, _), (17, _), (16, _), (8, _), (6, _), (0, _), (5, _), (7, _)]) (by repeat (first | exact trivial | refine ⟨rfl, ?_⟩))
                    refine L_op (s_e hS (e_move rfl) rfl ?_); clear hS a; intro a hS
                    refine L_op (s_e hS (e_not rfl) rfl ?_); clear hS a; intro a hS
                    refine L_op (s_e hS (e_move rfl) rfl ?_); clear hS a; intro a hS
                    replace hS := hS.is (t := 297) (c := false) rfl (rfl)
                    refine L_go hS rfl rfl (s_e hS (e_move rfl) rfl ?_); clear hS a; intro a hS
                    refine L_go hS rfl rfl (s_e hS (e_move rfl) rfl ?_); clear hS a; intro a hS
                    refine L_merge 4 303 (.bool (bad || decide (y.v.state ≠ 1))) hS ?_ ?_
                    · intro hcM303
                      (first | refine g_splitD (t := 299) hS rfl ?_ ?_ | refine g_split (t := 299) hS rfl ?_ ?_) <;> (clear hS; intro hg299 hS)
                      ·
                        refine L_skip_f hS rfl rfl rfl ?_; clear hS a; intro a hS
                        refine L_skip_f hS rfl rfl rfl ?_; clear hS a; intro a hS
                        refine L_skip_f hS rfl rfl rfl ?_; clear hS a; intro a hS
                        first | (refine L_go hS rfl rfl (s_e hS (e_pick_t rfl rfl) rfl ?_); clear hS a; intro a hS) | (refine L_go hS rfl rfl (s_e hS (e_pick_f rfl rfl) rfl ?_); clear hS a; intro a hS)
                        exact hcM303 a w (hS.ends 5 303 299 rfl (congrArg Value.bool (by first | rfl | (simp [hg299]; done) | (simp [hg299]; omega) | grind)) rfl rfl (by first | exact congrArg Value.bool (decide_eq_true hg299).symm | exact congrArg Value.bool hg299.symm | simp [hg299]) rfl)
                      ·
                        first | (refine L_go hS rfl rfl (s_e hS (e_fa0 rfl ty_fo34_12) rfl ?_); clear hS a; intro a hS) | (refine L_go hS rfl rfl (s_e hS (e_faK rfl ty_fo34_12) rfl ?_); clear hS a; intro a hS)
                        refine L_go hS rfl rfl (s_e hS (e_load rfl (by repeat (first | exact .head _ | refine .tail _ ?_)) ty_sc3 (by rfl)) rfl ?_); clear hS a; intro a hS
                        refine L_go hS rfl rfl (s_e hS (e_bin rfl rfl rfl) rfl ?_); clear hS a; intro a hS
                        first | (refine L_go hS rfl rfl (s_e hS (e_pick_t rfl rfl) rfl ?_); clear hS a; intro a hS) | (refine L_go hS rfl rfl (s_e hS (e_pick_f rfl rfl) rfl ?_); clear hS a; intro a hS)
                        exact hcM303 a w (hS.ends 5 303 299 rfl (congrArg Value.bool (by first | rfl | (simp [hg299]; done) | (simp [hg299]; omega) | grind)) rfl rfl (by first | exact congrArg Value.bool (decide_eq_false hg299).symm | exact congrArg Value.bool hg299.symm | simp [hg299]) rfl)
                    · clear hS a; (try clear w); intro a w hS
                      simp only [List.drop_succ_cons, List.drop_zero]
                      refine L_go hS rfl rfl (s_e hS (e_move rfl) rfl ?_); clear hS a; intro a hS
                      refine L_merge 20 324 (.bool (false)) hS ?_ ?_
                      · intro hcM324
                        (first | refine g_splitD (t := 304) hS rfl ?_ ?_ | refine g_split (t := 304) hS rfl ?_ ?_) <;> (clear hS; intro hg304 hS)
                        ·
                          first | (refine L_go hS rfl rfl (s_e hS (e_fa0 rfl ty_fo34_12) rfl ?_); clear hS a; intro a hS) | (refine L_go hS rfl rfl (s_e hS (e_faK rfl ty_fo34_12) rfl ?_); clear hS a; intro a hS)
                          refine L_go hS rfl rfl (s_e hS (e_load rfl (by repeat (first | exact .head _ | refine .tail _ ?_)) ty_sc3 (by rfl)) rfl ?_); clear hS a; intro a hS
                          first | (refine L_go hS rfl rfl (s_e hS (e_fa0 rfl ty_fo34_12) rfl ?_); clear hS a; intro a hS) | (refine L_go hS rfl rfl (s_e hS (e_faK rfl ty_fo34_12) rfl ?_); clear hS a; intro a hS)
                          refine L_go hS rfl rfl (s_e hS (e_load rfl (by repeat (first | exact .head _ | refine .tail _ ?_)) ty_sc3 (by rfl)) rfl ?_); clear hS a; intro a hS
                          refine L_go hS rfl rfl (s_e hS (e_bin rfl rfl rfl) rfl ?_); clear hS a; intro a hS
                          refine L_go hS rfl rfl (s_e hS (e_move rfl) rfl ?_); clear hS a; intro a hS
                          replace hS := hS.is (t := 310) (c := false) rfl ((decide_eq_false (by have hh := hsh (by simpa using hg304); omega)))
                          first | (refine L_go hS rfl rfl (s_e hS (e_fa0 rfl ty_fo34_10) rfl ?_); clear hS a; intro a hS) | (refine L_go hS rfl rfl (s_e hS (e_faK rfl ty_fo34_10) rfl ?_); clear hS a; intro a hS)
                          refine L_go hS rfl rfl (s_e hS (e_load rfl (by repeat (first | exact .head _ | refine .tail _ ?_)) ty_sc3 (by rfl)) rfl ?_); clear hS a; intro a hS
                          first | (refine L_go hS rfl rfl (s_e hS (e_fa0 rfl ty_fo34_10) rfl ?_); clear hS a; intro a hS) | (refine L_go hS rfl rfl (s_e hS (e_faK rfl ty_fo34_10) rfl ?_); clear hS a; intro a hS)
                          refine L_go hS rfl rfl (s_e hS (e_load rfl (by repeat (first | exact .head _ | refine .tail _ ?_)) ty_sc3 (by rfl)) rfl ?_); clear hS a; intro a hS
                          refine L_go hS rfl rfl (s_e hS (e_bin rfl rfl rfl) rfl ?_); clear hS a; intro a hS
                          first | (refine L_go hS rfl rfl (s_e hS (e_pick_t rfl rfl) rfl ?_); clear hS a; intro a hS) | (refine L_go hS rfl rfl (s_e hS (e_pick_f rfl rfl) rfl ?_); clear hS a; intro a hS)
                          refine L_go hS rfl rfl (s_e hS (e_move rfl) rfl ?_); clear hS a; intro a hS
                          replace hS := hS.is (t := 317) (c := false) rfl ((decide_eq_false (by have hh := hsh (by simpa using hg304); omega)))
                          first | (refine L_go hS rfl rfl (s_e hS (e_fa0 rfl ty_fo34_11) rfl ?_); clear hS a; intro a hS) | (refine L_go hS rfl rfl (s_e hS (e_faK rfl ty_fo34_11) rfl ?_); clear hS a; intro a hS)
                          refine L_go hS rfl rfl (s_e hS (e_load rfl (by repeat (first | exact .head _ | refine .tail _ ?_)) ty_sc3 (by rfl)) rfl ?_); clear hS a; intro a hS
                          first | (refine L_go hS rfl rfl (s_e hS (e_fa0 rfl ty_fo34_11) rfl ?_); clear hS a; intro a hS) | (refine L_go hS rfl rfl (s_e hS (e_faK rfl ty_fo34_11) rfl ?_); clear hS a; intro a hS)
                          refine L_go hS rfl rfl (s_e hS (e_load rfl (by repeat (first | exact .head _ | refine .tail _ ?_)) ty_sc3 (by rfl)) rfl ?_); clear hS a; intro a hS
                          refine L_go hS rfl rfl (s_e hS (e_bin rfl rfl rfl) rfl ?_); clear hS a; intro a hS
                          first | (refine L_go hS rfl rfl (s_e hS (e_pick_t rfl rfl) rfl ?_); clear hS a; intro a hS) | (refine L_go hS rfl rfl (s_e hS (e_pick_f rfl rfl) rfl ?_); clear hS a; intro a hS)
                          first | (refine L_go hS rfl rfl (s_e hS (e_pick_t rfl rfl) rfl ?_); clear hS a; intro a hS) | (refine L_go hS rfl rfl (s_e hS (e_pick_f rfl rfl) rfl ?_); clear hS a; intro a hS)
                          exact hcM324 a w (hS.ends 23 324 304 rfl (congrArg Value.bool (by have hh := hsh (by simpa using hg304); simp [hh])) rfl rfl (by first | exact congrArg Value.bool (decide_eq_true hg304).symm | exact congrArg Value.bool hg304.symm | simp [hg304]) rfl)
                        ·
                          refine L_skip_t hS rfl rfl rfl ?_; clear hS a; intro a hS
                          refine L_skip_t hS rfl rfl rfl ?_; clear hS a; intro a hS
                          refine L_skip_t hS rfl rfl rfl ?_; clear hS a; intro a hS
                          refine L_skip_t hS rfl rfl rfl ?_; clear hS a; intro a hS
                          refine L_skip_t hS rfl rfl rfl ?_; clear hS a; intro a hS
                          refine L_skip_t hS rfl rfl rfl ?_; clear hS a; intro a hS
                          refine L_skip_u hS rfl rfl rfl ?_; clear hS a; intro a hS
                          refine L_skip_u hS rfl rfl rfl ?_; clear hS a; intro a hS
                          refine L_skip_u hS rfl rfl rfl ?_; clear hS a; intro a hS
                          refine L_skip_u hS rfl rfl rfl ?_; clear hS a; intro a hS
                          refine L_skip_u hS rfl rfl rfl ?_; clear hS a; intro a hS
                          refine L_skip_t hS rfl rfl rfl ?_; clear hS a; intro a hS
                          refine L_skip_t hS rfl rfl rfl ?_; clear hS a; intro a hS
                          refine L_skip_u hS rfl rfl rfl ?_; clear hS a; intro a hS
                          refine L_skip_u hS rfl rfl rfl ?_; clear hS a; intro a hS
                          refine L_skip_u hS rfl rfl rfl ?_; clear hS a; intro a hS
                          refine L_skip_u hS rfl rfl rfl ?_; clear hS a; intro a hS
                          refine L_skip_u hS rfl rfl rfl ?_; clear hS a; intro a hS
                          refine L_skip_t hS rfl rfl rfl ?_; clear hS a; intro a hS
                          first | (refine L_go hS rfl rfl (s_e hS (e_pick_t rfl rfl) rfl ?_); clear hS a; intro a hS) | (refine L_go hS rfl rfl (s_e hS (e_pick_f rfl rfl) rfl ?_); clear hS a; intro a hS)
                          exact hcM324 a w (hS.ends 21 324 304 rfl (congrArg Value.bool (by first | rfl | (simp [hg304]; done) | (simp [hg304]; omega) | grind)) rfl rfl (by first | exact congrArg Value.bool (decide_eq_false hg304).symm | exact congrArg Value.bool hg304.symm | simp [hg304]) rfl)
                      · clear hS a; (try clear w); intro a w hS
                        simp only [List.drop_succ_cons, List.drop_zero]
                        first | (refine L_op (s_e hS (e_pick_t rfl rfl) rfl ?_); clear hS a; intro a hS) | (refine L_op (s_e hS (e_pick_f rfl rfl) rfl ?_); clear hS a; intro a hS)
                        refine L_nil ?_
                        refine n_then ?_
                        replace hS := hS.is (t := 325) (c := false) rfl (rfl)
                        refine c_if_f hS rfl ?_
                        refine wp_skip ?_
                        exact (hS.pick (by repeat (first | exact Pick.nil | (refine Pick.cons (by repeat (first | exact Rem.head | apply Rem.tail)) ?_)))).slots (by repeat (first | exact trivial | refine ⟨rfl, ?_⟩))
                  ·
                    refine wp_skip ?_
                    exact (hS.pick (by repeat (first | exact Pick.nil | (refine Pick.cons (by repeat (first | exact Rem.head | apply Rem.tail)) ?_)))).slots (by repeat (first | exact trivial | refine ⟨rfl, ?_⟩))
                ·
                  clear hS a; (try clear w); intro a w hS
                  skip
                  refine c_seq ?_
                  refine c_region ?_
                  refine L_op (s_e hS (e_assign rfl) rfl ?_); clear hS a; intro a hS
                  refine L_nil ?_
                  refine n_then ?_
                  refine wp_block ?_
                  skip
                  refine c_loop (γ := Nat) (fun j a w => St 372 noB w0 a w [(26, .int .i64 (j : Int)), (18, .pointer (some ⟨b18, 0, none⟩)), (17, .int .i64 (k : Int)), (16, .slice (some ⟨g, 0, none⟩) now.length nc), (8, .bool bad), (6, .int .i64 (i : Int)), (0, sliceV (some (b, off)) l.length c), (5, .pointer (some ⟨x30, 0, none⟩)), (7, .slice wa was.length wc)] [.blk b18 (encA x) 34, invsA (.slice (some ⟨g, 0, none⟩) now.length nc) now true, bookA x30 sv2 its2 true, invsA (.slice wa was.length wc) was true, opsA (some (b, off)) l] ∧ j ≤ k) (fun j => k - j) 0 ⟨(hS.pick (by repeat (first | exact Pick.nil | (refine Pick.cons (by repeat (first | exact Rem.head | apply Rem.tail)) ?_)))).slots (by repeat (first | exact trivial | refine ⟨rfl, ?_⟩)), Nat.zero_le _⟩ ?_
                  clear hS a; (try clear w); intro j a w hI
                  obtain ⟨hS, hj⟩ := hI
                  refine c_seq ?_
                  refine c_seq ?_
                  refine c_region ?_
                  refine L_op (s_e hS (e_move rfl) rfl ?_); clear hS a; intro a hS
                  refine L_op (s_e hS (e_move rfl) rfl ?_); clear hS a; intro a hS
                  refine L_op (s_e hS (e_bin rfl rfl rfl) rfl ?_); clear hS a; intro a hS
                  refine L_nil ?_
                  refine n_then ?_
                  first | refine c_ifD hS rfl (fun hc328 => ?_) (fun hc328 => ?_) | refine c_if hS rfl (fun hc328 => ?_) (fun hc328 => ?_)
                  ·
                    obtain ⟨z, hz⟩ := its_of (a := now) (k := j) (by omega)
                    obtain ⟨z2, hz2, hz2v⟩ := vs_at hnow hz
                    have hz2' : (vs its2)[j]? = some z.v := by rw [← hz2v]; exact vs_get hz2
                    have hnm := no_meet hR2 (by omega) hz2' hx2'
                    refine wp_skip ?_
                    refine n_then ?_
                    refine c_seq ?_
                    refine wp_block ?_
                    refine c_seq ?_
                    refine c_drawS [] (by kernel_rfl) hS (sub_cons (X := .blk b18 _ _) (by repeat (first | exact .head _ | refine .tail _ ?_)) (sub_cons (X := invsA (.slice (some ⟨g, 0, none⟩) now.length nc) now true) (by repeat (first | exact .head _ | refine .tail _ ?_)) sub_nil)) ?_; clear hS; (try clear w); intro w hS
                    simp only [List.length_cons, List.length_nil, Nat.zero_add, Nat.reduceAdd, List.replicate]
                    refine Z_take0 (i := 0) hS rfl want_none (e_move rfl) (listed' := [true, false, false, false, false, false, false, false, false, false, false, false, false, false, false, false, false, false, false, false, false, false, false, false, false, false, false, false, false, false, false, false, false, false, false, false, false, false, false, false, false]) rfl (by kernel_rfl) (by kernel_rfl) (by kernel_rfl) (fun _ _ _ h => h) rfl ?_; clear hS a; intro a hS
                    refine Z_take0 (i := 1) hS rfl want_none (e_move rfl) (listed' := [true, true, false, false, false, false, false, false, false, false, false, false, false, false, false, false, false, false, false, false, false, false, false, false, false, false, false, false, false, false, false, false, false, false, false, false, false, false, false, false, false]) rfl (by kernel_rfl) (by kernel_rfl) (by kernel_rfl) (fun _ _ _ h => h) rfl ?_; clear hS a; intro a hS
                    refine Z_take0 (i := 2) hS rfl want_none (e_ixN rfl rfl ty_sl41 ty_sz34 (by omega)) (listed' := [true, true, true, false, false, false, false, false, false, false, false, false, false, false, false, false, false, false, false, false, false, false, false, false, false, false, false, false, false, false, false, false, false, false, false, false, false, false, false, false, false]) rfl (by kernel_rfl) (by kernel_rfl) (by kernel_rfl) (fun _ _ _ h => h) rfl ?_; clear hS a; intro a hS
                    first | (refine Z_take0 (i := 3) hS rfl want_none (e_fa0 rfl ty_fo34_4) (listed' := [true, true, true, true, false, false, false, false, false, false, false, false, false, false, false, false, false, false, false, false, false, false, false, false, false, false, false, false, false, false, false, false, false, false, false, false, false, false, false, false, false]) rfl (by kernel_rfl) (by kernel_rfl) (by kernel_rfl) (fun _ _ _ h => h) rfl ?_; clear hS a; intro a hS) | (refine Z_take0 (i := 3) hS rfl want_none (e_faK rfl ty_fo34_4) (listed' := [true, true, true, true, false, false, false, false, false, false, false, false, false, false, false, false, false, false, false, false, false, false, false, false, false, false, false, false, false, false, false, false, false, false, false, false, false, false, false, false, false]) rfl (by kernel_rfl) (by kernel_rfl) (by kernel_rfl) (fun _ _ _ h => h) rfl ?_; clear hS a; intro a hS)
                    refine Z_take (i := 4) hS rfl want_none (e_loadC rfl ty_sc9 (fun w hh => inv_row (by repeat (first | exact .head _ | refine .tail _ ?_)) hz w hh 4 (.string z.v.account) rfl)) (listed' := [true, true, true, true, true, false, false, false, false, false, false, false, false, false, false, false, false, false, false, false, false, false, false, false, false, false, false, false, false, false, false, false, false, false, false, false, false, false, false, false, false]) rfl (by kernel_rfl) (by kernel_rfl) (by kernel_rfl) (by kernel_rfl) (by kernel_rfl) (sub_cons (by repeat (first | exact .head _ | refine .tail _ ?_)) (sub_cons (by repeat (first | exact .head _ | refine .tail _ ?_)) sub_nil)) (fun _ _ _ h => h) rfl ?_; clear hS a; intro a hS
                    first | (refine Z_take0 (i := 5) hS rfl want_none (e_fa0 rfl ty_fo34_4) (listed' := [true, true, true, true, true, true, false, false, false, false, false, false, false, false, false, false, false, false, false, false, false, false, false, false, false, false, false, false, false, false, false, false, false, false, false, false, false, false, false, false, false]) rfl (by kernel_rfl) (by kernel_rfl) (by kernel_rfl) (fun _ _ _ h => h) rfl ?_; clear hS a; intro a hS) | (refine Z_take0 (i := 5) hS rfl want_none (e_faK rfl ty_fo34_4) (listed' := [true, true, true, true, true, true, false, false, false, false, false, false, false, false, false, false, false, false, false, false, false, false, false, false, false, false, false, false, false, false, false, false, false, false, false, false, false, false, false, false, false]) rfl (by kernel_rfl) (by kernel_rfl) (by kernel_rfl) (fun _ _ _ h => h) rfl ?_; clear hS a; intro a hS)
                    refine Z_take (i := 6) hS rfl want_none (e_load rfl (by repeat (first | exact .head _ | refine .tail _ ?_)) ty_sc9 (by rfl)) (listed' := [true, true, true, true, true, true, true, false, false, false, false, false, false, false, false, false, false, false, false, false, false, false, false, false, false, false, false, false, false, false, false, false, false, false, false, false, false, false, false, false, false]) rfl (by kernel_rfl) (by kernel_rfl) (by kernel_rfl) (by kernel_rfl) (by kernel_rfl) (sub_cons (by repeat (first | exact .head _ | refine .tail _ ?_)) (sub_cons (by repeat (first | exact .head _ | refine .tail _ ?_)) sub_nil)) (fun _ _ _ h => h) rfl ?_; clear hS a; intro a hS
                    refine Z_take0 (i := 7) hS rfl want_none (e_binS rfl rfl rfl) (listed' := [true, true, true, true, true, true, true, true, false, false, false, false, false, false, false, false, false, false, false, false, false, false, false, false, false, false, false, false, false, false, false, false, false, false, false, false, false, false, false, false, false]) rfl (by kernel_rfl) (by kernel_rfl) (by kernel_rfl) (fun _ _ _ h => h) rfl ?_; clear hS a; intro a hS
                    refine Z_take0 (i := 8) hS rfl want_none (e_move rfl) (listed' := [true, true, true, true, true, true, true, true, true, false, false, false, false, false, false, false, false, false, false, false, false, false, false, false, false, false, false, false, false, false, false, false, false, false, false, false, false, false, false, false, false]) rfl (by kernel_rfl) (by kernel_rfl) (by kernel_rfl) (fun _ _ _ h => h) rfl ?_; clear hS a; intro a hS
                    refine Z_merge 25 [true, true, true, true, true, true, true, true, true, true, true, true, true, true, true, true, false, false, false, false, false, false, false, false, false, false, false, false, false, false, false, false, false, false, false, false, false, false, false, false, false] 346 (.bool (decide (z.v.account = x.v.account ∧ z.v.state ≠ 3))) hS ?_ ?_
                    · intro hcM346
                      (first | refine g_splitD (t := 339) hS rfl ?_ ?_ | refine g_split (t := 339) hS rfl ?_ ?_) <;> (clear hS; intro hg339 hS)
                      ·
                        refine Z_take0 (i := 9) hS rfl (want_go rfl rfl) (e_move rfl) (listed' := [true, true, true, true, true, true, true, true, true, true, false, false, false, false, false, false, false, false, false, false, false, false, false, false, false, false, false, false, false, false, false, false, false, false, false, false, false, false, false, false, false]) rfl (by kernel_rfl) (by kernel_rfl) (by kernel_rfl) (fun _ _ _ h => h) rfl ?_; clear hS a; intro a hS
                        refine Z_take0 (i := 10) hS rfl (want_go rfl rfl) (e_move rfl) (listed' := [true, true, true, true, true, true, true, true, true, true, true, false, false, false, false, false, false, false, false, false, false, false, false, false, false, false, false, false, false, false, false, false, false, false, false, false, false, false, false, false, false]) rfl (by kernel_rfl) (by kernel_rfl) (by kernel_rfl) (fun _ _ _ h => h) rfl ?_; clear hS a; intro a hS
                        refine Z_take0 (i := 11) hS rfl (want_go rfl rfl) (e_ixN rfl rfl ty_sl41 ty_sz34 (by omega)) (listed' := [true, true, true, true, true, true, true, true, true, true, true, true, false, false, false, false, false, false, false, false, false, false, false, false, false, false, false, false, false, false, false, false, false, false, false, false, false, false, false, false, false]) rfl (by kernel_rfl) (by kernel_rfl) (by kernel_rfl) (fun _ _ _ h => h) rfl ?_; clear hS a; intro a hS
                        first | (refine Z_take0 (i := 12) hS rfl (want_go rfl rfl) (e_fa0 rfl ty_fo34_12) (listed' := [true, true, true, true, true, true, true, true, true, true, true, true, true, false, false, false, false, false, false, false, false, false, false, false, false, false, false, false, false, false, false, false, false, false, false, false, false, false, false, false, false]) rfl (by kernel_rfl) (by kernel_rfl) (by kernel_rfl) (fun _ _ _ h => h) rfl ?_; clear hS a; intro a hS) | (refine Z_take0 (i := 12) hS rfl (want_go rfl rfl) (e_faK rfl ty_fo34_12) (listed' := [true, true, true, true, true, true, true, true, true, true, true, true, true, false, false, false, false, false, false, false, false, false, false, false, false, false, false, false, false, false, false, false, false, false, false, false, false, false, false, false, false]) rfl (by kernel_rfl) (by kernel_rfl) (by kernel_rfl) (fun _ _ _ h => h) rfl ?_; clear hS a; intro a hS)
                        refine Z_take (i := 13) hS rfl (want_go rfl rfl) (e_loadC rfl ty_sc3 (fun w hh => inv_row (by repeat (first | exact .head _ | refine .tail _ ?_)) hz w hh 12 (.int .i64 z.v.state) rfl)) (listed' := [true, true, true, true, true, true, true, true, true, true, true, true, true, true, false, false, false, false, false, false, false, false, false, false, false, false, false, false, false, false, false, false, false, false, false, false, false, false, false, false, false]) rfl (by kernel_rfl) (by kernel_rfl) (by kernel_rfl) (by kernel_rfl) (by kernel_rfl) (sub_cons (by repeat (first | exact .head _ | refine .tail _ ?_)) (sub_cons (by repeat (first | exact .head _ | refine .tail _ ?_)) sub_nil)) (fun _ _ _ h => h) rfl ?_; clear hS a; intro a hS
                        refine Z_take0 (i := 14) hS rfl (want_go rfl rfl) (e_bin rfl rfl rfl) (listed' := [true, true, true, true, true, true, true, true, true, true, true, true, true, true, true, false, false, false, false, false, false, false, false, false, false, false, false, false, false, false, false, false, false, false, false, false, false, false, false, false, false]) rfl (by kernel_rfl) (by kernel_rfl) (by kernel_rfl) (fun _ _ _ h => h) rfl ?_; clear hS a; intro a hS
                        first | (refine Z_take0 (i := 15) hS rfl want_none (e_pick_t rfl rfl) (listed' := [true, true, true, true, true, true, true, true, true, true, true, true, true, true, true, true, false, false, false, false, false, false, false, false, false, false, false, false, false, false, false, false, false, false, false, false, false, false, false, false, false]) rfl (by kernel_rfl) (by kernel_rfl) (by kernel_rfl) (fun _ _ _ h => h) rfl ?_; clear hS a; intro a hS) | (refine Z_take0 (i := 15) hS rfl want_none (e_pick_f rfl rfl) (listed' := [true, true, true, true, true, true, true, true, true, true, true, true, true, true, true, true, false, false, false, false, false, false, false, false, false, false, false, false, false, false, false, false, false, false, false, false, false, false, false, false, false]) rfl (by kernel_rfl) (by kernel_rfl) (by kernel_rfl) (fun _ _ _ h => h) rfl ?_; clear hS a; intro a hS)
                        exact hcM346 a w (hS.ends 8 346 339 rfl (congrArg Value.bool (by first | rfl | (simp [hg339]; done) | (simp [hg339]; omega) | grind)) rfl rfl (by first | exact congrArg Value.bool (decide_eq_true hg339).symm | exact congrArg Value.bool hg339.symm | simp [hg339]) rfl)
                      ·
                        refine Z_none_t (i := 9) hS rfl rfl rfl (listed' := [true, true, true, true, true, true, true, true, true, true, false, false, false, false, false, false, false, false, false, false, false, false, false, false, false, false, false, false, false, false, false, false, false, false, false, false, false, false, false, false, false]) rfl (by kernel_rfl) (by kernel_rfl) (by kernel_rfl) (fun _ _ _ h => h) rfl ?_; clear hS a; intro a hS
                        refine Z_none_t (i := 10) hS rfl rfl rfl (listed' := [true, true, true, true, true, true, true, true, true, true, true, false, false, false, false, false, false, false, false, false, false, false, false, false, false, false, false, false, false, false, false, false, false, false, false, false, false, false, false, false, false]) rfl (by kernel_rfl) (by kernel_rfl) (by kernel_rfl) (fun _ _ _ h => h) rfl ?_; clear hS a; intro a hS
                        refine Z_none_t (i := 11) hS rfl rfl rfl (listed' := [true, true, true, true, true, true, true, true, true, true, true, true, false, false, false, false, false, false, false, false, false, false, false, false, false, false, false, false, false, false, false, false, false, false, false, false, false, false, false, false, false]) rfl (by kernel_rfl) (by kernel_rfl) (by kernel_rfl) (fun _ _ _ h => h) rfl ?_; clear hS a; intro a hS
                        refine Z_none_t (i := 12) hS rfl rfl rfl (listed' := [true, true, true, true, true, true, true, true, true, true, true, true, true, false, false, false, false, false, false, false, false, false, false, false, false, false, false, false, false, false, false, false, false, false, false, false, false, false, false, false, false]) rfl (by kernel_rfl) (by kernel_rfl) (by kernel_rfl) (fun _ _ _ h => h) rfl ?_; clear hS a; intro a hS
                        refine Z_none_t (i := 13) hS rfl rfl rfl (listed' := [true, true, true, true, true, true, true, true, true, true, true, true, true, true, false, false, false, false, false, false, false, false, false, false, false, false, false, false, false, false, false, false, false, false, false, false, false, false, false, false, false]) rfl (by kernel_rfl) (by kernel_rfl) (by kernel_rfl) (fun _ _ _ h => h) rfl ?_; clear hS a; intro a hS
                        refine Z_none_t (i := 14) hS rfl rfl rfl (listed' := [true, true, true, true, true, true, true, true, true, true, true, true, true, true, true, false, false, false, false, false, false, false, false, false, false, false, false, false, false, false, false, false, false, false, false, false, false, false, false, false, false]) rfl (by kernel_rfl) (by kernel_rfl) (by kernel_rfl) (fun _ _ _ h => h) rfl ?_; clear hS a; intro a hS
                        first | (refine Z_take0 (i := 15) hS rfl want_none (e_pick_t rfl rfl) (listed' := [true, true, true, true, true, true, true, true, true, true, true, true, true, true, true, true, false, false, false, false, false, false, false, false, false, false, false, false, false, false, false, false, false, false, false, false, false, false, false, false, false]) rfl (by kernel_rfl) (by kernel_rfl) (by kernel_rfl) (fun _ _ _ h => h) rfl ?_; clear hS a; intro a hS) | (refine Z_take0 (i := 15) hS rfl want_none (e_pick_f rfl rfl) (listed' := [true, true, true, true, true, true, true, true, true, true, true, true, true, true, true, true, false, false, false, false, false, false, false, false, false, false, false, false, false, false, false, false, false, false, false, false, false, false, false, false, false]) rfl (by kernel_rfl) (by kernel_rfl) (by kernel_rfl) (fun _ _ _ h => h) rfl ?_; clear hS a; intro a hS)
                        exact hcM346 a w (hS.ends 8 346 339 rfl (congrArg Value.bool (by first | rfl | (simp [hg339]; done) | (simp [hg339]; omega) | grind)) rfl rfl (by first | exact congrArg Value.bool (decide_eq_false hg339).symm | exact congrArg Value.bool hg339.symm | simp [hg339]) rfl)
                    · clear hS a; (try clear w); intro a w hS
                      refine Z_take0 (i := 16) hS rfl want_none (e_move rfl) (listed' := [true, true, true, true, true, true, true, true, true, true, true, true, true, true, true, true, true, false, false, false, false, false, false, false, false, false, false, false, false, false, false, false, false, false, false, false, false, false, false, false, false]) rfl (by kernel_rfl) (by kernel_rfl) (by kernel_rfl) (fun _ _ _ h => h) rfl ?_; clear hS a; intro a hS
                      refine Z_merge 20 [true, true, true, true, true, true, true, true, true, true, true, true, true, true, true, true, true, true, true, true, true, false, false, false, false, false, false, false, false, false, false, false, false, false, false, false, false, false, false, false, false] 351 (.bool (decide ((z.v.account = x.v.account ∧ z.v.state ≠ 3) ∧ x.v.state ≠ 3))) hS ?_ ?_
                      · intro hcM351
                        (first | refine g_splitD (t := 347) hS rfl ?_ ?_ | refine g_split (t := 347) hS rfl ?_ ?_) <;> (clear hS; intro hg347 hS)
                        ·
                          first | (refine Z_take0 (i := 17) hS rfl (want_go rfl rfl) (e_fa0 rfl ty_fo34_12) (listed' := [true, true, true, true, true, true, true, true, true, true, true, true, true, true, true, true, true, true, false, false, false, false, false, false, false, false, false, false, false, false, false, false, false, false, false, false, false, false, false, false, false]) rfl (by kernel_rfl) (by kernel_rfl) (by kernel_rfl) (fun _ _ _ h => h) rfl ?_; clear hS a; intro a hS) | (refine Z_take0 (i := 17) hS rfl (want_go rfl rfl) (e_faK rfl ty_fo34_12) (listed' := [true, true, true, true, true, true, true, true, true, true, true, true, true, true, true, true, true, true, false, false, false, false, false, false, false, false, false, false, false, false, false, false, false, false, false, false, false, false, false, false, false]) rfl (by kernel_rfl) (by kernel_rfl) (by kernel_rfl) (fun _ _ _ h => h) rfl ?_; clear hS a; intro a hS)
                          refine Z_take (i := 18) hS rfl (want_go rfl rfl) (e_load rfl (by repeat (first | exact .head _ | refine .tail _ ?_)) ty_sc3 (by rfl)) (listed' := [true, true, true, true, true, true, true, true, true, true, true, true, true, true, true, true, true, true, true, false, false, false, false, false, false, false, false, false, false, false, false, false, false, false, false, false, false, false, false, false, false]) rfl (by kernel_rfl) (by kernel_rfl) (by kernel_rfl) (by kernel_rfl) (by kernel_rfl) (sub_cons (by repeat (first | exact .head _ | refine .tail _ ?_)) (sub_cons (by repeat (first | exact .head _ | refine .tail _ ?_)) sub_nil)) (fun _ _ _ h => h) rfl ?_; clear hS a; intro a hS
                          refine Z_take0 (i := 19) hS rfl (want_go rfl rfl) (e_bin rfl rfl rfl) (listed' := [true, true, true, true, true, true, true, true, true, true, true, true, true, true, true, true, true, true, true, true, false, false, false, false, false, false, false, false, false, false, false, false, false, false, false, false, false, false, false, false, false]) rfl (by kernel_rfl) (by kernel_rfl) (by kernel_rfl) (fun _ _ _ h => h) rfl ?_; clear hS a; intro a hS
                          first | (refine Z_take0 (i := 20) hS rfl want_none (e_pick_t rfl rfl) (listed' := [true, true, true, true, true, true, true, true, true, true, true, true, true, true, true, true, true, true, true, true, true, false, false, false, false, false, false, false, false, false, false, false, false, false, false, false, false, false, false, false, false]) rfl (by kernel_rfl) (by kernel_rfl) (by kernel_rfl) (fun _ _ _ h => h) rfl ?_; clear hS a; intro a hS) | (refine Z_take0 (i := 20) hS rfl want_none (e_pick_f rfl rfl) (listed' := [true, true, true, true, true, true, true, true, true, true, true, true, true, true, true, true, true, true, true, true, true, false, false, false, false, false, false, false, false, false, false, false, false, false, false, false, false, false, false, false, false]) rfl (by kernel_rfl) (by kernel_rfl) (by kernel_rfl) (fun _ _ _ h => h) rfl ?_; clear hS a; intro a hS)
                          exact hcM351 a w (hS.ends 5 351 347 rfl (congrArg Value.bool (by first | rfl | (simp [hg347]; done) | (simp [hg347]; omega) | grind)) rfl rfl (by first | exact congrArg Value.bool (decide_eq_true hg347).symm | exact congrArg Value.bool hg347.symm | simp [hg347]) rfl)
                        ·
                          refine Z_none_t (i := 17) hS rfl rfl rfl (listed' := [true, true, true, true, true, true, true, true, true, true, true, true, true, true, true, true, true, true, false, false, false, false, false, false, false, false, false, false, false, false, false, false, false, false, false, false, false, false, false, false, false]) rfl (by kernel_rfl) (by kernel_rfl) (by kernel_rfl) (fun _ _ _ h => h) rfl ?_; clear hS a; intro a hS
                          refine Z_none_t (i := 18) hS rfl rfl rfl (listed' := [true, true, true, true, true, true, true, true, true, true, true, true, true, true, true, true, true, true, true, false, false, false, false, false, false, false, false, false, false, false, false, false, false, false, false, false, false, false, false, false, false]) rfl (by kernel_rfl) (by kernel_rfl) (by kernel_rfl) (fun _ _ _ h => h) rfl ?_; clear hS a; intro a hS
                          refine Z_none_t (i := 19) hS rfl rfl rfl (listed' := [true, true, true, true, true, true, true, true, true, true, true, true, true, true, true, true, true, true, true, true, false, false, false, false, false, false, false, false, false, false, false, false, false, false, false, false, false, false, false, false, false]) rfl (by kernel_rfl) (by kernel_rfl) (by kernel_rfl) (fun _ _ _ h => h) rfl ?_; clear hS a; intro a hS
                          first | (refine Z_take0 (i := 20) hS rfl want_none (e_pick_t rfl rfl) (listed' := [true, true, true, true, true, true, true, true, true, true, true, true, true, true, true, true, true, true, true, true, true, false, false, false, false, false, false, false, false, false, false, false, false, false, false, false, false, false, false, false, false]) rfl (by kernel_rfl) (by kernel_rfl) (by kernel_rfl) (fun _ _ _ h => h) rfl ?_; clear hS a; intro a hS) | (refine Z_take0 (i := 20) hS rfl want_none (e_pick_f rfl rfl) (listed' := [true, true, true, true, true, true, true, true, true, true, true, true, true, true, true, true, true, true, true, true, true, false, false, false, false, false, false, false, false, false, false, false, false, false, false, false, false, false, false, false, false]) rfl (by kernel_rfl) (by kernel_rfl) (by kernel_rfl) (fun _ _ _ h => h) rfl ?_; clear hS a; intro a hS)
                          exact hcM351 a w (hS.ends 5 351 347 rfl (congrArg Value.bool (by first | rfl | (simp [hg347]; done) | (simp [hg347]; omega) | grind)) rfl rfl (by first | exact congrArg Value.bool (decide_eq_false hg347).symm | exact congrArg Value.bool hg347.symm | simp [hg347]) rfl)
                      · clear hS a; (try clear w); intro a w hS
                        refine Z_take0 (i := 21) hS rfl want_none (e_move rfl) (listed' := [true, true, true, true, true, true, true, true, true, true, true, true, true, true, true, true, true, true, true, true, true, true, false, false, false, false, false, false, false, false, false, false, false, false, false, false, false, false, false, false, false]) rfl (by kernel_rfl) (by kernel_rfl) (by kernel_rfl) (fun _ _ _ h => h) rfl ?_; clear hS a; intro a hS
                        refine Z_merge 10 [true, true, true, true, true, true, true, true, true, true, true, true, true, true, true, true, true, true, true, true, true, true, true, true, true, true, true, true, true, true, true, false, false, false, false, false, false, false, false, false, false] 361 (.bool (decide (((z.v.account = x.v.account ∧ z.v.state ≠ 3) ∧ x.v.state ≠ 3) ∧ z.v.from_ < x.v.to_))) hS ?_ ?_
                        · intro hcM361
                          (first | refine g_splitD (t := 352) hS rfl ?_ ?_ | refine g_split (t := 352) hS rfl ?_ ?_) <;> (clear hS; intro hg352 hS)
                          ·
                            refine Z_take0 (i := 22) hS rfl (want_go rfl rfl) (e_move rfl) (listed' := [true, true, true, true, true, true, true, true, true, true, true, true, true, true, true, true, true, true, true, true, true, true, true, false, false, false, false, false, false, false, false, false, false, false, false, false, false, false, false, false, false]) rfl (by kernel_rfl) (by kernel_rfl) (by kernel_rfl) (fun _ _ _ h => h) rfl ?_; clear hS a; intro a hS
                            refine Z_take0 (i := 23) hS rfl (want_go rfl rfl) (e_move rfl) (listed' := [true, true, true, true, true, true, true, true, true, true, true, true, true, true, true, true, true, true, true, true, true, true, true, true, false, false, false, false, false, false, false, false, false, false, false, false, false, false, false, false, false]) rfl (by kernel_rfl) (by kernel_rfl) (by kernel_rfl) (fun _ _ _ h => h) rfl ?_; clear hS a; intro a hS
                            refine Z_take0 (i := 24) hS rfl (want_go rfl rfl) (e_ixN rfl rfl ty_sl41 ty_sz34 (by omega)) (listed' := [true, true, true, true, true, true, true, true, true, true, true, true, true, true, true, true, true, true, true, true, true, true, true, true, true, false, false, false, false, false, false, false, false, false, false, false, false, false, false, false, false]) rfl (by kernel_rfl) (by kernel_rfl) (by kernel_rfl) (fun _ _ _ h => h) rfl ?_; clear hS a; intro a hS
                            first | (refine Z_take0 (i := 25) hS rfl (want_go rfl rfl) (e_fa0 rfl ty_fo34_2) (listed' := [true, true, true, true, true, true, true, true, true, true, true, true, true, true, true, true, true, true, true, true, true, true, true, true, true, true, false, false, false, false, false, false, false, false, false, false, false, false, false, false, false]) rfl (by kernel_rfl) (by kernel_rfl) (by kernel_rfl) (fun _ _ _ h => h) rfl ?_; clear hS a; intro a hS) | (refine Z_take0 (i := 25) hS rfl (want_go rfl rfl) (e_faK rfl ty_fo34_2) (listed' := [true, true, true, true, true, true, true, true, true, true, true, true, true, true, true, true, true, true, true, true, true, true, true, true, true, true, false, false, false, false, false, false, false, false, false, false, false, false, false, false, false]) rfl (by kernel_rfl) (by kernel_rfl) (by kernel_rfl) (fun _ _ _ h => h) rfl ?_; clear hS a; intro a hS)
                            refine Z_take (i := 26) hS rfl (want_go rfl rfl) (e_loadC rfl ty_sc3 (fun w hh => inv_row (by repeat (first | exact .head _ | refine .tail _ ?_)) hz w hh 2 (.int .i64 z.v.from_) rfl)) (listed' := [true, true, true, true, true, true, true, true, true, true, true, true, true, true, true, true, true, true, true, true, true, true, true, true, true, true, true, false, false, false, false, false, false, false, false, false, false, false, false, false, false]) rfl (by kernel_rfl) (by kernel_rfl) (by kernel_rfl) (by kernel_rfl) (by kernel_rfl) (sub_cons (by repeat (first | exact .head _ | refine .tail _ ?_)) (sub_cons (by repeat (first | exact .head _ | refine .tail _ ?_)) sub_nil)) (fun _ _ _ h => h) rfl ?_; clear hS a; intro a hS
                            first | (refine Z_take0 (i := 27) hS rfl (want_go rfl rfl) (e_fa0 rfl ty_fo34_3) (listed' := [true, true, true, true, true, true, true, true, true, true, true, true, true, true, true, true, true, true, true, true, true, true, true, true, true, true, true, true, false, false, false, false, false, false, false, false, false, false, false, false, false]) rfl (by kernel_rfl) (by kernel_rfl) (by kernel_rfl) (fun _ _ _ h => h) rfl ?_; clear hS a; intro a hS) | (refine Z_take0 (i := 27) hS rfl (want_go rfl rfl) (e_faK rfl ty_fo34_3) (listed' := [true, true, true, true, true, true, true, true, true, true, true, true, true, true, true, true, true, true, true, true, true, true, true, true, true, true, true, true, false, false, false, false, false, false, false, false, false, false, false, false, false]) rfl (by kernel_rfl) (by kernel_rfl) (by kernel_rfl) (fun _ _ _ h => h) rfl ?_; clear hS a; intro a hS)
                            refine Z_take (i := 28) hS rfl (want_go rfl rfl) (e_load rfl (by repeat (first | exact .head _ | refine .tail _ ?_)) ty_sc3 (by rfl)) (listed' := [true, true, true, true, true, true, true, true, true, true, true, true, true, true, true, true, true, true, true, true, true, true, true, true, true, true, true, true, true, false, false, false, false, false, false, false, false, false, false, false, false]) rfl (by kernel_rfl) (by kernel_rfl) (by kernel_rfl) (by kernel_rfl) (by kernel_rfl) (sub_cons (by repeat (first | exact .head _ | refine .tail _ ?_)) (sub_cons (by repeat (first | exact .head _ | refine .tail _ ?_)) sub_nil)) (fun _ _ _ h => h) rfl ?_; clear hS a; intro a hS
                            refine Z_take0 (i := 29) hS rfl (want_go rfl rfl) (e_bin rfl rfl rfl) (listed' := [true, true, true, true, true, true, true, true, true, true, true, true, true, true, true, true, true, true, true, true, true, true, true, true, true, true, true, true, true, true, false, false, false, false, false, false, false, false, false, false, false]) rfl (by kernel_rfl) (by kernel_rfl) (by kernel_rfl) (fun _ _ _ h => h) rfl ?_; clear hS a; intro a hS
                            first | (refine Z_take0 (i := 30) hS rfl want_none (e_pick_t rfl rfl) (listed' := [true, true, true, true, true, true, true, true, true, true, true, true, true, true, true, true, true, true, true, true, true, true, true, true, true, true, true, true, true, true, true, false, false, false, false, false, false, false, false, false, false]) rfl (by kernel_rfl) (by kernel_rfl) (by kernel_rfl) (fun _ _ _ h => h) rfl ?_; clear hS a; intro a hS) | (refine Z_take0 (i := 30) hS rfl want_none (e_pick_f rfl rfl) (listed' := [true, true, true, true, true, true, true, true, true, true, true, true, true, true, true, true, true, true, true, true, true, true, true, true, true, true, true, true, true, true, true, false, false, false, false, false, false, false, false, false, false]) rfl (by kernel_rfl) (by kernel_rfl) (by kernel_rfl) (fun _ _ _ h => h) rfl ?_; clear hS a; intro a hS)
                            exact hcM361 a w (hS.ends 10 361 352 rfl (congrArg Value.bool (by first | rfl | (simp [hg352]; done) | (simp [hg352]; omega) | grind)) rfl rfl (by first | exact congrArg Value.bool (decide_eq_true hg352).symm | exact congrArg Value.bool hg352.symm | simp [hg352]) rfl)
                          ·
                            refine Z_none_t (i := 22) hS rfl rfl rfl (listed' := [true, true, true, true, true, true, true, true, true, true, true, true, true, true, true, true, true, true, true, true, true, true, true, false, false, false, false, false, false, false, false, false, false, false, false, false, false, false, false, false, false]) rfl (by kernel_rfl) (by kernel_rfl) (by kernel_rfl) (fun _ _ _ h => h) rfl ?_; clear hS a; intro a hS
                            refine Z_none_t (i := 23) hS rfl rfl rfl (listed' := [true, true, true, true, true, true, true, true, true, true, true, true, true, true, true, true, true, true, true, true, true, true, true, true, false, false, false, false, false, false, false, false, false, false, false, false, false, false, false, false, false]) rfl (by kernel_rfl) (by kernel_rfl) (by kernel_rfl) (fun _ _ _ h => h) rfl ?_; clear hS a; intro a hS
                            refine Z_none_t (i := 24) hS rfl rfl rfl (listed' := [true, true, true, true, true, true, true, true, true, true, true, true, true, true, true, true, true, true, true, true, true, true, true, true, true, false, false, false, false, false, false, false, false, false, false, false, false, false, false, false, false]) rfl (by kernel_rfl) (by kernel_rfl) (by kernel_rfl) (fun _ _ _ h => h) rfl ?_; clear hS a; intro a hS
                            refine Z_none_t (i := 25) hS rfl rfl rfl (listed' := [true, true, true, true, true, true, true, true, true, true, true, true, true, true, true, true, true, true, true, true, true, true, true, true, true, true, false, false, false, false, false, false, false, false, false, false, false, false, false, false, false]) rfl (by kernel_rfl) (by kernel_rfl) (by kernel_rfl) (fun _ _ _ h => h) rfl ?_; clear hS a; intro a hS
                            refine Z_none_t (i := 26) hS rfl rfl rfl (listed' := [true, true, true, true, true, true, true, true, true, true, true, true, true, true, true, true, true, true, true, true, true, true, true, true, true, true, true, false, false, false, false, false, false, false, false, false, false, false, false, false, false]) rfl (by kernel_rfl) (by kernel_rfl) (by kernel_rfl) (fun _ _ _ h => h) rfl ?_; clear hS a; intro a hS
                            refine Z_none_t (i := 27) hS rfl rfl rfl (listed' := [true, true, true, true, true, true, true, true, true, true, true, true, true, true, true, true, true, true, true, true, true, true, true, true, true, true, true, true, false, false, false, false, false, false, false, false, false, false, false, false, false]) rfl (by kernel_rfl) (by kernel_rfl) (by kernel_rfl) (fun _ _ _ h => h) rfl ?_; clear hS a; intro a hS
                            refine Z_none_t (i := 28) hS rfl rfl rfl (listed' := [true, true, true, true, true, true, true, true, true, true, true, true, true, true, true, true, true, true, true, true, true, true, true, true, true, true, true, true, true, false, false, false, false, false, false, false, false, false, false, false, false]) rfl (by kernel_rfl) (by kernel_rfl) (by kernel_rfl) (fun _ _ _ h => h) rfl ?_; clear hS a; intro a hS
                            refine Z_none_t (i := 29) hS rfl rfl rfl (listed' := [true, true, true, true, true, true, true, true, true, true, true, true, true, true, true, true, true, true, true, true, true, true, true, true, true, true, true, true, true, true, false, false, false, false, false, false, false, false, false, false, false]) rfl (by kernel_rfl) (by kernel_rfl) (by kernel_rfl) (fun _ _ _ h => h) rfl ?_; clear hS a; intro a hS
                            first | (refine Z_take0 (i := 30) hS rfl want_none (e_pick_t rfl rfl) (listed' := [true, true, true, true, true, true, true, true, true, true, true, true, true, true, true, true, true, true, true, true, true, true, true, true, true, true, true, true, true, true, true, false, false, false, false, false, false, false, false, false, false]) rfl (by kernel_rfl) (by kernel_rfl) (by kernel_rfl) (fun _ _ _ h => h) rfl ?_; clear hS a; intro a hS) | (refine Z_take0 (i := 30) hS rfl want_none (e_pick_f rfl rfl) (listed' := [true, true, true, true, true, true, true, true, true, true, true, true, true, true, true, true, true, true, true, true, true, true, true, true, true, true, true, true, true, true, true, false, false, false, false, false, false, false, false, false, false]) rfl (by kernel_rfl) (by kernel_rfl) (by kernel_rfl) (fun _ _ _ h => h) rfl ?_; clear hS a; intro a hS)
                            exact hcM361 a w (hS.ends 10 361 352 rfl (congrArg Value.bool (by first | rfl | (simp [hg352]; done) | (simp [hg352]; omega) | grind)) rfl rfl (by first | exact congrArg Value.bool (decide_eq_false hg352).symm | exact congrArg Value.bool hg352.symm | simp [hg352]) rfl)
                        · clear hS a; (try clear w); intro a w hS
                          refine Z_take0 (i := 31) hS rfl want_none (e_move rfl) (listed' := [true, true, true, true, true, true, true, true, true, true, true, true, true, true, true, true, true, true, true, true, true, true, true, true, true, true, true, true, true, true, true, true, false, false, false, false, false, false, false, false, false]) rfl (by kernel_rfl) (by kernel_rfl) (by kernel_rfl) (fun _ _ _ h => h) rfl ?_; clear hS a; intro a hS
                          refine Z_merge 0 [true, true, true, true, true, true, true, true, true, true, true, true, true, true, true, true, true, true, true, true, true, true, true, true, true, true, true, true, true, true, true, true, true, true, true, true, true, true, true, true, true] 371 (.bool (decide ((((z.v.account = x.v.account ∧ z.v.state ≠ 3) ∧ x.v.state ≠ 3) ∧ z.v.from_ < x.v.to_) ∧ x.v.from_ < z.v.to_))) hS ?_ ?_
                          · intro hcM371
                            (first | refine g_splitD (t := 362) hS rfl ?_ ?_ | refine g_split (t := 362) hS rfl ?_ ?_) <;> (clear hS; intro hg362 hS)
                            ·
                              first | (refine Z_take0 (i := 32) hS rfl (want_go rfl rfl) (e_fa0 rfl ty_fo34_2) (listed' := [true, true, true, true, true, true, true, true, true, true, true, true, true, true, true, true, true, true, true, true, true, true, true, true, true, true, true, true, true, true, true, true, true, false, false, false, false, false, false, false, false]) rfl (by kernel_rfl) (by kernel_rfl) (by kernel_rfl) (fun _ _ _ h => h) rfl ?_; clear hS a; intro a hS) | (refine Z_take0 (i := 32) hS rfl (want_go rfl rfl) (e_faK rfl ty_fo34_2) (listed' := [true, true, true, true, true, true, true, true, true, true, true, true, true, true, true, true, true, true, true, true, true, true, true, true, true, true, true, true, true, true, true, true, true, false, false, false, false, false, false, false, false]) rfl (by kernel_rfl) (by kernel_rfl) (by kernel_rfl) (fun _ _ _ h => h) rfl ?_; clear hS a; intro a hS)
                              refine Z_take (i := 33) hS rfl (want_go rfl rfl) (e_load rfl (by repeat (first | exact .head _ | refine .tail _ ?_)) ty_sc3 (by rfl)) (listed' := [true, true, true, true, true, true, true, true, true, true, true, true, true, true, true, true, true, true, true, true, true, true, true, true, true, true, true, true, true, true, true, true, true, true, false, false, false, false, false, false, false]) rfl (by kernel_rfl) (by kernel_rfl) (by kernel_rfl) (by kernel_rfl) (by kernel_rfl) (sub_cons (by repeat (first | exact .head _ | refine .tail _ ?_)) (sub_cons (by repeat (first | exact .head _ | refine .tail _ ?_)) sub_nil)) (fun _ _ _ h => h) rfl ?_; clear hS a; intro a hS
                              refine Z_take0 (i := 34) hS rfl (want_go rfl rfl) (e_move rfl) (listed' := [true, true, true, true, true, true, true, true, true, true, true, true, true, true, true, true, true, true, true, true, true, true, true, true, true, true, true, true, true, true, true, true, true, true, true, false, false, false, false, false, false]) rfl (by kernel_rfl) (by kernel_rfl) (by kernel_rfl) (fun _ _ _ h => h) rfl ?_; clear hS a; intro a hS
                              refine Z_take0 (i := 35) hS rfl (want_go rfl rfl) (e_move rfl) (listed' := [true, true, true, true, true, true, true, true, true, true, true, true, true, true, true, true, true, true, true, true, true, true, true, true, true, true, true, true, true, true, true, true, true, true, true, true, false, false, false, false, false]) rfl (by kernel_rfl) (by kernel_rfl) (by kernel_rfl) (fun _ _ _ h => h) rfl ?_; clear hS a; intro a hS
                              refine Z_take0 (i := 36) hS rfl (want_go rfl rfl) (e_ixN rfl rfl ty_sl41 ty_sz34 (by omega)) (listed' := [true, true, true, true, true, true, true, true, true, true, true, true, true, true, true, true, true, true, true, true, true, true, true, true, true, true, true, true, true, true, true, true, true, true, true, true, true, false, false, false, false]) rfl (by kernel_rfl) (by kernel_rfl) (by kernel_rfl) (fun _ _ _ h => h) rfl ?_; clear hS a; intro a hS
                              first | (refine Z_take0 (i := 37) hS rfl (want_go rfl rfl) (e_fa0 rfl ty_fo34_3) (listed' := [true, true, true, true, true, true, true, true, true, true, true, true, true, true, true, true, true, true, true, true, true, true, true, true, true, true, true, true, true, true, true, true, true, true, true, true, true, true, false, false, false]) rfl (by kernel_rfl) (by kernel_rfl) (by kernel_rfl) (fun _ _ _ h => h) rfl ?_; clear hS a; intro a hS) | (refine Z_take0 (i := 37) hS rfl (want_go rfl rfl) (e_faK rfl ty_fo34_3) (listed' := [true, true, true, true, true, true, true, true, true, true, true, true, true, true, true, true, true, true, true, true, true, true, true, true, true, true, true, true, true, true, true, true, true, true, true, true, true, true, false, false, false]) rfl (by kernel_rfl) (by kernel_rfl) (by kernel_rfl) (fun _ _ _ h => h) rfl ?_; clear hS a; intro a hS)
                              refine Z_take (i := 38) hS rfl (want_go rfl rfl) (e_loadC rfl ty_sc3 (fun w hh => inv_row (by repeat (first | exact .head _ | refine .tail _ ?_)) hz w hh 3 (.int .i64 z.v.to_) rfl)) (listed' := [true, true, true, true, true, true, true, true, true, true, true, true, true, true, true, true, true, true, true, true, true, true, true, true, true, true, true, true, true, true, true, true, true, true, true, true, true, true, true, false, false]) rfl (by kernel_rfl) (by kernel_rfl) (by kernel_rfl) (by kernel_rfl) (by kernel_rfl) (sub_cons (by repeat (first | exact .head _ | refine .tail _ ?_)) (sub_cons (by repeat (first | exact .head _ | refine .tail _ ?_)) sub_nil)) (fun _ _ _ h => h) rfl ?_; clear hS a; intro a hS
                              refine Z_take0 (i := 39) hS rfl (want_go rfl rfl) (e_bin rfl rfl rfl) (listed' := [true, true, true, true, true, true, true, true, true, true, true, true, true, true, true, true, true, true, true, true, true, true, true, true, true, true, true, true, true, true, true, true, true, true, true, true, true, true, true, true, false]) rfl (by kernel_rfl) (by kernel_rfl) (by kernel_rfl) (fun _ _ _ h => h) rfl ?_; clear hS a; intro a hS
                              first | (refine Z_take0 (i := 40) hS rfl want_none (e_pick_t rfl rfl) (listed' := [true, true, true, true, true, true, true, true, true, true, true, true, true, true, true, true, true, true, true, true, true, true, true, true, true, true, true, true, true, true, true, true, true, true, true, true, true, true, true, true, true]) rfl (by kernel_rfl) (by kernel_rfl) (by kernel_rfl) (fun _ _ _ h => h) rfl ?_; clear hS a; intro a hS) | (refine Z_take0 (i := 40) hS rfl want_none (e_pick_f rfl rfl) (listed' := [true, true, true, true, true, true, true, true, true, true, true, true, true, true, true, true, true, true, true, true, true, true, true, true, true, true, true, true, true, true, true, true, true, true, true, true, true, true, true, true, true]) rfl (by kernel_rfl) (by kernel_rfl) (by kernel_rfl) (fun _ _ _ h => h) rfl ?_; clear hS a; intro a hS)
                              exact hcM371 a w (hS.ends 10 371 362 rfl (congrArg Value.bool (by first | rfl | (simp [hg362]; done) | (simp [hg362]; omega) | grind)) rfl rfl (by first | exact congrArg Value.bool (decide_eq_true hg362).symm | exact congrArg Value.bool hg362.symm | simp [hg362]) rfl)
                            ·
                              refine Z_none_t (i := 32) hS rfl rfl rfl (listed' := [true, true, true, true, true, true, true, true, true, true, true, true, true, true, true, true, true, true, true, true, true, true, true, true, true, true, true, true, true, true, true, true, true, false, false, false, false, false, false, false, false]) rfl (by kernel_rfl) (by kernel_rfl) (by kernel_rfl) (fun _ _ _ h => h) rfl ?_; clear hS a; intro a hS
                              refine Z_none_t (i := 33) hS rfl rfl rfl (listed' := [true, true, true, true, true, true, true, true, true, true, true, true, true, true, true, true, true, true, true, true, true, true, true, true, true, true, true, true, true, true, true, true, true, true, false, false, false, false, false, false, false]) rfl (by kernel_rfl) (by kernel_rfl) (by kernel_rfl) (fun _ _ _ h => h) rfl ?_; clear hS a; intro a hS
                              refine Z_none_t (i := 34) hS rfl rfl rfl (listed' := [true, true, true, true, true, true, true, true, true, true, true, true, true, true, true, true, true, true, true, true, true, true, true, true, true, true, true, true, true, true, true, true, true, true, true, false, false, false, false, false, false]) rfl (by kernel_rfl) (by kernel_rfl) (by kernel_rfl) (fun _ _ _ h => h) rfl ?_; clear hS a; intro a hS
                              refine Z_none_t (i := 35) hS rfl rfl rfl (listed' := [true, true, true, true, true, true, true, true, true, true, true, true, true, true, true, true, true, true, true, true, true, true, true, true, true, true, true, true, true, true, true, true, true, true, true, true, false, false, false, false, false]) rfl (by kernel_rfl) (by kernel_rfl) (by kernel_rfl) (fun _ _ _ h => h) rfl ?_; clear hS a; intro a hS
                              refine Z_none_t (i := 36) hS rfl rfl rfl (listed' := [true, true, true, true, true, true, true, true, true, true, true, true, true, true, true, true, true, true, true, true, true, true, true, true, true, true, true, true, true, true, true, true, true, true, true, true, true, false, false, false, false]) rfl (by kernel_rfl) (by kernel_rfl) (by kernel_rfl) (fun _ _ _ h => h) rfl ?_; clear hS a; intro a hS
                              refine Z_none_t (i := 37) hS rfl rfl rfl (listed' := [true, true, true, true, true, true, true, true, true, true, true, true, true, true, true, true, true, true, true, true, true, true, true, true, true, true, true, true, true, true, true, true, true, true, true, true, true, true, false, false, false]) rfl (by kernel_rfl) (by kernel_rfl) (by kernel_rfl) (fun _ _ _ h => h) rfl ?_; clear hS a; intro a hS
                              refine Z_none_t (i := 38) hS rfl rfl rfl (listed' := [true, true, true, true, true, true, true, true, true, true, true, true, true, true, true, true, true, true, true, true, true, true, true, true, true, true, true, true, true, true, true, true, true, true, true, true, true, true, true, false, false]) rfl (by kernel_rfl) (by kernel_rfl) (by kernel_rfl) (fun _ _ _ h => h) rfl ?_; clear hS a; intro a hS
                              refine Z_none_t (i := 39) hS rfl rfl rfl (listed' := [true, true, true, true, true, true, true, true, true, true, true, true, true, true, true, true, true, true, true, true, true, true, true, true, true, true, true, true, true, true, true, true, true, true, true, true, true, true, true, true, false]) rfl (by kernel_rfl) (by kernel_rfl) (by kernel_rfl) (fun _ _ _ h => h) rfl ?_; clear hS a; intro a hS
                              first | (refine Z_take0 (i := 40) hS rfl want_none (e_pick_t rfl rfl) (listed' := [true, true, true, true, true, true, true, true, true, true, true, true, true, true, true, true, true, true, true, true, true, true, true, true, true, true, true, true, true, true, true, true, true, true, true, true, true, true, true, true, true]) rfl (by kernel_rfl) (by kernel_rfl) (by kernel_rfl) (fun _ _ _ h => h) rfl ?_; clear hS a; intro a hS) | (refine Z_take0 (i := 40) hS rfl want_none (e_pick_f rfl rfl) (listed' := [true, true, true, true, true, true, true, true, true, true, true, true, true, true, true, true, true, true, true, true, true, true, true, true, true, true, true, true, true, true, true, true, true, true, true, true, true, true, true, true, true]) rfl (by kernel_rfl) (by kernel_rfl) (by kernel_rfl) (fun _ _ _ h => h) rfl ?_; clear hS a; intro a hS)
                              exact hcM371 a w (hS.ends 10 371 362 rfl (congrArg Value.bool (by first | rfl | (simp [hg362]; done) | (simp [hg362]; omega) | grind)) rfl rfl (by first | exact congrArg Value.bool (decide_eq_false hg362).symm | exact congrArg Value.bool hg362.symm | simp [hg362]) rfl)
                          · clear hS a; (try clear w); intro a w hS
                            refine Z_done (by kernel_rfl) ?_
                            refine n_then ?_
                            replace hS := hS.is (t := 371) (c := false) rfl ((decide_eq_false hnm))
                            refine c_if_f hS rfl ?_
                            refine wp_skip ?_
                            refine n_block ?_
                            refine n_then ?_
                            refine c_region ?_
                            refine L_op (s_e hS (e_move rfl) rfl ?_); clear hS a; intro a hS
                            first | (refine L_op (s_e hS (e_binN rfl rfl rfl (by omega)) rfl ?_); clear hS a; intro a hS) | (refine L_op (s_e hS (e_bin rfl rfl rfl) rfl ?_); clear hS a; intro a hS)
                            refine L_op (s_e hS (e_assign rfl) rfl ?_); clear hS a; intro a hS
                            refine L_nil ?_
                            exact ⟨j + 1, by omega, hS.slots (by repeat (first | exact trivial | refine ⟨rfl, ?_⟩)), by omega⟩
                  ·
                    refine wp_exit ?_
                    refine x_then (x_then (x_hit ?_))
                    refine n_block ?_
                    refine n_then ?_
                    refine c_region ?_
                    refine L_op (s_e hS (e_move rfl) rfl ?_); clear hS a; intro a hS
                    first | (refine L_op (s_e hS (e_binN rfl rfl rfl (by omega)) rfl ?_); clear hS a; intro a hS) | (refine L_op (s_e hS (e_bin rfl rfl rfl) rfl ?_); clear hS a; intro a hS)
                    refine L_op (s_e hS (e_assign rfl) rfl ?_); clear hS a; intro a hS
                    refine L_nil ?_
                    exact ⟨k + 1, by omega, (hS.pick (by repeat (first | exact Pick.nil | (refine Pick.cons (by repeat (first | exact Rem.head | apply Rem.tail)) ?_)))).slots (by repeat (first | exact trivial | refine ⟨rfl, ?_⟩)), by omega⟩
          ·
            refine wp_exit ?_
            refine x_then (x_then (x_hit ?_))
            refine n_block ?_
            refine n_then ?_
            refine c_region ?_
            refine L_op (s_e hS (e_move rfl) rfl ?_); clear hS a; intro a hS
            first | (refine L_op (s_e hS (e_binN rfl rfl rfl (by omega)) rfl ?_); clear hS a; intro a hS) | (refine L_op (s_e hS (e_bin rfl rfl rfl) rfl ?_); clear hS a; intro a hS)
            refine L_op (s_e hS (e_assign rfl) rfl ?_); clear hS a; intro a hS
            refine L_nil ?_
            exact ⟨(i + 1, sv2, its2), by simp only; omega, (hS.pick (by repeat (first | exact Pick.nil | (refine Pick.cons (by repeat (first | exact Rem.head | apply Rem.tail)) ?_)))).slots (by repeat (first | exact trivial | refine ⟨rfl, ?_⟩)), by simp only; omega, hR2, by simp only; omega⟩
    ·
      refine wp_exit ?_
      refine x_then (x_then (x_hit ?_))
      refine n_then ?_
      refine c_seq ?_
      refine c_region ?_
      refine L_op (s_e hS (e_assign rfl) rfl ?_); clear hS a; intro a hS
      refine L_nil ?_
      refine n_then ?_
      refine wp_ret ?_
      refine c_ret1 hS Try.results4 (.tmp rfl) ?_
      exact ⟨rfl, hS.chg⟩
end Go.Proofs.Ytfiaobhkhedpiaa
