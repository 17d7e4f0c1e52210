/- Small words for the laws over a list of operations. -/
import Derived.Test.YtfiaobhkhedpiaaInv11
import Derived.Test.YtfiaobhkhedpiaaBig3
namespace Go.Proofs.Ytfiaobhkhedpiaa
open Go.RowKit

theorem inv_row {Γ : List Asn} {g c m' : Nat} {its : List IA} {m : Bool} (hm : invsA (.slice (some ⟨g, 0, none⟩) m' c) its m ∈ Γ) {i : Nat} {x : IA} (hx : its[i]? = some x) : ∀ w, Hd Γ w → ∀ j v, (encA x)[j]? = some v → w.cell? ⟨g, 0 + i * 13 + j, none⟩ = some v := by
  intro w hh j v hj
  have h : rowOk (.slice (some ⟨g, 0, none⟩) m' c) its w := (hh _ hm).1
  have h1 := flat_get encA 13 (fun _ => rfl) its i x hx j v hj
  have h2 := World.ownsRow.cells h (g := g) rfl _ _ h1
  rw [addr_add] at h2
  rw [← h2]; congr 2; omega
theorem inv_line {Γ : List Asn} {sv : Value} {its : List IA} {m : Bool} (hm : invsA sv its m ∈ Γ) {x : IA} (hx : x ∈ its) {i : Nat} {y : RLine} (hy : x.v.lines[i]? = some y) : ∀ w, Hd Γ w → ∀ j v, (encL y)[j]? = some v → w.cell? ⟨x.b, 0 + i * 4 + j, none⟩ = some v := by
  intro w hh j v hj
  exact row_of_own (enc := encL) (fun _ => rfl) ((hh _ hm).2 x hx) i (encL y) (by simp [hy]) j v hj
theorem All_F (bk : Nat) (sv : Value) (its : List IA) (hn : its.length ≤ 1000000) (hls : ∀ x ∈ its, x.v.lines.length ≤ 1000000) (w0 : World) (h : bookφ bk sv its w0) :
    NewC Try.prog 21 [.pointer (some ⟨bk, 0, none⟩)] w0 (fun y : { y : Value × List IA // vs y.2 = vs its } => y.1.1) (fun y => invsA y.1.1 y.1.2 true) :=
  (All_P bk sv its hn hls w0 h).mono fun e w' ⟨⟨y, hy⟩, he, hc, hY, hF⟩ => ⟨⟨y, by unfold vs; rw [hy]; unfold someL; rw [List.filter_eq_self.2 (fun _ _ => rfl)]⟩, he, hc, hY, hF⟩

theorem askE_zero (s cur : ByteArray) (at_ f t n : Int) : askE s cur at_ f t 0 n ≠ 0 := by
  unfold askE
  split
  · decide
  · split
    · assumption
    · split
      · decide
      · rw [if_pos (.inl (by decide))]; decide
theorem issE_nil (l : List Inv) (account cur : ByteArray) (at_ f t : Int) : issE l account cur at_ f t [] = askE account cur at_ f t 0 l.length ∧ issE l account cur at_ f t [] ≠ 0 := by
  have h : issE l account cur at_ f t [] = askE account cur at_ f t 0 l.length := by
    unfold issE; exact if_pos (askE_zero _ _ _ _ _ _)
  exact ⟨h, by rw [h]; exact askE_zero _ _ _ _ _ _⟩
set_option maxRecDepth 100000 in
theorem Issue_nil (bk : Nat) (sv : Value) (its : List IA) (account cur : ByteArray) (at_ f t : Int) (ad : Option Addr) (c : Nat) (hs : account.size ≤ 4611686018427387904) (w0 : World) (h : bookφ bk sv its w0) :
    PureC Try.prog 15 [.pointer (some ⟨bk, 0, none⟩), .string account, .string cur, .int .i64 at_, .int .i64 f, .int .i64 t, .slice ad 0 c] w0 (.tuple [.int .i64 0, .int .i64 (askE account cur at_ f t 0 its.length)].toArray) := by
  refine c_enter [(0, .pointer (some ⟨bk, 0, none⟩)), (1, .string account), (2, .string cur), (3, .int .i64 at_), (4, .int .i64 f), (5, .int .i64 t), (6, .slice ad 0 c)] [bookA bk sv its false] noB Try.func15 rfl Try.ntmps15 ⟨rfl, rfl, rfl, rfl, rfl, rfl, rfl, trivial⟩ rfl (okC (book_ok false h) okN) dis1 (mineC (by rfl) mineN) ?_
  intro a hS
  refine c_seq ?_
  refine c_region ?_
  refine L_op (s_e hS (e_assign rfl) rfl ?_); clear hS a; intro a hS
  refine L_op (s_e hS (e_assign rfl) rfl ?_); clear hS a; intro a hS
  refine L_nil ?_
  refine n_then ?_
  refine c_seq ?_
  refine c_seq ?_
  refine c_region ?_
  refine L_op (s_e hS (e_move rfl) rfl ?_); clear hS a; intro a hS
  refine L_op (s_e hS (e_move rfl) rfl ?_); clear hS a; intro a hS
  refine L_op (s_e hS (e_move rfl) rfl ?_); clear hS a; intro a hS
  refine L_op (s_e hS (e_move rfl) rfl ?_); clear hS a; intro a hS
  refine L_op (s_e hS (e_move rfl) rfl ?_); clear hS a; intro a hS
  refine L_op (s_e hS (e_move rfl) rfl ?_); clear hS a; intro a hS
  refine L_op (s_e hS (e_move rfl) rfl ?_); clear hS a; intro a hS
  refine L_op (s_e hS (e_len rfl rfl ty_sl22) rfl ?_); clear hS a; intro a hS
  refine L_op (s_callP hS (.cons rfl (.cons rfl (.cons rfl (.cons rfl (.cons rfl (.cons rfl (.cons rfl .nil))))))) cf55 rfl (asked_P bk sv its account cur at_ f t 0 hs _ (hS.get (X := bookA bk sv its false) (by repeat constructor))) ?_); clear hS a; (try clear w); intro a w hS
  refine L_op (s_e hS (e_assign rfl) rfl ?_); clear hS a; intro a hS
  refine L_nil ?_
  refine n_then ?_
  refine c_seq ?_
  refine c_region ?_
  refine L_op (s_e hS (e_move rfl) rfl ?_); clear hS a; intro a hS
  refine L_op (s_e hS (e_bin rfl rfl rfl) rfl ?_); clear hS a; intro a hS
  refine L_nil ?_
  refine n_then ?_
  replace hS := hS.is (t := 34) (c := true) rfl ((decide_eq_true (askE_zero _ _ _ _ _ _)))
  refine c_if_t hS rfl ?_
  refine c_seq ?_
  refine c_region ?_
  refine L_op (s_e hS (e_move rfl) rfl ?_); clear hS a; intro a hS
  refine L_op (s_e hS (e_assign rfl) rfl ?_); clear hS a; intro a hS
  refine L_op (s_e hS (e_assign rfl) rfl ?_); clear hS a; intro a hS
  refine L_nil ?_
  refine n_then ?_
  refine wp_ret ?_
  refine r_then ?_
  refine c_retN hS Try.results15 (.cons (.tmp rfl) (.cons (.tmp rfl) .nil)) rfl ?_
  exact ⟨rfl, hS.chg⟩

/-- an issue of an operation's lines, wherever they lie. -/
theorem Issue_A (bk : Nat) (sv : Value) (its : List IA) (account cur : ByteArray) (at_ f t : Int) (v : Value) (l : List RLine) (hs : account.size ≤ 4611686018427387904) (hn : its.length ≤ 1000000) (hls : ∀ x ∈ its, x.v.lines.length ≤ 1000000)
    (hlen : l.length ≤ 1000000) (hfit : ∀ x ∈ l, x.fits) (w0 : World) (h : bookφ bk sv its w0) (hl : LnAt v l w0) (hd : ∀ k, l ≠ [] → v.ownBlock = some k → ¬ bookF bk sv its k) :
    MutC Try.prog 15 [.pointer (some ⟨bk, 0, none⟩), .string account, .string cur, .int .i64 at_, .int .i64 f, .int .i64 t, v] w0 (bookA bk sv its true) (fun _ : { y : Value × List IA // vs y.2 = (issF (vs its) account cur at_ f t l).1 } => .tuple [.int .i64 (issF (vs its) account cur at_ f t l).2.1, .int .i64 (issF (vs its) account cur at_ f t l).2.2].toArray) (fun y => bookA bk y.1.1 y.1.2 true) := by
  rcases hl with ⟨rfl, a, c, rfl⟩ | ⟨b, off, c, hne, rfl, hr, hlt⟩
  · obtain ⟨e1, e2⟩ := issE_nil (vs its) account cur at_ f t
    have e : issF (vs its) account cur at_ f t [] = (vs its, 0, askE account cur at_ f t 0 its.length) := by
      unfold issF; rw [if_neg e2, e1, vs_len]
    exact pure_mut (Issue_nil bk sv its account cur at_ f t a c hs w0 h) (book_ok true h) ⟨(sv, its), by rw [e]⟩ (by rw [e]) rfl
  · exact Issue_F bk sv its account cur at_ f t (some (b, off)) c (fun e => by cases e) l hs hn hls hlen hfit w0 h hr (fun q hq => by cases hq; exact ⟨hlt, hd b hne rfl⟩)

theorem issF_len (l : List Inv) (account cur : ByteArray) (at_ f t : Int) (ln : List RLine) : (issF l account cur at_ f t ln).1.length ≤ l.length + 1 := by
  unfold issF; split <;> simp
theorem payF_len (add : Inv → Int → Inv) (l : List Inv) (number u : Int) : (payF add l number u).1.length = l.length := by
  unfold payF; split
  · rfl
  · split <;> simp
theorem voidF_len (l : List Inv) (number : Int) : (voidF l number).1.length = l.length := by
  unfold voidF; split
  · rfl
  · split <;> simp
theorem good_each {its : List IA} (h : rightB (vs its)) : ∀ x ∈ its, goodI x.v := fun x hx => (h.each x.v (List.mem_map.2 ⟨x, hx, rfl⟩)).togoodI
theorem lines_each {its : List IA} (h : rightB (vs its)) : ∀ x ∈ its, x.v.lines.length ≤ 1000000 := fun x hx => by have := (good_each h x hx).lines; omega
theorem its_len {a b : List IA} (h : vs a = vs b) : a.length = b.length := by rw [← vs_len a, h, vs_len]
theorem its_of {a : List IA} {k : Nat} (h : k < a.length) : ∃ x, a[k]? = some x := ⟨a[k], List.getElem?_eq_getElem h⟩
theorem vs_at {a b : List IA} (h : vs a = vs b) {k : Nat} {x : IA} (hx : a[k]? = some x) : ∃ y, b[k]? = some y ∧ y.v = x.v := by
  have h1 := vs_get hx
  rw [h] at h1
  unfold vs at h1
  rw [List.getElem?_map, Option.map_eq_some_iff] at h1
  exact h1
theorem no_meet {l : List Inv} (h : rightB l) {j k : Nat} {x y : Inv} (hjk : j < k) (hx : l[j]? = some x) (hy : l[k]? = some y) : ¬ ((((x.account = y.account ∧ x.state ≠ 3) ∧ y.state ≠ 3) ∧ x.from_ < y.to_) ∧ y.from_ < x.to_) :=
  fun ⟨⟨⟨⟨h1, h2⟩, h3⟩, h4⟩, h5⟩ => h.apart j k x y hjk hx hy ⟨h1, h2, h3, h4, h5⟩
end Go.Proofs.Ytfiaobhkhedpiaa
