/- Rates: Set, walked. -/
import Derived.Test.YtheofhegdjjfgaaFx2
namespace Go.Proofs.Ytheofhegdjjfgaa
open Go.RowKit

theorem own_get {Γ : List Asn} {α : Type} {enc : α → List Value} {s E g c m : Nat} {xs : List α} (hl : ∀ x, (enc x).length = s) (hm : ownA E s (.slice (some ⟨g, 0, none⟩) m c) m (xs.flatMap enc) ∈ Γ) {i : Nat} {x : α} (hx : xs[i]? = some x) : ∀ w, Hd Γ w → ∀ j v, (enc x)[j]? = some v → w.cell? ⟨g, 0 + i * s + j, none⟩ = some v := by
  intro w hh j v hj
  have h : w.ownsRow 0 E s (.slice (some ⟨g, 0, none⟩) m c) m (xs.flatMap enc) := hh _ hm
  have h1 := flat_get enc s hl xs i x hx j v hj
  have h2 := World.ownsRow.cells h (g := g) rfl _ _ h1
  rw [addr_add] at h2
  rw [← h2]; congr 2; omega
theorem set_mem {α : Type} {l : List α} {i : Nat} {y x : α} (h : x ∈ l.set i y) : x = y ∨ x ∈ l.eraseIdx i := by
  obtain ⟨j, hj, rfl⟩ := List.mem_iff_getElem.1 h
  by_cases e : i = j
  · subst e; left; simp
  · right
    rw [List.mem_eraseIdx_iff_getElem]
    exact ⟨j, by simpa using hj, fun h => e h.symm, by rw [List.getElem_set_ne e]⟩
theorem all_mem {α : Type} {l : List α} {i : Nat} {y x : α} (hy : l[i]? = some y) (h : x ∈ l) : x = y ∨ x ∈ l.eraseIdx i := by
  obtain ⟨hlt, e⟩ := List.getElem?_eq_some_iff.1 hy
  refine set_mem (i := i) (y := y) ?_
  rw [← e, List.set_getElem_self]; exact h
theorem pw_set {α : Type} {R : α → α → Prop} {l : List α} (h : l.Pairwise R) {i : Nat} {y : α} (hy : ∀ x ∈ l.eraseIdx i, R x y ∧ R y x) : (l.set i y).Pairwise R := by
  rw [List.pairwise_iff_getElem] at h ⊢
  intro j k hj hk hjk
  have mem : ∀ q (hq : q < l.length), q ≠ i → l[q] ∈ l.eraseIdx i := fun q hq hne => List.mem_eraseIdx_iff_getElem.2 ⟨q, hq, hne, rfl⟩
  simp only [List.length_set] at hj hk
  rw [List.getElem_set, List.getElem_set]
  by_cases e1 : i = j
  · by_cases e2 : i = k
    · omega
    · rw [if_pos e1, if_neg e2]; exact (hy _ (mem k hk (fun h => e2 h.symm))).2
  · by_cases e2 : i = k
    · rw [if_neg e1, if_pos e2]; exact (hy _ (mem j hj (fun h => e1 h.symm))).1
    · rw [if_neg e1, if_neg e2]; exact h j k hj hk hjk
theorem pw_erase {α : Type} {R : α → α → Prop} (hR : ∀ x y, R x y → R y x) {l : List α} (h : l.Pairwise R) {i : Nat} {y : α} (hy : l[i]? = some y) : ∀ x ∈ l.eraseIdx i, R x y ∧ R y x := by
  intro x hx
  obtain ⟨j, hj, hne, rfl⟩ := List.mem_eraseIdx_iff_getElem.1 hx
  obtain ⟨hi, rfl⟩ := List.getElem?_eq_some_iff.1 hy
  rw [List.pairwise_iff_getElem] at h
  rcases Nat.lt_or_ge j i with h1 | h1
  · have := h j i hj hi h1; exact ⟨this, hR _ _ this⟩
  · have := h i j hi hj (by omega); exact ⟨hR _ _ this, this⟩
theorem pw_snoc {α : Type} {R : α → α → Prop} {l : List α} (h : l.Pairwise R) {y : α} (hy : ∀ x ∈ l, R x y) : (l ++ [y]).Pairwise R :=
  List.pairwise_append.2 ⟨h, List.pairwise_singleton _ _, fun x hx z hz => by obtain rfl := List.mem_singleton.1 hz; exact hy x hx⟩

/-- what a rate that is set makes of them. -/
def setR (own : ByteArray) (l : List (ByteArray × List (Int × Int))) (n : Int) (c : ByteArray) (at_ nano : Int) : List (ByteArray × List (Int × Int)) × Int :=
  if setE own l n c at_ nano = 0 then (putL l c (rowsOf l c ++ [(at_, nano)]), n + 1) else (l, n)
theorem setE_zero {own : ByteArray} {l : List (ByteArray × List (Int × Int))} {n : Int} {c : ByteArray} {at_ nano : Int} (h1 : ¬ c = own) (h2 : ¬ askF c at_ ≠ 0) (h3 : ¬ (nano < 1 ∨ 1125899906842624 < nano)) (h4 : ¬ ∃ x, (rowsOf l c).getLast? = some x ∧ at_ ≤ x.1) (h5 : ¬ 500 ≤ n) : setE own l n c at_ nano = 0 := by
  unfold setE; rw [if_neg h1, if_neg h2, if_neg h3, if_neg h4, if_neg h5]
theorem entT_len (es : List RA) : (entT es).length = es.length := by simp [entT]

set_option maxRecDepth 100000 in
theorem fxSet_is (bk mb : Nat) (own : ByteArray) (es : List RA) (n at_ nano : Int) (i : Nat) (e : RA) (he : es[i]? = some e) (_ : -9223372036854775808 ≤ at_ ∧ at_ ≤ 9223372036854775807) (w0 : World) (h : ratesφ bk mb own es n w0) :
    MutC Try.prog 19 [.pointer (some ⟨bk, 0, none⟩), .string e.cur, .int .i64 at_, .int .i64 nano] w0 (ratesA bk mb own es n true) (fun _ : { y : List RA × Int // (vsT y.1, y.2) = setR own (vsT es) n e.cur at_ nano } => .int .i64 (setE own (vsT es) n e.cur at_ nano)) (fun y => ratesA bk mb own y.1.1 y.1.2 true) := by
  obtain ⟨a1, a2, a3⟩ := rates_apart h
  have wf := h.wf
  have hn0 := wf.n
  have hem := List.mem_of_getElem? he
  have hro : rowsOf (vsT es) e.cur = e.rows := rowsOf_is wf.keys he
  have hix : idxM (entT es) e.cur 0 = some (i, e.v) := by rw [is_cur wf.keys he 0, Nat.zero_add]
  have hlk : lkM (entT es) e.cur (.slice none 0 0) = e.v := by unfold lkM; rw [hix]
  have hel := wf.len e hem
  obtain ⟨q, cq, hev⟩ := own_slice (h.rows e hem)
  have hsh : q = none ∧ e.rows.length = 0 ∨ ∃ g, q = some ⟨g, 0, none⟩ := by
    rcases (h.rows e hem).2 with ⟨e1, e2⟩ | ⟨g, cap, cur, e1, _⟩
    · rw [hev] at e1; injection e1 with e3; exact .inl ⟨e3, e2⟩
    · rw [hev] at e1; injection e1 with e3; exact .inr ⟨g, e3⟩
  have hpe := pw_erase (fun x y h k h1 h2 => h k h2 h1) wf.apart he
  have same : setE own (vsT es) n e.cur at_ nano ≠ 0 → (vsT es, n) = setR own (vsT es) n e.cur at_ nano := fun hne => by unfold setR; rw [if_neg hne]
  have hback : ∀ {a : Act} {w : World} {L : List (Nat × Value)} {Δ : List Asn}, St 76 (ratesF bk mb es) w0 a w L (bkT bk mb own n :: smapA mb (entT es) :: ownA 93 3 (.slice q e.rows.length cq) e.rows.length (e.rows.flatMap (encT e.cur)) :: rowsT (es.eraseIdx i) :: Δ) → (ratesA bk mb own es n true).ok w := fun {a w L Δ} hS => rates_ok true ⟨hS.get (X := bkT bk mb own n) (by repeat constructor), hS.get (X := smapA mb (entT es)) (by repeat constructor), fun x hx => by
      rcases all_mem he hx with rfl | hx
      · show w.ownsRow 0 93 3 x.v x.rows.length (x.rows.flatMap (encT x.cur))
        rw [hev]; exact hS.get (X := ownA 93 3 (.slice q x.rows.length cq) x.rows.length (x.rows.flatMap (encT x.cur))) (by repeat constructor)
      · exact hS.get (X := rowsT (es.eraseIdx i)) (by repeat constructor) x hx, wf⟩
  refine c_enter [(0, .pointer (some ⟨bk, 0, none⟩)), (1, .string e.cur), (2, .int .i64 at_), (3, .int .i64 nano)] [bkT bk mb own n, smapA mb (entT es), ownA 93 3 (.slice q e.rows.length cq) e.rows.length (e.rows.flatMap (encT e.cur)), rowsT (es.eraseIdx i)] (ratesF bk mb es) Try.func19 rfl Try.ntmps19 ⟨rfl, rfl, rfl, rfl, trivial⟩ rfl (okC (ok_blk h.bk) (okC ⟨fun b hb => by obtain rfl : b = mb := hb; exact (Array.getElem?_eq_some_iff.1 h.mp).1, fun w' hw => by show w'.heap[mb]? = _; rw [hw mb rfl]; exact h.mp⟩ (okC (ok_own (hev ▸ h.rows e hem)) (okC (rows_ok fun x hx => h.rows x (List.mem_of_mem_eraseIdx hx)) okN)))) (disC (sepC (fun b hb hb' => a1 ((show b = bk from hb).symm.trans (show b = mb from hb'))) (sepC (fun b hb hb' => a2 e hem (by rw [hev, ← show b = bk from hb]; exact hb')) (sepC (fun b hb hb' => by obtain ⟨x, hx, hxb⟩ := hb'; exact a2 x (List.mem_of_mem_eraseIdx hx) (by rw [← show b = bk from hb]; exact hxb)) sepN))) (disC (sepC (fun b hb hb' => a3 e hem (by rw [hev, ← show b = mb from hb]; exact hb')) (sepC (fun b hb hb' => by obtain ⟨x, hx, hxb⟩ := hb'; exact a3 x (List.mem_of_mem_eraseIdx hx) (by rw [← show b = mb from hb]; exact hxb)) sepN)) (disC (sepC (fun b hb hb' => by obtain ⟨x, hx, hxb⟩ := hb'; exact (hpe x hx).1 b hxb (by rw [hev]; exact hb)) sepN) dis1))) (mineO (fun b hb => .inl hb) (mineO (fun b hb => .inr (.inl hb)) (mineO (fun b hb => .inr (.inr ⟨e, hem, by rw [hev]; exact hb⟩)) (mineO (fun b hb => by obtain ⟨x, hx, hxb⟩ := hb; exact .inr (.inr ⟨x, List.mem_of_mem_eraseIdx hx, hxb⟩)) mineN)))) ?_
  intro a hS
  refine c_seq ?_
  refine c_region ?_
  refine L_op (s_e hS (e_assign rfl) rfl ?_); clear hS a; intro a hS
  refine L_nil ?_
  refine n_then ?_
  refine c_seq ?_
  refine c_seq ?_
  refine c_region ?_
  refine L_op (s_e hS (e_move rfl) rfl ?_); clear hS a; intro a hS
  refine L_op (s_e hS (e_move rfl) rfl ?_); clear hS a; intro a hS
  refine L_op (s_e hS (e_nilCheck rfl) rfl ?_); clear hS a; intro a hS
  first | (refine L_op (s_e hS (e_fa0 rfl ty_fo114_0) rfl ?_); clear hS a; intro a hS) | (refine L_op (s_e hS (e_faK rfl ty_fo114_0) rfl ?_); clear hS a; intro a hS)
  refine L_op (s_e hS (e_load rfl (by repeat constructor) ty_sc9 (by rfl)) rfl ?_); clear hS a; intro a hS
  refine L_op (s_e hS (e_binS rfl rfl rfl) rfl ?_); clear hS a; intro a hS
  refine L_nil ?_
  refine n_then ?_
  first | refine c_ifD hS rfl (fun hc16 => ?_) (fun hc16 => ?_) | refine c_if hS rfl (fun hc16 => ?_) (fun hc16 => ?_)
  ·
    refine c_seq ?_
    refine c_region ?_
    refine L_op (s_e hS (e_assign rfl) rfl ?_); clear hS a; intro a hS
    refine L_nil ?_
    refine n_then ?_
    refine wp_ret ?_
    refine r_then ?_
    refine c_ret1 hS Try.results19 (.tmp rfl) ?_
    have hE : setE own (vsT es) n e.cur at_ nano = 18 := if_pos hc16
    exact ⟨⟨(es, n), same (by rw [hE]; decide)⟩, by (try dsimp only); rw [hE], hS.chg, hback hS, fun b hb => .inl hb⟩
  ·
    refine wp_skip ?_
    refine n_then ?_
    refine c_seq ?_
    refine c_seq ?_
    refine c_region ?_
    refine L_op (s_e hS (e_move rfl) rfl ?_); clear hS a; intro a hS
    refine L_op (s_e hS (e_move rfl) rfl ?_); clear hS a; intro a hS
    refine L_op (s_callP hS (.cons rfl (.cons rfl .nil)) cf53 rfl (fxasked_P e.cur at_ _) ?_); clear hS a; (try clear w); intro a w hS
    refine L_op (s_e hS (e_assign rfl) rfl ?_); clear hS a; intro a hS
    refine L_nil ?_
    refine n_then ?_
    refine c_seq ?_
    refine c_region ?_
    refine L_op (s_e hS (e_move rfl) rfl ?_); clear hS a; intro a hS
    refine L_op (s_e hS (e_bin rfl rfl rfl) rfl ?_); clear hS a; intro a hS
    refine L_nil ?_
    refine n_then ?_
    first | refine c_ifD hS rfl (fun hc21 => ?_) (fun hc21 => ?_) | refine c_if hS rfl (fun hc21 => ?_) (fun hc21 => ?_)
    ·
      refine c_seq ?_
      refine c_region ?_
      refine L_op (s_e hS (e_move rfl) rfl ?_); clear hS a; intro a hS
      refine L_op (s_e hS (e_assign rfl) rfl ?_); clear hS a; intro a hS
      refine L_nil ?_
      refine n_then ?_
      refine wp_ret ?_
      refine r_then ?_
      refine c_ret1 hS Try.results19 (.tmp rfl) ?_
      have hE : setE own (vsT es) n e.cur at_ nano = askF e.cur at_ := by unfold setE; rw [if_neg hc16, if_pos hc21]
      exact ⟨⟨(es, n), same (by rw [hE]; exact hc21)⟩, by (try dsimp only); rw [hE], hS.chg, hback hS, fun b hb => .inl hb⟩
    ·
      refine wp_skip ?_
      refine n_then ?_
      refine c_seq ?_
      refine c_region ?_
      refine L_op (s_e hS (e_move rfl) rfl ?_); clear hS a; intro a hS
      refine L_op (s_e hS (e_nilCheck rfl) rfl ?_); clear hS a; intro a hS
      first | (refine L_op (s_e hS (e_fa0 rfl ty_fo114_1) rfl ?_); clear hS a; intro a hS) | (refine L_op (s_e hS (e_faK rfl ty_fo114_1) rfl ?_); clear hS a; intro a hS)
      refine L_op (s_e hS (e_load rfl (by repeat constructor) ty_sc112 (by rfl)) rfl ?_); clear hS a; intro a hS
      refine L_op (s_e hS (e_move rfl) rfl ?_); clear hS a; intro a hS
      refine L_op (s_e hS (e_lookupS rfl rfl ty_mp112 ty_u9 ty_zv91 (by repeat constructor)) rfl ?_); clear hS a; intro a hS
      rw [hlk, hev] at hS
      refine L_op (s_e hS (e_assign rfl) rfl ?_); clear hS a; intro a hS
      refine L_nil ?_
      refine n_then ?_
      refine c_seq ?_
      refine wp_block ?_
      refine c_seq ?_
      refine c_region ?_
      refine L_op (s_e hS (e_move rfl) rfl ?_); clear hS a; intro a hS
      refine L_op (s_e hS (e_bin rfl rfl rfl) rfl ?_); clear hS a; intro a hS
      refine L_op (s_e hS (e_move rfl) rfl ?_); clear hS a; intro a hS
      refine L_merge 3 35 (.bool (decide (nano < 1 ∨ 1125899906842624 < nano))) hS ?_ ?_
      · intro hcM35
        (first | refine g_splitD (t := 32) hS rfl ?_ ?_ | refine g_split (t := 32) hS rfl ?_ ?_) <;> (clear hS; intro hg32 hS)
        ·
          refine L_skip_f hS rfl rfl rfl ?_; clear hS a; intro a hS
          refine L_skip_f hS rfl rfl rfl ?_; clear hS a; intro a hS
          first | (refine L_op (s_e hS (e_pick_t rfl rfl) rfl ?_); clear hS a; intro a hS) | (refine L_op (s_e hS (e_pick_f rfl rfl) rfl ?_); clear hS a; intro a hS)
          exact hcM35 _ _ (hS.ends 4 35 32 rfl (congrArg Value.bool (by first | rfl | (simp [hg32]; done) | (simp [hg32]; omega) | grind)) rfl rfl (by first | exact congrArg Value.bool (decide_eq_true hg32).symm | exact congrArg Value.bool hg32.symm | simp [hg32]) rfl)
        ·
          refine L_go hS rfl rfl (s_e hS (e_move rfl) rfl ?_); clear hS a; intro a hS
          refine L_go hS rfl rfl (s_e hS (e_bin rfl rfl rfl) rfl ?_); clear hS a; intro a hS
          first | (refine L_op (s_e hS (e_pick_t rfl rfl) rfl ?_); clear hS a; intro a hS) | (refine L_op (s_e hS (e_pick_f rfl rfl) rfl ?_); clear hS a; intro a hS)
          exact hcM35 _ _ (hS.ends 4 35 32 rfl (congrArg Value.bool (by first | rfl | (simp [hg32]; done) | (simp [hg32]; omega) | grind)) rfl rfl (by first | exact congrArg Value.bool (decide_eq_false hg32).symm | exact congrArg Value.bool hg32.symm | simp [hg32]) rfl)
      · clear hS a; (try clear w); intro a w hS
        simp only [List.drop_succ_cons, List.drop_zero]
        refine L_op (s_e hS (e_assign rfl) rfl ?_); clear hS a; intro a hS
        refine L_nil ?_
        refine n_then ?_
        first | refine c_ifD hS rfl (fun hc29 => ?_) (fun hc29 => ?_) | refine c_if hS rfl (fun hc29 => ?_) (fun hc29 => ?_)
        ·
          refine c_seq ?_
          refine c_region ?_
          refine L_op (s_e hS (e_assign rfl) rfl ?_); clear hS a; intro a hS
          refine L_nil ?_
          refine n_then ?_
          refine wp_ret ?_
          refine r_block (r_then ?_)
          refine c_ret1 hS Try.results19 (.tmp rfl) ?_
          have hE : setE own (vsT es) n e.cur at_ nano = 6 := by unfold setE; rw [if_neg hc16, if_neg hc21, if_pos hc29]
          exact ⟨⟨(es, n), same (by rw [hE]; decide)⟩, by (try dsimp only); rw [hE], hS.chg, hback hS, fun b hb => .inl hb⟩
        ·
          refine c_seq ?_
          refine c_region ?_
          refine L_op (s_e hS (e_move rfl) rfl ?_); clear hS a; intro a hS
          refine L_op (s_e hS (e_len rfl rfl ty_sl91) rfl ?_); clear hS a; intro a hS
          refine L_op (s_e hS (e_bin rfl rfl rfl) rfl ?_); clear hS a; intro a hS
          refine L_op (s_e hS (e_move rfl) rfl ?_); clear hS a; intro a hS
          refine L_merge 10 50 (.bool (decide (∃ x, (rowsOf (vsT es) e.cur).getLast? = some x ∧ at_ ≤ x.1))) hS ?_ ?_
          · intro hcM50
            (first | refine g_splitD (t := 40) hS rfl ?_ ?_ | refine g_split (t := 40) hS rfl ?_ ?_) <;> (clear hS; intro hg40 hS)
            ·
              obtain ⟨x, hx⟩ : ∃ x, e.rows[e.rows.length - 1]? = some x := ⟨e.rows[e.rows.length - 1]'(by omega), List.getElem?_eq_getElem (by omega)⟩
              have hlast : e.rows.getLast? = some x := by rw [List.getLast?_eq_getElem?]; exact hx
              obtain ⟨g, rfl⟩ : ∃ g, q = some ⟨g, 0, none⟩ := by
                rcases hsh with ⟨_, h0⟩ | hg
                · exfalso; omega
                · exact hg
              have hnat : ((e.rows.length : Int) - 1).toNat = e.rows.length - 1 := by omega
              refine L_go hS rfl rfl (s_e hS (e_move rfl) rfl ?_); clear hS a; intro a hS
              refine L_go hS rfl rfl (s_e hS (e_move rfl) rfl ?_); clear hS a; intro a hS
              refine L_go hS rfl rfl (s_e hS (e_len rfl rfl ty_sl91) rfl ?_); clear hS a; intro a hS
              first | (refine L_go hS rfl rfl (s_e hS (e_binN rfl rfl rfl (by omega)) rfl ?_); clear hS a; intro a hS) | (refine L_go hS rfl rfl (s_e hS (e_bin rfl rfl rfl) rfl ?_); clear hS a; intro a hS)
              refine L_go hS rfl rfl (s_e hS (e_ix rfl rfl ty_sl91 ty_sz93 (by omega)) rfl ?_); clear hS a; intro a hS
              first | (refine L_go hS rfl rfl (s_e hS (e_fa0 rfl ty_fo93_1) rfl ?_); clear hS a; intro a hS) | (refine L_go hS rfl rfl (s_e hS (e_faK rfl ty_fo93_1) rfl ?_); clear hS a; intro a hS)
              refine L_go hS rfl rfl (s_e hS (e_loadC rfl ty_sc3 (fun w hh => by rw [hnat]; exact own_get (enc := encT e.cur) (fun _ => rfl) (by repeat constructor) hx w hh 1 (.int .i64 x.1) rfl)) rfl ?_); clear hS a; intro a hS
              refine L_go hS rfl rfl (s_e hS (e_move rfl) rfl ?_); clear hS a; intro a hS
              refine L_go hS rfl rfl (s_e hS (e_bin rfl rfl rfl) rfl ?_); clear hS a; intro a hS
              first | (refine L_op (s_e hS (e_pick_t rfl rfl) rfl ?_); clear hS a; intro a hS) | (refine L_op (s_e hS (e_pick_f rfl rfl) rfl ?_); clear hS a; intro a hS)
              exact hcM50 _ _ (hS.ends 11 50 40 rfl (congrArg Value.bool (by rw [hro]; exact decide_eq_decide.2 ⟨fun hh => ⟨x, hlast, hh⟩, fun ⟨z, hz, hh⟩ => by rw [hlast] at hz; cases hz; exact hh⟩)) rfl rfl (by first | exact congrArg Value.bool (decide_eq_true hg40).symm | exact congrArg Value.bool hg40.symm | simp [hg40]) rfl)
            ·
              refine L_skip_t hS rfl rfl rfl ?_; clear hS a; intro a hS
              refine L_skip_t hS rfl rfl rfl ?_; clear hS a; intro a hS
              refine L_skip_t hS rfl rfl rfl ?_; clear hS a; intro a hS
              refine L_skip_t hS rfl rfl rfl ?_; clear hS a; intro a hS
              refine L_skip_t hS rfl rfl rfl ?_; clear hS a; intro a hS
              refine L_skip_t hS rfl rfl rfl ?_; clear hS a; intro a hS
              refine L_skip_t hS rfl rfl rfl ?_; clear hS a; intro a hS
              refine L_skip_t hS rfl rfl rfl ?_; clear hS a; intro a hS
              refine L_skip_t hS rfl rfl rfl ?_; clear hS a; intro a hS
              first | (refine L_op (s_e hS (e_pick_t rfl rfl) rfl ?_); clear hS a; intro a hS) | (refine L_op (s_e hS (e_pick_f rfl rfl) rfl ?_); clear hS a; intro a hS)
              exact hcM50 _ _ (hS.ends 11 50 40 rfl (congrArg Value.bool (by rw [hro]; exact (decide_eq_false (fun ⟨z, hz, hh⟩ => by rw [show e.rows = [] from List.eq_nil_of_length_eq_zero (by omega)] at hz; cases hz)).symm)) rfl rfl (by first | exact congrArg Value.bool (decide_eq_false hg40).symm | exact congrArg Value.bool hg40.symm | simp [hg40]) rfl)
          · clear hS a; (try clear w); intro a w hS
            simp only [List.drop_succ_cons, List.drop_zero]
            refine L_op (s_e hS (e_assign rfl) rfl ?_); clear hS a; intro a hS
            refine L_nil ?_
            refine n_then ?_
            first | refine c_ifD hS rfl (fun hc36 => ?_) (fun hc36 => ?_) | refine c_if hS rfl (fun hc36 => ?_) (fun hc36 => ?_)
            ·
              refine c_seq ?_
              refine c_region ?_
              refine L_op (s_e hS (e_assign rfl) rfl ?_); clear hS a; intro a hS
              refine L_nil ?_
              refine n_then ?_
              refine wp_ret ?_
              refine r_block (r_then ?_)
              refine c_ret1 hS Try.results19 (.tmp rfl) ?_
              have hE : setE own (vsT es) n e.cur at_ nano = 34 := by unfold setE; rw [if_neg hc16, if_neg hc21, if_neg hc29, if_pos hc36]
              exact ⟨⟨(es, n), same (by rw [hE]; decide)⟩, by (try dsimp only); rw [hE], hS.chg, hback hS, fun b hb => .inl hb⟩
            ·
              refine c_seq ?_
              refine c_region ?_
              refine L_op (s_e hS (e_move rfl) rfl ?_); clear hS a; intro a hS
              refine L_op (s_e hS (e_nilCheck rfl) rfl ?_); clear hS a; intro a hS
              first | (refine L_op (s_e hS (e_fa0 rfl ty_fo114_2) rfl ?_); clear hS a; intro a hS) | (refine L_op (s_e hS (e_faK rfl ty_fo114_2) rfl ?_); clear hS a; intro a hS)
              refine L_op (s_e hS (e_load rfl (by repeat constructor) ty_sc3 (by rfl)) rfl ?_); clear hS a; intro a hS
              refine L_op (s_e hS (e_bin rfl rfl rfl) rfl ?_); clear hS a; intro a hS
              refine L_op (s_e hS (e_assign rfl) rfl ?_); clear hS a; intro a hS
              refine L_nil ?_
              refine n_then ?_
              first | refine c_ifD hS rfl (fun hc51 => ?_) (fun hc51 => ?_) | refine c_if hS rfl (fun hc51 => ?_) (fun hc51 => ?_)
              ·
                refine c_seq ?_
                refine c_region ?_
                refine L_op (s_e hS (e_assign rfl) rfl ?_); clear hS a; intro a hS
                refine L_nil ?_
                refine n_then ?_
                refine wp_ret ?_
                refine r_block (r_then ?_)
                refine c_ret1 hS Try.results19 (.tmp rfl) ?_
                have hE : setE own (vsT es) n e.cur at_ nano = 9 := by unfold setE; rw [if_neg hc16, if_neg hc21, if_neg hc29, if_neg hc36, if_pos hc51]
                exact ⟨⟨(es, n), same (by rw [hE]; decide)⟩, by (try dsimp only); rw [hE], hS.chg, hback hS, fun b hb => .inl hb⟩
              ·
                refine wp_skip ?_
                refine n_block ?_
                refine n_then ?_
                refine c_seq ?_
                refine c_drawS [12] (by kernel_rfl) hS (sub_cons (X := bkT bk mb own n) (by repeat constructor) (sub_cons (X := smapA mb (entT es)) (by repeat constructor) sub_nil)) ?_; clear hS; (try clear w); intro w hS
                simp only [List.length_cons, List.length_nil, Nat.zero_add, Nat.reduceAdd, List.replicate]
                refine Z_take0 (i := 0) hS rfl want_none (e_move rfl) (listed' := [true, false, false, false, false, false, false, false, false, false, false, false, false]) rfl (by kernel_rfl) (by kernel_rfl) (by kernel_rfl) (fun _ _ _ h => h) rfl ?_; clear hS a; intro a hS
                refine Z_take0 (i := 1) hS rfl want_none (e_nilCheck rfl) (listed' := [true, true, false, false, false, false, false, false, false, false, false, false, false]) rfl (by kernel_rfl) (by kernel_rfl) (by kernel_rfl) (fun _ _ _ h => h) rfl ?_; clear hS a; intro a hS
                first | (refine Z_take0 (i := 2) hS rfl want_none (e_fa0 rfl ty_fo114_1) (listed' := [true, true, true, false, false, false, false, false, false, false, false, false, false]) rfl (by kernel_rfl) (by kernel_rfl) (by kernel_rfl) (fun _ _ _ h => h) rfl ?_; clear hS a; intro a hS) | (refine Z_take0 (i := 2) hS rfl want_none (e_faK rfl ty_fo114_1) (listed' := [true, true, true, false, false, false, false, false, false, false, false, false, false]) rfl (by kernel_rfl) (by kernel_rfl) (by kernel_rfl) (fun _ _ _ h => h) rfl ?_; clear hS a; intro a hS)
                refine Z_take (i := 3) hS rfl want_none (e_load rfl (by repeat constructor) ty_sc112 (by rfl)) (listed' := [true, true, true, true, false, false, false, false, false, false, false, false, false]) rfl (by kernel_rfl) (by kernel_rfl) (by kernel_rfl) (by kernel_rfl) (by kernel_rfl) (sub_cons (by repeat constructor) (sub_cons (by repeat constructor) sub_nil)) (fun _ _ _ h => h) rfl ?_; clear hS a; intro a hS
                refine Z_take0 (i := 4) hS rfl want_none (e_move rfl) (listed' := [true, true, true, true, true, false, false, false, false, false, false, false, false]) rfl (by kernel_rfl) (by kernel_rfl) (by kernel_rfl) (fun _ _ _ h => h) rfl ?_; clear hS a; intro a hS
                refine Z_take0 (i := 5) hS rfl want_none (e_move rfl) (listed' := [true, true, true, true, true, true, false, false, false, false, false, false, false]) rfl (by kernel_rfl) (by kernel_rfl) (by kernel_rfl) (fun _ _ _ h => h) rfl ?_; clear hS a; intro a hS
                refine Z_take0 (i := 6) hS rfl want_none (e_move rfl) (listed' := [true, true, true, true, true, true, true, false, false, false, false, false, false]) rfl (by kernel_rfl) (by kernel_rfl) (by kernel_rfl) (fun _ _ _ h => h) rfl ?_; clear hS a; intro a hS
                refine Z_take0 (i := 7) hS rfl want_none (e_move rfl) (listed' := [true, true, true, true, true, true, true, true, false, false, false, false, false]) rfl (by kernel_rfl) (by kernel_rfl) (by kernel_rfl) (fun _ _ _ h => h) rfl ?_; clear hS a; intro a hS
                refine Z_take0 (i := 8) hS rfl want_none (e_move rfl) (listed' := [true, true, true, true, true, true, true, true, true, false, false, false, false]) rfl (by kernel_rfl) (by kernel_rfl) (by kernel_rfl) (fun _ _ _ h => h) rfl ?_; clear hS a; intro a hS
                refine Z_take0 (i := 9) hS rfl want_none (e_build ty_z93 ty_pl93 (.one rfl rfl rfl (by repeat constructor) (.one rfl rfl rfl (by repeat constructor) (.one rfl rfl rfl (by repeat constructor) .nil)))) (listed' := [true, true, true, true, true, true, true, true, true, true, false, false, false]) rfl (by kernel_rfl) (by kernel_rfl) (by kernel_rfl) (fun _ _ _ h => h) rfl ?_; clear hS a; intro a hS
                refine Z_one (i := 10) rfl (want_none a hS.sl) (listed' := [true, true, true, true, true, true, true, true, true, true, true, false, false]) rfl (by kernel_rfl) (s_bslice hS ty_sl91 ty_sz93 ty_z93 rfl rfl rfl rfl (.agg rfl rfl .nil) rfl ?_); clear hS a; (try clear w); intro a w b67 hS
                refine Z_and hS (sub_cons (by repeat constructor) (sub_cons (by repeat constructor) sub_nil)) ?_
                refine Z_one (i := 11) rfl (want_none a hS.sl) (listed' := [true, true, true, true, true, true, true, true, true, true, true, true, false]) rfl (by kernel_rfl) (s_append1 hS rfl rfl ty_sl91 ty_sz93 ty_by93 ty_z93 rfl rfl rfl (by repeat constructor) (by repeat constructor) (by rfl) (by rfl) (fun _ => (by repeat constructor)) (by omega) ?_); clear hS a; (try clear w); intro v68 a w hv68 hS
                refine Z_and hS (sub_cons (by repeat constructor) (sub_cons (by repeat constructor) sub_nil)) ?_
                refine Z_one (i := 12) rfl (want_none a hS.sl) (listed' := [true, true, true, true, true, true, true, true, true, true, true, true, true]) rfl (by kernel_rfl) (s_mapUp hS rfl rfl rfl ty_mp112 ty_u9 (by repeat constructor) ?_); clear hS; (try clear w); intro w hS
                refine Z_last (by simp) ?_
                refine Z_done (by kernel_rfl) ?_
                refine n_then ?_
                refine c_seq ?_
                refine c_region ?_
                refine L_op (s_e hS (e_move rfl) rfl ?_); clear hS a; intro a hS
                refine L_op (s_e hS (e_nilCheck rfl) rfl ?_); clear hS a; intro a hS
                first | (refine L_op (s_e hS (e_fa0 rfl ty_fo114_2) rfl ?_); clear hS a; intro a hS) | (refine L_op (s_e hS (e_faK rfl ty_fo114_2) rfl ?_); clear hS a; intro a hS)
                refine L_op (s_e hS (e_load rfl (by repeat constructor) ty_sc3 (by rfl)) rfl ?_); clear hS a; intro a hS
                first | (refine L_op (s_e hS (e_binN rfl rfl rfl (by omega)) rfl ?_); clear hS a; intro a hS) | (refine L_op (s_e hS (e_bin rfl rfl rfl) rfl ?_); clear hS a; intro a hS)
                refine L_op (s_e hS (e_nilCheck rfl) rfl ?_); clear hS a; intro a hS
                first | (refine L_op (s_e hS (e_fa0 rfl ty_fo114_2) rfl ?_); clear hS a; intro a hS) | (refine L_op (s_e hS (e_faK rfl ty_fo114_2) rfl ?_); clear hS a; intro a hS)
                refine L_op (s_store hS rfl rfl rfl ty_sz3 (by repeat constructor) (by repeat constructor) ?_); clear hS; (try clear w); intro w hS
                refine L_nil ?_
                refine n_then ?_
                refine c_seq ?_
                refine c_region ?_
                refine L_op (s_e hS (e_assign rfl) rfl ?_); clear hS a; intro a hS
                refine L_nil ?_
                refine n_then ?_
                refine wp_ret ?_
                refine c_ret1 hS Try.results19 (.tmp rfl) ?_
                have hE := setE_zero (own := own) (l := vsT es) (n := n) (c := e.cur) (at_ := at_) (nano := nano) hc16 hc21 hc29 hc36 hc51
                have hent : entT (es.set i ⟨e.cur, e.rows ++ [(at_, nano)], v68⟩) = setM (entT es) e.cur v68 := by
                  rw [setM_some v68 hix, Nat.sub_zero]; simp [entT, List.map_set]
                have hrow : w.ownsRow 0 93 3 v68 (e.rows ++ [(at_, nano)]).length ((e.rows ++ [(at_, nano)]).flatMap (encT e.cur)) := by
                  have h1 : w.ownsRow 0 93 3 v68 (e.rows.length + 1) (e.rows.flatMap (encT e.cur) ++ ([.string e.cur, .int .i64 at_, .int .i64 nano] ++ [])) := hS.get (X := ownA 93 3 v68 (e.rows.length + 1) _) (by repeat constructor)
                  simpa [encT] using h1
                have hsep := hS.sep (X := ownA 93 3 v68 (e.rows.length + 1) (e.rows.flatMap (encT e.cur) ++ ([.string e.cur, .int .i64 at_, .int .i64 nano] ++ []))) (Y := rowsT (es.eraseIdx i)) (by repeat (first | exact Rem.head | apply Rem.tail)) (by repeat constructor)
                have hrest := hS.get (X := rowsT (es.eraseIdx i)) (by repeat constructor)
                have hset : (vsT (es.set i ⟨e.cur, e.rows ++ [(at_, nano)], v68⟩), n + 1) = setR own (vsT es) n e.cur at_ nano := by
                  unfold setR; rw [if_pos hE, hro, putL_is wf.keys _ he]; simp [vsT, List.map_set]
                refine ⟨⟨(es.set i ⟨e.cur, e.rows ++ [(at_, nano)], v68⟩, n + 1), hset⟩, by (try dsimp only); rw [hE], hS.chg, rates_ok true ⟨hS.get (X := .blk bk [.string own, .map (some mb), .int .i64 (n + 1)] 114) (by repeat constructor), by rw [hent]; exact hS.get (X := smapA mb (setM (entT es) e.cur v68)) (by repeat constructor), fun x hx => ?_, ⟨?_, ?_, fun x hx => ?_, by show 0 ≤ n + 1; omega, by show n + 1 ≤ 500; omega⟩⟩, fun b hb => ?_⟩
                · rcases set_mem hx with rfl | hx
                  · exact hrow
                  · exact hrest x hx
                · exact pw_set wf.keys (fun x hx => (pw_erase (fun x y h => Ne.symm h) wf.keys he x hx))
                · exact pw_set wf.apart (fun x hx => ⟨fun k h1 h2 => hsep k h2 ⟨x, hx, h1⟩, fun k h1 h2 => hsep k h1 ⟨x, hx, h2⟩⟩)
                · rcases set_mem hx with rfl | hx
                  · simp only [List.length_append, List.length_cons, List.length_nil]; omega
                  · have := wf.len x (List.mem_of_mem_eraseIdx hx); simp only; omega
                · rcases hb with hb | hb | ⟨x, hx, hxb⟩
                  · exact .inl (.inl hb)
                  · exact .inl (.inr (.inl hb))
                  · rcases set_mem hx with rfl | hx
                    · exact (hS.mine (ownA 93 3 v68 (e.rows.length + 1) _) (by repeat constructor) rfl b hxb).symm
                    · exact .inl (.inr (.inr ⟨x, List.mem_of_mem_eraseIdx hx, hxb⟩))

set_option maxRecDepth 100000 in
theorem fxSet_no (bk mb : Nat) (own c : ByteArray) (es : List RA) (n at_ nano : Int) (hno : ∀ e ∈ es, e.cur ≠ c) (_ : -9223372036854775808 ≤ at_ ∧ at_ ≤ 9223372036854775807) (w0 : World) (h : ratesφ bk mb own es n w0) :
    MutC Try.prog 19 [.pointer (some ⟨bk, 0, none⟩), .string c, .int .i64 at_, .int .i64 nano] w0 (ratesA bk mb own es n true) (fun _ : { y : List RA × Int // (vsT y.1, y.2) = setR own (vsT es) n c at_ nano } => .int .i64 (setE own (vsT es) n c at_ nano)) (fun y => ratesA bk mb own y.1.1 y.1.2 true) := by
  obtain ⟨a1, a2, a3⟩ := rates_apart h
  have wf := h.wf
  have hn0 := wf.n
  have hro : rowsOf (vsT es) c = [] := rowsOf_no hno
  have hix : idxM (entT es) c 0 = none := no_cur hno 0
  have hlk : lkM (entT es) c (.slice none 0 0) = .slice none 0 0 := by unfold lkM; rw [hix]
  have same : setE own (vsT es) n c at_ nano ≠ 0 → (vsT es, n) = setR own (vsT es) n c at_ nano := fun hne => by unfold setR; rw [if_neg hne]
  have hback : ∀ {a : Act} {w : World} {L : List (Nat × Value)} {Δ : List Asn}, St 76 (ratesF bk mb es) w0 a w L (bkT bk mb own n :: smapA mb (entT es) :: rowsT es :: Δ) → (ratesA bk mb own es n true).ok w := fun {a w L Δ} hS => rates_ok true ⟨hS.get (X := bkT bk mb own n) (by repeat constructor), hS.get (X := smapA mb (entT es)) (by repeat constructor), hS.get (X := rowsT es) (by repeat constructor), wf⟩
  refine c_enter [(0, .pointer (some ⟨bk, 0, none⟩)), (1, .string c), (2, .int .i64 at_), (3, .int .i64 nano)] [bkT bk mb own n, smapA mb (entT es), rowsT es] (ratesF bk mb es) Try.func19 rfl Try.ntmps19 ⟨rfl, rfl, rfl, rfl, trivial⟩ rfl (okC (ok_blk h.bk) (okC ⟨fun b hb => by obtain rfl : b = mb := hb; exact (Array.getElem?_eq_some_iff.1 h.mp).1, fun w' hw => by show w'.heap[mb]? = _; rw [hw mb rfl]; exact h.mp⟩ (okC (rows_ok h.rows) okN))) (disC (sepC (fun b hb hb' => a1 ((show b = bk from hb).symm.trans (show b = mb from hb'))) (sepC (fun b hb hb' => by obtain ⟨x, hx, hxb⟩ := hb'; exact a2 x hx (by rw [← show b = bk from hb]; exact hxb)) sepN)) (disC (sepC (fun b hb hb' => by obtain ⟨x, hx, hxb⟩ := hb'; exact a3 x hx (by rw [← show b = mb from hb]; exact hxb)) sepN) dis1)) (mineO (fun b hb => .inl hb) (mineO (fun b hb => .inr (.inl hb)) (mineO (fun b hb => .inr (.inr hb)) mineN))) ?_
  intro a hS
  refine c_seq ?_
  refine c_region ?_
  refine L_op (s_e hS (e_assign rfl) rfl ?_); clear hS a; intro a hS
  refine L_nil ?_
  refine n_then ?_
  refine c_seq ?_
  refine c_seq ?_
  refine c_region ?_
  refine L_op (s_e hS (e_move rfl) rfl ?_); clear hS a; intro a hS
  refine L_op (s_e hS (e_move rfl) rfl ?_); clear hS a; intro a hS
  refine L_op (s_e hS (e_nilCheck rfl) rfl ?_); clear hS a; intro a hS
  first | (refine L_op (s_e hS (e_fa0 rfl ty_fo114_0) rfl ?_); clear hS a; intro a hS) | (refine L_op (s_e hS (e_faK rfl ty_fo114_0) rfl ?_); clear hS a; intro a hS)
  refine L_op (s_e hS (e_load rfl (by repeat constructor) ty_sc9 (by rfl)) rfl ?_); clear hS a; intro a hS
  refine L_op (s_e hS (e_binS rfl rfl rfl) rfl ?_); clear hS a; intro a hS
  refine L_nil ?_
  refine n_then ?_
  first | refine c_ifD hS rfl (fun hc16 => ?_) (fun hc16 => ?_) | refine c_if hS rfl (fun hc16 => ?_) (fun hc16 => ?_)
  ·
    refine c_seq ?_
    refine c_region ?_
    refine L_op (s_e hS (e_assign rfl) rfl ?_); clear hS a; intro a hS
    refine L_nil ?_
    refine n_then ?_
    refine wp_ret ?_
    refine r_then ?_
    refine c_ret1 hS Try.results19 (.tmp rfl) ?_
    have hE : setE own (vsT es) n c at_ nano = 18 := if_pos hc16
    exact ⟨⟨(es, n), same (by rw [hE]; decide)⟩, by (try dsimp only); rw [hE], hS.chg, hback hS, fun b hb => .inl hb⟩
  ·
    refine wp_skip ?_
    refine n_then ?_
    refine c_seq ?_
    refine c_seq ?_
    refine c_region ?_
    refine L_op (s_e hS (e_move rfl) rfl ?_); clear hS a; intro a hS
    refine L_op (s_e hS (e_move rfl) rfl ?_); clear hS a; intro a hS
    refine L_op (s_callP hS (.cons rfl (.cons rfl .nil)) cf53 rfl (fxasked_P c at_ _) ?_); clear hS a; (try clear w); intro a w hS
    refine L_op (s_e hS (e_assign rfl) rfl ?_); clear hS a; intro a hS
    refine L_nil ?_
    refine n_then ?_
    refine c_seq ?_
    refine c_region ?_
    refine L_op (s_e hS (e_move rfl) rfl ?_); clear hS a; intro a hS
    refine L_op (s_e hS (e_bin rfl rfl rfl) rfl ?_); clear hS a; intro a hS
    refine L_nil ?_
    refine n_then ?_
    first | refine c_ifD hS rfl (fun hc21 => ?_) (fun hc21 => ?_) | refine c_if hS rfl (fun hc21 => ?_) (fun hc21 => ?_)
    ·
      refine c_seq ?_
      refine c_region ?_
      refine L_op (s_e hS (e_move rfl) rfl ?_); clear hS a; intro a hS
      refine L_op (s_e hS (e_assign rfl) rfl ?_); clear hS a; intro a hS
      refine L_nil ?_
      refine n_then ?_
      refine wp_ret ?_
      refine r_then ?_
      refine c_ret1 hS Try.results19 (.tmp rfl) ?_
      have hE : setE own (vsT es) n c at_ nano = askF c at_ := by unfold setE; rw [if_neg hc16, if_pos hc21]
      exact ⟨⟨(es, n), same (by rw [hE]; exact hc21)⟩, by (try dsimp only); rw [hE], hS.chg, hback hS, fun b hb => .inl hb⟩
    ·
      refine wp_skip ?_
      refine n_then ?_
      refine c_seq ?_
      refine c_region ?_
      refine L_op (s_e hS (e_move rfl) rfl ?_); clear hS a; intro a hS
      refine L_op (s_e hS (e_nilCheck rfl) rfl ?_); clear hS a; intro a hS
      first | (refine L_op (s_e hS (e_fa0 rfl ty_fo114_1) rfl ?_); clear hS a; intro a hS) | (refine L_op (s_e hS (e_faK rfl ty_fo114_1) rfl ?_); clear hS a; intro a hS)
      refine L_op (s_e hS (e_load rfl (by repeat constructor) ty_sc112 (by rfl)) rfl ?_); clear hS a; intro a hS
      refine L_op (s_e hS (e_move rfl) rfl ?_); clear hS a; intro a hS
      refine L_op (s_e hS (e_lookupS rfl rfl ty_mp112 ty_u9 ty_zv91 (by repeat constructor)) rfl ?_); clear hS a; intro a hS
      rw [hlk] at hS
      refine L_op (s_e hS (e_assign rfl) rfl ?_); clear hS a; intro a hS
      refine L_nil ?_
      refine n_then ?_
      refine c_seq ?_
      refine wp_block ?_
      refine c_seq ?_
      refine c_region ?_
      refine L_op (s_e hS (e_move rfl) rfl ?_); clear hS a; intro a hS
      refine L_op (s_e hS (e_bin rfl rfl rfl) rfl ?_); clear hS a; intro a hS
      refine L_op (s_e hS (e_move rfl) rfl ?_); clear hS a; intro a hS
      refine L_merge 3 35 (.bool (decide (nano < 1 ∨ 1125899906842624 < nano))) hS ?_ ?_
      · intro hcM35
        (first | refine g_splitD (t := 32) hS rfl ?_ ?_ | refine g_split (t := 32) hS rfl ?_ ?_) <;> (clear hS; intro hg32 hS)
        ·
          refine L_skip_f hS rfl rfl rfl ?_; clear hS a; intro a hS
          refine L_skip_f hS rfl rfl rfl ?_; clear hS a; intro a hS
          first | (refine L_op (s_e hS (e_pick_t rfl rfl) rfl ?_); clear hS a; intro a hS) | (refine L_op (s_e hS (e_pick_f rfl rfl) rfl ?_); clear hS a; intro a hS)
          exact hcM35 _ _ (hS.ends 4 35 32 rfl (congrArg Value.bool (by first | rfl | (simp [hg32]; done) | (simp [hg32]; omega) | grind)) rfl rfl (by first | exact congrArg Value.bool (decide_eq_true hg32).symm | exact congrArg Value.bool hg32.symm | simp [hg32]) rfl)
        ·
          refine L_go hS rfl rfl (s_e hS (e_move rfl) rfl ?_); clear hS a; intro a hS
          refine L_go hS rfl rfl (s_e hS (e_bin rfl rfl rfl) rfl ?_); clear hS a; intro a hS
          first | (refine L_op (s_e hS (e_pick_t rfl rfl) rfl ?_); clear hS a; intro a hS) | (refine L_op (s_e hS (e_pick_f rfl rfl) rfl ?_); clear hS a; intro a hS)
          exact hcM35 _ _ (hS.ends 4 35 32 rfl (congrArg Value.bool (by first | rfl | (simp [hg32]; done) | (simp [hg32]; omega) | grind)) rfl rfl (by first | exact congrArg Value.bool (decide_eq_false hg32).symm | exact congrArg Value.bool hg32.symm | simp [hg32]) rfl)
      · clear hS a; (try clear w); intro a w hS
        simp only [List.drop_succ_cons, List.drop_zero]
        refine L_op (s_e hS (e_assign rfl) rfl ?_); clear hS a; intro a hS
        refine L_nil ?_
        refine n_then ?_
        first | refine c_ifD hS rfl (fun hc29 => ?_) (fun hc29 => ?_) | refine c_if hS rfl (fun hc29 => ?_) (fun hc29 => ?_)
        ·
          refine c_seq ?_
          refine c_region ?_
          refine L_op (s_e hS (e_assign rfl) rfl ?_); clear hS a; intro a hS
          refine L_nil ?_
          refine n_then ?_
          refine wp_ret ?_
          refine r_block (r_then ?_)
          refine c_ret1 hS Try.results19 (.tmp rfl) ?_
          have hE : setE own (vsT es) n c at_ nano = 6 := by unfold setE; rw [if_neg hc16, if_neg hc21, if_pos hc29]
          exact ⟨⟨(es, n), same (by rw [hE]; decide)⟩, by (try dsimp only); rw [hE], hS.chg, hback hS, fun b hb => .inl hb⟩
        ·
          refine c_seq ?_
          refine c_region ?_
          refine L_op (s_e hS (e_move rfl) rfl ?_); clear hS a; intro a hS
          refine L_op (s_e hS (e_len rfl rfl ty_sl91) rfl ?_); clear hS a; intro a hS
          refine L_op (s_e hS (e_bin rfl rfl rfl) rfl ?_); clear hS a; intro a hS
          refine L_op (s_e hS (e_move rfl) rfl ?_); clear hS a; intro a hS
          replace hS := hS.is (t := 40) (c := false) rfl (rfl)
          refine L_skip_t hS rfl rfl rfl ?_; clear hS a; intro a hS
          refine L_skip_t hS rfl rfl rfl ?_; clear hS a; intro a hS
          refine L_skip_t hS rfl rfl rfl ?_; clear hS a; intro a hS
          refine L_skip_t hS rfl rfl rfl ?_; clear hS a; intro a hS
          refine L_skip_t hS rfl rfl rfl ?_; clear hS a; intro a hS
          refine L_skip_t hS rfl rfl rfl ?_; clear hS a; intro a hS
          refine L_skip_t hS rfl rfl rfl ?_; clear hS a; intro a hS
          refine L_skip_t hS rfl rfl rfl ?_; clear hS a; intro a hS
          refine L_skip_t hS rfl rfl rfl ?_; clear hS a; intro a hS
          first | (refine L_op (s_e hS (e_pick_t rfl rfl) rfl ?_); clear hS a; intro a hS) | (refine L_op (s_e hS (e_pick_f rfl rfl) rfl ?_); clear hS a; intro a hS)
          refine L_op (s_e hS (e_assign rfl) rfl ?_); clear hS a; intro a hS
          refine L_nil ?_
          refine n_then ?_
          refine c_if_f hS rfl ?_
          refine c_seq ?_
          refine c_region ?_
          refine L_op (s_e hS (e_move rfl) rfl ?_); clear hS a; intro a hS
          refine L_op (s_e hS (e_nilCheck rfl) rfl ?_); clear hS a; intro a hS
          first | (refine L_op (s_e hS (e_fa0 rfl ty_fo114_2) rfl ?_); clear hS a; intro a hS) | (refine L_op (s_e hS (e_faK rfl ty_fo114_2) rfl ?_); clear hS a; intro a hS)
          refine L_op (s_e hS (e_load rfl (by repeat constructor) ty_sc3 (by rfl)) rfl ?_); clear hS a; intro a hS
          refine L_op (s_e hS (e_bin rfl rfl rfl) rfl ?_); clear hS a; intro a hS
          refine L_op (s_e hS (e_assign rfl) rfl ?_); clear hS a; intro a hS
          refine L_nil ?_
          refine n_then ?_
          first | refine c_ifD hS rfl (fun hc51 => ?_) (fun hc51 => ?_) | refine c_if hS rfl (fun hc51 => ?_) (fun hc51 => ?_)
          ·
            refine c_seq ?_
            refine c_region ?_
            refine L_op (s_e hS (e_assign rfl) rfl ?_); clear hS a; intro a hS
            refine L_nil ?_
            refine n_then ?_
            refine wp_ret ?_
            refine r_block (r_then ?_)
            refine c_ret1 hS Try.results19 (.tmp rfl) ?_
            have hE : setE own (vsT es) n c at_ nano = 9 := by unfold setE; rw [if_neg hc16, if_neg hc21, if_neg hc29, if_neg (by rw [hro]; rintro ⟨_, h0, _⟩; cases h0), if_pos hc51]
            exact ⟨⟨(es, n), same (by rw [hE]; decide)⟩, by (try dsimp only); rw [hE], hS.chg, hback hS, fun b hb => .inl hb⟩
          ·
            refine wp_skip ?_
            refine n_block ?_
            refine n_then ?_
            refine c_seq ?_
            refine c_drawS [12] (by kernel_rfl) hS (sub_cons (X := bkT bk mb own n) (by repeat constructor) (sub_cons (X := smapA mb (entT es)) (by repeat constructor) sub_nil)) ?_; clear hS; (try clear w); intro w hS
            simp only [List.length_cons, List.length_nil, Nat.zero_add, Nat.reduceAdd, List.replicate]
            refine Z_take0 (i := 0) hS rfl want_none (e_move rfl) (listed' := [true, false, false, false, false, false, false, false, false, false, false, false, false]) rfl (by kernel_rfl) (by kernel_rfl) (by kernel_rfl) (fun _ _ _ h => h) rfl ?_; clear hS a; intro a hS
            refine Z_take0 (i := 1) hS rfl want_none (e_nilCheck rfl) (listed' := [true, true, false, false, false, false, false, false, false, false, false, false, false]) rfl (by kernel_rfl) (by kernel_rfl) (by kernel_rfl) (fun _ _ _ h => h) rfl ?_; clear hS a; intro a hS
            first | (refine Z_take0 (i := 2) hS rfl want_none (e_fa0 rfl ty_fo114_1) (listed' := [true, true, true, false, false, false, false, false, false, false, false, false, false]) rfl (by kernel_rfl) (by kernel_rfl) (by kernel_rfl) (fun _ _ _ h => h) rfl ?_; clear hS a; intro a hS) | (refine Z_take0 (i := 2) hS rfl want_none (e_faK rfl ty_fo114_1) (listed' := [true, true, true, false, false, false, false, false, false, false, false, false, false]) rfl (by kernel_rfl) (by kernel_rfl) (by kernel_rfl) (fun _ _ _ h => h) rfl ?_; clear hS a; intro a hS)
            refine Z_take (i := 3) hS rfl want_none (e_load rfl (by repeat constructor) ty_sc112 (by rfl)) (listed' := [true, true, true, true, false, false, false, false, false, false, false, false, false]) rfl (by kernel_rfl) (by kernel_rfl) (by kernel_rfl) (by kernel_rfl) (by kernel_rfl) (sub_cons (by repeat constructor) (sub_cons (by repeat constructor) sub_nil)) (fun _ _ _ h => h) rfl ?_; clear hS a; intro a hS
            refine Z_take0 (i := 4) hS rfl want_none (e_move rfl) (listed' := [true, true, true, true, true, false, false, false, false, false, false, false, false]) rfl (by kernel_rfl) (by kernel_rfl) (by kernel_rfl) (fun _ _ _ h => h) rfl ?_; clear hS a; intro a hS
            refine Z_take0 (i := 5) hS rfl want_none (e_move rfl) (listed' := [true, true, true, true, true, true, false, false, false, false, false, false, false]) rfl (by kernel_rfl) (by kernel_rfl) (by kernel_rfl) (fun _ _ _ h => h) rfl ?_; clear hS a; intro a hS
            refine Z_take0 (i := 6) hS rfl want_none (e_move rfl) (listed' := [true, true, true, true, true, true, true, false, false, false, false, false, false]) rfl (by kernel_rfl) (by kernel_rfl) (by kernel_rfl) (fun _ _ _ h => h) rfl ?_; clear hS a; intro a hS
            refine Z_take0 (i := 7) hS rfl want_none (e_move rfl) (listed' := [true, true, true, true, true, true, true, true, false, false, false, false, false]) rfl (by kernel_rfl) (by kernel_rfl) (by kernel_rfl) (fun _ _ _ h => h) rfl ?_; clear hS a; intro a hS
            refine Z_take0 (i := 8) hS rfl want_none (e_move rfl) (listed' := [true, true, true, true, true, true, true, true, true, false, false, false, false]) rfl (by kernel_rfl) (by kernel_rfl) (by kernel_rfl) (fun _ _ _ h => h) rfl ?_; clear hS a; intro a hS
            refine Z_take0 (i := 9) hS rfl want_none (e_build ty_z93 ty_pl93 (.one rfl rfl rfl (by repeat constructor) (.one rfl rfl rfl (by repeat constructor) (.one rfl rfl rfl (by repeat constructor) .nil)))) (listed' := [true, true, true, true, true, true, true, true, true, true, false, false, false]) rfl (by kernel_rfl) (by kernel_rfl) (by kernel_rfl) (fun _ _ _ h => h) rfl ?_; clear hS a; intro a hS
            refine Z_one (i := 10) rfl (want_none a hS.sl) (listed' := [true, true, true, true, true, true, true, true, true, true, true, false, false]) rfl (by kernel_rfl) (s_bslice hS ty_sl91 ty_sz93 ty_z93 rfl rfl rfl rfl (.agg rfl rfl .nil) rfl ?_); clear hS a; (try clear w); intro a w b67 hS
            refine Z_and hS (sub_cons (by repeat constructor) (sub_cons (by repeat constructor) sub_nil)) ?_
            replace hS := hS.own_nil 93 3
            refine Z_one (i := 11) rfl (want_none a hS.sl) (listed' := [true, true, true, true, true, true, true, true, true, true, true, true, false]) rfl (by kernel_rfl) (s_append1 hS rfl rfl ty_sl91 ty_sz93 ty_by93 ty_z93 rfl rfl rfl (by repeat constructor) (by repeat constructor) (by rfl) (by rfl) (fun _ => (by repeat constructor)) (by omega) ?_); clear hS a; (try clear w); intro v68 a w hv68 hS
            refine Z_and hS (sub_cons (by repeat constructor) (sub_cons (by repeat constructor) sub_nil)) ?_
            refine Z_one (i := 12) rfl (want_none a hS.sl) (listed' := [true, true, true, true, true, true, true, true, true, true, true, true, true]) rfl (by kernel_rfl) (s_mapUp hS rfl rfl rfl ty_mp112 ty_u9 (by repeat constructor) ?_); clear hS; (try clear w); intro w hS
            refine Z_last (by simp) ?_
            refine Z_done (by kernel_rfl) ?_
            refine n_then ?_
            refine c_seq ?_
            refine c_region ?_
            refine L_op (s_e hS (e_move rfl) rfl ?_); clear hS a; intro a hS
            refine L_op (s_e hS (e_nilCheck rfl) rfl ?_); clear hS a; intro a hS
            first | (refine L_op (s_e hS (e_fa0 rfl ty_fo114_2) rfl ?_); clear hS a; intro a hS) | (refine L_op (s_e hS (e_faK rfl ty_fo114_2) rfl ?_); clear hS a; intro a hS)
            refine L_op (s_e hS (e_load rfl (by repeat constructor) ty_sc3 (by rfl)) rfl ?_); clear hS a; intro a hS
            first | (refine L_op (s_e hS (e_binN rfl rfl rfl (by omega)) rfl ?_); clear hS a; intro a hS) | (refine L_op (s_e hS (e_bin rfl rfl rfl) rfl ?_); clear hS a; intro a hS)
            refine L_op (s_e hS (e_nilCheck rfl) rfl ?_); clear hS a; intro a hS
            first | (refine L_op (s_e hS (e_fa0 rfl ty_fo114_2) rfl ?_); clear hS a; intro a hS) | (refine L_op (s_e hS (e_faK rfl ty_fo114_2) rfl ?_); clear hS a; intro a hS)
            refine L_op (s_store hS rfl rfl rfl ty_sz3 (by repeat constructor) (by repeat constructor) ?_); clear hS; (try clear w); intro w hS
            refine L_nil ?_
            refine n_then ?_
            refine c_seq ?_
            refine c_region ?_
            refine L_op (s_e hS (e_assign rfl) rfl ?_); clear hS a; intro a hS
            refine L_nil ?_
            refine n_then ?_
            refine wp_ret ?_
            refine c_ret1 hS Try.results19 (.tmp rfl) ?_
            have hE := setE_zero (own := own) (l := vsT es) (n := n) (c := c) (at_ := at_) (nano := nano) hc16 hc21 hc29 (by rw [hro]; rintro ⟨_, h0, _⟩; cases h0) hc51
            have hent : entT (es ++ [⟨c, [(at_, nano)], v68⟩]) = setM (entT es) c v68 := by
              rw [setM_none v68 hix]; simp [entT]
            have hrow : w.ownsRow 0 93 3 v68 [(at_, nano)].length ([(at_, nano)].flatMap (encT c)) := by
              have h1 : w.ownsRow 0 93 3 v68 (0 + 1) ([] ++ ([.string c, .int .i64 at_, .int .i64 nano] ++ [])) := hS.get (X := ownA 93 3 v68 (0 + 1) _) (by repeat constructor)
              simpa [encT] using h1
            have hsep := hS.sep (X := ownA 93 3 v68 (0 + 1) ([] ++ ([.string c, .int .i64 at_, .int .i64 nano] ++ []))) (Y := rowsT es) (by repeat (first | exact Rem.head | apply Rem.tail)) (by repeat constructor)
            have hrest := hS.get (X := rowsT es) (by repeat constructor)
            have hset : (vsT (es ++ [⟨c, [(at_, nano)], v68⟩]), n + 1) = setR own (vsT es) n c at_ nano := by
              unfold setR; rw [if_pos hE, hro, putL_no _ hno]; simp [vsT]
            refine ⟨⟨(es ++ [⟨c, [(at_, nano)], v68⟩], n + 1), hset⟩, by (try dsimp only); rw [hE], hS.chg, rates_ok true ⟨hS.get (X := .blk bk [.string own, .map (some mb), .int .i64 (n + 1)] 114) (by repeat constructor), by rw [hent]; exact hS.get (X := smapA mb (setM (entT es) c v68)) (by repeat constructor), fun x hx => ?_, ⟨?_, ?_, fun x hx => ?_, by show 0 ≤ n + 1; omega, by show n + 1 ≤ 500; omega⟩⟩, fun b hb => ?_⟩
            · rcases List.mem_append.1 hx with hx | hx
              · exact hrest x hx
              · obtain rfl := List.mem_singleton.1 hx; exact hrow
            · exact pw_snoc wf.keys hno
            · exact pw_snoc wf.apart (fun x hx k h1 h2 => hsep k h2 ⟨x, hx, h1⟩)
            · rcases List.mem_append.1 hx with hx | hx
              · have := wf.len x hx; simp only; omega
              · obtain rfl := List.mem_singleton.1 hx; simp only [List.length_cons, List.length_nil]; omega
            · rcases hb with hb | hb | ⟨x, hx, hxb⟩
              · exact .inl (.inl hb)
              · exact .inl (.inr (.inl hb))
              · rcases List.mem_append.1 hx with hx | hx
                · exact .inl (.inr (.inr ⟨x, hx, hxb⟩))
                · obtain rfl := List.mem_singleton.1 hx
                  exact (hS.mine (ownA 93 3 v68 (0 + 1) _) (by repeat constructor) rfl b hxb).symm
theorem fxSet_P (bk mb : Nat) (own c : ByteArray) (es : List RA) (n at_ nano : Int) (hat : -9223372036854775808 ≤ at_ ∧ at_ ≤ 9223372036854775807) (w0 : World) (h : ratesφ bk mb own es n w0) :
    MutC Try.prog 19 [.pointer (some ⟨bk, 0, none⟩), .string c, .int .i64 at_, .int .i64 nano] w0 (ratesA bk mb own es n true) (fun _ : { y : List RA × Int // (vsT y.1, y.2) = setR own (vsT es) n c at_ nano } => .int .i64 (setE own (vsT es) n c at_ nano)) (fun y => ratesA bk mb own y.1.1 y.1.2 true) := by
  rcases has_cur es c with ⟨i, e, he, rfl⟩ | hno
  · exact fxSet_is bk mb own es n at_ nano i e he hat w0 h
  · exact fxSet_no bk mb own c es n at_ nano hno hat w0 h
end Go.Proofs.Ytheofhegdjjfgaa
