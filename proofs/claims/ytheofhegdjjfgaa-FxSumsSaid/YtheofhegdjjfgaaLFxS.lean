/- The law FxSums, walked. -/
import Derived.Test.YtheofhegdjjfgaaLFxO
import Derived.Test.YtheofhegdjjfgaaBig7
namespace Go.Proofs.Ytheofhegdjjfgaa
open Go.RowKit

section
variable {P : Program} {n : Nat} {a : Act} {L : List (Nat × Value)} {Γ : List Asn} {dst : Option Nat} {ty : Nat} {pos : String} {af : Array Edge} {g : Option (Nat × Bool)}
theorem tdiv_bd {i : Int} (h : -9223372036854775808 ≤ i ∧ i ≤ 9223372036854775807) {j : Nat} (hj : 2 ≤ j) : -4611686018427387904 ≤ i.tdiv j ∧ i.tdiv j ≤ 4611686018427387903 := by
  have h1 : (i.tdiv j).natAbs = i.natAbs / j := by rw [Int.natAbs_tdiv, Int.natAbs_natCast]; rfl
  have h2 : i.natAbs / j ≤ i.natAbs / 2 := Nat.div_le_div_left hj (by decide)
  rcases Int.lt_or_le i 0 with h3 | h3
  · have h4 : 0 ≤ (-i).tdiv j := Int.tdiv_nonneg (by omega) (by omega)
    rw [Int.neg_tdiv] at h4
    omega
  · omega
theorem e_quoC {t t' : TypeId} {x y : Operand} {i : Int} {j : Nat} (hx : ev L x = some (.int .i64 i)) (hy : ev L y = some (.int .i64 (j : Int)))
    (hi : -9223372036854775808 ≤ i ∧ i ≤ 9223372036854775807) (hj : 2 ≤ j) : Ex P n a L Γ ⟨dst, .binOp .quo t x y t', ty, pos, af, g⟩ (.int .i64 (i.tdiv j)) := by
  have hb := tdiv_bd hi hj
  have hw : IntKind.i64.wrap (i.tdiv j) = i.tdiv j := IntWalk.i64_in _ (by omega)
  have h4 := e_quo (P := P) (n := n) (a := a) (Γ := Γ) (dst := dst) (ty := ty) (pos := pos) (af := af) (g := g) (t := t) (t' := t') hx hy (by omega)
  rwa [hw] at h4
theorem e_negN {t : TypeId} {x : Operand} {i : Int} (hx : ev L x = some (.int .i64 i)) (hi : -9223372036854775807 ≤ i ∧ i ≤ 9223372036854775807) : Ex P n a L Γ ⟨dst, .unOp .neg t x, ty, pos, af, g⟩ (.int .i64 (-i)) := by
  have hw : IntKind.i64.wrap (0 - i) = -i := by rw [IntWalk.i64_in _ (by omega)]; omega
  have h := e_neg (P := P) (n := n) (a := a) (Γ := Γ) (dst := dst) (ty := ty) (pos := pos) (af := af) (g := g) (t := t) hx
  rwa [hw] at h
end

theorem dv_near (u : Int) : -1000000000 ≤ 2 * (Wd.dv u 1000000000 * 1000000000 - u) ∧ 2 * (Wd.dv u 1000000000 * 1000000000 - u) ≤ 1000000000 := by
  have a1 : Wd.ab 1000000000 = 1000000000 := by decide
  have d0 : decide ((1000000000 : Int) < 0) = false := by decide
  have e : ∀ S : Int, 0 ≤ S → -1000000000 ≤ 2 * (Wd.ev S 1000000000 * 1000000000 - S) ∧ 2 * (Wd.ev S 1000000000 * 1000000000 - S) ≤ 1000000000 := fun S hS => by
    unfold Wd.ev; split <;> omega
  unfold Wd.dv Wd.sv
  rw [a1, d0]
  by_cases h1 : u < 0
  · have := e (-u) (by omega)
    simp only [h1, decide_true]; unfold Wd.ab; rw [if_pos h1]; simp; omega
  · have := e u (by omega)
    simp only [h1, decide_false]; unfold Wd.ab; rw [if_neg h1]; simp; omega
theorem dv_neg (u : Int) : Wd.dv (-u) 1000000000 = -Wd.dv u 1000000000 := by
  have a1 : Wd.ab 1000000000 = 1000000000 := by decide
  have d0 : decide ((1000000000 : Int) < 0) = false := by decide
  have ea : Wd.ab (-u) = Wd.ab u := by unfold Wd.ab; split <;> split <;> omega
  unfold Wd.dv Wd.sv
  rw [a1, d0, ea]
  by_cases h0 : u = 0
  · subst h0; decide
  · by_cases h1 : u < 0
    · have h2 : ¬ 0 < u := by omega
      simp [h1, h2]
    · have h2 : ¬ u ≤ 0 := by omega
      simp [h1, h2]
theorem dv_zero : Wd.dv 0 1000000000 = 0 := by decide
theorem inU_neg {u : Int} : inU (-u) ↔ inU u := by unfold inU; omega

theorem conv_neg (u n : Int) : (convF (-u) n).2 = (convF u n).2 ∧ (convF (-u) n).1 = -(convF u n).1 := by
  have e1 : (¬ inU (-u) ∨ n < 0 ∨ 1125899906842624 < n) ↔ (¬ inU u ∨ n < 0 ∨ 1125899906842624 < n) := by rw [inU_neg]
  have e2 : -u * n = -(u * n) := Int.neg_mul u n
  unfold convF
  by_cases h : ¬ inU u ∨ n < 0 ∨ 1125899906842624 < n
  · rw [if_pos h, if_pos (e1.2 h)]; simp
  · rw [if_neg h, if_neg (fun hh => h (e1.1 hh)), e2, dv_neg]
    by_cases hI : inU (Wd.dv (u * n) 1000000000)
    · rw [if_pos hI, if_pos (inU_neg.2 hI)]; simp
    · rw [if_neg hI, if_neg (fun hh => hI (inU_neg.1 hh))]; simp
theorem worth_neg (own : ByteArray) (l : List (ByteArray × List (Int × Int))) (u : Int) (c : ByteArray) (at_ : Int) : (worthF own l (-u) c at_).2 = (worthF own l u c at_).2 ∧ (worthF own l (-u) c at_).1 = -(worthF own l u c at_).1 := by
  have e : checkF (-u) c = checkF u c := by unfold checkF; by_cases hh : inU u <;> simp [hh, inU_neg]
  unfold worthF
  rw [e]
  split
  · simp
  · split
    · simp
    · exact conv_neg u _
theorem worth_zero {own : ByteArray} {l : List (ByteArray × List (Int × Int))} {c : ByteArray} {at_ : Int} : (worthF own l 0 c at_).1 = 0 := by
  have := (worth_neg own l 0 c at_).2
  rw [Int.neg_zero] at this; omega
theorem worth_ok {own : ByteArray} {l : List (ByteArray × List (Int × Int))} {u : Int} {c : ByteArray} {at_ : Int} (h : (worthF own l u c at_).2 = 0) : (worthF own l u c at_).1 = Wd.dv (u * (getF own l c at_).1) 1000000000 ∧ inU (Wd.dv (u * (getF own l c at_).1) 1000000000) := by
  unfold worthF at h ⊢
  split at h
  · contradiction
  · rename_i h1
    rw [if_neg h1]
    split at h
    · contradiction
    · rename_i h2
      rw [if_neg h2]
      exact ⟨(conv_ok h).2.2, (conv_ok h).2.1⟩
theorem worth_sum {own : ByteArray} {l : List (ByteArray × List (Int × Int))} {u v : Int} {c : ByteArray} {at_ : Int} (h1 : (worthF own l u c at_).2 = 0) (h2 : (worthF own l v c at_).2 = 0) (h3 : (worthF own l (u + v) c at_).2 = 0) :
    -1 ≤ (worthF own l (u + v) c at_).1 - ((worthF own l u c at_).1 + (worthF own l v c at_).1) ∧ (worthF own l (u + v) c at_).1 - ((worthF own l u c at_).1 + (worthF own l v c at_).1) ≤ 1 ∧
    inU (worthF own l u c at_).1 ∧ inU (worthF own l v c at_).1 ∧ inU (worthF own l (u + v) c at_).1 := by
  obtain ⟨e1, i1⟩ := worth_ok h1
  obtain ⟨e2, i2⟩ := worth_ok h2
  obtain ⟨e3, i3⟩ := worth_ok h3
  rw [e1, e2, e3]
  refine ⟨?_, ?_, i1, i2, i3⟩ <;>
  · have n1 := dv_near (u * (getF own l c at_).1)
    have n2 := dv_near (v * (getF own l c at_).1)
    have n3 := dv_near ((u + v) * (getF own l c at_).1)
    have em : (u + v) * (getF own l c at_).1 = u * (getF own l c at_).1 + v * (getF own l c at_).1 := Int.add_mul _ _ _
    rw [em] at n3 ⊢
    omega

set_option maxRecDepth 100000 in
theorem FxSums_P (p : Option (Nat × Nat)) (c : Nat) (l : List RR) (cur : ByteArray) (ua ub at_ : Int) (hlen : l.length ≤ 4611686018427387904) (hfit : ∀ x ∈ l, rrFits x)
    (ba : -9223372036854775808 ≤ ua ∧ ua ≤ 9223372036854775807) (bb : -9223372036854775808 ≤ ub ∧ ub ≤ 9223372036854775807) (w0 : World) (h : RowP p 3 (l.map encR) w0) (hb : ∀ q, p = some q → q.1 < w0.heap.size) :
    PureC Try.prog 4 [sliceV p l.length c, .string cur, .int .i64 ua, .int .i64 ub, .int .i64 at_] w0 (.bool true) := by
  have hrow : ∀ w', Chg noB w0 w' → RowP p 3 (l.map encR) w' := fun w' hc => ((ok_rowP h hb).keep hc (fun _ _ hf => hf)).now
  have hpt : ∀ w', Chg noB w0 w' → ∀ q, p = some q → q.1 < w'.heap.size := fun w' hc q hq => Nat.lt_of_lt_of_le (hb q hq) hc.size
  have a2 : -4611686018427387904 ≤ ua.tdiv 2 ∧ ua.tdiv 2 ≤ 4611686018427387903 := tdiv_bd ba (j := 2) (by decide)
  have b2 : -4611686018427387904 ≤ ub.tdiv 2 ∧ ub.tdiv 2 ≤ 4611686018427387903 := tdiv_bd bb (j := 2) (by decide)
  have a4 : -4611686018427387904 ≤ ua.tdiv 4 ∧ ua.tdiv 4 ≤ 4611686018427387903 := tdiv_bd ba (j := 4) (by decide)
  have b4 : -4611686018427387904 ≤ ub.tdiv 4 ∧ ub.tdiv 4 ≤ 4611686018427387903 := tdiv_bd bb (j := 4) (by decide)
  obtain ⟨qa, hqa⟩ : ∃ q : Int, ua.tdiv 4 = q := ⟨_, rfl⟩
  obtain ⟨qb, hqb⟩ : ∃ q : Int, ub.tdiv 4 = q := ⟨_, rfl⟩
  rw [hqa] at a4
  rw [hqb] at b4
  refine c_enter [(0, sliceV p l.length c), (1, .string cur), (2, .int .i64 ua), (3, .int .i64 ub), (4, .int .i64 at_)] [rowP p 3 (l.map encR)] noB Try.func4 rfl Try.ntmps4 ⟨rfl, rfl, rfl, rfl, rfl, trivial⟩ rfl (okC (ok_rowP h hb) okN) dis1 (mineC (by rfl) mineN) ?_
  intro a hS
  refine c_seq ?_
  refine c_region ?_
  refine L_op (s_e hS (e_assign rfl) rfl ?_); clear hS a; intro a hS
  refine L_nil ?_
  refine n_then ?_
  refine c_seq ?_
  refine c_region ?_
  refine L_op (s_callP hS .nil cf12 rfl (fxfirst_P _) ?_); clear hS a; (try clear w); intro a w hS
  refine L_op (s_e hS (e_assign rfl) rfl ?_); clear hS a; intro a hS
  refine L_nil ?_
  refine n_then ?_
  refine c_seq ?_
  refine c_region ?_
  refine L_op (s_e hS (e_move rfl) rfl ?_); clear hS a; intro a hS
  refine L_op (s_callP hS (.cons rfl .nil) cf13 rfl (fxfew_P p c l hlen hfit _ (hrow _ hS.chg) (hpt _ hS.chg)) ?_); clear hS a; (try clear w); intro a w hS
  refine L_op (s_e hS (e_assign rfl) rfl ?_); clear hS a; intro a hS
  refine L_nil ?_
  refine n_then ?_
  refine c_seq ?_
  refine c_seq ?_
  refine c_region ?_
  refine L_op (s_e hS (e_move rfl) rfl ?_); clear hS a; intro a hS
  refine L_op (s_e hS (e_not rfl) rfl ?_); clear hS a; intro a hS
  refine L_op (s_e hS (e_move rfl) rfl ?_); clear hS a; intro a hS
  replace hS := hS.is (t := 31) (c := false) rfl (rfl)
  refine L_go hS rfl rfl (s_e hS (e_move rfl) rfl ?_); clear hS a; intro a hS
  refine L_go hS rfl rfl (s_e hS (e_not rfl) rfl ?_); clear hS a; intro a hS
  first | (refine L_op (s_e hS (e_pick_t rfl rfl) rfl ?_); clear hS a; intro a hS) | (refine L_op (s_e hS (e_pick_f rfl rfl) rfl ?_); clear hS a; intro a hS)
  refine L_op (s_e hS (e_move rfl) rfl ?_); clear hS a; intro a hS
  refine L_merge 4 39 (.bool (decide (¬ fewS l ∨ 300 < cur.size))) hS ?_ ?_
  · intro hcM39
    (first | refine g_splitD (t := 35) hS rfl ?_ ?_ | refine g_split (t := 35) hS rfl ?_ ?_) <;> (clear hS; intro hg35 hS)
    ·
      refine L_skip_f hS rfl rfl rfl ?_; clear hS a; intro a hS
      refine L_skip_f hS rfl rfl rfl ?_; clear hS a; intro a hS
      refine L_skip_f hS rfl rfl rfl ?_; clear hS a; intro a hS
      first | (refine L_op (s_e hS (e_pick_t rfl rfl) rfl ?_); clear hS a; intro a hS) | (refine L_op (s_e hS (e_pick_f rfl rfl) rfl ?_); clear hS a; intro a hS)
      exact hcM39 _ _ (hS.ends 5 39 35 rfl (congrArg Value.bool (by simp at hg35; simp [hg35])) rfl rfl (by first | exact congrArg Value.bool (decide_eq_true hg35).symm | exact congrArg Value.bool hg35.symm | simp [hg35]) rfl)
    ·
      refine L_go hS rfl rfl (s_e hS (e_move rfl) rfl ?_); clear hS a; intro a hS
      refine L_go hS rfl rfl (s_e hS (e_lenS rfl rfl ty_u9) rfl ?_); clear hS a; intro a hS
      refine L_go hS rfl rfl (s_e hS (e_bin rfl rfl rfl) rfl ?_); clear hS a; intro a hS
      first | (refine L_op (s_e hS (e_pick_t rfl rfl) rfl ?_); clear hS a; intro a hS) | (refine L_op (s_e hS (e_pick_f rfl rfl) rfl ?_); clear hS a; intro a hS)
      exact hcM39 _ _ (hS.ends 5 39 35 rfl (congrArg Value.bool (by have hf : fewS l := (by simpa using hg35); exact decide_eq_decide.2 ⟨fun h => .inr (by omega), fun h => h.elim (fun h1 => absurd hf h1) (fun h1 => by omega)⟩)) rfl rfl (by first | exact congrArg Value.bool (decide_eq_false hg35).symm | exact congrArg Value.bool hg35.symm | simp [hg35]) rfl)
  · clear hS a; (try clear w); intro a w hS
    simp only [List.drop_succ_cons, List.drop_zero]
    refine L_op (s_e hS (e_move rfl) rfl ?_); clear hS a; intro a hS
    refine L_merge 4 44 (.bool (decide ((¬ fewS l ∨ 300 < cur.size) ∨ ¬ inU ua))) hS ?_ ?_
    · intro hcM44
      (first | refine g_splitD (t := 40) hS rfl ?_ ?_ | refine g_split (t := 40) hS rfl ?_ ?_) <;> (clear hS; intro hg40 hS)
      ·
        refine L_skip_f hS rfl rfl rfl ?_; clear hS a; intro a hS
        refine L_skip_f hS rfl rfl rfl ?_; clear hS a; intro a hS
        refine L_skip_f hS rfl rfl rfl ?_; clear hS a; intro a hS
        first | (refine L_op (s_e hS (e_pick_t rfl rfl) rfl ?_); clear hS a; intro a hS) | (refine L_op (s_e hS (e_pick_f rfl rfl) rfl ?_); clear hS a; intro a hS)
        exact hcM44 _ _ (hS.ends 5 44 40 rfl (congrArg Value.bool (by exact (decide_eq_true (.inl hg40)).symm)) rfl rfl (by first | exact congrArg Value.bool (decide_eq_true hg40).symm | exact congrArg Value.bool hg40.symm | simp [hg40]) rfl)
      ·
        refine L_go hS rfl rfl (s_e hS (e_move rfl) rfl ?_); clear hS a; intro a hS
        refine L_go hS rfl rfl (s_callP hS (.cons rfl .nil) cf15 rfl (Within_P ua _) ?_); clear hS a; (try clear w); intro a w hS
        refine L_go hS rfl rfl (s_e hS (e_not rfl) rfl ?_); clear hS a; intro a hS
        first | (refine L_op (s_e hS (e_pick_t rfl rfl) rfl ?_); clear hS a; intro a hS) | (refine L_op (s_e hS (e_pick_f rfl rfl) rfl ?_); clear hS a; intro a hS)
        exact hcM44 _ _ (hS.ends 5 44 40 rfl (congrArg Value.bool (by simp [hg40])) rfl rfl (by first | exact congrArg Value.bool (decide_eq_false hg40).symm | exact congrArg Value.bool hg40.symm | simp [hg40]) rfl)
    · clear hS a; (try clear w); intro a w hS
      simp only [List.drop_succ_cons, List.drop_zero]
      refine L_op (s_e hS (e_move rfl) rfl ?_); clear hS a; intro a hS
      refine L_merge 4 49 (.bool (decide (((¬ fewS l ∨ 300 < cur.size) ∨ ¬ inU ua) ∨ ¬ inU ub))) hS ?_ ?_
      · intro hcM49
        (first | refine g_splitD (t := 45) hS rfl ?_ ?_ | refine g_split (t := 45) hS rfl ?_ ?_) <;> (clear hS; intro hg45 hS)
        ·
          refine L_skip_f hS rfl rfl rfl ?_; clear hS a; intro a hS
          refine L_skip_f hS rfl rfl rfl ?_; clear hS a; intro a hS
          refine L_skip_f hS rfl rfl rfl ?_; clear hS a; intro a hS
          first | (refine L_op (s_e hS (e_pick_t rfl rfl) rfl ?_); clear hS a; intro a hS) | (refine L_op (s_e hS (e_pick_f rfl rfl) rfl ?_); clear hS a; intro a hS)
          exact hcM49 _ _ (hS.ends 5 49 45 rfl (congrArg Value.bool (by exact (decide_eq_true (.inl hg45)).symm)) rfl rfl (by first | exact congrArg Value.bool (decide_eq_true hg45).symm | exact congrArg Value.bool hg45.symm | simp [hg45]) rfl)
        ·
          refine L_go hS rfl rfl (s_e hS (e_move rfl) rfl ?_); clear hS a; intro a hS
          refine L_go hS rfl rfl (s_callP hS (.cons rfl .nil) cf15 rfl (Within_P ub _) ?_); clear hS a; (try clear w); intro a w hS
          refine L_go hS rfl rfl (s_e hS (e_not rfl) rfl ?_); clear hS a; intro a hS
          first | (refine L_op (s_e hS (e_pick_t rfl rfl) rfl ?_); clear hS a; intro a hS) | (refine L_op (s_e hS (e_pick_f rfl rfl) rfl ?_); clear hS a; intro a hS)
          exact hcM49 _ _ (hS.ends 5 49 45 rfl (congrArg Value.bool (by simp [hg45])) rfl rfl (by first | exact congrArg Value.bool (decide_eq_false hg45).symm | exact congrArg Value.bool hg45.symm | simp [hg45]) rfl)
      · clear hS a; (try clear w); intro a w hS
        simp only [List.drop_succ_cons, List.drop_zero]
        refine L_op (s_e hS (e_move rfl) rfl ?_); clear hS a; intro a hS
        refine L_merge 9 59 (.bool (decide ((((¬ fewS l ∨ 300 < cur.size) ∨ ¬ inU ua) ∨ ¬ inU ub) ∨ ¬ inU (ua.tdiv 2 + ub.tdiv 2 + 1)))) hS ?_ ?_
        · intro hcM59
          (first | refine g_splitD (t := 50) hS rfl ?_ ?_ | refine g_split (t := 50) hS rfl ?_ ?_) <;> (clear hS; intro hg50 hS)
          ·
            refine L_skip_f hS rfl rfl rfl ?_; clear hS a; intro a hS
            refine L_skip_f hS rfl rfl rfl ?_; clear hS a; intro a hS
            refine L_skip_f hS rfl rfl rfl ?_; clear hS a; intro a hS
            refine L_skip_f hS rfl rfl rfl ?_; clear hS a; intro a hS
            refine L_skip_f hS rfl rfl rfl ?_; clear hS a; intro a hS
            refine L_skip_f hS rfl rfl rfl ?_; clear hS a; intro a hS
            refine L_skip_f hS rfl rfl rfl ?_; clear hS a; intro a hS
            refine L_skip_f hS rfl rfl rfl ?_; clear hS a; intro a hS
            first | (refine L_op (s_e hS (e_pick_t rfl rfl) rfl ?_); clear hS a; intro a hS) | (refine L_op (s_e hS (e_pick_f rfl rfl) rfl ?_); clear hS a; intro a hS)
            exact hcM59 _ _ (hS.ends 10 59 50 rfl (congrArg Value.bool (by exact (decide_eq_true (.inl hg50)).symm)) rfl rfl (by first | exact congrArg Value.bool (decide_eq_true hg50).symm | exact congrArg Value.bool hg50.symm | simp [hg50]) rfl)
          ·
            refine L_go hS rfl rfl (s_e hS (e_move rfl) rfl ?_); clear hS a; intro a hS
            refine L_go hS rfl rfl (s_e hS (e_quoC rfl rfl ba (by decide)) rfl ?_); clear hS a; intro a hS
            rw [show ua.tdiv ((2 : Nat) : Int) = ua.tdiv 2 from rfl] at hS
            refine L_go hS rfl rfl (s_e hS (e_move rfl) rfl ?_); clear hS a; intro a hS
            refine L_go hS rfl rfl (s_e hS (e_quoC rfl rfl bb (by decide)) rfl ?_); clear hS a; intro a hS
            rw [show ub.tdiv ((2 : Nat) : Int) = ub.tdiv 2 from rfl] at hS
            first | (refine L_go hS rfl rfl (s_e hS (e_binN rfl rfl rfl (by omega)) rfl ?_); clear hS a; intro a hS) | (refine L_go hS rfl rfl (s_e hS (e_bin rfl rfl rfl) rfl ?_); clear hS a; intro a hS)
            first | (refine L_go hS rfl rfl (s_e hS (e_binN rfl rfl rfl (by omega)) rfl ?_); clear hS a; intro a hS) | (refine L_go hS rfl rfl (s_e hS (e_bin rfl rfl rfl) rfl ?_); clear hS a; intro a hS)
            refine L_go hS rfl rfl (s_callP hS (.cons rfl .nil) cf15 rfl (Within_P _ _) ?_); clear hS a; (try clear w); intro a w hS
            refine L_go hS rfl rfl (s_e hS (e_not rfl) rfl ?_); clear hS a; intro a hS
            first | (refine L_op (s_e hS (e_pick_t rfl rfl) rfl ?_); clear hS a; intro a hS) | (refine L_op (s_e hS (e_pick_f rfl rfl) rfl ?_); clear hS a; intro a hS)
            exact hcM59 _ _ (hS.ends 10 59 50 rfl (congrArg Value.bool (by simp [hg50])) rfl rfl (by first | exact congrArg Value.bool (decide_eq_false hg50).symm | exact congrArg Value.bool hg50.symm | simp [hg50]) rfl)
        · clear hS a; (try clear w); intro a w hS
          simp only [List.drop_succ_cons, List.drop_zero]
          refine L_nil ?_
          refine n_then ?_
          first | refine c_ifD hS rfl (fun hc59 => ?_) (fun hc59 => ?_) | refine c_if hS rfl (fun hc59 => ?_) (fun hc59 => ?_)
          ·
            refine c_seq ?_
            refine c_region ?_
            refine L_op (s_e hS (e_move rfl) rfl ?_); clear hS a; intro a hS
            refine L_op (s_e hS (e_assign rfl) rfl ?_); clear hS a; intro a hS
            refine L_nil ?_
            refine n_then ?_
            refine wp_ret ?_
            refine r_then ?_
            refine c_ret1 hS Try.results4 (.tmp rfl) ?_
            exact ⟨rfl, hS.chg⟩
          ·
            refine wp_skip ?_
            refine n_then ?_
            refine c_seq ?_
            refine c_region ?_
            refine L_op (s_e hS (e_move rfl) rfl ?_); clear hS a; intro a hS
            refine L_op (s_callN hS (.cons rfl .nil) cf17 rfl (fxmade_P p c l hlen hfit _ (hrow _ hS.chg) (hpt _ hS.chg)) ?_); clear hS a; (try clear w); intro x63 a w hS
            obtain ⟨y, hy, hrf⟩ := x63
            replace hS := hS.swap (X := bothA y) (Y := ratesA y.bk y.mb usd y.es y.n true) (by repeat constructor) (rates_ok true (hS.get (X := bothA y) (by repeat constructor)).1) (fun b hb => .inl hb) rfl
            have hnano : nanoOK (vsT y.es) := by rw [show vsT y.es = (madeF usd l).1 from congrArg Prod.fst hy]; exact nano_made _ _
            refine L_op (s_e hS (e_move rfl) rfl ?_); clear hS a; intro a hS
            refine L_op (s_e hS (e_extract rfl rfl) rfl ?_); clear hS a; intro a hS
            refine L_op (s_e hS (e_extract rfl rfl) rfl ?_); clear hS a; intro a hS
            refine L_op (s_e hS (e_assign rfl) rfl ?_); clear hS a; intro a hS
            refine L_op (s_e hS (e_assign rfl) rfl ?_); clear hS a; intro a hS
            refine L_nil ?_
            refine n_then ?_
            refine c_seq ?_
            refine c_seq ?_
            refine c_region ?_
            refine L_op (s_e hS (e_move rfl) rfl ?_); clear hS a; intro a hS
            refine L_op (s_e hS (e_nil rfl ty_u32) rfl ?_); clear hS a; intro a hS
            refine L_nil ?_
            refine n_then ?_
            replace hS := hS.is (t := 67) (c := false) rfl (rfl)
            refine c_if_f hS rfl ?_
            refine wp_skip ?_
            refine n_then ?_
            refine c_seq ?_
            refine c_region ?_
            refine L_op (s_e hS (e_move rfl) rfl ?_); clear hS a; intro a hS
            refine L_op (s_e hS (e_quoC rfl rfl ba (by decide)) rfl ?_); clear hS a; intro a hS
            rw [show ua.tdiv ((4 : Nat) : Int) = qa from hqa] at hS
            refine L_op (s_e hS (e_assign rfl) rfl ?_); clear hS a; intro a hS
            refine L_nil ?_
            refine n_then ?_
            refine c_seq ?_
            refine c_region ?_
            refine L_op (s_e hS (e_move rfl) rfl ?_); clear hS a; intro a hS
            refine L_op (s_e hS (e_quoC rfl rfl bb (by decide)) rfl ?_); clear hS a; intro a hS
            rw [show ub.tdiv ((4 : Nat) : Int) = qb from hqb] at hS
            refine L_op (s_e hS (e_assign rfl) rfl ?_); clear hS a; intro a hS
            refine L_nil ?_
            refine n_then ?_
            refine c_seq ?_
            refine c_region ?_
            refine L_op (s_e hS (e_move rfl) rfl ?_); clear hS a; intro a hS
            refine L_op (s_e hS (e_move rfl) rfl ?_); clear hS a; intro a hS
            refine L_op (s_e hS (e_move rfl) rfl ?_); clear hS a; intro a hS
            refine L_op (s_e hS (e_build ty_z41 ty_pl41 (.one rfl rfl rfl (by repeat constructor) (.one rfl rfl rfl (by repeat constructor) .nil))) rfl ?_); clear hS a; intro a hS
            refine L_op (s_e hS (e_move rfl) rfl ?_); clear hS a; intro a hS
            refine L_op (s_callP hS (.cons rfl (.cons rfl (.cons rfl .nil))) cf20 rfl (fxWorth_P y.bk y.mb usd cur y.es y.n qa at_ (by omega) _ (hS.get (X := ratesA y.bk y.mb usd y.es y.n true) (by repeat constructor)) hnano) ?_); clear hS a; (try clear w); intro a w hS
            refine L_op (s_e hS (e_move rfl) rfl ?_); clear hS a; intro a hS
            refine L_op (s_e hS (e_extract rfl rfl) rfl ?_); clear hS a; intro a hS
            refine L_op (s_e hS (e_extract rfl rfl) rfl ?_); clear hS a; intro a hS
            refine L_op (s_e hS (e_assign rfl) rfl ?_); clear hS a; intro a hS
            refine L_op (s_e hS (e_assign rfl) rfl ?_); clear hS a; intro a hS
            refine L_nil ?_
            refine n_then ?_
            refine c_seq ?_
            refine c_region ?_
            refine L_op (s_e hS (e_move rfl) rfl ?_); clear hS a; intro a hS
            refine L_op (s_e hS (e_move rfl) rfl ?_); clear hS a; intro a hS
            refine L_op (s_e hS (e_move rfl) rfl ?_); clear hS a; intro a hS
            refine L_op (s_e hS (e_build ty_z41 ty_pl41 (.one rfl rfl rfl (by repeat constructor) (.one rfl rfl rfl (by repeat constructor) .nil))) rfl ?_); clear hS a; intro a hS
            refine L_op (s_e hS (e_move rfl) rfl ?_); clear hS a; intro a hS
            refine L_op (s_callP hS (.cons rfl (.cons rfl (.cons rfl .nil))) cf20 rfl (fxWorth_P y.bk y.mb usd cur y.es y.n qb at_ (by omega) _ (hS.get (X := ratesA y.bk y.mb usd y.es y.n true) (by repeat constructor)) hnano) ?_); clear hS a; (try clear w); intro a w hS
            refine L_op (s_e hS (e_move rfl) rfl ?_); clear hS a; intro a hS
            refine L_op (s_e hS (e_extract rfl rfl) rfl ?_); clear hS a; intro a hS
            refine L_op (s_e hS (e_extract rfl rfl) rfl ?_); clear hS a; intro a hS
            refine L_op (s_e hS (e_assign rfl) rfl ?_); clear hS a; intro a hS
            refine L_op (s_e hS (e_assign rfl) rfl ?_); clear hS a; intro a hS
            refine L_nil ?_
            refine n_then ?_
            refine c_seq ?_
            refine c_region ?_
            refine L_op (s_e hS (e_move rfl) rfl ?_); clear hS a; intro a hS
            refine L_op (s_e hS (e_move rfl) rfl ?_); clear hS a; intro a hS
            refine L_op (s_e hS (e_move rfl) rfl ?_); clear hS a; intro a hS
            first | (refine L_op (s_e hS (e_binN rfl rfl rfl (by omega)) rfl ?_); clear hS a; intro a hS) | (refine L_op (s_e hS (e_bin rfl rfl rfl) rfl ?_); clear hS a; intro a hS)
            refine L_op (s_e hS (e_move rfl) rfl ?_); clear hS a; intro a hS
            refine L_op (s_e hS (e_build ty_z41 ty_pl41 (.one rfl rfl rfl (by repeat constructor) (.one rfl rfl rfl (by repeat constructor) .nil))) rfl ?_); clear hS a; intro a hS
            refine L_op (s_e hS (e_move rfl) rfl ?_); clear hS a; intro a hS
            refine L_op (s_callP hS (.cons rfl (.cons rfl (.cons rfl .nil))) cf20 rfl (fxWorth_P y.bk y.mb usd cur y.es y.n (qa + qb) at_ (by omega) _ (hS.get (X := ratesA y.bk y.mb usd y.es y.n true) (by repeat constructor)) hnano) ?_); clear hS a; (try clear w); intro a w hS
            refine L_op (s_e hS (e_move rfl) rfl ?_); clear hS a; intro a hS
            refine L_op (s_e hS (e_extract rfl rfl) rfl ?_); clear hS a; intro a hS
            refine L_op (s_e hS (e_extract rfl rfl) rfl ?_); clear hS a; intro a hS
            refine L_op (s_e hS (e_assign rfl) rfl ?_); clear hS a; intro a hS
            refine L_op (s_e hS (e_assign rfl) rfl ?_); clear hS a; intro a hS
            refine L_nil ?_
            refine n_then ?_
            refine c_seq ?_
            refine c_region ?_
            refine L_op (s_e hS (e_move rfl) rfl ?_); clear hS a; intro a hS
            refine L_op (s_e hS (e_move rfl) rfl ?_); clear hS a; intro a hS
            refine L_op (s_e hS (e_negN rfl (by omega)) rfl ?_); clear hS a; intro a hS
            refine L_op (s_e hS (e_move rfl) rfl ?_); clear hS a; intro a hS
            refine L_op (s_e hS (e_build ty_z41 ty_pl41 (.one rfl rfl rfl (by repeat constructor) (.one rfl rfl rfl (by repeat constructor) .nil))) rfl ?_); clear hS a; intro a hS
            refine L_op (s_e hS (e_move rfl) rfl ?_); clear hS a; intro a hS
            refine L_op (s_callP hS (.cons rfl (.cons rfl (.cons rfl .nil))) cf20 rfl (fxWorth_P y.bk y.mb usd cur y.es y.n (-qa) at_ (by omega) _ (hS.get (X := ratesA y.bk y.mb usd y.es y.n true) (by repeat constructor)) hnano) ?_); clear hS a; (try clear w); intro a w hS
            refine L_op (s_e hS (e_move rfl) rfl ?_); clear hS a; intro a hS
            refine L_op (s_e hS (e_extract rfl rfl) rfl ?_); clear hS a; intro a hS
            refine L_op (s_e hS (e_extract rfl rfl) rfl ?_); clear hS a; intro a hS
            refine L_op (s_e hS (e_assign rfl) rfl ?_); clear hS a; intro a hS
            refine L_op (s_e hS (e_assign rfl) rfl ?_); clear hS a; intro a hS
            refine L_nil ?_
            refine n_then ?_
            refine c_seq ?_
            refine c_region ?_
            refine L_op (s_e hS (e_move rfl) rfl ?_); clear hS a; intro a hS
            refine L_op (s_e hS (e_move rfl) rfl ?_); clear hS a; intro a hS
            refine L_op (s_e hS (e_build ty_z41 ty_pl41 (.one rfl rfl rfl (by repeat constructor) .nil)) rfl ?_); clear hS a; intro a hS
            refine L_op (s_e hS (e_move rfl) rfl ?_); clear hS a; intro a hS
            refine L_op (s_callP hS (.cons rfl (.cons rfl (.cons rfl .nil))) cf20 rfl (fxWorth_P y.bk y.mb usd cur y.es y.n 0 at_ (by decide) _ (hS.get (X := ratesA y.bk y.mb usd y.es y.n true) (by repeat constructor)) hnano) ?_); clear hS a; (try clear w); intro a w hS
            refine L_op (s_e hS (e_move rfl) rfl ?_); clear hS a; intro a hS
            refine L_op (s_e hS (e_extract rfl rfl) rfl ?_); clear hS a; intro a hS
            refine L_op (s_e hS (e_extract rfl rfl) rfl ?_); clear hS a; intro a hS
            refine L_op (s_e hS (e_assign rfl) rfl ?_); clear hS a; intro a hS
            refine L_op (s_e hS (e_assign rfl) rfl ?_); clear hS a; intro a hS
            refine L_nil ?_
            refine n_then ?_
            refine c_seq ?_
            refine c_seq ?_
            obtain ⟨hn2, hn1⟩ := worth_neg usd (vsT y.es) qa cur at_
            have hz1 : (worthF usd (vsT y.es) 0 cur at_).1 = 0 := worth_zero
            have hsum := @worth_sum usd (vsT y.es) qa qb cur at_
            have hin : (worthF usd (vsT y.es) qa cur at_).2 = 0 → inU (worthF usd (vsT y.es) qa cur at_).1 := fun hh => by obtain ⟨e1, i1⟩ := worth_ok hh; rw [e1]; exact i1
            generalize worthF usd (vsT y.es) qa cur at_ = X at hS hn1 hn2 hsum hin
            generalize worthF usd (vsT y.es) qb cur at_ = Y at hS hsum
            generalize worthF usd (vsT y.es) (qa + qb) cur at_ = Z at hS hsum
            generalize worthF usd (vsT y.es) (-qa) cur at_ = M at hS hn1 hn2
            generalize worthF usd (vsT y.es) 0 cur at_ = O at hS hz1
            refine c_region ?_
            refine L_op (s_e hS (e_move rfl) rfl ?_); clear hS a; intro a hS
            refine L_op (s_callP hS (.cons rfl .nil) cf16 rfl (Num_w _ _) ?_); clear hS a; (try clear w); intro a w hS
            refine L_op (s_e hS (e_bin rfl rfl rfl) rfl ?_); clear hS a; intro a hS
            refine L_op (s_e hS (e_move rfl) rfl ?_); clear hS a; intro a hS
            refine L_merge 3 125 (.bool (false)) hS ?_ ?_
            · intro hcM125
              (first | refine g_splitD (t := 122) hS rfl ?_ ?_ | refine g_split (t := 122) hS rfl ?_ ?_) <;> (clear hS; intro hg122 hS)
              ·
                refine L_go hS rfl rfl (s_e hS (e_move rfl) rfl ?_); clear hS a; intro a hS
                refine L_go hS rfl rfl (s_e hS (e_bin rfl rfl rfl) rfl ?_); clear hS a; intro a hS
                first | (refine L_op (s_e hS (e_pick_t rfl rfl) rfl ?_); clear hS a; intro a hS) | (refine L_op (s_e hS (e_pick_f rfl rfl) rfl ?_); clear hS a; intro a hS)
                exact hcM125 _ _ (hS.ends 4 125 122 rfl (congrArg Value.bool (by exact decide_eq_false (fun hh => hh hz1))) rfl rfl (by first | exact congrArg Value.bool (decide_eq_true hg122).symm | exact congrArg Value.bool hg122.symm | simp [hg122]) rfl)
              ·
                refine L_skip_t hS rfl rfl rfl ?_; clear hS a; intro a hS
                refine L_skip_t hS rfl rfl rfl ?_; clear hS a; intro a hS
                first | (refine L_op (s_e hS (e_pick_t rfl rfl) rfl ?_); clear hS a; intro a hS) | (refine L_op (s_e hS (e_pick_f rfl rfl) rfl ?_); clear hS a; intro a hS)
                exact hcM125 _ _ (hS.ends 4 125 122 rfl (congrArg Value.bool (by first | rfl | (simp [hg122]; done) | (simp [hg122]; omega) | grind)) rfl rfl (by first | exact congrArg Value.bool (decide_eq_false hg122).symm | exact congrArg Value.bool hg122.symm | simp [hg122]) rfl)
            · clear hS a; (try clear w); intro a w hS
              simp only [List.drop_succ_cons, List.drop_zero]
              refine L_op (s_e hS (e_move rfl) rfl ?_); clear hS a; intro a hS
              replace hS := hS.is (t := 126) (c := false) rfl (rfl)
              refine L_go hS rfl rfl (s_e hS (e_move rfl) rfl ?_); clear hS a; intro a hS
              refine L_go hS rfl rfl (s_e hS (e_move rfl) rfl ?_); clear hS a; intro a hS
              refine L_go hS rfl rfl (s_e hS (e_bin rfl rfl rfl) rfl ?_); clear hS a; intro a hS
              first | (refine L_op (s_e hS (e_pick_t rfl rfl) rfl ?_); clear hS a; intro a hS) | (refine L_op (s_e hS (e_pick_f rfl rfl) rfl ?_); clear hS a; intro a hS)
              refine L_op (s_e hS (e_move rfl) rfl ?_); clear hS a; intro a hS
              replace hS := hS.is (t := 131) (c := false) rfl ((decide_eq_false (fun hh => hh hn2.symm)))
              refine L_go hS rfl rfl (s_e hS (e_move rfl) rfl ?_); clear hS a; intro a hS
              refine L_go hS rfl rfl (s_callP hS (.cons rfl .nil) cf16 rfl (Num_w _ _) ?_); clear hS a; (try clear w); intro a w hS
              refine L_go hS rfl rfl (s_e hS (e_bin rfl rfl rfl) rfl ?_); clear hS a; intro a hS
              refine L_go hS rfl rfl (s_e hS (e_move rfl) rfl ?_); clear hS a; intro a hS
              refine L_merge 5 140 (.bool (false)) hS ?_ ?_
              · intro hcM140
                (first | refine g_splitD (t := 135) hS rfl ?_ ?_ | refine g_split (t := 135) hS rfl ?_ ?_) <;> (clear hS; intro hg135 hS)
                ·
                  refine L_go hS rfl rfl (s_e hS (e_move rfl) rfl ?_); clear hS a; intro a hS
                  refine L_go hS rfl rfl (s_e hS (e_move rfl) rfl ?_); clear hS a; intro a hS
                  refine L_go hS rfl rfl (s_e hS (e_negN rfl (by have := hin hg135; unfold inU at this; omega)) rfl ?_); clear hS a; intro a hS
                  refine L_go hS rfl rfl (s_e hS (e_bin rfl rfl rfl) rfl ?_); clear hS a; intro a hS
                  first | (refine L_go hS rfl rfl (s_e hS (e_pick_t rfl rfl) rfl ?_); clear hS a; intro a hS) | (refine L_go hS rfl rfl (s_e hS (e_pick_f rfl rfl) rfl ?_); clear hS a; intro a hS)
                  exact hcM140 _ _ (hS.ends 6 140 135 rfl (congrArg Value.bool (by exact decide_eq_false (fun hh => hh hn1))) rfl rfl (by first | exact congrArg Value.bool (decide_eq_true hg135).symm | exact congrArg Value.bool hg135.symm | simp [hg135]) rfl)
                ·
                  refine L_skip_t hS rfl rfl rfl ?_; clear hS a; intro a hS
                  refine L_skip_t hS rfl rfl rfl ?_; clear hS a; intro a hS
                  refine L_skip_t hS rfl rfl rfl ?_; clear hS a; intro a hS
                  refine L_skip_t hS rfl rfl rfl ?_; clear hS a; intro a hS
                  first | (refine L_go hS rfl rfl (s_e hS (e_pick_t rfl rfl) rfl ?_); clear hS a; intro a hS) | (refine L_go hS rfl rfl (s_e hS (e_pick_f rfl rfl) rfl ?_); clear hS a; intro a hS)
                  exact hcM140 _ _ (hS.ends 6 140 135 rfl (congrArg Value.bool (by first | rfl | (simp [hg135]; done) | (simp [hg135]; omega) | grind)) rfl rfl (by first | exact congrArg Value.bool (decide_eq_false hg135).symm | exact congrArg Value.bool hg135.symm | simp [hg135]) rfl)
              · clear hS a; (try clear w); intro a w hS
                simp only [List.drop_succ_cons, List.drop_zero]
                first | (refine L_op (s_e hS (e_pick_t rfl rfl) rfl ?_); clear hS a; intro a hS) | (refine L_op (s_e hS (e_pick_f rfl rfl) rfl ?_); clear hS a; intro a hS)
                refine L_nil ?_
                refine n_then ?_
                replace hS := hS.is (t := 141) (c := false) rfl (rfl)
                refine c_if_f hS rfl ?_
                refine wp_skip ?_
                refine n_then ?_
                refine c_seq ?_
                refine c_seq ?_
                refine c_region ?_
                refine L_op (s_e hS (e_move rfl) rfl ?_); clear hS a; intro a hS
                refine L_op (s_callP hS (.cons rfl .nil) cf16 rfl (Num_w _ _) ?_); clear hS a; (try clear w); intro a w hS
                refine L_op (s_e hS (e_bin rfl rfl rfl) rfl ?_); clear hS a; intro a hS
                refine L_op (s_e hS (e_move rfl) rfl ?_); clear hS a; intro a hS
                refine L_merge 4 149 (.bool (decide (X.2 ≠ 0 ∨ Y.2 ≠ 0))) hS ?_ ?_
                · intro hcM149
                  (first | refine g_splitD (t := 145) hS rfl ?_ ?_ | refine g_split (t := 145) hS rfl ?_ ?_) <;> (clear hS; intro hg145 hS)
                  ·
                    refine L_skip_f hS rfl rfl rfl ?_; clear hS a; intro a hS
                    refine L_skip_f hS rfl rfl rfl ?_; clear hS a; intro a hS
                    refine L_skip_f hS rfl rfl rfl ?_; clear hS a; intro a hS
                    first | (refine L_op (s_e hS (e_pick_t rfl rfl) rfl ?_); clear hS a; intro a hS) | (refine L_op (s_e hS (e_pick_f rfl rfl) rfl ?_); clear hS a; intro a hS)
                    exact hcM149 _ _ (hS.ends 5 149 145 rfl (congrArg Value.bool (by exact (decide_eq_true (.inl hg145)).symm)) rfl rfl (by first | exact congrArg Value.bool (decide_eq_true hg145).symm | exact congrArg Value.bool hg145.symm | simp [hg145]) rfl)
                  ·
                    refine L_go hS rfl rfl (s_e hS (e_move rfl) rfl ?_); clear hS a; intro a hS
                    refine L_go hS rfl rfl (s_callP hS (.cons rfl .nil) cf16 rfl (Num_w _ _) ?_); clear hS a; (try clear w); intro a w hS
                    refine L_go hS rfl rfl (s_e hS (e_bin rfl rfl rfl) rfl ?_); clear hS a; intro a hS
                    first | (refine L_op (s_e hS (e_pick_t rfl rfl) rfl ?_); clear hS a; intro a hS) | (refine L_op (s_e hS (e_pick_f rfl rfl) rfl ?_); clear hS a; intro a hS)
                    exact hcM149 _ _ (hS.ends 5 149 145 rfl (congrArg Value.bool (by simp [hg145])) rfl rfl (by first | exact congrArg Value.bool (decide_eq_false hg145).symm | exact congrArg Value.bool hg145.symm | simp [hg145]) rfl)
                · clear hS a; (try clear w); intro a w hS
                  simp only [List.drop_succ_cons, List.drop_zero]
                  refine L_op (s_e hS (e_move rfl) rfl ?_); clear hS a; intro a hS
                  refine L_merge 4 154 (.bool (decide ((X.2 ≠ 0 ∨ Y.2 ≠ 0) ∨ Z.2 ≠ 0))) hS ?_ ?_
                  · intro hcM154
                    (first | refine g_splitD (t := 150) hS rfl ?_ ?_ | refine g_split (t := 150) hS rfl ?_ ?_) <;> (clear hS; intro hg150 hS)
                    ·
                      refine L_skip_f hS rfl rfl rfl ?_; clear hS a; intro a hS
                      refine L_skip_f hS rfl rfl rfl ?_; clear hS a; intro a hS
                      refine L_skip_f hS rfl rfl rfl ?_; clear hS a; intro a hS
                      first | (refine L_op (s_e hS (e_pick_t rfl rfl) rfl ?_); clear hS a; intro a hS) | (refine L_op (s_e hS (e_pick_f rfl rfl) rfl ?_); clear hS a; intro a hS)
                      exact hcM154 _ _ (hS.ends 5 154 150 rfl (congrArg Value.bool (by exact (decide_eq_true (.inl hg150)).symm)) rfl rfl (by first | exact congrArg Value.bool (decide_eq_true hg150).symm | exact congrArg Value.bool hg150.symm | simp [hg150]) rfl)
                    ·
                      refine L_go hS rfl rfl (s_e hS (e_move rfl) rfl ?_); clear hS a; intro a hS
                      refine L_go hS rfl rfl (s_callP hS (.cons rfl .nil) cf16 rfl (Num_w _ _) ?_); clear hS a; (try clear w); intro a w hS
                      refine L_go hS rfl rfl (s_e hS (e_bin rfl rfl rfl) rfl ?_); clear hS a; intro a hS
                      first | (refine L_op (s_e hS (e_pick_t rfl rfl) rfl ?_); clear hS a; intro a hS) | (refine L_op (s_e hS (e_pick_f rfl rfl) rfl ?_); clear hS a; intro a hS)
                      exact hcM154 _ _ (hS.ends 5 154 150 rfl (congrArg Value.bool (by simp [hg150])) rfl rfl (by first | exact congrArg Value.bool (decide_eq_false hg150).symm | exact congrArg Value.bool hg150.symm | simp [hg150]) rfl)
                  · clear hS a; (try clear w); intro a w hS
                    simp only [List.drop_succ_cons, List.drop_zero]
                    refine L_nil ?_
                    refine n_then ?_
                    first | refine c_ifD hS rfl (fun hc154 => ?_) (fun hc154 => ?_) | refine c_if hS rfl (fun hc154 => ?_) (fun hc154 => ?_)
                    ·
                      refine c_seq ?_
                      refine c_region ?_
                      refine L_op (s_e hS (e_assign rfl) rfl ?_); clear hS a; intro a hS
                      refine L_nil ?_
                      refine n_then ?_
                      refine wp_ret ?_
                      refine r_then ?_
                      refine c_ret1 hS Try.results4 (.tmp rfl) ?_
                      exact ⟨rfl, hS.chg⟩
                    ·
                      obtain ⟨s1, s2, iX, iY, iZ⟩ := hsum (by omega) (by omega) (by omega)
                      unfold inU at iX iY iZ
                      refine wp_skip ?_
                      refine n_then ?_
                      refine c_seq ?_
                      refine c_region ?_
                      refine L_op (s_e hS (e_move rfl) rfl ?_); clear hS a; intro a hS
                      refine L_op (s_callN hS (.cons rfl .nil) cf22 rfl (BigOf_P Z.1 (by omega) _) ?_); clear hS a; (try clear w); intro x156 a w hS
                      refine L_op (s_e hS (e_move rfl) rfl ?_); clear hS a; intro a hS
                      refine L_op (s_callN hS (.cons rfl .nil) cf22 rfl (BigOf_P X.1 (by omega) _) ?_); clear hS a; (try clear w); intro x158 a w hS
                      refine L_op (s_e hS (e_move rfl) rfl ?_); clear hS a; intro a hS
                      refine L_op (s_callN hS (.cons rfl .nil) cf22 rfl (BigOf_P Y.1 (by omega) _) ?_); clear hS a; (try clear w); intro x160 a w hS
                      refine L_op (s_callN hS (.cons rfl (.cons rfl .nil)) cf23 rfl (BigAdd_P (some (x158.1.1, 0)) (some (x160.1.1, 0)) x158.1.2 x160.1.2 X.1 Y.1 20 (by decide) (len20 (by omega)) (len20 (by omega)) _ (two_bb hS (by repeat constructor) (by repeat constructor))) ?_); clear hS a; (try clear w); intro x161 a w hS
                      refine L_op (s_callN hS (.cons rfl (.cons rfl .nil)) cf21 rfl (BigSub_P (some (x156.1.1, 0)) (some (x161.1.1, 0)) x156.1.2 x161.1.2 (fun e => by cases e) Z.1 (X.1 + Y.1) x161.2 20 (by decide) (len20 (by omega)) (len20 (by omega)) _ (two_bb hS (by repeat constructor) (by repeat constructor))) ?_); clear hS a; (try clear w); intro x162 a w hS
                      refine L_op (s_alloc hS ty_z44 rfl ?_); clear hS a; (try clear w); intro a w b25 hS
                      refine L_op (s_storeA hS rfl rfl ty_sz44 (by repeat constructor) (by rfl) (by rfl) (by rfl) ?_); clear hS; (try clear w); intro w hS
                      refine L_nil ?_
                      refine n_then ?_
                      refine c_seq ?_
                      refine c_drawS [] (by kernel_rfl) hS (sub_cons (X := .blk b25 _ _) (by repeat constructor) sub_nil) ?_; clear hS; (try clear w); intro w hS
                      simp only [List.length_cons, List.length_nil, Nat.zero_add, Nat.reduceAdd, List.replicate]
                      refine Z_take (i := 0) hS rfl want_none (e_loadA rfl (by repeat constructor) ty_st44 ty_sz44 (by rfl)) (listed' := [true, false, false, false, false, false, false, false, false, false, false]) rfl (by kernel_rfl) (by kernel_rfl) (by kernel_rfl) (by kernel_rfl) (by kernel_rfl) (sub_cons (by repeat constructor) sub_nil) (fun _ _ _ h => h) rfl ?_; clear hS a; intro a hS
                      refine Z_one (i := 1) rfl (want_none a hS.sl) (listed' := [true, true, false, false, false, false, false, false, false, false, false]) rfl (by kernel_rfl) (s_callN hS (.cons rfl .nil) cf22 rfl (BigOf_P 1 (by decide) _) ?_); clear hS a; (try clear w); intro x164 a w hS
                      refine Z_and hS (sub_cons (by repeat constructor) sub_nil) ?_
                      refine Z_one (i := 2) rfl (want_none a hS.sl) (listed' := [true, true, true, false, false, false, false, false, false, false, false]) rfl (by kernel_rfl) (s_callP hS (.cons rfl (.cons rfl .nil)) cf24 rfl (BigCmp_P (some (x162.1.1, 0)) (some (x164.1.1, 0)) x162.1.2 x164.1.2 (Z.1 - (X.1 + Y.1)) 1 (by have := len20 (z := Z.1 - (X.1 + Y.1)) (by omega); omega) _ (two_bb hS (by repeat constructor) (by repeat constructor))) ?_); clear hS a; (try clear w); intro a w hS
                      refine Z_and hS (sub_cons (by repeat constructor) sub_nil) ?_
                      refine Z_take0 (i := 3) hS rfl want_none (e_bin rfl rfl rfl) (listed' := [true, true, true, true, false, false, false, false, false, false, false]) rfl (by kernel_rfl) (by kernel_rfl) (by kernel_rfl) (fun _ _ _ h => h) rfl ?_; clear hS a; intro a hS
                      refine Z_take0 (i := 4) hS rfl want_none (e_move rfl) (listed' := [true, true, true, true, true, false, false, false, false, false, false]) rfl (by kernel_rfl) (by kernel_rfl) (by kernel_rfl) (fun _ _ _ h => h) rfl ?_; clear hS a; intro a hS
                      replace hS := hS.is (t := 167) (c := true) rfl ((decide_eq_true (by unfold cmpZ; split; decide; split; omega; decide)))
                      refine Z_take (i := 5) hS rfl (want_go rfl rfl) (e_loadA rfl (by repeat constructor) ty_st44 ty_sz44 (by rfl)) (listed' := [true, true, true, true, true, true, false, false, false, false, false]) rfl (by kernel_rfl) (by kernel_rfl) (by kernel_rfl) (by kernel_rfl) (by kernel_rfl) (sub_cons (by repeat constructor) sub_nil) (fun _ _ _ h => h) rfl ?_; clear hS a; intro a hS
                      refine Z_one (i := 6) rfl (want_go rfl rfl a hS.sl) (listed' := [true, true, true, true, true, true, true, false, false, false, false]) rfl (by kernel_rfl) (s_callN hS (.cons rfl .nil) cf22 rfl (BigOf_P (-1) (by decide) _) ?_); clear hS a; (try clear w); intro x169 a w hS
                      refine Z_and hS (sub_cons (by repeat constructor) sub_nil) ?_
                      refine Z_one (i := 7) rfl (want_go rfl rfl a hS.sl) (listed' := [true, true, true, true, true, true, true, true, false, false, false]) rfl (by kernel_rfl) (s_callP hS (.cons rfl (.cons rfl .nil)) cf24 rfl (BigCmp_P (some (x162.1.1, 0)) (some (x169.1.1, 0)) x162.1.2 x169.1.2 (Z.1 - (X.1 + Y.1)) (-1) (by have := len20 (z := Z.1 - (X.1 + Y.1)) (by omega); omega) _ (two_bb hS (by repeat constructor) (by repeat constructor))) ?_); clear hS a; (try clear w); intro a w hS
                      refine Z_and hS (sub_cons (by repeat constructor) sub_nil) ?_
                      refine Z_take0 (i := 8) hS rfl (want_go rfl rfl) (e_bin rfl rfl rfl) (listed' := [true, true, true, true, true, true, true, true, true, false, false]) rfl (by kernel_rfl) (by kernel_rfl) (by kernel_rfl) (fun _ _ _ h => h) rfl ?_; clear hS a; intro a hS
                      first | (refine Z_take0 (i := 9) hS rfl want_none (e_pick_t rfl rfl) (listed' := [true, true, true, true, true, true, true, true, true, true, false]) rfl (by kernel_rfl) (by kernel_rfl) (by kernel_rfl) (fun _ _ _ h => h) rfl ?_; clear hS a; intro a hS) | (refine Z_take0 (i := 9) hS rfl want_none (e_pick_f rfl rfl) (listed' := [true, true, true, true, true, true, true, true, true, true, false]) rfl (by kernel_rfl) (by kernel_rfl) (by kernel_rfl) (fun _ _ _ h => h) rfl ?_; clear hS a; intro a hS)
                      refine Z_take0 (i := 10) hS rfl want_none (e_assign rfl) (listed' := [true, true, true, true, true, true, true, true, true, true, true]) rfl (by kernel_rfl) (by kernel_rfl) (by kernel_rfl) (fun _ _ _ h => h) rfl ?_; clear hS a; intro a hS
                      refine Z_done (by kernel_rfl) ?_
                      refine n_then ?_
                      refine wp_ret ?_
                      refine c_ret1 hS Try.results4 (.tmp rfl) ?_
                      exact ⟨by rw [show decide (0 ≤ cmpZ (Z.1 - (X.1 + Y.1)) (-1)) = true from decide_eq_true (by unfold cmpZ; split; omega; split; decide; decide)], hS.chg⟩
end Go.Proofs.Ytheofhegdjjfgaa
