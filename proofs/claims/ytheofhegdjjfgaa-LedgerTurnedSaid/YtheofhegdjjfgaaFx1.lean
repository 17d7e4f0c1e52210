/- Rates, walked: bounds, what may be asked, the worth of units. -/
import Derived.Test.YtheofhegdjjfgaaCur1
import Derived.Test.YtheofhegdjjfgaaWide2
import Derived.Test.YtheofhegdjjfgaaW10
namespace Go.Proofs.Ytheofhegdjjfgaa
open Go.RowKit

def inU (n : Int) : Prop := -4611686018427387904 ≤ n ∧ n ≤ 4611686018427387904
instance (n : Int) : Decidable (inU n) := by unfold inU; infer_instance
def inst (n : Int) : Prop := 0 ≤ n ∧ n ≤ 1099511627776
instance (n : Int) : Decidable (inst n) := by unfold inst; infer_instance

set_option maxRecDepth 100000 in
theorem fxwithin_P (n : Int) (w0 : World) : PureC Try.prog 49 [.int .i64 n] w0 (.bool (decide (inU n))) := by
  refine c_enter [(0, .int .i64 n)] [] noB Try.func49 rfl Try.ntmps49 ⟨rfl, trivial⟩ rfl (by simp) (by simp) (by simp) ?_
  intro a hS
  refine c_seq ?_
  refine c_region ?_
  refine L_op (s_e hS (e_assign rfl) rfl ?_); clear hS a; intro a hS
  refine L_nil ?_
  refine n_then ?_
  refine c_seq ?_
  refine c_region ?_
  refine L_op (s_e hS (e_move rfl) rfl ?_); clear hS a; intro a hS
  refine L_op (s_e hS (e_bin rfl rfl rfl) rfl ?_); clear hS a; intro a hS
  refine L_op (s_e hS (e_move rfl) rfl ?_); clear hS a; intro a hS
  refine L_merge 3 8 (.bool (decide (inU n))) hS ?_ ?_
  · intro hcM8
    (first | refine g_splitD (t := 5) hS rfl ?_ ?_ | refine g_split (t := 5) hS rfl ?_ ?_) <;> (clear hS; intro hg5 hS)
    ·
      refine L_go hS rfl rfl (s_e hS (e_move rfl) rfl ?_); clear hS a; intro a hS
      refine L_go hS rfl rfl (s_e hS (e_bin rfl rfl rfl) rfl ?_); clear hS a; intro a hS
      first | (refine L_op (s_e hS (e_pick_t rfl rfl) rfl ?_); clear hS a; intro a hS) | (refine L_op (s_e hS (e_pick_f rfl rfl) rfl ?_); clear hS a; intro a hS)
      exact hcM8 _ _ (hS.ends 4 8 5 rfl (congrArg Value.bool (by unfold inU; simp [hg5])) rfl rfl (by first | exact congrArg Value.bool (decide_eq_true hg5).symm | exact congrArg Value.bool hg5.symm | simp [hg5]) rfl)
    ·
      refine L_skip_t hS rfl rfl rfl ?_; clear hS a; intro a hS
      refine L_skip_t hS rfl rfl rfl ?_; clear hS a; intro a hS
      first | (refine L_op (s_e hS (e_pick_t rfl rfl) rfl ?_); clear hS a; intro a hS) | (refine L_op (s_e hS (e_pick_f rfl rfl) rfl ?_); clear hS a; intro a hS)
      exact hcM8 _ _ (hS.ends 4 8 5 rfl (congrArg Value.bool (by unfold inU; simp [hg5])) rfl rfl (by first | exact congrArg Value.bool (decide_eq_false hg5).symm | exact congrArg Value.bool hg5.symm | simp [hg5]) rfl)
  · clear hS a; (try clear w); intro a w hS
    simp only [List.drop_succ_cons, List.drop_zero]
    refine L_op (s_e hS (e_assign rfl) rfl ?_); clear hS a; intro a hS
    refine L_nil ?_
    refine n_then ?_
    refine wp_ret ?_
    refine c_ret1 hS Try.results49 (.tmp rfl) ?_
    exact ⟨rfl, hS.chg⟩
set_option maxRecDepth 100000 in
theorem mwithin_P (n : Int) (w0 : World) : PureC Try.prog 112 [.int .i64 n] w0 (.bool (decide (inU n))) := by
  refine c_enter [(0, .int .i64 n)] [] noB Try.func112 rfl Try.ntmps112 ⟨rfl, trivial⟩ rfl (by simp) (by simp) (by simp) ?_
  intro a hS
  refine c_seq ?_
  refine c_region ?_
  refine L_op (s_e hS (e_assign rfl) rfl ?_); clear hS a; intro a hS
  refine L_nil ?_
  refine n_then ?_
  refine c_seq ?_
  refine c_region ?_
  refine L_op (s_e hS (e_move rfl) rfl ?_); clear hS a; intro a hS
  refine L_op (s_e hS (e_bin rfl rfl rfl) rfl ?_); clear hS a; intro a hS
  refine L_op (s_e hS (e_move rfl) rfl ?_); clear hS a; intro a hS
  refine L_merge 3 8 (.bool (decide (inU n))) hS ?_ ?_
  · intro hcM8
    (first | refine g_splitD (t := 5) hS rfl ?_ ?_ | refine g_split (t := 5) hS rfl ?_ ?_) <;> (clear hS; intro hg5 hS)
    ·
      refine L_go hS rfl rfl (s_e hS (e_move rfl) rfl ?_); clear hS a; intro a hS
      refine L_go hS rfl rfl (s_e hS (e_bin rfl rfl rfl) rfl ?_); clear hS a; intro a hS
      first | (refine L_op (s_e hS (e_pick_t rfl rfl) rfl ?_); clear hS a; intro a hS) | (refine L_op (s_e hS (e_pick_f rfl rfl) rfl ?_); clear hS a; intro a hS)
      exact hcM8 _ _ (hS.ends 4 8 5 rfl (congrArg Value.bool (by unfold inU; simp [hg5])) rfl rfl (by first | exact congrArg Value.bool (decide_eq_true hg5).symm | exact congrArg Value.bool hg5.symm | simp [hg5]) rfl)
    ·
      refine L_skip_t hS rfl rfl rfl ?_; clear hS a; intro a hS
      refine L_skip_t hS rfl rfl rfl ?_; clear hS a; intro a hS
      first | (refine L_op (s_e hS (e_pick_t rfl rfl) rfl ?_); clear hS a; intro a hS) | (refine L_op (s_e hS (e_pick_f rfl rfl) rfl ?_); clear hS a; intro a hS)
      exact hcM8 _ _ (hS.ends 4 8 5 rfl (congrArg Value.bool (by unfold inU; simp [hg5])) rfl rfl (by first | exact congrArg Value.bool (decide_eq_false hg5).symm | exact congrArg Value.bool hg5.symm | simp [hg5]) rfl)
  · clear hS a; (try clear w); intro a w hS
    simp only [List.drop_succ_cons, List.drop_zero]
    refine L_op (s_e hS (e_assign rfl) rfl ?_); clear hS a; intro a hS
    refine L_nil ?_
    refine n_then ?_
    refine wp_ret ?_
    refine c_ret1 hS Try.results112 (.tmp rfl) ?_
    exact ⟨rfl, hS.chg⟩
set_option maxRecDepth 100000 in
theorem Within_P (n : Int) (w0 : World) : PureC Try.prog 15 [.int .i64 n] w0 (.bool (decide (inU n))) := by
  refine c_enter [(0, .int .i64 n)] [] noB Try.func15 rfl Try.ntmps15 ⟨rfl, trivial⟩ rfl (by simp) (by simp) (by simp) ?_
  intro a hS
  refine c_seq ?_
  refine c_region ?_
  refine L_op (s_e hS (e_assign rfl) rfl ?_); clear hS a; intro a hS
  refine L_nil ?_
  refine n_then ?_
  refine c_seq ?_
  refine c_region ?_
  refine L_op (s_e hS (e_move rfl) rfl ?_); clear hS a; intro a hS
  refine L_op (s_e hS (e_bin rfl rfl rfl) rfl ?_); clear hS a; intro a hS
  refine L_op (s_e hS (e_move rfl) rfl ?_); clear hS a; intro a hS
  refine L_merge 3 8 (.bool (decide (inU n))) hS ?_ ?_
  · intro hcM8
    (first | refine g_splitD (t := 5) hS rfl ?_ ?_ | refine g_split (t := 5) hS rfl ?_ ?_) <;> (clear hS; intro hg5 hS)
    ·
      refine L_go hS rfl rfl (s_e hS (e_move rfl) rfl ?_); clear hS a; intro a hS
      refine L_go hS rfl rfl (s_e hS (e_bin rfl rfl rfl) rfl ?_); clear hS a; intro a hS
      first | (refine L_op (s_e hS (e_pick_t rfl rfl) rfl ?_); clear hS a; intro a hS) | (refine L_op (s_e hS (e_pick_f rfl rfl) rfl ?_); clear hS a; intro a hS)
      exact hcM8 _ _ (hS.ends 4 8 5 rfl (congrArg Value.bool (by exact decide_eq_decide.2 (by unfold inU; omega))) rfl rfl (by first | exact congrArg Value.bool (decide_eq_true hg5).symm | exact congrArg Value.bool hg5.symm | simp [hg5]) rfl)
    ·
      refine L_skip_t hS rfl rfl rfl ?_; clear hS a; intro a hS
      refine L_skip_t hS rfl rfl rfl ?_; clear hS a; intro a hS
      first | (refine L_op (s_e hS (e_pick_t rfl rfl) rfl ?_); clear hS a; intro a hS) | (refine L_op (s_e hS (e_pick_f rfl rfl) rfl ?_); clear hS a; intro a hS)
      exact hcM8 _ _ (hS.ends 4 8 5 rfl (congrArg Value.bool (by exact (decide_eq_false (by unfold inU; omega)).symm)) rfl rfl (by first | exact congrArg Value.bool (decide_eq_false hg5).symm | exact congrArg Value.bool hg5.symm | simp [hg5]) rfl)
  · clear hS a; (try clear w); intro a w hS
    simp only [List.drop_succ_cons, List.drop_zero]
    refine L_op (s_e hS (e_assign rfl) rfl ?_); clear hS a; intro a hS
    refine L_nil ?_
    refine n_then ?_
    refine wp_ret ?_
    refine c_ret1 hS Try.results15 (.tmp rfl) ?_
    exact ⟨rfl, hS.chg⟩
/-- a scale's error is 0 or 18. -/
theorem scale_err (s : ByteArray) : (scaleR s).2 = 0 ∨ (scaleR s).2 = 18 := by unfold scaleR; split <;> simp
def askF (cur : ByteArray) (at_ : Int) : Int := if (scaleR cur).2 ≠ 0 then 18 else if ¬ inst at_ then 6 else 0
set_option maxRecDepth 100000 in
theorem fxasked_P (cur : ByteArray) (at_ : Int) (w0 : World) : PureC Try.prog 53 [.string cur, .int .i64 at_] w0 (.int .i64 (askF cur at_)) := by
  have hse := scale_err cur
  refine c_enter [(0, .string cur), (1, .int .i64 at_)] [] noB Try.func53 rfl Try.ntmps53 ⟨rfl, rfl, trivial⟩ rfl (by simp) (by simp) (by simp) ?_
  intro a hS
  refine c_seq ?_
  refine c_region ?_
  refine L_op (s_e hS (e_assign rfl) rfl ?_); clear hS a; intro a hS
  refine L_nil ?_
  refine n_then ?_
  refine c_seq ?_
  refine c_seq ?_
  refine c_region ?_
  refine L_op (s_e hS (e_move rfl) rfl ?_); clear hS a; intro a hS
  refine L_op (s_callP hS (.cons rfl .nil) cf79 rfl (Scale_P cur _) ?_); clear hS a; (try clear w); intro a w hS
  refine L_op (s_e hS (e_move rfl) rfl ?_); clear hS a; intro a hS
  refine L_op (s_e hS (e_extract rfl rfl) rfl ?_); clear hS a; intro a hS
  refine L_op (s_e hS (e_extract rfl rfl) rfl ?_); clear hS a; intro a hS
  refine L_op (s_e hS (e_assign rfl) rfl ?_); clear hS a; intro a hS
  refine L_op (s_e hS (e_assign rfl) rfl ?_); clear hS a; intro a hS
  refine L_nil ?_
  refine n_then ?_
  refine c_seq ?_
  refine c_region ?_
  refine L_op (s_e hS (e_move rfl) rfl ?_); clear hS a; intro a hS
  refine L_op (s_e hS (e_bin rfl rfl rfl) rfl ?_); clear hS a; intro a hS
  refine L_nil ?_
  refine n_then ?_
  first | refine c_ifD hS rfl (fun hc13 => ?_) (fun hc13 => ?_) | refine c_if hS rfl (fun hc13 => ?_) (fun hc13 => ?_)
  ·
    refine c_seq ?_
    refine c_region ?_
    refine L_op (s_e hS (e_move rfl) rfl ?_); clear hS a; intro a hS
    refine L_op (s_e hS (e_assign rfl) rfl ?_); clear hS a; intro a hS
    refine L_nil ?_
    refine n_then ?_
    refine wp_ret ?_
    refine r_then ?_
    refine c_ret1 hS Try.results53 (.tmp rfl) ?_
    exact ⟨by rw [show askF cur at_ = 18 from if_pos hc13, show (scaleR cur).2 = 18 by omega], hS.chg⟩
  ·
    refine wp_skip ?_
    refine n_then ?_
    refine c_seq ?_
    refine c_seq ?_
    refine c_region ?_
    refine L_op (s_e hS (e_move rfl) rfl ?_); clear hS a; intro a hS
    refine L_op (s_e hS (e_bin rfl rfl rfl) rfl ?_); clear hS a; intro a hS
    refine L_op (s_e hS (e_move rfl) rfl ?_); clear hS a; intro a hS
    refine L_merge 3 20 (.bool (decide (¬ inst at_))) hS ?_ ?_
    · intro hcM20
      (first | refine g_splitD (t := 17) hS rfl ?_ ?_ | refine g_split (t := 17) hS rfl ?_ ?_) <;> (clear hS; intro hg17 hS)
      ·
        refine L_skip_f hS rfl rfl rfl ?_; clear hS a; intro a hS
        refine L_skip_f hS rfl rfl rfl ?_; clear hS a; intro a hS
        first | (refine L_op (s_e hS (e_pick_t rfl rfl) rfl ?_); clear hS a; intro a hS) | (refine L_op (s_e hS (e_pick_f rfl rfl) rfl ?_); clear hS a; intro a hS)
        exact hcM20 _ _ (hS.ends 4 20 17 rfl (congrArg Value.bool (by unfold inst; symm; rw [decide_eq_true_eq]; omega)) rfl rfl (by first | exact congrArg Value.bool (decide_eq_true hg17).symm | exact congrArg Value.bool hg17.symm | simp [hg17]) rfl)
      ·
        refine L_go hS rfl rfl (s_e hS (e_move rfl) rfl ?_); clear hS a; intro a hS
        refine L_go hS rfl rfl (s_e hS (e_bin rfl rfl rfl) rfl ?_); clear hS a; intro a hS
        first | (refine L_op (s_e hS (e_pick_t rfl rfl) rfl ?_); clear hS a; intro a hS) | (refine L_op (s_e hS (e_pick_f rfl rfl) rfl ?_); clear hS a; intro a hS)
        exact hcM20 _ _ (hS.ends 4 20 17 rfl (congrArg Value.bool (by unfold inst; rw [decide_eq_decide]; omega)) rfl rfl (by first | exact congrArg Value.bool (decide_eq_false hg17).symm | exact congrArg Value.bool hg17.symm | simp [hg17]) rfl)
    · clear hS a; (try clear w); intro a w hS
      simp only [List.drop_succ_cons, List.drop_zero]
      refine L_nil ?_
      refine n_then ?_
      first | refine c_ifD hS rfl (fun hc20 => ?_) (fun hc20 => ?_) | refine c_if hS rfl (fun hc20 => ?_) (fun hc20 => ?_)
      ·
        refine c_seq ?_
        refine c_region ?_
        refine L_op (s_e hS (e_assign rfl) rfl ?_); clear hS a; intro a hS
        refine L_nil ?_
        refine n_then ?_
        refine wp_ret ?_
        refine r_then ?_
        refine c_ret1 hS Try.results53 (.tmp rfl) ?_
        exact ⟨by rw [show askF cur at_ = 6 by unfold askF; rw [if_neg hc13, if_pos hc20]], hS.chg⟩
      ·
        refine wp_skip ?_
        refine n_then ?_
        refine c_seq ?_
        refine c_region ?_
        refine L_op (s_e hS (e_assign rfl) rfl ?_); clear hS a; intro a hS
        refine L_nil ?_
        refine n_then ?_
        refine wp_ret ?_
        refine c_ret1 hS Try.results53 (.tmp rfl) ?_
        exact ⟨by rw [show askF cur at_ = 0 by unfold askF; rw [if_neg hc13, if_neg hc20]], hS.chg⟩

/-- what units are worth at a rate. -/
def convF (units nano : Int) : Int × Int :=
  if ¬ inU units ∨ nano < 0 ∨ 1125899906842624 < nano then (0, 6)
  else if inU (Wd.dv (units * nano) 1000000000) then (Wd.dv (units * nano) 1000000000, 0) else (0, 16)
theorem prod_bd {u n : Int} (hu : inU u) (hn : 0 ≤ n ∧ n ≤ 1125899906842624) : -5192296858534827628530496329220096 ≤ u * n ∧ u * n ≤ 5192296858534827628530496329220096 := by
  unfold inU at hu
  have h1 : (u * n).natAbs = u.natAbs * n.natAbs := Int.natAbs_mul u n
  have h2 := Nat.mul_le_mul (show u.natAbs ≤ 4611686018427387904 by omega) (show n.natAbs ≤ 1125899906842624 by omega)
  omega
/-- a whole number of 128 bits as an int. -/
def intE (v : Int) : Int × Int := if -9223372036854775808 ≤ v ∧ v < 9223372036854775808 then (v, 0) else (0, 16)
theorem dv_bd (u : Int) (hu : -5192296858534827628530496329220096 ≤ u ∧ u ≤ 5192296858534827628530496329220096) : Wd.fit (Wd.dv u 1000000000) := by
  unfold Wd.fit Wd.dv Wd.sv Wd.ev Wd.ab
  have h : ∀ S : Int, 0 ≤ S → 0 ≤ S / 1000000000 ∧ S / 1000000000 ≤ S := fun S hS => by omega
  split <;> split <;> omega
set_option maxRecDepth 100000 in
theorem fxConvert_P (u n : Int) (hu : -9223372036854775808 ≤ u ∧ u ≤ 9223372036854775807) (hn : -9223372036854775808 ≤ n ∧ n ≤ 9223372036854775807) (w0 : World) :
     PureC Try.prog 14 [.int .i64 u, .int .i64 n] w0 (.tuple [.int .i64 (convF u n).1, .int .i64 (convF u n).2].toArray) := by
   refine c_enter [(0, .int .i64 u), (1, .int .i64 n)] [] noB Try.func14 rfl Try.ntmps14 ⟨rfl, rfl, trivial⟩ rfl (by simp) (by simp) (by simp) ?_
   intro a hS
   refine c_seq ?_
   refine c_region ?_
   refine L_op (s_e hS (e_assign rfl) rfl ?_); clear hS a; intro a hS
   refine L_op (s_e hS (e_assign rfl) rfl ?_); clear hS a; intro a hS
   refine L_nil ?_
   refine n_then ?_
   refine c_seq ?_
   refine c_seq ?_
   refine c_region ?_
   refine L_op (s_e hS (e_move rfl) rfl ?_); clear hS a; intro a hS
   refine L_op (s_callP hS (.cons rfl .nil) cf49 rfl (fxwithin_P u _) ?_); clear hS a; (try clear w); intro a w hS
   refine L_op (s_e hS (e_not rfl) rfl ?_); clear hS a; intro a hS
   refine L_op (s_e hS (e_move rfl) rfl ?_); clear hS a; intro a hS
   refine L_merge 3 16 (.bool (decide (¬ inU u ∨ n < 0))) hS ?_ ?_
   · intro hcM16
     (first | refine g_splitD (t := 13) hS rfl ?_ ?_ | refine g_split (t := 13) hS rfl ?_ ?_) <;> (clear hS; intro hg13 hS)
     ·
       refine L_skip_f hS rfl rfl rfl ?_; clear hS a; intro a hS
       refine L_skip_f hS rfl rfl rfl ?_; clear hS a; intro a hS
       first | (refine L_op (s_e hS (e_pick_t rfl rfl) rfl ?_); clear hS a; intro a hS) | (refine L_op (s_e hS (e_pick_f rfl rfl) rfl ?_); clear hS a; intro a hS)
       exact hcM16 _ _ (hS.ends 4 16 13 rfl (congrArg Value.bool (by simp at hg13; simp [hg13])) rfl rfl (by first | exact congrArg Value.bool (decide_eq_true hg13).symm | exact congrArg Value.bool hg13.symm | simp [hg13]) rfl)
     ·
       refine L_go hS rfl rfl (s_e hS (e_move rfl) rfl ?_); clear hS a; intro a hS
       refine L_go hS rfl rfl (s_e hS (e_bin rfl rfl rfl) rfl ?_); clear hS a; intro a hS
       first | (refine L_op (s_e hS (e_pick_t rfl rfl) rfl ?_); clear hS a; intro a hS) | (refine L_op (s_e hS (e_pick_f rfl rfl) rfl ?_); clear hS a; intro a hS)
       exact hcM16 _ _ (hS.ends 4 16 13 rfl (congrArg Value.bool (by simp at hg13; rw [decide_eq_decide]; simp [hg13])) rfl rfl (by first | exact congrArg Value.bool (decide_eq_false hg13).symm | exact congrArg Value.bool hg13.symm | simp [hg13]) rfl)
   · clear hS a; (try clear w); intro a w hS
     simp only [List.drop_succ_cons, List.drop_zero]
     refine L_op (s_e hS (e_move rfl) rfl ?_); clear hS a; intro a hS
     refine L_merge 3 20 (.bool (decide (¬ inU u ∨ n < 0 ∨ 1125899906842624 < n))) hS ?_ ?_
     · intro hcM20
       (first | refine g_splitD (t := 17) hS rfl ?_ ?_ | refine g_split (t := 17) hS rfl ?_ ?_) <;> (clear hS; intro hg17 hS)
       ·
         refine L_skip_f hS rfl rfl rfl ?_; clear hS a; intro a hS
         refine L_skip_f hS rfl rfl rfl ?_; clear hS a; intro a hS
         first | (refine L_op (s_e hS (e_pick_t rfl rfl) rfl ?_); clear hS a; intro a hS) | (refine L_op (s_e hS (e_pick_f rfl rfl) rfl ?_); clear hS a; intro a hS)
         exact hcM20 _ _ (hS.ends 4 20 17 rfl (congrArg Value.bool (by symm; rw [decide_eq_true_eq]; rcases hg17 with h | h; exact .inl h; exact .inr (.inl h))) rfl rfl (by first | exact congrArg Value.bool (decide_eq_true hg17).symm | exact congrArg Value.bool hg17.symm | simp [hg17]) rfl)
       ·
         refine L_go hS rfl rfl (s_e hS (e_move rfl) rfl ?_); clear hS a; intro a hS
         refine L_go hS rfl rfl (s_e hS (e_bin rfl rfl rfl) rfl ?_); clear hS a; intro a hS
         first | (refine L_op (s_e hS (e_pick_t rfl rfl) rfl ?_); clear hS a; intro a hS) | (refine L_op (s_e hS (e_pick_f rfl rfl) rfl ?_); clear hS a; intro a hS)
         exact hcM20 _ _ (hS.ends 4 20 17 rfl (congrArg Value.bool (by rw [decide_eq_decide]; constructor; exact fun h => .inr (.inr h); exact fun h => by (rcases h with h | h | h; exact absurd (.inl h) hg17; exact absurd (.inr h) hg17; exact h))) rfl rfl (by first | exact congrArg Value.bool (decide_eq_false hg17).symm | exact congrArg Value.bool hg17.symm | simp [hg17]) rfl)
     · clear hS a; (try clear w); intro a w hS
       simp only [List.drop_succ_cons, List.drop_zero]
       refine L_nil ?_
       refine n_then ?_
       first | refine c_ifD hS rfl (fun hc20 => ?_) (fun hc20 => ?_) | refine c_if hS rfl (fun hc20 => ?_) (fun hc20 => ?_)
       ·
         refine c_seq ?_
         refine c_region ?_
         refine L_op (s_e hS (e_assign rfl) rfl ?_); clear hS a; intro a hS
         refine L_op (s_e hS (e_assign rfl) rfl ?_); clear hS a; intro a hS
         refine L_nil ?_
         refine n_then ?_
         refine wp_ret ?_
         refine r_then ?_
         refine c_retN hS Try.results14 (.cons (.tmp rfl) (.cons (.tmp rfl) .nil)) rfl ?_
         exact ⟨by rw [show convF u n = (0, 6) from if_pos hc20], hS.chg⟩
       ·
         have hin : inU u := Classical.byContradiction fun h => hc20 (.inl h)
         have hnb : 0 ≤ n ∧ n ≤ 1125899906842624 := by omega
         have hp := prod_bd hin hnb
         have hf := dv_bd _ hp
         have hcv : convF u n = if inU (Wd.dv (u * n) 1000000000) then (Wd.dv (u * n) 1000000000, 0) else (0, 16) := if_neg hc20
         refine wp_skip ?_
         refine n_then ?_
         refine c_seq ?_
         refine c_region ?_
         refine L_op (s_e hS (e_move rfl) rfl ?_); clear hS a; intro a hS
         refine L_op (s_e hS (e_move rfl) rfl ?_); clear hS a; intro a hS
         refine L_op (s_callP hS (.cons rfl (.cons rfl .nil)) cf50 rfl (PureC.of_below (Mul_w u n (by omega) (by omega) (by omega) (by omega) _)) ?_); clear hS a; (try clear w); intro a w hS
         refine L_op (s_callP hS (.cons rfl (.cons rfl .nil)) cf51 rfl ((by have h := PureC.of_below (P := Try.prog) (f := 51) (DivEven_w (u * n) 1000000000 (by unfold Wd.fit; omega) (by decide) (by decide) (by decide) w); rw [Wd.tr_of hf, Wd.er_of hf] at h; exact h)) ?_); clear hS a; (try clear w); intro a w hS
         refine L_op (s_e hS (e_move rfl) rfl ?_); clear hS a; intro a hS
         refine L_op (s_e hS (e_extract rfl rfl) rfl ?_); clear hS a; intro a hS
         refine L_op (s_e hS (e_extract rfl rfl) rfl ?_); clear hS a; intro a hS
         refine L_op (s_alloc hS ty_z106 rfl ?_); clear hS a; (try clear w); intro a w b6 hS
         refine L_op (s_storeA hS rfl rfl ty_sz106 (by repeat constructor) (by rfl) (by rfl) (by rfl) ?_); clear hS; (try clear w); intro w hS
         refine L_op (s_e hS (e_assign rfl) rfl ?_); clear hS a; intro a hS
         refine L_nil ?_
         refine n_then ?_
         refine c_seq ?_
         refine c_region ?_
         refine L_op (s_e hS (e_loadA rfl (by repeat constructor) ty_st106 ty_sz106 (by rfl)) rfl ?_); clear hS a; intro a hS
         refine L_op (s_callP hS (.cons rfl .nil) cf52 rfl ((by
 by_cases hI : -9223372036854775808 ≤ Wd.dv (u * n) 1000000000 ∧ Wd.dv (u * n) 1000000000 < 9223372036854775808
 · have h := PureC.of_below (P := Try.prog) (f := 52) (Int_yes (Wd.dv (u * n) 1000000000) hI.1 hI.2 w)
   rw [show (.tuple #[.int .i64 (Wd.dv (u * n) 1000000000), .int .i64 0] : Value) = .tuple [.int .i64 (intE (Wd.dv (u * n) 1000000000)).1, .int .i64 (intE (Wd.dv (u * n) 1000000000)).2].toArray by unfold intE; rw [if_pos hI]] at h
   exact h
 · have h := PureC.of_below (P := Try.prog) (f := 52) (Int_no (Wd.dv (u * n) 1000000000) hf (by omega) w)
   rw [show (.tuple #[.int .i64 0, .int .i64 16] : Value) = .tuple [.int .i64 (intE (Wd.dv (u * n) 1000000000)).1, .int .i64 (intE (Wd.dv (u * n) 1000000000)).2].toArray by unfold intE; rw [if_neg hI]] at h
   exact h)) ?_); clear hS a; (try clear w); intro a w hS
         refine L_op (s_e hS (e_move rfl) rfl ?_); clear hS a; intro a hS
         refine L_op (s_e hS (e_extract rfl rfl) rfl ?_); clear hS a; intro a hS
         refine L_op (s_e hS (e_extract rfl rfl) rfl ?_); clear hS a; intro a hS
         refine L_op (s_e hS (e_assign rfl) rfl ?_); clear hS a; intro a hS
         refine L_op (s_e hS (e_assign rfl) rfl ?_); clear hS a; intro a hS
         refine L_nil ?_
         refine n_then ?_
         refine c_seq ?_
         refine c_seq ?_
         refine c_region ?_
         refine L_op (s_e hS (e_move rfl) rfl ?_); clear hS a; intro a hS
         refine L_op (s_e hS (e_bin rfl rfl rfl) rfl ?_); clear hS a; intro a hS
         refine L_op (s_e hS (e_move rfl) rfl ?_); clear hS a; intro a hS
         refine L_merge 4 39 (.bool (decide (¬ inU (Wd.dv (u * n) 1000000000)))) hS ?_ ?_
         · intro hcM39
           (first | refine g_splitD (t := 35) hS rfl ?_ ?_ | refine g_split (t := 35) hS rfl ?_ ?_) <;> (clear hS; intro hg35 hS)
           ·
             refine L_skip_f hS rfl rfl rfl ?_; clear hS a; intro a hS
             refine L_skip_f hS rfl rfl rfl ?_; clear hS a; intro a hS
             refine L_skip_f hS rfl rfl rfl ?_; clear hS a; intro a hS
             first | (refine L_op (s_e hS (e_pick_t rfl rfl) rfl ?_); clear hS a; intro a hS) | (refine L_op (s_e hS (e_pick_f rfl rfl) rfl ?_); clear hS a; intro a hS)
             exact hcM39 _ _ (hS.ends 5 39 35 rfl (congrArg Value.bool (by unfold intE at hg35; unfold inU; split at hg35; simp at hg35; symm; rw [decide_eq_true_eq]; omega)) rfl rfl (by first | exact congrArg Value.bool (decide_eq_true hg35).symm | exact congrArg Value.bool hg35.symm | simp [hg35]) rfl)
           ·
             refine L_go hS rfl rfl (s_e hS (e_move rfl) rfl ?_); clear hS a; intro a hS
             refine L_go hS rfl rfl (s_callP hS (.cons rfl .nil) cf49 rfl (fxwithin_P _ _) ?_); clear hS a; (try clear w); intro a w hS
             refine L_go hS rfl rfl (s_e hS (e_not rfl) rfl ?_); clear hS a; intro a hS
             first | (refine L_op (s_e hS (e_pick_t rfl rfl) rfl ?_); clear hS a; intro a hS) | (refine L_op (s_e hS (e_pick_f rfl rfl) rfl ?_); clear hS a; intro a hS)
             exact hcM39 _ _ (hS.ends 5 39 35 rfl (congrArg Value.bool (by unfold intE at hg35 ⊢; split at hg35; rename_i hI; rw [if_pos hI]; simp; simp at hg35)) rfl rfl (by first | exact congrArg Value.bool (decide_eq_false hg35).symm | exact congrArg Value.bool hg35.symm | simp [hg35]) rfl)
         · clear hS a; (try clear w); intro a w hS
           simp only [List.drop_succ_cons, List.drop_zero]
           refine L_nil ?_
           refine n_then ?_
           first | refine c_ifD hS rfl (fun hc39 => ?_) (fun hc39 => ?_) | refine c_if hS rfl (fun hc39 => ?_) (fun hc39 => ?_)
           ·
             refine c_seq ?_
             refine c_region ?_
             refine L_op (s_e hS (e_assign rfl) rfl ?_); clear hS a; intro a hS
             refine L_op (s_e hS (e_assign rfl) rfl ?_); clear hS a; intro a hS
             refine L_nil ?_
             refine n_then ?_
             refine wp_ret ?_
             refine r_then ?_
             refine c_retN hS Try.results14 (.cons (.tmp rfl) (.cons (.tmp rfl) .nil)) rfl ?_
             exact ⟨by rw [hcv, if_neg hc39], hS.chg⟩
           ·
             refine wp_skip ?_
             refine n_then ?_
             refine c_seq ?_
             refine c_region ?_
             refine L_op (s_e hS (e_move rfl) rfl ?_); clear hS a; intro a hS
             refine L_op (s_e hS (e_assign rfl) rfl ?_); clear hS a; intro a hS
             refine L_op (s_e hS (e_assign rfl) rfl ?_); clear hS a; intro a hS
             refine L_nil ?_
             refine n_then ?_
             refine wp_ret ?_
             refine c_retN hS Try.results14 (.cons (.tmp rfl) (.cons (.tmp rfl) .nil)) rfl ?_
             have hI : inU (Wd.dv (u * n) 1000000000) := Classical.not_not.1 hc39
             exact ⟨by rw [hcv, if_pos hI, show intE (Wd.dv (u * n) 1000000000) = (Wd.dv (u * n) 1000000000, 0) by unfold intE; unfold inU at hI; rw [if_pos (by omega)]], hS.chg⟩
end Go.Proofs.Ytheofhegdjjfgaa
