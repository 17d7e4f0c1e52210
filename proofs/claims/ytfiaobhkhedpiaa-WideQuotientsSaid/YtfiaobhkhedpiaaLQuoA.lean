/- The law WideQuotients, walked where the divisor is 0. -/
import Derived.Test.YtfiaobhkhedpiaaBig12
import Derived.Test.YtfiaobhkhedpiaaBig10
import Derived.Test.YtfiaobhkhedpiaaW13
namespace Go.Proofs.Ytfiaobhkhedpiaa
open Go.RowKit

theorem qtr_fit (v : Int) : Wd.fit (Wd.tr v) := by unfold Wd.tr; split <;> first | assumption | decide
theorem qisB_self (v : Int) : isB (Wd.tr v) (Wd.er v) v := by
  unfold isB Wd.tr Wd.er
  by_cases h : Wd.fit v
  · rw [if_pos h, if_pos h, if_pos h]; exact ⟨rfl, rfl⟩
  · rw [if_neg h, if_neg h, if_neg h]; exact ⟨rfl, rfl⟩
theorem dv_abs {u d : Int} (hu : u.natAbs ≤ 170141183460469231731687303715884105728) : (Wd.dv u d).natAbs ≤ 170141183460469231731687303715884105729 := by
  rw [dv_up]
  have h1 : (u.tdiv d).natAbs ≤ u.natAbs := by rw [Int.natAbs_tdiv]; exact Nat.div_le_self _ _
  split
  · split <;> omega
  · omega

set_option maxRecDepth 100000 in
theorem WideQuotients_0 (u : Int) (ha : Wd.fit u) (w0 : World) : PureC Try.prog 8 [wV u, .int .i64 0] w0 (.bool true) := by
  refine c_enter [(0, wV u), (1, .int .i64 0)] [] noB Try.func8 rfl Try.ntmps8 ⟨rfl, rfl, trivial⟩ rfl (by simp) (by simp) (by simp) ?_
  intro a hS
  refine c_seq ?_
  refine c_region ?_
  refine L_op (s_boxA hS rfl rfl ?_); clear hS a; (try clear w); intro a w b2 hS
  refine L_op (s_e hS (e_assign rfl) rfl ?_); clear hS a; intro a hS
  refine L_nil ?_
  refine n_then ?_
  refine c_seq ?_
  refine c_region ?_
  refine L_op (s_callP hS .nil cf29 rfl (PureC.of_below (wfirst_w _)) ?_); clear hS a; (try clear w); intro a w hS
  refine L_op (s_e hS (e_assign rfl) rfl ?_); clear hS a; intro a hS
  refine L_nil ?_
  refine n_then ?_
  refine c_seq ?_
  refine c_region ?_
  refine L_op (s_e hS (e_loadA rfl (by repeat (first | exact .head _ | refine .tail _ ?_)) ty_st60 ty_sz60 (by rfl)) rfl ?_); clear hS a; intro a hS
  refine L_op (s_e hS (e_move rfl) rfl ?_); clear hS a; intro a hS
  refine L_op (s_callP hS (.cons rfl (.cons rfl .nil)) cf36 rfl (PureC.of_below (QuoRem_zero u _)) ?_); clear hS a; (try clear w); intro a w hS
  refine L_op (s_e hS (e_move rfl) rfl ?_); clear hS a; intro a hS
  refine L_op (s_e hS (e_extract rfl rfl) rfl ?_); clear hS a; intro a hS
  refine L_op (s_e hS (e_extract rfl rfl) rfl ?_); clear hS a; intro a hS
  refine L_op (s_e hS (e_extract rfl rfl) rfl ?_); clear hS a; intro a hS
  refine L_op (s_alloc hS ty_z60 rfl ?_); clear hS a; (try clear w); intro a w b6 hS
  refine L_op (s_storeA hS rfl rfl ty_sz60 (by repeat (first | apply Rep.head | apply Rep.tail)) (by rfl) (by rfl) (by rfl) ?_); clear hS; (try clear w); intro w hS
  refine L_op (s_e hS (e_assign rfl) rfl ?_); clear hS a; intro a hS
  refine L_op (s_e hS (e_assign rfl) rfl ?_); clear hS a; intro a hS
  refine L_nil ?_
  refine n_then ?_
  refine c_seq ?_
  refine c_region ?_
  refine L_op (s_e hS (e_loadA rfl (by repeat (first | exact .head _ | refine .tail _ ?_)) ty_st60 ty_sz60 (by rfl)) rfl ?_); clear hS a; intro a hS
  refine L_op (s_e hS (e_move rfl) rfl ?_); clear hS a; intro a hS
  refine L_op (s_callP hS (.cons rfl (.cons rfl .nil)) cf37 rfl (PureC.of_below (DivEven_zero u _)) ?_); clear hS a; (try clear w); intro a w hS
  refine L_op (s_e hS (e_move rfl) rfl ?_); clear hS a; intro a hS
  refine L_op (s_e hS (e_extract rfl rfl) rfl ?_); clear hS a; intro a hS
  refine L_op (s_e hS (e_extract rfl rfl) rfl ?_); clear hS a; intro a hS
  refine L_op (s_alloc hS ty_z60 rfl ?_); clear hS a; (try clear w); intro a w b9 hS
  refine L_op (s_storeA hS rfl rfl ty_sz60 (by repeat (first | apply Rep.head | apply Rep.tail)) (by rfl) (by rfl) (by rfl) ?_); clear hS; (try clear w); intro w hS
  refine L_op (s_e hS (e_assign rfl) rfl ?_); clear hS a; intro a hS
  refine L_nil ?_
  refine n_then ?_
  refine c_seq ?_
  refine c_seq ?_
  refine c_region ?_
  refine L_op (s_e hS (e_move rfl) rfl ?_); clear hS a; intro a hS
  refine L_op (s_e hS (e_bin rfl rfl rfl) rfl ?_); clear hS a; intro a hS
  refine L_nil ?_
  refine n_then ?_
  replace hS := hS.is (t := 32) (c := true) rfl (rfl)
  refine c_if_t hS rfl ?_
  refine c_seq ?_
  refine c_region ?_
  refine L_op (s_e hS (e_move rfl) rfl ?_); clear hS a; intro a hS
  refine L_op (s_e hS (e_move rfl) rfl ?_); clear hS a; intro a hS
  replace hS := hS.is (t := 34) (c := true) rfl (rfl)
  refine L_go hS rfl rfl (s_e hS (e_move rfl) rfl ?_); clear hS a; intro a hS
  refine L_go hS rfl rfl (s_callP hS (.cons rfl .nil) cf16 rfl (PureC.of_same (Num_w _ _)) ?_); clear hS a; (try clear w); intro a w hS
  refine L_go hS rfl rfl (s_e hS (e_bin rfl rfl rfl) rfl ?_); clear hS a; intro a hS
  first | (refine L_op (s_e hS (e_pick_t rfl rfl) rfl ?_); clear hS a; intro a hS) | (refine L_op (s_e hS (e_pick_f rfl rfl) rfl ?_); clear hS a; intro a hS)
  refine L_op (s_e hS (e_move rfl) rfl ?_); clear hS a; intro a hS
  replace hS := hS.is (t := 39) (c := true) rfl (rfl)
  refine L_go hS rfl rfl (s_e hS (e_move rfl) rfl ?_); clear hS a; intro a hS
  refine L_go hS rfl rfl (s_callP hS (.cons rfl .nil) cf16 rfl (PureC.of_same (Num_w _ _)) ?_); clear hS a; (try clear w); intro a w hS
  refine L_go hS rfl rfl (s_e hS (e_bin rfl rfl rfl) rfl ?_); clear hS a; intro a hS
  first | (refine L_op (s_e hS (e_pick_t rfl rfl) rfl ?_); clear hS a; intro a hS) | (refine L_op (s_e hS (e_pick_f rfl rfl) rfl ?_); clear hS a; intro a hS)
  refine L_op (s_e hS (e_move rfl) rfl ?_); clear hS a; intro a hS
  replace hS := hS.is (t := 44) (c := true) rfl (rfl)
  refine L_go hS rfl rfl (s_e hS (e_loadA rfl (by repeat (first | exact .head _ | refine .tail _ ?_)) ty_st60 ty_sz60 (by rfl)) rfl ?_); clear hS a; intro a hS
  refine L_go hS rfl rfl (s_e hS (e_build ty_z60 ty_pl60 .nil) rfl ?_); clear hS a; intro a hS
  refine L_go hS rfl rfl (s_e hS (e_eqW rfl rfl) rfl ?_); clear hS a; intro a hS
  first | (refine L_op (s_e hS (e_pick_t rfl rfl) rfl ?_); clear hS a; intro a hS) | (refine L_op (s_e hS (e_pick_f rfl rfl) rfl ?_); clear hS a; intro a hS)
  refine L_op (s_e hS (e_move rfl) rfl ?_); clear hS a; intro a hS
  replace hS := hS.is (t := 49) (c := true) rfl ((by decide))
  refine L_go hS rfl rfl (s_e hS (e_move rfl) rfl ?_); clear hS a; intro a hS
  refine L_go hS rfl rfl (s_e hS (e_bin rfl rfl rfl) rfl ?_); clear hS a; intro a hS
  first | (refine L_op (s_e hS (e_pick_t rfl rfl) rfl ?_); clear hS a; intro a hS) | (refine L_op (s_e hS (e_pick_f rfl rfl) rfl ?_); clear hS a; intro a hS)
  refine L_op (s_e hS (e_move rfl) rfl ?_); clear hS a; intro a hS
  replace hS := hS.is (t := 53) (c := true) rfl (rfl)
  refine L_go hS rfl rfl (s_e hS (e_loadA rfl (by repeat (first | exact .head _ | refine .tail _ ?_)) ty_st60 ty_sz60 (by rfl)) rfl ?_); clear hS a; intro a hS
  refine L_go hS rfl rfl (s_e hS (e_build ty_z60 ty_pl60 .nil) rfl ?_); clear hS a; intro a hS
  refine L_go hS rfl rfl (s_e hS (e_eqW rfl rfl) rfl ?_); clear hS a; intro a hS
  first | (refine L_op (s_e hS (e_pick_t rfl rfl) rfl ?_); clear hS a; intro a hS) | (refine L_op (s_e hS (e_pick_f rfl rfl) rfl ?_); clear hS a; intro a hS)
  refine L_op (s_e hS (e_assign rfl) rfl ?_); clear hS a; intro a hS
  refine L_nil ?_
  refine n_then ?_
  refine wp_ret ?_
  refine r_then ?_
  refine c_ret1 hS Try.results8 (.tmp rfl) ?_
  exact ⟨by rfl, hS.chg⟩

end Go.Proofs.Ytfiaobhkhedpiaa
