/- Numbers by digits in base 10000, walked: what a 128-bit Int is worth, and whether a number is one. -/
import Derived.Test.YtfiaobhkhedpiaaBig6
import Derived.Test.YtfiaobhkhedpiaaWdM
namespace Go.Proofs.Ytfiaobhkhedpiaa
open Go.RowKit

theorem Power64 (w0 : World) : NewC Try.prog 87 [.int .i64 64] w0 (fun y : At 18446744073709551616 => bigV 18446744073709551616 (some (y.1.1, 0)) y.1.2) (fun y => bigA 18446744073709551616 y.1.1) := by
  have h := Power_P 64 (by decide) w0
  rw [show (2 : Int) ^ 64 = 18446744073709551616 by decide] at h
  exact h
theorem Power127 (w0 : World) : NewC Try.prog 87 [.int .i64 127] w0 (fun y : At 170141183460469231731687303715884105728 => bigV 170141183460469231731687303715884105728 (some (y.1.1, 0)) y.1.2) (fun y => bigA 170141183460469231731687303715884105728 y.1.1) := by
  have h := Power_P 127 (by decide) w0
  rw [show (2 : Int) ^ 127 = 170141183460469231731687303715884105728 by decide] at h
  exact h
theorem Power128 (w0 : World) : NewC Try.prog 87 [.int .i64 128] w0 (fun y : At 340282366920938463463374607431768211456 => bigV 340282366920938463463374607431768211456 (some (y.1.1, 0)) y.1.2) (fun y => bigA 340282366920938463463374607431768211456 y.1.1) := by
  have h := Power_P 128 (by decide) w0
  rw [show (2 : Int) ^ 128 = 340282366920938463463374607431768211456 by decide] at h
  exact h
def wV (v : Int) : Value := .agg [.int .u64 (Wd.hi v), .int .u64 (Wd.lo v)].toArray
set_option maxHeartbeats 1000000 in
set_option maxRecDepth 100000 in
theorem Value_P (v : Int) (hv : Wd.fit v) (w0 : World) :
    NewC Try.prog 34 [wV v] w0 (fun y : At v => bigV v (some (y.1.1, 0)) y.1.2) (fun y => bigA v y.1.1) := by
  have h1 := Wd.hi_bd v
  have h2 := Wd.lo_bd v
  have hn : 9223372036854775808 ≤ Wd.hi v → Wd.hi v * 18446744073709551616 + Wd.lo v - 340282366920938463463374607431768211456 = v := by
    intro h; unfold Wd.fit at hv; unfold Wd.hi Wd.lo at *; omega
  have hp : ¬ 9223372036854775808 ≤ Wd.hi v → Wd.hi v * 18446744073709551616 + Wd.lo v = v := by
    intro h; unfold Wd.fit at hv; unfold Wd.hi Wd.lo at *; omega
  unfold wV
  generalize Wd.hi v = hi at *
  generalize Wd.lo v = lo at *
  refine c_enter [(0, .agg [.int .u64 hi, .int .u64 lo].toArray)] [] noB Try.func34 rfl Try.ntmps34 ⟨rfl, trivial⟩ rfl (by simp) (by simp) (by simp) ?_
  intro a hS
  refine c_seq ?_
  refine c_region ?_
  refine L_op (s_boxA hS rfl rfl ?_); clear hS a; (try clear w); intro a w b1 hS
  refine L_op (s_alloc hS ty_z47 rfl ?_); clear hS a; (try clear w); intro a w b2 hS
  refine L_nil ?_
  refine n_then ?_
  refine c_seq ?_
  refine c_drawS [10] (by kernel_rfl) hS (sub_cons (X := .blk b1 _ _) (by repeat constructor) sub_nil) ?_; clear hS; (try clear w); intro w hS
  simp only [List.length_cons, List.length_nil, Nat.zero_add, Nat.reduceAdd, List.replicate]
  first | (refine Z_take0 (i := 0) hS rfl want_none (e_fa0 rfl ty_fo60_0) (listed' := [true, false, false, false, false, false, false, false, false, false, false]) rfl (by kernel_rfl) (by kernel_rfl) (by kernel_rfl) (fun _ _ _ h => h) rfl ?_; clear hS a; intro a hS) | (refine Z_take0 (i := 0) hS rfl want_none (e_faK rfl ty_fo60_0) (listed' := [true, false, false, false, false, false, false, false, false, false, false]) rfl (by kernel_rfl) (by kernel_rfl) (by kernel_rfl) (fun _ _ _ h => h) rfl ?_; clear hS a; intro a hS)
  refine Z_take (i := 1) hS rfl want_none (e_load rfl (by repeat constructor) ty_sc58 (by rfl)) (listed' := [true, true, false, false, false, false, false, false, false, false, false]) rfl (by kernel_rfl) (by kernel_rfl) (by kernel_rfl) (by kernel_rfl) (by kernel_rfl) (sub_cons (by repeat constructor) sub_nil) (fun _ _ _ h => h) rfl ?_; clear hS a; intro a hS
  first | (refine Z_take0 (i := 5) hS rfl want_none (e_fa0 rfl ty_fo60_1) (listed' := [true, true, false, false, false, true, false, false, false, false, false]) rfl (by kernel_rfl) (by kernel_rfl) (by kernel_rfl) (fun _ _ _ h => h) rfl ?_; clear hS a; intro a hS) | (refine Z_take0 (i := 5) hS rfl want_none (e_faK rfl ty_fo60_1) (listed' := [true, true, false, false, false, true, false, false, false, false, false]) rfl (by kernel_rfl) (by kernel_rfl) (by kernel_rfl) (fun _ _ _ h => h) rfl ?_; clear hS a; intro a hS)
  refine Z_take (i := 6) hS rfl want_none (e_load rfl (by repeat constructor) ty_sc58 (by rfl)) (listed' := [true, true, false, false, false, true, true, false, false, false, false]) rfl (by kernel_rfl) (by kernel_rfl) (by kernel_rfl) (by kernel_rfl) (by kernel_rfl) (sub_cons (by repeat constructor) sub_nil) (fun _ _ _ h => h) rfl ?_; clear hS a; intro a hS
  refine Z_many (j := 2) (js := [9]) (by kernel_rfl) ⟨?_, ?_, trivial⟩
  ·
    refine Z_op (i := 2) rfl (want_none a hS.sl) (listed' := [true, true, true, false, false, true, true, false, false, false, false]) rfl (s_callN hS (.cons rfl .nil) cf88 rfl (BigUint_P hi (by omega) _) ?_); clear hS a; (try clear w); intro x6 a w hS
    refine Z_and hS (sub_cons (by repeat constructor) sub_nil) ?_
    refine Z_many (j := 3) (js := [9]) (by kernel_rfl) ⟨?_, ?_, trivial⟩
    ·
      refine Z_op (i := 3) rfl (want_none a hS.sl) (listed' := [true, true, true, true, false, true, true, false, false, false, false]) rfl (s_callN hS (.cons rfl .nil) cf87 rfl (Power64 _) ?_); clear hS a; (try clear w); intro x7 a w hS
      refine Z_and hS (sub_cons (by repeat constructor) sub_nil) ?_
      refine Z_many (j := 4) (js := [9]) (by kernel_rfl) ⟨?_, ?_, trivial⟩
      ·
        refine Z_op (i := 4) rfl (want_none a hS.sl) (listed' := [true, true, true, true, true, true, true, false, false, false, false]) rfl (s_callN hS (.cons rfl (.cons rfl .nil)) cf52 rfl (BigMul_P (some (x6.1.1, 0)) (some (x7.1.1, 0)) x6.1.2 x7.1.2 hi 18446744073709551616 (by have := len20 (z := hi) (by omega); omega) (by have := len20 (z := 18446744073709551616) (by decide); omega) _ (two_bb hS (by repeat (first | exact .head _ | refine .tail _ ?_)) (by repeat (first | exact .head _ | refine .tail _ ?_)))) ?_); clear hS a; (try clear w); intro x8 a w hS
        refine Z_and hS (sub_cons (by repeat constructor) sub_nil) ?_
        refine Z_many (j := 7) (js := [9]) (by kernel_rfl) ⟨?_, ?_, trivial⟩
        ·
          refine Z_op (i := 7) rfl (want_none a hS.sl) (listed' := [true, true, true, true, true, true, true, true, false, false, false]) rfl (s_callN hS (.cons rfl .nil) cf88 rfl (BigUint_P lo (by omega) _) ?_); clear hS a; (try clear w); intro x11 a w hS
          refine Z_and hS (sub_cons (by repeat constructor) sub_nil) ?_
          refine Z_many (j := 8) (js := [9]) (by kernel_rfl) ⟨?_, ?_, trivial⟩
          ·
            refine Z_op (i := 8) rfl (want_none a hS.sl) (listed' := [true, true, true, true, true, true, true, true, true, false, false]) rfl (s_callN hS (.cons rfl (.cons rfl .nil)) cf23 rfl (BigAdd_P (some (x8.1.1, 0)) (some (x11.1.1, 0)) x8.1.2 x11.1.2 (hi * 18446744073709551616) lo 20 (by decide) (len20 (by omega)) (len20 (by omega)) _ (two_bb hS (by repeat (first | exact .head _ | refine .tail _ ?_)) (by repeat (first | exact .head _ | refine .tail _ ?_)))) ?_); clear hS a; (try clear w); intro x12 a w hS
            refine Z_and hS (sub_cons (by repeat constructor) sub_nil) ?_
            refine Z_one (i := 9) rfl (want_none a hS.sl) (listed' := [true, true, true, true, true, true, true, true, true, true, false]) rfl (by kernel_rfl) (s_alloc hS ty_z47 rfl ?_); clear hS a; (try clear w); intro a w b3 hS
            refine Z_and hS (sub_cons (by repeat constructor) sub_nil) ?_
            refine Z_one (i := 10) rfl (want_none a hS.sl) (listed' := [true, true, true, true, true, true, true, true, true, true, true]) rfl (by kernel_rfl) (s_storeA hS rfl rfl ty_sz47 (by repeat constructor) (by rfl) (by rfl) (by rfl) ?_); clear hS; (try clear w); intro w hS
            refine Z_last (by simp) ?_
            refine Z_done (by kernel_rfl) ?_
            refine n_then ?_
            refine c_seq ?_
            refine c_seq ?_
            refine c_region ?_
            first | (refine L_op (s_e hS (e_fa0 rfl ty_fo60_0) rfl ?_); clear hS a; intro a hS) | (refine L_op (s_e hS (e_faK rfl ty_fo60_0) rfl ?_); clear hS a; intro a hS)
            refine L_op (s_e hS (e_load rfl (by repeat constructor) ty_sc58 (by rfl)) rfl ?_); clear hS a; intro a hS
            refine L_op (s_e hS (e_bin rfl rfl rfl) rfl ?_); clear hS a; intro a hS
            refine L_nil ?_
            refine n_then ?_
            first | refine c_ifD hS rfl (fun hc15 => ?_) (fun hc15 => ?_) | refine c_if hS rfl (fun hc15 => ?_) (fun hc15 => ?_)
            ·
              have hn := hn hc15
              refine c_drawS [3] (by kernel_rfl) hS (sub_cons (X := .blk b1 _ _) (by repeat constructor) (sub_cons (X := .blk b3 _ _) (by repeat constructor) sub_nil)) ?_; clear hS; (try clear w); intro w hS
              simp only [List.length_cons, List.length_nil, Nat.zero_add, Nat.reduceAdd, List.replicate]
              refine Z_take (i := 0) hS rfl want_none (e_loadA rfl (by repeat constructor) ty_st47 ty_sz47 (by rfl)) (listed' := [true, false, false, false]) rfl (by kernel_rfl) (by kernel_rfl) (by kernel_rfl) (by kernel_rfl) (by kernel_rfl) (sub_cons (by repeat constructor) (sub_cons (by repeat constructor) sub_nil)) (fun _ _ _ h => h) rfl ?_; clear hS a; intro a hS
              refine Z_one (i := 1) rfl (want_none a hS.sl) (listed' := [true, true, false, false]) rfl (by kernel_rfl) (s_callN hS (.cons rfl .nil) cf87 rfl (Power128 _) ?_); clear hS a; (try clear w); intro x17 a w hS
              refine Z_and hS (sub_cons (by repeat constructor) (sub_cons (by repeat constructor) sub_nil)) ?_
              have hT := BigSub_P (some (x12.1.1, 0)) (some (x17.1.1, 0)) x12.1.2 x17.1.2 (fun e => by cases e) (hi * 18446744073709551616 + lo) 340282366920938463463374607431768211456 x17.2 20 (by decide) (len20 (by omega)) (len20 (by decide)) w (two_bb hS (by repeat (first | exact .head _ | refine .tail _ ?_)) (by repeat (first | exact .head _ | refine .tail _ ?_)))
              rw [hn] at hT
              refine Z_one (i := 2) rfl (want_none a hS.sl) (listed' := [true, true, true, false]) rfl (by kernel_rfl) (s_callN hS (.cons rfl (.cons rfl .nil)) cf51 rfl (hT) ?_); clear hS a; (try clear w); intro x18 a w hS
              refine Z_and hS (sub_cons (by repeat constructor) (sub_cons (by repeat constructor) sub_nil)) ?_
              refine Z_one (i := 3) rfl (want_none a hS.sl) (listed' := [true, true, true, true]) rfl (by kernel_rfl) (s_storeA hS rfl rfl ty_sz47 (by repeat constructor) (by rfl) (by rfl) (by rfl) ?_); clear hS; (try clear w); intro w hS
              refine Z_last (by simp) ?_
              refine Z_done (by kernel_rfl) ?_
              refine n_then ?_
              refine c_seq ?_
              refine c_region ?_
              refine L_op (s_e hS (e_loadA rfl (by repeat constructor) ty_st47 ty_sz47 (by rfl)) rfl ?_); clear hS a; intro a hS
              refine L_op (s_storeA hS rfl rfl ty_sz47 (by repeat constructor) (by rfl) (by rfl) (by rfl) ?_); clear hS; (try clear w); intro w hS
              refine L_nil ?_
              refine n_then ?_
              refine wp_ret ?_
              refine c_ret1 hS Try.results34 (.cellA rfl (by repeat constructor) ty_st47 ty_sz47 (by rfl)) ?_
              first
              | exact ⟨x18, rfl, hS.chg, hS.new (X := bigA v x18.1.1) (by repeat (first | exact .head _ | refine .tail _ ?_)) rfl⟩
              | (
                obtain ⟨y12, hy12⟩ := x12
                simp only [hp] at hS hy12
                exact ⟨⟨y12, hy12⟩, by show Ending.returned (bigV (hi * 18446744073709551616 + lo) (some (y12.1, 0)) y12.2) = Ending.returned (bigV v (some (y12.1, 0)) y12.2); rw [hp], hS.chg, hS.new (X := bigA v y12.1) (by repeat (first | exact .head _ | refine .tail _ ?_)) rfl⟩)
            ·
              have hp := hp hc15
              refine wp_skip ?_
              refine n_then ?_
              refine c_seq ?_
              refine c_region ?_
              refine L_op (s_e hS (e_loadA rfl (by repeat constructor) ty_st47 ty_sz47 (by rfl)) rfl ?_); clear hS a; intro a hS
              refine L_op (s_storeA hS rfl rfl ty_sz47 (by repeat constructor) (by rfl) (by rfl) (by rfl) ?_); clear hS; (try clear w); intro w hS
              refine L_nil ?_
              refine n_then ?_
              refine wp_ret ?_
              refine c_ret1 hS Try.results34 (.cellA rfl (by repeat constructor) ty_st47 ty_sz47 (by rfl)) ?_
              first
              | exact ⟨x18, rfl, hS.chg, hS.new (X := bigA v x18.1.1) (by repeat (first | exact .head _ | refine .tail _ ?_)) rfl⟩
              | (
                obtain ⟨y12, hy12⟩ := x12
                simp only [hp] at hS hy12
                exact ⟨⟨y12, hy12⟩, by show Ending.returned (bigV (hi * 18446744073709551616 + lo) (some (y12.1, 0)) y12.2) = Ending.returned (bigV v (some (y12.1, 0)) y12.2); rw [hp], hS.chg, hS.new (X := bigA v y12.1) (by repeat (first | exact .head _ | refine .tail _ ?_)) rfl⟩)
          ·
            refine Z_op (i := 9) rfl (want_none a hS.sl) (listed' := [true, true, true, true, true, true, true, true, false, true, false]) rfl (s_alloc hS ty_z47 rfl ?_); clear hS a; (try clear w); intro a w b3 hS
            refine Z_and hS (sub_cons (by repeat constructor) sub_nil) ?_
            refine Z_one (i := 8) rfl (want_none a hS.sl) (listed' := [true, true, true, true, true, true, true, true, true, true, false]) rfl (by kernel_rfl) (s_callN hS (.cons rfl (.cons rfl .nil)) cf23 rfl (BigAdd_P (some (x8.1.1, 0)) (some (x11.1.1, 0)) x8.1.2 x11.1.2 (hi * 18446744073709551616) lo 20 (by decide) (len20 (by omega)) (len20 (by omega)) _ (two_bb hS (by repeat (first | exact .head _ | refine .tail _ ?_)) (by repeat (first | exact .head _ | refine .tail _ ?_)))) ?_); clear hS a; (try clear w); intro x12 a w hS
            refine Z_and hS (sub_cons (by repeat constructor) sub_nil) ?_
            refine Z_one (i := 10) rfl (want_none a hS.sl) (listed' := [true, true, true, true, true, true, true, true, true, true, true]) rfl (by kernel_rfl) (s_storeA hS rfl rfl ty_sz47 (by repeat constructor) (by rfl) (by rfl) (by rfl) ?_); clear hS; (try clear w); intro w hS
            refine Z_last (by simp) ?_
            refine Z_done (by kernel_rfl) ?_
            refine n_then ?_
            refine c_seq ?_
            refine c_seq ?_
            refine c_region ?_
            first | (refine L_op (s_e hS (e_fa0 rfl ty_fo60_0) rfl ?_); clear hS a; intro a hS) | (refine L_op (s_e hS (e_faK rfl ty_fo60_0) rfl ?_); clear hS a; intro a hS)
            refine L_op (s_e hS (e_load rfl (by repeat constructor) ty_sc58 (by rfl)) rfl ?_); clear hS a; intro a hS
            refine L_op (s_e hS (e_bin rfl rfl rfl) rfl ?_); clear hS a; intro a hS
            refine L_nil ?_
            refine n_then ?_
            first | refine c_ifD hS rfl (fun hc15 => ?_) (fun hc15 => ?_) | refine c_if hS rfl (fun hc15 => ?_) (fun hc15 => ?_)
            ·
              have hn := hn hc15
              refine c_drawS [3] (by kernel_rfl) hS (sub_cons (X := .blk b1 _ _) (by repeat constructor) (sub_cons (X := .blk b3 _ _) (by repeat constructor) sub_nil)) ?_; clear hS; (try clear w); intro w hS
              simp only [List.length_cons, List.length_nil, Nat.zero_add, Nat.reduceAdd, List.replicate]
              refine Z_take (i := 0) hS rfl want_none (e_loadA rfl (by repeat constructor) ty_st47 ty_sz47 (by rfl)) (listed' := [true, false, false, false]) rfl (by kernel_rfl) (by kernel_rfl) (by kernel_rfl) (by kernel_rfl) (by kernel_rfl) (sub_cons (by repeat constructor) (sub_cons (by repeat constructor) sub_nil)) (fun _ _ _ h => h) rfl ?_; clear hS a; intro a hS
              refine Z_one (i := 1) rfl (want_none a hS.sl) (listed' := [true, true, false, false]) rfl (by kernel_rfl) (s_callN hS (.cons rfl .nil) cf87 rfl (Power128 _) ?_); clear hS a; (try clear w); intro x17 a w hS
              refine Z_and hS (sub_cons (by repeat constructor) (sub_cons (by repeat constructor) sub_nil)) ?_
              have hT := BigSub_P (some (x12.1.1, 0)) (some (x17.1.1, 0)) x12.1.2 x17.1.2 (fun e => by cases e) (hi * 18446744073709551616 + lo) 340282366920938463463374607431768211456 x17.2 20 (by decide) (len20 (by omega)) (len20 (by decide)) w (two_bb hS (by repeat (first | exact .head _ | refine .tail _ ?_)) (by repeat (first | exact .head _ | refine .tail _ ?_)))
              rw [hn] at hT
              refine Z_one (i := 2) rfl (want_none a hS.sl) (listed' := [true, true, true, false]) rfl (by kernel_rfl) (s_callN hS (.cons rfl (.cons rfl .nil)) cf51 rfl (hT) ?_); clear hS a; (try clear w); intro x18 a w hS
              refine Z_and hS (sub_cons (by repeat constructor) (sub_cons (by repeat constructor) sub_nil)) ?_
              refine Z_one (i := 3) rfl (want_none a hS.sl) (listed' := [true, true, true, true]) rfl (by kernel_rfl) (s_storeA hS rfl rfl ty_sz47 (by repeat constructor) (by rfl) (by rfl) (by rfl) ?_); clear hS; (try clear w); intro w hS
              refine Z_last (by simp) ?_
              refine Z_done (by kernel_rfl) ?_
              refine n_then ?_
              refine c_seq ?_
              refine c_region ?_
              refine L_op (s_e hS (e_loadA rfl (by repeat constructor) ty_st47 ty_sz47 (by rfl)) rfl ?_); clear hS a; intro a hS
              refine L_op (s_storeA hS rfl rfl ty_sz47 (by repeat constructor) (by rfl) (by rfl) (by rfl) ?_); clear hS; (try clear w); intro w hS
              refine L_nil ?_
              refine n_then ?_
              refine wp_ret ?_
              refine c_ret1 hS Try.results34 (.cellA rfl (by repeat constructor) ty_st47 ty_sz47 (by rfl)) ?_
              first
              | exact ⟨x18, rfl, hS.chg, hS.new (X := bigA v x18.1.1) (by repeat (first | exact .head _ | refine .tail _ ?_)) rfl⟩
              | (
                obtain ⟨y12, hy12⟩ := x12
                simp only [hp] at hS hy12
                exact ⟨⟨y12, hy12⟩, by show Ending.returned (bigV (hi * 18446744073709551616 + lo) (some (y12.1, 0)) y12.2) = Ending.returned (bigV v (some (y12.1, 0)) y12.2); rw [hp], hS.chg, hS.new (X := bigA v y12.1) (by repeat (first | exact .head _ | refine .tail _ ?_)) rfl⟩)
            ·
              have hp := hp hc15
              refine wp_skip ?_
              refine n_then ?_
              refine c_seq ?_
              refine c_region ?_
              refine L_op (s_e hS (e_loadA rfl (by repeat constructor) ty_st47 ty_sz47 (by rfl)) rfl ?_); clear hS a; intro a hS
              refine L_op (s_storeA hS rfl rfl ty_sz47 (by repeat constructor) (by rfl) (by rfl) (by rfl) ?_); clear hS; (try clear w); intro w hS
              refine L_nil ?_
              refine n_then ?_
              refine wp_ret ?_
              refine c_ret1 hS Try.results34 (.cellA rfl (by repeat constructor) ty_st47 ty_sz47 (by rfl)) ?_
              first
              | exact ⟨x18, rfl, hS.chg, hS.new (X := bigA v x18.1.1) (by repeat (first | exact .head _ | refine .tail _ ?_)) rfl⟩
              | (
                obtain ⟨y12, hy12⟩ := x12
                simp only [hp] at hS hy12
                exact ⟨⟨y12, hy12⟩, by show Ending.returned (bigV (hi * 18446744073709551616 + lo) (some (y12.1, 0)) y12.2) = Ending.returned (bigV v (some (y12.1, 0)) y12.2); rw [hp], hS.chg, hS.new (X := bigA v y12.1) (by repeat (first | exact .head _ | refine .tail _ ?_)) rfl⟩)
        ·
          refine Z_op (i := 9) rfl (want_none a hS.sl) (listed' := [true, true, true, true, true, true, true, false, false, true, false]) rfl (s_alloc hS ty_z47 rfl ?_); clear hS a; (try clear w); intro a w b3 hS
          refine Z_and hS (sub_cons (by repeat constructor) sub_nil) ?_
          refine Z_one (i := 7) rfl (want_none a hS.sl) (listed' := [true, true, true, true, true, true, true, true, false, true, false]) rfl (by kernel_rfl) (s_callN hS (.cons rfl .nil) cf88 rfl (BigUint_P lo (by omega) _) ?_); clear hS a; (try clear w); intro x11 a w hS
          refine Z_and hS (sub_cons (by repeat constructor) sub_nil) ?_
          refine Z_one (i := 8) rfl (want_none a hS.sl) (listed' := [true, true, true, true, true, true, true, true, true, true, false]) rfl (by kernel_rfl) (s_callN hS (.cons rfl (.cons rfl .nil)) cf23 rfl (BigAdd_P (some (x8.1.1, 0)) (some (x11.1.1, 0)) x8.1.2 x11.1.2 (hi * 18446744073709551616) lo 20 (by decide) (len20 (by omega)) (len20 (by omega)) _ (two_bb hS (by repeat (first | exact .head _ | refine .tail _ ?_)) (by repeat (first | exact .head _ | refine .tail _ ?_)))) ?_); clear hS a; (try clear w); intro x12 a w hS
          refine Z_and hS (sub_cons (by repeat constructor) sub_nil) ?_
          refine Z_one (i := 10) rfl (want_none a hS.sl) (listed' := [true, true, true, true, true, true, true, true, true, true, true]) rfl (by kernel_rfl) (s_storeA hS rfl rfl ty_sz47 (by repeat constructor) (by rfl) (by rfl) (by rfl) ?_); clear hS; (try clear w); intro w hS
          refine Z_last (by simp) ?_
          refine Z_done (by kernel_rfl) ?_
          refine n_then ?_
          refine c_seq ?_
          refine c_seq ?_
          refine c_region ?_
          first | (refine L_op (s_e hS (e_fa0 rfl ty_fo60_0) rfl ?_); clear hS a; intro a hS) | (refine L_op (s_e hS (e_faK rfl ty_fo60_0) rfl ?_); clear hS a; intro a hS)
          refine L_op (s_e hS (e_load rfl (by repeat constructor) ty_sc58 (by rfl)) rfl ?_); clear hS a; intro a hS
          refine L_op (s_e hS (e_bin rfl rfl rfl) rfl ?_); clear hS a; intro a hS
          refine L_nil ?_
          refine n_then ?_
          first | refine c_ifD hS rfl (fun hc15 => ?_) (fun hc15 => ?_) | refine c_if hS rfl (fun hc15 => ?_) (fun hc15 => ?_)
          ·
            have hn := hn hc15
            refine c_drawS [3] (by kernel_rfl) hS (sub_cons (X := .blk b1 _ _) (by repeat constructor) (sub_cons (X := .blk b3 _ _) (by repeat constructor) sub_nil)) ?_; clear hS; (try clear w); intro w hS
            simp only [List.length_cons, List.length_nil, Nat.zero_add, Nat.reduceAdd, List.replicate]
            refine Z_take (i := 0) hS rfl want_none (e_loadA rfl (by repeat constructor) ty_st47 ty_sz47 (by rfl)) (listed' := [true, false, false, false]) rfl (by kernel_rfl) (by kernel_rfl) (by kernel_rfl) (by kernel_rfl) (by kernel_rfl) (sub_cons (by repeat constructor) (sub_cons (by repeat constructor) sub_nil)) (fun _ _ _ h => h) rfl ?_; clear hS a; intro a hS
            refine Z_one (i := 1) rfl (want_none a hS.sl) (listed' := [true, true, false, false]) rfl (by kernel_rfl) (s_callN hS (.cons rfl .nil) cf87 rfl (Power128 _) ?_); clear hS a; (try clear w); intro x17 a w hS
            refine Z_and hS (sub_cons (by repeat constructor) (sub_cons (by repeat constructor) sub_nil)) ?_
            have hT := BigSub_P (some (x12.1.1, 0)) (some (x17.1.1, 0)) x12.1.2 x17.1.2 (fun e => by cases e) (hi * 18446744073709551616 + lo) 340282366920938463463374607431768211456 x17.2 20 (by decide) (len20 (by omega)) (len20 (by decide)) w (two_bb hS (by repeat (first | exact .head _ | refine .tail _ ?_)) (by repeat (first | exact .head _ | refine .tail _ ?_)))
            rw [hn] at hT
            refine Z_one (i := 2) rfl (want_none a hS.sl) (listed' := [true, true, true, false]) rfl (by kernel_rfl) (s_callN hS (.cons rfl (.cons rfl .nil)) cf51 rfl (hT) ?_); clear hS a; (try clear w); intro x18 a w hS
            refine Z_and hS (sub_cons (by repeat constructor) (sub_cons (by repeat constructor) sub_nil)) ?_
            refine Z_one (i := 3) rfl (want_none a hS.sl) (listed' := [true, true, true, true]) rfl (by kernel_rfl) (s_storeA hS rfl rfl ty_sz47 (by repeat constructor) (by rfl) (by rfl) (by rfl) ?_); clear hS; (try clear w); intro w hS
            refine Z_last (by simp) ?_
            refine Z_done (by kernel_rfl) ?_
            refine n_then ?_
            refine c_seq ?_
            refine c_region ?_
            refine L_op (s_e hS (e_loadA rfl (by repeat constructor) ty_st47 ty_sz47 (by rfl)) rfl ?_); clear hS a; intro a hS
            refine L_op (s_storeA hS rfl rfl ty_sz47 (by repeat constructor) (by rfl) (by rfl) (by rfl) ?_); clear hS; (try clear w); intro w hS
            refine L_nil ?_
            refine n_then ?_
            refine wp_ret ?_
            refine c_ret1 hS Try.results34 (.cellA rfl (by repeat constructor) ty_st47 ty_sz47 (by rfl)) ?_
            first
            | exact ⟨x18, rfl, hS.chg, hS.new (X := bigA v x18.1.1) (by repeat (first | exact .head _ | refine .tail _ ?_)) rfl⟩
            | (
              obtain ⟨y12, hy12⟩ := x12
              simp only [hp] at hS hy12
              exact ⟨⟨y12, hy12⟩, by show Ending.returned (bigV (hi * 18446744073709551616 + lo) (some (y12.1, 0)) y12.2) = Ending.returned (bigV v (some (y12.1, 0)) y12.2); rw [hp], hS.chg, hS.new (X := bigA v y12.1) (by repeat (first | exact .head _ | refine .tail _ ?_)) rfl⟩)
          ·
            have hp := hp hc15
            refine wp_skip ?_
            refine n_then ?_
            refine c_seq ?_
            refine c_region ?_
            refine L_op (s_e hS (e_loadA rfl (by repeat constructor) ty_st47 ty_sz47 (by rfl)) rfl ?_); clear hS a; intro a hS
            refine L_op (s_storeA hS rfl rfl ty_sz47 (by repeat constructor) (by rfl) (by rfl) (by rfl) ?_); clear hS; (try clear w); intro w hS
            refine L_nil ?_
            refine n_then ?_
            refine wp_ret ?_
            refine c_ret1 hS Try.results34 (.cellA rfl (by repeat constructor) ty_st47 ty_sz47 (by rfl)) ?_
            first
            | exact ⟨x18, rfl, hS.chg, hS.new (X := bigA v x18.1.1) (by repeat (first | exact .head _ | refine .tail _ ?_)) rfl⟩
            | (
              obtain ⟨y12, hy12⟩ := x12
              simp only [hp] at hS hy12
              exact ⟨⟨y12, hy12⟩, by show Ending.returned (bigV (hi * 18446744073709551616 + lo) (some (y12.1, 0)) y12.2) = Ending.returned (bigV v (some (y12.1, 0)) y12.2); rw [hp], hS.chg, hS.new (X := bigA v y12.1) (by repeat (first | exact .head _ | refine .tail _ ?_)) rfl⟩)
      ·
        refine Z_op (i := 9) rfl (want_none a hS.sl) (listed' := [true, true, true, true, false, true, true, false, false, true, false]) rfl (s_alloc hS ty_z47 rfl ?_); clear hS a; (try clear w); intro a w b3 hS
        refine Z_and hS (sub_cons (by repeat constructor) sub_nil) ?_
        refine Z_one (i := 4) rfl (want_none a hS.sl) (listed' := [true, true, true, true, true, true, true, false, false, true, false]) rfl (by kernel_rfl) (s_callN hS (.cons rfl (.cons rfl .nil)) cf52 rfl (BigMul_P (some (x6.1.1, 0)) (some (x7.1.1, 0)) x6.1.2 x7.1.2 hi 18446744073709551616 (by have := len20 (z := hi) (by omega); omega) (by have := len20 (z := 18446744073709551616) (by decide); omega) _ (two_bb hS (by repeat (first | exact .head _ | refine .tail _ ?_)) (by repeat (first | exact .head _ | refine .tail _ ?_)))) ?_); clear hS a; (try clear w); intro x8 a w hS
        refine Z_and hS (sub_cons (by repeat constructor) sub_nil) ?_
        refine Z_one (i := 7) rfl (want_none a hS.sl) (listed' := [true, true, true, true, true, true, true, true, false, true, false]) rfl (by kernel_rfl) (s_callN hS (.cons rfl .nil) cf88 rfl (BigUint_P lo (by omega) _) ?_); clear hS a; (try clear w); intro x11 a w hS
        refine Z_and hS (sub_cons (by repeat constructor) sub_nil) ?_
        refine Z_one (i := 8) rfl (want_none a hS.sl) (listed' := [true, true, true, true, true, true, true, true, true, true, false]) rfl (by kernel_rfl) (s_callN hS (.cons rfl (.cons rfl .nil)) cf23 rfl (BigAdd_P (some (x8.1.1, 0)) (some (x11.1.1, 0)) x8.1.2 x11.1.2 (hi * 18446744073709551616) lo 20 (by decide) (len20 (by omega)) (len20 (by omega)) _ (two_bb hS (by repeat (first | exact .head _ | refine .tail _ ?_)) (by repeat (first | exact .head _ | refine .tail _ ?_)))) ?_); clear hS a; (try clear w); intro x12 a w hS
        refine Z_and hS (sub_cons (by repeat constructor) sub_nil) ?_
        refine Z_one (i := 10) rfl (want_none a hS.sl) (listed' := [true, true, true, true, true, true, true, true, true, true, true]) rfl (by kernel_rfl) (s_storeA hS rfl rfl ty_sz47 (by repeat constructor) (by rfl) (by rfl) (by rfl) ?_); clear hS; (try clear w); intro w hS
        refine Z_last (by simp) ?_
        refine Z_done (by kernel_rfl) ?_
        refine n_then ?_
        refine c_seq ?_
        refine c_seq ?_
        refine c_region ?_
        first | (refine L_op (s_e hS (e_fa0 rfl ty_fo60_0) rfl ?_); clear hS a; intro a hS) | (refine L_op (s_e hS (e_faK rfl ty_fo60_0) rfl ?_); clear hS a; intro a hS)
        refine L_op (s_e hS (e_load rfl (by repeat constructor) ty_sc58 (by rfl)) rfl ?_); clear hS a; intro a hS
        refine L_op (s_e hS (e_bin rfl rfl rfl) rfl ?_); clear hS a; intro a hS
        refine L_nil ?_
        refine n_then ?_
        first | refine c_ifD hS rfl (fun hc15 => ?_) (fun hc15 => ?_) | refine c_if hS rfl (fun hc15 => ?_) (fun hc15 => ?_)
        ·
          have hn := hn hc15
          refine c_drawS [3] (by kernel_rfl) hS (sub_cons (X := .blk b1 _ _) (by repeat constructor) (sub_cons (X := .blk b3 _ _) (by repeat constructor) sub_nil)) ?_; clear hS; (try clear w); intro w hS
          simp only [List.length_cons, List.length_nil, Nat.zero_add, Nat.reduceAdd, List.replicate]
          refine Z_take (i := 0) hS rfl want_none (e_loadA rfl (by repeat constructor) ty_st47 ty_sz47 (by rfl)) (listed' := [true, false, false, false]) rfl (by kernel_rfl) (by kernel_rfl) (by kernel_rfl) (by kernel_rfl) (by kernel_rfl) (sub_cons (by repeat constructor) (sub_cons (by repeat constructor) sub_nil)) (fun _ _ _ h => h) rfl ?_; clear hS a; intro a hS
          refine Z_one (i := 1) rfl (want_none a hS.sl) (listed' := [true, true, false, false]) rfl (by kernel_rfl) (s_callN hS (.cons rfl .nil) cf87 rfl (Power128 _) ?_); clear hS a; (try clear w); intro x17 a w hS
          refine Z_and hS (sub_cons (by repeat constructor) (sub_cons (by repeat constructor) sub_nil)) ?_
          have hT := BigSub_P (some (x12.1.1, 0)) (some (x17.1.1, 0)) x12.1.2 x17.1.2 (fun e => by cases e) (hi * 18446744073709551616 + lo) 340282366920938463463374607431768211456 x17.2 20 (by decide) (len20 (by omega)) (len20 (by decide)) w (two_bb hS (by repeat (first | exact .head _ | refine .tail _ ?_)) (by repeat (first | exact .head _ | refine .tail _ ?_)))
          rw [hn] at hT
          refine Z_one (i := 2) rfl (want_none a hS.sl) (listed' := [true, true, true, false]) rfl (by kernel_rfl) (s_callN hS (.cons rfl (.cons rfl .nil)) cf51 rfl (hT) ?_); clear hS a; (try clear w); intro x18 a w hS
          refine Z_and hS (sub_cons (by repeat constructor) (sub_cons (by repeat constructor) sub_nil)) ?_
          refine Z_one (i := 3) rfl (want_none a hS.sl) (listed' := [true, true, true, true]) rfl (by kernel_rfl) (s_storeA hS rfl rfl ty_sz47 (by repeat constructor) (by rfl) (by rfl) (by rfl) ?_); clear hS; (try clear w); intro w hS
          refine Z_last (by simp) ?_
          refine Z_done (by kernel_rfl) ?_
          refine n_then ?_
          refine c_seq ?_
          refine c_region ?_
          refine L_op (s_e hS (e_loadA rfl (by repeat constructor) ty_st47 ty_sz47 (by rfl)) rfl ?_); clear hS a; intro a hS
          refine L_op (s_storeA hS rfl rfl ty_sz47 (by repeat constructor) (by rfl) (by rfl) (by rfl) ?_); clear hS; (try clear w); intro w hS
          refine L_nil ?_
          refine n_then ?_
          refine wp_ret ?_
          refine c_ret1 hS Try.results34 (.cellA rfl (by repeat constructor) ty_st47 ty_sz47 (by rfl)) ?_
          first
          | exact ⟨x18, rfl, hS.chg, hS.new (X := bigA v x18.1.1) (by repeat (first | exact .head _ | refine .tail _ ?_)) rfl⟩
          | (
            obtain ⟨y12, hy12⟩ := x12
            simp only [hp] at hS hy12
            exact ⟨⟨y12, hy12⟩, by show Ending.returned (bigV (hi * 18446744073709551616 + lo) (some (y12.1, 0)) y12.2) = Ending.returned (bigV v (some (y12.1, 0)) y12.2); rw [hp], hS.chg, hS.new (X := bigA v y12.1) (by repeat (first | exact .head _ | refine .tail _ ?_)) rfl⟩)
        ·
          have hp := hp hc15
          refine wp_skip ?_
          refine n_then ?_
          refine c_seq ?_
          refine c_region ?_
          refine L_op (s_e hS (e_loadA rfl (by repeat constructor) ty_st47 ty_sz47 (by rfl)) rfl ?_); clear hS a; intro a hS
          refine L_op (s_storeA hS rfl rfl ty_sz47 (by repeat constructor) (by rfl) (by rfl) (by rfl) ?_); clear hS; (try clear w); intro w hS
          refine L_nil ?_
          refine n_then ?_
          refine wp_ret ?_
          refine c_ret1 hS Try.results34 (.cellA rfl (by repeat constructor) ty_st47 ty_sz47 (by rfl)) ?_
          first
          | exact ⟨x18, rfl, hS.chg, hS.new (X := bigA v x18.1.1) (by repeat (first | exact .head _ | refine .tail _ ?_)) rfl⟩
          | (
            obtain ⟨y12, hy12⟩ := x12
            simp only [hp] at hS hy12
            exact ⟨⟨y12, hy12⟩, by show Ending.returned (bigV (hi * 18446744073709551616 + lo) (some (y12.1, 0)) y12.2) = Ending.returned (bigV v (some (y12.1, 0)) y12.2); rw [hp], hS.chg, hS.new (X := bigA v y12.1) (by repeat (first | exact .head _ | refine .tail _ ?_)) rfl⟩)
    ·
      refine Z_op (i := 9) rfl (want_none a hS.sl) (listed' := [true, true, true, false, false, true, true, false, false, true, false]) rfl (s_alloc hS ty_z47 rfl ?_); clear hS a; (try clear w); intro a w b3 hS
      refine Z_and hS (sub_cons (by repeat constructor) sub_nil) ?_
      refine Z_one (i := 3) rfl (want_none a hS.sl) (listed' := [true, true, true, true, false, true, true, false, false, true, false]) rfl (by kernel_rfl) (s_callN hS (.cons rfl .nil) cf87 rfl (Power64 _) ?_); clear hS a; (try clear w); intro x7 a w hS
      refine Z_and hS (sub_cons (by repeat constructor) sub_nil) ?_
      refine Z_one (i := 4) rfl (want_none a hS.sl) (listed' := [true, true, true, true, true, true, true, false, false, true, false]) rfl (by kernel_rfl) (s_callN hS (.cons rfl (.cons rfl .nil)) cf52 rfl (BigMul_P (some (x6.1.1, 0)) (some (x7.1.1, 0)) x6.1.2 x7.1.2 hi 18446744073709551616 (by have := len20 (z := hi) (by omega); omega) (by have := len20 (z := 18446744073709551616) (by decide); omega) _ (two_bb hS (by repeat (first | exact .head _ | refine .tail _ ?_)) (by repeat (first | exact .head _ | refine .tail _ ?_)))) ?_); clear hS a; (try clear w); intro x8 a w hS
      refine Z_and hS (sub_cons (by repeat constructor) sub_nil) ?_
      refine Z_one (i := 7) rfl (want_none a hS.sl) (listed' := [true, true, true, true, true, true, true, true, false, true, false]) rfl (by kernel_rfl) (s_callN hS (.cons rfl .nil) cf88 rfl (BigUint_P lo (by omega) _) ?_); clear hS a; (try clear w); intro x11 a w hS
      refine Z_and hS (sub_cons (by repeat constructor) sub_nil) ?_
      refine Z_one (i := 8) rfl (want_none a hS.sl) (listed' := [true, true, true, true, true, true, true, true, true, true, false]) rfl (by kernel_rfl) (s_callN hS (.cons rfl (.cons rfl .nil)) cf23 rfl (BigAdd_P (some (x8.1.1, 0)) (some (x11.1.1, 0)) x8.1.2 x11.1.2 (hi * 18446744073709551616) lo 20 (by decide) (len20 (by omega)) (len20 (by omega)) _ (two_bb hS (by repeat (first | exact .head _ | refine .tail _ ?_)) (by repeat (first | exact .head _ | refine .tail _ ?_)))) ?_); clear hS a; (try clear w); intro x12 a w hS
      refine Z_and hS (sub_cons (by repeat constructor) sub_nil) ?_
      refine Z_one (i := 10) rfl (want_none a hS.sl) (listed' := [true, true, true, true, true, true, true, true, true, true, true]) rfl (by kernel_rfl) (s_storeA hS rfl rfl ty_sz47 (by repeat constructor) (by rfl) (by rfl) (by rfl) ?_); clear hS; (try clear w); intro w hS
      refine Z_last (by simp) ?_
      refine Z_done (by kernel_rfl) ?_
      refine n_then ?_
      refine c_seq ?_
      refine c_seq ?_
      refine c_region ?_
      first | (refine L_op (s_e hS (e_fa0 rfl ty_fo60_0) rfl ?_); clear hS a; intro a hS) | (refine L_op (s_e hS (e_faK rfl ty_fo60_0) rfl ?_); clear hS a; intro a hS)
      refine L_op (s_e hS (e_load rfl (by repeat constructor) ty_sc58 (by rfl)) rfl ?_); clear hS a; intro a hS
      refine L_op (s_e hS (e_bin rfl rfl rfl) rfl ?_); clear hS a; intro a hS
      refine L_nil ?_
      refine n_then ?_
      first | refine c_ifD hS rfl (fun hc15 => ?_) (fun hc15 => ?_) | refine c_if hS rfl (fun hc15 => ?_) (fun hc15 => ?_)
      ·
        have hn := hn hc15
        refine c_drawS [3] (by kernel_rfl) hS (sub_cons (X := .blk b1 _ _) (by repeat constructor) (sub_cons (X := .blk b3 _ _) (by repeat constructor) sub_nil)) ?_; clear hS; (try clear w); intro w hS
        simp only [List.length_cons, List.length_nil, Nat.zero_add, Nat.reduceAdd, List.replicate]
        refine Z_take (i := 0) hS rfl want_none (e_loadA rfl (by repeat constructor) ty_st47 ty_sz47 (by rfl)) (listed' := [true, false, false, false]) rfl (by kernel_rfl) (by kernel_rfl) (by kernel_rfl) (by kernel_rfl) (by kernel_rfl) (sub_cons (by repeat constructor) (sub_cons (by repeat constructor) sub_nil)) (fun _ _ _ h => h) rfl ?_; clear hS a; intro a hS
        refine Z_one (i := 1) rfl (want_none a hS.sl) (listed' := [true, true, false, false]) rfl (by kernel_rfl) (s_callN hS (.cons rfl .nil) cf87 rfl (Power128 _) ?_); clear hS a; (try clear w); intro x17 a w hS
        refine Z_and hS (sub_cons (by repeat constructor) (sub_cons (by repeat constructor) sub_nil)) ?_
        have hT := BigSub_P (some (x12.1.1, 0)) (some (x17.1.1, 0)) x12.1.2 x17.1.2 (fun e => by cases e) (hi * 18446744073709551616 + lo) 340282366920938463463374607431768211456 x17.2 20 (by decide) (len20 (by omega)) (len20 (by decide)) w (two_bb hS (by repeat (first | exact .head _ | refine .tail _ ?_)) (by repeat (first | exact .head _ | refine .tail _ ?_)))
        rw [hn] at hT
        refine Z_one (i := 2) rfl (want_none a hS.sl) (listed' := [true, true, true, false]) rfl (by kernel_rfl) (s_callN hS (.cons rfl (.cons rfl .nil)) cf51 rfl (hT) ?_); clear hS a; (try clear w); intro x18 a w hS
        refine Z_and hS (sub_cons (by repeat constructor) (sub_cons (by repeat constructor) sub_nil)) ?_
        refine Z_one (i := 3) rfl (want_none a hS.sl) (listed' := [true, true, true, true]) rfl (by kernel_rfl) (s_storeA hS rfl rfl ty_sz47 (by repeat constructor) (by rfl) (by rfl) (by rfl) ?_); clear hS; (try clear w); intro w hS
        refine Z_last (by simp) ?_
        refine Z_done (by kernel_rfl) ?_
        refine n_then ?_
        refine c_seq ?_
        refine c_region ?_
        refine L_op (s_e hS (e_loadA rfl (by repeat constructor) ty_st47 ty_sz47 (by rfl)) rfl ?_); clear hS a; intro a hS
        refine L_op (s_storeA hS rfl rfl ty_sz47 (by repeat constructor) (by rfl) (by rfl) (by rfl) ?_); clear hS; (try clear w); intro w hS
        refine L_nil ?_
        refine n_then ?_
        refine wp_ret ?_
        refine c_ret1 hS Try.results34 (.cellA rfl (by repeat constructor) ty_st47 ty_sz47 (by rfl)) ?_
        first
        | exact ⟨x18, rfl, hS.chg, hS.new (X := bigA v x18.1.1) (by repeat (first | exact .head _ | refine .tail _ ?_)) rfl⟩
        | (
          obtain ⟨y12, hy12⟩ := x12
          simp only [hp] at hS hy12
          exact ⟨⟨y12, hy12⟩, by show Ending.returned (bigV (hi * 18446744073709551616 + lo) (some (y12.1, 0)) y12.2) = Ending.returned (bigV v (some (y12.1, 0)) y12.2); rw [hp], hS.chg, hS.new (X := bigA v y12.1) (by repeat (first | exact .head _ | refine .tail _ ?_)) rfl⟩)
      ·
        have hp := hp hc15
        refine wp_skip ?_
        refine n_then ?_
        refine c_seq ?_
        refine c_region ?_
        refine L_op (s_e hS (e_loadA rfl (by repeat constructor) ty_st47 ty_sz47 (by rfl)) rfl ?_); clear hS a; intro a hS
        refine L_op (s_storeA hS rfl rfl ty_sz47 (by repeat constructor) (by rfl) (by rfl) (by rfl) ?_); clear hS; (try clear w); intro w hS
        refine L_nil ?_
        refine n_then ?_
        refine wp_ret ?_
        refine c_ret1 hS Try.results34 (.cellA rfl (by repeat constructor) ty_st47 ty_sz47 (by rfl)) ?_
        first
        | exact ⟨x18, rfl, hS.chg, hS.new (X := bigA v x18.1.1) (by repeat (first | exact .head _ | refine .tail _ ?_)) rfl⟩
        | (
          obtain ⟨y12, hy12⟩ := x12
          simp only [hp] at hS hy12
          exact ⟨⟨y12, hy12⟩, by show Ending.returned (bigV (hi * 18446744073709551616 + lo) (some (y12.1, 0)) y12.2) = Ending.returned (bigV v (some (y12.1, 0)) y12.2); rw [hp], hS.chg, hS.new (X := bigA v y12.1) (by repeat (first | exact .head _ | refine .tail _ ?_)) rfl⟩)
  ·
    refine Z_op (i := 9) rfl (want_none a hS.sl) (listed' := [true, true, false, false, false, true, true, false, false, true, false]) rfl (s_alloc hS ty_z47 rfl ?_); clear hS a; (try clear w); intro a w b3 hS
    refine Z_and hS (sub_cons (by repeat constructor) sub_nil) ?_
    refine Z_one (i := 2) rfl (want_none a hS.sl) (listed' := [true, true, true, false, false, true, true, false, false, true, false]) rfl (by kernel_rfl) (s_callN hS (.cons rfl .nil) cf88 rfl (BigUint_P hi (by omega) _) ?_); clear hS a; (try clear w); intro x6 a w hS
    refine Z_and hS (sub_cons (by repeat constructor) sub_nil) ?_
    refine Z_one (i := 3) rfl (want_none a hS.sl) (listed' := [true, true, true, true, false, true, true, false, false, true, false]) rfl (by kernel_rfl) (s_callN hS (.cons rfl .nil) cf87 rfl (Power64 _) ?_); clear hS a; (try clear w); intro x7 a w hS
    refine Z_and hS (sub_cons (by repeat constructor) sub_nil) ?_
    refine Z_one (i := 4) rfl (want_none a hS.sl) (listed' := [true, true, true, true, true, true, true, false, false, true, false]) rfl (by kernel_rfl) (s_callN hS (.cons rfl (.cons rfl .nil)) cf52 rfl (BigMul_P (some (x6.1.1, 0)) (some (x7.1.1, 0)) x6.1.2 x7.1.2 hi 18446744073709551616 (by have := len20 (z := hi) (by omega); omega) (by have := len20 (z := 18446744073709551616) (by decide); omega) _ (two_bb hS (by repeat (first | exact .head _ | refine .tail _ ?_)) (by repeat (first | exact .head _ | refine .tail _ ?_)))) ?_); clear hS a; (try clear w); intro x8 a w hS
    refine Z_and hS (sub_cons (by repeat constructor) sub_nil) ?_
    refine Z_one (i := 7) rfl (want_none a hS.sl) (listed' := [true, true, true, true, true, true, true, true, false, true, false]) rfl (by kernel_rfl) (s_callN hS (.cons rfl .nil) cf88 rfl (BigUint_P lo (by omega) _) ?_); clear hS a; (try clear w); intro x11 a w hS
    refine Z_and hS (sub_cons (by repeat constructor) sub_nil) ?_
    refine Z_one (i := 8) rfl (want_none a hS.sl) (listed' := [true, true, true, true, true, true, true, true, true, true, false]) rfl (by kernel_rfl) (s_callN hS (.cons rfl (.cons rfl .nil)) cf23 rfl (BigAdd_P (some (x8.1.1, 0)) (some (x11.1.1, 0)) x8.1.2 x11.1.2 (hi * 18446744073709551616) lo 20 (by decide) (len20 (by omega)) (len20 (by omega)) _ (two_bb hS (by repeat (first | exact .head _ | refine .tail _ ?_)) (by repeat (first | exact .head _ | refine .tail _ ?_)))) ?_); clear hS a; (try clear w); intro x12 a w hS
    refine Z_and hS (sub_cons (by repeat constructor) sub_nil) ?_
    refine Z_one (i := 10) rfl (want_none a hS.sl) (listed' := [true, true, true, true, true, true, true, true, true, true, true]) rfl (by kernel_rfl) (s_storeA hS rfl rfl ty_sz47 (by repeat constructor) (by rfl) (by rfl) (by rfl) ?_); clear hS; (try clear w); intro w hS
    refine Z_last (by simp) ?_
    refine Z_done (by kernel_rfl) ?_
    refine n_then ?_
    refine c_seq ?_
    refine c_seq ?_
    refine c_region ?_
    first | (refine L_op (s_e hS (e_fa0 rfl ty_fo60_0) rfl ?_); clear hS a; intro a hS) | (refine L_op (s_e hS (e_faK rfl ty_fo60_0) rfl ?_); clear hS a; intro a hS)
    refine L_op (s_e hS (e_load rfl (by repeat constructor) ty_sc58 (by rfl)) rfl ?_); clear hS a; intro a hS
    refine L_op (s_e hS (e_bin rfl rfl rfl) rfl ?_); clear hS a; intro a hS
    refine L_nil ?_
    refine n_then ?_
    first | refine c_ifD hS rfl (fun hc15 => ?_) (fun hc15 => ?_) | refine c_if hS rfl (fun hc15 => ?_) (fun hc15 => ?_)
    ·
      have hn := hn hc15
      refine c_drawS [3] (by kernel_rfl) hS (sub_cons (X := .blk b1 _ _) (by repeat constructor) (sub_cons (X := .blk b3 _ _) (by repeat constructor) sub_nil)) ?_; clear hS; (try clear w); intro w hS
      simp only [List.length_cons, List.length_nil, Nat.zero_add, Nat.reduceAdd, List.replicate]
      refine Z_take (i := 0) hS rfl want_none (e_loadA rfl (by repeat constructor) ty_st47 ty_sz47 (by rfl)) (listed' := [true, false, false, false]) rfl (by kernel_rfl) (by kernel_rfl) (by kernel_rfl) (by kernel_rfl) (by kernel_rfl) (sub_cons (by repeat constructor) (sub_cons (by repeat constructor) sub_nil)) (fun _ _ _ h => h) rfl ?_; clear hS a; intro a hS
      refine Z_one (i := 1) rfl (want_none a hS.sl) (listed' := [true, true, false, false]) rfl (by kernel_rfl) (s_callN hS (.cons rfl .nil) cf87 rfl (Power128 _) ?_); clear hS a; (try clear w); intro x17 a w hS
      refine Z_and hS (sub_cons (by repeat constructor) (sub_cons (by repeat constructor) sub_nil)) ?_
      have hT := BigSub_P (some (x12.1.1, 0)) (some (x17.1.1, 0)) x12.1.2 x17.1.2 (fun e => by cases e) (hi * 18446744073709551616 + lo) 340282366920938463463374607431768211456 x17.2 20 (by decide) (len20 (by omega)) (len20 (by decide)) w (two_bb hS (by repeat (first | exact .head _ | refine .tail _ ?_)) (by repeat (first | exact .head _ | refine .tail _ ?_)))
      rw [hn] at hT
      refine Z_one (i := 2) rfl (want_none a hS.sl) (listed' := [true, true, true, false]) rfl (by kernel_rfl) (s_callN hS (.cons rfl (.cons rfl .nil)) cf51 rfl (hT) ?_); clear hS a; (try clear w); intro x18 a w hS
      refine Z_and hS (sub_cons (by repeat constructor) (sub_cons (by repeat constructor) sub_nil)) ?_
      refine Z_one (i := 3) rfl (want_none a hS.sl) (listed' := [true, true, true, true]) rfl (by kernel_rfl) (s_storeA hS rfl rfl ty_sz47 (by repeat constructor) (by rfl) (by rfl) (by rfl) ?_); clear hS; (try clear w); intro w hS
      refine Z_last (by simp) ?_
      refine Z_done (by kernel_rfl) ?_
      refine n_then ?_
      refine c_seq ?_
      refine c_region ?_
      refine L_op (s_e hS (e_loadA rfl (by repeat constructor) ty_st47 ty_sz47 (by rfl)) rfl ?_); clear hS a; intro a hS
      refine L_op (s_storeA hS rfl rfl ty_sz47 (by repeat constructor) (by rfl) (by rfl) (by rfl) ?_); clear hS; (try clear w); intro w hS
      refine L_nil ?_
      refine n_then ?_
      refine wp_ret ?_
      refine c_ret1 hS Try.results34 (.cellA rfl (by repeat constructor) ty_st47 ty_sz47 (by rfl)) ?_
      first
      | exact ⟨x18, rfl, hS.chg, hS.new (X := bigA v x18.1.1) (by repeat (first | exact .head _ | refine .tail _ ?_)) rfl⟩
      | (
        obtain ⟨y12, hy12⟩ := x12
        simp only [hp] at hS hy12
        exact ⟨⟨y12, hy12⟩, by show Ending.returned (bigV (hi * 18446744073709551616 + lo) (some (y12.1, 0)) y12.2) = Ending.returned (bigV v (some (y12.1, 0)) y12.2); rw [hp], hS.chg, hS.new (X := bigA v y12.1) (by repeat (first | exact .head _ | refine .tail _ ?_)) rfl⟩)
    ·
      have hp := hp hc15
      refine wp_skip ?_
      refine n_then ?_
      refine c_seq ?_
      refine c_region ?_
      refine L_op (s_e hS (e_loadA rfl (by repeat constructor) ty_st47 ty_sz47 (by rfl)) rfl ?_); clear hS a; intro a hS
      refine L_op (s_storeA hS rfl rfl ty_sz47 (by repeat constructor) (by rfl) (by rfl) (by rfl) ?_); clear hS; (try clear w); intro w hS
      refine L_nil ?_
      refine n_then ?_
      refine wp_ret ?_
      refine c_ret1 hS Try.results34 (.cellA rfl (by repeat constructor) ty_st47 ty_sz47 (by rfl)) ?_
      first
      | exact ⟨x18, rfl, hS.chg, hS.new (X := bigA v x18.1.1) (by repeat (first | exact .head _ | refine .tail _ ?_)) rfl⟩
      | (
        obtain ⟨y12, hy12⟩ := x12
        simp only [hp] at hS hy12
        exact ⟨⟨y12, hy12⟩, by show Ending.returned (bigV (hi * 18446744073709551616 + lo) (some (y12.1, 0)) y12.2) = Ending.returned (bigV v (some (y12.1, 0)) y12.2); rw [hp], hS.chg, hS.new (X := bigA v y12.1) (by repeat (first | exact .head _ | refine .tail _ ?_)) rfl⟩)

theorem cmpZ_neg {x y : Int} : cmpZ x y < 0 ↔ x < y := by unfold cmpZ; split <;> (try split) <;> omega
theorem cmpZ_ge {x y : Int} : 0 ≤ cmpZ x y ↔ y ≤ x := by unfold cmpZ; split <;> (try split) <;> omega
theorem cmpZ_eq {x y : Int} : cmpZ x y = 0 ↔ x = y := by unfold cmpZ; split <;> (try split) <;> omega
set_option maxRecDepth 100000 in
theorem fits_P (p : Option (Nat × Nat)) (c : Nat) (z : Int) (hz : (dgs z.natAbs).length ≤ 1000) (w0 : World) (h : (oneA p (dgs z.natAbs)).ok w0) :
    PureC Try.prog 33 [bigV z p c] w0 (.bool (decide (Wd.fit z))) := by
  refine c_enter [(0, bigV z p c)] [oneA p (dgs z.natAbs)] noB Try.func33 rfl Try.ntmps33 ⟨rfl, trivial⟩ rfl (by intro X hX; obtain rfl := List.mem_singleton.1 hX; exact h) (by simp) (by intro X hX hm; obtain rfl := List.mem_singleton.1 hX; cases hm) ?_
  intro a hS
  refine c_seq ?_
  refine c_region ?_
  refine L_op (s_boxA hS rfl rfl ?_); clear hS a; (try clear w); intro a w b1 hS
  refine L_op (s_e hS (e_assign rfl) rfl ?_); clear hS a; intro a hS
  refine L_nil ?_
  refine n_then ?_
  refine c_seq ?_
  refine c_drawS [] (by kernel_rfl) hS (sub_cons (X := .blk b1 _ _) (by repeat constructor) sub_nil) ?_; clear hS; (try clear w); intro w hS
  simp only [List.length_cons, List.length_nil, Nat.zero_add, Nat.reduceAdd, List.replicate]
  refine Z_take (i := 0) hS rfl want_none (e_loadA rfl (by repeat constructor) ty_st47 ty_sz47 (by rfl)) (listed' := [true, false, false, false, false, false, false, false, false, false, false, false]) rfl (by kernel_rfl) (by kernel_rfl) (by kernel_rfl) (by kernel_rfl) (by kernel_rfl) (sub_cons (by repeat constructor) sub_nil) (fun _ _ _ h => h) rfl ?_; clear hS a; intro a hS
  refine Z_one (i := 1) rfl (want_none a hS.sl) (listed' := [true, true, false, false, false, false, false, false, false, false, false, false]) rfl (by kernel_rfl) (s_callN hS (.cons rfl .nil) cf87 rfl (Power127 _) ?_); clear hS a; (try clear w); intro x4 a w hS
  refine Z_and hS (sub_cons (by repeat constructor) sub_nil) ?_
  refine Z_one (i := 2) rfl (want_none a hS.sl) (listed' := [true, true, true, false, false, false, false, false, false, false, false, false]) rfl (by kernel_rfl) (s_callP hS (.cons rfl (.cons rfl .nil)) cf25 rfl (BigCmp_P p (some (x4.1.1, 0)) c x4.1.2 z 170141183460469231731687303715884105728 (by omega) _ (two_ob hS (xs := dgs z.natAbs) (by repeat (first | exact .head _ | refine .tail _ ?_)) (by repeat (first | exact .head _ | refine .tail _ ?_)))) ?_); clear hS a; (try clear w); intro a w hS
  refine Z_and hS (sub_cons (by repeat constructor) sub_nil) ?_
  refine Z_take0 (i := 3) hS rfl want_none (e_bin rfl rfl rfl) (listed' := [true, true, true, true, false, false, false, false, false, false, false, false]) rfl (by kernel_rfl) (by kernel_rfl) (by kernel_rfl) (fun _ _ _ h => h) rfl ?_; clear hS a; intro a hS
  refine Z_take0 (i := 4) hS rfl want_none (e_move rfl) (listed' := [true, true, true, true, true, false, false, false, false, false, false, false]) rfl (by kernel_rfl) (by kernel_rfl) (by kernel_rfl) (fun _ _ _ h => h) rfl ?_; clear hS a; intro a hS
  (first | refine g_splitD (t := 7) hS rfl ?_ ?_ | refine g_split (t := 7) hS rfl ?_ ?_) <;> (clear hS; intro hg7 hS)
  ·
    refine Z_take (i := 5) hS rfl (want_go rfl rfl) (e_loadA rfl (by repeat constructor) ty_st47 ty_sz47 (by rfl)) (listed' := [true, true, true, true, true, true, false, false, false, false, false, false]) rfl (by kernel_rfl) (by kernel_rfl) (by kernel_rfl) (by kernel_rfl) (by kernel_rfl) (sub_cons (by repeat constructor) sub_nil) (fun _ _ _ h => h) rfl ?_; clear hS a; intro a hS
    refine Z_one (i := 6) rfl (want_go rfl rfl a hS.sl) (listed' := [true, true, true, true, true, true, true, false, false, false, false, false]) rfl (by kernel_rfl) (s_callN hS (.cons rfl .nil) cf87 rfl (Power127 _) ?_); clear hS a; (try clear w); intro x9 a w hS
    refine Z_and hS (sub_cons (by repeat constructor) sub_nil) ?_
    refine Z_one (i := 7) rfl (want_go rfl rfl a hS.sl) (listed' := [true, true, true, true, true, true, true, true, false, false, false, false]) rfl (by kernel_rfl) (s_callN hS (.cons rfl .nil) cf53 rfl (BigNeg_P (some (x9.1.1, 0)) x9.1.2 (fun e => by cases e) 170141183460469231731687303715884105728 x9.2 (by have := len20 (z := 170141183460469231731687303715884105728) (by decide); omega) _ (row_b hS (by repeat (first | exact .head _ | refine .tail _ ?_))).1 (row_b hS (x := 170141183460469231731687303715884105728) (by repeat (first | exact .head _ | refine .tail _ ?_))).2) ?_); clear hS a; (try clear w); intro x10 a w hS
    refine Z_and hS (sub_cons (by repeat constructor) sub_nil) ?_
    refine Z_one (i := 8) rfl (want_go rfl rfl a hS.sl) (listed' := [true, true, true, true, true, true, true, true, true, false, false, false]) rfl (by kernel_rfl) (s_callP hS (.cons rfl (.cons rfl .nil)) cf25 rfl (BigCmp_P p (some (x10.1.1, 0)) c x10.1.2 z (-170141183460469231731687303715884105728) (by omega) _ (two_ob hS (xs := dgs z.natAbs) (by repeat (first | exact .head _ | refine .tail _ ?_)) (by repeat (first | exact .head _ | refine .tail _ ?_)))) ?_); clear hS a; (try clear w); intro a w hS
    refine Z_and hS (sub_cons (by repeat constructor) sub_nil) ?_
    refine Z_take0 (i := 9) hS rfl (want_go rfl rfl) (e_bin rfl rfl rfl) (listed' := [true, true, true, true, true, true, true, true, true, true, false, false]) rfl (by kernel_rfl) (by kernel_rfl) (by kernel_rfl) (fun _ _ _ h => h) rfl ?_; clear hS a; intro a hS
    first | (refine Z_take0 (i := 10) hS rfl want_none (e_pick_t rfl rfl) (listed' := [true, true, true, true, true, true, true, true, true, true, true, false]) rfl (by kernel_rfl) (by kernel_rfl) (by kernel_rfl) (fun _ _ _ h => h) rfl ?_; clear hS a; intro a hS) | (refine Z_take0 (i := 10) hS rfl want_none (e_pick_f rfl rfl) (listed' := [true, true, true, true, true, true, true, true, true, true, true, false]) rfl (by kernel_rfl) (by kernel_rfl) (by kernel_rfl) (fun _ _ _ h => h) rfl ?_; clear hS a; intro a hS)
    refine Z_take0 (i := 11) hS rfl want_none (e_assign rfl) (listed' := [true, true, true, true, true, true, true, true, true, true, true, true]) rfl (by kernel_rfl) (by kernel_rfl) (by kernel_rfl) (fun _ _ _ h => h) rfl ?_; clear hS a; intro a hS
    refine Z_done (by kernel_rfl) ?_
    refine n_then ?_
    refine wp_ret ?_
    refine c_ret1 hS Try.results33 (.tmp rfl) ?_
    refine ⟨?_, hS.chg⟩
    rw [cmpZ_neg] at hg7
    first
    | (
      refine congrArg (fun b => Ending.returned (Value.bool b)) (decide_eq_decide.2 ?_)
      rw [cmpZ_ge]
      unfold Wd.fit; omega)
    | exact congrArg (fun b => Ending.returned (Value.bool b)) (decide_eq_false (by unfold Wd.fit; omega)).symm
  ·
    refine Z_none_t (i := 5) hS rfl rfl rfl (listed' := [true, true, true, true, true, true, false, false, false, false, false, false]) rfl (by kernel_rfl) (by kernel_rfl) (by kernel_rfl) (fun _ _ _ h => h) rfl ?_; clear hS a; intro a hS
    refine Z_none_t (i := 6) hS rfl rfl rfl (listed' := [true, true, true, true, true, true, true, false, false, false, false, false]) rfl (by kernel_rfl) (by kernel_rfl) (by kernel_rfl) (fun _ _ _ h => h) rfl ?_; clear hS a; intro a hS
    refine Z_none_t (i := 7) hS rfl rfl rfl (listed' := [true, true, true, true, true, true, true, true, false, false, false, false]) rfl (by kernel_rfl) (by kernel_rfl) (by kernel_rfl) (fun _ _ _ h => h) rfl ?_; clear hS a; intro a hS
    refine Z_none_t (i := 8) hS rfl rfl rfl (listed' := [true, true, true, true, true, true, true, true, true, false, false, false]) rfl (by kernel_rfl) (by kernel_rfl) (by kernel_rfl) (fun _ _ _ h => h) rfl ?_; clear hS a; intro a hS
    refine Z_none_t (i := 9) hS rfl rfl rfl (listed' := [true, true, true, true, true, true, true, true, true, true, false, false]) rfl (by kernel_rfl) (by kernel_rfl) (by kernel_rfl) (fun _ _ _ h => h) rfl ?_; clear hS a; intro a hS
    first | (refine Z_take0 (i := 10) hS rfl want_none (e_pick_t rfl rfl) (listed' := [true, true, true, true, true, true, true, true, true, true, true, false]) rfl (by kernel_rfl) (by kernel_rfl) (by kernel_rfl) (fun _ _ _ h => h) rfl ?_; clear hS a; intro a hS) | (refine Z_take0 (i := 10) hS rfl want_none (e_pick_f rfl rfl) (listed' := [true, true, true, true, true, true, true, true, true, true, true, false]) rfl (by kernel_rfl) (by kernel_rfl) (by kernel_rfl) (fun _ _ _ h => h) rfl ?_; clear hS a; intro a hS)
    refine Z_take0 (i := 11) hS rfl want_none (e_assign rfl) (listed' := [true, true, true, true, true, true, true, true, true, true, true, true]) rfl (by kernel_rfl) (by kernel_rfl) (by kernel_rfl) (fun _ _ _ h => h) rfl ?_; clear hS a; intro a hS
    refine Z_done (by kernel_rfl) ?_
    refine n_then ?_
    refine wp_ret ?_
    refine c_ret1 hS Try.results33 (.tmp rfl) ?_
    refine ⟨?_, hS.chg⟩
    rw [cmpZ_neg] at hg7
    first
    | (
      refine congrArg (fun b => Ending.returned (Value.bool b)) (decide_eq_decide.2 ?_)
      rw [cmpZ_ge]
      unfold Wd.fit; omega)
    | exact congrArg (fun b => Ending.returned (Value.bool b)) (decide_eq_false (by unfold Wd.fit; omega)).symm
end Go.Proofs.Ytfiaobhkhedpiaa

