/- The law FxOwn, walked. -/
import Derived.Test.YtheofhegdjjfgaaLFxL
namespace Go.Proofs.Ytheofhegdjjfgaa
open Go.RowKit

def gu (at_ : Int) : Int × Int := if ¬ inst at_ then (0, 6) else (1000000000, 0)
def wu (u at_ : Int) : Int × Int := if ¬ inU u then (0, 6) else if ¬ inst at_ then (0, 6) else (u, 0)
theorem get_usd (l : List (ByteArray × List (Int × Int))) (at_ : Int) : getF usd l usd at_ = gu at_ := by
  have e : askF usd at_ = if ¬ inst at_ then 6 else 0 := by unfold askF; rw [if_neg (fun h => h usd_scale)]
  unfold getF gu
  rw [e]
  by_cases h : inst at_
  · simp [h]
  · simp [h]
theorem worth_usd (l : List (ByteArray × List (Int × Int))) (u at_ : Int) : worthF usd l u usd at_ = wu u at_ := by
  have e : checkF u usd = if ¬ inU u then 6 else 0 := by unfold checkF; rw [if_neg (fun h => h usd_scale)]
  unfold worthF wu
  rw [e, get_usd]
  unfold gu
  by_cases h : inU u
  · by_cases h2 : inst at_
    · simp [h, h2, conv_one]
    · simp [h, h2]
  · simp [h]

set_option maxRecDepth 100000 in
theorem FxOwn_P (p : Option (Nat × Nat)) (c : Nat) (l : List RR) (u at_ : Int) (hlen : l.length ≤ 4611686018427387904) (hfit : ∀ x ∈ l, rrFits x)
    (bu : -9223372036854775808 ≤ u ∧ u ≤ 9223372036854775807) (w0 : World) (h : RowP p 3 (l.map encR) w0) (hb : ∀ q, p = some q → q.1 < w0.heap.size) :
    PureC Try.prog 5 [sliceV p l.length c, .int .i64 u, .int .i64 at_] w0 (.bool true) := by
  have hrow : ∀ w', Chg noB w0 w' → RowP p 3 (l.map encR) w' := fun w' hc => ((ok_rowP h hb).keep hc (fun _ _ hf => hf)).now
  have hpt : ∀ w', Chg noB w0 w' → ∀ q, p = some q → q.1 < w'.heap.size := fun w' hc q hq => Nat.lt_of_lt_of_le (hb q hq) hc.size
  refine c_enter [(0, sliceV p l.length c), (1, .int .i64 u), (2, .int .i64 at_)] [rowP p 3 (l.map encR)] noB Try.func5 rfl Try.ntmps5 ⟨rfl, rfl, rfl, trivial⟩ rfl (okC (ok_rowP h hb) okN) dis1 (mineC (by rfl) mineN) ?_
  intro a hS
  refine c_seq ?_
  refine c_region ?_
  refine L_op (s_e hS (e_assign rfl) rfl ?_); clear hS a; intro a hS
  refine L_nil ?_
  refine n_then ?_
  refine c_seq ?_
  refine c_region ?_
  refine L_op (s_callP hS .nil cf12 rfl (fxfirst_P _) ?_); clear hS a; (try clear w); intro a w hS
  refine L_op (s_e hS (e_assign rfl) rfl ?_); clear hS a; intro a hS
  refine L_nil ?_
  refine n_then ?_
  refine c_seq ?_
  refine c_region ?_
  refine L_op (s_e hS (e_move rfl) rfl ?_); clear hS a; intro a hS
  refine L_op (s_callP hS (.cons rfl .nil) cf13 rfl (fxfew_P p c l hlen hfit _ (hrow _ hS.chg) (hpt _ hS.chg)) ?_); clear hS a; (try clear w); intro a w hS
  refine L_op (s_e hS (e_assign rfl) rfl ?_); clear hS a; intro a hS
  refine L_nil ?_
  refine n_then ?_
  refine c_seq ?_
  refine c_seq ?_
  refine c_region ?_
  refine L_op (s_e hS (e_move rfl) rfl ?_); clear hS a; intro a hS
  refine L_op (s_e hS (e_not rfl) rfl ?_); clear hS a; intro a hS
  refine L_op (s_e hS (e_move rfl) rfl ?_); clear hS a; intro a hS
  replace hS := hS.is (t := 22) (c := false) rfl (rfl)
  refine L_go hS rfl rfl (s_e hS (e_move rfl) rfl ?_); clear hS a; intro a hS
  refine L_go hS rfl rfl (s_e hS (e_not rfl) rfl ?_); clear hS a; intro a hS
  first | (refine L_op (s_e hS (e_pick_t rfl rfl) rfl ?_); clear hS a; intro a hS) | (refine L_op (s_e hS (e_pick_f rfl rfl) rfl ?_); clear hS a; intro a hS)
  refine L_nil ?_
  refine n_then ?_
  first | refine c_ifD hS rfl (fun hc25 => ?_) (fun hc25 => ?_) | refine c_if hS rfl (fun hc25 => ?_) (fun hc25 => ?_)
  ·
    refine c_seq ?_
    refine c_region ?_
    refine L_op (s_e hS (e_move rfl) rfl ?_); clear hS a; intro a hS
    refine L_op (s_e hS (e_assign rfl) rfl ?_); clear hS a; intro a hS
    refine L_nil ?_
    refine n_then ?_
    refine wp_ret ?_
    refine r_then ?_
    refine c_ret1 hS Try.results5 (.tmp rfl) ?_
    exact ⟨rfl, hS.chg⟩
  ·
    refine wp_skip ?_
    refine n_then ?_
    refine c_seq ?_
    refine c_region ?_
    refine L_op (s_e hS (e_move rfl) rfl ?_); clear hS a; intro a hS
    refine L_op (s_callN hS (.cons rfl .nil) cf17 rfl (fxmade_P p c l hlen hfit _ (hrow _ hS.chg) (hpt _ hS.chg)) ?_); clear hS a; (try clear w); intro x29 a w hS
    obtain ⟨y, hy, hrf⟩ := x29
    replace hS := hS.swap (X := bothA y) (Y := ratesA y.bk y.mb usd y.es y.n true) (by repeat constructor) (rates_ok true (hS.get (X := bothA y) (by repeat constructor)).1) (fun b hb => .inl hb) rfl
    have hnano : nanoOK (vsT y.es) := by rw [show vsT y.es = (madeF usd l).1 from congrArg Prod.fst hy]; exact nano_made _ _
    refine L_op (s_e hS (e_move rfl) rfl ?_); clear hS a; intro a hS
    refine L_op (s_e hS (e_extract rfl rfl) rfl ?_); clear hS a; intro a hS
    refine L_op (s_e hS (e_extract rfl rfl) rfl ?_); clear hS a; intro a hS
    refine L_op (s_e hS (e_assign rfl) rfl ?_); clear hS a; intro a hS
    refine L_op (s_e hS (e_assign rfl) rfl ?_); clear hS a; intro a hS
    refine L_nil ?_
    refine n_then ?_
    refine c_seq ?_
    refine c_seq ?_
    refine c_region ?_
    refine L_op (s_e hS (e_move rfl) rfl ?_); clear hS a; intro a hS
    refine L_op (s_e hS (e_nil rfl ty_u32) rfl ?_); clear hS a; intro a hS
    refine L_nil ?_
    refine n_then ?_
    replace hS := hS.is (t := 33) (c := false) rfl (rfl)
    refine c_if_f hS rfl ?_
    refine wp_skip ?_
    refine n_then ?_
    refine c_seq ?_
    refine c_region ?_
    refine L_op (s_e hS (e_move rfl) rfl ?_); clear hS a; intro a hS
    refine L_op (s_e hS (e_move rfl) rfl ?_); clear hS a; intro a hS
    refine L_op (s_e hS (e_build ty_z41 ty_pl41 (.one rfl rfl rfl (by repeat constructor) (.one rfl rfl rfl (by repeat constructor) .nil))) rfl ?_); clear hS a; intro a hS
    refine L_op (s_e hS (e_move rfl) rfl ?_); clear hS a; intro a hS
    refine L_op (s_callP hS (.cons rfl (.cons rfl (.cons rfl .nil))) cf20 rfl (fxWorth_P y.bk y.mb usd usd y.es y.n u at_ bu _ (hS.get (X := ratesA y.bk y.mb usd y.es y.n true) (by repeat constructor)) hnano) ?_); clear hS a; (try clear w); intro a w hS
    rw [worth_usd] at hS
    refine L_op (s_e hS (e_move rfl) rfl ?_); clear hS a; intro a hS
    refine L_op (s_e hS (e_extract rfl rfl) rfl ?_); clear hS a; intro a hS
    refine L_op (s_e hS (e_extract rfl rfl) rfl ?_); clear hS a; intro a hS
    refine L_op (s_e hS (e_assign rfl) rfl ?_); clear hS a; intro a hS
    refine L_op (s_e hS (e_assign rfl) rfl ?_); clear hS a; intro a hS
    refine L_nil ?_
    refine n_then ?_
    refine c_seq ?_
    refine c_region ?_
    refine L_op (s_e hS (e_move rfl) rfl ?_); clear hS a; intro a hS
    refine L_op (s_e hS (e_move rfl) rfl ?_); clear hS a; intro a hS
    refine L_op (s_callP hS (.cons rfl (.cons rfl (.cons rfl .nil))) cf18 rfl (fxGet_P y.bk y.mb usd usd y.es y.n at_ _ (hS.get (X := ratesA y.bk y.mb usd y.es y.n true) (by repeat constructor))) ?_); clear hS a; (try clear w); intro a w hS
    rw [get_usd] at hS
    refine L_op (s_e hS (e_move rfl) rfl ?_); clear hS a; intro a hS
    refine L_op (s_e hS (e_extract rfl rfl) rfl ?_); clear hS a; intro a hS
    refine L_op (s_e hS (e_extract rfl rfl) rfl ?_); clear hS a; intro a hS
    refine L_op (s_e hS (e_assign rfl) rfl ?_); clear hS a; intro a hS
    refine L_op (s_e hS (e_assign rfl) rfl ?_); clear hS a; intro a hS
    refine L_nil ?_
    refine n_then ?_
    refine c_seq ?_
    refine c_seq ?_
    refine c_region ?_
    refine L_op (s_e hS (e_move rfl) rfl ?_); clear hS a; intro a hS
    refine L_op (s_e hS (e_bin rfl rfl rfl) rfl ?_); clear hS a; intro a hS
    refine L_op (s_e hS (e_move rfl) rfl ?_); clear hS a; intro a hS
    refine L_merge 3 53 (.bool (decide (¬ inst at_))) hS ?_ ?_
    · intro hcM53
      (first | refine g_splitD (t := 50) hS rfl ?_ ?_ | refine g_split (t := 50) hS rfl ?_ ?_) <;> (clear hS; intro hg50 hS)
      ·
        refine L_skip_f hS rfl rfl rfl ?_; clear hS a; intro a hS
        refine L_skip_f hS rfl rfl rfl ?_; clear hS a; intro a hS
        first | (refine L_op (s_e hS (e_pick_t rfl rfl) rfl ?_); clear hS a; intro a hS) | (refine L_op (s_e hS (e_pick_f rfl rfl) rfl ?_); clear hS a; intro a hS)
        exact hcM53 _ _ (hS.ends 4 53 50 rfl (congrArg Value.bool (by unfold inst; symm; rw [decide_eq_true_eq]; omega)) rfl rfl (by first | exact congrArg Value.bool (decide_eq_true hg50).symm | exact congrArg Value.bool hg50.symm | simp [hg50]) rfl)
      ·
        refine L_go hS rfl rfl (s_e hS (e_move rfl) rfl ?_); clear hS a; intro a hS
        refine L_go hS rfl rfl (s_e hS (e_bin rfl rfl rfl) rfl ?_); clear hS a; intro a hS
        first | (refine L_op (s_e hS (e_pick_t rfl rfl) rfl ?_); clear hS a; intro a hS) | (refine L_op (s_e hS (e_pick_f rfl rfl) rfl ?_); clear hS a; intro a hS)
        exact hcM53 _ _ (hS.ends 4 53 50 rfl (congrArg Value.bool (by unfold inst; rw [decide_eq_decide]; omega)) rfl rfl (by first | exact congrArg Value.bool (decide_eq_false hg50).symm | exact congrArg Value.bool hg50.symm | simp [hg50]) rfl)
    · clear hS a; (try clear w); intro a w hS
      simp only [List.drop_succ_cons, List.drop_zero]
      refine L_nil ?_
      refine n_then ?_
      first | refine c_ifD hS rfl (fun hc53 => ?_) (fun hc53 => ?_) | refine c_if hS rfl (fun hc53 => ?_) (fun hc53 => ?_)
      ·
        have e1 : gu at_ = (0, 6) := if_pos hc53
        have e2 : (wu u at_).2 = 6 := by unfold wu; split <;> rfl
        rw [e1, e2] at hS
        refine c_seq ?_
        refine c_region ?_
        refine L_op (s_e hS (e_move rfl) rfl ?_); clear hS a; intro a hS
        refine L_op (s_callP hS (.cons rfl .nil) cf16 rfl (Num_w _ _) ?_); clear hS a; (try clear w); intro a w hS
        refine L_op (s_e hS (e_bin rfl rfl rfl) rfl ?_); clear hS a; intro a hS
        refine L_op (s_e hS (e_move rfl) rfl ?_); clear hS a; intro a hS
        replace hS := hS.is (t := 57) (c := true) rfl ((decide_eq_true rfl))
        refine L_go hS rfl rfl (s_e hS (e_move rfl) rfl ?_); clear hS a; intro a hS
        refine L_go hS rfl rfl (s_callP hS (.cons rfl .nil) cf16 rfl (Num_w _ _) ?_); clear hS a; (try clear w); intro a w hS
        refine L_go hS rfl rfl (s_e hS (e_bin rfl rfl rfl) rfl ?_); clear hS a; intro a hS
        first | (refine L_op (s_e hS (e_pick_t rfl rfl) rfl ?_); clear hS a; intro a hS) | (refine L_op (s_e hS (e_pick_f rfl rfl) rfl ?_); clear hS a; intro a hS)
        refine L_op (s_e hS (e_assign rfl) rfl ?_); clear hS a; intro a hS
        refine L_nil ?_
        refine n_then ?_
        refine wp_ret ?_
        refine r_then ?_
        refine c_ret1 hS Try.results5 (.tmp rfl) ?_
        exact ⟨rfl, hS.chg⟩
      ·
        refine wp_skip ?_
        refine n_then ?_
        refine c_seq ?_
        refine c_seq ?_
        refine c_region ?_
        refine L_op (s_e hS (e_move rfl) rfl ?_); clear hS a; intro a hS
        refine L_op (s_callP hS (.cons rfl .nil) cf15 rfl (Within_P u _) ?_); clear hS a; (try clear w); intro a w hS
        refine L_op (s_e hS (e_not rfl) rfl ?_); clear hS a; intro a hS
        refine L_nil ?_
        refine n_then ?_
        first | refine c_ifD hS rfl (fun hc64 => ?_) (fun hc64 => ?_) | refine c_if hS rfl (fun hc64 => ?_) (fun hc64 => ?_)
        ·
          have hn : ¬ inU u := by simpa using hc64
          have e1 : gu at_ = (1000000000, 0) := if_neg hc53
          have e2 : (wu u at_).2 = 6 := by unfold wu; rw [if_pos hn]
          rw [e1, e2] at hS
          refine c_seq ?_
          refine c_region ?_
          refine L_op (s_e hS (e_move rfl) rfl ?_); clear hS a; intro a hS
          refine L_op (s_callP hS (.cons rfl .nil) cf16 rfl (Num_w _ _) ?_); clear hS a; (try clear w); intro a w hS
          refine L_op (s_e hS (e_bin rfl rfl rfl) rfl ?_); clear hS a; intro a hS
          refine L_op (s_e hS (e_move rfl) rfl ?_); clear hS a; intro a hS
          replace hS := hS.is (t := 68) (c := true) rfl ((decide_eq_true rfl))
          refine L_go hS rfl rfl (s_e hS (e_move rfl) rfl ?_); clear hS a; intro a hS
          refine L_go hS rfl rfl (s_e hS (e_bin rfl rfl rfl) rfl ?_); clear hS a; intro a hS
          first | (refine L_op (s_e hS (e_pick_t rfl rfl) rfl ?_); clear hS a; intro a hS) | (refine L_op (s_e hS (e_pick_f rfl rfl) rfl ?_); clear hS a; intro a hS)
          refine L_op (s_e hS (e_assign rfl) rfl ?_); clear hS a; intro a hS
          refine L_nil ?_
          refine n_then ?_
          refine wp_ret ?_
          refine r_then ?_
          refine c_ret1 hS Try.results5 (.tmp rfl) ?_
          exact ⟨rfl, hS.chg⟩
        ·
          have hin : inU u := by simpa using hc64
          have e1 : gu at_ = (1000000000, 0) := if_neg hc53
          have e2 : wu u at_ = (u, 0) := by unfold wu; rw [if_neg (fun h => h hin), if_neg hc53]
          rw [e1, e2] at hS
          refine wp_skip ?_
          refine n_then ?_
          refine c_seq ?_
          refine c_region ?_
          refine L_op (s_e hS (e_move rfl) rfl ?_); clear hS a; intro a hS
          refine L_op (s_e hS (e_move rfl) rfl ?_); clear hS a; intro a hS
          refine L_op (s_callP hS (.cons rfl (.cons rfl .nil)) cf14 rfl (fxConvert_P u 1000000000 bu (by decide) _) ?_); clear hS a; (try clear w); intro a w hS
          rw [conv_one hin] at hS
          refine L_op (s_e hS (e_move rfl) rfl ?_); clear hS a; intro a hS
          refine L_op (s_e hS (e_extract rfl rfl) rfl ?_); clear hS a; intro a hS
          refine L_op (s_e hS (e_extract rfl rfl) rfl ?_); clear hS a; intro a hS
          refine L_op (s_e hS (e_assign rfl) rfl ?_); clear hS a; intro a hS
          refine L_op (s_e hS (e_assign rfl) rfl ?_); clear hS a; intro a hS
          refine L_nil ?_
          refine n_then ?_
          refine c_seq ?_
          refine c_region ?_
          refine L_op (s_e hS (e_move rfl) rfl ?_); clear hS a; intro a hS
          refine L_op (s_e hS (e_move rfl) rfl ?_); clear hS a; intro a hS
          refine L_op (s_e hS (e_bin rfl rfl rfl) rfl ?_); clear hS a; intro a hS
          refine L_op (s_e hS (e_move rfl) rfl ?_); clear hS a; intro a hS
          replace hS := hS.is (t := 81) (c := true) rfl ((decide_eq_true rfl))
          refine L_go hS rfl rfl (s_e hS (e_move rfl) rfl ?_); clear hS a; intro a hS
          refine L_go hS rfl rfl (s_callP hS (.cons rfl .nil) cf16 rfl (Num_w _ _) ?_); clear hS a; (try clear w); intro a w hS
          refine L_go hS rfl rfl (s_e hS (e_bin rfl rfl rfl) rfl ?_); clear hS a; intro a hS
          first | (refine L_op (s_e hS (e_pick_t rfl rfl) rfl ?_); clear hS a; intro a hS) | (refine L_op (s_e hS (e_pick_f rfl rfl) rfl ?_); clear hS a; intro a hS)
          refine L_op (s_e hS (e_move rfl) rfl ?_); clear hS a; intro a hS
          replace hS := hS.is (t := 86) (c := true) rfl ((decide_eq_true rfl))
          refine L_go hS rfl rfl (s_e hS (e_move rfl) rfl ?_); clear hS a; intro a hS
          refine L_go hS rfl rfl (s_e hS (e_bin rfl rfl rfl) rfl ?_); clear hS a; intro a hS
          first | (refine L_op (s_e hS (e_pick_t rfl rfl) rfl ?_); clear hS a; intro a hS) | (refine L_op (s_e hS (e_pick_f rfl rfl) rfl ?_); clear hS a; intro a hS)
          refine L_op (s_e hS (e_move rfl) rfl ?_); clear hS a; intro a hS
          replace hS := hS.is (t := 90) (c := true) rfl ((decide_eq_true rfl))
          refine L_go hS rfl rfl (s_e hS (e_move rfl) rfl ?_); clear hS a; intro a hS
          refine L_go hS rfl rfl (s_callP hS (.cons rfl .nil) cf16 rfl (Num_w _ _) ?_); clear hS a; (try clear w); intro a w hS
          refine L_go hS rfl rfl (s_e hS (e_bin rfl rfl rfl) rfl ?_); clear hS a; intro a hS
          first | (refine L_op (s_e hS (e_pick_t rfl rfl) rfl ?_); clear hS a; intro a hS) | (refine L_op (s_e hS (e_pick_f rfl rfl) rfl ?_); clear hS a; intro a hS)
          refine L_op (s_e hS (e_move rfl) rfl ?_); clear hS a; intro a hS
          replace hS := hS.is (t := 95) (c := true) rfl ((decide_eq_true rfl))
          refine L_go hS rfl rfl (s_e hS (e_move rfl) rfl ?_); clear hS a; intro a hS
          refine L_go hS rfl rfl (s_e hS (e_move rfl) rfl ?_); clear hS a; intro a hS
          refine L_go hS rfl rfl (s_e hS (e_bin rfl rfl rfl) rfl ?_); clear hS a; intro a hS
          first | (refine L_op (s_e hS (e_pick_t rfl rfl) rfl ?_); clear hS a; intro a hS) | (refine L_op (s_e hS (e_pick_f rfl rfl) rfl ?_); clear hS a; intro a hS)
          refine L_op (s_e hS (e_move rfl) rfl ?_); clear hS a; intro a hS
          replace hS := hS.is (t := 100) (c := true) rfl ((decide_eq_true rfl))
          refine L_go hS rfl rfl (s_e hS (e_move rfl) rfl ?_); clear hS a; intro a hS
          refine L_go hS rfl rfl (s_callP hS (.cons rfl .nil) cf16 rfl (Num_w _ _) ?_); clear hS a; (try clear w); intro a w hS
          refine L_go hS rfl rfl (s_e hS (e_bin rfl rfl rfl) rfl ?_); clear hS a; intro a hS
          first | (refine L_op (s_e hS (e_pick_t rfl rfl) rfl ?_); clear hS a; intro a hS) | (refine L_op (s_e hS (e_pick_f rfl rfl) rfl ?_); clear hS a; intro a hS)
          refine L_op (s_e hS (e_assign rfl) rfl ?_); clear hS a; intro a hS
          refine L_nil ?_
          refine n_then ?_
          refine wp_ret ?_
          refine c_ret1 hS Try.results5 (.tmp rfl) ?_
          exact ⟨rfl, hS.chg⟩
end Go.Proofs.Ytheofhegdjjfgaa
