/- The law FxLaws, walked. -/
import Derived.Test.YtheofhegdjjfgaaFx10
namespace Go.Proofs.Ytheofhegdjjfgaa
open Go.RowKit

theorem dv_mono {u v : Int} (h : u ≤ v) : Wd.dv u 1000000000 ≤ Wd.dv v 1000000000 := by
  have e : ∀ S T : Int, 0 ≤ S → S ≤ T → Wd.ev S 1000000000 ≤ Wd.ev T 1000000000 := fun S T hS hT => by
    unfold Wd.ev; split <;> split <;> omega
  have p : ∀ S : Int, 0 ≤ S → 0 ≤ Wd.ev S 1000000000 := fun S hS => by unfold Wd.ev; split <;> omega
  have a1 : Wd.ab 1000000000 = 1000000000 := by decide
  unfold Wd.dv Wd.sv
  rw [a1]
  have d0 : decide ((1000000000 : Int) < 0) = false := by decide
  rw [d0]
  by_cases h1 : u < 0 <;> by_cases h2 : v < 0
  · simp only [h1, h2, decide_true]; unfold Wd.ab; rw [if_pos h1, if_pos h2]; have := e (-v) (-u) (by omega) (by omega); simp; exact this
  · simp only [h1, h2, decide_true, decide_false]; unfold Wd.ab; rw [if_pos h1, if_neg h2]; have := p (-u) (by omega); have := p v (by omega); simp; omega
  · omega
  · simp only [h1, h2, decide_false]; unfold Wd.ab; rw [if_neg h1, if_neg h2]; have := e u v (by omega) h; simpa using this
theorem dv_one (a : Int) : Wd.dv (a * 1000000000) 1000000000 = a := by
  have a1 : Wd.ab 1000000000 = 1000000000 := by decide
  have d0 : decide ((1000000000 : Int) < 0) = false := by decide
  unfold Wd.dv Wd.sv
  rw [a1, d0]
  by_cases h1 : a * 1000000000 < 0
  · simp only [h1, decide_true]; unfold Wd.ab Wd.ev; rw [if_pos h1]; simp; omega
  · simp only [h1, decide_false]; unfold Wd.ab Wd.ev; rw [if_neg h1]; simp <;> omega
theorem conv_one {a : Int} (h : inU a) : convF a 1000000000 = (a, 0) := by
  unfold convF
  have hn : ¬ (¬ inU a ∨ (1000000000 : Int) < 0 ∨ (1125899906842624 : Int) < 1000000000) := fun hh => hh.elim (fun h1 => h1 h) (fun h2 => by omega)
  rw [if_neg hn, dv_one, if_pos h]
theorem conv_ok {a n : Int} (h : (convF a n).2 = 0) : (inU a ∧ 0 ≤ n ∧ n ≤ 1125899906842624) ∧ inU (Wd.dv (a * n) 1000000000) ∧ (convF a n).1 = Wd.dv (a * n) 1000000000 := by
  unfold convF at h ⊢
  split at h
  · cases h
  · rename_i h1
    split at h
    · rename_i h2
      rw [if_neg h1, if_pos h2]
      refine ⟨⟨Classical.not_not.1 fun hh => h1 (.inl hh), ?_, ?_⟩, h2, rfl⟩ <;> omega
    · cases h
theorem conv_mono {a b n : Int} (h1 : (convF a n).2 = 0) (h2 : (convF b n).2 = 0) (hab : a ≤ b) : (convF a n).1 ≤ (convF b n).1 := by
  obtain ⟨⟨_, hn, _⟩, _, e1⟩ := conv_ok h1
  obtain ⟨_, _, e2⟩ := conv_ok h2
  rw [e1, e2]
  exact dv_mono (Int.mul_le_mul_of_nonneg_right hab hn)
theorem get_stays {own : ByteArray} {l : List (ByteArray × List (Int × Int))} {n : Int} {c : ByteArray} {lat nano at_ : Int} (h : ¬ (setE own l n c lat nano = 0 ∧ lat ≤ at_)) : getF own (setR own l n c lat nano).1 c at_ = getF own l c at_ := by
  unfold setR
  split
  · rename_i hE
    have hlt : ¬ lat ≤ at_ := fun hh => h ⟨hE, hh⟩
    unfold getF
    simp only [rowsOf_put, if_pos]
    have : lastLe (rowsOf l c ++ [(lat, nano)]) at_ = lastLe (rowsOf l c) at_ := by
      unfold lastLe
      rw [List.reverse_append, List.reverse_singleton, List.singleton_append, List.find?_cons]
      simp [hlt]
    rw [this]
  · rfl

set_option maxRecDepth 100000 in
theorem FxLaws_P (p : Option (Nat × Nat)) (c : Nat) (l : List RR) (later : RR) (a b nano at_ : Int) (hlen : l.length ≤ 4611686018427387904) (hfit : ∀ x ∈ l, rrFits x) (hlf : rrFits later)
    (ba : -9223372036854775808 ≤ a ∧ a ≤ 9223372036854775807) (bb : -9223372036854775808 ≤ b ∧ b ≤ 9223372036854775807) (bn : -9223372036854775808 ≤ nano ∧ nano ≤ 9223372036854775807)
    (w0 : World) (h : RowP p 3 (l.map encR) w0) (hb : ∀ q, p = some q → q.1 < w0.heap.size) :
    PureC Try.prog 3 [sliceV p l.length c, .agg [.string later.1, .int .i64 later.2.1, .int .i64 later.2.2].toArray, .int .i64 a, .int .i64 b, .int .i64 nano, .int .i64 at_] w0 (.bool true) := by
  have hrow : ∀ w', Chg noB w0 w' → RowP p 3 (l.map encR) w' := fun w' hc => ((ok_rowP h hb).keep hc (fun _ _ hf => hf)).now
  have hpt : ∀ w', Chg noB w0 w' → ∀ q, p = some q → q.1 < w'.heap.size := fun w' hc q hq => Nat.lt_of_lt_of_le (hb q hq) hc.size
  obtain ⟨ua, hua⟩ : ∃ ua, ua = a := ⟨_, rfl⟩
  rw [← hua] at ba ⊢
  clear hua a
  refine c_enter [(0, sliceV p l.length c), (1, .agg [.string later.1, .int .i64 later.2.1, .int .i64 later.2.2].toArray), (2, .int .i64 ua), (3, .int .i64 b), (4, .int .i64 nano), (5, .int .i64 at_)] [rowP p 3 (l.map encR)] noB Try.func3 rfl Try.ntmps3 ⟨rfl, rfl, rfl, rfl, rfl, rfl, trivial⟩ rfl (okC (ok_rowP h hb) okN) dis1 (mineC (by rfl) mineN) ?_
  intro a hS
  refine c_seq ?_
  refine c_region ?_
  refine L_op (s_boxA hS rfl rfl ?_); clear hS a; (try clear w); intro a w b7 hS
  refine L_op (s_e hS (e_assign rfl) rfl ?_); clear hS a; intro a hS
  refine L_nil ?_
  refine n_then ?_
  refine c_seq ?_
  refine c_region ?_
  refine L_op (s_callP hS .nil cf12 rfl (fxfirst_P _) ?_); clear hS a; (try clear w); intro a w hS
  refine L_op (s_e hS (e_assign rfl) rfl ?_); clear hS a; intro a hS
  refine L_nil ?_
  refine n_then ?_
  refine c_seq ?_
  refine c_region ?_
  refine L_op (s_e hS (e_move rfl) rfl ?_); clear hS a; intro a hS
  refine L_op (s_callP hS (.cons rfl .nil) cf13 rfl (fxfew_P p c l hlen hfit _ (hrow _ hS.chg) (hpt _ hS.chg)) ?_); clear hS a; (try clear w); intro a w hS
  refine L_op (s_e hS (e_move rfl) rfl ?_); clear hS a; intro a hS
  refine L_merge 4 35 (.bool (decide (fewS l ∧ fewS [later]))) hS ?_ ?_
  · intro hcM35
    (first | refine g_splitD (t := 31) hS rfl ?_ ?_ | refine g_split (t := 31) hS rfl ?_ ?_) <;> (clear hS; intro hg31 hS)
    ·
      refine L_go hS rfl rfl (s_e hS (e_loadA rfl (by repeat constructor) ty_st24 ty_sz24 (by rfl)) rfl ?_); clear hS a; intro a hS
      refine L_go hS rfl rfl (s_bslice hS ty_sl22 ty_sz24 ty_z24 rfl rfl rfl rfl (.agg rfl rfl .nil) rfl ?_); clear hS a; (try clear w); intro a w b33 hS
      refine L_go hS rfl rfl (s_callP hS (.cons rfl .nil) cf13 rfl (fxfew_P (some (b33, 0)) 1 [later] (by simp) (fun x hx => by obtain rfl := List.mem_singleton.1 hx; exact hlf) _ (row_of_flat (enc := encR) (xs := [later]) (fun _ => rfl) (hS.get (X := .blk b33 _ _) (by repeat constructor))) (fun q hq => by cases hq; exact (hS.ok (.blk b33 _ _) (by repeat constructor)).lt b33 rfl)) ?_); clear hS a; (try clear w); intro a w hS
      replace hS := hS.drop (List.sublist_cons_self _ _)
      first | (refine L_op (s_e hS (e_pick_t rfl rfl) rfl ?_); clear hS a; intro a hS) | (refine L_op (s_e hS (e_pick_f rfl rfl) rfl ?_); clear hS a; intro a hS)
      exact hcM35 _ _ (hS.ends 5 35 31 rfl (congrArg Value.bool (by exact decide_eq_decide.2 ⟨fun h => ⟨hg31, h⟩, fun h => h.2⟩)) rfl rfl (by first | exact congrArg Value.bool (decide_eq_true hg31).symm | exact congrArg Value.bool hg31.symm | simp [hg31]) rfl)
    ·
      refine L_skip_t hS rfl rfl rfl ?_; clear hS a; intro a hS
      refine L_skip_t hS rfl rfl rfl ?_; clear hS a; intro a hS
      refine L_skip_t hS rfl rfl rfl ?_; clear hS a; intro a hS
      first | (refine L_op (s_e hS (e_pick_t rfl rfl) rfl ?_); clear hS a; intro a hS) | (refine L_op (s_e hS (e_pick_f rfl rfl) rfl ?_); clear hS a; intro a hS)
      exact hcM35 _ _ (hS.ends 5 35 31 rfl (congrArg Value.bool (by exact (decide_eq_false (fun h => hg31 h.1)).symm)) rfl rfl (by first | exact congrArg Value.bool (decide_eq_false hg31).symm | exact congrArg Value.bool hg31.symm | simp [hg31]) rfl)
  · clear hS a; (try clear w); intro a w hS
    simp only [List.drop_succ_cons, List.drop_zero]
    refine L_op (s_e hS (e_assign rfl) rfl ?_); clear hS a; intro a hS
    refine L_nil ?_
    refine n_then ?_
    refine c_seq ?_
    refine c_seq ?_
    refine c_region ?_
    refine L_op (s_e hS (e_move rfl) rfl ?_); clear hS a; intro a hS
    refine L_op (s_e hS (e_not rfl) rfl ?_); clear hS a; intro a hS
    refine L_op (s_e hS (e_move rfl) rfl ?_); clear hS a; intro a hS
    replace hS := hS.is (t := 38) (c := false) rfl (rfl)
    refine L_go hS rfl rfl (s_e hS (e_move rfl) rfl ?_); clear hS a; intro a hS
    refine L_go hS rfl rfl (s_e hS (e_not rfl) rfl ?_); clear hS a; intro a hS
    first | (refine L_op (s_e hS (e_pick_t rfl rfl) rfl ?_); clear hS a; intro a hS) | (refine L_op (s_e hS (e_pick_f rfl rfl) rfl ?_); clear hS a; intro a hS)
    refine L_nil ?_
    refine n_then ?_
    first | refine c_ifD hS rfl (fun hc41 => ?_) (fun hc41 => ?_) | refine c_if hS rfl (fun hc41 => ?_) (fun hc41 => ?_)
    ·
      refine c_seq ?_
      refine c_region ?_
      refine L_op (s_e hS (e_move rfl) rfl ?_); clear hS a; intro a hS
      refine L_op (s_e hS (e_assign rfl) rfl ?_); clear hS a; intro a hS
      refine L_nil ?_
      refine n_then ?_
      refine wp_ret ?_
      refine r_then ?_
      refine c_ret1 hS Try.results3 (.tmp rfl) ?_
      exact ⟨rfl, hS.chg⟩
    ·
      refine wp_skip ?_
      refine n_then ?_
      refine c_seq ?_
      refine c_region ?_
      refine L_op (s_e hS (e_move rfl) rfl ?_); clear hS a; intro a hS
      refine L_op (s_callP hS (.cons rfl (.cons rfl .nil)) cf14 rfl (fxConvert_P ua 1000000000 ba (by decide) _) ?_); clear hS a; (try clear w); intro a w hS
      refine L_op (s_e hS (e_move rfl) rfl ?_); clear hS a; intro a hS
      refine L_op (s_e hS (e_extract rfl rfl) rfl ?_); clear hS a; intro a hS
      refine L_op (s_e hS (e_extract rfl rfl) rfl ?_); clear hS a; intro a hS
      refine L_op (s_e hS (e_assign rfl) rfl ?_); clear hS a; intro a hS
      refine L_op (s_e hS (e_assign rfl) rfl ?_); clear hS a; intro a hS
      refine L_nil ?_
      refine n_then ?_
      refine c_seq ?_
      refine c_seq ?_
      refine c_region ?_
      refine L_op (s_e hS (e_move rfl) rfl ?_); clear hS a; intro a hS
      refine L_op (s_callP hS (.cons rfl .nil) cf15 rfl (Within_P ua _) ?_); clear hS a; (try clear w); intro a w hS
      refine L_op (s_e hS (e_move rfl) rfl ?_); clear hS a; intro a hS
      refine L_merge 9 59 (.bool (false)) hS ?_ ?_
      · intro hcM59
        (first | refine g_splitD (t := 50) hS rfl ?_ ?_ | refine g_split (t := 50) hS rfl ?_ ?_) <;> (clear hS; intro hg50 hS)
        ·
          refine L_go hS rfl rfl (s_e hS (e_move rfl) rfl ?_); clear hS a; intro a hS
          refine L_go hS rfl rfl (s_e hS (e_move rfl) rfl ?_); clear hS a; intro a hS
          refine L_go hS rfl rfl (s_e hS (e_bin rfl rfl rfl) rfl ?_); clear hS a; intro a hS
          refine L_go hS rfl rfl (s_e hS (e_move rfl) rfl ?_); clear hS a; intro a hS
          replace hS := hS.is (t := 54) (c := false) rfl ((decide_eq_false (by rw [conv_one hg50]; simp)))
          refine L_go hS rfl rfl (s_e hS (e_move rfl) rfl ?_); clear hS a; intro a hS
          refine L_go hS rfl rfl (s_callP hS (.cons rfl .nil) cf16 rfl (Num_w _ _) ?_); clear hS a; (try clear w); intro a w hS
          refine L_go hS rfl rfl (s_e hS (e_bin rfl rfl rfl) rfl ?_); clear hS a; intro a hS
          first | (refine L_go hS rfl rfl (s_e hS (e_pick_t rfl rfl) rfl ?_); clear hS a; intro a hS) | (refine L_go hS rfl rfl (s_e hS (e_pick_f rfl rfl) rfl ?_); clear hS a; intro a hS)
          first | (refine L_op (s_e hS (e_pick_t rfl rfl) rfl ?_); clear hS a; intro a hS) | (refine L_op (s_e hS (e_pick_f rfl rfl) rfl ?_); clear hS a; intro a hS)
          exact hcM59 _ _ (hS.ends 11 59 50 rfl (congrArg Value.bool (by rw [conv_one hg50]; rfl)) rfl rfl (by first | exact congrArg Value.bool (decide_eq_true hg50).symm | exact congrArg Value.bool hg50.symm | simp [hg50]) rfl)
        ·
          refine L_skip_t hS rfl rfl rfl ?_; clear hS a; intro a hS
          refine L_skip_t hS rfl rfl rfl ?_; clear hS a; intro a hS
          refine L_skip_t hS rfl rfl rfl ?_; clear hS a; intro a hS
          refine L_skip_t hS rfl rfl rfl ?_; clear hS a; intro a hS
          refine L_skip_u hS rfl rfl rfl ?_; clear hS a; intro a hS
          refine L_skip_u hS rfl rfl rfl ?_; clear hS a; intro a hS
          refine L_skip_u hS rfl rfl rfl ?_; clear hS a; intro a hS
          refine L_skip_t hS rfl rfl rfl ?_; clear hS a; intro a hS
          first | (refine L_op (s_e hS (e_pick_t rfl rfl) rfl ?_); clear hS a; intro a hS) | (refine L_op (s_e hS (e_pick_f rfl rfl) rfl ?_); clear hS a; intro a hS)
          exact hcM59 _ _ (hS.ends 10 59 50 rfl (congrArg Value.bool (by first | rfl | (simp [hg50]; done) | (simp [hg50]; omega) | grind)) rfl rfl (by first | exact congrArg Value.bool (decide_eq_false hg50).symm | exact congrArg Value.bool hg50.symm | simp [hg50]) rfl)
      · clear hS a; (try clear w); intro a w hS
        simp only [List.drop_succ_cons, List.drop_zero]
        refine L_nil ?_
        refine n_then ?_
        replace hS := hS.is (t := 59) (c := false) rfl (rfl)
        refine c_if_f hS rfl ?_
        refine wp_skip ?_
        refine n_then ?_
        refine c_seq ?_
        refine c_region ?_
        refine L_op (s_e hS (e_move rfl) rfl ?_); clear hS a; intro a hS
        refine L_op (s_e hS (e_move rfl) rfl ?_); clear hS a; intro a hS
        refine L_op (s_callP hS (.cons rfl (.cons rfl .nil)) cf14 rfl (fxConvert_P ua nano ba bn _) ?_); clear hS a; (try clear w); intro a w hS
        refine L_op (s_e hS (e_move rfl) rfl ?_); clear hS a; intro a hS
        refine L_op (s_e hS (e_extract rfl rfl) rfl ?_); clear hS a; intro a hS
        refine L_op (s_e hS (e_extract rfl rfl) rfl ?_); clear hS a; intro a hS
        refine L_op (s_e hS (e_assign rfl) rfl ?_); clear hS a; intro a hS
        refine L_op (s_e hS (e_assign rfl) rfl ?_); clear hS a; intro a hS
        refine L_nil ?_
        refine n_then ?_
        refine c_seq ?_
        refine c_region ?_
        refine L_op (s_e hS (e_move rfl) rfl ?_); clear hS a; intro a hS
        refine L_op (s_e hS (e_move rfl) rfl ?_); clear hS a; intro a hS
        refine L_op (s_callP hS (.cons rfl (.cons rfl .nil)) cf14 rfl (fxConvert_P b nano bb bn _) ?_); clear hS a; (try clear w); intro a w hS
        refine L_op (s_e hS (e_move rfl) rfl ?_); clear hS a; intro a hS
        refine L_op (s_e hS (e_extract rfl rfl) rfl ?_); clear hS a; intro a hS
        refine L_op (s_e hS (e_extract rfl rfl) rfl ?_); clear hS a; intro a hS
        refine L_op (s_e hS (e_assign rfl) rfl ?_); clear hS a; intro a hS
        refine L_op (s_e hS (e_assign rfl) rfl ?_); clear hS a; intro a hS
        refine L_nil ?_
        refine n_then ?_
        refine c_seq ?_
        refine c_seq ?_
        refine c_region ?_
        refine L_op (s_e hS (e_move rfl) rfl ?_); clear hS a; intro a hS
        refine L_op (s_callP hS (.cons rfl .nil) cf16 rfl (Num_w _ _) ?_); clear hS a; (try clear w); intro a w hS
        refine L_op (s_e hS (e_bin rfl rfl rfl) rfl ?_); clear hS a; intro a hS
        refine L_op (s_e hS (e_move rfl) rfl ?_); clear hS a; intro a hS
        refine L_merge 4 79 (.bool (decide ((convF ua nano).2 = 0 ∧ (convF b nano).2 = 0))) hS ?_ ?_
        · intro hcM79
          (first | refine g_splitD (t := 75) hS rfl ?_ ?_ | refine g_split (t := 75) hS rfl ?_ ?_) <;> (clear hS; intro hg75 hS)
          ·
            refine L_go hS rfl rfl (s_e hS (e_move rfl) rfl ?_); clear hS a; intro a hS
            refine L_go hS rfl rfl (s_callP hS (.cons rfl .nil) cf16 rfl (Num_w _ _) ?_); clear hS a; (try clear w); intro a w hS
            refine L_go hS rfl rfl (s_e hS (e_bin rfl rfl rfl) rfl ?_); clear hS a; intro a hS
            first | (refine L_op (s_e hS (e_pick_t rfl rfl) rfl ?_); clear hS a; intro a hS) | (refine L_op (s_e hS (e_pick_f rfl rfl) rfl ?_); clear hS a; intro a hS)
            exact hcM79 _ _ (hS.ends 5 79 75 rfl (congrArg Value.bool (by exact decide_eq_decide.2 ⟨fun h => ⟨hg75, h⟩, fun h => h.2⟩)) rfl rfl (by first | exact congrArg Value.bool (decide_eq_true hg75).symm | exact congrArg Value.bool hg75.symm | simp [hg75]) rfl)
          ·
            refine L_skip_t hS rfl rfl rfl ?_; clear hS a; intro a hS
            refine L_skip_t hS rfl rfl rfl ?_; clear hS a; intro a hS
            refine L_skip_t hS rfl rfl rfl ?_; clear hS a; intro a hS
            first | (refine L_op (s_e hS (e_pick_t rfl rfl) rfl ?_); clear hS a; intro a hS) | (refine L_op (s_e hS (e_pick_f rfl rfl) rfl ?_); clear hS a; intro a hS)
            exact hcM79 _ _ (hS.ends 5 79 75 rfl (congrArg Value.bool (by exact (decide_eq_false (fun h => hg75 h.1)).symm)) rfl rfl (by first | exact congrArg Value.bool (decide_eq_false hg75).symm | exact congrArg Value.bool hg75.symm | simp [hg75]) rfl)
        · clear hS a; (try clear w); intro a w hS
          simp only [List.drop_succ_cons, List.drop_zero]
          refine L_op (s_e hS (e_move rfl) rfl ?_); clear hS a; intro a hS
          refine L_merge 4 84 (.bool (decide (((convF ua nano).2 = 0 ∧ (convF b nano).2 = 0) ∧ ua ≤ b))) hS ?_ ?_
          · intro hcM84
            (first | refine g_splitD (t := 80) hS rfl ?_ ?_ | refine g_split (t := 80) hS rfl ?_ ?_) <;> (clear hS; intro hg80 hS)
            ·
              refine L_go hS rfl rfl (s_e hS (e_move rfl) rfl ?_); clear hS a; intro a hS
              refine L_go hS rfl rfl (s_e hS (e_move rfl) rfl ?_); clear hS a; intro a hS
              refine L_go hS rfl rfl (s_e hS (e_bin rfl rfl rfl) rfl ?_); clear hS a; intro a hS
              first | (refine L_op (s_e hS (e_pick_t rfl rfl) rfl ?_); clear hS a; intro a hS) | (refine L_op (s_e hS (e_pick_f rfl rfl) rfl ?_); clear hS a; intro a hS)
              exact hcM84 _ _ (hS.ends 5 84 80 rfl (congrArg Value.bool (by exact decide_eq_decide.2 ⟨fun h => ⟨hg80, h⟩, fun h => h.2⟩)) rfl rfl (by first | exact congrArg Value.bool (decide_eq_true hg80).symm | exact congrArg Value.bool hg80.symm | simp [hg80]) rfl)
            ·
              refine L_skip_t hS rfl rfl rfl ?_; clear hS a; intro a hS
              refine L_skip_t hS rfl rfl rfl ?_; clear hS a; intro a hS
              refine L_skip_t hS rfl rfl rfl ?_; clear hS a; intro a hS
              first | (refine L_op (s_e hS (e_pick_t rfl rfl) rfl ?_); clear hS a; intro a hS) | (refine L_op (s_e hS (e_pick_f rfl rfl) rfl ?_); clear hS a; intro a hS)
              exact hcM84 _ _ (hS.ends 5 84 80 rfl (congrArg Value.bool (by exact (decide_eq_false (fun h => hg80 h.1)).symm)) rfl rfl (by first | exact congrArg Value.bool (decide_eq_false hg80).symm | exact congrArg Value.bool hg80.symm | simp [hg80]) rfl)
          · clear hS a; (try clear w); intro a w hS
            simp only [List.drop_succ_cons, List.drop_zero]
            refine L_op (s_e hS (e_move rfl) rfl ?_); clear hS a; intro a hS
            refine L_merge 4 89 (.bool (false)) hS ?_ ?_
            · intro hcM89
              (first | refine g_splitD (t := 85) hS rfl ?_ ?_ | refine g_split (t := 85) hS rfl ?_ ?_) <;> (clear hS; intro hg85 hS)
              ·
                refine L_go hS rfl rfl (s_e hS (e_move rfl) rfl ?_); clear hS a; intro a hS
                refine L_go hS rfl rfl (s_e hS (e_move rfl) rfl ?_); clear hS a; intro a hS
                refine L_go hS rfl rfl (s_e hS (e_bin rfl rfl rfl) rfl ?_); clear hS a; intro a hS
                first | (refine L_op (s_e hS (e_pick_t rfl rfl) rfl ?_); clear hS a; intro a hS) | (refine L_op (s_e hS (e_pick_f rfl rfl) rfl ?_); clear hS a; intro a hS)
                exact hcM89 _ _ (hS.ends 5 89 85 rfl (congrArg Value.bool (by exact decide_eq_false (by have := conv_mono hg85.1.1 hg85.1.2 hg85.2; omega))) rfl rfl (by first | exact congrArg Value.bool (decide_eq_true hg85).symm | exact congrArg Value.bool hg85.symm | simp [hg85]) rfl)
              ·
                refine L_skip_t hS rfl rfl rfl ?_; clear hS a; intro a hS
                refine L_skip_t hS rfl rfl rfl ?_; clear hS a; intro a hS
                refine L_skip_t hS rfl rfl rfl ?_; clear hS a; intro a hS
                first | (refine L_op (s_e hS (e_pick_t rfl rfl) rfl ?_); clear hS a; intro a hS) | (refine L_op (s_e hS (e_pick_f rfl rfl) rfl ?_); clear hS a; intro a hS)
                exact hcM89 _ _ (hS.ends 5 89 85 rfl (congrArg Value.bool (by first | rfl | (simp [hg85]; done) | (simp [hg85]; omega) | grind)) rfl rfl (by first | exact congrArg Value.bool (decide_eq_false hg85).symm | exact congrArg Value.bool hg85.symm | simp [hg85]) rfl)
            · clear hS a; (try clear w); intro a w hS
              simp only [List.drop_succ_cons, List.drop_zero]
              refine L_nil ?_
              refine n_then ?_
              replace hS := hS.is (t := 89) (c := false) rfl (rfl)
              refine c_if_f hS rfl ?_
              refine wp_skip ?_
              refine n_then ?_
              refine c_seq ?_
              refine c_region ?_
              refine L_op (s_e hS (e_move rfl) rfl ?_); clear hS a; intro a hS
              refine L_op (s_callN hS (.cons rfl .nil) cf17 rfl (fxmade_P p c l hlen hfit _ (hrow _ hS.chg) (hpt _ hS.chg)) ?_); clear hS a; (try clear w); intro x92 a w hS
              obtain ⟨y, hy, hrf⟩ := x92
              replace hS := hS.swap (X := bothA y) (Y := ratesA y.bk y.mb usd y.es y.n true) (by repeat constructor) (rates_ok true (hS.get (X := bothA y) (by repeat constructor)).1) (fun b hb => .inl hb) rfl
              refine L_op (s_e hS (e_move rfl) rfl ?_); clear hS a; intro a hS
              refine L_op (s_e hS (e_extract rfl rfl) rfl ?_); clear hS a; intro a hS
              refine L_op (s_e hS (e_extract rfl rfl) rfl ?_); clear hS a; intro a hS
              refine L_op (s_e hS (e_assign rfl) rfl ?_); clear hS a; intro a hS
              refine L_op (s_e hS (e_assign rfl) rfl ?_); clear hS a; intro a hS
              refine L_nil ?_
              refine n_then ?_
              refine c_seq ?_
              refine c_seq ?_
              refine c_region ?_
              refine L_op (s_e hS (e_move rfl) rfl ?_); clear hS a; intro a hS
              refine L_op (s_e hS (e_nil rfl ty_u32) rfl ?_); clear hS a; intro a hS
              refine L_nil ?_
              refine n_then ?_
              replace hS := hS.is (t := 96) (c := false) rfl (rfl)
              refine c_if_f hS rfl ?_
              refine wp_skip ?_
              refine n_then ?_
              refine c_seq ?_
              refine c_region ?_
              refine L_op (s_e hS (e_move rfl) rfl ?_); clear hS a; intro a hS
              first | (refine L_op (s_e hS (e_fa0 rfl ty_fo24_0) rfl ?_); clear hS a; intro a hS) | (refine L_op (s_e hS (e_faK rfl ty_fo24_0) rfl ?_); clear hS a; intro a hS)
              refine L_op (s_e hS (e_load rfl (by repeat constructor) ty_sc9 (by rfl)) rfl ?_); clear hS a; intro a hS
              refine L_op (s_e hS (e_move rfl) rfl ?_); clear hS a; intro a hS
              refine L_op (s_callP hS (.cons rfl (.cons rfl (.cons rfl .nil))) cf18 rfl (fxGet_P y.bk y.mb usd later.1 y.es y.n at_ _ (hS.get (X := ratesA y.bk y.mb usd y.es y.n true) (by repeat constructor))) ?_); clear hS a; (try clear w); intro a w hS
              refine L_op (s_e hS (e_move rfl) rfl ?_); clear hS a; intro a hS
              refine L_op (s_e hS (e_extract rfl rfl) rfl ?_); clear hS a; intro a hS
              refine L_op (s_e hS (e_extract rfl rfl) rfl ?_); clear hS a; intro a hS
              refine L_op (s_e hS (e_assign rfl) rfl ?_); clear hS a; intro a hS
              refine L_op (s_e hS (e_assign rfl) rfl ?_); clear hS a; intro a hS
              refine L_nil ?_
              refine n_then ?_
              refine c_seq ?_
              refine c_region ?_
              refine L_op (s_e hS (e_move rfl) rfl ?_); clear hS a; intro a hS
              first | (refine L_op (s_e hS (e_fa0 rfl ty_fo24_0) rfl ?_); clear hS a; intro a hS) | (refine L_op (s_e hS (e_faK rfl ty_fo24_0) rfl ?_); clear hS a; intro a hS)
              refine L_op (s_e hS (e_load rfl (by repeat constructor) ty_sc9 (by rfl)) rfl ?_); clear hS a; intro a hS
              first | (refine L_op (s_e hS (e_fa0 rfl ty_fo24_1) rfl ?_); clear hS a; intro a hS) | (refine L_op (s_e hS (e_faK rfl ty_fo24_1) rfl ?_); clear hS a; intro a hS)
              refine L_op (s_e hS (e_load rfl (by repeat constructor) ty_sc3 (by rfl)) rfl ?_); clear hS a; intro a hS
              first | (refine L_op (s_e hS (e_fa0 rfl ty_fo24_2) rfl ?_); clear hS a; intro a hS) | (refine L_op (s_e hS (e_faK rfl ty_fo24_2) rfl ?_); clear hS a; intro a hS)
              refine L_op (s_e hS (e_load rfl (by repeat constructor) ty_sc3 (by rfl)) rfl ?_); clear hS a; intro a hS
              refine L_op (s_callM hS (.cons rfl (.cons rfl (.cons rfl (.cons rfl .nil)))) cf19 rfl (fxSet_P y.bk y.mb usd later.1 y.es y.n later.2.1 later.2.2 hlf.2.1 _ (hS.get (X := ratesA y.bk y.mb usd y.es y.n true) (by repeat constructor))) (fun x => (by repeat constructor)) rfl ?_); clear hS a; (try clear w); intro x112 a w hS
              refine L_op (s_e hS (e_assign rfl) rfl ?_); clear hS a; intro a hS
              refine L_nil ?_
              refine n_then ?_
              refine c_seq ?_
              refine c_region ?_
              refine L_op (s_e hS (e_move rfl) rfl ?_); clear hS a; intro a hS
              first | (refine L_op (s_e hS (e_fa0 rfl ty_fo24_0) rfl ?_); clear hS a; intro a hS) | (refine L_op (s_e hS (e_faK rfl ty_fo24_0) rfl ?_); clear hS a; intro a hS)
              refine L_op (s_e hS (e_load rfl (by repeat constructor) ty_sc9 (by rfl)) rfl ?_); clear hS a; intro a hS
              refine L_op (s_e hS (e_move rfl) rfl ?_); clear hS a; intro a hS
              refine L_op (s_callP hS (.cons rfl (.cons rfl (.cons rfl .nil))) cf18 rfl (fxGet_P y.bk y.mb usd later.1 x112.1.1 x112.1.2 at_ _ (hS.get (X := ratesA y.bk y.mb usd x112.1.1 x112.1.2 true) (by repeat constructor))) ?_); clear hS a; (try clear w); intro a w hS
              refine L_op (s_e hS (e_move rfl) rfl ?_); clear hS a; intro a hS
              refine L_op (s_e hS (e_extract rfl rfl) rfl ?_); clear hS a; intro a hS
              refine L_op (s_e hS (e_extract rfl rfl) rfl ?_); clear hS a; intro a hS
              refine L_op (s_e hS (e_assign rfl) rfl ?_); clear hS a; intro a hS
              refine L_op (s_e hS (e_assign rfl) rfl ?_); clear hS a; intro a hS
              refine L_nil ?_
              refine n_then ?_
              refine c_seq ?_
              have hst : ¬ (setE usd (vsT y.es) y.n later.1 later.2.1 later.2.2 = 0 ∧ later.2.1 ≤ at_) → getF usd (vsT x112.1.1) later.1 at_ = getF usd (vsT y.es) later.1 at_ := fun hh => by
                rw [show vsT x112.1.1 = (setR usd (vsT y.es) y.n later.1 later.2.1 later.2.2).1 from congrArg Prod.fst x112.2]
                exact get_stays hh
              refine c_region ?_
              refine L_op (s_e hS (e_move rfl) rfl ?_); clear hS a; intro a hS
              refine L_op (s_callP hS (.cons rfl .nil) cf16 rfl (Num_w _ _) ?_); clear hS a; (try clear w); intro a w hS
              refine L_op (s_e hS (e_bin rfl rfl rfl) rfl ?_); clear hS a; intro a hS
              refine L_op (s_e hS (e_move rfl) rfl ?_); clear hS a; intro a hS
              refine L_merge 5 129 (.bool (decide (setE usd (vsT y.es) y.n later.1 later.2.1 later.2.2 = 0 ∧ later.2.1 ≤ at_))) hS ?_ ?_
              · intro hcM129
                (first | refine g_splitD (t := 124) hS rfl ?_ ?_ | refine g_split (t := 124) hS rfl ?_ ?_) <;> (clear hS; intro hg124 hS)
                ·
                  first | (refine L_go hS rfl rfl (s_e hS (e_fa0 rfl ty_fo24_1) rfl ?_); clear hS a; intro a hS) | (refine L_go hS rfl rfl (s_e hS (e_faK rfl ty_fo24_1) rfl ?_); clear hS a; intro a hS)
                  refine L_go hS rfl rfl (s_e hS (e_load rfl (by repeat constructor) ty_sc3 (by rfl)) rfl ?_); clear hS a; intro a hS
                  refine L_go hS rfl rfl (s_e hS (e_move rfl) rfl ?_); clear hS a; intro a hS
                  refine L_go hS rfl rfl (s_e hS (e_bin rfl rfl rfl) rfl ?_); clear hS a; intro a hS
                  first | (refine L_op (s_e hS (e_pick_t rfl rfl) rfl ?_); clear hS a; intro a hS) | (refine L_op (s_e hS (e_pick_f rfl rfl) rfl ?_); clear hS a; intro a hS)
                  exact hcM129 _ _ (hS.ends 6 129 124 rfl (congrArg Value.bool (by exact decide_eq_decide.2 ⟨fun h => ⟨hg124, h⟩, fun h => h.2⟩)) rfl rfl (by first | exact congrArg Value.bool (decide_eq_true hg124).symm | exact congrArg Value.bool hg124.symm | simp [hg124]) rfl)
                ·
                  refine L_skip_t hS rfl rfl rfl ?_; clear hS a; intro a hS
                  refine L_skip_t hS rfl rfl rfl ?_; clear hS a; intro a hS
                  refine L_skip_t hS rfl rfl rfl ?_; clear hS a; intro a hS
                  refine L_skip_t hS rfl rfl rfl ?_; clear hS a; intro a hS
                  first | (refine L_op (s_e hS (e_pick_t rfl rfl) rfl ?_); clear hS a; intro a hS) | (refine L_op (s_e hS (e_pick_f rfl rfl) rfl ?_); clear hS a; intro a hS)
                  exact hcM129 _ _ (hS.ends 6 129 124 rfl (congrArg Value.bool (by exact (decide_eq_false (fun h => hg124 h.1)).symm)) rfl rfl (by first | exact congrArg Value.bool (decide_eq_false hg124).symm | exact congrArg Value.bool hg124.symm | simp [hg124]) rfl)
              · clear hS a; (try clear w); intro a w hS
                simp only [List.drop_succ_cons, List.drop_zero]
                refine L_op (s_e hS (e_move rfl) rfl ?_); clear hS a; intro a hS
                refine L_merge 9 139 (.bool (true)) hS ?_ ?_
                · intro hcM139
                  (first | refine g_splitD (t := 130) hS rfl ?_ ?_ | refine g_split (t := 130) hS rfl ?_ ?_) <;> (clear hS; intro hg130 hS)
                  ·
                    refine L_skip_f hS rfl rfl rfl ?_; clear hS a; intro a hS
                    refine L_skip_f hS rfl rfl rfl ?_; clear hS a; intro a hS
                    refine L_skip_f hS rfl rfl rfl ?_; clear hS a; intro a hS
                    refine L_skip_f hS rfl rfl rfl ?_; clear hS a; intro a hS
                    refine L_skip_u hS rfl rfl rfl ?_; clear hS a; intro a hS
                    refine L_skip_u hS rfl rfl rfl ?_; clear hS a; intro a hS
                    refine L_skip_u hS rfl rfl rfl ?_; clear hS a; intro a hS
                    refine L_skip_f hS rfl rfl rfl ?_; clear hS a; intro a hS
                    first | (refine L_op (s_e hS (e_pick_t rfl rfl) rfl ?_); clear hS a; intro a hS) | (refine L_op (s_e hS (e_pick_f rfl rfl) rfl ?_); clear hS a; intro a hS)
                    exact hcM139 _ _ (hS.ends 10 139 130 rfl (congrArg Value.bool (by first | rfl | (simp [hg130]; done) | (simp [hg130]; omega) | grind)) rfl rfl (by first | exact congrArg Value.bool (decide_eq_true hg130).symm | exact congrArg Value.bool hg130.symm | simp [hg130]) rfl)
                  ·
                    refine L_go hS rfl rfl (s_e hS (e_move rfl) rfl ?_); clear hS a; intro a hS
                    refine L_go hS rfl rfl (s_e hS (e_move rfl) rfl ?_); clear hS a; intro a hS
                    refine L_go hS rfl rfl (s_e hS (e_bin rfl rfl rfl) rfl ?_); clear hS a; intro a hS
                    refine L_go hS rfl rfl (s_e hS (e_move rfl) rfl ?_); clear hS a; intro a hS
                    replace hS := hS.is (t := 134) (c := true) rfl ((decide_eq_true (by rw [hst hg130])))
                    refine L_go hS rfl rfl (s_e hS (e_move rfl) rfl ?_); clear hS a; intro a hS
                    refine L_go hS rfl rfl (s_e hS (e_move rfl) rfl ?_); clear hS a; intro a hS
                    refine L_go hS rfl rfl (s_e hS (e_bin rfl rfl rfl) rfl ?_); clear hS a; intro a hS
                    first | (refine L_go hS rfl rfl (s_e hS (e_pick_t rfl rfl) rfl ?_); clear hS a; intro a hS) | (refine L_go hS rfl rfl (s_e hS (e_pick_f rfl rfl) rfl ?_); clear hS a; intro a hS)
                    first | (refine L_op (s_e hS (e_pick_t rfl rfl) rfl ?_); clear hS a; intro a hS) | (refine L_op (s_e hS (e_pick_f rfl rfl) rfl ?_); clear hS a; intro a hS)
                    exact hcM139 _ _ (hS.ends 11 139 130 rfl (congrArg Value.bool (by exact decide_eq_true (by rw [hst hg130]))) rfl rfl (by first | exact congrArg Value.bool (decide_eq_false hg130).symm | exact congrArg Value.bool hg130.symm | simp [hg130]) rfl)
                · clear hS a; (try clear w); intro a w hS
                  simp only [List.drop_succ_cons, List.drop_zero]
                  refine L_op (s_e hS (e_assign rfl) rfl ?_); clear hS a; intro a hS
                  refine L_nil ?_
                  refine n_then ?_
                  refine wp_ret ?_
                  refine c_ret1 hS Try.results3 (.tmp rfl) ?_
                  exact ⟨rfl, hS.chg⟩
end Go.Proofs.Ytheofhegdjjfgaa
