/- A text read as a wide number, walked. -/
import Derived.Test.YtfiaobhkhedpiaaTxt1
import Derived.Test.YtfiaobhkhedpiaaBig8
import Derived.Test.YtfiaobhkhedpiaaSe8
import Derived.Test.YtfiaobhkhedpiaaW14
namespace Go.Proofs.Ytfiaobhkhedpiaa
open Go.RowKit

theorem wV_nil : wV 0 = .agg [.int .u64 0, .int .u64 0].toArray := by
  unfold wV; rw [show Wd.hi 0 = 0 from by decide, show Wd.lo 0 = 0 from by decide]
theorem cut_P (s d : ByteArray) (hd : d = ⟨(rest s.data.toList).toArray⟩) (w : World) : PureC Try.prog 80 [.string s, .string ⟨#[45]⟩] w (.tuple [.string d, .bool (minus s.data.toList)].toArray) :=
  PureC.of_same ((Try.strings_CutPrefix s ⟨#[45]⟩ w).mono fun _ _ ⟨he, hw⟩ => ⟨by rw [he, hd]; rfl, hw.symm⟩)
theorem contains_P (d : ByteArray) (w : World) : PureC Try.prog 82 [.string d, .func (.func 81) #[] #[]] w (.bool (decide (¬ ∀ j, j < d.data.toList.length → digit (byteAt d.data.toList j)))) := by
  have h := contains_w d w
  rw [idx_form] at h
  exact PureC.of_below h

set_option maxRecDepth 100000 in
set_option maxHeartbeats 1000000 in
theorem Parse_P (s : ByteArray) (hs : s.size ≤ 4611686018427387904) (w0 : World) : PureC Try.prog 30 [.string s] w0 (.tuple [wV (parseV s.data.toList), .int .i64 (parseE s.data.toList)].toArray) := by
  have hl := size_list s
  obtain ⟨d, hd⟩ : ∃ d : ByteArray, d = ⟨(rest s.data.toList).toArray⟩ := ⟨_, rfl⟩
  have hdl : d.data.toList = rest s.data.toList := by rw [hd]
  have hld := size_list d
  have hds : d.size ≤ s.size := by
    rw [← hld, hdl, rest_of]; split
    · rw [List.length_drop]; omega
    · omega
  refine c_enter [(0, .string s)] [] noB Try.func30 rfl Try.ntmps30 ⟨rfl, trivial⟩ rfl (by simp) (by simp) (by simp) ?_
  intro a hS
  refine c_seq ?_
  refine c_region ?_
  refine L_op (s_alloc hS ty_z60 rfl ?_); clear hS a; (try clear w); intro a w b2 hS
  refine L_op (s_e hS (e_assign rfl) rfl ?_); clear hS a; intro a hS
  refine L_nil ?_
  refine n_then ?_
  refine c_seq ?_
  refine c_region ?_
  refine L_op (s_e hS (e_move rfl) rfl ?_); clear hS a; intro a hS
  refine L_op (s_callP hS (.cons rfl (.cons rfl .nil)) cf80 rfl (cut_P s d hd _) ?_); clear hS a; (try clear w); intro a w hS
  refine L_op (s_e hS (e_move rfl) rfl ?_); clear hS a; intro a hS
  refine L_op (s_e hS (e_extract rfl rfl) rfl ?_); clear hS a; intro a hS
  refine L_op (s_e hS (e_extract rfl rfl) rfl ?_); clear hS a; intro a hS
  refine L_op (s_e hS (e_assign rfl) rfl ?_); clear hS a; intro a hS
  refine L_op (s_e hS (e_assign rfl) rfl ?_); clear hS a; intro a hS
  refine L_nil ?_
  refine n_then ?_
  refine c_seq ?_
  refine c_region ?_
  refine L_op (s_e hS (e_assign rfl) rfl ?_); clear hS a; intro a hS
  refine L_nil ?_
  refine n_then ?_
  refine c_cut (fun a w => St 76 noB w0 a w [(4, .string d), (5, .bool (minus s.data.toList)), (2, .pointer (some ⟨b2, 0, none⟩)), (3, .int .i64 0)] [.blk b2 [.int .u64 0, .int .u64 0] 60] ∧ NumForm s.data.toList) ?_ ?_
  ·
    refine c_seq ?_
    refine c_region ?_
    refine L_op (s_e hS (e_move rfl) rfl ?_); clear hS a; intro a hS
    refine L_op (s_e hS (e_binS rfl rfl rfl) rfl ?_); clear hS a; intro a hS
    refine L_op (s_e hS (e_move rfl) rfl ?_); clear hS a; intro a hS
    refine L_merge 4 23 (.bool (decide (rest s.data.toList = [] ∨ ¬ ∀ j, j < d.data.toList.length → digit (byteAt d.data.toList j)))) hS ?_ ?_
    · intro hcM23
      (first | refine g_splitD (t := 19) hS rfl ?_ ?_ | refine g_split (t := 19) hS rfl ?_ ?_) <;> (clear hS; intro hg19 hS)
      ·
        refine L_skip_f hS rfl rfl rfl ?_; clear hS a; intro a hS
        refine L_skip_f hS rfl rfl rfl ?_; clear hS a; intro a hS
        refine L_skip_f hS rfl rfl rfl ?_; clear hS a; intro a hS
        first | (refine L_op (s_e hS (e_pick_t rfl rfl) rfl ?_); clear hS a; intro a hS) | (refine L_op (s_e hS (e_pick_f rfl rfl) rfl ?_); clear hS a; intro a hS)
        exact hcM23 _ _ (hS.ends 5 23 19 rfl (congrArg Value.bool (by exact (decide_eq_true (.inl (by rw [← hdl]; exact nil_list.1 hg19))).symm)) rfl rfl (by first | exact congrArg Value.bool (decide_eq_true hg19).symm | exact congrArg Value.bool hg19.symm | simp [hg19]) rfl)
      ·
        refine L_go hS rfl rfl (s_e hS (e_move rfl) rfl ?_); clear hS a; intro a hS
        refine L_go hS rfl rfl (s_e hS (e_move rfl) rfl ?_); clear hS a; intro a hS
        refine L_go hS rfl rfl (s_callP hS (.cons rfl (.cons rfl .nil)) cf82 rfl (contains_P d _) ?_); clear hS a; (try clear w); intro a w hS
        first | (refine L_op (s_e hS (e_pick_t rfl rfl) rfl ?_); clear hS a; intro a hS) | (refine L_op (s_e hS (e_pick_f rfl rfl) rfl ?_); clear hS a; intro a hS)
        exact hcM23 _ _ (hS.ends 5 23 19 rfl (congrArg Value.bool (by exact decide_eq_decide.2 ⟨.inr, fun h => h.resolve_left (by rw [← hdl]; exact fun e => hg19 (nil_list.2 e))⟩)) rfl rfl (by first | exact congrArg Value.bool (decide_eq_false hg19).symm | exact congrArg Value.bool hg19.symm | simp [hg19]) rfl)
    · clear hS a; (try clear w); intro a w hS
      simp only [List.drop_succ_cons, List.drop_zero]
      refine L_op (s_e hS (e_move rfl) rfl ?_); clear hS a; intro a hS
      (first | refine g_splitD (t := 24) hS rfl ?_ ?_ | refine g_split (t := 24) hS rfl ?_ ?_) <;> (clear hS; intro hg24 hS)
      ·
        have hbad : ¬ NumForm s.data.toList := (bad_iff _).1 (.inl (by rw [← hdl] at *; simpa using hg24))
        refine L_skip_f hS rfl rfl rfl ?_; clear hS a; intro a hS
        refine L_skip_f hS rfl rfl rfl ?_; clear hS a; intro a hS
        refine L_skip_f hS rfl rfl rfl ?_; clear hS a; intro a hS
        refine L_skip_f hS rfl rfl rfl ?_; clear hS a; intro a hS
        refine L_skip_u hS rfl rfl rfl ?_; clear hS a; intro a hS
        refine L_skip_u hS rfl rfl rfl ?_; clear hS a; intro a hS
        refine L_skip_u hS rfl rfl rfl ?_; clear hS a; intro a hS
        refine L_skip_u hS rfl rfl rfl ?_; clear hS a; intro a hS
        refine L_skip_u hS rfl rfl rfl ?_; clear hS a; intro a hS
        refine L_skip_u hS rfl rfl rfl ?_; clear hS a; intro a hS
        refine L_skip_f hS rfl rfl rfl ?_; clear hS a; intro a hS
        first | (refine L_op (s_e hS (e_pick_t rfl rfl) rfl ?_); clear hS a; intro a hS) | (refine L_op (s_e hS (e_pick_f rfl rfl) rfl ?_); clear hS a; intro a hS)
        refine L_nil ?_
        refine n_then ?_
        refine c_if_t hS rfl ?_
        refine c_seq ?_
        refine c_region ?_
        refine L_op (s_e hS (e_build ty_z60 ty_pl60 .nil) rfl ?_); clear hS a; intro a hS
        refine L_op (s_storeA hS rfl rfl ty_sz60 (by repeat constructor) (by rfl) (by rfl) (by rfl) ?_); clear hS; (try clear w); intro w hS
        refine L_op (s_e hS (e_assign rfl) rfl ?_); clear hS a; intro a hS
        refine L_nil ?_
        refine n_then ?_
        refine wp_ret ?_
        refine r_then ?_
        refine c_retN hS Try.results30 (.cons (.cellA rfl (by repeat constructor) ty_st60 ty_sz60 (by rfl)) (.cons (.tmp rfl) .nil)) rfl ?_
        have hbad' : ¬ NumForm s.data.toList := by
          first
          | exact hbad
          | exact (bad_iff _).1 (.inr ⟨by rw [← hdl]; unfold byteAt; rw [Int.toNat_zero] at hg28; omega, .inl (by rw [← hdl]; omega)⟩)
          | exact (bad_iff _).1 (.inr ⟨by rw [← hdl]; unfold byteAt; rw [Int.toNat_zero] at hg28; omega, .inr (by simpa using hc36)⟩)
        exact ⟨by unfold parseV parseE; rw [if_neg hbad', if_neg hbad', wV_nil], hS.chg⟩
      ·
        have hok : ¬ (rest s.data.toList = [] ∨ ¬ ∀ j, j < d.data.toList.length → digit (byteAt d.data.toList j)) := by simpa using hg24
        have hne : rest s.data.toList ≠ [] := fun e => hok (.inl e)
        have hdg : ∀ j, j < (rest s.data.toList).length → digit (byteAt (rest s.data.toList) j) := by
          rw [← hdl]
          by_cases h : ∀ j, j < d.data.toList.length → digit (byteAt d.data.toList j)
          · exact h
          · exact absurd (.inr h) hok
        have hpos : 0 < d.size := by rw [← hld, hdl]; exact List.length_pos_iff.2 hne
        refine L_go hS rfl rfl (s_e hS (e_move rfl) rfl ?_); clear hS a; intro a hS
        refine L_go hS rfl rfl (s_e hS (e_ixS rfl rfl ty_u9 (by omega)) rfl ?_); clear hS a; intro a hS
        refine L_go hS rfl rfl (s_e hS (e_bin rfl rfl rfl) rfl ?_); clear hS a; intro a hS
        refine L_go hS rfl rfl (s_e hS (e_move rfl) rfl ?_); clear hS a; intro a hS
        (first | refine g_splitD (t := 28) hS rfl ?_ ?_ | refine g_split (t := 28) hS rfl ?_ ?_) <;> (clear hS; intro hg28 hS)
        ·
          refine L_go hS rfl rfl (s_e hS (e_move rfl) rfl ?_); clear hS a; intro a hS
          refine L_go hS rfl rfl (s_e hS (e_lenS rfl rfl ty_u9) rfl ?_); clear hS a; intro a hS
          refine L_go hS rfl rfl (s_e hS (e_bin rfl rfl rfl) rfl ?_); clear hS a; intro a hS
          refine L_go hS rfl rfl (s_e hS (e_move rfl) rfl ?_); clear hS a; intro a hS
          (first | refine g_splitD (t := 32) hS rfl ?_ ?_ | refine g_split (t := 32) hS rfl ?_ ?_) <;> (clear hS; intro hg32 hS)
          ·
            refine L_skip_f hS rfl rfl rfl ?_; clear hS a; intro a hS
            first | (refine L_go hS rfl rfl (s_e hS (e_pick_t rfl rfl) rfl ?_); clear hS a; intro a hS) | (refine L_go hS rfl rfl (s_e hS (e_pick_f rfl rfl) rfl ?_); clear hS a; intro a hS)
            first | (refine L_go hS rfl rfl (s_e hS (e_pick_t rfl rfl) rfl ?_); clear hS a; intro a hS) | (refine L_go hS rfl rfl (s_e hS (e_pick_f rfl rfl) rfl ?_); clear hS a; intro a hS)
            first | (refine L_op (s_e hS (e_pick_t rfl rfl) rfl ?_); clear hS a; intro a hS) | (refine L_op (s_e hS (e_pick_f rfl rfl) rfl ?_); clear hS a; intro a hS)
            refine L_nil ?_
            refine n_then ?_
            refine c_if_t hS rfl ?_
            refine c_seq ?_
            refine c_region ?_
            refine L_op (s_e hS (e_build ty_z60 ty_pl60 .nil) rfl ?_); clear hS a; intro a hS
            refine L_op (s_storeA hS rfl rfl ty_sz60 (by repeat constructor) (by rfl) (by rfl) (by rfl) ?_); clear hS; (try clear w); intro w hS
            refine L_op (s_e hS (e_assign rfl) rfl ?_); clear hS a; intro a hS
            refine L_nil ?_
            refine n_then ?_
            refine wp_ret ?_
            refine r_then ?_
            refine c_retN hS Try.results30 (.cons (.cellA rfl (by repeat constructor) ty_st60 ty_sz60 (by rfl)) (.cons (.tmp rfl) .nil)) rfl ?_
            have hbad' : ¬ NumForm s.data.toList := by
              first
              | exact hbad
              | exact (bad_iff _).1 (.inr ⟨by rw [← hdl]; unfold byteAt; rw [Int.toNat_zero] at hg28; omega, .inl (by rw [← hdl]; omega)⟩)
              | exact (bad_iff _).1 (.inr ⟨by rw [← hdl]; unfold byteAt; rw [Int.toNat_zero] at hg28; omega, .inr (by simpa using hc36)⟩)
            exact ⟨by unfold parseV parseE; rw [if_neg hbad', if_neg hbad', wV_nil], hS.chg⟩
          ·
            refine L_go hS rfl rfl (s_e hS (e_move rfl) rfl ?_); clear hS a; intro a hS
            first | (refine L_go hS rfl rfl (s_e hS (e_pick_t rfl rfl) rfl ?_); clear hS a; intro a hS) | (refine L_go hS rfl rfl (s_e hS (e_pick_f rfl rfl) rfl ?_); clear hS a; intro a hS)
            first | (refine L_go hS rfl rfl (s_e hS (e_pick_t rfl rfl) rfl ?_); clear hS a; intro a hS) | (refine L_go hS rfl rfl (s_e hS (e_pick_f rfl rfl) rfl ?_); clear hS a; intro a hS)
            first | (refine L_op (s_e hS (e_pick_t rfl rfl) rfl ?_); clear hS a; intro a hS) | (refine L_op (s_e hS (e_pick_f rfl rfl) rfl ?_); clear hS a; intro a hS)
            refine L_nil ?_
            refine n_then ?_
            first | refine c_ifD hS rfl (fun hc36 => ?_) (fun hc36 => ?_) | refine c_if hS rfl (fun hc36 => ?_) (fun hc36 => ?_)
            ·
              refine c_seq ?_
              refine c_region ?_
              refine L_op (s_e hS (e_build ty_z60 ty_pl60 .nil) rfl ?_); clear hS a; intro a hS
              refine L_op (s_storeA hS rfl rfl ty_sz60 (by repeat constructor) (by rfl) (by rfl) (by rfl) ?_); clear hS; (try clear w); intro w hS
              refine L_op (s_e hS (e_assign rfl) rfl ?_); clear hS a; intro a hS
              refine L_nil ?_
              refine n_then ?_
              refine wp_ret ?_
              refine r_then ?_
              refine c_retN hS Try.results30 (.cons (.cellA rfl (by repeat constructor) ty_st60 ty_sz60 (by rfl)) (.cons (.tmp rfl) .nil)) rfl ?_
              have hbad' : ¬ NumForm s.data.toList := by
                first
                | exact hbad
                | exact (bad_iff _).1 (.inr ⟨by rw [← hdl]; unfold byteAt; rw [Int.toNat_zero] at hg28; omega, .inl (by rw [← hdl]; omega)⟩)
                | exact (bad_iff _).1 (.inr ⟨by rw [← hdl]; unfold byteAt; rw [Int.toNat_zero] at hg28; omega, .inr (by simpa using hc36)⟩)
              exact ⟨by unfold parseV parseE; rw [if_neg hbad', if_neg hbad', wV_nil], hS.chg⟩
            ·
              refine wp_skip ?_
              exact ⟨(hS.slots (by repeat (first | exact trivial | refine ⟨rfl, ?_⟩))).pick (by repeat (first | exact Pick.nil | (refine Pick.cons (by repeat (first | exact Rem.head | apply Rem.tail)) ?_))), (Decidable.not_not.1 fun hN => by
              rcases (bad_iff _).2 hN with h | ⟨h1, h2⟩
              · exact hok (by rw [hdl]; exact h)
              · have h1' : ((d.data.toList.getD (Int.toNat 0) 0).toNat : Int) = 48 := by
                  rw [← hdl] at h1; unfold byteAt at h1; rw [Int.toNat_zero]; omega
                have h2' : 1 < d.size ∨ minus s.data.toList = true := by rw [← hdl, hld] at h2; exact h2
                first
                | exact hg28 h1'
                | (rcases h2' with h3 | h3
                   · omega
                   · first | exact hc36 h3 | simp [h3] at hc36))⟩
        ·
          refine L_skip_t hS rfl rfl rfl ?_; clear hS a; intro a hS
          refine L_skip_t hS rfl rfl rfl ?_; clear hS a; intro a hS
          refine L_skip_t hS rfl rfl rfl ?_; clear hS a; intro a hS
          refine L_skip_t hS rfl rfl rfl ?_; clear hS a; intro a hS
          refine L_skip_u hS rfl rfl rfl ?_; clear hS a; intro a hS
          refine L_skip_t hS rfl rfl rfl ?_; clear hS a; intro a hS
          first | (refine L_go hS rfl rfl (s_e hS (e_pick_t rfl rfl) rfl ?_); clear hS a; intro a hS) | (refine L_go hS rfl rfl (s_e hS (e_pick_f rfl rfl) rfl ?_); clear hS a; intro a hS)
          first | (refine L_op (s_e hS (e_pick_t rfl rfl) rfl ?_); clear hS a; intro a hS) | (refine L_op (s_e hS (e_pick_f rfl rfl) rfl ?_); clear hS a; intro a hS)
          refine L_nil ?_
          refine n_then ?_
          refine c_if_f hS rfl ?_
          refine wp_skip ?_
          exact ⟨(hS.slots (by repeat (first | exact trivial | refine ⟨rfl, ?_⟩))).pick (by repeat (first | exact Pick.nil | (refine Pick.cons (by repeat (first | exact Rem.head | apply Rem.tail)) ?_))), (Decidable.not_not.1 fun hN => by
          rcases (bad_iff _).2 hN with h | ⟨h1, h2⟩
          · exact hok (by rw [hdl]; exact h)
          · have h1' : ((d.data.toList.getD (Int.toNat 0) 0).toNat : Int) = 48 := by
              rw [← hdl] at h1; unfold byteAt at h1; rw [Int.toNat_zero]; omega
            have h2' : 1 < d.size ∨ minus s.data.toList = true := by rw [← hdl, hld] at h2; exact h2
            first
            | exact hg28 h1'
            | (rcases h2' with h3 | h3
               · omega
               · first | exact hc36 h3 | simp [h3] at hc36))⟩
  ·
    clear hS a; (try clear w); intro a w hS
    obtain ⟨hS, hF⟩ := hS
    have hnum := num_sg hF
    have hF4 : ∀ j, j < d.data.toList.length → 48 ≤ byteAt d.data.toList j ∧ byteAt d.data.toList j ≤ 57 := by
      rw [hdl, rest_body hF]; exact hF.2.2.2
    have hF2 : ¬ (1 < d.data.toList.length ∧ byteAt d.data.toList 0 = 48) := by rw [hdl, rest_body hF]; exact hF.2.1
    refine c_seq ?_
    refine c_seq ?_
    refine c_region ?_
    refine L_op (s_e hS (e_move rfl) rfl ?_); clear hS a; intro a hS
    refine L_op (s_e hS (e_lenS rfl rfl ty_u9) rfl ?_); clear hS a; intro a hS
    refine L_op (s_e hS (e_bin rfl rfl rfl) rfl ?_); clear hS a; intro a hS
    refine L_nil ?_
    refine n_then ?_
    first | refine c_ifD hS rfl (fun hc40 => ?_) (fun hc40 => ?_) | refine c_if hS rfl (fun hc40 => ?_) (fun hc40 => ?_)
    ·
      have hnf : ¬ Wd.fit (numVal s.data.toList) := by
        rw [hnum, ← hdl]
        refine dv_long40 (by omega) ?_ _
        have h1 := hF4 0 (by omega)
        have h3 : ¬ byteAt d.data.toList 0 = 48 := fun e => hF2 ⟨by omega, e⟩
        omega
      refine c_seq ?_
      refine c_region ?_
      refine L_op (s_e hS (e_build ty_z60 ty_pl60 .nil) rfl ?_); clear hS a; intro a hS
      refine L_op (s_storeA hS rfl rfl ty_sz60 (by repeat constructor) (by rfl) (by rfl) (by rfl) ?_); clear hS; (try clear w); intro w hS
      refine L_op (s_e hS (e_assign rfl) rfl ?_); clear hS a; intro a hS
      refine L_nil ?_
      refine n_then ?_
      refine wp_ret ?_
      refine r_then ?_
      refine c_retN hS Try.results30 (.cons (.cellA rfl (by repeat constructor) ty_st60 ty_sz60 (by rfl)) (.cons (.tmp rfl) .nil)) rfl ?_
      exact ⟨by unfold parseV parseE; rw [if_pos hF, if_pos hF, if_neg hnf, Wd.tr_no hnf, wV_nil], hS.chg⟩
    ·
      refine wp_skip ?_
      refine n_then ?_
      refine c_seq ?_
      refine c_region ?_
      refine L_op (s_e hS (e_build ty_z60 ty_pl60 .nil) rfl ?_); clear hS a; intro a hS
      refine L_op (s_alloc hS ty_z60 rfl ?_); clear hS a; (try clear w); intro a w b7 hS
      refine L_op (s_storeA hS rfl rfl ty_sz60 (by repeat constructor) (by rfl) (by rfl) (by rfl) ?_); clear hS; (try clear w); intro w hS
      refine L_nil ?_
      refine n_then ?_
      refine c_seq ?_
      refine c_seq ?_
      refine c_region ?_
      refine L_op (s_e hS (e_assign rfl) rfl ?_); clear hS a; intro a hS
      refine L_nil ?_
      refine n_then ?_
      refine wp_block ?_
      have z1 : Wd.hi (sgB (minus s.data.toList) (dv (d.data.toList.take 0))) = 0 := by rw [show dv (d.data.toList.take 0) = 0 from rfl]; unfold sgB; split <;> decide
      have z2 : Wd.lo (sgB (minus s.data.toList) (dv (d.data.toList.take 0))) = 0 := by rw [show dv (d.data.toList.take 0) = 0 from rfl]; unfold sgB; split <;> decide
      have z3 : Wd.fit (sgB (minus s.data.toList) (dv (d.data.toList.take 0))) := by rw [show dv (d.data.toList.take 0) = 0 from rfl]; unfold sgB; split <;> decide
      refine c_loop (γ := Nat) (fun k a w => St 76 noB w0 a w [(8, .int .i64 (k : Int)), (7, .pointer (some ⟨b7, 0, none⟩)), (4, .string d), (5, .bool (minus s.data.toList)), (2, .pointer (some ⟨b2, 0, none⟩)), (3, .int .i64 0)] [.blk b7 [.int .u64 (Wd.hi (sgB (minus s.data.toList) (dv (d.data.toList.take k)))), .int .u64 (Wd.lo (sgB (minus s.data.toList) (dv (d.data.toList.take k))))] 60, .blk b2 [.int .u64 0, .int .u64 0] 60] ∧ k ≤ d.size ∧ Wd.fit (sgB (minus s.data.toList) (dv (d.data.toList.take k)))) (fun k => d.size - k) 0 ⟨by rw [z1, z2]; exact (hS.slots (by repeat (first | exact trivial | refine ⟨rfl, ?_⟩))).pick (by repeat (first | exact Pick.nil | (refine Pick.cons (by repeat (first | exact Rem.head | apply Rem.tail)) ?_))), Nat.zero_le _, z3⟩ ?_
      clear hS a; (try clear w); intro k a w hI
      obtain ⟨hS, hk, hfit⟩ := hI
      refine c_seq ?_
      refine c_seq ?_
      refine c_region ?_
      refine L_op (s_e hS (e_move rfl) rfl ?_); clear hS a; intro a hS
      refine L_op (s_e hS (e_move rfl) rfl ?_); clear hS a; intro a hS
      refine L_op (s_e hS (e_lenS rfl rfl ty_u9) rfl ?_); clear hS a; intro a hS
      refine L_op (s_e hS (e_bin rfl rfl rfl) rfl ?_); clear hS a; intro a hS
      refine L_nil ?_
      refine n_then ?_
      first | refine c_ifD hS rfl (fun hc46 => ?_) (fun hc46 => ?_) | refine c_if hS rfl (fun hc46 => ?_) (fun hc46 => ?_)
      ·
        have hx := hF4 k (by omega)
        have hs1 := dv_succ (l := d.data.toList) (k := k) (by omega)
        have hle := dv_take (l := d.data.toList) (k + 1)
        have hxe : ((d.data.toList.getD (k : Int).toNat 0).toNat : Int) = (byteAt d.data.toList k : Int) := by unfold byteAt; rw [Int.toNat_natCast]
        obtain ⟨kx, hkx⟩ : ∃ kx : Nat, byteAt d.data.toList k = 48 + kx := ⟨byteAt d.data.toList k - 48, by omega⟩
        rw [hkx, show 48 + kx - 48 = kx by omega] at hs1
        have hk9 : kx ≤ 9 := by omega
        refine wp_skip ?_
        refine n_then ?_
        refine c_seq ?_
        refine wp_block ?_
        refine c_seq ?_
        refine c_region ?_
        refine L_op (s_e hS (e_loadA rfl (by repeat constructor) ty_st60 ty_sz60 (by rfl)) rfl ?_); clear hS a; intro a hS
        refine L_op (s_callP hS (.cons rfl (.cons rfl .nil)) cf47 rfl (PureC.of_below (MulInt_w (sgB (minus s.data.toList) (dv (d.data.toList.take k))) 10 hfit (by decide) (by decide) _)) ?_); clear hS a; (try clear w); intro a w hS
        refine L_op (s_e hS (e_move rfl) rfl ?_); clear hS a; intro a hS
        refine L_op (s_e hS (e_extract rfl rfl) rfl ?_); clear hS a; intro a hS
        refine L_op (s_e hS (e_extract rfl rfl) rfl ?_); clear hS a; intro a hS
        refine L_op (s_alloc hS ty_z60 rfl ?_); clear hS a; (try clear w); intro a w b9 hS
        refine L_op (s_storeA hS rfl rfl ty_sz60 (by repeat constructor) (by rfl) (by rfl) (by rfl) ?_); clear hS; (try clear w); intro w hS
        refine L_op (s_e hS (e_assign rfl) rfl ?_); clear hS a; intro a hS
        refine L_nil ?_
        refine n_then ?_
        refine c_seq ?_
        refine c_seq ?_
        refine c_region ?_
        refine L_op (s_e hS (e_move rfl) rfl ?_); clear hS a; intro a hS
        refine L_op (s_e hS (e_bin rfl rfl rfl) rfl ?_); clear hS a; intro a hS
        refine L_nil ?_
        refine n_then ?_
        first | refine c_ifD hS rfl (fun hc55 => ?_) (fun hc55 => ?_) | refine c_if hS rfl (fun hc55 => ?_) (fun hc55 => ?_)
        ·
          have hnf : ¬ Wd.fit (numVal s.data.toList) := by
            rw [hnum, ← hdl]
            have h1 : ¬ Wd.fit (sgB (minus s.data.toList) (10 * dv (d.data.toList.take k))) := by rw [← sg_ten]; exact fun h => hc55 (Wd.er_of h)
            exact not_fit_of (by omega) h1
          refine c_seq ?_
          refine c_region ?_
          refine L_op (s_e hS (e_build ty_z60 ty_pl60 .nil) rfl ?_); clear hS a; intro a hS
          refine L_op (s_storeA hS rfl rfl ty_sz60 (by repeat constructor) (by rfl) (by rfl) (by rfl) ?_); clear hS; (try clear w); intro w hS
          refine L_op (s_e hS (e_assign rfl) rfl ?_); clear hS a; intro a hS
          refine L_nil ?_
          refine n_then ?_
          refine wp_ret ?_
          refine r_then (r_block (r_then (r_then (r_block (r_then ?_)))))
          refine c_retN hS Try.results30 (.cons (.cellA rfl (by repeat constructor) ty_st60 ty_sz60 (by rfl)) (.cons (.tmp rfl) .nil)) rfl ?_
          exact ⟨by unfold parseV parseE; rw [if_pos hF, if_pos hF, if_neg hnf, Wd.tr_no hnf, wV_nil], hS.chg⟩
        ·
          have hf2 : Wd.fit (sgB (minus s.data.toList) (10 * dv (d.data.toList.take k))) := by
            rw [← sg_ten]
            by_cases h : Wd.fit (sgB (minus s.data.toList) (dv (d.data.toList.take k)) * 10)
            · exact h
            · rw [Wd.er_no h] at hc55; simp at hc55
          rw [sg_ten, Wd.tr_of hf2] at hS
          refine wp_skip ?_
          refine n_then ?_
          refine c_seq ?_
          refine c_region ?_
          refine L_op (s_e hS (e_move rfl) rfl ?_); clear hS a; intro a hS
          refine L_op (s_e hS (e_move rfl) rfl ?_); clear hS a; intro a hS
          refine L_op (s_e hS (e_ixS rfl rfl ty_u9 (by omega)) rfl ?_); clear hS a; intro a hS
          rw [hxe, hkx] at hS
          first | (refine L_op (s_e hS (e_binN rfl rfl rfl (by omega)) rfl ?_); clear hS a; intro a hS) | (refine L_op (s_e hS (e_bin rfl rfl rfl) rfl ?_); clear hS a; intro a hS)
          rw [wrap_byte (by omega), show ((48 + kx : Nat) : Int) - 48 = (kx : Int) by omega] at hS
          first | (refine L_op (s_e hS (e_convN rfl ty_u5 ty_u3 (by omega)) rfl ?_); clear hS a; intro a hS) | (refine L_op (s_e hS (e_conv rfl ty_u5 ty_u3) rfl ?_); clear hS a; intro a hS)
          refine L_op (s_e hS (e_assign rfl) rfl ?_); clear hS a; intro a hS
          refine L_nil ?_
          refine n_then ?_
          refine c_cut (fun a w => St 76 noB w0 a w [(11, .int .i64 (if minus s.data.toList = true then -(kx : Int) else kx)), (9, .pointer (some ⟨b9, 0, none⟩)), (8, .int .i64 (k : Int)), (7, .pointer (some ⟨b7, 0, none⟩)), (4, .string d), (5, .bool (minus s.data.toList)), (2, .pointer (some ⟨b2, 0, none⟩)), (3, .int .i64 0)] [.blk b9 [.int .u64 (Wd.hi (sgB (minus s.data.toList) (10 * dv (d.data.toList.take k)))), .int .u64 (Wd.lo (sgB (minus s.data.toList) (10 * dv (d.data.toList.take k))))] 60, .blk b7 [.int .u64 (Wd.hi (sgB (minus s.data.toList) (dv (d.data.toList.take k)))), .int .u64 (Wd.lo (sgB (minus s.data.toList) (dv (d.data.toList.take k))))] 60, .blk b2 [.int .u64 0, .int .u64 0] 60]) ?_ ?_
          ·
            refine c_seq ?_
            refine c_region ?_
            refine L_op (s_e hS (e_move rfl) rfl ?_); clear hS a; intro a hS
            refine L_nil ?_
            refine n_then ?_
            first | refine c_ifD hS rfl (fun hc62 => ?_) (fun hc62 => ?_) | refine c_if hS rfl (fun hc62 => ?_) (fun hc62 => ?_)
            ·
              refine c_region ?_
              refine L_op (s_e hS (e_move rfl) rfl ?_); clear hS a; intro a hS
              refine L_op (s_e hS (e_neg rfl) rfl ?_); clear hS a; intro a hS
              rw [show (0 : Int) - (kx : Int) = -(kx : Int) by omega, wrap_fit (by omega)] at hS
              refine L_op (s_e hS (e_assign rfl) rfl ?_); clear hS a; intro a hS
              refine L_nil ?_
              first
              | (rw [if_pos hc62]; exact (hS.slots (by repeat (first | exact trivial | refine ⟨rfl, ?_⟩))).pick (by repeat (first | exact Pick.nil | (refine Pick.cons (by repeat (first | exact Rem.head | apply Rem.tail)) ?_))))
              | (rw [if_neg (by simpa using hc62)]; exact (hS.slots (by repeat (first | exact trivial | refine ⟨rfl, ?_⟩))).pick (by repeat (first | exact Pick.nil | (refine Pick.cons (by repeat (first | exact Rem.head | apply Rem.tail)) ?_))))
            ·
              refine wp_skip ?_
              first
              | (rw [if_pos hc62]; exact (hS.slots (by repeat (first | exact trivial | refine ⟨rfl, ?_⟩))).pick (by repeat (first | exact Pick.nil | (refine Pick.cons (by repeat (first | exact Rem.head | apply Rem.tail)) ?_))))
              | (rw [if_neg (by simpa using hc62)]; exact (hS.slots (by repeat (first | exact trivial | refine ⟨rfl, ?_⟩))).pick (by repeat (first | exact Pick.nil | (refine Pick.cons (by repeat (first | exact Rem.head | apply Rem.tail)) ?_))))
          ·
            clear hS a; (try clear w); intro a w hS
            have hst : -9223372036854775808 ≤ (if minus s.data.toList = true then -(kx : Int) else (kx : Int)) ∧ (if minus s.data.toList = true then -(kx : Int) else (kx : Int)) < 9223372036854775808 := by split <;> omega
            have hsf : Wd.fit (if minus s.data.toList = true then -(kx : Int) else (kx : Int)) := by unfold Wd.fit; split <;> omega
            refine c_seq ?_
            refine c_drawS [] (by kernel_rfl) hS (sub_cons (X := .blk b9 _ _) (by repeat constructor) sub_nil) ?_; clear hS; (try clear w); intro w hS
            simp only [List.length_cons, List.length_nil, Nat.zero_add, Nat.reduceAdd, List.replicate]
            refine Z_take (i := 0) hS rfl want_none (e_loadA rfl (by repeat constructor) ty_st60 ty_sz60 (by rfl)) (listed' := [true, false, false, false, false, false, false, false, false]) rfl (by kernel_rfl) (by kernel_rfl) (by kernel_rfl) (by kernel_rfl) (by kernel_rfl) (sub_cons (by repeat constructor) sub_nil) (fun _ _ _ h => h) rfl ?_; clear hS a; intro a hS
            refine Z_take0 (i := 1) hS rfl want_none (e_move rfl) (listed' := [true, true, false, false, false, false, false, false, false]) rfl (by kernel_rfl) (by kernel_rfl) (by kernel_rfl) (fun _ _ _ h => h) rfl ?_; clear hS a; intro a hS
            refine Z_one (i := 2) rfl (want_none a hS.sl) (listed' := [true, true, true, false, false, false, false, false, false]) rfl (by kernel_rfl) (s_callP hS (.cons rfl .nil) cf42 rfl (PureC.of_below (FromInt_w _ hst.1 hst.2 _)) ?_); clear hS a; (try clear w); intro a w hS
            refine Z_and hS (sub_cons (by repeat constructor) sub_nil) ?_
            refine Z_one (i := 3) rfl (want_none a hS.sl) (listed' := [true, true, true, true, false, false, false, false, false]) rfl (by kernel_rfl) (s_callP hS (.cons rfl (.cons rfl .nil)) cf46 rfl (PureC.of_below (Add_w (sgB (minus s.data.toList) (10 * dv (d.data.toList.take k))) _ hf2 hsf _)) ?_); clear hS a; (try clear w); intro a w hS
            rw [sg_step, ← hs1] at hS
            refine Z_and hS (sub_cons (by repeat constructor) sub_nil) ?_
            refine Z_take0 (i := 4) hS rfl want_none (e_move rfl) (listed' := [true, true, true, true, true, false, false, false, false]) rfl (by kernel_rfl) (by kernel_rfl) (by kernel_rfl) (fun _ _ _ h => h) rfl ?_; clear hS a; intro a hS
            refine Z_take0 (i := 5) hS rfl want_none (e_extract rfl rfl) (listed' := [true, true, true, true, true, true, false, false, false]) rfl (by kernel_rfl) (by kernel_rfl) (by kernel_rfl) (fun _ _ _ h => h) rfl ?_; clear hS a; intro a hS
            refine Z_take0 (i := 6) hS rfl want_none (e_extract rfl rfl) (listed' := [true, true, true, true, true, true, true, false, false]) rfl (by kernel_rfl) (by kernel_rfl) (by kernel_rfl) (fun _ _ _ h => h) rfl ?_; clear hS a; intro a hS
            refine Z_one (i := 7) rfl (want_none a hS.sl) (listed' := [true, true, true, true, true, true, true, true, false]) rfl (by kernel_rfl) (s_storeA hS rfl rfl ty_sz60 (by repeat constructor) (by rfl) (by rfl) (by rfl) ?_); clear hS; (try clear w); intro w hS
            refine Z_and hS (sub_cons (by repeat constructor) sub_nil) ?_
            refine Z_take0 (i := 8) hS rfl want_none (e_assign rfl) (listed' := [true, true, true, true, true, true, true, true, true]) rfl (by kernel_rfl) (by kernel_rfl) (by kernel_rfl) (fun _ _ _ h => h) rfl ?_; clear hS a; intro a hS
            refine Z_done (by kernel_rfl) ?_
            refine n_then ?_
            refine c_seq ?_
            refine c_region ?_
            refine L_op (s_e hS (e_move rfl) rfl ?_); clear hS a; intro a hS
            refine L_op (s_e hS (e_bin rfl rfl rfl) rfl ?_); clear hS a; intro a hS
            refine L_nil ?_
            refine n_then ?_
            first | refine c_ifD hS rfl (fun hc73 => ?_) (fun hc73 => ?_) | refine c_if hS rfl (fun hc73 => ?_) (fun hc73 => ?_)
            ·
              have hnf : ¬ Wd.fit (numVal s.data.toList) := by
                rw [hnum, ← hdl]
                exact not_fit_of hle (fun h => hc73 (Wd.er_of h))
              refine c_seq ?_
              refine c_region ?_
              refine L_op (s_e hS (e_build ty_z60 ty_pl60 .nil) rfl ?_); clear hS a; intro a hS
              refine L_op (s_storeA hS rfl rfl ty_sz60 (by repeat constructor) (by rfl) (by rfl) (by rfl) ?_); clear hS; (try clear w); intro w hS
              refine L_op (s_e hS (e_assign rfl) rfl ?_); clear hS a; intro a hS
              refine L_nil ?_
              refine n_then ?_
              refine wp_ret ?_
              refine r_block (r_then (r_then (r_block (r_then ?_))))
              refine c_retN hS Try.results30 (.cons (.cellA rfl (by repeat constructor) ty_st60 ty_sz60 (by rfl)) (.cons (.tmp rfl) .nil)) rfl ?_
              exact ⟨by unfold parseV parseE; rw [if_pos hF, if_pos hF, if_neg hnf, Wd.tr_no hnf, wV_nil], hS.chg⟩
            ·
              have hf3 : Wd.fit (sgB (minus s.data.toList) (dv (d.data.toList.take (k + 1)))) := by
                by_cases h : Wd.fit (sgB (minus s.data.toList) (dv (d.data.toList.take (k + 1))))
                · exact h
                · rw [Wd.er_no h] at hc73; simp at hc73
              rw [Wd.tr_of hf3] at hS
              refine wp_skip ?_
              refine n_block ?_
              refine n_then ?_
              refine c_region ?_
              refine L_op (s_e hS (e_move rfl) rfl ?_); clear hS a; intro a hS
              first | (refine L_op (s_e hS (e_binN rfl rfl rfl (by omega)) rfl ?_); clear hS a; intro a hS) | (refine L_op (s_e hS (e_bin rfl rfl rfl) rfl ?_); clear hS a; intro a hS)
              refine L_op (s_e hS (e_assign rfl) rfl ?_); clear hS a; intro a hS
              refine L_nil ?_
              exact ⟨k + 1, by omega, (hS.slots (by repeat (first | exact trivial | refine ⟨rfl, ?_⟩))).pick (by repeat (first | exact Pick.nil | (refine Pick.cons (by repeat (first | exact Rem.head | apply Rem.tail)) ?_))), by omega, hf3⟩
      ·
        obtain rfl : k = d.size := by omega
        rw [List.take_of_length_le (by omega), hdl, ← hnum] at hfit hS
        refine wp_exit ?_
        refine x_then (x_then (x_hit ?_))
        refine n_then ?_
        refine c_seq ?_
        refine c_region ?_
        refine L_op (s_e hS (e_loadA rfl (by repeat constructor) ty_st60 ty_sz60 (by rfl)) rfl ?_); clear hS a; intro a hS
        refine L_op (s_storeA hS rfl rfl ty_sz60 (by repeat constructor) (by rfl) (by rfl) (by rfl) ?_); clear hS; (try clear w); intro w hS
        refine L_op (s_e hS (e_assign rfl) rfl ?_); clear hS a; intro a hS
        refine L_nil ?_
        refine n_then ?_
        refine wp_ret ?_
        refine c_retN hS Try.results30 (.cons (.cellA rfl (by repeat constructor) ty_st60 ty_sz60 (by rfl)) (.cons (.tmp rfl) .nil)) rfl ?_
        exact ⟨by unfold parseV parseE; rw [if_pos hF, if_pos hF, if_pos hfit, Wd.tr_of hfit]; rfl, hS.chg⟩
end Go.Proofs.Ytfiaobhkhedpiaa
