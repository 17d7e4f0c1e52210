/- The reference's Check, walked. -/
import Derived.Test.YtfiaobhkhedpiaaRB3
namespace Go.Proofs.Ytfiaobhkhedpiaa
open Go.RowKit

theorem scale_err (s : ByteArray) : (scaleR s).2 = 0 ∨ (scaleR s).2 = 18 := by unfold scaleR; split <;> simp
set_option maxRecDepth 100000 in
theorem xCheck_P (bw : Nat) (sv : Value) (its : List IA) (account cur : ByteArray) (at_ f t : Int) (p : Option (Nat × Nat)) (c : Nat) (l : List RLine) (hs : account.size ≤ 4611686018427387904) (hn : its.length ≤ 1000000) (hfit : ∀ x ∈ l, x.fits)
    (w0 : World) (h : rbφ bw sv its w0) (hrow : RowP p 4 (l.map encL) w0) (hb : ∀ q, p = some q → q.1 < w0.heap.size) (hd : ∀ q, p = some q → ¬ rbF bw sv its q.1) :
    PureC Try.prog 101 [.pointer (some ⟨bw, 0, none⟩), .string account, .string cur, .int .i64 at_, .int .i64 f, .int .i64 t, sliceV p l.length c] w0 (.int .i64 (issE (vs its) account cur at_ f t l)) := by
  obtain ⟨q, cq, rfl, hsh⟩ := rb_shape h
  have hse := scale_err cur
  have hrn := refS_neg cur
  have hvl := vs_len its
  refine c_enter [(0, .pointer (some ⟨bw, 0, none⟩)), (1, .string account), (2, .string cur), (3, .int .i64 at_), (4, .int .i64 f), (5, .int .i64 t), (6, sliceV p l.length c)] [rbA bw (.slice q its.length cq) its false, rowP p 4 (l.map encL)] noB Try.func101 rfl Try.ntmps101 ⟨rfl, rfl, rfl, rfl, rfl, rfl, rfl, trivial⟩ rfl (okC (rb_ok false h) (okC (ok_rowP hrow hb) okN)) (disC (sepC (fun b h1 h2 => by obtain ⟨o, ho⟩ := h2; exact hd _ ho h1) sepN) dis1) (mineC (by rfl) (mineC (by rfl) mineN)) ?_
  intro a hS
  refine c_seq ?_
  refine c_region ?_
  refine L_op (s_e hS (e_assign rfl) rfl ?_); clear hS a; intro a hS
  refine L_nil ?_
  refine n_then ?_
  refine c_seq ?_
  refine c_region ?_
  refine L_op (s_e hS (e_move rfl) rfl ?_); clear hS a; intro a hS
  refine L_op (s_callP hS (.cons rfl .nil) cf117 rfl (xValidName_P account hs _) ?_); clear hS a; (try clear w); intro a w hS
  refine L_op (s_e hS (e_assign rfl) rfl ?_); clear hS a; intro a hS
  refine L_nil ?_
  refine n_then ?_
  refine c_seq ?_
  refine c_seq ?_
  refine c_region ?_
  refine L_op (s_e hS (e_move rfl) rfl ?_); clear hS a; intro a hS
  refine L_op (s_e hS (e_not rfl) rfl ?_); clear hS a; intro a hS
  refine L_nil ?_
  refine n_then ?_
  first | refine c_ifD hS rfl (fun hc24 => ?_) (fun hc24 => ?_) | refine c_if hS rfl (fun hc24 => ?_) (fun hc24 => ?_)
  ·
    refine c_seq ?_
    refine c_region ?_
    refine L_op (s_e hS (e_assign rfl) rfl ?_); clear hS a; intro a hS
    refine L_nil ?_
    refine n_then ?_
    refine wp_ret ?_
    refine r_then ?_
    refine c_ret1 hS Try.results101 (.tmp rfl) ?_
    have hv : ¬ ValidN account.data.toList := by simpa using hc24
    have e : askE account cur at_ f t l.length (vs its).length = 1 := by unfold askE; rw [if_pos hv]
    exact ⟨by unfold issE; rw [e, if_pos (by decide)], hS.chg⟩
  ·
    refine wp_skip ?_
    refine n_then ?_
    refine c_seq ?_
    refine c_seq ?_
    refine c_region ?_
    refine L_op (s_e hS (e_move rfl) rfl ?_); clear hS a; intro a hS
    refine L_op (s_callP hS (.cons rfl .nil) cf118 rfl (xScale_P cur _) ?_); clear hS a; (try clear w); intro a w hS
    refine L_op (s_e hS (e_bin rfl rfl rfl) rfl ?_); clear hS a; intro a hS
    refine L_nil ?_
    refine n_then ?_
    first | refine c_ifD hS rfl (fun hc27 => ?_) (fun hc27 => ?_) | refine c_if hS rfl (fun hc27 => ?_) (fun hc27 => ?_)
    ·
      refine c_seq ?_
      refine c_region ?_
      refine L_op (s_e hS (e_assign rfl) rfl ?_); clear hS a; intro a hS
      refine L_nil ?_
      refine n_then ?_
      refine wp_ret ?_
      refine r_then ?_
      refine c_ret1 hS Try.results101 (.tmp rfl) ?_
      have hv : ¬ ¬ ValidN account.data.toList := by simpa using hc24
      have e : askE account cur at_ f t l.length (vs its).length = 18 := by unfold askE; rw [if_neg hv, if_pos (hrn.1 hc27)]; exact hse.resolve_left (hrn.1 hc27)
      exact ⟨by unfold issE; rw [e, if_pos (by decide)], hS.chg⟩
    ·
      refine wp_skip ?_
      refine n_then ?_
      refine c_seq ?_
      refine c_seq ?_
      refine c_region ?_
      refine L_op (s_e hS (e_move rfl) rfl ?_); clear hS a; intro a hS
      refine L_op (s_callP hS (.cons rfl .nil) cf119 rfl (xInstant_P at_ _) ?_); clear hS a; (try clear w); intro a w hS
      refine L_op (s_e hS (e_not rfl) rfl ?_); clear hS a; intro a hS
      refine L_op (s_e hS (e_move rfl) rfl ?_); clear hS a; intro a hS
      refine L_merge 4 35 (.bool (decide (¬ inst at_ ∨ ¬ inst f))) hS ?_ ?_
      · intro hcM35
        (first | refine g_splitD (t := 31) hS rfl ?_ ?_ | refine g_split (t := 31) hS rfl ?_ ?_) <;> (clear hS; intro hg31 hS)
        ·
          refine L_skip_f hS rfl rfl rfl ?_; clear hS a; intro a hS
          refine L_skip_f hS rfl rfl rfl ?_; clear hS a; intro a hS
          refine L_skip_f hS rfl rfl rfl ?_; clear hS a; intro a hS
          first | (refine L_op (s_e hS (e_pick_t rfl rfl) rfl ?_); clear hS a; intro a hS) | (refine L_op (s_e hS (e_pick_f rfl rfl) rfl ?_); clear hS a; intro a hS)
          exact hcM35 _ _ (hS.ends 5 35 31 rfl (congrArg Value.bool (by simp at hg31; simp [hg31])) rfl rfl (by first | exact congrArg Value.bool (decide_eq_true hg31).symm | exact congrArg Value.bool hg31.symm | simp [hg31]) rfl)
        ·
          refine L_go hS rfl rfl (s_e hS (e_move rfl) rfl ?_); clear hS a; intro a hS
          refine L_go hS rfl rfl (s_callP hS (.cons rfl .nil) cf119 rfl (xInstant_P f _) ?_); clear hS a; (try clear w); intro a w hS
          refine L_go hS rfl rfl (s_e hS (e_not rfl) rfl ?_); clear hS a; intro a hS
          first | (refine L_op (s_e hS (e_pick_t rfl rfl) rfl ?_); clear hS a; intro a hS) | (refine L_op (s_e hS (e_pick_f rfl rfl) rfl ?_); clear hS a; intro a hS)
          exact hcM35 _ _ (hS.ends 5 35 31 rfl (congrArg Value.bool (by simp at hg31; simp [hg31])) rfl rfl (by first | exact congrArg Value.bool (decide_eq_false hg31).symm | exact congrArg Value.bool hg31.symm | simp [hg31]) rfl)
      · clear hS a; (try clear w); intro a w hS
        simp only [List.drop_succ_cons, List.drop_zero]
        refine L_op (s_e hS (e_move rfl) rfl ?_); clear hS a; intro a hS
        refine L_merge 4 40 (.bool (decide ((¬ inst at_ ∨ ¬ inst f) ∨ t ≤ f))) hS ?_ ?_
        · intro hcM40
          (first | refine g_splitD (t := 36) hS rfl ?_ ?_ | refine g_split (t := 36) hS rfl ?_ ?_) <;> (clear hS; intro hg36 hS)
          ·
            refine L_skip_f hS rfl rfl rfl ?_; clear hS a; intro a hS
            refine L_skip_f hS rfl rfl rfl ?_; clear hS a; intro a hS
            refine L_skip_f hS rfl rfl rfl ?_; clear hS a; intro a hS
            first | (refine L_op (s_e hS (e_pick_t rfl rfl) rfl ?_); clear hS a; intro a hS) | (refine L_op (s_e hS (e_pick_f rfl rfl) rfl ?_); clear hS a; intro a hS)
            exact hcM40 _ _ (hS.ends 5 40 36 rfl (congrArg Value.bool (by exact (decide_eq_true (.inl hg36)).symm)) rfl rfl (by first | exact congrArg Value.bool (decide_eq_true hg36).symm | exact congrArg Value.bool hg36.symm | simp [hg36]) rfl)
          ·
            refine L_go hS rfl rfl (s_e hS (e_move rfl) rfl ?_); clear hS a; intro a hS
            refine L_go hS rfl rfl (s_e hS (e_move rfl) rfl ?_); clear hS a; intro a hS
            refine L_go hS rfl rfl (s_e hS (e_bin rfl rfl rfl) rfl ?_); clear hS a; intro a hS
            first | (refine L_op (s_e hS (e_pick_t rfl rfl) rfl ?_); clear hS a; intro a hS) | (refine L_op (s_e hS (e_pick_f rfl rfl) rfl ?_); clear hS a; intro a hS)
            exact hcM40 _ _ (hS.ends 5 40 36 rfl (congrArg Value.bool (by simp [hg36])) rfl rfl (by first | exact congrArg Value.bool (decide_eq_false hg36).symm | exact congrArg Value.bool hg36.symm | simp [hg36]) rfl)
        · clear hS a; (try clear w); intro a w hS
          simp only [List.drop_succ_cons, List.drop_zero]
          refine L_op (s_e hS (e_move rfl) rfl ?_); clear hS a; intro a hS
          refine L_merge 3 44 (.bool (decide (((¬ inst at_ ∨ ¬ inst f) ∨ t ≤ f) ∨ 1099511627776 < t))) hS ?_ ?_
          · intro hcM44
            (first | refine g_splitD (t := 41) hS rfl ?_ ?_ | refine g_split (t := 41) hS rfl ?_ ?_) <;> (clear hS; intro hg41 hS)
            ·
              refine L_skip_f hS rfl rfl rfl ?_; clear hS a; intro a hS
              refine L_skip_f hS rfl rfl rfl ?_; clear hS a; intro a hS
              first | (refine L_op (s_e hS (e_pick_t rfl rfl) rfl ?_); clear hS a; intro a hS) | (refine L_op (s_e hS (e_pick_f rfl rfl) rfl ?_); clear hS a; intro a hS)
              exact hcM44 _ _ (hS.ends 4 44 41 rfl (congrArg Value.bool (by exact (decide_eq_true (.inl hg41)).symm)) rfl rfl (by first | exact congrArg Value.bool (decide_eq_true hg41).symm | exact congrArg Value.bool hg41.symm | simp [hg41]) rfl)
            ·
              refine L_go hS rfl rfl (s_e hS (e_move rfl) rfl ?_); clear hS a; intro a hS
              refine L_go hS rfl rfl (s_e hS (e_bin rfl rfl rfl) rfl ?_); clear hS a; intro a hS
              first | (refine L_op (s_e hS (e_pick_t rfl rfl) rfl ?_); clear hS a; intro a hS) | (refine L_op (s_e hS (e_pick_f rfl rfl) rfl ?_); clear hS a; intro a hS)
              exact hcM44 _ _ (hS.ends 4 44 41 rfl (congrArg Value.bool (by simp [hg41])) rfl rfl (by first | exact congrArg Value.bool (decide_eq_false hg41).symm | exact congrArg Value.bool hg41.symm | simp [hg41]) rfl)
          · clear hS a; (try clear w); intro a w hS
            simp only [List.drop_succ_cons, List.drop_zero]
            refine L_nil ?_
            refine n_then ?_
            first | refine c_ifD hS rfl (fun hc44 => ?_) (fun hc44 => ?_) | refine c_if hS rfl (fun hc44 => ?_) (fun hc44 => ?_)
            ·
              have hv : ¬ ¬ ValidN account.data.toList := by simpa using hc24
              have e : askE account cur at_ f t l.length (vs its).length = 6 := by
                unfold askE; rw [if_neg hv, if_neg (fun hh => hc27 (hrn.2 hh)), if_pos (by rcases hc44 with ((h1 | h1) | h1) | h1; exact .inl h1; exact .inr (.inl h1); exact .inr (.inr (.inl h1)); exact .inr (.inr (.inr h1)))]
              refine c_seq ?_
              refine c_region ?_
              refine L_op (s_e hS (e_assign rfl) rfl ?_); clear hS a; intro a hS
              refine L_nil ?_
              refine n_then ?_
              refine wp_ret ?_
              refine r_then ?_
              refine c_ret1 hS Try.results101 (.tmp rfl) ?_
              exact ⟨by unfold issE; rw [e, if_pos (by decide)], hS.chg⟩
            ·
              have hv : ¬ ¬ ValidN account.data.toList := by simpa using hc24
              have e : askE account cur at_ f t l.length (vs its).length = if (l.length : Int) < 1 ∨ 50 < (l.length : Int) ∨ 500 ≤ ((vs its).length : Int) then 9 else 0 := by
                unfold askE; rw [if_neg hv, if_neg (fun hh => hc27 (hrn.2 hh)), if_neg (by rintro (h1 | h1 | h1 | h1); exact hc44 (.inl (.inl (.inl h1))); exact hc44 (.inl (.inl (.inr h1))); exact hc44 (.inl (.inr h1)); exact hc44 (.inr h1))]
              refine wp_skip ?_
              refine n_then ?_
              refine c_seq ?_
              refine c_seq ?_
              refine c_region ?_
              refine L_op (s_e hS (e_move rfl) rfl ?_); clear hS a; intro a hS
              refine L_op (s_e hS (e_len rfl rfl ty_sl112) rfl ?_); clear hS a; intro a hS
              refine L_op (s_e hS (e_bin rfl rfl rfl) rfl ?_); clear hS a; intro a hS
              refine L_op (s_e hS (e_move rfl) rfl ?_); clear hS a; intro a hS
              refine L_merge 4 52 (.bool (decide (l.length = 0 ∨ 50 < l.length))) hS ?_ ?_
              · intro hcM52
                (first | refine g_splitD (t := 48) hS rfl ?_ ?_ | refine g_split (t := 48) hS rfl ?_ ?_) <;> (clear hS; intro hg48 hS)
                ·
                  refine L_skip_f hS rfl rfl rfl ?_; clear hS a; intro a hS
                  refine L_skip_f hS rfl rfl rfl ?_; clear hS a; intro a hS
                  refine L_skip_f hS rfl rfl rfl ?_; clear hS a; intro a hS
                  first | (refine L_op (s_e hS (e_pick_t rfl rfl) rfl ?_); clear hS a; intro a hS) | (refine L_op (s_e hS (e_pick_f rfl rfl) rfl ?_); clear hS a; intro a hS)
                  exact hcM52 _ _ (hS.ends 5 52 48 rfl (congrArg Value.bool (by symm; rw [decide_eq_true_eq]; omega)) rfl rfl (by first | exact congrArg Value.bool (decide_eq_true hg48).symm | exact congrArg Value.bool hg48.symm | simp [hg48]) rfl)
                ·
                  refine L_go hS rfl rfl (s_e hS (e_move rfl) rfl ?_); clear hS a; intro a hS
                  refine L_go hS rfl rfl (s_e hS (e_len rfl rfl ty_sl112) rfl ?_); clear hS a; intro a hS
                  refine L_go hS rfl rfl (s_e hS (e_bin rfl rfl rfl) rfl ?_); clear hS a; intro a hS
                  first | (refine L_op (s_e hS (e_pick_t rfl rfl) rfl ?_); clear hS a; intro a hS) | (refine L_op (s_e hS (e_pick_f rfl rfl) rfl ?_); clear hS a; intro a hS)
                  exact hcM52 _ _ (hS.ends 5 52 48 rfl (congrArg Value.bool (by rw [decide_eq_decide]; omega)) rfl rfl (by first | exact congrArg Value.bool (decide_eq_false hg48).symm | exact congrArg Value.bool hg48.symm | simp [hg48]) rfl)
              · clear hS a; (try clear w); intro a w hS
                simp only [List.drop_succ_cons, List.drop_zero]
                refine L_op (s_e hS (e_move rfl) rfl ?_); clear hS a; intro a hS
                refine L_merge 7 60 (.bool (decide ((l.length = 0 ∨ 50 < l.length) ∨ 500 ≤ its.length))) hS ?_ ?_
                · intro hcM60
                  (first | refine g_splitD (t := 53) hS rfl ?_ ?_ | refine g_split (t := 53) hS rfl ?_ ?_) <;> (clear hS; intro hg53 hS)
                  ·
                    refine L_skip_f hS rfl rfl rfl ?_; clear hS a; intro a hS
                    refine L_skip_f hS rfl rfl rfl ?_; clear hS a; intro a hS
                    refine L_skip_f hS rfl rfl rfl ?_; clear hS a; intro a hS
                    refine L_skip_f hS rfl rfl rfl ?_; clear hS a; intro a hS
                    refine L_skip_f hS rfl rfl rfl ?_; clear hS a; intro a hS
                    refine L_skip_f hS rfl rfl rfl ?_; clear hS a; intro a hS
                    first | (refine L_op (s_e hS (e_pick_t rfl rfl) rfl ?_); clear hS a; intro a hS) | (refine L_op (s_e hS (e_pick_f rfl rfl) rfl ?_); clear hS a; intro a hS)
                    exact hcM60 _ _ (hS.ends 8 60 53 rfl (congrArg Value.bool (by exact (decide_eq_true (.inl hg53)).symm)) rfl rfl (by first | exact congrArg Value.bool (decide_eq_true hg53).symm | exact congrArg Value.bool hg53.symm | simp [hg53]) rfl)
                  ·
                    refine L_go hS rfl rfl (s_e hS (e_move rfl) rfl ?_); clear hS a; intro a hS
                    refine L_go hS rfl rfl (s_e hS (e_nilCheck rfl) rfl ?_); clear hS a; intro a hS
                    first | (refine L_go hS rfl rfl (s_e hS (e_fa0 rfl ty_fo56_0) rfl ?_); clear hS a; intro a hS) | (refine L_go hS rfl rfl (s_e hS (e_faK rfl ty_fo56_0) rfl ?_); clear hS a; intro a hS)
                    refine L_go hS rfl rfl (s_e hS (e_loadC rfl ty_sc54 (rrd_bk (by repeat constructor))) rfl ?_); clear hS a; intro a hS
                    refine L_go hS rfl rfl (s_e hS (e_len rfl rfl ty_sl54) rfl ?_); clear hS a; intro a hS
                    refine L_go hS rfl rfl (s_e hS (e_bin rfl rfl rfl) rfl ?_); clear hS a; intro a hS
                    first | (refine L_op (s_e hS (e_pick_t rfl rfl) rfl ?_); clear hS a; intro a hS) | (refine L_op (s_e hS (e_pick_f rfl rfl) rfl ?_); clear hS a; intro a hS)
                    exact hcM60 _ _ (hS.ends 8 60 53 rfl (congrArg Value.bool (by rw [decide_eq_decide]; constructor; exact fun h => .inr (by omega); exact fun h => h.elim (fun h1 => absurd h1 hg53) (fun h1 => by omega))) rfl rfl (by first | exact congrArg Value.bool (decide_eq_false hg53).symm | exact congrArg Value.bool hg53.symm | simp [hg53]) rfl)
                · clear hS a; (try clear w); intro a w hS
                  simp only [List.drop_succ_cons, List.drop_zero]
                  refine L_nil ?_
                  refine n_then ?_
                  first | refine c_ifD hS rfl (fun hc60 => ?_) (fun hc60 => ?_) | refine c_if hS rfl (fun hc60 => ?_) (fun hc60 => ?_)
                  ·
                    rw [if_pos (by omega)] at e
                    refine c_seq ?_
                    refine c_region ?_
                    refine L_op (s_e hS (e_assign rfl) rfl ?_); clear hS a; intro a hS
                    refine L_nil ?_
                    refine n_then ?_
                    refine wp_ret ?_
                    refine r_then ?_
                    refine c_ret1 hS Try.results101 (.tmp rfl) ?_
                    exact ⟨by unfold issE; rw [e, if_pos (by decide)], hS.chg⟩
                  ·
                    rw [if_neg (by omega)] at e
                    have hE : issE (vs its) account cur at_ f t l = if firstErr l ≠ 0 then firstErr l else if (sumR l).2.2 ≠ 0 then (sumR l).2.2 else if (vs its).filter (billedB account f t) ≠ [] then 3 else 0 := by
                      unfold issE; rw [e, if_neg (by decide)]
                    rw [hE]
                    refine wp_skip ?_
                    refine n_then ?_
                    refine c_seq ?_
                    refine c_seq ?_
                    refine c_region ?_
                    refine L_op (s_e hS (e_assign rfl) rfl ?_); clear hS a; intro a hS
                    refine L_nil ?_
                    refine n_then ?_
                    refine wp_block ?_
                    skip
                    refine c_loop (γ := Nat) (fun k a w => St 127 noB w0 a w [(16, .int .i64 (k : Int)), (0, .pointer (some ⟨bw, 0, none⟩)), (1, .string account), (4, .int .i64 f), (5, .int .i64 t), (6, sliceV p l.length c)] [rbA bw (.slice q its.length cq) its false, rowP p 4 (l.map encL)] ∧ k ≤ l.length ∧ ∀ j, j < k → ∀ y, l[j]? = some y → lineErr y = 0) (fun k => l.length - k) 0 ⟨hS.slots (by repeat (first | exact trivial | refine ⟨rfl, ?_⟩)), Nat.zero_le _, fun j hj => by omega⟩ ?_
                    clear hS a; (try clear w); intro k a w hI
                    obtain ⟨hS, hk, hno⟩ := hI
                    refine c_seq ?_
                    refine c_seq ?_
                    refine c_region ?_
                    refine L_op (s_e hS (e_move rfl) rfl ?_); clear hS a; intro a hS
                    refine L_op (s_e hS (e_move rfl) rfl ?_); clear hS a; intro a hS
                    refine L_op (s_e hS (e_len rfl rfl ty_sl112) rfl ?_); clear hS a; intro a hS
                    refine L_op (s_e hS (e_bin rfl rfl rfl) rfl ?_); clear hS a; intro a hS
                    refine L_nil ?_
                    refine n_then ?_
                    first | refine c_ifD hS rfl (fun hc64 => ?_) (fun hc64 => ?_) | refine c_if hS rfl (fun hc64 => ?_) (fun hc64 => ?_)
                    ·
                      obtain ⟨x, hx⟩ : ∃ x, l[k]? = some x := ⟨l[k]'(by omega), List.getElem?_eq_getElem (by omega)⟩
                      have hx' : (l.map encL)[k]? = some (encL x) := by simp [hx]
                      obtain ⟨br, off, rfl⟩ := rowP_some hrow hx'
                      have hxf := fits_get hfit hx
                      refine wp_skip ?_
                      refine n_then ?_
                      refine c_seq ?_
                      refine wp_block ?_
                      refine c_seq ?_
                      refine c_region ?_
                      refine L_op (s_e hS (e_move rfl) rfl ?_); clear hS a; intro a hS
                      refine L_op (s_e hS (e_move rfl) rfl ?_); clear hS a; intro a hS
                      refine L_op (s_e hS (e_ixN rfl rfl ty_sl112 ty_sz148 (by omega)) rfl ?_); clear hS a; intro a hS
                      first | (refine L_op (s_e hS (e_fa0 rfl ty_fo148_0) rfl ?_); clear hS a; intro a hS) | (refine L_op (s_e hS (e_faK rfl ty_fo148_0) rfl ?_); clear hS a; intro a hS)
                      refine L_op (s_e hS (e_loadC rfl ty_sc9 (fun w hh => rowP_get (by repeat constructor) hx' w hh 0 (.string x.meter) rfl)) rfl ?_); clear hS a; intro a hS
                      refine L_op (s_callP hS (.cons rfl .nil) cf117 rfl (xValidName_P x.meter hxf.1 _) ?_); clear hS a; (try clear w); intro a w hS
                      refine L_op (s_e hS (e_assign rfl) rfl ?_); clear hS a; intro a hS
                      refine L_nil ?_
                      refine n_then ?_
                      refine c_seq ?_
                      refine c_seq ?_
                      refine c_region ?_
                      refine L_op (s_e hS (e_move rfl) rfl ?_); clear hS a; intro a hS
                      refine L_op (s_e hS (e_not rfl) rfl ?_); clear hS a; intro a hS
                      refine L_nil ?_
                      refine n_then ?_
                      first | refine c_ifD hS rfl (fun hc74 => ?_) (fun hc74 => ?_) | refine c_if hS rfl (fun hc74 => ?_) (fun hc74 => ?_)
                      ·
                        refine c_seq ?_
                        refine c_region ?_
                        refine L_op (s_e hS (e_assign rfl) rfl ?_); clear hS a; intro a hS
                        refine L_nil ?_
                        refine n_then ?_
                        refine wp_ret ?_
                        refine r_then (r_block (r_then (r_then (r_block (r_then ?_)))))
                        refine c_ret1 hS Try.results101 (.tmp rfl) ?_
                        have hv : ¬ ValidN x.meter.data.toList := by simpa using hc74
                        have e2 : lineErr x = 1 := by unfold lineErr; rw [if_pos hv]
                        exact ⟨by rw [firstErr_at hx (by rw [e2]; decide) hno, e2, if_pos (by decide)], hS.chg⟩
                      ·
                        refine wp_skip ?_
                        refine n_then ?_
                        refine c_seq ?_
                        refine c_region ?_
                        refine L_op (s_e hS (e_move rfl) rfl ?_); clear hS a; intro a hS
                        refine L_op (s_e hS (e_move rfl) rfl ?_); clear hS a; intro a hS
                        refine L_op (s_e hS (e_ixN rfl rfl ty_sl112 ty_sz148 (by omega)) rfl ?_); clear hS a; intro a hS
                        first | (refine L_op (s_e hS (e_fa0 rfl ty_fo148_1) rfl ?_); clear hS a; intro a hS) | (refine L_op (s_e hS (e_faK rfl ty_fo148_1) rfl ?_); clear hS a; intro a hS)
                        refine L_op (s_e hS (e_loadC rfl ty_sc3 (fun w hh => rowP_get (by repeat constructor) hx' w hh 1 (.int .i64 x.qty) rfl)) rfl ?_); clear hS a; intro a hS
                        refine L_op (s_e hS (e_bin rfl rfl rfl) rfl ?_); clear hS a; intro a hS
                        refine L_op (s_e hS (e_move rfl) rfl ?_); clear hS a; intro a hS
                        refine L_merge 7 88 (.bool (decide (x.qty < 0 ∨ x.net < 0))) hS ?_ ?_
                        · intro hcM88
                          (first | refine g_splitD (t := 81) hS rfl ?_ ?_ | refine g_split (t := 81) hS rfl ?_ ?_) <;> (clear hS; intro hg81 hS)
                          ·
                            refine L_skip_f hS rfl rfl rfl ?_; clear hS a; intro a hS
                            refine L_skip_f hS rfl rfl rfl ?_; clear hS a; intro a hS
                            refine L_skip_f hS rfl rfl rfl ?_; clear hS a; intro a hS
                            refine L_skip_f hS rfl rfl rfl ?_; clear hS a; intro a hS
                            refine L_skip_f hS rfl rfl rfl ?_; clear hS a; intro a hS
                            refine L_skip_f hS rfl rfl rfl ?_; clear hS a; intro a hS
                            first | (refine L_op (s_e hS (e_pick_t rfl rfl) rfl ?_); clear hS a; intro a hS) | (refine L_op (s_e hS (e_pick_f rfl rfl) rfl ?_); clear hS a; intro a hS)
                            exact hcM88 _ _ (hS.ends 8 88 81 rfl (congrArg Value.bool (by exact (decide_eq_true (.inl hg81)).symm)) rfl rfl (by first | exact congrArg Value.bool (decide_eq_true hg81).symm | exact congrArg Value.bool hg81.symm | simp [hg81]) rfl)
                          ·
                            refine L_go hS rfl rfl (s_e hS (e_move rfl) rfl ?_); clear hS a; intro a hS
                            refine L_go hS rfl rfl (s_e hS (e_move rfl) rfl ?_); clear hS a; intro a hS
                            refine L_go hS rfl rfl (s_e hS (e_ixN rfl rfl ty_sl112 ty_sz148 (by omega)) rfl ?_); clear hS a; intro a hS
                            first | (refine L_go hS rfl rfl (s_e hS (e_fa0 rfl ty_fo148_2) rfl ?_); clear hS a; intro a hS) | (refine L_go hS rfl rfl (s_e hS (e_faK rfl ty_fo148_2) rfl ?_); clear hS a; intro a hS)
                            refine L_go hS rfl rfl (s_e hS (e_loadC rfl ty_sc3 (fun w hh => rowP_get (by repeat constructor) hx' w hh 2 (.int .i64 x.net) rfl)) rfl ?_); clear hS a; intro a hS
                            refine L_go hS rfl rfl (s_e hS (e_bin rfl rfl rfl) rfl ?_); clear hS a; intro a hS
                            first | (refine L_op (s_e hS (e_pick_t rfl rfl) rfl ?_); clear hS a; intro a hS) | (refine L_op (s_e hS (e_pick_f rfl rfl) rfl ?_); clear hS a; intro a hS)
                            exact hcM88 _ _ (hS.ends 8 88 81 rfl (congrArg Value.bool (by simp [hg81])) rfl rfl (by first | exact congrArg Value.bool (decide_eq_false hg81).symm | exact congrArg Value.bool hg81.symm | simp [hg81]) rfl)
                        · clear hS a; (try clear w); intro a w hS
                          simp only [List.drop_succ_cons, List.drop_zero]
                          refine L_op (s_e hS (e_move rfl) rfl ?_); clear hS a; intro a hS
                          refine L_merge 7 96 (.bool (decide ((x.qty < 0 ∨ x.net < 0) ∨ 4611686018427387904 < x.net))) hS ?_ ?_
                          · intro hcM96
                            (first | refine g_splitD (t := 89) hS rfl ?_ ?_ | refine g_split (t := 89) hS rfl ?_ ?_) <;> (clear hS; intro hg89 hS)
                            ·
                              refine L_skip_f hS rfl rfl rfl ?_; clear hS a; intro a hS
                              refine L_skip_f hS rfl rfl rfl ?_; clear hS a; intro a hS
                              refine L_skip_f hS rfl rfl rfl ?_; clear hS a; intro a hS
                              refine L_skip_f hS rfl rfl rfl ?_; clear hS a; intro a hS
                              refine L_skip_f hS rfl rfl rfl ?_; clear hS a; intro a hS
                              refine L_skip_f hS rfl rfl rfl ?_; clear hS a; intro a hS
                              first | (refine L_op (s_e hS (e_pick_t rfl rfl) rfl ?_); clear hS a; intro a hS) | (refine L_op (s_e hS (e_pick_f rfl rfl) rfl ?_); clear hS a; intro a hS)
                              exact hcM96 _ _ (hS.ends 8 96 89 rfl (congrArg Value.bool (by exact (decide_eq_true (.inl hg89)).symm)) rfl rfl (by first | exact congrArg Value.bool (decide_eq_true hg89).symm | exact congrArg Value.bool hg89.symm | simp [hg89]) rfl)
                            ·
                              refine L_go hS rfl rfl (s_e hS (e_move rfl) rfl ?_); clear hS a; intro a hS
                              refine L_go hS rfl rfl (s_e hS (e_move rfl) rfl ?_); clear hS a; intro a hS
                              refine L_go hS rfl rfl (s_e hS (e_ixN rfl rfl ty_sl112 ty_sz148 (by omega)) rfl ?_); clear hS a; intro a hS
                              first | (refine L_go hS rfl rfl (s_e hS (e_fa0 rfl ty_fo148_2) rfl ?_); clear hS a; intro a hS) | (refine L_go hS rfl rfl (s_e hS (e_faK rfl ty_fo148_2) rfl ?_); clear hS a; intro a hS)
                              refine L_go hS rfl rfl (s_e hS (e_loadC rfl ty_sc3 (fun w hh => rowP_get (by repeat constructor) hx' w hh 2 (.int .i64 x.net) rfl)) rfl ?_); clear hS a; intro a hS
                              refine L_go hS rfl rfl (s_e hS (e_bin rfl rfl rfl) rfl ?_); clear hS a; intro a hS
                              first | (refine L_op (s_e hS (e_pick_t rfl rfl) rfl ?_); clear hS a; intro a hS) | (refine L_op (s_e hS (e_pick_f rfl rfl) rfl ?_); clear hS a; intro a hS)
                              exact hcM96 _ _ (hS.ends 8 96 89 rfl (congrArg Value.bool (by simp [hg89])) rfl rfl (by first | exact congrArg Value.bool (decide_eq_false hg89).symm | exact congrArg Value.bool hg89.symm | simp [hg89]) rfl)
                          · clear hS a; (try clear w); intro a w hS
                            simp only [List.drop_succ_cons, List.drop_zero]
                            refine L_op (s_e hS (e_move rfl) rfl ?_); clear hS a; intro a hS
                            refine L_merge 7 104 (.bool (decide (((x.qty < 0 ∨ x.net < 0) ∨ 4611686018427387904 < x.net) ∨ x.tax < 0))) hS ?_ ?_
                            · intro hcM104
                              (first | refine g_splitD (t := 97) hS rfl ?_ ?_ | refine g_split (t := 97) hS rfl ?_ ?_) <;> (clear hS; intro hg97 hS)
                              ·
                                refine L_skip_f hS rfl rfl rfl ?_; clear hS a; intro a hS
                                refine L_skip_f hS rfl rfl rfl ?_; clear hS a; intro a hS
                                refine L_skip_f hS rfl rfl rfl ?_; clear hS a; intro a hS
                                refine L_skip_f hS rfl rfl rfl ?_; clear hS a; intro a hS
                                refine L_skip_f hS rfl rfl rfl ?_; clear hS a; intro a hS
                                refine L_skip_f hS rfl rfl rfl ?_; clear hS a; intro a hS
                                first | (refine L_op (s_e hS (e_pick_t rfl rfl) rfl ?_); clear hS a; intro a hS) | (refine L_op (s_e hS (e_pick_f rfl rfl) rfl ?_); clear hS a; intro a hS)
                                exact hcM104 _ _ (hS.ends 8 104 97 rfl (congrArg Value.bool (by exact (decide_eq_true (.inl hg97)).symm)) rfl rfl (by first | exact congrArg Value.bool (decide_eq_true hg97).symm | exact congrArg Value.bool hg97.symm | simp [hg97]) rfl)
                              ·
                                refine L_go hS rfl rfl (s_e hS (e_move rfl) rfl ?_); clear hS a; intro a hS
                                refine L_go hS rfl rfl (s_e hS (e_move rfl) rfl ?_); clear hS a; intro a hS
                                refine L_go hS rfl rfl (s_e hS (e_ixN rfl rfl ty_sl112 ty_sz148 (by omega)) rfl ?_); clear hS a; intro a hS
                                first | (refine L_go hS rfl rfl (s_e hS (e_fa0 rfl ty_fo148_3) rfl ?_); clear hS a; intro a hS) | (refine L_go hS rfl rfl (s_e hS (e_faK rfl ty_fo148_3) rfl ?_); clear hS a; intro a hS)
                                refine L_go hS rfl rfl (s_e hS (e_loadC rfl ty_sc3 (fun w hh => rowP_get (by repeat constructor) hx' w hh 3 (.int .i64 x.tax) rfl)) rfl ?_); clear hS a; intro a hS
                                refine L_go hS rfl rfl (s_e hS (e_bin rfl rfl rfl) rfl ?_); clear hS a; intro a hS
                                first | (refine L_op (s_e hS (e_pick_t rfl rfl) rfl ?_); clear hS a; intro a hS) | (refine L_op (s_e hS (e_pick_f rfl rfl) rfl ?_); clear hS a; intro a hS)
                                exact hcM104 _ _ (hS.ends 8 104 97 rfl (congrArg Value.bool (by simp [hg97])) rfl rfl (by first | exact congrArg Value.bool (decide_eq_false hg97).symm | exact congrArg Value.bool hg97.symm | simp [hg97]) rfl)
                            · clear hS a; (try clear w); intro a w hS
                              simp only [List.drop_succ_cons, List.drop_zero]
                              refine L_op (s_e hS (e_move rfl) rfl ?_); clear hS a; intro a hS
                              refine L_merge 7 112 (.bool (decide ((((x.qty < 0 ∨ x.net < 0) ∨ 4611686018427387904 < x.net) ∨ x.tax < 0) ∨ 4611686018427387904 < x.tax))) hS ?_ ?_
                              · intro hcM112
                                (first | refine g_splitD (t := 105) hS rfl ?_ ?_ | refine g_split (t := 105) hS rfl ?_ ?_) <;> (clear hS; intro hg105 hS)
                                ·
                                  refine L_skip_f hS rfl rfl rfl ?_; clear hS a; intro a hS
                                  refine L_skip_f hS rfl rfl rfl ?_; clear hS a; intro a hS
                                  refine L_skip_f hS rfl rfl rfl ?_; clear hS a; intro a hS
                                  refine L_skip_f hS rfl rfl rfl ?_; clear hS a; intro a hS
                                  refine L_skip_f hS rfl rfl rfl ?_; clear hS a; intro a hS
                                  refine L_skip_f hS rfl rfl rfl ?_; clear hS a; intro a hS
                                  first | (refine L_op (s_e hS (e_pick_t rfl rfl) rfl ?_); clear hS a; intro a hS) | (refine L_op (s_e hS (e_pick_f rfl rfl) rfl ?_); clear hS a; intro a hS)
                                  exact hcM112 _ _ (hS.ends 8 112 105 rfl (congrArg Value.bool (by exact (decide_eq_true (.inl hg105)).symm)) rfl rfl (by first | exact congrArg Value.bool (decide_eq_true hg105).symm | exact congrArg Value.bool hg105.symm | simp [hg105]) rfl)
                                ·
                                  refine L_go hS rfl rfl (s_e hS (e_move rfl) rfl ?_); clear hS a; intro a hS
                                  refine L_go hS rfl rfl (s_e hS (e_move rfl) rfl ?_); clear hS a; intro a hS
                                  refine L_go hS rfl rfl (s_e hS (e_ixN rfl rfl ty_sl112 ty_sz148 (by omega)) rfl ?_); clear hS a; intro a hS
                                  first | (refine L_go hS rfl rfl (s_e hS (e_fa0 rfl ty_fo148_3) rfl ?_); clear hS a; intro a hS) | (refine L_go hS rfl rfl (s_e hS (e_faK rfl ty_fo148_3) rfl ?_); clear hS a; intro a hS)
                                  refine L_go hS rfl rfl (s_e hS (e_loadC rfl ty_sc3 (fun w hh => rowP_get (by repeat constructor) hx' w hh 3 (.int .i64 x.tax) rfl)) rfl ?_); clear hS a; intro a hS
                                  refine L_go hS rfl rfl (s_e hS (e_bin rfl rfl rfl) rfl ?_); clear hS a; intro a hS
                                  first | (refine L_op (s_e hS (e_pick_t rfl rfl) rfl ?_); clear hS a; intro a hS) | (refine L_op (s_e hS (e_pick_f rfl rfl) rfl ?_); clear hS a; intro a hS)
                                  exact hcM112 _ _ (hS.ends 8 112 105 rfl (congrArg Value.bool (by simp [hg105])) rfl rfl (by first | exact congrArg Value.bool (decide_eq_false hg105).symm | exact congrArg Value.bool hg105.symm | simp [hg105]) rfl)
                              · clear hS a; (try clear w); intro a w hS
                                simp only [List.drop_succ_cons, List.drop_zero]
                                refine L_nil ?_
                                refine n_then ?_
                                first | refine c_ifD hS rfl (fun hc112 => ?_) (fun hc112 => ?_) | refine c_if hS rfl (fun hc112 => ?_) (fun hc112 => ?_)
                                ·
                                  refine c_seq ?_
                                  refine c_region ?_
                                  refine L_op (s_e hS (e_assign rfl) rfl ?_); clear hS a; intro a hS
                                  refine L_nil ?_
                                  refine n_then ?_
                                  refine wp_ret ?_
                                  refine r_block (r_then (r_then (r_block (r_then ?_))))
                                  refine c_ret1 hS Try.results101 (.tmp rfl) ?_
                                  have hv : ¬ ¬ ValidN x.meter.data.toList := by simpa using hc74
                                  have e2 : lineErr x = 6 := by unfold lineErr; rw [if_neg hv, if_pos (by omega)]
                                  exact ⟨by rw [firstErr_at hx (by rw [e2]; decide) hno, e2, if_pos (by decide)], hS.chg⟩
                                ·
                                  refine wp_skip ?_
                                  refine n_block ?_
                                  refine n_then ?_
                                  refine c_region ?_
                                  refine L_op (s_e hS (e_move rfl) rfl ?_); clear hS a; intro a hS
                                  first | (refine L_op (s_e hS (e_binN rfl rfl rfl (by omega)) rfl ?_); clear hS a; intro a hS) | (refine L_op (s_e hS (e_bin rfl rfl rfl) rfl ?_); clear hS a; intro a hS)
                                  refine L_op (s_e hS (e_assign rfl) rfl ?_); clear hS a; intro a hS
                                  refine L_nil ?_
                                  have hv : ¬ ¬ ValidN x.meter.data.toList := by simpa using hc74
                                  have e2 : lineErr x = 0 := by unfold lineErr; rw [if_neg hv, if_neg (by omega)]
                                  exact ⟨k + 1, by omega, hS.slots (by repeat (first | exact trivial | refine ⟨rfl, ?_⟩)), by omega, fun j hj y hy => by
                                    by_cases e : j = k
                                    · subst e; rw [hx] at hy; cases hy; exact e2
                                    · exact hno j (by omega) y hy⟩
                    ·
                      have hfe : firstErr l = 0 := firstErr_none (fun j hj => hno j (by omega))
                      rw [hfe, if_neg (by decide)]
                      refine wp_exit ?_
                      refine x_then (x_then (x_hit ?_))
                      refine n_then ?_
                      refine c_seq ?_
                      refine c_region ?_
                      refine L_op (s_e hS (e_move rfl) rfl ?_); clear hS a; intro a hS
                      refine L_op (s_callP hS (.cons rfl .nil) cf102 rfl (xSum_P p c l (by omega) hfit _ ((hS.get (X := rowP p 4 (l.map encL)) (by repeat constructor))) (fun q hq => (hS.ok (rowP p 4 (l.map encL)) (by repeat constructor)).lt q.1 ⟨q.2, hq⟩)) ?_); clear hS a; (try clear w); intro a w hS
                      refine L_op (s_e hS (e_move rfl) rfl ?_); clear hS a; intro a hS
                      refine L_op (s_e hS (e_extract rfl rfl) rfl ?_); clear hS a; intro a hS
                      refine L_op (s_e hS (e_extract rfl rfl) rfl ?_); clear hS a; intro a hS
                      refine L_op (s_e hS (e_extract rfl rfl) rfl ?_); clear hS a; intro a hS
                      refine L_op (s_e hS (e_assign rfl) rfl ?_); clear hS a; intro a hS
                      refine L_op (s_e hS (e_assign rfl) rfl ?_); clear hS a; intro a hS
                      refine L_op (s_e hS (e_assign rfl) rfl ?_); clear hS a; intro a hS
                      refine L_nil ?_
                      refine n_then ?_
                      refine c_seq ?_
                      refine c_seq ?_
                      refine c_region ?_
                      refine L_op (s_e hS (e_move rfl) rfl ?_); clear hS a; intro a hS
                      refine L_op (s_e hS (e_bin rfl rfl rfl) rfl ?_); clear hS a; intro a hS
                      refine L_nil ?_
                      refine n_then ?_
                      first | refine c_ifD hS rfl (fun hc120 => ?_) (fun hc120 => ?_) | refine c_if hS rfl (fun hc120 => ?_) (fun hc120 => ?_)
                      ·
                        refine c_seq ?_
                        refine c_region ?_
                        refine L_op (s_e hS (e_move rfl) rfl ?_); clear hS a; intro a hS
                        refine L_op (s_e hS (e_assign rfl) rfl ?_); clear hS a; intro a hS
                        refine L_nil ?_
                        refine n_then ?_
                        refine wp_ret ?_
                        refine r_then ?_
                        refine c_ret1 hS Try.results101 (.tmp rfl) ?_
                        exact ⟨by rw [if_pos hc120], hS.chg⟩
                      ·
                        refine wp_skip ?_
                        refine n_then ?_
                        refine c_seq ?_
                        refine c_seq ?_
                        refine c_region ?_
                        refine L_op (s_e hS (e_move rfl) rfl ?_); clear hS a; intro a hS
                        refine L_op (s_e hS (e_move rfl) rfl ?_); clear hS a; intro a hS
                        refine L_op (s_e hS (e_move rfl) rfl ?_); clear hS a; intro a hS
                        refine L_op (s_e hS (e_move rfl) rfl ?_); clear hS a; intro a hS
                        refine L_op (s_callP hS (.cons rfl (.cons rfl (.cons rfl (.cons rfl .nil)))) cf78 rfl (xBilled_P bw (.slice q its.length cq) its account f t hn _ (hS.get (X := rbA bw (.slice q its.length cq) its false) (by repeat constructor))) ?_); clear hS a; (try clear w); intro a w hS
                        refine L_nil ?_
                        refine n_then ?_
                        first | refine c_ifD hS rfl (fun hc126 => ?_) (fun hc126 => ?_) | refine c_if hS rfl (fun hc126 => ?_) (fun hc126 => ?_)
                        ·
                          refine c_seq ?_
                          refine c_region ?_
                          refine L_op (s_e hS (e_assign rfl) rfl ?_); clear hS a; intro a hS
                          refine L_nil ?_
                          refine n_then ?_
                          refine wp_ret ?_
                          refine r_then ?_
                          refine c_ret1 hS Try.results101 (.tmp rfl) ?_
                          exact ⟨by rw [if_neg hc120, if_pos (by simpa using hc126)], hS.chg⟩
                        ·
                          refine wp_skip ?_
                          refine n_then ?_
                          refine c_seq ?_
                          refine c_region ?_
                          refine L_op (s_e hS (e_assign rfl) rfl ?_); clear hS a; intro a hS
                          refine L_nil ?_
                          refine n_then ?_
                          refine wp_ret ?_
                          refine c_ret1 hS Try.results101 (.tmp rfl) ?_
                          exact ⟨by rw [if_neg hc120, if_neg (by simpa using hc126)], hS.chg⟩
end Go.Proofs.Ytfiaobhkhedpiaa
