/- Names, currencies and a line's error, walked: each answers what its plain definition says. -/
import Derived.Test.YtfiaobhkhedpiaaSeTy
namespace Go.Proofs.Ytfiaobhkhedpiaa
open Go.RowKit

def okc (m : Nat) : Prop := (97 ≤ m ∧ m ≤ 122) ∨ (48 ≤ m ∧ m ≤ 57) ∨ m = 45
instance (m : Nat) : Decidable (okc m) := by unfold okc; infer_instance
def ValidN (l : List UInt8) : Prop := l ≠ [] ∧ l.length ≤ 30 ∧ (97 ≤ (l.getD 0 0).toNat ∧ (l.getD 0 0).toNat ≤ 122) ∧ ∀ j, j < l.length → okc (l.getD j 0).toNat
instance (l : List UInt8) : Decidable (ValidN l) := by unfold ValidN; infer_instance

theorem str_nil (s : ByteArray) (h : s = ⟨#[]⟩) : s.data.toList = [] := by subst h; rfl
theorem ba_len (s : ByteArray) : s.data.toList.length = s.size := by simp
theorem ba_ne (s : ByteArray) (h : ¬ s = ⟨#[]⟩) : s.data.toList ≠ [] := by
  have := size_pos_of_ne h
  intro e; rw [← ba_len, e] at this; simp at this

set_option maxRecDepth 100000 in
theorem ValidName_w (s : ByteArray) (hs : s.size ≤ 4611686018427387904) (w0 : World) : PureC Try.prog 96 [.string s] w0 (.bool (decide (ValidN s.data.toList))) := by
  have hl := ba_len s
  refine c_enter [(0, .string s)] [] noB Try.func96 rfl Try.ntmps96 ⟨rfl, trivial⟩ rfl (by simp) (by simp) (by simp) ?_
  intro a hS
  refine c_seq ?_
  refine c_region ?_
  refine L_op (s_e hS (e_assign rfl) rfl ?_); clear hS a; intro a hS
  refine L_nil ?_
  refine n_then ?_
  refine c_seq ?_
  refine c_seq ?_
  refine c_region ?_
  refine L_op (s_e hS (e_move rfl) rfl ?_); clear hS a; intro a hS
  refine L_op (s_e hS (e_binS rfl rfl rfl) rfl ?_); clear hS a; intro a hS
  refine L_op (s_e hS (e_move rfl) rfl ?_); clear hS a; intro a hS
  (first | refine g_splitD (t := 7) hS rfl ?_ ?_ | refine g_split (t := 7) hS rfl ?_ ?_) <;> (clear hS; intro hg7 hS)
  ·
    refine L_skip_f hS rfl rfl rfl ?_; clear hS a; intro a hS
    refine L_skip_f hS rfl rfl rfl ?_; clear hS a; intro a hS
    refine L_skip_f hS rfl rfl rfl ?_; clear hS a; intro a hS
    first | (refine L_op (s_e hS (e_pick_t rfl rfl) rfl ?_); clear hS a; intro a hS) | (refine L_op (s_e hS (e_pick_f rfl rfl) rfl ?_); clear hS a; intro a hS)
    refine L_op (s_e hS (e_move rfl) rfl ?_); clear hS a; intro a hS
    refine L_skip_f hS rfl rfl rfl ?_; clear hS a; intro a hS
    refine L_skip_f hS rfl rfl rfl ?_; clear hS a; intro a hS
    refine L_skip_f hS rfl rfl rfl ?_; clear hS a; intro a hS
    first | (refine L_op (s_e hS (e_pick_t rfl rfl) rfl ?_); clear hS a; intro a hS) | (refine L_op (s_e hS (e_pick_f rfl rfl) rfl ?_); clear hS a; intro a hS)
    refine L_op (s_e hS (e_move rfl) rfl ?_); clear hS a; intro a hS
    refine L_skip_f hS rfl rfl rfl ?_; clear hS a; intro a hS
    refine L_skip_f hS rfl rfl rfl ?_; clear hS a; intro a hS
    refine L_skip_f hS rfl rfl rfl ?_; clear hS a; intro a hS
    first | (refine L_op (s_e hS (e_pick_t rfl rfl) rfl ?_); clear hS a; intro a hS) | (refine L_op (s_e hS (e_pick_f rfl rfl) rfl ?_); clear hS a; intro a hS)
    refine L_nil ?_
    refine n_then ?_
    refine c_if_t hS rfl ?_
    refine c_seq ?_
    refine c_region ?_
    refine L_op (s_e hS (e_assign rfl) rfl ?_); clear hS a; intro a hS
    refine L_nil ?_
    refine n_then ?_
    refine wp_ret ?_
    refine r_then ?_
    refine c_ret1 hS Try.results96 (.tmp rfl) ?_
    have hF : ¬ ValidN s.data.toList := by
      rintro ⟨h1, h2, h3, h4⟩
      first | exact h1 (str_nil s hg7) | omega | (rw [Int.toNat_zero] at *; omega) | (have h5 := h4 k (by omega); unfold okc at h5; rw [Int.toNat_natCast] at *; omega)
    exact ⟨by rw [decide_eq_false hF], hS.chg⟩
  ·
    have hpos := size_pos_of_ne hg7
    refine L_go hS rfl rfl (s_e hS (e_move rfl) rfl ?_); clear hS a; intro a hS
    refine L_go hS rfl rfl (s_e hS (e_lenS rfl rfl ty_u9) rfl ?_); clear hS a; intro a hS
    refine L_go hS rfl rfl (s_e hS (e_bin rfl rfl rfl) rfl ?_); clear hS a; intro a hS
    first | (refine L_op (s_e hS (e_pick_t rfl rfl) rfl ?_); clear hS a; intro a hS) | (refine L_op (s_e hS (e_pick_f rfl rfl) rfl ?_); clear hS a; intro a hS)
    refine L_op (s_e hS (e_move rfl) rfl ?_); clear hS a; intro a hS
    (first | refine g_splitD (t := 12) hS rfl ?_ ?_ | refine g_split (t := 12) hS rfl ?_ ?_) <;> (clear hS; intro hg12 hS)
    ·
      refine L_skip_f hS rfl rfl rfl ?_; clear hS a; intro a hS
      refine L_skip_f hS rfl rfl rfl ?_; clear hS a; intro a hS
      refine L_skip_f hS rfl rfl rfl ?_; clear hS a; intro a hS
      first | (refine L_op (s_e hS (e_pick_t rfl rfl) rfl ?_); clear hS a; intro a hS) | (refine L_op (s_e hS (e_pick_f rfl rfl) rfl ?_); clear hS a; intro a hS)
      refine L_op (s_e hS (e_move rfl) rfl ?_); clear hS a; intro a hS
      refine L_skip_f hS rfl rfl rfl ?_; clear hS a; intro a hS
      refine L_skip_f hS rfl rfl rfl ?_; clear hS a; intro a hS
      refine L_skip_f hS rfl rfl rfl ?_; clear hS a; intro a hS
      first | (refine L_op (s_e hS (e_pick_t rfl rfl) rfl ?_); clear hS a; intro a hS) | (refine L_op (s_e hS (e_pick_f rfl rfl) rfl ?_); clear hS a; intro a hS)
      refine L_nil ?_
      refine n_then ?_
      refine c_if_t hS rfl ?_
      refine c_seq ?_
      refine c_region ?_
      refine L_op (s_e hS (e_assign rfl) rfl ?_); clear hS a; intro a hS
      refine L_nil ?_
      refine n_then ?_
      refine wp_ret ?_
      refine r_then ?_
      refine c_ret1 hS Try.results96 (.tmp rfl) ?_
      have hF : ¬ ValidN s.data.toList := by
        rintro ⟨h1, h2, h3, h4⟩
        first | exact h1 (str_nil s hg7) | omega | (rw [Int.toNat_zero] at *; omega) | (have h5 := h4 k (by omega); unfold okc at h5; rw [Int.toNat_natCast] at *; omega)
      exact ⟨by rw [decide_eq_false hF], hS.chg⟩
    ·
      refine L_go hS rfl rfl (s_e hS (e_move rfl) rfl ?_); clear hS a; intro a hS
      refine L_go hS rfl rfl (s_e hS (e_ixS rfl rfl ty_u9 (by omega)) rfl ?_); clear hS a; intro a hS
      refine L_go hS rfl rfl (s_e hS (e_bin rfl rfl rfl) rfl ?_); clear hS a; intro a hS
      first | (refine L_op (s_e hS (e_pick_t rfl rfl) rfl ?_); clear hS a; intro a hS) | (refine L_op (s_e hS (e_pick_f rfl rfl) rfl ?_); clear hS a; intro a hS)
      refine L_op (s_e hS (e_move rfl) rfl ?_); clear hS a; intro a hS
      (first | refine g_splitD (t := 17) hS rfl ?_ ?_ | refine g_split (t := 17) hS rfl ?_ ?_) <;> (clear hS; intro hg17 hS)
      ·
        refine L_skip_f hS rfl rfl rfl ?_; clear hS a; intro a hS
        refine L_skip_f hS rfl rfl rfl ?_; clear hS a; intro a hS
        refine L_skip_f hS rfl rfl rfl ?_; clear hS a; intro a hS
        first | (refine L_op (s_e hS (e_pick_t rfl rfl) rfl ?_); clear hS a; intro a hS) | (refine L_op (s_e hS (e_pick_f rfl rfl) rfl ?_); clear hS a; intro a hS)
        refine L_nil ?_
        refine n_then ?_
        refine c_if_t hS rfl ?_
        refine c_seq ?_
        refine c_region ?_
        refine L_op (s_e hS (e_assign rfl) rfl ?_); clear hS a; intro a hS
        refine L_nil ?_
        refine n_then ?_
        refine wp_ret ?_
        refine r_then ?_
        refine c_ret1 hS Try.results96 (.tmp rfl) ?_
        have hF : ¬ ValidN s.data.toList := by
          rintro ⟨h1, h2, h3, h4⟩
          first | exact h1 (str_nil s hg7) | omega | (rw [Int.toNat_zero] at *; omega) | (have h5 := h4 k (by omega); unfold okc at h5; rw [Int.toNat_natCast] at *; omega)
        exact ⟨by rw [decide_eq_false hF], hS.chg⟩
      ·
        refine L_go hS rfl rfl (s_e hS (e_move rfl) rfl ?_); clear hS a; intro a hS
        refine L_go hS rfl rfl (s_e hS (e_ixS rfl rfl ty_u9 (by omega)) rfl ?_); clear hS a; intro a hS
        refine L_go hS rfl rfl (s_e hS (e_bin rfl rfl rfl) rfl ?_); clear hS a; intro a hS
        first | (refine L_op (s_e hS (e_pick_t rfl rfl) rfl ?_); clear hS a; intro a hS) | (refine L_op (s_e hS (e_pick_f rfl rfl) rfl ?_); clear hS a; intro a hS)
        refine L_nil ?_
        refine n_then ?_
        first | refine c_ifD hS rfl (fun hc21 => ?_) (fun hc21 => ?_) | refine c_if hS rfl (fun hc21 => ?_) (fun hc21 => ?_)
        ·
          refine c_seq ?_
          refine c_region ?_
          refine L_op (s_e hS (e_assign rfl) rfl ?_); clear hS a; intro a hS
          refine L_nil ?_
          refine n_then ?_
          refine wp_ret ?_
          refine r_then ?_
          refine c_ret1 hS Try.results96 (.tmp rfl) ?_
          have hF : ¬ ValidN s.data.toList := by
            rintro ⟨h1, h2, h3, h4⟩
            first | exact h1 (str_nil s hg7) | omega | (rw [Int.toNat_zero] at *; omega) | (have h5 := h4 k (by omega); unfold okc at h5; rw [Int.toNat_natCast] at *; omega)
          exact ⟨by rw [decide_eq_false hF], hS.chg⟩
        ·
          refine wp_skip ?_
          refine n_then ?_
          refine c_seq ?_
          refine c_seq ?_
          refine c_region ?_
          refine L_op (s_e hS (e_assign rfl) rfl ?_); clear hS a; intro a hS
          refine L_nil ?_
          refine n_then ?_
          refine wp_block ?_
          skip
          refine c_loop (γ := Nat) (fun k a w => St 49 noB w0 a w [(3, .int .i64 (k : Int)), (0, .string s)] [] ∧ k ≤ s.size ∧ ∀ j, j < k → okc (s.data.toList.getD j 0).toNat) (fun k => s.size - k) 0 ⟨hS.slots ⟨rfl, rfl, trivial⟩, Nat.zero_le _, fun j hj => by omega⟩ ?_
          clear hS a; (try clear w); intro k a w hI
          obtain ⟨hS, hk, hok⟩ := hI
          refine c_seq ?_
          refine c_seq ?_
          refine c_region ?_
          refine L_op (s_e hS (e_move rfl) rfl ?_); clear hS a; intro a hS
          refine L_op (s_e hS (e_move rfl) rfl ?_); clear hS a; intro a hS
          refine L_op (s_e hS (e_lenS rfl rfl ty_u9) rfl ?_); clear hS a; intro a hS
          refine L_op (s_e hS (e_bin rfl rfl rfl) rfl ?_); clear hS a; intro a hS
          refine L_nil ?_
          refine n_then ?_
          first | refine c_ifD hS rfl (fun hc25 => ?_) (fun hc25 => ?_) | refine c_if hS rfl (fun hc25 => ?_) (fun hc25 => ?_)
          ·
            refine wp_skip ?_
            refine n_then ?_
            refine c_seq ?_
            refine wp_block ?_
            refine c_seq ?_
            refine c_region ?_
            refine L_op (s_e hS (e_move rfl) rfl ?_); clear hS a; intro a hS
            refine L_op (s_e hS (e_move rfl) rfl ?_); clear hS a; intro a hS
            refine L_op (s_e hS (e_ixS rfl rfl ty_u9 (by omega)) rfl ?_); clear hS a; intro a hS
            refine L_op (s_e hS (e_assign rfl) rfl ?_); clear hS a; intro a hS
            refine L_nil ?_
            refine n_then ?_
            refine c_seq ?_
            refine c_region ?_
            refine L_op (s_e hS (e_move rfl) rfl ?_); clear hS a; intro a hS
            refine L_op (s_e hS (e_bin rfl rfl rfl) rfl ?_); clear hS a; intro a hS
            refine L_op (s_e hS (e_move rfl) rfl ?_); clear hS a; intro a hS
            (first | refine g_splitD (t := 33) hS rfl ?_ ?_ | refine g_split (t := 33) hS rfl ?_ ?_) <;> (clear hS; intro hg33 hS)
            ·
              refine L_skip_f hS rfl rfl rfl ?_; clear hS a; intro a hS
              refine L_skip_f hS rfl rfl rfl ?_; clear hS a; intro a hS
              first | (refine L_op (s_e hS (e_pick_t rfl rfl) rfl ?_); clear hS a; intro a hS) | (refine L_op (s_e hS (e_pick_f rfl rfl) rfl ?_); clear hS a; intro a hS)
              refine L_op (s_e hS (e_move rfl) rfl ?_); clear hS a; intro a hS
              refine L_go hS rfl rfl (s_e hS (e_move rfl) rfl ?_); clear hS a; intro a hS
              refine L_go hS rfl rfl (s_e hS (e_bin rfl rfl rfl) rfl ?_); clear hS a; intro a hS
              refine L_go hS rfl rfl (s_e hS (e_move rfl) rfl ?_); clear hS a; intro a hS
              (first | refine g_splitD (t := 40) hS rfl ?_ ?_ | refine g_split (t := 40) hS rfl ?_ ?_) <;> (clear hS; intro hg40 hS)
              ·
                refine L_skip_f hS rfl rfl rfl ?_; clear hS a; intro a hS
                refine L_skip_f hS rfl rfl rfl ?_; clear hS a; intro a hS
                first | (refine L_go hS rfl rfl (s_e hS (e_pick_t rfl rfl) rfl ?_); clear hS a; intro a hS) | (refine L_go hS rfl rfl (s_e hS (e_pick_f rfl rfl) rfl ?_); clear hS a; intro a hS)
                first | (refine L_op (s_e hS (e_pick_t rfl rfl) rfl ?_); clear hS a; intro a hS) | (refine L_op (s_e hS (e_pick_f rfl rfl) rfl ?_); clear hS a; intro a hS)
                refine L_op (s_e hS (e_move rfl) rfl ?_); clear hS a; intro a hS
                refine L_go hS rfl rfl (s_e hS (e_move rfl) rfl ?_); clear hS a; intro a hS
                refine L_go hS rfl rfl (s_e hS (e_bin rfl rfl rfl) rfl ?_); clear hS a; intro a hS
                first | (refine L_op (s_e hS (e_pick_t rfl rfl) rfl ?_); clear hS a; intro a hS) | (refine L_op (s_e hS (e_pick_f rfl rfl) rfl ?_); clear hS a; intro a hS)
                refine L_nil ?_
                refine n_then ?_
                first | refine c_ifD hS rfl (fun hc48 => ?_) (fun hc48 => ?_) | refine c_if hS rfl (fun hc48 => ?_) (fun hc48 => ?_)
                ·
                  refine c_seq ?_
                  refine c_region ?_
                  refine L_op (s_e hS (e_assign rfl) rfl ?_); clear hS a; intro a hS
                  refine L_nil ?_
                  refine n_then ?_
                  refine wp_ret ?_
                  refine r_block (r_then (r_then (r_block (r_then ?_))))
                  refine c_ret1 hS Try.results96 (.tmp rfl) ?_
                  have hF : ¬ ValidN s.data.toList := by
                    rintro ⟨h1, h2, h3, h4⟩
                    first | exact h1 (str_nil s hg7) | omega | (rw [Int.toNat_zero] at *; omega) | (have h5 := h4 k (by omega); unfold okc at h5; rw [Int.toNat_natCast] at *; omega)
                  exact ⟨by rw [decide_eq_false hF], hS.chg⟩
                ·
                  refine wp_skip ?_
                  refine n_block ?_
                  refine n_then ?_
                  refine c_region ?_
                  refine L_op (s_e hS (e_move rfl) rfl ?_); clear hS a; intro a hS
                  first | (refine L_op (s_e hS (e_binN rfl rfl rfl (by omega)) rfl ?_); clear hS a; intro a hS) | (refine L_op (s_e hS (e_bin rfl rfl rfl) rfl ?_); clear hS a; intro a hS)
                  refine L_op (s_e hS (e_assign rfl) rfl ?_); clear hS a; intro a hS
                  refine L_nil ?_
                  have h1 : okc (s.data.toList.getD k 0).toNat := by unfold okc; rw [Int.toNat_natCast] at *; omega
                  exact ⟨k + 1, by omega, hS.slots ⟨rfl, rfl, trivial⟩, by omega, fun j hj => by by_cases e : j = k; (subst e; exact h1); exact hok j (by omega)⟩
              ·
                refine L_go hS rfl rfl (s_e hS (e_move rfl) rfl ?_); clear hS a; intro a hS
                refine L_go hS rfl rfl (s_e hS (e_bin rfl rfl rfl) rfl ?_); clear hS a; intro a hS
                first | (refine L_go hS rfl rfl (s_e hS (e_pick_t rfl rfl) rfl ?_); clear hS a; intro a hS) | (refine L_go hS rfl rfl (s_e hS (e_pick_f rfl rfl) rfl ?_); clear hS a; intro a hS)
                first | (refine L_op (s_e hS (e_pick_t rfl rfl) rfl ?_); clear hS a; intro a hS) | (refine L_op (s_e hS (e_pick_f rfl rfl) rfl ?_); clear hS a; intro a hS)
                refine L_op (s_e hS (e_move rfl) rfl ?_); clear hS a; intro a hS
                (first | refine g_splitD (t := 45) hS rfl ?_ ?_ | refine g_split (t := 45) hS rfl ?_ ?_) <;> (clear hS; intro hg45 hS)
                ·
                  refine L_go hS rfl rfl (s_e hS (e_move rfl) rfl ?_); clear hS a; intro a hS
                  refine L_go hS rfl rfl (s_e hS (e_bin rfl rfl rfl) rfl ?_); clear hS a; intro a hS
                  first | (refine L_op (s_e hS (e_pick_t rfl rfl) rfl ?_); clear hS a; intro a hS) | (refine L_op (s_e hS (e_pick_f rfl rfl) rfl ?_); clear hS a; intro a hS)
                  refine L_nil ?_
                  refine n_then ?_
                  first | refine c_ifD hS rfl (fun hc48 => ?_) (fun hc48 => ?_) | refine c_if hS rfl (fun hc48 => ?_) (fun hc48 => ?_)
                  ·
                    refine c_seq ?_
                    refine c_region ?_
                    refine L_op (s_e hS (e_assign rfl) rfl ?_); clear hS a; intro a hS
                    refine L_nil ?_
                    refine n_then ?_
                    refine wp_ret ?_
                    refine r_block (r_then (r_then (r_block (r_then ?_))))
                    refine c_ret1 hS Try.results96 (.tmp rfl) ?_
                    have hF : ¬ ValidN s.data.toList := by
                      rintro ⟨h1, h2, h3, h4⟩
                      first | exact h1 (str_nil s hg7) | omega | (rw [Int.toNat_zero] at *; omega) | (have h5 := h4 k (by omega); unfold okc at h5; rw [Int.toNat_natCast] at *; omega)
                    exact ⟨by rw [decide_eq_false hF], hS.chg⟩
                  ·
                    refine wp_skip ?_
                    refine n_block ?_
                    refine n_then ?_
                    refine c_region ?_
                    refine L_op (s_e hS (e_move rfl) rfl ?_); clear hS a; intro a hS
                    first | (refine L_op (s_e hS (e_binN rfl rfl rfl (by omega)) rfl ?_); clear hS a; intro a hS) | (refine L_op (s_e hS (e_bin rfl rfl rfl) rfl ?_); clear hS a; intro a hS)
                    refine L_op (s_e hS (e_assign rfl) rfl ?_); clear hS a; intro a hS
                    refine L_nil ?_
                    have h1 : okc (s.data.toList.getD k 0).toNat := by unfold okc; rw [Int.toNat_natCast] at *; omega
                    exact ⟨k + 1, by omega, hS.slots ⟨rfl, rfl, trivial⟩, by omega, fun j hj => by by_cases e : j = k; (subst e; exact h1); exact hok j (by omega)⟩
                ·
                  refine L_skip_t hS rfl rfl rfl ?_; clear hS a; intro a hS
                  refine L_skip_t hS rfl rfl rfl ?_; clear hS a; intro a hS
                  first | (refine L_op (s_e hS (e_pick_t rfl rfl) rfl ?_); clear hS a; intro a hS) | (refine L_op (s_e hS (e_pick_f rfl rfl) rfl ?_); clear hS a; intro a hS)
                  refine L_nil ?_
                  refine n_then ?_
                  refine c_if_f hS rfl ?_
                  refine wp_skip ?_
                  refine n_block ?_
                  refine n_then ?_
                  refine c_region ?_
                  refine L_op (s_e hS (e_move rfl) rfl ?_); clear hS a; intro a hS
                  first | (refine L_op (s_e hS (e_binN rfl rfl rfl (by omega)) rfl ?_); clear hS a; intro a hS) | (refine L_op (s_e hS (e_bin rfl rfl rfl) rfl ?_); clear hS a; intro a hS)
                  refine L_op (s_e hS (e_assign rfl) rfl ?_); clear hS a; intro a hS
                  refine L_nil ?_
                  have h1 : okc (s.data.toList.getD k 0).toNat := by unfold okc; rw [Int.toNat_natCast] at *; omega
                  exact ⟨k + 1, by omega, hS.slots ⟨rfl, rfl, trivial⟩, by omega, fun j hj => by by_cases e : j = k; (subst e; exact h1); exact hok j (by omega)⟩
            ·
              refine L_go hS rfl rfl (s_e hS (e_move rfl) rfl ?_); clear hS a; intro a hS
              refine L_go hS rfl rfl (s_e hS (e_bin rfl rfl rfl) rfl ?_); clear hS a; intro a hS
              first | (refine L_op (s_e hS (e_pick_t rfl rfl) rfl ?_); clear hS a; intro a hS) | (refine L_op (s_e hS (e_pick_f rfl rfl) rfl ?_); clear hS a; intro a hS)
              refine L_op (s_e hS (e_move rfl) rfl ?_); clear hS a; intro a hS
              (first | refine g_splitD (t := 37) hS rfl ?_ ?_ | refine g_split (t := 37) hS rfl ?_ ?_) <;> (clear hS; intro hg37 hS)
              ·
                refine L_go hS rfl rfl (s_e hS (e_move rfl) rfl ?_); clear hS a; intro a hS
                refine L_go hS rfl rfl (s_e hS (e_bin rfl rfl rfl) rfl ?_); clear hS a; intro a hS
                refine L_go hS rfl rfl (s_e hS (e_move rfl) rfl ?_); clear hS a; intro a hS
                (first | refine g_splitD (t := 40) hS rfl ?_ ?_ | refine g_split (t := 40) hS rfl ?_ ?_) <;> (clear hS; intro hg40 hS)
                ·
                  refine L_skip_f hS rfl rfl rfl ?_; clear hS a; intro a hS
                  refine L_skip_f hS rfl rfl rfl ?_; clear hS a; intro a hS
                  first | (refine L_go hS rfl rfl (s_e hS (e_pick_t rfl rfl) rfl ?_); clear hS a; intro a hS) | (refine L_go hS rfl rfl (s_e hS (e_pick_f rfl rfl) rfl ?_); clear hS a; intro a hS)
                  first | (refine L_op (s_e hS (e_pick_t rfl rfl) rfl ?_); clear hS a; intro a hS) | (refine L_op (s_e hS (e_pick_f rfl rfl) rfl ?_); clear hS a; intro a hS)
                  refine L_op (s_e hS (e_move rfl) rfl ?_); clear hS a; intro a hS
                  refine L_go hS rfl rfl (s_e hS (e_move rfl) rfl ?_); clear hS a; intro a hS
                  refine L_go hS rfl rfl (s_e hS (e_bin rfl rfl rfl) rfl ?_); clear hS a; intro a hS
                  first | (refine L_op (s_e hS (e_pick_t rfl rfl) rfl ?_); clear hS a; intro a hS) | (refine L_op (s_e hS (e_pick_f rfl rfl) rfl ?_); clear hS a; intro a hS)
                  refine L_nil ?_
                  refine n_then ?_
                  first | refine c_ifD hS rfl (fun hc48 => ?_) (fun hc48 => ?_) | refine c_if hS rfl (fun hc48 => ?_) (fun hc48 => ?_)
                  ·
                    refine c_seq ?_
                    refine c_region ?_
                    refine L_op (s_e hS (e_assign rfl) rfl ?_); clear hS a; intro a hS
                    refine L_nil ?_
                    refine n_then ?_
                    refine wp_ret ?_
                    refine r_block (r_then (r_then (r_block (r_then ?_))))
                    refine c_ret1 hS Try.results96 (.tmp rfl) ?_
                    have hF : ¬ ValidN s.data.toList := by
                      rintro ⟨h1, h2, h3, h4⟩
                      first | exact h1 (str_nil s hg7) | omega | (rw [Int.toNat_zero] at *; omega) | (have h5 := h4 k (by omega); unfold okc at h5; rw [Int.toNat_natCast] at *; omega)
                    exact ⟨by rw [decide_eq_false hF], hS.chg⟩
                  ·
                    refine wp_skip ?_
                    refine n_block ?_
                    refine n_then ?_
                    refine c_region ?_
                    refine L_op (s_e hS (e_move rfl) rfl ?_); clear hS a; intro a hS
                    first | (refine L_op (s_e hS (e_binN rfl rfl rfl (by omega)) rfl ?_); clear hS a; intro a hS) | (refine L_op (s_e hS (e_bin rfl rfl rfl) rfl ?_); clear hS a; intro a hS)
                    refine L_op (s_e hS (e_assign rfl) rfl ?_); clear hS a; intro a hS
                    refine L_nil ?_
                    have h1 : okc (s.data.toList.getD k 0).toNat := by unfold okc; rw [Int.toNat_natCast] at *; omega
                    exact ⟨k + 1, by omega, hS.slots ⟨rfl, rfl, trivial⟩, by omega, fun j hj => by by_cases e : j = k; (subst e; exact h1); exact hok j (by omega)⟩
                ·
                  refine L_go hS rfl rfl (s_e hS (e_move rfl) rfl ?_); clear hS a; intro a hS
                  refine L_go hS rfl rfl (s_e hS (e_bin rfl rfl rfl) rfl ?_); clear hS a; intro a hS
                  first | (refine L_go hS rfl rfl (s_e hS (e_pick_t rfl rfl) rfl ?_); clear hS a; intro a hS) | (refine L_go hS rfl rfl (s_e hS (e_pick_f rfl rfl) rfl ?_); clear hS a; intro a hS)
                  first | (refine L_op (s_e hS (e_pick_t rfl rfl) rfl ?_); clear hS a; intro a hS) | (refine L_op (s_e hS (e_pick_f rfl rfl) rfl ?_); clear hS a; intro a hS)
                  refine L_op (s_e hS (e_move rfl) rfl ?_); clear hS a; intro a hS
                  (first | refine g_splitD (t := 45) hS rfl ?_ ?_ | refine g_split (t := 45) hS rfl ?_ ?_) <;> (clear hS; intro hg45 hS)
                  ·
                    refine L_go hS rfl rfl (s_e hS (e_move rfl) rfl ?_); clear hS a; intro a hS
                    refine L_go hS rfl rfl (s_e hS (e_bin rfl rfl rfl) rfl ?_); clear hS a; intro a hS
                    first | (refine L_op (s_e hS (e_pick_t rfl rfl) rfl ?_); clear hS a; intro a hS) | (refine L_op (s_e hS (e_pick_f rfl rfl) rfl ?_); clear hS a; intro a hS)
                    refine L_nil ?_
                    refine n_then ?_
                    first | refine c_ifD hS rfl (fun hc48 => ?_) (fun hc48 => ?_) | refine c_if hS rfl (fun hc48 => ?_) (fun hc48 => ?_)
                    ·
                      refine c_seq ?_
                      refine c_region ?_
                      refine L_op (s_e hS (e_assign rfl) rfl ?_); clear hS a; intro a hS
                      refine L_nil ?_
                      refine n_then ?_
                      refine wp_ret ?_
                      refine r_block (r_then (r_then (r_block (r_then ?_))))
                      refine c_ret1 hS Try.results96 (.tmp rfl) ?_
                      have hF : ¬ ValidN s.data.toList := by
                        rintro ⟨h1, h2, h3, h4⟩
                        first | exact h1 (str_nil s hg7) | omega | (rw [Int.toNat_zero] at *; omega) | (have h5 := h4 k (by omega); unfold okc at h5; rw [Int.toNat_natCast] at *; omega)
                      exact ⟨by rw [decide_eq_false hF], hS.chg⟩
                    ·
                      refine wp_skip ?_
                      refine n_block ?_
                      refine n_then ?_
                      refine c_region ?_
                      refine L_op (s_e hS (e_move rfl) rfl ?_); clear hS a; intro a hS
                      first | (refine L_op (s_e hS (e_binN rfl rfl rfl (by omega)) rfl ?_); clear hS a; intro a hS) | (refine L_op (s_e hS (e_bin rfl rfl rfl) rfl ?_); clear hS a; intro a hS)
                      refine L_op (s_e hS (e_assign rfl) rfl ?_); clear hS a; intro a hS
                      refine L_nil ?_
                      have h1 : okc (s.data.toList.getD k 0).toNat := by unfold okc; rw [Int.toNat_natCast] at *; omega
                      exact ⟨k + 1, by omega, hS.slots ⟨rfl, rfl, trivial⟩, by omega, fun j hj => by by_cases e : j = k; (subst e; exact h1); exact hok j (by omega)⟩
                  ·
                    refine L_skip_t hS rfl rfl rfl ?_; clear hS a; intro a hS
                    refine L_skip_t hS rfl rfl rfl ?_; clear hS a; intro a hS
                    first | (refine L_op (s_e hS (e_pick_t rfl rfl) rfl ?_); clear hS a; intro a hS) | (refine L_op (s_e hS (e_pick_f rfl rfl) rfl ?_); clear hS a; intro a hS)
                    refine L_nil ?_
                    refine n_then ?_
                    refine c_if_f hS rfl ?_
                    refine wp_skip ?_
                    refine n_block ?_
                    refine n_then ?_
                    refine c_region ?_
                    refine L_op (s_e hS (e_move rfl) rfl ?_); clear hS a; intro a hS
                    first | (refine L_op (s_e hS (e_binN rfl rfl rfl (by omega)) rfl ?_); clear hS a; intro a hS) | (refine L_op (s_e hS (e_bin rfl rfl rfl) rfl ?_); clear hS a; intro a hS)
                    refine L_op (s_e hS (e_assign rfl) rfl ?_); clear hS a; intro a hS
                    refine L_nil ?_
                    have h1 : okc (s.data.toList.getD k 0).toNat := by unfold okc; rw [Int.toNat_natCast] at *; omega
                    exact ⟨k + 1, by omega, hS.slots ⟨rfl, rfl, trivial⟩, by omega, fun j hj => by by_cases e : j = k; (subst e; exact h1); exact hok j (by omega)⟩
              ·
                refine L_skip_t hS rfl rfl rfl ?_; clear hS a; intro a hS
                refine L_skip_t hS rfl rfl rfl ?_; clear hS a; intro a hS
                refine L_skip_t hS rfl rfl rfl ?_; clear hS a; intro a hS
                refine L_skip_u hS rfl rfl rfl ?_; clear hS a; intro a hS
                refine L_skip_u hS rfl rfl rfl ?_; clear hS a; intro a hS
                refine L_skip_t hS rfl rfl rfl ?_; clear hS a; intro a hS
                first | (refine L_op (s_e hS (e_pick_t rfl rfl) rfl ?_); clear hS a; intro a hS) | (refine L_op (s_e hS (e_pick_f rfl rfl) rfl ?_); clear hS a; intro a hS)
                refine L_op (s_e hS (e_move rfl) rfl ?_); clear hS a; intro a hS
                refine L_skip_t hS rfl rfl rfl ?_; clear hS a; intro a hS
                refine L_skip_t hS rfl rfl rfl ?_; clear hS a; intro a hS
                first | (refine L_op (s_e hS (e_pick_t rfl rfl) rfl ?_); clear hS a; intro a hS) | (refine L_op (s_e hS (e_pick_f rfl rfl) rfl ?_); clear hS a; intro a hS)
                refine L_nil ?_
                refine n_then ?_
                refine c_if_f hS rfl ?_
                refine wp_skip ?_
                refine n_block ?_
                refine n_then ?_
                refine c_region ?_
                refine L_op (s_e hS (e_move rfl) rfl ?_); clear hS a; intro a hS
                first | (refine L_op (s_e hS (e_binN rfl rfl rfl (by omega)) rfl ?_); clear hS a; intro a hS) | (refine L_op (s_e hS (e_bin rfl rfl rfl) rfl ?_); clear hS a; intro a hS)
                refine L_op (s_e hS (e_assign rfl) rfl ?_); clear hS a; intro a hS
                refine L_nil ?_
                have h1 : okc (s.data.toList.getD k 0).toNat := by unfold okc; rw [Int.toNat_natCast] at *; omega
                exact ⟨k + 1, by omega, hS.slots ⟨rfl, rfl, trivial⟩, by omega, fun j hj => by by_cases e : j = k; (subst e; exact h1); exact hok j (by omega)⟩
          ·
            refine wp_exit ?_
            refine x_then (x_then (x_hit ?_))
            refine n_then ?_
            refine c_seq ?_
            refine c_region ?_
            refine L_op (s_e hS (e_assign rfl) rfl ?_); clear hS a; intro a hS
            refine L_nil ?_
            refine n_then ?_
            refine wp_ret ?_
            refine c_ret1 hS Try.results96 (.tmp rfl) ?_
            exact ⟨by rw [decide_eq_true (show ValidN s.data.toList from ⟨ba_ne s hg7, by omega, by rw [Int.toNat_zero] at *; omega, fun j hj => hok j (by omega)⟩)], hS.chg⟩

set_option maxRecDepth 100000 in
theorem instant_w (n : Int) (w0 : World) : PureC Try.prog 97 [.int .i64 n] w0 (.bool (decide (0 ≤ n ∧ n ≤ 1099511627776))) := by
  refine c_enter [(0, .int .i64 n)] [] noB Try.func97 rfl Try.ntmps97 ⟨rfl, trivial⟩ rfl (by simp) (by simp) (by simp) ?_
  intro a hS
  refine c_seq ?_
  refine c_region ?_
  refine L_op (s_e hS (e_assign rfl) rfl ?_); clear hS a; intro a hS
  refine L_nil ?_
  refine n_then ?_
  refine c_seq ?_
  refine c_region ?_
  refine L_op (s_e hS (e_move rfl) rfl ?_); clear hS a; intro a hS
  refine L_op (s_e hS (e_bin rfl rfl rfl) rfl ?_); clear hS a; intro a hS
  refine L_op (s_e hS (e_move rfl) rfl ?_); clear hS a; intro a hS
  (first | refine g_splitD (t := 5) hS rfl ?_ ?_ | refine g_split (t := 5) hS rfl ?_ ?_) <;> (clear hS; intro hg5 hS)
  ·
    refine L_go hS rfl rfl (s_e hS (e_move rfl) rfl ?_); clear hS a; intro a hS
    refine L_go hS rfl rfl (s_e hS (e_bin rfl rfl rfl) rfl ?_); clear hS a; intro a hS
    first | (refine L_op (s_e hS (e_pick_t rfl rfl) rfl ?_); clear hS a; intro a hS) | (refine L_op (s_e hS (e_pick_f rfl rfl) rfl ?_); clear hS a; intro a hS)
    refine L_op (s_e hS (e_assign rfl) rfl ?_); clear hS a; intro a hS
    refine L_nil ?_
    refine n_then ?_
    refine wp_ret ?_
    refine c_ret1 hS Try.results97 (.tmp rfl) ?_
    exact ⟨by rw [show decide (n ≤ 1099511627776) = decide (0 ≤ n ∧ n ≤ 1099511627776) from decide_eq_decide.2 (by omega)], hS.chg⟩
  ·
    refine L_skip_t hS rfl rfl rfl ?_; clear hS a; intro a hS
    refine L_skip_t hS rfl rfl rfl ?_; clear hS a; intro a hS
    first | (refine L_op (s_e hS (e_pick_t rfl rfl) rfl ?_); clear hS a; intro a hS) | (refine L_op (s_e hS (e_pick_f rfl rfl) rfl ?_); clear hS a; intro a hS)
    refine L_op (s_e hS (e_assign rfl) rfl ?_); clear hS a; intro a hS
    refine L_nil ?_
    refine n_then ?_
    refine wp_ret ?_
    refine c_ret1 hS Try.results97 (.tmp rfl) ?_
    exact ⟨by rw [show decide (0 ≤ n ∧ n ≤ 1099511627776) = false from decide_eq_false (by omega)], hS.chg⟩

set_option maxRecDepth 100000 in
theorem Num_w (n : Int) (w0 : World) : PureC Try.prog 16 [.int .i64 n] w0 (.int .i64 n) := by
  refine c_enter [(0, .int .i64 n)] [] noB Try.func16 rfl Try.ntmps16 ⟨rfl, trivial⟩ rfl (by simp) (by simp) (by simp) ?_
  intro a hS
  refine c_seq ?_
  refine c_region ?_
  refine L_op (s_e hS (e_assign rfl) rfl ?_); clear hS a; intro a hS
  refine L_nil ?_
  refine n_then ?_
  refine c_seq ?_
  refine c_region ?_
  refine L_op (s_e hS (e_move rfl) rfl ?_); clear hS a; intro a hS
  skip
  refine L_op (s_e hS (e_assign rfl) rfl ?_); clear hS a; intro a hS
  refine L_nil ?_
  refine n_then ?_
  refine wp_ret ?_
  refine c_ret1 hS Try.results16 (.tmp rfl) ?_
  exact ⟨rfl, hS.chg⟩

/-! ### lines -/
structure RLine where
  meter : ByteArray
  qty : Int
  net : Int
  tax : Int
def encL (x : RLine) : List Value := [.string x.meter, .int .i64 x.qty, .int .i64 x.net, .int .i64 x.tax]
/-- a line that a machine can hold. -/
def RLine.fits (x : RLine) : Prop := x.meter.size ≤ 4611686018427387904 ∧ (-9223372036854775808 ≤ x.qty ∧ x.qty ≤ 9223372036854775807) ∧ (-9223372036854775808 ≤ x.net ∧ x.net ≤ 9223372036854775807) ∧ (-9223372036854775808 ≤ x.tax ∧ x.tax ≤ 9223372036854775807)
def lineErr (x : RLine) : Int :=
  if ¬ ValidN x.meter.data.toList then 1
  else if x.qty < 0 ∨ x.net < 0 ∨ 4611686018427387904 < x.net ∨ x.tax < 0 ∨ 4611686018427387904 < x.tax then 6 else 0

set_option maxRecDepth 100000 in
theorem line_w (x : RLine) (hx : x.fits) (w0 : World) : PureC Try.prog 56 [.agg (encL x).toArray] w0 (.int .i64 (lineErr x)) := by
  refine c_enter [(0, .agg (encL x).toArray)] [] noB Try.func56 rfl Try.ntmps56 ⟨rfl, trivial⟩ rfl (by simp) (by simp) (by simp) ?_
  intro a hS
  refine c_seq ?_
  refine c_region ?_
  refine L_op (s_boxA hS rfl rfl ?_); clear hS a; (try clear w); intro a w b1 hS
  refine L_op (s_e hS (e_assign rfl) rfl ?_); clear hS a; intro a hS
  refine L_nil ?_
  refine n_then ?_
  refine c_seq ?_
  refine wp_block ?_
  refine c_seq ?_
  refine c_region ?_
  first | (refine L_op (s_e hS (e_fa0 rfl ty_fo26_0) rfl ?_); clear hS a; intro a hS) | (refine L_op (s_e hS (e_faK rfl ty_fo26_0) rfl ?_); clear hS a; intro a hS)
  refine L_op (s_e hS (e_load rfl (by repeat constructor) ty_sc9 (by rfl)) rfl ?_); clear hS a; intro a hS
  refine L_op (s_callP hS (.cons rfl .nil) cf96 rfl (ValidName_w x.meter hx.1 _) ?_); clear hS a; (try clear w); intro a w hS
  refine L_op (s_e hS (e_not rfl) rfl ?_); clear hS a; intro a hS
  refine L_op (s_e hS (e_assign rfl) rfl ?_); clear hS a; intro a hS
  refine L_nil ?_
  refine n_then ?_
  first | refine c_ifD hS rfl (fun hc3 => ?_) (fun hc3 => ?_) | refine c_if hS rfl (fun hc3 => ?_) (fun hc3 => ?_)
  ·
    refine c_seq ?_
    refine c_region ?_
    refine L_op (s_e hS (e_assign rfl) rfl ?_); clear hS a; intro a hS
    refine L_nil ?_
    refine n_then ?_
    refine wp_ret ?_
    refine r_block (r_then ?_)
    refine c_ret1 hS Try.results56 (.tmp rfl) ?_
    have hv : ¬ ValidN x.meter.data.toList := by simpa using hc3
    exact ⟨by rw [lineErr, if_pos hv], hS.chg⟩
  ·
    refine c_seq ?_
    refine c_region ?_
    first | (refine L_op (s_e hS (e_fa0 rfl ty_fo26_1) rfl ?_); clear hS a; intro a hS) | (refine L_op (s_e hS (e_faK rfl ty_fo26_1) rfl ?_); clear hS a; intro a hS)
    refine L_op (s_e hS (e_load rfl (by repeat constructor) ty_sc3 (by rfl)) rfl ?_); clear hS a; intro a hS
    refine L_op (s_e hS (e_bin rfl rfl rfl) rfl ?_); clear hS a; intro a hS
    refine L_op (s_e hS (e_move rfl) rfl ?_); clear hS a; intro a hS
    (first | refine g_splitD (t := 12) hS rfl ?_ ?_ | refine g_split (t := 12) hS rfl ?_ ?_) <;> (clear hS; intro hg12 hS)
    ·
      refine L_skip_f hS rfl rfl rfl ?_; clear hS a; intro a hS
      refine L_skip_f hS rfl rfl rfl ?_; clear hS a; intro a hS
      refine L_skip_f hS rfl rfl rfl ?_; clear hS a; intro a hS
      first | (refine L_op (s_e hS (e_pick_t rfl rfl) rfl ?_); clear hS a; intro a hS) | (refine L_op (s_e hS (e_pick_f rfl rfl) rfl ?_); clear hS a; intro a hS)
      refine L_op (s_e hS (e_move rfl) rfl ?_); clear hS a; intro a hS
      refine L_skip_f hS rfl rfl rfl ?_; clear hS a; intro a hS
      refine L_skip_f hS rfl rfl rfl ?_; clear hS a; intro a hS
      refine L_skip_f hS rfl rfl rfl ?_; clear hS a; intro a hS
      first | (refine L_op (s_e hS (e_pick_t rfl rfl) rfl ?_); clear hS a; intro a hS) | (refine L_op (s_e hS (e_pick_f rfl rfl) rfl ?_); clear hS a; intro a hS)
      refine L_op (s_e hS (e_move rfl) rfl ?_); clear hS a; intro a hS
      refine L_skip_f hS rfl rfl rfl ?_; clear hS a; intro a hS
      refine L_skip_f hS rfl rfl rfl ?_; clear hS a; intro a hS
      refine L_skip_f hS rfl rfl rfl ?_; clear hS a; intro a hS
      first | (refine L_op (s_e hS (e_pick_t rfl rfl) rfl ?_); clear hS a; intro a hS) | (refine L_op (s_e hS (e_pick_f rfl rfl) rfl ?_); clear hS a; intro a hS)
      refine L_op (s_e hS (e_move rfl) rfl ?_); clear hS a; intro a hS
      refine L_skip_f hS rfl rfl rfl ?_; clear hS a; intro a hS
      refine L_skip_f hS rfl rfl rfl ?_; clear hS a; intro a hS
      refine L_skip_f hS rfl rfl rfl ?_; clear hS a; intro a hS
      first | (refine L_op (s_e hS (e_pick_t rfl rfl) rfl ?_); clear hS a; intro a hS) | (refine L_op (s_e hS (e_pick_f rfl rfl) rfl ?_); clear hS a; intro a hS)
      refine L_op (s_e hS (e_assign rfl) rfl ?_); clear hS a; intro a hS
      refine L_nil ?_
      refine n_then ?_
      refine c_if_t hS rfl ?_
      refine c_seq ?_
      refine c_region ?_
      refine L_op (s_e hS (e_assign rfl) rfl ?_); clear hS a; intro a hS
      refine L_nil ?_
      refine n_then ?_
      refine wp_ret ?_
      refine r_block (r_then ?_)
      refine c_ret1 hS Try.results56 (.tmp rfl) ?_
      have hv : ¬ ¬ ValidN x.meter.data.toList := by simpa using hc3
      exact ⟨by rw [lineErr, if_neg hv, if_pos (by omega)], hS.chg⟩
    ·
      first | (refine L_go hS rfl rfl (s_e hS (e_fa0 rfl ty_fo26_2) rfl ?_); clear hS a; intro a hS) | (refine L_go hS rfl rfl (s_e hS (e_faK rfl ty_fo26_2) rfl ?_); clear hS a; intro a hS)
      refine L_go hS rfl rfl (s_e hS (e_load rfl (by repeat constructor) ty_sc3 (by rfl)) rfl ?_); clear hS a; intro a hS
      refine L_go hS rfl rfl (s_e hS (e_bin rfl rfl rfl) rfl ?_); clear hS a; intro a hS
      first | (refine L_op (s_e hS (e_pick_t rfl rfl) rfl ?_); clear hS a; intro a hS) | (refine L_op (s_e hS (e_pick_f rfl rfl) rfl ?_); clear hS a; intro a hS)
      refine L_op (s_e hS (e_move rfl) rfl ?_); clear hS a; intro a hS
      (first | refine g_splitD (t := 17) hS rfl ?_ ?_ | refine g_split (t := 17) hS rfl ?_ ?_) <;> (clear hS; intro hg17 hS)
      ·
        refine L_skip_f hS rfl rfl rfl ?_; clear hS a; intro a hS
        refine L_skip_f hS rfl rfl rfl ?_; clear hS a; intro a hS
        refine L_skip_f hS rfl rfl rfl ?_; clear hS a; intro a hS
        first | (refine L_op (s_e hS (e_pick_t rfl rfl) rfl ?_); clear hS a; intro a hS) | (refine L_op (s_e hS (e_pick_f rfl rfl) rfl ?_); clear hS a; intro a hS)
        refine L_op (s_e hS (e_move rfl) rfl ?_); clear hS a; intro a hS
        refine L_skip_f hS rfl rfl rfl ?_; clear hS a; intro a hS
        refine L_skip_f hS rfl rfl rfl ?_; clear hS a; intro a hS
        refine L_skip_f hS rfl rfl rfl ?_; clear hS a; intro a hS
        first | (refine L_op (s_e hS (e_pick_t rfl rfl) rfl ?_); clear hS a; intro a hS) | (refine L_op (s_e hS (e_pick_f rfl rfl) rfl ?_); clear hS a; intro a hS)
        refine L_op (s_e hS (e_move rfl) rfl ?_); clear hS a; intro a hS
        refine L_skip_f hS rfl rfl rfl ?_; clear hS a; intro a hS
        refine L_skip_f hS rfl rfl rfl ?_; clear hS a; intro a hS
        refine L_skip_f hS rfl rfl rfl ?_; clear hS a; intro a hS
        first | (refine L_op (s_e hS (e_pick_t rfl rfl) rfl ?_); clear hS a; intro a hS) | (refine L_op (s_e hS (e_pick_f rfl rfl) rfl ?_); clear hS a; intro a hS)
        refine L_op (s_e hS (e_assign rfl) rfl ?_); clear hS a; intro a hS
        refine L_nil ?_
        refine n_then ?_
        refine c_if_t hS rfl ?_
        refine c_seq ?_
        refine c_region ?_
        refine L_op (s_e hS (e_assign rfl) rfl ?_); clear hS a; intro a hS
        refine L_nil ?_
        refine n_then ?_
        refine wp_ret ?_
        refine r_block (r_then ?_)
        refine c_ret1 hS Try.results56 (.tmp rfl) ?_
        have hv : ¬ ¬ ValidN x.meter.data.toList := by simpa using hc3
        exact ⟨by rw [lineErr, if_neg hv, if_pos (by omega)], hS.chg⟩
      ·
        first | (refine L_go hS rfl rfl (s_e hS (e_fa0 rfl ty_fo26_2) rfl ?_); clear hS a; intro a hS) | (refine L_go hS rfl rfl (s_e hS (e_faK rfl ty_fo26_2) rfl ?_); clear hS a; intro a hS)
        refine L_go hS rfl rfl (s_e hS (e_load rfl (by repeat constructor) ty_sc3 (by rfl)) rfl ?_); clear hS a; intro a hS
        refine L_go hS rfl rfl (s_e hS (e_bin rfl rfl rfl) rfl ?_); clear hS a; intro a hS
        first | (refine L_op (s_e hS (e_pick_t rfl rfl) rfl ?_); clear hS a; intro a hS) | (refine L_op (s_e hS (e_pick_f rfl rfl) rfl ?_); clear hS a; intro a hS)
        refine L_op (s_e hS (e_move rfl) rfl ?_); clear hS a; intro a hS
        (first | refine g_splitD (t := 22) hS rfl ?_ ?_ | refine g_split (t := 22) hS rfl ?_ ?_) <;> (clear hS; intro hg22 hS)
        ·
          refine L_skip_f hS rfl rfl rfl ?_; clear hS a; intro a hS
          refine L_skip_f hS rfl rfl rfl ?_; clear hS a; intro a hS
          refine L_skip_f hS rfl rfl rfl ?_; clear hS a; intro a hS
          first | (refine L_op (s_e hS (e_pick_t rfl rfl) rfl ?_); clear hS a; intro a hS) | (refine L_op (s_e hS (e_pick_f rfl rfl) rfl ?_); clear hS a; intro a hS)
          refine L_op (s_e hS (e_move rfl) rfl ?_); clear hS a; intro a hS
          refine L_skip_f hS rfl rfl rfl ?_; clear hS a; intro a hS
          refine L_skip_f hS rfl rfl rfl ?_; clear hS a; intro a hS
          refine L_skip_f hS rfl rfl rfl ?_; clear hS a; intro a hS
          first | (refine L_op (s_e hS (e_pick_t rfl rfl) rfl ?_); clear hS a; intro a hS) | (refine L_op (s_e hS (e_pick_f rfl rfl) rfl ?_); clear hS a; intro a hS)
          refine L_op (s_e hS (e_assign rfl) rfl ?_); clear hS a; intro a hS
          refine L_nil ?_
          refine n_then ?_
          refine c_if_t hS rfl ?_
          refine c_seq ?_
          refine c_region ?_
          refine L_op (s_e hS (e_assign rfl) rfl ?_); clear hS a; intro a hS
          refine L_nil ?_
          refine n_then ?_
          refine wp_ret ?_
          refine r_block (r_then ?_)
          refine c_ret1 hS Try.results56 (.tmp rfl) ?_
          have hv : ¬ ¬ ValidN x.meter.data.toList := by simpa using hc3
          exact ⟨by rw [lineErr, if_neg hv, if_pos (by omega)], hS.chg⟩
        ·
          first | (refine L_go hS rfl rfl (s_e hS (e_fa0 rfl ty_fo26_3) rfl ?_); clear hS a; intro a hS) | (refine L_go hS rfl rfl (s_e hS (e_faK rfl ty_fo26_3) rfl ?_); clear hS a; intro a hS)
          refine L_go hS rfl rfl (s_e hS (e_load rfl (by repeat constructor) ty_sc3 (by rfl)) rfl ?_); clear hS a; intro a hS
          refine L_go hS rfl rfl (s_e hS (e_bin rfl rfl rfl) rfl ?_); clear hS a; intro a hS
          first | (refine L_op (s_e hS (e_pick_t rfl rfl) rfl ?_); clear hS a; intro a hS) | (refine L_op (s_e hS (e_pick_f rfl rfl) rfl ?_); clear hS a; intro a hS)
          refine L_op (s_e hS (e_move rfl) rfl ?_); clear hS a; intro a hS
          (first | refine g_splitD (t := 27) hS rfl ?_ ?_ | refine g_split (t := 27) hS rfl ?_ ?_) <;> (clear hS; intro hg27 hS)
          ·
            refine L_skip_f hS rfl rfl rfl ?_; clear hS a; intro a hS
            refine L_skip_f hS rfl rfl rfl ?_; clear hS a; intro a hS
            refine L_skip_f hS rfl rfl rfl ?_; clear hS a; intro a hS
            first | (refine L_op (s_e hS (e_pick_t rfl rfl) rfl ?_); clear hS a; intro a hS) | (refine L_op (s_e hS (e_pick_f rfl rfl) rfl ?_); clear hS a; intro a hS)
            refine L_op (s_e hS (e_assign rfl) rfl ?_); clear hS a; intro a hS
            refine L_nil ?_
            refine n_then ?_
            refine c_if_t hS rfl ?_
            refine c_seq ?_
            refine c_region ?_
            refine L_op (s_e hS (e_assign rfl) rfl ?_); clear hS a; intro a hS
            refine L_nil ?_
            refine n_then ?_
            refine wp_ret ?_
            refine r_block (r_then ?_)
            refine c_ret1 hS Try.results56 (.tmp rfl) ?_
            have hv : ¬ ¬ ValidN x.meter.data.toList := by simpa using hc3
            exact ⟨by rw [lineErr, if_neg hv, if_pos (by omega)], hS.chg⟩
          ·
            first | (refine L_go hS rfl rfl (s_e hS (e_fa0 rfl ty_fo26_3) rfl ?_); clear hS a; intro a hS) | (refine L_go hS rfl rfl (s_e hS (e_faK rfl ty_fo26_3) rfl ?_); clear hS a; intro a hS)
            refine L_go hS rfl rfl (s_e hS (e_load rfl (by repeat constructor) ty_sc3 (by rfl)) rfl ?_); clear hS a; intro a hS
            refine L_go hS rfl rfl (s_e hS (e_bin rfl rfl rfl) rfl ?_); clear hS a; intro a hS
            first | (refine L_op (s_e hS (e_pick_t rfl rfl) rfl ?_); clear hS a; intro a hS) | (refine L_op (s_e hS (e_pick_f rfl rfl) rfl ?_); clear hS a; intro a hS)
            refine L_op (s_e hS (e_assign rfl) rfl ?_); clear hS a; intro a hS
            refine L_nil ?_
            refine n_then ?_
            first | refine c_ifD hS rfl (fun hc8 => ?_) (fun hc8 => ?_) | refine c_if hS rfl (fun hc8 => ?_) (fun hc8 => ?_)
            ·
              refine c_seq ?_
              refine c_region ?_
              refine L_op (s_e hS (e_assign rfl) rfl ?_); clear hS a; intro a hS
              refine L_nil ?_
              refine n_then ?_
              refine wp_ret ?_
              refine r_block (r_then ?_)
              refine c_ret1 hS Try.results56 (.tmp rfl) ?_
              have hv : ¬ ¬ ValidN x.meter.data.toList := by simpa using hc3
              exact ⟨by rw [lineErr, if_neg hv, if_pos (by omega)], hS.chg⟩
            ·
              refine wp_skip ?_
              refine n_block ?_
              refine n_then ?_
              refine c_seq ?_
              refine c_region ?_
              refine L_op (s_e hS (e_assign rfl) rfl ?_); clear hS a; intro a hS
              refine L_nil ?_
              refine n_then ?_
              refine wp_ret ?_
              refine c_ret1 hS Try.results56 (.tmp rfl) ?_
              have hv : ¬ ¬ ValidN x.meter.data.toList := by simpa using hc3
              exact ⟨by rw [lineErr, if_neg hv, if_neg (by omega)], hS.chg⟩

/-! ### currencies -/
def encC (x : ByteArray × Int) : List Value := [.string x.1, .int .i64 x.2]
def curs : List (ByteArray × Int) := [(⟨#[67, 72, 70]⟩, 2), (⟨#[69, 85, 82]⟩, 2), (⟨#[71, 66, 80]⟩, 2), (⟨#[74, 80, 89]⟩, 0), (⟨#[75, 87, 68]⟩, 3), (⟨#[85, 83, 68]⟩, 2)]

set_option maxRecDepth 100000 in
theorem Currencies_w (w0 : World) : NewC Try.prog 112 [] w0 (fun b : Nat => .slice (some ⟨b, 0, none⟩) 6 6) (fun b => .blk b (curs.flatMap encC) 158) := by
  refine c_enter [] [] noB Try.func112 rfl Try.ntmps112 trivial rfl (by simp) (by simp) (by simp) ?_
  intro a hS
  refine c_seq ?_
  refine c_region ?_
  refine L_op (s_e hS (e_assign rfl) rfl ?_); clear hS a; intro a hS
  refine L_nil ?_
  refine n_then ?_
  refine c_seq ?_
  refine c_region ?_
  refine L_op (s_e hS (e_build ty_z158 ty_pl158 (.one rfl rfl rfl (by repeat constructor) (.one rfl rfl rfl (by repeat constructor) .nil))) rfl ?_); clear hS a; intro a hS
  refine L_op (s_e hS (e_build ty_z158 ty_pl158 (.one rfl rfl rfl (by repeat constructor) (.one rfl rfl rfl (by repeat constructor) .nil))) rfl ?_); clear hS a; intro a hS
  refine L_op (s_e hS (e_build ty_z158 ty_pl158 (.one rfl rfl rfl (by repeat constructor) (.one rfl rfl rfl (by repeat constructor) .nil))) rfl ?_); clear hS a; intro a hS
  refine L_op (s_e hS (e_build ty_z158 ty_pl158 (.one rfl rfl rfl (by repeat constructor) (.one rfl rfl rfl (by repeat constructor) .nil))) rfl ?_); clear hS a; intro a hS
  refine L_op (s_e hS (e_build ty_z158 ty_pl158 (.one rfl rfl rfl (by repeat constructor) (.one rfl rfl rfl (by repeat constructor) .nil))) rfl ?_); clear hS a; intro a hS
  refine L_op (s_e hS (e_build ty_z158 ty_pl158 (.one rfl rfl rfl (by repeat constructor) (.one rfl rfl rfl (by repeat constructor) .nil))) rfl ?_); clear hS a; intro a hS
  refine L_op (s_bslice hS ty_sl154 ty_sz158 ty_z158 rfl rfl rfl rfl (.agg rfl rfl (.agg rfl rfl (.agg rfl rfl (.agg rfl rfl (.agg rfl rfl (.agg rfl rfl .nil)))))) rfl ?_); clear hS a; (try clear w); intro a w b7 hS
  refine L_op (s_e hS (e_assign rfl) rfl ?_); clear hS a; intro a hS
  refine L_nil ?_
  refine n_then ?_
  refine wp_ret ?_
  refine c_ret1 hS Try.results112 (.tmp rfl) ?_
  exact ⟨b7, rfl, hS.chg, hS.new (.head _) rfl⟩

set_option maxRecDepth 100000 in
theorem IndexFuncCur_w (b c : Nat) (xs : List (ByteArray × Int)) (hlen : xs.length ≤ 1000) (f : FuncId) (caps : List Value) (p : ByteArray × Int → Bool) (w0 : World) (hrow : RowAt b 0 2 (xs.map encC) w0) (hb : b < w0.heap.size) (hf : CallsTo Try.prog f)
    (hp : ∀ x w', Chg noB w0 w' → PureC Try.prog f ([.agg (encC x).toArray] ++ caps) w' (.bool (p x))) :
    PureC Try.prog 113 [.slice (some ⟨b, 0, none⟩) xs.length c, .func (.func f) #[] caps.toArray] w0 (.int .i64 (firstIdx p xs)) := by
  refine c_enter [(0, .slice (some ⟨b, 0, none⟩) xs.length c), (1, .func (.func f) #[] caps.toArray)] [rowA b 0 2 (xs.map encC)] noB Try.func113 rfl Try.ntmps113 ⟨rfl, rfl, trivial⟩ rfl (by intro X hX; obtain rfl := List.mem_singleton.1 hX; exact ok_row hrow hb) (by simp) (by intro X hX hm; obtain rfl := List.mem_singleton.1 hX; cases hm) ?_
  intro a hS
  refine c_seq ?_
  refine c_region ?_
  refine L_op (s_e hS (e_assign rfl) rfl ?_); clear hS a; intro a hS
  refine L_nil ?_
  refine n_then ?_
  refine c_seq ?_
  refine c_seq ?_
  refine c_region ?_
  refine L_op (s_e hS (e_move rfl) rfl ?_); clear hS a; intro a hS
  refine L_op (s_e hS (e_len rfl rfl ty_sl154) rfl ?_); clear hS a; intro a hS
  refine L_op (s_e hS (e_move rfl) rfl ?_); clear hS a; intro a hS
  refine L_nil ?_
  refine n_then ?_
  refine wp_block ?_
  skip
  refine c_loop (γ := Nat) (fun k a w => St 19 noB w0 a w [(8, .int .i64 (k : Int)), (7, .int .i64 (xs.length : Int)), (0, .slice (some ⟨b, 0, none⟩) xs.length c), (1, .func (.func f) #[] caps.toArray)] [rowA b 0 2 (xs.map encC)] ∧ k ≤ xs.length ∧ ∀ j, j < k → ∀ y, xs[j]? = some y → p y = false) (fun k => xs.length - k) 0 ⟨hS.slots ⟨rfl, rfl, rfl, rfl, trivial⟩, Nat.zero_le _, fun j hj => by omega⟩ ?_
  clear hS a; (try clear w); intro k a w hI
  obtain ⟨hS, hk, hno⟩ := hI
  refine c_seq ?_
  refine c_region ?_
  refine L_op (s_e hS (e_bin rfl rfl rfl) rfl ?_); clear hS a; intro a hS
  refine L_nil ?_
  refine n_then ?_
  refine c_seq ?_
  first | refine c_ifD hS rfl (fun hc9 => ?_) (fun hc9 => ?_) | refine c_if hS rfl (fun hc9 => ?_) (fun hc9 => ?_)
  ·
    obtain ⟨x, hx⟩ : ∃ x, xs[k]? = some x := ⟨xs[k], by simp⟩
    have hx' : (xs.map encC)[k]? = some (encC x) := by simp [hx]
    refine wp_skip ?_
    refine n_then ?_
    refine c_seq ?_
    refine wp_block ?_
    refine c_seq ?_
    refine c_region ?_
    refine L_op (s_e hS (e_move rfl) rfl ?_); clear hS a; intro a hS
    refine L_op (s_e hS (e_assign rfl) rfl ?_); clear hS a; intro a hS
    refine L_nil ?_
    refine n_then ?_
    refine c_seq ?_
    refine c_region ?_
    refine L_op (s_e hS (e_move rfl) rfl ?_); clear hS a; intro a hS
    refine L_op (s_e hS (e_move rfl) rfl ?_); clear hS a; intro a hS
    refine L_op (s_e hS (e_move rfl) rfl ?_); clear hS a; intro a hS
    refine L_op (s_e hS (e_ixN rfl rfl ty_sl154 ty_sz158 (by omega)) rfl ?_); clear hS a; intro a hS
    refine L_op (s_e hS (e_loadAC (l := encC x) rfl ty_st158 ty_sz158 (row_get (by exact .head _) hx')) rfl ?_); clear hS a; intro a hS
    refine L_op (s_callvP hS rfl (.cons rfl .nil) hf rfl (hp x _ hS.chg) ?_); clear hS a; (try clear w); intro a w hS
    refine L_nil ?_
    refine n_then ?_
    first | refine c_ifD hS rfl (fun hc16 => ?_) (fun hc16 => ?_) | refine c_if hS rfl (fun hc16 => ?_) (fun hc16 => ?_)
    ·
      refine c_seq ?_
      refine c_region ?_
      refine L_op (s_e hS (e_move rfl) rfl ?_); clear hS a; intro a hS
      refine L_op (s_e hS (e_assign rfl) rfl ?_); clear hS a; intro a hS
      refine L_nil ?_
      refine n_then ?_
      refine wp_ret ?_
      refine r_block (r_then (r_then (r_block (r_then ?_))))
      refine c_ret1 hS Try.results113 (.tmp rfl) ?_
      exact ⟨by rw [firstIdx_some hx hc16 hno], hS.chg⟩
    ·
      refine wp_skip ?_
      refine n_block ?_
      refine n_then ?_
      refine c_region ?_
      first | (refine L_op (s_e hS (e_binN rfl rfl rfl (by omega)) rfl ?_); clear hS a; intro a hS) | (refine L_op (s_e hS (e_bin rfl rfl rfl) rfl ?_); clear hS a; intro a hS)
      refine L_op (s_e hS (e_move rfl) rfl ?_); clear hS a; intro a hS
      refine L_nil ?_
      exact ⟨k + 1, by omega, hS.slots ⟨rfl, rfl, rfl, rfl, trivial⟩, by omega, fun j hj y hy => by
      by_cases e : j = k
      · subst e; rw [hx] at hy; cases hy; exact hc16
      · exact hno j (by omega) y hy⟩
  ·
    refine wp_exit ?_
    refine x_then (x_then (x_hit ?_))
    refine n_then ?_
    refine c_seq ?_
    refine c_region ?_
    refine L_op (s_e hS (e_assign rfl) rfl ?_); clear hS a; intro a hS
    refine L_nil ?_
    refine n_then ?_
    refine wp_ret ?_
    refine c_ret1 hS Try.results113 (.tmp rfl) ?_
    exact ⟨by rw [firstIdx_none (fun j hj => hno j (by omega))], hS.chg⟩

def scaleOf (s : ByteArray) : Int × Int := match curs.find? (fun x => decide (x.1 = s)) with | some x => (x.2, 0) | none => (0, 18)
end Go.Proofs.Ytfiaobhkhedpiaa
