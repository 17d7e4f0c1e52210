/- Names, currencies and scales, walked: each answers what its plain definition says. -/
import Derived.Test.YtheofhegdjjfgaaSeTz
namespace Go.Proofs.Ytheofhegdjjfgaa
open Go.RowKit

def okc (m : Nat) : Prop := (97 ≤ m ∧ m ≤ 122) ∨ (48 ≤ m ∧ m ≤ 57) ∨ m = 45
instance (m : Nat) : Decidable (okc m) := by unfold okc; infer_instance
def ValidN (l : List UInt8) : Prop := l ≠ [] ∧ l.length ≤ 30 ∧ (97 ≤ (l.getD 0 0).toNat ∧ (l.getD 0 0).toNat ≤ 122) ∧ ∀ j, j < l.length → okc (l.getD j 0).toNat
instance (l : List UInt8) : Decidable (ValidN l) := by unfold ValidN; infer_instance

theorem str_nil (s : ByteArray) (h : s = ⟨#[]⟩) : s.data.toList = [] := by subst h; rfl
theorem ba_len (s : ByteArray) : s.data.toList.length = s.size := by simp
theorem ba_ne (s : ByteArray) (h : ¬ s = ⟨#[]⟩) : s.data.toList ≠ [] := by
  have := size_pos_of_ne h
  intro e; rw [← ba_len, e] at this; simp at this

set_option maxRecDepth 100000 in
theorem ValidName_w (s : ByteArray) (hs : s.size ≤ 4611686018427387904) (w0 : World) : PureC Try.prog 84 [.string s] w0 (.bool (decide (ValidN s.data.toList))) := by
  have hl := ba_len s
  refine c_enter [(0, .string s)] [] noB Try.func84 rfl Try.ntmps84 ⟨rfl, trivial⟩ rfl (by simp) (by simp) (by simp) ?_
  intro a hS
  refine c_seq ?_
  refine c_region ?_
  refine L_op (s_e hS (e_assign rfl) rfl ?_); clear hS a; intro a hS
  refine L_nil ?_
  refine n_then ?_
  refine c_seq ?_
  refine c_seq ?_
  refine c_region ?_
  refine L_op (s_e hS (e_move rfl) rfl ?_); clear hS a; intro a hS
  refine L_op (s_e hS (e_binS rfl rfl rfl) rfl ?_); clear hS a; intro a hS
  refine L_op (s_e hS (e_move rfl) rfl ?_); clear hS a; intro a hS
  (first | refine g_splitD (t := 7) hS rfl ?_ ?_ | refine g_split (t := 7) hS rfl ?_ ?_) <;> (clear hS; intro hg7 hS)
  ·
    refine L_skip_f hS rfl rfl rfl ?_; clear hS a; intro a hS
    refine L_skip_f hS rfl rfl rfl ?_; clear hS a; intro a hS
    refine L_skip_f hS rfl rfl rfl ?_; clear hS a; intro a hS
    first | (refine L_op (s_e hS (e_pick_t rfl rfl) rfl ?_); clear hS a; intro a hS) | (refine L_op (s_e hS (e_pick_f rfl rfl) rfl ?_); clear hS a; intro a hS)
    refine L_op (s_e hS (e_move rfl) rfl ?_); clear hS a; intro a hS
    refine L_skip_f hS rfl rfl rfl ?_; clear hS a; intro a hS
    refine L_skip_f hS rfl rfl rfl ?_; clear hS a; intro a hS
    refine L_skip_f hS rfl rfl rfl ?_; clear hS a; intro a hS
    first | (refine L_op (s_e hS (e_pick_t rfl rfl) rfl ?_); clear hS a; intro a hS) | (refine L_op (s_e hS (e_pick_f rfl rfl) rfl ?_); clear hS a; intro a hS)
    refine L_op (s_e hS (e_move rfl) rfl ?_); clear hS a; intro a hS
    refine L_skip_f hS rfl rfl rfl ?_; clear hS a; intro a hS
    refine L_skip_f hS rfl rfl rfl ?_; clear hS a; intro a hS
    refine L_skip_f hS rfl rfl rfl ?_; clear hS a; intro a hS
    first | (refine L_op (s_e hS (e_pick_t rfl rfl) rfl ?_); clear hS a; intro a hS) | (refine L_op (s_e hS (e_pick_f rfl rfl) rfl ?_); clear hS a; intro a hS)
    refine L_nil ?_
    refine n_then ?_
    refine c_if_t hS rfl ?_
    refine c_seq ?_
    refine c_region ?_
    refine L_op (s_e hS (e_assign rfl) rfl ?_); clear hS a; intro a hS
    refine L_nil ?_
    refine n_then ?_
    refine wp_ret ?_
    refine r_then ?_
    refine c_ret1 hS Try.results84 (.tmp rfl) ?_
    have hF : ¬ ValidN s.data.toList := by
      rintro ⟨h1, h2, h3, h4⟩
      first | exact h1 (str_nil s hg7) | omega | (rw [Int.toNat_zero] at *; omega) | (have h5 := h4 k (by omega); unfold okc at h5; rw [Int.toNat_natCast] at *; omega)
    exact ⟨by rw [decide_eq_false hF], hS.chg⟩
  ·
    have hpos := size_pos_of_ne hg7
    refine L_go hS rfl rfl (s_e hS (e_move rfl) rfl ?_); clear hS a; intro a hS
    refine L_go hS rfl rfl (s_e hS (e_lenS rfl rfl ty_u9) rfl ?_); clear hS a; intro a hS
    refine L_go hS rfl rfl (s_e hS (e_bin rfl rfl rfl) rfl ?_); clear hS a; intro a hS
    first | (refine L_op (s_e hS (e_pick_t rfl rfl) rfl ?_); clear hS a; intro a hS) | (refine L_op (s_e hS (e_pick_f rfl rfl) rfl ?_); clear hS a; intro a hS)
    refine L_op (s_e hS (e_move rfl) rfl ?_); clear hS a; intro a hS
    (first | refine g_splitD (t := 12) hS rfl ?_ ?_ | refine g_split (t := 12) hS rfl ?_ ?_) <;> (clear hS; intro hg12 hS)
    ·
      refine L_skip_f hS rfl rfl rfl ?_; clear hS a; intro a hS
      refine L_skip_f hS rfl rfl rfl ?_; clear hS a; intro a hS
      refine L_skip_f hS rfl rfl rfl ?_; clear hS a; intro a hS
      first | (refine L_op (s_e hS (e_pick_t rfl rfl) rfl ?_); clear hS a; intro a hS) | (refine L_op (s_e hS (e_pick_f rfl rfl) rfl ?_); clear hS a; intro a hS)
      refine L_op (s_e hS (e_move rfl) rfl ?_); clear hS a; intro a hS
      refine L_skip_f hS rfl rfl rfl ?_; clear hS a; intro a hS
      refine L_skip_f hS rfl rfl rfl ?_; clear hS a; intro a hS
      refine L_skip_f hS rfl rfl rfl ?_; clear hS a; intro a hS
      first | (refine L_op (s_e hS (e_pick_t rfl rfl) rfl ?_); clear hS a; intro a hS) | (refine L_op (s_e hS (e_pick_f rfl rfl) rfl ?_); clear hS a; intro a hS)
      refine L_nil ?_
      refine n_then ?_
      refine c_if_t hS rfl ?_
      refine c_seq ?_
      refine c_region ?_
      refine L_op (s_e hS (e_assign rfl) rfl ?_); clear hS a; intro a hS
      refine L_nil ?_
      refine n_then ?_
      refine wp_ret ?_
      refine r_then ?_
      refine c_ret1 hS Try.results84 (.tmp rfl) ?_
      have hF : ¬ ValidN s.data.toList := by
        rintro ⟨h1, h2, h3, h4⟩
        first | exact h1 (str_nil s hg7) | omega | (rw [Int.toNat_zero] at *; omega) | (have h5 := h4 k (by omega); unfold okc at h5; rw [Int.toNat_natCast] at *; omega)
      exact ⟨by rw [decide_eq_false hF], hS.chg⟩
    ·
      refine L_go hS rfl rfl (s_e hS (e_move rfl) rfl ?_); clear hS a; intro a hS
      refine L_go hS rfl rfl (s_e hS (e_ixS rfl rfl ty_u9 (by omega)) rfl ?_); clear hS a; intro a hS
      refine L_go hS rfl rfl (s_e hS (e_bin rfl rfl rfl) rfl ?_); clear hS a; intro a hS
      first | (refine L_op (s_e hS (e_pick_t rfl rfl) rfl ?_); clear hS a; intro a hS) | (refine L_op (s_e hS (e_pick_f rfl rfl) rfl ?_); clear hS a; intro a hS)
      refine L_op (s_e hS (e_move rfl) rfl ?_); clear hS a; intro a hS
      (first | refine g_splitD (t := 17) hS rfl ?_ ?_ | refine g_split (t := 17) hS rfl ?_ ?_) <;> (clear hS; intro hg17 hS)
      ·
        refine L_skip_f hS rfl rfl rfl ?_; clear hS a; intro a hS
        refine L_skip_f hS rfl rfl rfl ?_; clear hS a; intro a hS
        refine L_skip_f hS rfl rfl rfl ?_; clear hS a; intro a hS
        first | (refine L_op (s_e hS (e_pick_t rfl rfl) rfl ?_); clear hS a; intro a hS) | (refine L_op (s_e hS (e_pick_f rfl rfl) rfl ?_); clear hS a; intro a hS)
        refine L_nil ?_
        refine n_then ?_
        refine c_if_t hS rfl ?_
        refine c_seq ?_
        refine c_region ?_
        refine L_op (s_e hS (e_assign rfl) rfl ?_); clear hS a; intro a hS
        refine L_nil ?_
        refine n_then ?_
        refine wp_ret ?_
        refine r_then ?_
        refine c_ret1 hS Try.results84 (.tmp rfl) ?_
        have hF : ¬ ValidN s.data.toList := by
          rintro ⟨h1, h2, h3, h4⟩
          first | exact h1 (str_nil s hg7) | omega | (rw [Int.toNat_zero] at *; omega) | (have h5 := h4 k (by omega); unfold okc at h5; rw [Int.toNat_natCast] at *; omega)
        exact ⟨by rw [decide_eq_false hF], hS.chg⟩
      ·
        refine L_go hS rfl rfl (s_e hS (e_move rfl) rfl ?_); clear hS a; intro a hS
        refine L_go hS rfl rfl (s_e hS (e_ixS rfl rfl ty_u9 (by omega)) rfl ?_); clear hS a; intro a hS
        refine L_go hS rfl rfl (s_e hS (e_bin rfl rfl rfl) rfl ?_); clear hS a; intro a hS
        first | (refine L_op (s_e hS (e_pick_t rfl rfl) rfl ?_); clear hS a; intro a hS) | (refine L_op (s_e hS (e_pick_f rfl rfl) rfl ?_); clear hS a; intro a hS)
        refine L_nil ?_
        refine n_then ?_
        first | refine c_ifD hS rfl (fun hc21 => ?_) (fun hc21 => ?_) | refine c_if hS rfl (fun hc21 => ?_) (fun hc21 => ?_)
        ·
          refine c_seq ?_
          refine c_region ?_
          refine L_op (s_e hS (e_assign rfl) rfl ?_); clear hS a; intro a hS
          refine L_nil ?_
          refine n_then ?_
          refine wp_ret ?_
          refine r_then ?_
          refine c_ret1 hS Try.results84 (.tmp rfl) ?_
          have hF : ¬ ValidN s.data.toList := by
            rintro ⟨h1, h2, h3, h4⟩
            first | exact h1 (str_nil s hg7) | omega | (rw [Int.toNat_zero] at *; omega) | (have h5 := h4 k (by omega); unfold okc at h5; rw [Int.toNat_natCast] at *; omega)
          exact ⟨by rw [decide_eq_false hF], hS.chg⟩
        ·
          refine wp_skip ?_
          refine n_then ?_
          refine c_seq ?_
          refine c_seq ?_
          refine c_region ?_
          refine L_op (s_e hS (e_assign rfl) rfl ?_); clear hS a; intro a hS
          refine L_nil ?_
          refine n_then ?_
          refine wp_block ?_
          skip
          refine c_loop (γ := Nat) (fun k a w => St 49 noB w0 a w [(3, .int .i64 (k : Int)), (0, .string s)] [] ∧ k ≤ s.size ∧ ∀ j, j < k → okc (s.data.toList.getD j 0).toNat) (fun k => s.size - k) 0 ⟨hS.slots ⟨rfl, rfl, trivial⟩, Nat.zero_le _, fun j hj => by omega⟩ ?_
          clear hS a; (try clear w); intro k a w hI
          obtain ⟨hS, hk, hok⟩ := hI
          refine c_seq ?_
          refine c_seq ?_
          refine c_region ?_
          refine L_op (s_e hS (e_move rfl) rfl ?_); clear hS a; intro a hS
          refine L_op (s_e hS (e_move rfl) rfl ?_); clear hS a; intro a hS
          refine L_op (s_e hS (e_lenS rfl rfl ty_u9) rfl ?_); clear hS a; intro a hS
          refine L_op (s_e hS (e_bin rfl rfl rfl) rfl ?_); clear hS a; intro a hS
          refine L_nil ?_
          refine n_then ?_
          first | refine c_ifD hS rfl (fun hc25 => ?_) (fun hc25 => ?_) | refine c_if hS rfl (fun hc25 => ?_) (fun hc25 => ?_)
          ·
            refine wp_skip ?_
            refine n_then ?_
            refine c_seq ?_
            refine wp_block ?_
            refine c_seq ?_
            refine c_region ?_
            refine L_op (s_e hS (e_move rfl) rfl ?_); clear hS a; intro a hS
            refine L_op (s_e hS (e_move rfl) rfl ?_); clear hS a; intro a hS
            refine L_op (s_e hS (e_ixS rfl rfl ty_u9 (by omega)) rfl ?_); clear hS a; intro a hS
            refine L_op (s_e hS (e_assign rfl) rfl ?_); clear hS a; intro a hS
            refine L_nil ?_
            refine n_then ?_
            refine c_seq ?_
            refine c_region ?_
            refine L_op (s_e hS (e_move rfl) rfl ?_); clear hS a; intro a hS
            refine L_op (s_e hS (e_bin rfl rfl rfl) rfl ?_); clear hS a; intro a hS
            refine L_op (s_e hS (e_move rfl) rfl ?_); clear hS a; intro a hS
            (first | refine g_splitD (t := 33) hS rfl ?_ ?_ | refine g_split (t := 33) hS rfl ?_ ?_) <;> (clear hS; intro hg33 hS)
            ·
              refine L_skip_f hS rfl rfl rfl ?_; clear hS a; intro a hS
              refine L_skip_f hS rfl rfl rfl ?_; clear hS a; intro a hS
              first | (refine L_op (s_e hS (e_pick_t rfl rfl) rfl ?_); clear hS a; intro a hS) | (refine L_op (s_e hS (e_pick_f rfl rfl) rfl ?_); clear hS a; intro a hS)
              refine L_op (s_e hS (e_move rfl) rfl ?_); clear hS a; intro a hS
              refine L_go hS rfl rfl (s_e hS (e_move rfl) rfl ?_); clear hS a; intro a hS
              refine L_go hS rfl rfl (s_e hS (e_bin rfl rfl rfl) rfl ?_); clear hS a; intro a hS
              refine L_go hS rfl rfl (s_e hS (e_move rfl) rfl ?_); clear hS a; intro a hS
              (first | refine g_splitD (t := 40) hS rfl ?_ ?_ | refine g_split (t := 40) hS rfl ?_ ?_) <;> (clear hS; intro hg40 hS)
              ·
                refine L_skip_f hS rfl rfl rfl ?_; clear hS a; intro a hS
                refine L_skip_f hS rfl rfl rfl ?_; clear hS a; intro a hS
                first | (refine L_go hS rfl rfl (s_e hS (e_pick_t rfl rfl) rfl ?_); clear hS a; intro a hS) | (refine L_go hS rfl rfl (s_e hS (e_pick_f rfl rfl) rfl ?_); clear hS a; intro a hS)
                first | (refine L_op (s_e hS (e_pick_t rfl rfl) rfl ?_); clear hS a; intro a hS) | (refine L_op (s_e hS (e_pick_f rfl rfl) rfl ?_); clear hS a; intro a hS)
                refine L_op (s_e hS (e_move rfl) rfl ?_); clear hS a; intro a hS
                refine L_go hS rfl rfl (s_e hS (e_move rfl) rfl ?_); clear hS a; intro a hS
                refine L_go hS rfl rfl (s_e hS (e_bin rfl rfl rfl) rfl ?_); clear hS a; intro a hS
                first | (refine L_op (s_e hS (e_pick_t rfl rfl) rfl ?_); clear hS a; intro a hS) | (refine L_op (s_e hS (e_pick_f rfl rfl) rfl ?_); clear hS a; intro a hS)
                refine L_nil ?_
                refine n_then ?_
                first | refine c_ifD hS rfl (fun hc48 => ?_) (fun hc48 => ?_) | refine c_if hS rfl (fun hc48 => ?_) (fun hc48 => ?_)
                ·
                  refine c_seq ?_
                  refine c_region ?_
                  refine L_op (s_e hS (e_assign rfl) rfl ?_); clear hS a; intro a hS
                  refine L_nil ?_
                  refine n_then ?_
                  refine wp_ret ?_
                  refine r_block (r_then (r_then (r_block (r_then ?_))))
                  refine c_ret1 hS Try.results84 (.tmp rfl) ?_
                  have hF : ¬ ValidN s.data.toList := by
                    rintro ⟨h1, h2, h3, h4⟩
                    first | exact h1 (str_nil s hg7) | omega | (rw [Int.toNat_zero] at *; omega) | (have h5 := h4 k (by omega); unfold okc at h5; rw [Int.toNat_natCast] at *; omega)
                  exact ⟨by rw [decide_eq_false hF], hS.chg⟩
                ·
                  refine wp_skip ?_
                  refine n_block ?_
                  refine n_then ?_
                  refine c_region ?_
                  refine L_op (s_e hS (e_move rfl) rfl ?_); clear hS a; intro a hS
                  first | (refine L_op (s_e hS (e_binN rfl rfl rfl (by omega)) rfl ?_); clear hS a; intro a hS) | (refine L_op (s_e hS (e_bin rfl rfl rfl) rfl ?_); clear hS a; intro a hS)
                  refine L_op (s_e hS (e_assign rfl) rfl ?_); clear hS a; intro a hS
                  refine L_nil ?_
                  have h1 : okc (s.data.toList.getD k 0).toNat := by unfold okc; rw [Int.toNat_natCast] at *; omega
                  exact ⟨k + 1, by omega, hS.slots ⟨rfl, rfl, trivial⟩, by omega, fun j hj => by by_cases e : j = k; (subst e; exact h1); exact hok j (by omega)⟩
              ·
                refine L_go hS rfl rfl (s_e hS (e_move rfl) rfl ?_); clear hS a; intro a hS
                refine L_go hS rfl rfl (s_e hS (e_bin rfl rfl rfl) rfl ?_); clear hS a; intro a hS
                first | (refine L_go hS rfl rfl (s_e hS (e_pick_t rfl rfl) rfl ?_); clear hS a; intro a hS) | (refine L_go hS rfl rfl (s_e hS (e_pick_f rfl rfl) rfl ?_); clear hS a; intro a hS)
                first | (refine L_op (s_e hS (e_pick_t rfl rfl) rfl ?_); clear hS a; intro a hS) | (refine L_op (s_e hS (e_pick_f rfl rfl) rfl ?_); clear hS a; intro a hS)
                refine L_op (s_e hS (e_move rfl) rfl ?_); clear hS a; intro a hS
                (first | refine g_splitD (t := 45) hS rfl ?_ ?_ | refine g_split (t := 45) hS rfl ?_ ?_) <;> (clear hS; intro hg45 hS)
                ·
                  refine L_go hS rfl rfl (s_e hS (e_move rfl) rfl ?_); clear hS a; intro a hS
                  refine L_go hS rfl rfl (s_e hS (e_bin rfl rfl rfl) rfl ?_); clear hS a; intro a hS
                  first | (refine L_op (s_e hS (e_pick_t rfl rfl) rfl ?_); clear hS a; intro a hS) | (refine L_op (s_e hS (e_pick_f rfl rfl) rfl ?_); clear hS a; intro a hS)
                  refine L_nil ?_
                  refine n_then ?_
                  first | refine c_ifD hS rfl (fun hc48 => ?_) (fun hc48 => ?_) | refine c_if hS rfl (fun hc48 => ?_) (fun hc48 => ?_)
                  ·
                    refine c_seq ?_
                    refine c_region ?_
                    refine L_op (s_e hS (e_assign rfl) rfl ?_); clear hS a; intro a hS
                    refine L_nil ?_
                    refine n_then ?_
                    refine wp_ret ?_
                    refine r_block (r_then (r_then (r_block (r_then ?_))))
                    refine c_ret1 hS Try.results84 (.tmp rfl) ?_
                    have hF : ¬ ValidN s.data.toList := by
                      rintro ⟨h1, h2, h3, h4⟩
                      first | exact h1 (str_nil s hg7) | omega | (rw [Int.toNat_zero] at *; omega) | (have h5 := h4 k (by omega); unfold okc at h5; rw [Int.toNat_natCast] at *; omega)
                    exact ⟨by rw [decide_eq_false hF], hS.chg⟩
                  ·
                    refine wp_skip ?_
                    refine n_block ?_
                    refine n_then ?_
                    refine c_region ?_
                    refine L_op (s_e hS (e_move rfl) rfl ?_); clear hS a; intro a hS
                    first | (refine L_op (s_e hS (e_binN rfl rfl rfl (by omega)) rfl ?_); clear hS a; intro a hS) | (refine L_op (s_e hS (e_bin rfl rfl rfl) rfl ?_); clear hS a; intro a hS)
                    refine L_op (s_e hS (e_assign rfl) rfl ?_); clear hS a; intro a hS
                    refine L_nil ?_
                    have h1 : okc (s.data.toList.getD k 0).toNat := by unfold okc; rw [Int.toNat_natCast] at *; omega
                    exact ⟨k + 1, by omega, hS.slots ⟨rfl, rfl, trivial⟩, by omega, fun j hj => by by_cases e : j = k; (subst e; exact h1); exact hok j (by omega)⟩
                ·
                  refine L_skip_t hS rfl rfl rfl ?_; clear hS a; intro a hS
                  refine L_skip_t hS rfl rfl rfl ?_; clear hS a; intro a hS
                  first | (refine L_op (s_e hS (e_pick_t rfl rfl) rfl ?_); clear hS a; intro a hS) | (refine L_op (s_e hS (e_pick_f rfl rfl) rfl ?_); clear hS a; intro a hS)
                  refine L_nil ?_
                  refine n_then ?_
                  refine c_if_f hS rfl ?_
                  refine wp_skip ?_
                  refine n_block ?_
                  refine n_then ?_
                  refine c_region ?_
                  refine L_op (s_e hS (e_move rfl) rfl ?_); clear hS a; intro a hS
                  first | (refine L_op (s_e hS (e_binN rfl rfl rfl (by omega)) rfl ?_); clear hS a; intro a hS) | (refine L_op (s_e hS (e_bin rfl rfl rfl) rfl ?_); clear hS a; intro a hS)
                  refine L_op (s_e hS (e_assign rfl) rfl ?_); clear hS a; intro a hS
                  refine L_nil ?_
                  have h1 : okc (s.data.toList.getD k 0).toNat := by unfold okc; rw [Int.toNat_natCast] at *; omega
                  exact ⟨k + 1, by omega, hS.slots ⟨rfl, rfl, trivial⟩, by omega, fun j hj => by by_cases e : j = k; (subst e; exact h1); exact hok j (by omega)⟩
            ·
              refine L_go hS rfl rfl (s_e hS (e_move rfl) rfl ?_); clear hS a; intro a hS
              refine L_go hS rfl rfl (s_e hS (e_bin rfl rfl rfl) rfl ?_); clear hS a; intro a hS
              first | (refine L_op (s_e hS (e_pick_t rfl rfl) rfl ?_); clear hS a; intro a hS) | (refine L_op (s_e hS (e_pick_f rfl rfl) rfl ?_); clear hS a; intro a hS)
              refine L_op (s_e hS (e_move rfl) rfl ?_); clear hS a; intro a hS
              (first | refine g_splitD (t := 37) hS rfl ?_ ?_ | refine g_split (t := 37) hS rfl ?_ ?_) <;> (clear hS; intro hg37 hS)
              ·
                refine L_go hS rfl rfl (s_e hS (e_move rfl) rfl ?_); clear hS a; intro a hS
                refine L_go hS rfl rfl (s_e hS (e_bin rfl rfl rfl) rfl ?_); clear hS a; intro a hS
                refine L_go hS rfl rfl (s_e hS (e_move rfl) rfl ?_); clear hS a; intro a hS
                (first | refine g_splitD (t := 40) hS rfl ?_ ?_ | refine g_split (t := 40) hS rfl ?_ ?_) <;> (clear hS; intro hg40 hS)
                ·
                  refine L_skip_f hS rfl rfl rfl ?_; clear hS a; intro a hS
                  refine L_skip_f hS rfl rfl rfl ?_; clear hS a; intro a hS
                  first | (refine L_go hS rfl rfl (s_e hS (e_pick_t rfl rfl) rfl ?_); clear hS a; intro a hS) | (refine L_go hS rfl rfl (s_e hS (e_pick_f rfl rfl) rfl ?_); clear hS a; intro a hS)
                  first | (refine L_op (s_e hS (e_pick_t rfl rfl) rfl ?_); clear hS a; intro a hS) | (refine L_op (s_e hS (e_pick_f rfl rfl) rfl ?_); clear hS a; intro a hS)
                  refine L_op (s_e hS (e_move rfl) rfl ?_); clear hS a; intro a hS
                  refine L_go hS rfl rfl (s_e hS (e_move rfl) rfl ?_); clear hS a; intro a hS
                  refine L_go hS rfl rfl (s_e hS (e_bin rfl rfl rfl) rfl ?_); clear hS a; intro a hS
                  first | (refine L_op (s_e hS (e_pick_t rfl rfl) rfl ?_); clear hS a; intro a hS) | (refine L_op (s_e hS (e_pick_f rfl rfl) rfl ?_); clear hS a; intro a hS)
                  refine L_nil ?_
                  refine n_then ?_
                  first | refine c_ifD hS rfl (fun hc48 => ?_) (fun hc48 => ?_) | refine c_if hS rfl (fun hc48 => ?_) (fun hc48 => ?_)
                  ·
                    refine c_seq ?_
                    refine c_region ?_
                    refine L_op (s_e hS (e_assign rfl) rfl ?_); clear hS a; intro a hS
                    refine L_nil ?_
                    refine n_then ?_
                    refine wp_ret ?_
                    refine r_block (r_then (r_then (r_block (r_then ?_))))
                    refine c_ret1 hS Try.results84 (.tmp rfl) ?_
                    have hF : ¬ ValidN s.data.toList := by
                      rintro ⟨h1, h2, h3, h4⟩
                      first | exact h1 (str_nil s hg7) | omega | (rw [Int.toNat_zero] at *; omega) | (have h5 := h4 k (by omega); unfold okc at h5; rw [Int.toNat_natCast] at *; omega)
                    exact ⟨by rw [decide_eq_false hF], hS.chg⟩
                  ·
                    refine wp_skip ?_
                    refine n_block ?_
                    refine n_then ?_
                    refine c_region ?_
                    refine L_op (s_e hS (e_move rfl) rfl ?_); clear hS a; intro a hS
                    first | (refine L_op (s_e hS (e_binN rfl rfl rfl (by omega)) rfl ?_); clear hS a; intro a hS) | (refine L_op (s_e hS (e_bin rfl rfl rfl) rfl ?_); clear hS a; intro a hS)
                    refine L_op (s_e hS (e_assign rfl) rfl ?_); clear hS a; intro a hS
                    refine L_nil ?_
                    have h1 : okc (s.data.toList.getD k 0).toNat := by unfold okc; rw [Int.toNat_natCast] at *; omega
                    exact ⟨k + 1, by omega, hS.slots ⟨rfl, rfl, trivial⟩, by omega, fun j hj => by by_cases e : j = k; (subst e; exact h1); exact hok j (by omega)⟩
                ·
                  refine L_go hS rfl rfl (s_e hS (e_move rfl) rfl ?_); clear hS a; intro a hS
                  refine L_go hS rfl rfl (s_e hS (e_bin rfl rfl rfl) rfl ?_); clear hS a; intro a hS
                  first | (refine L_go hS rfl rfl (s_e hS (e_pick_t rfl rfl) rfl ?_); clear hS a; intro a hS) | (refine L_go hS rfl rfl (s_e hS (e_pick_f rfl rfl) rfl ?_); clear hS a; intro a hS)
                  first | (refine L_op (s_e hS (e_pick_t rfl rfl) rfl ?_); clear hS a; intro a hS) | (refine L_op (s_e hS (e_pick_f rfl rfl) rfl ?_); clear hS a; intro a hS)
                  refine L_op (s_e hS (e_move rfl) rfl ?_); clear hS a; intro a hS
                  (first | refine g_splitD (t := 45) hS rfl ?_ ?_ | refine g_split (t := 45) hS rfl ?_ ?_) <;> (clear hS; intro hg45 hS)
                  ·
                    refine L_go hS rfl rfl (s_e hS (e_move rfl) rfl ?_); clear hS a; intro a hS
                    refine L_go hS rfl rfl (s_e hS (e_bin rfl rfl rfl) rfl ?_); clear hS a; intro a hS
                    first | (refine L_op (s_e hS (e_pick_t rfl rfl) rfl ?_); clear hS a; intro a hS) | (refine L_op (s_e hS (e_pick_f rfl rfl) rfl ?_); clear hS a; intro a hS)
                    refine L_nil ?_
                    refine n_then ?_
                    first | refine c_ifD hS rfl (fun hc48 => ?_) (fun hc48 => ?_) | refine c_if hS rfl (fun hc48 => ?_) (fun hc48 => ?_)
                    ·
                      refine c_seq ?_
                      refine c_region ?_
                      refine L_op (s_e hS (e_assign rfl) rfl ?_); clear hS a; intro a hS
                      refine L_nil ?_
                      refine n_then ?_
                      refine wp_ret ?_
                      refine r_block (r_then (r_then (r_block (r_then ?_))))
                      refine c_ret1 hS Try.results84 (.tmp rfl) ?_
                      have hF : ¬ ValidN s.data.toList := by
                        rintro ⟨h1, h2, h3, h4⟩
                        first | exact h1 (str_nil s hg7) | omega | (rw [Int.toNat_zero] at *; omega) | (have h5 := h4 k (by omega); unfold okc at h5; rw [Int.toNat_natCast] at *; omega)
                      exact ⟨by rw [decide_eq_false hF], hS.chg⟩
                    ·
                      refine wp_skip ?_
                      refine n_block ?_
                      refine n_then ?_
                      refine c_region ?_
                      refine L_op (s_e hS (e_move rfl) rfl ?_); clear hS a; intro a hS
                      first | (refine L_op (s_e hS (e_binN rfl rfl rfl (by omega)) rfl ?_); clear hS a; intro a hS) | (refine L_op (s_e hS (e_bin rfl rfl rfl) rfl ?_); clear hS a; intro a hS)
                      refine L_op (s_e hS (e_assign rfl) rfl ?_); clear hS a; intro a hS
                      refine L_nil ?_
                      have h1 : okc (s.data.toList.getD k 0).toNat := by unfold okc; rw [Int.toNat_natCast] at *; omega
                      exact ⟨k + 1, by omega, hS.slots ⟨rfl, rfl, trivial⟩, by omega, fun j hj => by by_cases e : j = k; (subst e; exact h1); exact hok j (by omega)⟩
                  ·
                    refine L_skip_t hS rfl rfl rfl ?_; clear hS a; intro a hS
                    refine L_skip_t hS rfl rfl rfl ?_; clear hS a; intro a hS
                    first | (refine L_op (s_e hS (e_pick_t rfl rfl) rfl ?_); clear hS a; intro a hS) | (refine L_op (s_e hS (e_pick_f rfl rfl) rfl ?_); clear hS a; intro a hS)
                    refine L_nil ?_
                    refine n_then ?_
                    refine c_if_f hS rfl ?_
                    refine wp_skip ?_
                    refine n_block ?_
                    refine n_then ?_
                    refine c_region ?_
                    refine L_op (s_e hS (e_move rfl) rfl ?_); clear hS a; intro a hS
                    first | (refine L_op (s_e hS (e_binN rfl rfl rfl (by omega)) rfl ?_); clear hS a; intro a hS) | (refine L_op (s_e hS (e_bin rfl rfl rfl) rfl ?_); clear hS a; intro a hS)
                    refine L_op (s_e hS (e_assign rfl) rfl ?_); clear hS a; intro a hS
                    refine L_nil ?_
                    have h1 : okc (s.data.toList.getD k 0).toNat := by unfold okc; rw [Int.toNat_natCast] at *; omega
                    exact ⟨k + 1, by omega, hS.slots ⟨rfl, rfl, trivial⟩, by omega, fun j hj => by by_cases e : j = k; (subst e; exact h1); exact hok j (by omega)⟩
              ·
                refine L_skip_t hS rfl rfl rfl ?_; clear hS a; intro a hS
                refine L_skip_t hS rfl rfl rfl ?_; clear hS a; intro a hS
                refine L_skip_t hS rfl rfl rfl ?_; clear hS a; intro a hS
                refine L_skip_u hS rfl rfl rfl ?_; clear hS a; intro a hS
                refine L_skip_u hS rfl rfl rfl ?_; clear hS a; intro a hS
                refine L_skip_t hS rfl rfl rfl ?_; clear hS a; intro a hS
                first | (refine L_op (s_e hS (e_pick_t rfl rfl) rfl ?_); clear hS a; intro a hS) | (refine L_op (s_e hS (e_pick_f rfl rfl) rfl ?_); clear hS a; intro a hS)
                refine L_op (s_e hS (e_move rfl) rfl ?_); clear hS a; intro a hS
                refine L_skip_t hS rfl rfl rfl ?_; clear hS a; intro a hS
                refine L_skip_t hS rfl rfl rfl ?_; clear hS a; intro a hS
                first | (refine L_op (s_e hS (e_pick_t rfl rfl) rfl ?_); clear hS a; intro a hS) | (refine L_op (s_e hS (e_pick_f rfl rfl) rfl ?_); clear hS a; intro a hS)
                refine L_nil ?_
                refine n_then ?_
                refine c_if_f hS rfl ?_
                refine wp_skip ?_
                refine n_block ?_
                refine n_then ?_
                refine c_region ?_
                refine L_op (s_e hS (e_move rfl) rfl ?_); clear hS a; intro a hS
                first | (refine L_op (s_e hS (e_binN rfl rfl rfl (by omega)) rfl ?_); clear hS a; intro a hS) | (refine L_op (s_e hS (e_bin rfl rfl rfl) rfl ?_); clear hS a; intro a hS)
                refine L_op (s_e hS (e_assign rfl) rfl ?_); clear hS a; intro a hS
                refine L_nil ?_
                have h1 : okc (s.data.toList.getD k 0).toNat := by unfold okc; rw [Int.toNat_natCast] at *; omega
                exact ⟨k + 1, by omega, hS.slots ⟨rfl, rfl, trivial⟩, by omega, fun j hj => by by_cases e : j = k; (subst e; exact h1); exact hok j (by omega)⟩
          ·
            refine wp_exit ?_
            refine x_then (x_then (x_hit ?_))
            refine n_then ?_
            refine c_seq ?_
            refine c_region ?_
            refine L_op (s_e hS (e_assign rfl) rfl ?_); clear hS a; intro a hS
            refine L_nil ?_
            refine n_then ?_
            refine wp_ret ?_
            refine c_ret1 hS Try.results84 (.tmp rfl) ?_
            exact ⟨by rw [decide_eq_true (show ValidN s.data.toList from ⟨ba_ne s hg7, by omega, by rw [Int.toNat_zero] at *; omega, fun j hj => hok j (by omega)⟩)], hS.chg⟩

set_option maxRecDepth 100000 in
theorem Num_w (n : Int) (w0 : World) : PureC Try.prog 16 [.int .i64 n] w0 (.int .i64 n) := by
  refine c_enter [(0, .int .i64 n)] [] noB Try.func16 rfl Try.ntmps16 ⟨rfl, trivial⟩ rfl (by simp) (by simp) (by simp) ?_
  intro a hS
  refine c_seq ?_
  refine c_region ?_
  refine L_op (s_e hS (e_assign rfl) rfl ?_); clear hS a; intro a hS
  refine L_nil ?_
  refine n_then ?_
  refine c_seq ?_
  refine c_region ?_
  refine L_op (s_e hS (e_move rfl) rfl ?_); clear hS a; intro a hS
  skip
  refine L_op (s_e hS (e_assign rfl) rfl ?_); clear hS a; intro a hS
  refine L_nil ?_
  refine n_then ?_
  refine wp_ret ?_
  refine c_ret1 hS Try.results16 (.tmp rfl) ?_
  exact ⟨rfl, hS.chg⟩

/-! ### currencies -/
def encC (x : ByteArray × Int) : List Value := [.string x.1, .int .i64 x.2]
def curs : List (ByteArray × Int) := [(⟨#[67, 72, 70]⟩, 2), (⟨#[69, 85, 82]⟩, 2), (⟨#[71, 66, 80]⟩, 2), (⟨#[74, 80, 89]⟩, 0), (⟨#[75, 87, 68]⟩, 3), (⟨#[85, 83, 68]⟩, 2)]

set_option maxRecDepth 100000 in
theorem Currencies_w (w0 : World) : NewC Try.prog 106 [] w0 (fun b : Nat => .slice (some ⟨b, 0, none⟩) 6 6) (fun b => .blk b (curs.flatMap encC) 180) := by
  refine c_enter [] [] noB Try.func106 rfl Try.ntmps106 trivial rfl (by simp) (by simp) (by simp) ?_
  intro a hS
  refine c_seq ?_
  refine c_region ?_
  refine L_op (s_e hS (e_assign rfl) rfl ?_); clear hS a; intro a hS
  refine L_nil ?_
  refine n_then ?_
  refine c_seq ?_
  refine c_region ?_
  refine L_op (s_e hS (e_build ty_z180 ty_pl180 (.one rfl rfl rfl (by repeat constructor) (.one rfl rfl rfl (by repeat constructor) .nil))) rfl ?_); clear hS a; intro a hS
  refine L_op (s_e hS (e_build ty_z180 ty_pl180 (.one rfl rfl rfl (by repeat constructor) (.one rfl rfl rfl (by repeat constructor) .nil))) rfl ?_); clear hS a; intro a hS
  refine L_op (s_e hS (e_build ty_z180 ty_pl180 (.one rfl rfl rfl (by repeat constructor) (.one rfl rfl rfl (by repeat constructor) .nil))) rfl ?_); clear hS a; intro a hS
  refine L_op (s_e hS (e_build ty_z180 ty_pl180 (.one rfl rfl rfl (by repeat constructor) (.one rfl rfl rfl (by repeat constructor) .nil))) rfl ?_); clear hS a; intro a hS
  refine L_op (s_e hS (e_build ty_z180 ty_pl180 (.one rfl rfl rfl (by repeat constructor) (.one rfl rfl rfl (by repeat constructor) .nil))) rfl ?_); clear hS a; intro a hS
  refine L_op (s_e hS (e_build ty_z180 ty_pl180 (.one rfl rfl rfl (by repeat constructor) (.one rfl rfl rfl (by repeat constructor) .nil))) rfl ?_); clear hS a; intro a hS
  refine L_op (s_bslice hS ty_sl176 ty_sz180 ty_z180 rfl rfl rfl rfl (.agg rfl rfl (.agg rfl rfl (.agg rfl rfl (.agg rfl rfl (.agg rfl rfl (.agg rfl rfl .nil)))))) rfl ?_); clear hS a; (try clear w); intro a w b7 hS
  refine L_op (s_e hS (e_assign rfl) rfl ?_); clear hS a; intro a hS
  refine L_nil ?_
  refine n_then ?_
  refine wp_ret ?_
  refine c_ret1 hS Try.results106 (.tmp rfl) ?_
  exact ⟨b7, rfl, hS.chg, hS.new (.head _) rfl⟩

set_option maxRecDepth 100000 in
theorem IndexFuncCur_w (b c : Nat) (xs : List (ByteArray × Int)) (hlen : xs.length ≤ 1000) (f : FuncId) (caps : List Value) (p : ByteArray × Int → Bool) (w0 : World) (hrow : RowAt b 0 2 (xs.map encC) w0) (hb : b < w0.heap.size) (hf : CallsTo Try.prog f)
    (hp : ∀ x w', Chg noB w0 w' → PureC Try.prog f ([.agg (encC x).toArray] ++ caps) w' (.bool (p x))) :
    PureC Try.prog 107 [.slice (some ⟨b, 0, none⟩) xs.length c, .func (.func f) #[] caps.toArray] w0 (.int .i64 (firstIdx p xs)) := by
  refine c_enter [(0, .slice (some ⟨b, 0, none⟩) xs.length c), (1, .func (.func f) #[] caps.toArray)] [rowA b 0 2 (xs.map encC)] noB Try.func107 rfl Try.ntmps107 ⟨rfl, rfl, trivial⟩ rfl (by intro X hX; obtain rfl := List.mem_singleton.1 hX; exact ok_row hrow hb) (by simp) (by intro X hX hm; obtain rfl := List.mem_singleton.1 hX; cases hm) ?_
  intro a hS
  refine c_seq ?_
  refine c_region ?_
  refine L_op (s_e hS (e_assign rfl) rfl ?_); clear hS a; intro a hS
  refine L_nil ?_
  refine n_then ?_
  refine c_seq ?_
  refine c_seq ?_
  refine c_region ?_
  refine L_op (s_e hS (e_move rfl) rfl ?_); clear hS a; intro a hS
  refine L_op (s_e hS (e_len rfl rfl ty_sl176) rfl ?_); clear hS a; intro a hS
  refine L_op (s_e hS (e_move rfl) rfl ?_); clear hS a; intro a hS
  refine L_nil ?_
  refine n_then ?_
  refine wp_block ?_
  skip
  refine c_loop (γ := Nat) (fun k a w => St 19 noB w0 a w [(8, .int .i64 (k : Int)), (7, .int .i64 (xs.length : Int)), (0, .slice (some ⟨b, 0, none⟩) xs.length c), (1, .func (.func f) #[] caps.toArray)] [rowA b 0 2 (xs.map encC)] ∧ k ≤ xs.length ∧ ∀ j, j < k → ∀ y, xs[j]? = some y → p y = false) (fun k => xs.length - k) 0 ⟨hS.slots ⟨rfl, rfl, rfl, rfl, trivial⟩, Nat.zero_le _, fun j hj => by omega⟩ ?_
  clear hS a; (try clear w); intro k a w hI
  obtain ⟨hS, hk, hno⟩ := hI
  refine c_seq ?_
  refine c_region ?_
  refine L_op (s_e hS (e_bin rfl rfl rfl) rfl ?_); clear hS a; intro a hS
  refine L_nil ?_
  refine n_then ?_
  refine c_seq ?_
  first | refine c_ifD hS rfl (fun hc9 => ?_) (fun hc9 => ?_) | refine c_if hS rfl (fun hc9 => ?_) (fun hc9 => ?_)
  ·
    obtain ⟨x, hx⟩ : ∃ x, xs[k]? = some x := ⟨xs[k], by simp⟩
    have hx' : (xs.map encC)[k]? = some (encC x) := by simp [hx]
    refine wp_skip ?_
    refine n_then ?_
    refine c_seq ?_
    refine wp_block ?_
    refine c_seq ?_
    refine c_region ?_
    refine L_op (s_e hS (e_move rfl) rfl ?_); clear hS a; intro a hS
    refine L_op (s_e hS (e_assign rfl) rfl ?_); clear hS a; intro a hS
    refine L_nil ?_
    refine n_then ?_
    refine c_seq ?_
    refine c_region ?_
    refine L_op (s_e hS (e_move rfl) rfl ?_); clear hS a; intro a hS
    refine L_op (s_e hS (e_move rfl) rfl ?_); clear hS a; intro a hS
    refine L_op (s_e hS (e_move rfl) rfl ?_); clear hS a; intro a hS
    refine L_op (s_e hS (e_ixN rfl rfl ty_sl176 ty_sz180 (by omega)) rfl ?_); clear hS a; intro a hS
    refine L_op (s_e hS (e_loadAC (l := encC x) rfl ty_st180 ty_sz180 (row_get (by exact .head _) hx')) rfl ?_); clear hS a; intro a hS
    refine L_op (s_callvP hS rfl (.cons rfl .nil) hf rfl (hp x _ hS.chg) ?_); clear hS a; (try clear w); intro a w hS
    refine L_nil ?_
    refine n_then ?_
    first | refine c_ifD hS rfl (fun hc16 => ?_) (fun hc16 => ?_) | refine c_if hS rfl (fun hc16 => ?_) (fun hc16 => ?_)
    ·
      refine c_seq ?_
      refine c_region ?_
      refine L_op (s_e hS (e_move rfl) rfl ?_); clear hS a; intro a hS
      refine L_op (s_e hS (e_assign rfl) rfl ?_); clear hS a; intro a hS
      refine L_nil ?_
      refine n_then ?_
      refine wp_ret ?_
      refine r_block (r_then (r_then (r_block (r_then ?_))))
      refine c_ret1 hS Try.results107 (.tmp rfl) ?_
      exact ⟨by rw [firstIdx_some hx hc16 hno], hS.chg⟩
    ·
      refine wp_skip ?_
      refine n_block ?_
      refine n_then ?_
      refine c_region ?_
      first | (refine L_op (s_e hS (e_binN rfl rfl rfl (by omega)) rfl ?_); clear hS a; intro a hS) | (refine L_op (s_e hS (e_bin rfl rfl rfl) rfl ?_); clear hS a; intro a hS)
      refine L_op (s_e hS (e_move rfl) rfl ?_); clear hS a; intro a hS
      refine L_nil ?_
      exact ⟨k + 1, by omega, hS.slots ⟨rfl, rfl, rfl, rfl, trivial⟩, by omega, fun j hj y hy => by
      by_cases e : j = k
      · subst e; rw [hx] at hy; cases hy; exact hc16
      · exact hno j (by omega) y hy⟩
  ·
    refine wp_exit ?_
    refine x_then (x_then (x_hit ?_))
    refine n_then ?_
    refine c_seq ?_
    refine c_region ?_
    refine L_op (s_e hS (e_assign rfl) rfl ?_); clear hS a; intro a hS
    refine L_nil ?_
    refine n_then ?_
    refine wp_ret ?_
    refine c_ret1 hS Try.results107 (.tmp rfl) ?_
    exact ⟨by rw [firstIdx_none (fun j hj => hno j (by omega))], hS.chg⟩

def scaleOf (s : ByteArray) : Int × Int := match curs.find? (fun x => decide (x.1 = s)) with | some x => (x.2, 0) | none => (0, 18)
set_option maxRecDepth 100000 in
theorem Scale1_P (x : ByteArray × Int) (s : ByteArray) (bp E : Nat) (w0 : World) (h : w0.heap[bp]? = some (.cells [Value.string s].toArray E (0, 0))) :
    PureC Try.prog 108 [.agg (encC x).toArray, .pointer (some ⟨bp, 0, none⟩)] w0 (.bool (decide (x.1 = s))) := by
  refine c_enter [(0, .agg (encC x).toArray), (1, .pointer (some ⟨bp, 0, none⟩))] [.any (fun k => k = bp) (fun w => w.heap[bp]? = some (.cells [Value.string s].toArray E (0, 0))) false] noB Try.func108 rfl Try.ntmps108 ⟨rfl, rfl, trivial⟩ rfl (by intro X hX; obtain rfl := List.mem_singleton.1 hX; exact ⟨fun k hk => by obtain rfl : k = bp := hk; exact (Array.getElem?_eq_some_iff.1 h).1, fun w' hw => by show w'.heap[bp]? = _; rw [hw bp rfl]; exact h⟩) (by simp) (by intro X hX hm; obtain rfl := List.mem_singleton.1 hX; cases hm) ?_
  intro a hS
  refine c_seq ?_
  refine c_region ?_
  refine L_op (s_boxA hS rfl rfl ?_); clear hS a; (try clear w); intro a w b2 hS
  refine L_op (s_e hS (e_assign rfl) rfl ?_); clear hS a; intro a hS
  refine L_nil ?_
  refine n_then ?_
  refine c_seq ?_
  refine c_region ?_
  first | (refine L_op (s_e hS (e_fa0 rfl ty_fo180_0) rfl ?_); clear hS a; intro a hS) | (refine L_op (s_e hS (e_faK rfl ty_fo180_0) rfl ?_); clear hS a; intro a hS)
  refine L_op (s_e hS (e_load rfl (by repeat constructor) ty_sc9 (by rfl)) rfl ?_); clear hS a; intro a hS
  refine L_op (s_e hS (e_loadC rfl ty_sc9 (fun w hh => cell_of_blk (cs := [Value.string s]) (E := E) (hh _ (.tail _ (.head _))) rfl)) rfl ?_); clear hS a; intro a hS
  refine L_op (s_e hS (e_binS rfl rfl rfl) rfl ?_); clear hS a; intro a hS
  refine L_op (s_e hS (e_assign rfl) rfl ?_); clear hS a; intro a hS
  refine L_nil ?_
  refine n_then ?_
  refine wp_ret ?_
  refine c_ret1 hS Try.results108 (.tmp rfl) ?_
  exact ⟨rfl, hS.chg⟩

def curIdx (s : ByteArray) : Int := firstIdx (fun x : ByteArray × Int => decide (x.1 = s)) curs
def scaleR (s : ByteArray) : Int × Int := if curIdx s < 0 then (0, 18) else ((curs.getD (curIdx s).toNat (⟨#[]⟩, 0)).2, 0)

set_option maxRecDepth 100000 in
theorem Scale_P (s : ByteArray) (w0 : World) : PureC Try.prog 79 [.string s] w0 (.tuple [.int .i64 (scaleR s).1, .int .i64 (scaleR s).2].toArray) := by
  refine c_enter [(0, .string s)] [] noB Try.func79 rfl Try.ntmps79 ⟨rfl, trivial⟩ rfl (by simp) (by simp) (by simp) ?_
  intro a hS
  refine c_seq ?_
  refine c_region ?_
  refine L_op (s_box1 hS rfl rfl rfl ?_); clear hS a; (try clear w); intro a w b1 hS
  refine L_op (s_e hS (e_assign rfl) rfl ?_); clear hS a; intro a hS
  refine L_op (s_e hS (e_assign rfl) rfl ?_); clear hS a; intro a hS
  refine L_nil ?_
  refine n_then ?_
  refine c_seq ?_
  refine c_region ?_
  refine L_op (s_callN hS .nil cf106 rfl (Currencies_w _) ?_); clear hS a; (try clear w); intro x6 a w hS
  refine L_op (s_e hS (e_assign rfl) rfl ?_); clear hS a; intro a hS
  refine L_nil ?_
  refine n_then ?_
  refine c_seq ?_
  refine c_region ?_
  refine L_op (s_e hS (e_move rfl) rfl ?_); clear hS a; intro a hS
  refine L_op (s_e hS (e_makeFunc .nil (.cons rfl .nil)) rfl ?_); clear hS a; intro a hS
  refine L_op (s_callP hS (.cons rfl (.cons rfl .nil)) cf107 rfl (IndexFuncCur_w x6 6 curs (by decide) 108 [.pointer (some ⟨b1, 0, none⟩)] (fun x : ByteArray × Int => decide (x.1 = s)) _ (row_of_flat (enc := encC) (fun _ => rfl) (hS.get (.head _))) ((hS.ok _ (.head _)).lt x6 rfl) cf108 (fun x w' hc => Scale1_P x s b1 _ w' (by rw [hc.block b1 ((hS.ok _ (.tail _ (.head _))).lt b1 rfl) (fun hf => hf)]; exact hS.get (.tail _ (.head _))))) ?_); clear hS a; (try clear w); intro a w hS
  refine L_op (s_e hS (e_assign rfl) rfl ?_); clear hS a; intro a hS
  refine L_nil ?_
  refine n_then ?_
  refine c_seq ?_
  refine c_seq ?_
  refine c_region ?_
  refine L_op (s_e hS (e_move rfl) rfl ?_); clear hS a; intro a hS
  refine L_op (s_e hS (e_bin rfl rfl rfl) rfl ?_); clear hS a; intro a hS
  refine L_nil ?_
  refine n_then ?_
  first | refine c_ifD hS rfl (fun hc11 => ?_) (fun hc11 => ?_) | refine c_if hS rfl (fun hc11 => ?_) (fun hc11 => ?_)
  ·
    refine c_seq ?_
    refine c_region ?_
    refine L_op (s_e hS (e_assign rfl) rfl ?_); clear hS a; intro a hS
    refine L_op (s_e hS (e_assign rfl) rfl ?_); clear hS a; intro a hS
    refine L_nil ?_
    refine n_then ?_
    refine wp_ret ?_
    refine r_then ?_
    refine c_retN hS Try.results79 (.cons (.tmp rfl) (.cons (.tmp rfl) .nil)) rfl ?_
    have hi : curIdx s < 0 := hc11
    rw [scaleR, if_pos hi]; exact ⟨rfl, hS.chg⟩
  ·
    obtain ⟨i, x, hi, hx, hp⟩ : ∃ i x, curIdx s = ((i : Nat) : Int) ∧ curs[i]? = some x ∧ decide (x.1 = s) = true := by
      rcases firstIdx_cases (fun x : ByteArray × Int => decide (x.1 = s)) curs with h | h
      · exact h
      · exfalso; have := h.1; exact hc11 (by show curIdx s < 0; unfold curIdx; omega)
    have hlt : i < 6 := (List.getElem?_eq_some_iff.1 hx).1
    change St _ _ _ _ _ ((11, _) :: (10, .int .i64 (curIdx s)) :: (5, .int .i64 (curIdx s)) :: (9, .int .i64 (curIdx s)) :: _) _ at hS
    rw [hi] at hS
    refine wp_skip ?_
    refine n_then ?_
    refine c_seq ?_
    refine c_region ?_
    refine L_op (s_e hS (e_move rfl) rfl ?_); clear hS a; intro a hS
    refine L_op (s_e hS (e_move rfl) rfl ?_); clear hS a; intro a hS
    refine L_op (s_e hS (e_ixN rfl rfl ty_sl176 ty_sz180 (by omega)) rfl ?_); clear hS a; intro a hS
    first | (refine L_op (s_e hS (e_fa0 rfl ty_fo180_1) rfl ?_); clear hS a; intro a hS) | (refine L_op (s_e hS (e_faK rfl ty_fo180_1) rfl ?_); clear hS a; intro a hS)
    refine L_op (s_e hS (e_loadC rfl ty_sc3 (fun w hh => blkrow_get (enc := encC) (by repeat (first | exact .head _ | refine .tail _ ?_)) (fun _ => rfl) hx w hh 1 (.int .i64 x.2) rfl)) rfl ?_); clear hS a; intro a hS
    refine L_op (s_e hS (e_assign rfl) rfl ?_); clear hS a; intro a hS
    refine L_op (s_e hS (e_assign rfl) rfl ?_); clear hS a; intro a hS
    refine L_nil ?_
    refine n_then ?_
    refine wp_ret ?_
    refine c_retN hS Try.results79 (.cons (.tmp rfl) (.cons (.tmp rfl) .nil)) rfl ?_
    have hg : curs.getD i (⟨#[]⟩, 0) = x := by rw [List.getD_eq_getElem?_getD, hx]; rfl
    rw [scaleR, if_neg (show ¬ curIdx s < 0 from hc11), hi, Int.toNat_natCast, hg]; exact ⟨rfl, hS.chg⟩

end Go.Proofs.Ytheofhegdjjfgaa
