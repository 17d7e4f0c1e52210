/- The form of a number's text, walked. -/
import Derived.Test.YtheofhegdjjfgaaSe6
import Derived.Test.YtheofhegdjjfgaaSeTy
namespace Go.Proofs.Ytheofhegdjjfgaa
open Go.RowKit

def byteAt (l : List UInt8) (i : Nat) : Nat := (l.getD i 0).toNat
def numBody (l : List UInt8) : List UInt8 := if 1 < l.length ∧ byteAt l 0 = 45 then l.drop 1 else l
/-- the one form of a number: 0, or digits without 0 ahead, perhaps a minus sign ahead. -/
def NumForm (l : List UInt8) : Prop := numBody l ≠ [] ∧ ¬ (1 < (numBody l).length ∧ byteAt (numBody l) 0 = 48) ∧ ¬ (numBody l = [48] ∧ 1 < l.length) ∧ ∀ j, j < (numBody l).length → 48 ≤ byteAt (numBody l) j ∧ byteAt (numBody l) j ≤ 57
instance (l : List UInt8) : Decidable (NumForm l) := by unfold NumForm; infer_instance
theorem size_list (s : ByteArray) : s.data.toList.length = s.size := by simp
theorem drop_one (s : ByteArray) : (s.extract 1 s.size).data.toList = s.data.toList.drop 1 := by
  simp only [ByteArray.data_extract, Array.toList_extract, List.extract_eq_take_drop]
  rw [List.take_of_length_le (by simp)]
theorem extract_from (s : ByteArray) : s.extract (1 : Int).toNat s.size = s.extract 1 s.size := rfl
theorem nil_list {s : ByteArray} : s = ⟨#[]⟩ ↔ s.data.toList = [] := by
  constructor
  · rintro rfl; rfl
  · intro h; apply ByteArray.ext; simpa using h
theorem one_list {s : ByteArray} {x : UInt8} : s = ⟨#[x]⟩ ↔ s.data.toList = [x] := by
  constructor
  · rintro rfl; rfl
  · intro h; apply ByteArray.ext; apply Array.ext'; simpa using h

set_option maxRecDepth 100000 in
theorem NumberForm_P (s : ByteArray) (hs : s.size ≤ 4611686018427387904) (w0 : World) : PureC Try.prog 143 [.string s] w0 (.bool (decide (NumForm s.data.toList))) := by
  have hl := size_list s
  refine c_enter [(0, .string s)] [] noB Try.func143 rfl Try.ntmps143 ⟨rfl, trivial⟩ rfl (by simp) (by simp) (by simp) ?_
  intro a hS
  refine c_seq ?_
  refine c_region ?_
  refine L_op (s_e hS (e_assign rfl) rfl ?_); clear hS a; intro a hS
  refine L_nil ?_
  refine n_then ?_
  refine c_seq ?_
  refine c_region ?_
  refine L_op (s_e hS (e_move rfl) rfl ?_); clear hS a; intro a hS
  refine L_op (s_e hS (e_assign rfl) rfl ?_); clear hS a; intro a hS
  refine L_nil ?_
  refine n_then ?_
  refine c_cut (fun a w => ∃ d : ByteArray, St 53 noB w0 a w [(3, .string d), (0, .string s), (2, .bool false)] [] ∧ d.data.toList = numBody s.data.toList) ?_ ?_
  ·
    refine c_seq ?_
    refine c_region ?_
    refine L_op (s_e hS (e_move rfl) rfl ?_); clear hS a; intro a hS
    refine L_op (s_e hS (e_lenS rfl rfl ty_u9) rfl ?_); clear hS a; intro a hS
    refine L_op (s_e hS (e_bin rfl rfl rfl) rfl ?_); clear hS a; intro a hS
    refine L_op (s_e hS (e_move rfl) rfl ?_); clear hS a; intro a hS
    (first | refine g_splitD (t := 9) hS rfl ?_ ?_ | refine g_split (t := 9) hS rfl ?_ ?_) <;> (clear hS; intro hg9 hS)
    ·
      refine L_go hS rfl rfl (s_e hS (e_move rfl) rfl ?_); clear hS a; intro a hS
      refine L_go hS rfl rfl (s_e hS (e_ixS rfl rfl ty_u9 (by omega)) rfl ?_); clear hS a; intro a hS
      refine L_go hS rfl rfl (s_e hS (e_bin rfl rfl rfl) rfl ?_); clear hS a; intro a hS
      first | (refine L_op (s_e hS (e_pick_t rfl rfl) rfl ?_); clear hS a; intro a hS) | (refine L_op (s_e hS (e_pick_f rfl rfl) rfl ?_); clear hS a; intro a hS)
      refine L_nil ?_
      refine n_then ?_
      first | refine c_ifD hS rfl (fun hc13 => ?_) (fun hc13 => ?_) | refine c_if hS rfl (fun hc13 => ?_) (fun hc13 => ?_)
      ·
        refine c_region ?_
        refine L_op (s_e hS (e_move rfl) rfl ?_); clear hS a; intro a hS
        refine L_op (s_e hS (e_slSf rfl rfl ty_u9 (by omega)) rfl ?_); clear hS a; intro a hS
        refine L_op (s_e hS (e_assign rfl) rfl ?_); clear hS a; intro a hS
        refine L_nil ?_
        first
        | exact ⟨_, hS.slots (by exact ⟨rfl, rfl, rfl, trivial⟩), by unfold numBody byteAt; rw [if_pos ⟨by omega, by rw [Int.toNat_zero] at *; omega⟩]; exact drop_one s⟩
        | exact ⟨_, hS.slots (by exact ⟨rfl, rfl, rfl, trivial⟩), by unfold numBody byteAt; rw [if_neg (by rw [Int.toNat_zero] at *; omega)]⟩
        | exact ⟨_, hS.slots (by exact ⟨rfl, rfl, rfl, trivial⟩), by unfold numBody byteAt; rw [if_neg (by omega)]⟩
      ·
        refine wp_skip ?_
        first
        | exact ⟨_, hS.slots (by exact ⟨rfl, rfl, rfl, trivial⟩), by unfold numBody byteAt; rw [if_pos ⟨by omega, by rw [Int.toNat_zero] at *; omega⟩]; exact drop_one s⟩
        | exact ⟨_, hS.slots (by exact ⟨rfl, rfl, rfl, trivial⟩), by unfold numBody byteAt; rw [if_neg (by rw [Int.toNat_zero] at *; omega)]⟩
        | exact ⟨_, hS.slots (by exact ⟨rfl, rfl, rfl, trivial⟩), by unfold numBody byteAt; rw [if_neg (by omega)]⟩
    ·
      refine L_skip_t hS rfl rfl rfl ?_; clear hS a; intro a hS
      refine L_skip_t hS rfl rfl rfl ?_; clear hS a; intro a hS
      refine L_skip_t hS rfl rfl rfl ?_; clear hS a; intro a hS
      first | (refine L_op (s_e hS (e_pick_t rfl rfl) rfl ?_); clear hS a; intro a hS) | (refine L_op (s_e hS (e_pick_f rfl rfl) rfl ?_); clear hS a; intro a hS)
      refine L_nil ?_
      refine n_then ?_
      refine c_if_f hS rfl ?_
      refine wp_skip ?_
      first
      | exact ⟨_, hS.slots (by exact ⟨rfl, rfl, rfl, trivial⟩), by unfold numBody byteAt; rw [if_pos ⟨by omega, by rw [Int.toNat_zero] at *; omega⟩]; exact drop_one s⟩
      | exact ⟨_, hS.slots (by exact ⟨rfl, rfl, rfl, trivial⟩), by unfold numBody byteAt; rw [if_neg (by rw [Int.toNat_zero] at *; omega)]⟩
      | exact ⟨_, hS.slots (by exact ⟨rfl, rfl, rfl, trivial⟩), by unfold numBody byteAt; rw [if_neg (by omega)]⟩
  ·
    clear hS a; (try clear w); intro a w hS
    obtain ⟨d, hS, hd⟩ := hS
    have hld := size_list d
    have hds : d.size ≤ s.size := by
      rw [← hld, hd]; unfold numBody; split
      · rw [List.length_drop]; omega
      · omega
    refine c_seq ?_
    refine c_seq ?_
    refine c_region ?_
    refine L_op (s_e hS (e_move rfl) rfl ?_); clear hS a; intro a hS
    refine L_op (s_e hS (e_binS rfl rfl rfl) rfl ?_); clear hS a; intro a hS
    refine L_op (s_e hS (e_move rfl) rfl ?_); clear hS a; intro a hS
    (first | refine g_splitD (t := 18) hS rfl ?_ ?_ | refine g_split (t := 18) hS rfl ?_ ?_) <;> (clear hS; intro hg18 hS)
    ·
      refine L_skip_f hS rfl rfl rfl ?_; clear hS a; intro a hS
      refine L_skip_f hS rfl rfl rfl ?_; clear hS a; intro a hS
      refine L_skip_f hS rfl rfl rfl ?_; clear hS a; intro a hS
      refine L_skip_f hS rfl rfl rfl ?_; clear hS a; intro a hS
      refine L_skip_u hS rfl rfl rfl ?_; clear hS a; intro a hS
      refine L_skip_u hS rfl rfl rfl ?_; clear hS a; intro a hS
      refine L_skip_u hS rfl rfl rfl ?_; clear hS a; intro a hS
      refine L_skip_f hS rfl rfl rfl ?_; clear hS a; intro a hS
      first | (refine L_op (s_e hS (e_pick_t rfl rfl) rfl ?_); clear hS a; intro a hS) | (refine L_op (s_e hS (e_pick_f rfl rfl) rfl ?_); clear hS a; intro a hS)
      refine L_op (s_e hS (e_move rfl) rfl ?_); clear hS a; intro a hS
      refine L_skip_f hS rfl rfl rfl ?_; clear hS a; intro a hS
      refine L_skip_f hS rfl rfl rfl ?_; clear hS a; intro a hS
      refine L_skip_f hS rfl rfl rfl ?_; clear hS a; intro a hS
      refine L_skip_u hS rfl rfl rfl ?_; clear hS a; intro a hS
      refine L_skip_u hS rfl rfl rfl ?_; clear hS a; intro a hS
      refine L_skip_u hS rfl rfl rfl ?_; clear hS a; intro a hS
      refine L_skip_f hS rfl rfl rfl ?_; clear hS a; intro a hS
      first | (refine L_op (s_e hS (e_pick_t rfl rfl) rfl ?_); clear hS a; intro a hS) | (refine L_op (s_e hS (e_pick_f rfl rfl) rfl ?_); clear hS a; intro a hS)
      refine L_nil ?_
      refine n_then ?_
      refine c_if_t hS rfl ?_
      refine c_seq ?_
      refine c_region ?_
      refine L_op (s_e hS (e_assign rfl) rfl ?_); clear hS a; intro a hS
      refine L_nil ?_
      refine n_then ?_
      refine wp_ret ?_
      refine r_then ?_
      refine c_ret1 hS Try.results143 (.tmp rfl) ?_
      have hF : ¬ NumForm s.data.toList := by
        unfold NumForm
        rw [← hd]
        rintro ⟨h1, h2, h3, h4⟩
        first
        | exact h1 (nil_list.1 hg18)
        | exact h2 ⟨by omega, by unfold byteAt; rw [Int.toNat_zero] at hg28; omega⟩
        | exact h3 ⟨one_list.1 hg31, by omega⟩
      exact ⟨by rw [decide_eq_false hF], hS.chg⟩
    ·
      have hpos := size_pos_of_ne hg18
      refine L_go hS rfl rfl (s_e hS (e_move rfl) rfl ?_); clear hS a; intro a hS
      refine L_go hS rfl rfl (s_e hS (e_lenS rfl rfl ty_u9) rfl ?_); clear hS a; intro a hS
      refine L_go hS rfl rfl (s_e hS (e_bin rfl rfl rfl) rfl ?_); clear hS a; intro a hS
      refine L_go hS rfl rfl (s_e hS (e_move rfl) rfl ?_); clear hS a; intro a hS
      (first | refine g_splitD (t := 22) hS rfl ?_ ?_ | refine g_split (t := 22) hS rfl ?_ ?_) <;> (clear hS; intro hg22 hS)
      ·
        refine L_go hS rfl rfl (s_e hS (e_move rfl) rfl ?_); clear hS a; intro a hS
        refine L_go hS rfl rfl (s_e hS (e_ixS rfl rfl ty_u9 (by omega)) rfl ?_); clear hS a; intro a hS
        refine L_go hS rfl rfl (s_e hS (e_bin rfl rfl rfl) rfl ?_); clear hS a; intro a hS
        first | (refine L_go hS rfl rfl (s_e hS (e_pick_t rfl rfl) rfl ?_); clear hS a; intro a hS) | (refine L_go hS rfl rfl (s_e hS (e_pick_f rfl rfl) rfl ?_); clear hS a; intro a hS)
        first | (refine L_op (s_e hS (e_pick_t rfl rfl) rfl ?_); clear hS a; intro a hS) | (refine L_op (s_e hS (e_pick_f rfl rfl) rfl ?_); clear hS a; intro a hS)
        refine L_op (s_e hS (e_move rfl) rfl ?_); clear hS a; intro a hS
        (first | refine g_splitD (t := 28) hS rfl ?_ ?_ | refine g_split (t := 28) hS rfl ?_ ?_) <;> (clear hS; intro hg28 hS)
        ·
          refine L_skip_f hS rfl rfl rfl ?_; clear hS a; intro a hS
          refine L_skip_f hS rfl rfl rfl ?_; clear hS a; intro a hS
          refine L_skip_f hS rfl rfl rfl ?_; clear hS a; intro a hS
          refine L_skip_u hS rfl rfl rfl ?_; clear hS a; intro a hS
          refine L_skip_u hS rfl rfl rfl ?_; clear hS a; intro a hS
          refine L_skip_u hS rfl rfl rfl ?_; clear hS a; intro a hS
          refine L_skip_f hS rfl rfl rfl ?_; clear hS a; intro a hS
          first | (refine L_op (s_e hS (e_pick_t rfl rfl) rfl ?_); clear hS a; intro a hS) | (refine L_op (s_e hS (e_pick_f rfl rfl) rfl ?_); clear hS a; intro a hS)
          refine L_nil ?_
          refine n_then ?_
          refine c_if_t hS rfl ?_
          refine c_seq ?_
          refine c_region ?_
          refine L_op (s_e hS (e_assign rfl) rfl ?_); clear hS a; intro a hS
          refine L_nil ?_
          refine n_then ?_
          refine wp_ret ?_
          refine r_then ?_
          refine c_ret1 hS Try.results143 (.tmp rfl) ?_
          have hF : ¬ NumForm s.data.toList := by
            unfold NumForm
            rw [← hd]
            rintro ⟨h1, h2, h3, h4⟩
            first
            | exact h1 (nil_list.1 hg18)
            | exact h2 ⟨by omega, by unfold byteAt; rw [Int.toNat_zero] at hg28; omega⟩
            | exact h3 ⟨one_list.1 hg31, by omega⟩
          exact ⟨by rw [decide_eq_false hF], hS.chg⟩
        ·
          refine L_go hS rfl rfl (s_e hS (e_move rfl) rfl ?_); clear hS a; intro a hS
          refine L_go hS rfl rfl (s_e hS (e_binS rfl rfl rfl) rfl ?_); clear hS a; intro a hS
          refine L_go hS rfl rfl (s_e hS (e_move rfl) rfl ?_); clear hS a; intro a hS
          (first | refine g_splitD (t := 31) hS rfl ?_ ?_ | refine g_split (t := 31) hS rfl ?_ ?_) <;> (clear hS; intro hg31 hS)
          ·
            refine L_go hS rfl rfl (s_e hS (e_move rfl) rfl ?_); clear hS a; intro a hS
            refine L_go hS rfl rfl (s_e hS (e_lenS rfl rfl ty_u9) rfl ?_); clear hS a; intro a hS
            refine L_go hS rfl rfl (s_e hS (e_bin rfl rfl rfl) rfl ?_); clear hS a; intro a hS
            first | (refine L_go hS rfl rfl (s_e hS (e_pick_t rfl rfl) rfl ?_); clear hS a; intro a hS) | (refine L_go hS rfl rfl (s_e hS (e_pick_f rfl rfl) rfl ?_); clear hS a; intro a hS)
            first | (refine L_op (s_e hS (e_pick_t rfl rfl) rfl ?_); clear hS a; intro a hS) | (refine L_op (s_e hS (e_pick_f rfl rfl) rfl ?_); clear hS a; intro a hS)
            refine L_nil ?_
            refine n_then ?_
            first | refine c_ifD hS rfl (fun hc36 => ?_) (fun hc36 => ?_) | refine c_if hS rfl (fun hc36 => ?_) (fun hc36 => ?_)
            ·
              refine c_seq ?_
              refine c_region ?_
              refine L_op (s_e hS (e_assign rfl) rfl ?_); clear hS a; intro a hS
              refine L_nil ?_
              refine n_then ?_
              refine wp_ret ?_
              refine r_then ?_
              refine c_ret1 hS Try.results143 (.tmp rfl) ?_
              have hF : ¬ NumForm s.data.toList := by
                unfold NumForm
                rw [← hd]
                rintro ⟨h1, h2, h3, h4⟩
                first
                | exact h1 (nil_list.1 hg18)
                | exact h2 ⟨by omega, by unfold byteAt; rw [Int.toNat_zero] at hg28; omega⟩
                | exact h3 ⟨one_list.1 hg31, by omega⟩
              exact ⟨by rw [decide_eq_false hF], hS.chg⟩
            ·
              refine wp_skip ?_
              refine n_then ?_
              refine c_seq ?_
              refine c_seq ?_
              refine c_region ?_
              refine L_op (s_e hS (e_assign rfl) rfl ?_); clear hS a; intro a hS
              refine L_nil ?_
              refine n_then ?_
              refine wp_block ?_
              skip
              refine c_loop (γ := Nat) (fun k a w => St 53 noB w0 a w [(4, .int .i64 (k : Int)), (3, .string d), (0, .string s), (2, .bool false)] [] ∧ k ≤ d.size ∧ ∀ j, j < k → 48 ≤ byteAt d.data.toList j ∧ byteAt d.data.toList j ≤ 57) (fun k => d.size - k) 0 ⟨hS.slots ⟨rfl, rfl, rfl, rfl, trivial⟩, Nat.zero_le _, fun j hj => by omega⟩ ?_
              clear hS a; (try clear w); intro k a w hI
              obtain ⟨hS, hk, hok⟩ := hI
              refine c_seq ?_
              refine c_seq ?_
              refine c_region ?_
              refine L_op (s_e hS (e_move rfl) rfl ?_); clear hS a; intro a hS
              refine L_op (s_e hS (e_move rfl) rfl ?_); clear hS a; intro a hS
              refine L_op (s_e hS (e_lenS rfl rfl ty_u9) rfl ?_); clear hS a; intro a hS
              refine L_op (s_e hS (e_bin rfl rfl rfl) rfl ?_); clear hS a; intro a hS
              refine L_nil ?_
              refine n_then ?_
              first | refine c_ifD hS rfl (fun hc40 => ?_) (fun hc40 => ?_) | refine c_if hS rfl (fun hc40 => ?_) (fun hc40 => ?_)
              ·
                refine wp_skip ?_
                refine n_then ?_
                refine c_seq ?_
                refine wp_block ?_
                refine c_seq ?_
                refine c_region ?_
                refine L_op (s_e hS (e_move rfl) rfl ?_); clear hS a; intro a hS
                refine L_op (s_e hS (e_move rfl) rfl ?_); clear hS a; intro a hS
                refine L_op (s_e hS (e_ixS rfl rfl ty_u9 (by omega)) rfl ?_); clear hS a; intro a hS
                refine L_op (s_e hS (e_bin rfl rfl rfl) rfl ?_); clear hS a; intro a hS
                refine L_op (s_e hS (e_move rfl) rfl ?_); clear hS a; intro a hS
                (first | refine g_splitD (t := 47) hS rfl ?_ ?_ | refine g_split (t := 47) hS rfl ?_ ?_) <;> (clear hS; intro hg47 hS)
                ·
                  refine L_skip_f hS rfl rfl rfl ?_; clear hS a; intro a hS
                  refine L_skip_f hS rfl rfl rfl ?_; clear hS a; intro a hS
                  refine L_skip_f hS rfl rfl rfl ?_; clear hS a; intro a hS
                  refine L_skip_f hS rfl rfl rfl ?_; clear hS a; intro a hS
                  first | (refine L_op (s_e hS (e_pick_t rfl rfl) rfl ?_); clear hS a; intro a hS) | (refine L_op (s_e hS (e_pick_f rfl rfl) rfl ?_); clear hS a; intro a hS)
                  refine L_nil ?_
                  refine n_then ?_
                  refine c_if_t hS rfl ?_
                  refine c_seq ?_
                  refine c_region ?_
                  refine L_op (s_e hS (e_assign rfl) rfl ?_); clear hS a; intro a hS
                  refine L_nil ?_
                  refine n_then ?_
                  refine wp_ret ?_
                  refine r_block (r_then (r_then (r_block (r_then ?_))))
                  refine c_ret1 hS Try.results143 (.tmp rfl) ?_
                  have hF : ¬ NumForm s.data.toList := by
                    unfold NumForm
                    rw [← hd]
                    rintro ⟨h1, h2, h3, h4⟩
                    have h5 := h4 k (by omega)
                    unfold byteAt at h5
                    rw [Int.toNat_natCast] at *
                    omega
                  exact ⟨by rw [decide_eq_false hF], hS.chg⟩
                ·
                  refine L_go hS rfl rfl (s_e hS (e_move rfl) rfl ?_); clear hS a; intro a hS
                  refine L_go hS rfl rfl (s_e hS (e_move rfl) rfl ?_); clear hS a; intro a hS
                  refine L_go hS rfl rfl (s_e hS (e_ixS rfl rfl ty_u9 (by omega)) rfl ?_); clear hS a; intro a hS
                  refine L_go hS rfl rfl (s_e hS (e_bin rfl rfl rfl) rfl ?_); clear hS a; intro a hS
                  first | (refine L_op (s_e hS (e_pick_t rfl rfl) rfl ?_); clear hS a; intro a hS) | (refine L_op (s_e hS (e_pick_f rfl rfl) rfl ?_); clear hS a; intro a hS)
                  refine L_nil ?_
                  refine n_then ?_
                  first | refine c_ifD hS rfl (fun hc52 => ?_) (fun hc52 => ?_) | refine c_if hS rfl (fun hc52 => ?_) (fun hc52 => ?_)
                  ·
                    refine c_seq ?_
                    refine c_region ?_
                    refine L_op (s_e hS (e_assign rfl) rfl ?_); clear hS a; intro a hS
                    refine L_nil ?_
                    refine n_then ?_
                    refine wp_ret ?_
                    refine r_block (r_then (r_then (r_block (r_then ?_))))
                    refine c_ret1 hS Try.results143 (.tmp rfl) ?_
                    have hF : ¬ NumForm s.data.toList := by
                      unfold NumForm
                      rw [← hd]
                      rintro ⟨h1, h2, h3, h4⟩
                      have h5 := h4 k (by omega)
                      unfold byteAt at h5
                      rw [Int.toNat_natCast] at *
                      omega
                    exact ⟨by rw [decide_eq_false hF], hS.chg⟩
                  ·
                    refine wp_skip ?_
                    refine n_block ?_
                    refine n_then ?_
                    refine c_region ?_
                    refine L_op (s_e hS (e_move rfl) rfl ?_); clear hS a; intro a hS
                    first | (refine L_op (s_e hS (e_binN rfl rfl rfl (by omega)) rfl ?_); clear hS a; intro a hS) | (refine L_op (s_e hS (e_bin rfl rfl rfl) rfl ?_); clear hS a; intro a hS)
                    refine L_op (s_e hS (e_assign rfl) rfl ?_); clear hS a; intro a hS
                    refine L_nil ?_
                    have h1 : 48 ≤ byteAt d.data.toList k ∧ byteAt d.data.toList k ≤ 57 := by unfold byteAt; rw [Int.toNat_natCast] at *; omega
                    exact ⟨k + 1, by omega, hS.slots (by exact ⟨rfl, rfl, rfl, rfl, trivial⟩), by omega, fun j hj => by by_cases e : j = k; (subst e; exact h1); exact hok j (by omega)⟩
              ·
                refine wp_exit ?_
                refine x_then (x_then (x_hit ?_))
                refine n_then ?_
                refine c_seq ?_
                refine c_region ?_
                refine L_op (s_e hS (e_assign rfl) rfl ?_); clear hS a; intro a hS
                refine L_nil ?_
                refine n_then ?_
                refine wp_ret ?_
                refine c_ret1 hS Try.results143 (.tmp rfl) ?_
                have hF : NumForm s.data.toList := by
                  unfold NumForm
                  rw [← hd]
                  refine ⟨fun e => hg18 (nil_list.2 e), ?_, ?_, fun j hj => hok j (by omega)⟩
                  · rintro ⟨u, v⟩
                    unfold byteAt at v
                    first | omega | (rw [Int.toNat_zero] at *; omega)
                  · rintro ⟨u, v⟩
                    first | exact hg31 (one_list.2 u) | omega
                exact ⟨by rw [decide_eq_true hF], hS.chg⟩
          ·
            refine L_skip_t hS rfl rfl rfl ?_; clear hS a; intro a hS
            refine L_skip_t hS rfl rfl rfl ?_; clear hS a; intro a hS
            refine L_skip_t hS rfl rfl rfl ?_; clear hS a; intro a hS
            first | (refine L_go hS rfl rfl (s_e hS (e_pick_t rfl rfl) rfl ?_); clear hS a; intro a hS) | (refine L_go hS rfl rfl (s_e hS (e_pick_f rfl rfl) rfl ?_); clear hS a; intro a hS)
            first | (refine L_op (s_e hS (e_pick_t rfl rfl) rfl ?_); clear hS a; intro a hS) | (refine L_op (s_e hS (e_pick_f rfl rfl) rfl ?_); clear hS a; intro a hS)
            refine L_nil ?_
            refine n_then ?_
            refine c_if_f hS rfl ?_
            refine wp_skip ?_
            refine n_then ?_
            refine c_seq ?_
            refine c_seq ?_
            refine c_region ?_
            refine L_op (s_e hS (e_assign rfl) rfl ?_); clear hS a; intro a hS
            refine L_nil ?_
            refine n_then ?_
            refine wp_block ?_
            skip
            refine c_loop (γ := Nat) (fun k a w => St 53 noB w0 a w [(4, .int .i64 (k : Int)), (3, .string d), (0, .string s), (2, .bool false)] [] ∧ k ≤ d.size ∧ ∀ j, j < k → 48 ≤ byteAt d.data.toList j ∧ byteAt d.data.toList j ≤ 57) (fun k => d.size - k) 0 ⟨hS.slots ⟨rfl, rfl, rfl, rfl, trivial⟩, Nat.zero_le _, fun j hj => by omega⟩ ?_
            clear hS a; (try clear w); intro k a w hI
            obtain ⟨hS, hk, hok⟩ := hI
            refine c_seq ?_
            refine c_seq ?_
            refine c_region ?_
            refine L_op (s_e hS (e_move rfl) rfl ?_); clear hS a; intro a hS
            refine L_op (s_e hS (e_move rfl) rfl ?_); clear hS a; intro a hS
            refine L_op (s_e hS (e_lenS rfl rfl ty_u9) rfl ?_); clear hS a; intro a hS
            refine L_op (s_e hS (e_bin rfl rfl rfl) rfl ?_); clear hS a; intro a hS
            refine L_nil ?_
            refine n_then ?_
            first | refine c_ifD hS rfl (fun hc40 => ?_) (fun hc40 => ?_) | refine c_if hS rfl (fun hc40 => ?_) (fun hc40 => ?_)
            ·
              refine wp_skip ?_
              refine n_then ?_
              refine c_seq ?_
              refine wp_block ?_
              refine c_seq ?_
              refine c_region ?_
              refine L_op (s_e hS (e_move rfl) rfl ?_); clear hS a; intro a hS
              refine L_op (s_e hS (e_move rfl) rfl ?_); clear hS a; intro a hS
              refine L_op (s_e hS (e_ixS rfl rfl ty_u9 (by omega)) rfl ?_); clear hS a; intro a hS
              refine L_op (s_e hS (e_bin rfl rfl rfl) rfl ?_); clear hS a; intro a hS
              refine L_op (s_e hS (e_move rfl) rfl ?_); clear hS a; intro a hS
              (first | refine g_splitD (t := 47) hS rfl ?_ ?_ | refine g_split (t := 47) hS rfl ?_ ?_) <;> (clear hS; intro hg47 hS)
              ·
                refine L_skip_f hS rfl rfl rfl ?_; clear hS a; intro a hS
                refine L_skip_f hS rfl rfl rfl ?_; clear hS a; intro a hS
                refine L_skip_f hS rfl rfl rfl ?_; clear hS a; intro a hS
                refine L_skip_f hS rfl rfl rfl ?_; clear hS a; intro a hS
                first | (refine L_op (s_e hS (e_pick_t rfl rfl) rfl ?_); clear hS a; intro a hS) | (refine L_op (s_e hS (e_pick_f rfl rfl) rfl ?_); clear hS a; intro a hS)
                refine L_nil ?_
                refine n_then ?_
                refine c_if_t hS rfl ?_
                refine c_seq ?_
                refine c_region ?_
                refine L_op (s_e hS (e_assign rfl) rfl ?_); clear hS a; intro a hS
                refine L_nil ?_
                refine n_then ?_
                refine wp_ret ?_
                refine r_block (r_then (r_then (r_block (r_then ?_))))
                refine c_ret1 hS Try.results143 (.tmp rfl) ?_
                have hF : ¬ NumForm s.data.toList := by
                  unfold NumForm
                  rw [← hd]
                  rintro ⟨h1, h2, h3, h4⟩
                  have h5 := h4 k (by omega)
                  unfold byteAt at h5
                  rw [Int.toNat_natCast] at *
                  omega
                exact ⟨by rw [decide_eq_false hF], hS.chg⟩
              ·
                refine L_go hS rfl rfl (s_e hS (e_move rfl) rfl ?_); clear hS a; intro a hS
                refine L_go hS rfl rfl (s_e hS (e_move rfl) rfl ?_); clear hS a; intro a hS
                refine L_go hS rfl rfl (s_e hS (e_ixS rfl rfl ty_u9 (by omega)) rfl ?_); clear hS a; intro a hS
                refine L_go hS rfl rfl (s_e hS (e_bin rfl rfl rfl) rfl ?_); clear hS a; intro a hS
                first | (refine L_op (s_e hS (e_pick_t rfl rfl) rfl ?_); clear hS a; intro a hS) | (refine L_op (s_e hS (e_pick_f rfl rfl) rfl ?_); clear hS a; intro a hS)
                refine L_nil ?_
                refine n_then ?_
                first | refine c_ifD hS rfl (fun hc52 => ?_) (fun hc52 => ?_) | refine c_if hS rfl (fun hc52 => ?_) (fun hc52 => ?_)
                ·
                  refine c_seq ?_
                  refine c_region ?_
                  refine L_op (s_e hS (e_assign rfl) rfl ?_); clear hS a; intro a hS
                  refine L_nil ?_
                  refine n_then ?_
                  refine wp_ret ?_
                  refine r_block (r_then (r_then (r_block (r_then ?_))))
                  refine c_ret1 hS Try.results143 (.tmp rfl) ?_
                  have hF : ¬ NumForm s.data.toList := by
                    unfold NumForm
                    rw [← hd]
                    rintro ⟨h1, h2, h3, h4⟩
                    have h5 := h4 k (by omega)
                    unfold byteAt at h5
                    rw [Int.toNat_natCast] at *
                    omega
                  exact ⟨by rw [decide_eq_false hF], hS.chg⟩
                ·
                  refine wp_skip ?_
                  refine n_block ?_
                  refine n_then ?_
                  refine c_region ?_
                  refine L_op (s_e hS (e_move rfl) rfl ?_); clear hS a; intro a hS
                  first | (refine L_op (s_e hS (e_binN rfl rfl rfl (by omega)) rfl ?_); clear hS a; intro a hS) | (refine L_op (s_e hS (e_bin rfl rfl rfl) rfl ?_); clear hS a; intro a hS)
                  refine L_op (s_e hS (e_assign rfl) rfl ?_); clear hS a; intro a hS
                  refine L_nil ?_
                  have h1 : 48 ≤ byteAt d.data.toList k ∧ byteAt d.data.toList k ≤ 57 := by unfold byteAt; rw [Int.toNat_natCast] at *; omega
                  exact ⟨k + 1, by omega, hS.slots (by exact ⟨rfl, rfl, rfl, rfl, trivial⟩), by omega, fun j hj => by by_cases e : j = k; (subst e; exact h1); exact hok j (by omega)⟩
            ·
              refine wp_exit ?_
              refine x_then (x_then (x_hit ?_))
              refine n_then ?_
              refine c_seq ?_
              refine c_region ?_
              refine L_op (s_e hS (e_assign rfl) rfl ?_); clear hS a; intro a hS
              refine L_nil ?_
              refine n_then ?_
              refine wp_ret ?_
              refine c_ret1 hS Try.results143 (.tmp rfl) ?_
              have hF : NumForm s.data.toList := by
                unfold NumForm
                rw [← hd]
                refine ⟨fun e => hg18 (nil_list.2 e), ?_, ?_, fun j hj => hok j (by omega)⟩
                · rintro ⟨u, v⟩
                  unfold byteAt at v
                  first | omega | (rw [Int.toNat_zero] at *; omega)
                · rintro ⟨u, v⟩
                  first | exact hg31 (one_list.2 u) | omega
              exact ⟨by rw [decide_eq_true hF], hS.chg⟩
      ·
        refine L_skip_t hS rfl rfl rfl ?_; clear hS a; intro a hS
        refine L_skip_t hS rfl rfl rfl ?_; clear hS a; intro a hS
        refine L_skip_t hS rfl rfl rfl ?_; clear hS a; intro a hS
        first | (refine L_go hS rfl rfl (s_e hS (e_pick_t rfl rfl) rfl ?_); clear hS a; intro a hS) | (refine L_go hS rfl rfl (s_e hS (e_pick_f rfl rfl) rfl ?_); clear hS a; intro a hS)
        first | (refine L_op (s_e hS (e_pick_t rfl rfl) rfl ?_); clear hS a; intro a hS) | (refine L_op (s_e hS (e_pick_f rfl rfl) rfl ?_); clear hS a; intro a hS)
        refine L_op (s_e hS (e_move rfl) rfl ?_); clear hS a; intro a hS
        refine L_go hS rfl rfl (s_e hS (e_move rfl) rfl ?_); clear hS a; intro a hS
        refine L_go hS rfl rfl (s_e hS (e_binS rfl rfl rfl) rfl ?_); clear hS a; intro a hS
        refine L_go hS rfl rfl (s_e hS (e_move rfl) rfl ?_); clear hS a; intro a hS
        (first | refine g_splitD (t := 31) hS rfl ?_ ?_ | refine g_split (t := 31) hS rfl ?_ ?_) <;> (clear hS; intro hg31 hS)
        ·
          refine L_go hS rfl rfl (s_e hS (e_move rfl) rfl ?_); clear hS a; intro a hS
          refine L_go hS rfl rfl (s_e hS (e_lenS rfl rfl ty_u9) rfl ?_); clear hS a; intro a hS
          refine L_go hS rfl rfl (s_e hS (e_bin rfl rfl rfl) rfl ?_); clear hS a; intro a hS
          first | (refine L_go hS rfl rfl (s_e hS (e_pick_t rfl rfl) rfl ?_); clear hS a; intro a hS) | (refine L_go hS rfl rfl (s_e hS (e_pick_f rfl rfl) rfl ?_); clear hS a; intro a hS)
          first | (refine L_op (s_e hS (e_pick_t rfl rfl) rfl ?_); clear hS a; intro a hS) | (refine L_op (s_e hS (e_pick_f rfl rfl) rfl ?_); clear hS a; intro a hS)
          refine L_nil ?_
          refine n_then ?_
          first | refine c_ifD hS rfl (fun hc36 => ?_) (fun hc36 => ?_) | refine c_if hS rfl (fun hc36 => ?_) (fun hc36 => ?_)
          ·
            refine c_seq ?_
            refine c_region ?_
            refine L_op (s_e hS (e_assign rfl) rfl ?_); clear hS a; intro a hS
            refine L_nil ?_
            refine n_then ?_
            refine wp_ret ?_
            refine r_then ?_
            refine c_ret1 hS Try.results143 (.tmp rfl) ?_
            have hF : ¬ NumForm s.data.toList := by
              unfold NumForm
              rw [← hd]
              rintro ⟨h1, h2, h3, h4⟩
              first
              | exact h1 (nil_list.1 hg18)
              | exact h2 ⟨by omega, by unfold byteAt; rw [Int.toNat_zero] at hg28; omega⟩
              | exact h3 ⟨one_list.1 hg31, by omega⟩
            exact ⟨by rw [decide_eq_false hF], hS.chg⟩
          ·
            refine wp_skip ?_
            refine n_then ?_
            refine c_seq ?_
            refine c_seq ?_
            refine c_region ?_
            refine L_op (s_e hS (e_assign rfl) rfl ?_); clear hS a; intro a hS
            refine L_nil ?_
            refine n_then ?_
            refine wp_block ?_
            skip
            refine c_loop (γ := Nat) (fun k a w => St 53 noB w0 a w [(4, .int .i64 (k : Int)), (3, .string d), (0, .string s), (2, .bool false)] [] ∧ k ≤ d.size ∧ ∀ j, j < k → 48 ≤ byteAt d.data.toList j ∧ byteAt d.data.toList j ≤ 57) (fun k => d.size - k) 0 ⟨hS.slots ⟨rfl, rfl, rfl, rfl, trivial⟩, Nat.zero_le _, fun j hj => by omega⟩ ?_
            clear hS a; (try clear w); intro k a w hI
            obtain ⟨hS, hk, hok⟩ := hI
            refine c_seq ?_
            refine c_seq ?_
            refine c_region ?_
            refine L_op (s_e hS (e_move rfl) rfl ?_); clear hS a; intro a hS
            refine L_op (s_e hS (e_move rfl) rfl ?_); clear hS a; intro a hS
            refine L_op (s_e hS (e_lenS rfl rfl ty_u9) rfl ?_); clear hS a; intro a hS
            refine L_op (s_e hS (e_bin rfl rfl rfl) rfl ?_); clear hS a; intro a hS
            refine L_nil ?_
            refine n_then ?_
            first | refine c_ifD hS rfl (fun hc40 => ?_) (fun hc40 => ?_) | refine c_if hS rfl (fun hc40 => ?_) (fun hc40 => ?_)
            ·
              refine wp_skip ?_
              refine n_then ?_
              refine c_seq ?_
              refine wp_block ?_
              refine c_seq ?_
              refine c_region ?_
              refine L_op (s_e hS (e_move rfl) rfl ?_); clear hS a; intro a hS
              refine L_op (s_e hS (e_move rfl) rfl ?_); clear hS a; intro a hS
              refine L_op (s_e hS (e_ixS rfl rfl ty_u9 (by omega)) rfl ?_); clear hS a; intro a hS
              refine L_op (s_e hS (e_bin rfl rfl rfl) rfl ?_); clear hS a; intro a hS
              refine L_op (s_e hS (e_move rfl) rfl ?_); clear hS a; intro a hS
              (first | refine g_splitD (t := 47) hS rfl ?_ ?_ | refine g_split (t := 47) hS rfl ?_ ?_) <;> (clear hS; intro hg47 hS)
              ·
                refine L_skip_f hS rfl rfl rfl ?_; clear hS a; intro a hS
                refine L_skip_f hS rfl rfl rfl ?_; clear hS a; intro a hS
                refine L_skip_f hS rfl rfl rfl ?_; clear hS a; intro a hS
                refine L_skip_f hS rfl rfl rfl ?_; clear hS a; intro a hS
                first | (refine L_op (s_e hS (e_pick_t rfl rfl) rfl ?_); clear hS a; intro a hS) | (refine L_op (s_e hS (e_pick_f rfl rfl) rfl ?_); clear hS a; intro a hS)
                refine L_nil ?_
                refine n_then ?_
                refine c_if_t hS rfl ?_
                refine c_seq ?_
                refine c_region ?_
                refine L_op (s_e hS (e_assign rfl) rfl ?_); clear hS a; intro a hS
                refine L_nil ?_
                refine n_then ?_
                refine wp_ret ?_
                refine r_block (r_then (r_then (r_block (r_then ?_))))
                refine c_ret1 hS Try.results143 (.tmp rfl) ?_
                have hF : ¬ NumForm s.data.toList := by
                  unfold NumForm
                  rw [← hd]
                  rintro ⟨h1, h2, h3, h4⟩
                  have h5 := h4 k (by omega)
                  unfold byteAt at h5
                  rw [Int.toNat_natCast] at *
                  omega
                exact ⟨by rw [decide_eq_false hF], hS.chg⟩
              ·
                refine L_go hS rfl rfl (s_e hS (e_move rfl) rfl ?_); clear hS a; intro a hS
                refine L_go hS rfl rfl (s_e hS (e_move rfl) rfl ?_); clear hS a; intro a hS
                refine L_go hS rfl rfl (s_e hS (e_ixS rfl rfl ty_u9 (by omega)) rfl ?_); clear hS a; intro a hS
                refine L_go hS rfl rfl (s_e hS (e_bin rfl rfl rfl) rfl ?_); clear hS a; intro a hS
                first | (refine L_op (s_e hS (e_pick_t rfl rfl) rfl ?_); clear hS a; intro a hS) | (refine L_op (s_e hS (e_pick_f rfl rfl) rfl ?_); clear hS a; intro a hS)
                refine L_nil ?_
                refine n_then ?_
                first | refine c_ifD hS rfl (fun hc52 => ?_) (fun hc52 => ?_) | refine c_if hS rfl (fun hc52 => ?_) (fun hc52 => ?_)
                ·
                  refine c_seq ?_
                  refine c_region ?_
                  refine L_op (s_e hS (e_assign rfl) rfl ?_); clear hS a; intro a hS
                  refine L_nil ?_
                  refine n_then ?_
                  refine wp_ret ?_
                  refine r_block (r_then (r_then (r_block (r_then ?_))))
                  refine c_ret1 hS Try.results143 (.tmp rfl) ?_
                  have hF : ¬ NumForm s.data.toList := by
                    unfold NumForm
                    rw [← hd]
                    rintro ⟨h1, h2, h3, h4⟩
                    have h5 := h4 k (by omega)
                    unfold byteAt at h5
                    rw [Int.toNat_natCast] at *
                    omega
                  exact ⟨by rw [decide_eq_false hF], hS.chg⟩
                ·
                  refine wp_skip ?_
                  refine n_block ?_
                  refine n_then ?_
                  refine c_region ?_
                  refine L_op (s_e hS (e_move rfl) rfl ?_); clear hS a; intro a hS
                  first | (refine L_op (s_e hS (e_binN rfl rfl rfl (by omega)) rfl ?_); clear hS a; intro a hS) | (refine L_op (s_e hS (e_bin rfl rfl rfl) rfl ?_); clear hS a; intro a hS)
                  refine L_op (s_e hS (e_assign rfl) rfl ?_); clear hS a; intro a hS
                  refine L_nil ?_
                  have h1 : 48 ≤ byteAt d.data.toList k ∧ byteAt d.data.toList k ≤ 57 := by unfold byteAt; rw [Int.toNat_natCast] at *; omega
                  exact ⟨k + 1, by omega, hS.slots (by exact ⟨rfl, rfl, rfl, rfl, trivial⟩), by omega, fun j hj => by by_cases e : j = k; (subst e; exact h1); exact hok j (by omega)⟩
            ·
              refine wp_exit ?_
              refine x_then (x_then (x_hit ?_))
              refine n_then ?_
              refine c_seq ?_
              refine c_region ?_
              refine L_op (s_e hS (e_assign rfl) rfl ?_); clear hS a; intro a hS
              refine L_nil ?_
              refine n_then ?_
              refine wp_ret ?_
              refine c_ret1 hS Try.results143 (.tmp rfl) ?_
              have hF : NumForm s.data.toList := by
                unfold NumForm
                rw [← hd]
                refine ⟨fun e => hg18 (nil_list.2 e), ?_, ?_, fun j hj => hok j (by omega)⟩
                · rintro ⟨u, v⟩
                  unfold byteAt at v
                  first | omega | (rw [Int.toNat_zero] at *; omega)
                · rintro ⟨u, v⟩
                  first | exact hg31 (one_list.2 u) | omega
              exact ⟨by rw [decide_eq_true hF], hS.chg⟩
        ·
          refine L_skip_t hS rfl rfl rfl ?_; clear hS a; intro a hS
          refine L_skip_t hS rfl rfl rfl ?_; clear hS a; intro a hS
          refine L_skip_t hS rfl rfl rfl ?_; clear hS a; intro a hS
          first | (refine L_go hS rfl rfl (s_e hS (e_pick_t rfl rfl) rfl ?_); clear hS a; intro a hS) | (refine L_go hS rfl rfl (s_e hS (e_pick_f rfl rfl) rfl ?_); clear hS a; intro a hS)
          first | (refine L_op (s_e hS (e_pick_t rfl rfl) rfl ?_); clear hS a; intro a hS) | (refine L_op (s_e hS (e_pick_f rfl rfl) rfl ?_); clear hS a; intro a hS)
          refine L_nil ?_
          refine n_then ?_
          refine c_if_f hS rfl ?_
          refine wp_skip ?_
          refine n_then ?_
          refine c_seq ?_
          refine c_seq ?_
          refine c_region ?_
          refine L_op (s_e hS (e_assign rfl) rfl ?_); clear hS a; intro a hS
          refine L_nil ?_
          refine n_then ?_
          refine wp_block ?_
          skip
          refine c_loop (γ := Nat) (fun k a w => St 53 noB w0 a w [(4, .int .i64 (k : Int)), (3, .string d), (0, .string s), (2, .bool false)] [] ∧ k ≤ d.size ∧ ∀ j, j < k → 48 ≤ byteAt d.data.toList j ∧ byteAt d.data.toList j ≤ 57) (fun k => d.size - k) 0 ⟨hS.slots ⟨rfl, rfl, rfl, rfl, trivial⟩, Nat.zero_le _, fun j hj => by omega⟩ ?_
          clear hS a; (try clear w); intro k a w hI
          obtain ⟨hS, hk, hok⟩ := hI
          refine c_seq ?_
          refine c_seq ?_
          refine c_region ?_
          refine L_op (s_e hS (e_move rfl) rfl ?_); clear hS a; intro a hS
          refine L_op (s_e hS (e_move rfl) rfl ?_); clear hS a; intro a hS
          refine L_op (s_e hS (e_lenS rfl rfl ty_u9) rfl ?_); clear hS a; intro a hS
          refine L_op (s_e hS (e_bin rfl rfl rfl) rfl ?_); clear hS a; intro a hS
          refine L_nil ?_
          refine n_then ?_
          first | refine c_ifD hS rfl (fun hc40 => ?_) (fun hc40 => ?_) | refine c_if hS rfl (fun hc40 => ?_) (fun hc40 => ?_)
          ·
            refine wp_skip ?_
            refine n_then ?_
            refine c_seq ?_
            refine wp_block ?_
            refine c_seq ?_
            refine c_region ?_
            refine L_op (s_e hS (e_move rfl) rfl ?_); clear hS a; intro a hS
            refine L_op (s_e hS (e_move rfl) rfl ?_); clear hS a; intro a hS
            refine L_op (s_e hS (e_ixS rfl rfl ty_u9 (by omega)) rfl ?_); clear hS a; intro a hS
            refine L_op (s_e hS (e_bin rfl rfl rfl) rfl ?_); clear hS a; intro a hS
            refine L_op (s_e hS (e_move rfl) rfl ?_); clear hS a; intro a hS
            (first | refine g_splitD (t := 47) hS rfl ?_ ?_ | refine g_split (t := 47) hS rfl ?_ ?_) <;> (clear hS; intro hg47 hS)
            ·
              refine L_skip_f hS rfl rfl rfl ?_; clear hS a; intro a hS
              refine L_skip_f hS rfl rfl rfl ?_; clear hS a; intro a hS
              refine L_skip_f hS rfl rfl rfl ?_; clear hS a; intro a hS
              refine L_skip_f hS rfl rfl rfl ?_; clear hS a; intro a hS
              first | (refine L_op (s_e hS (e_pick_t rfl rfl) rfl ?_); clear hS a; intro a hS) | (refine L_op (s_e hS (e_pick_f rfl rfl) rfl ?_); clear hS a; intro a hS)
              refine L_nil ?_
              refine n_then ?_
              refine c_if_t hS rfl ?_
              refine c_seq ?_
              refine c_region ?_
              refine L_op (s_e hS (e_assign rfl) rfl ?_); clear hS a; intro a hS
              refine L_nil ?_
              refine n_then ?_
              refine wp_ret ?_
              refine r_block (r_then (r_then (r_block (r_then ?_))))
              refine c_ret1 hS Try.results143 (.tmp rfl) ?_
              have hF : ¬ NumForm s.data.toList := by
                unfold NumForm
                rw [← hd]
                rintro ⟨h1, h2, h3, h4⟩
                have h5 := h4 k (by omega)
                unfold byteAt at h5
                rw [Int.toNat_natCast] at *
                omega
              exact ⟨by rw [decide_eq_false hF], hS.chg⟩
            ·
              refine L_go hS rfl rfl (s_e hS (e_move rfl) rfl ?_); clear hS a; intro a hS
              refine L_go hS rfl rfl (s_e hS (e_move rfl) rfl ?_); clear hS a; intro a hS
              refine L_go hS rfl rfl (s_e hS (e_ixS rfl rfl ty_u9 (by omega)) rfl ?_); clear hS a; intro a hS
              refine L_go hS rfl rfl (s_e hS (e_bin rfl rfl rfl) rfl ?_); clear hS a; intro a hS
              first | (refine L_op (s_e hS (e_pick_t rfl rfl) rfl ?_); clear hS a; intro a hS) | (refine L_op (s_e hS (e_pick_f rfl rfl) rfl ?_); clear hS a; intro a hS)
              refine L_nil ?_
              refine n_then ?_
              first | refine c_ifD hS rfl (fun hc52 => ?_) (fun hc52 => ?_) | refine c_if hS rfl (fun hc52 => ?_) (fun hc52 => ?_)
              ·
                refine c_seq ?_
                refine c_region ?_
                refine L_op (s_e hS (e_assign rfl) rfl ?_); clear hS a; intro a hS
                refine L_nil ?_
                refine n_then ?_
                refine wp_ret ?_
                refine r_block (r_then (r_then (r_block (r_then ?_))))
                refine c_ret1 hS Try.results143 (.tmp rfl) ?_
                have hF : ¬ NumForm s.data.toList := by
                  unfold NumForm
                  rw [← hd]
                  rintro ⟨h1, h2, h3, h4⟩
                  have h5 := h4 k (by omega)
                  unfold byteAt at h5
                  rw [Int.toNat_natCast] at *
                  omega
                exact ⟨by rw [decide_eq_false hF], hS.chg⟩
              ·
                refine wp_skip ?_
                refine n_block ?_
                refine n_then ?_
                refine c_region ?_
                refine L_op (s_e hS (e_move rfl) rfl ?_); clear hS a; intro a hS
                first | (refine L_op (s_e hS (e_binN rfl rfl rfl (by omega)) rfl ?_); clear hS a; intro a hS) | (refine L_op (s_e hS (e_bin rfl rfl rfl) rfl ?_); clear hS a; intro a hS)
                refine L_op (s_e hS (e_assign rfl) rfl ?_); clear hS a; intro a hS
                refine L_nil ?_
                have h1 : 48 ≤ byteAt d.data.toList k ∧ byteAt d.data.toList k ≤ 57 := by unfold byteAt; rw [Int.toNat_natCast] at *; omega
                exact ⟨k + 1, by omega, hS.slots (by exact ⟨rfl, rfl, rfl, rfl, trivial⟩), by omega, fun j hj => by by_cases e : j = k; (subst e; exact h1); exact hok j (by omega)⟩
          ·
            refine wp_exit ?_
            refine x_then (x_then (x_hit ?_))
            refine n_then ?_
            refine c_seq ?_
            refine c_region ?_
            refine L_op (s_e hS (e_assign rfl) rfl ?_); clear hS a; intro a hS
            refine L_nil ?_
            refine n_then ?_
            refine wp_ret ?_
            refine c_ret1 hS Try.results143 (.tmp rfl) ?_
            have hF : NumForm s.data.toList := by
              unfold NumForm
              rw [← hd]
              refine ⟨fun e => hg18 (nil_list.2 e), ?_, ?_, fun j hj => hok j (by omega)⟩
              · rintro ⟨u, v⟩
                unfold byteAt at v
                first | omega | (rw [Int.toNat_zero] at *; omega)
              · rintro ⟨u, v⟩
                first | exact hg31 (one_list.2 u) | omega
            exact ⟨by rw [decide_eq_true hF], hS.chg⟩
end Go.Proofs.Ytheofhegdjjfgaa
