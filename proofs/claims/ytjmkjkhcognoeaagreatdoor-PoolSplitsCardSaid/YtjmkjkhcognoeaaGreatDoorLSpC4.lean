/- PoolSplits: for every argument the law returns true, and each argument reads afterwards as it read before. No conditions. (text 4 of 4) -/
import Derived.Test.YtjmkjkhcognoeaaGreatDoorLSpC3
import Derived.Deep.Slices
import Derived.Deep.Fields
import Derived.ChangeSame
import Derived.SizedLaws
import Derived.OpenShut
import Derived.Lib.SmallJoins
import Derived.Lib.LaidCase
import Derived.MakeChecks
import Derived.Shelf.Vars
import Derived.Handed
import Derived.Stop.LaidErr
import Derived.LaidLaws
import Derived.ProofKit
import Derived.ShutString
import Derived.ChangeOld
import Derived.Below
import Derived.LaidMore
import Derived.Lay
import Derived.SevenTiedAt
import Derived.Stop.Joined
import Derived.Test.YtjmkjkhcognoeaaGreatDoorTie
import Derived.Test.YtjmkjkhcognoeaaGreatDoorCards
namespace Go.Proofs.YtjmkjkhcognoeaaGreatDoor
open Go.RowKit

def nmN (n : Nat) : Bool := decide ((65 ≤ n ∧ n ≤ 90) ∨ (97 ≤ n ∧ n ≤ 122) ∨ (48 ≤ n ∧ n ≤ 57) ∨ n = 45)
theorem nm_nmN (b : UInt8) : nmC b = nmN b.toNat := rfl
theorem byte_get {l : List UInt8} {k : Nat} {x : UInt8} (h : l[k]? = some x) : byteAt l k = x.toNat := by
  unfold byteAt; rw [List.getD_eq_getElem?_getD, h]; rfl
theorem take_at {l : List UInt8} {k : Nat} (_hk : k ≤ l.length) (h : ∀ j, j < k → nmN (byteAt l j) = true) (h2 : k < l.length → ¬ nmN (byteAt l k) = true) : l.takeWhile nmC = l.take k := by
  conv => lhs; rw [← List.take_append_drop k l]
  refine take_all (fun x hx => ?_) (fun x hx => ?_)
  · obtain ⟨j, hj⟩ := List.mem_iff_getElem?.1 hx
    rw [List.getElem?_take] at hj
    split at hj
    · rename_i hjk; rw [nm_nmN, ← byte_get hj]; exact h j hjk
    · cases hj
  · rw [List.head?_drop] at hx
    rw [nm_nmN, ← byte_get hx]
    exact Bool.eq_false_iff.2 (h2 (List.getElem?_eq_some_iff.1 hx).1)
def blk2 (x : UInt8) : Bool := [(32 : UInt8), 9].contains x
theorem blk2_iff (x : UInt8) : blk2 x = true ↔ x.toNat = 32 ∨ x.toNat = 9 := by
  unfold blk2
  constructor
  · intro h
    simp at h
    rcases h with rfl | rfl
    · exact .inl rfl
    · exact .inr rfl
  · intro h
    simp
    rcases h with h | h
    · exact .inl (UInt8.toNat_inj.1 h)
    · exact .inr (UInt8.toNat_inj.1 h)
def trL (l : List UInt8) : List UInt8 := l.dropWhile blk2
def trR (l : List UInt8) : List UInt8 := (l.reverse.dropWhile blk2).reverse
theorem trim_eq (l : List UInt8) : Lib.trimS l [32, 9] = trR (trL l) := by
  unfold trR trL Lib.trimS Lib.trimLeftS Lib.trimRightS
  first
  | exact (trim_comm blk2 l).symm
  | exact trim_comm blk2 l
  | rfl
theorem trL_go {l : List UInt8} (h0 : l ≠ []) (h : byteAt l 0 = 32 ∨ byteAt l 0 = 9) : trL l = trL (l.drop 1) := by
  cases l with
  | nil => exact absurd rfl h0
  | cons x t => unfold trL; rw [List.dropWhile_cons_of_pos ((blk2_iff x).2 h)]; rfl
theorem trL_end {l : List UInt8} (h : ¬ (l ≠ [] ∧ (byteAt l 0 = 32 ∨ byteAt l 0 = 9))) : trL l = l := by
  cases l with
  | nil => rfl
  | cons x t => unfold trL; rw [List.dropWhile_cons_of_neg (fun hx => h ⟨by simp, (blk2_iff x).1 hx⟩)]
theorem last_get {l : List UInt8} {k : Nat} (hk : k + 1 = l.length) : l = l.take k ++ [l[k]'(by omega)] := by
  conv => lhs; rw [← List.take_append_drop k l]
  rw [List.drop_eq_getElem_cons (by omega), List.drop_eq_nil_of_le (by omega)]
theorem trR_go {l : List UInt8} {k : Nat} (hk : k + 1 = l.length) (h : byteAt l k = 32 ∨ byteAt l k = 9) : trR l = trR (l.take k) := by
  have e := last_get hk
  have hb : byteAt l k = (l[k]'(by omega)).toNat := byte_get (List.getElem?_eq_getElem (by omega))
  rw [hb] at h
  unfold trR
  conv => lhs; rw [e]
  rw [List.reverse_append, List.reverse_singleton, List.singleton_append, List.dropWhile_cons_of_pos ((blk2_iff _).2 h)]
theorem trR_end {l : List UInt8} (h : ∀ k, k + 1 = l.length → ¬ (byteAt l k = 32 ∨ byteAt l k = 9)) : trR l = l := by
  rcases Nat.eq_zero_or_pos l.length with h0 | h0
  · obtain rfl := List.eq_nil_of_length_eq_zero h0; rfl
  obtain ⟨k, hk⟩ : ∃ k, k + 1 = l.length := ⟨l.length - 1, by omega⟩
  have e := last_get hk
  have hb : byteAt l k = (l[k]'(by omega)).toNat := byte_get (List.getElem?_eq_getElem (by omega))
  have h2 := h k hk
  rw [hb] at h2
  unfold trR
  conv => lhs; rw [e]
  rw [List.reverse_append, List.reverse_singleton, List.singleton_append, List.dropWhile_cons_of_neg (fun hx => h2 ((blk2_iff _).1 hx)), List.reverse_cons, List.reverse_reverse]
  exact e.symm
theorem any_at {l : List UInt8} : (l.any fun b => oddB b.toNat) = true ↔ ∃ j, j < l.length ∧ oddB (byteAt l j) = true := by
  rw [List.any_eq_true]
  constructor
  · rintro ⟨x, hx, h⟩
    obtain ⟨j, hj⟩ := List.mem_iff_getElem?.1 hx
    exact ⟨j, (List.getElem?_eq_some_iff.1 hj).1, by rw [byte_get hj]; exact h⟩
  · rintro ⟨j, hj, h⟩
    exact ⟨l[j], List.getElem_mem hj, by rw [byte_get (List.getElem?_eq_getElem hj)] at h; exact h⟩
theorem ext_from (s : ByteArray) (k : Nat) : (s.extract k s.size).data.toList = s.data.toList.drop k := by
  rw [ext_list]; exact List.take_of_length_le (by rw [List.length_drop]; have := size_list s; omega)
theorem ext_to (s : ByteArray) (k : Nat) : (s.extract 0 k).data.toList = s.data.toList.take k := by
  rw [ext_list]; rfl
def fN (l : List UInt8) : ByteArray := match fieldF l with | some x => tx x.1 | none => ⟨#[]⟩
def fV (l : List UInt8) : ByteArray := match fieldF l with | some x => tx x.2 | none => ⟨#[]⟩
theorem f_no {l : List UInt8} (h : fieldF l = none) : fN l = ⟨#[]⟩ ∧ fV l = ⟨#[]⟩ ∧ (fieldF l).isSome = false := by
  unfold fN fV; rw [h]; exact ⟨rfl, rfl, rfl⟩
theorem f_yes {l : List UInt8} {x : List UInt8 × List UInt8} (h : fieldF l = some x) : fN l = tx x.1 ∧ fV l = tx x.2 ∧ (fieldF l).isSome = true := by
  unfold fN fV; rw [h]; exact ⟨rfl, rfl, rfl⟩
set_option maxRecDepth 100000 in
theorem yField_P (s : ByteArray) (hs : s.size ≤ 1000000) (w0 : World) : PureC Tryz.prog 25 [.string s] w0 (.tuple [.string (fN s.data.toList), .string (fV s.data.toList), .bool (fieldF s.data.toList).isSome].toArray) := by
  have hl := size_list s
  refine c_enter [(0, .string s)] [] noB Tryz.func25 rfl Tryz.ntmps25 ⟨rfl, trivial⟩ rfl (by simp) (by simp) (by simp) ?_
  intro a hS
  refine c_seq ?_
  refine c_region ?_
  refine L_op (s_e hS (e_assign rfl) rfl ?_); clear hS a; intro a hS
  refine L_op (s_e hS (e_assign rfl) rfl ?_); clear hS a; intro a hS
  refine L_op (s_e hS (e_assign rfl) rfl ?_); clear hS a; intro a hS
  refine L_nil ?_
  refine n_then ?_
  refine c_seq ?_
  refine c_region ?_
  refine L_op (s_e hS (e_assign rfl) rfl ?_); clear hS a; intro a hS
  refine L_nil ?_
  refine n_then ?_
  refine c_seq ?_
  refine wp_block ?_
  skip
  refine c_loop (γ := Nat) (fun k a w => St 118 noB w0 a w [(5, .int .i64 (k : Int)), (0, .string s)] [] ∧ k ≤ s.size ∧ ∀ j, j < k → nmN (byteAt s.data.toList j) = true) (fun k => s.size - k) 0 ⟨hS.slots (by repeat (first | exact trivial | refine ⟨rfl, ?_⟩)), Nat.zero_le _, fun j hj => by omega⟩ ?_
  clear hS a; (try clear w); intro k a w hI
  obtain ⟨hS, hk, hno⟩ := hI
  refine c_seq ?_
  refine c_seq ?_
  refine c_region ?_
  refine L_op (s_e hS (e_move rfl) rfl ?_); clear hS a; intro a hS
  refine L_op (s_e hS (e_move rfl) rfl ?_); clear hS a; intro a hS
  refine L_op (s_e hS (e_lenS rfl rfl ty_u9) rfl ?_); clear hS a; intro a hS
  refine L_op (s_e hS (e_bin rfl rfl rfl) rfl ?_); clear hS a; intro a hS
  refine L_op (s_e hS (e_move rfl) rfl ?_); clear hS a; intro a hS
  refine L_merge 17 29 (.bool (decide (k < s.size ∧ nmN (byteAt s.data.toList k) = true))) hS ?_ ?_
  · intro hcM29
    (first | refine g_splitD (t := 12) hS rfl ?_ ?_ | refine g_split (t := 12) hS rfl ?_ ?_) <;> (clear hS; intro hg12 hS)
    ·
      refine L_go hS rfl rfl (s_e hS (e_move rfl) rfl ?_); clear hS a; intro a hS
      refine L_go hS rfl rfl (s_e hS (e_move rfl) rfl ?_); clear hS a; intro a hS
      refine L_go hS rfl rfl (s_e hS (e_ixS rfl rfl ty_u9 (by omega)) rfl ?_); clear hS a; intro a hS
      rw [Int.toNat_natCast] at hS
      refine L_go hS rfl rfl (s_callP hS (.cons rfl .nil) cf42 rfl (yLetter_P _ _) ?_); clear hS a; (try clear w); intro a w hS
      refine L_go hS rfl rfl (s_e hS (e_move rfl) rfl ?_); clear hS a; intro a hS
      refine L_merge 5 22 (.bool (decide ((65 ≤ byteAt s.data.toList k ∧ byteAt s.data.toList k ≤ 90) ∨ (97 ≤ byteAt s.data.toList k ∧ byteAt s.data.toList k ≤ 122) ∨ (48 ≤ byteAt s.data.toList k ∧ byteAt s.data.toList k ≤ 57)))) hS ?_ ?_
      · intro hcM22
        (first | refine g_splitD (t := 17) hS rfl ?_ ?_ | refine g_split (t := 17) hS rfl ?_ ?_) <;> (clear hS; intro hg17 hS)
        ·
          refine L_skip_f hS rfl rfl rfl ?_; clear hS a; intro a hS
          refine L_skip_f hS rfl rfl rfl ?_; clear hS a; intro a hS
          refine L_skip_f hS rfl rfl rfl ?_; clear hS a; intro a hS
          refine L_skip_f hS rfl rfl rfl ?_; clear hS a; intro a hS
          first | (refine L_go hS rfl rfl (s_e hS (e_pick_t rfl rfl) rfl ?_); clear hS a; intro a hS) | (refine L_go hS rfl rfl (s_e hS (e_pick_f rfl rfl) rfl ?_); clear hS a; intro a hS)
          exact hcM22 _ _ (hS.ends 6 22 17 rfl (congrArg Value.bool (by unfold byteAt; exact (decide_eq_true (by omega)).symm)) rfl rfl (by first | exact congrArg Value.bool (decide_eq_true hg17).symm | exact congrArg Value.bool hg17.symm | simp [hg17]) rfl)
        ·
          refine L_go hS rfl rfl (s_e hS (e_move rfl) rfl ?_); clear hS a; intro a hS
          refine L_go hS rfl rfl (s_e hS (e_move rfl) rfl ?_); clear hS a; intro a hS
          refine L_go hS rfl rfl (s_e hS (e_ixS rfl rfl ty_u9 (by omega)) rfl ?_); clear hS a; intro a hS
          rw [Int.toNat_natCast] at hS
          refine L_go hS rfl rfl (s_callP hS (.cons rfl .nil) cf43 rfl (yDigit_P _ _) ?_); clear hS a; (try clear w); intro a w hS
          first | (refine L_go hS rfl rfl (s_e hS (e_pick_t rfl rfl) rfl ?_); clear hS a; intro a hS) | (refine L_go hS rfl rfl (s_e hS (e_pick_f rfl rfl) rfl ?_); clear hS a; intro a hS)
          exact hcM22 _ _ (hS.ends 6 22 17 rfl (congrArg Value.bool (by unfold byteAt; exact decide_eq_decide.2 (by omega))) rfl rfl (by first | exact congrArg Value.bool (decide_eq_false hg17).symm | exact congrArg Value.bool hg17.symm | simp [hg17]) rfl)
      · clear hS a; (try clear w); intro a w hS
        simp only [List.drop_succ_cons, List.drop_zero]
        refine L_go hS rfl rfl (s_e hS (e_move rfl) rfl ?_); clear hS a; intro a hS
        refine L_merge 5 28 (.bool (nmN (byteAt s.data.toList k))) hS ?_ ?_
        · intro hcM28
          (first | refine g_splitD (t := 23) hS rfl ?_ ?_ | refine g_split (t := 23) hS rfl ?_ ?_) <;> (clear hS; intro hg23 hS)
          ·
            refine L_skip_f hS rfl rfl rfl ?_; clear hS a; intro a hS
            refine L_skip_f hS rfl rfl rfl ?_; clear hS a; intro a hS
            refine L_skip_f hS rfl rfl rfl ?_; clear hS a; intro a hS
            refine L_skip_f hS rfl rfl rfl ?_; clear hS a; intro a hS
            first | (refine L_go hS rfl rfl (s_e hS (e_pick_t rfl rfl) rfl ?_); clear hS a; intro a hS) | (refine L_go hS rfl rfl (s_e hS (e_pick_f rfl rfl) rfl ?_); clear hS a; intro a hS)
            exact hcM28 _ _ (hS.ends 6 28 23 rfl (congrArg Value.bool (by unfold nmN; exact (decide_eq_true (by omega)).symm)) rfl rfl (by first | exact congrArg Value.bool (decide_eq_true hg23).symm | exact congrArg Value.bool hg23.symm | simp [hg23]) rfl)
          ·
            refine L_go hS rfl rfl (s_e hS (e_move rfl) rfl ?_); clear hS a; intro a hS
            refine L_go hS rfl rfl (s_e hS (e_move rfl) rfl ?_); clear hS a; intro a hS
            refine L_go hS rfl rfl (s_e hS (e_ixS rfl rfl ty_u9 (by omega)) rfl ?_); clear hS a; intro a hS
            rw [Int.toNat_natCast] at hS
            refine L_go hS rfl rfl (s_e hS (e_bin rfl rfl rfl) rfl ?_); clear hS a; intro a hS
            first | (refine L_go hS rfl rfl (s_e hS (e_pick_t rfl rfl) rfl ?_); clear hS a; intro a hS) | (refine L_go hS rfl rfl (s_e hS (e_pick_f rfl rfl) rfl ?_); clear hS a; intro a hS)
            exact hcM28 _ _ (hS.ends 6 28 23 rfl (congrArg Value.bool (by unfold byteAt at *; unfold nmN; exact decide_eq_decide.2 (by omega))) rfl rfl (by first | exact congrArg Value.bool (decide_eq_false hg23).symm | exact congrArg Value.bool hg23.symm | simp [hg23]) rfl)
        · clear hS a; (try clear w); intro a w hS
          simp only [List.drop_succ_cons, List.drop_zero]
          first | (refine L_op (s_e hS (e_pick_t rfl rfl) rfl ?_); clear hS a; intro a hS) | (refine L_op (s_e hS (e_pick_f rfl rfl) rfl ?_); clear hS a; intro a hS)
          exact hcM29 _ _ (hS.ends 10 29 12 rfl (congrArg Value.bool (by cases hq : nmN (byteAt s.data.toList k); exact (decide_eq_false (fun h => by cases h.2)).symm; exact (decide_eq_true ⟨by omega, rfl⟩).symm)) rfl rfl (by first | exact congrArg Value.bool (decide_eq_true hg12).symm | exact congrArg Value.bool hg12.symm | simp [hg12]) rfl)
    ·
      refine L_skip_t hS rfl rfl rfl ?_; clear hS a; intro a hS
      refine L_skip_t hS rfl rfl rfl ?_; clear hS a; intro a hS
      refine L_skip_t hS rfl rfl rfl ?_; clear hS a; intro a hS
      refine L_skip_t hS rfl rfl rfl ?_; clear hS a; intro a hS
      refine L_skip_t hS rfl rfl rfl ?_; clear hS a; intro a hS
      refine L_skip_u hS rfl rfl rfl ?_; clear hS a; intro a hS
      refine L_skip_u hS rfl rfl rfl ?_; clear hS a; intro a hS
      refine L_skip_u hS rfl rfl rfl ?_; clear hS a; intro a hS
      refine L_skip_u hS rfl rfl rfl ?_; clear hS a; intro a hS
      refine L_skip_t hS rfl rfl rfl ?_; clear hS a; intro a hS
      refine L_skip_t hS rfl rfl rfl ?_; clear hS a; intro a hS
      refine L_skip_u hS rfl rfl rfl ?_; clear hS a; intro a hS
      refine L_skip_u hS rfl rfl rfl ?_; clear hS a; intro a hS
      refine L_skip_u hS rfl rfl rfl ?_; clear hS a; intro a hS
      refine L_skip_u hS rfl rfl rfl ?_; clear hS a; intro a hS
      refine L_skip_t hS rfl rfl rfl ?_; clear hS a; intro a hS
      first | (refine L_op (s_e hS (e_pick_t rfl rfl) rfl ?_); clear hS a; intro a hS) | (refine L_op (s_e hS (e_pick_f rfl rfl) rfl ?_); clear hS a; intro a hS)
      exact hcM29 _ _ (hS.ends 18 29 12 rfl (congrArg Value.bool (by exact (decide_eq_false (fun h => hg12 (by omega))).symm)) rfl rfl (by first | exact congrArg Value.bool (decide_eq_false hg12).symm | exact congrArg Value.bool hg12.symm | simp [hg12]) rfl)
  · clear hS a; (try clear w); intro a w hS
    simp only [List.drop_succ_cons, List.drop_zero]
    refine L_nil ?_
    refine n_then ?_
    first | refine c_ifD hS rfl (fun hc29 => ?_) (fun hc29 => ?_) | refine c_if hS rfl (fun hc29 => ?_) (fun hc29 => ?_)
    ·
      refine wp_skip ?_
      refine n_then ?_
      refine wp_block ?_
      refine c_region ?_
      refine L_op (s_e hS (e_move rfl) rfl ?_); clear hS a; intro a hS
      first | (refine L_op (s_e hS (e_binN rfl rfl rfl (by omega)) rfl ?_); clear hS a; intro a hS) | (refine L_op (s_e hS (e_bin rfl rfl rfl) rfl ?_); clear hS a; intro a hS)
      refine L_op (s_e hS (e_assign rfl) rfl ?_); clear hS a; intro a hS
      refine L_nil ?_
      refine n_block ?_
      exact ⟨k + 1, by omega, hS.slots (by repeat (first | exact trivial | refine ⟨rfl, ?_⟩)), by omega, fun j hj => by
      rcases Nat.lt_or_ge j k with h | h
      · exact hno j h
      obtain rfl : j = k := (by omega)
      exact hc29.2⟩
    ·
      have htw : s.data.toList.takeWhile nmC = s.data.toList.take k := take_at (by omega) hno (fun h1 h2 => hc29 ⟨by omega, h2⟩)
      have htl : (s.data.toList.take k).length = k := by rw [List.length_take]; omega
      refine wp_exit ?_
      refine x_then (x_then (x_hit ?_))
      refine n_then ?_
      refine c_seq ?_
      refine c_seq ?_
      refine c_region ?_
      refine L_op (s_e hS (e_move rfl) rfl ?_); clear hS a; intro a hS
      refine L_op (s_e hS (e_bin rfl rfl rfl) rfl ?_); clear hS a; intro a hS
      refine L_op (s_e hS (e_move rfl) rfl ?_); clear hS a; intro a hS
      refine L_merge 3 37 (.bool (decide (k < 1 ∨ 40 < k))) hS ?_ ?_
      · intro hcM37
        (first | refine g_splitD (t := 34) hS rfl ?_ ?_ | refine g_split (t := 34) hS rfl ?_ ?_) <;> (clear hS; intro hg34 hS)
        ·
          refine L_skip_f hS rfl rfl rfl ?_; clear hS a; intro a hS
          refine L_skip_f hS rfl rfl rfl ?_; clear hS a; intro a hS
          first | (refine L_op (s_e hS (e_pick_t rfl rfl) rfl ?_); clear hS a; intro a hS) | (refine L_op (s_e hS (e_pick_f rfl rfl) rfl ?_); clear hS a; intro a hS)
          exact hcM37 _ _ (hS.ends 4 37 34 rfl (congrArg Value.bool (by exact (decide_eq_true (.inl (by omega))).symm)) rfl rfl (by first | exact congrArg Value.bool (decide_eq_true hg34).symm | exact congrArg Value.bool hg34.symm | simp [hg34]) rfl)
        ·
          refine L_go hS rfl rfl (s_e hS (e_move rfl) rfl ?_); clear hS a; intro a hS
          refine L_go hS rfl rfl (s_e hS (e_bin rfl rfl rfl) rfl ?_); clear hS a; intro a hS
          first | (refine L_op (s_e hS (e_pick_t rfl rfl) rfl ?_); clear hS a; intro a hS) | (refine L_op (s_e hS (e_pick_f rfl rfl) rfl ?_); clear hS a; intro a hS)
          exact hcM37 _ _ (hS.ends 4 37 34 rfl (congrArg Value.bool (by exact decide_eq_decide.2 (by omega))) rfl rfl (by first | exact congrArg Value.bool (decide_eq_false hg34).symm | exact congrArg Value.bool hg34.symm | simp [hg34]) rfl)
      · clear hS a; (try clear w); intro a w hS
        simp only [List.drop_succ_cons, List.drop_zero]
        refine L_op (s_e hS (e_move rfl) rfl ?_); clear hS a; intro a hS
        refine L_merge 5 43 (.bool (decide (k < 1 ∨ 40 < k ∨ s.size ≤ k))) hS ?_ ?_
        · intro hcM43
          (first | refine g_splitD (t := 38) hS rfl ?_ ?_ | refine g_split (t := 38) hS rfl ?_ ?_) <;> (clear hS; intro hg38 hS)
          ·
            refine L_skip_f hS rfl rfl rfl ?_; clear hS a; intro a hS
            refine L_skip_f hS rfl rfl rfl ?_; clear hS a; intro a hS
            refine L_skip_f hS rfl rfl rfl ?_; clear hS a; intro a hS
            refine L_skip_f hS rfl rfl rfl ?_; clear hS a; intro a hS
            first | (refine L_op (s_e hS (e_pick_t rfl rfl) rfl ?_); clear hS a; intro a hS) | (refine L_op (s_e hS (e_pick_f rfl rfl) rfl ?_); clear hS a; intro a hS)
            exact hcM43 _ _ (hS.ends 6 43 38 rfl (congrArg Value.bool (by exact (decide_eq_true (hg38.elim .inl (fun h => .inr (.inl h)))).symm)) rfl rfl (by first | exact congrArg Value.bool (decide_eq_true hg38).symm | exact congrArg Value.bool hg38.symm | simp [hg38]) rfl)
          ·
            refine L_go hS rfl rfl (s_e hS (e_move rfl) rfl ?_); clear hS a; intro a hS
            refine L_go hS rfl rfl (s_e hS (e_move rfl) rfl ?_); clear hS a; intro a hS
            refine L_go hS rfl rfl (s_e hS (e_lenS rfl rfl ty_u9) rfl ?_); clear hS a; intro a hS
            refine L_go hS rfl rfl (s_e hS (e_bin rfl rfl rfl) rfl ?_); clear hS a; intro a hS
            first | (refine L_op (s_e hS (e_pick_t rfl rfl) rfl ?_); clear hS a; intro a hS) | (refine L_op (s_e hS (e_pick_f rfl rfl) rfl ?_); clear hS a; intro a hS)
            exact hcM43 _ _ (hS.ends 6 43 38 rfl (congrArg Value.bool (by exact decide_eq_decide.2 (by omega))) rfl rfl (by first | exact congrArg Value.bool (decide_eq_false hg38).symm | exact congrArg Value.bool hg38.symm | simp [hg38]) rfl)
        · clear hS a; (try clear w); intro a w hS
          simp only [List.drop_succ_cons, List.drop_zero]
          refine L_op (s_e hS (e_move rfl) rfl ?_); clear hS a; intro a hS
          refine L_merge 5 49 (.bool (decide (k < 1 ∨ 40 < k ∨ s.size ≤ k ∨ byteAt s.data.toList k ≠ 58))) hS ?_ ?_
          · intro hcM49
            (first | refine g_splitD (t := 44) hS rfl ?_ ?_ | refine g_split (t := 44) hS rfl ?_ ?_) <;> (clear hS; intro hg44 hS)
            ·
              refine L_skip_f hS rfl rfl rfl ?_; clear hS a; intro a hS
              refine L_skip_f hS rfl rfl rfl ?_; clear hS a; intro a hS
              refine L_skip_f hS rfl rfl rfl ?_; clear hS a; intro a hS
              refine L_skip_f hS rfl rfl rfl ?_; clear hS a; intro a hS
              first | (refine L_op (s_e hS (e_pick_t rfl rfl) rfl ?_); clear hS a; intro a hS) | (refine L_op (s_e hS (e_pick_f rfl rfl) rfl ?_); clear hS a; intro a hS)
              exact hcM49 _ _ (hS.ends 6 49 44 rfl (congrArg Value.bool (by exact (decide_eq_true (by rcases hg44 with h | h | h; exact .inl h; exact .inr (.inl h); exact .inr (.inr (.inl h)))).symm)) rfl rfl (by first | exact congrArg Value.bool (decide_eq_true hg44).symm | exact congrArg Value.bool hg44.symm | simp [hg44]) rfl)
            ·
              have hkl : k < s.size := by omega
              refine L_go hS rfl rfl (s_e hS (e_move rfl) rfl ?_); clear hS a; intro a hS
              refine L_go hS rfl rfl (s_e hS (e_move rfl) rfl ?_); clear hS a; intro a hS
              refine L_go hS rfl rfl (s_e hS (e_ixS rfl rfl ty_u9 (by omega)) rfl ?_); clear hS a; intro a hS
              rw [Int.toNat_natCast] at hS
              refine L_go hS rfl rfl (s_e hS (e_bin rfl rfl rfl) rfl ?_); clear hS a; intro a hS
              first | (refine L_op (s_e hS (e_pick_t rfl rfl) rfl ?_); clear hS a; intro a hS) | (refine L_op (s_e hS (e_pick_f rfl rfl) rfl ?_); clear hS a; intro a hS)
              exact hcM49 _ _ (hS.ends 6 49 44 rfl (congrArg Value.bool (by unfold byteAt; exact decide_eq_decide.2 (by omega))) rfl rfl (by first | exact congrArg Value.bool (decide_eq_false hg44).symm | exact congrArg Value.bool hg44.symm | simp [hg44]) rfl)
          · clear hS a; (try clear w); intro a w hS
            simp only [List.drop_succ_cons, List.drop_zero]
            refine L_nil ?_
            refine n_then ?_
            first | refine c_ifD hS rfl (fun hc49 => ?_) (fun hc49 => ?_) | refine c_if hS rfl (fun hc49 => ?_) (fun hc49 => ?_)
            ·
              refine c_seq ?_
              refine c_region ?_
              refine L_op (s_e hS (e_assign rfl) rfl ?_); clear hS a; intro a hS
              refine L_op (s_e hS (e_assign rfl) rfl ?_); clear hS a; intro a hS
              refine L_op (s_e hS (e_assign rfl) rfl ?_); clear hS a; intro a hS
              refine L_nil ?_
              refine n_then ?_
              refine wp_ret ?_
              refine r_then ?_
              refine c_retN hS Tryz.results25 (.cons (.tmp rfl) (.cons (.tmp rfl) (.cons (.tmp rfl) .nil))) rfl ?_
              have hf : fieldF s.data.toList = none := by
                unfold fieldF
                rw [htw, htl, if_neg]
                rintro ⟨h1, h2, h3⟩
                have h4 := byte_get h3
                have h5 := (List.getElem?_eq_some_iff.1 h3).1
                rcases hc49 with h | h | h | h
                · omega
                · omega
                · omega
                · exact h h4
              obtain ⟨e1, e2, e3⟩ := f_no hf
              exact ⟨by rw [e1, e2, e3], hS.chg⟩
            ·
              have hkl : k < s.size := by omega
              have hat : s.data.toList[k]? = some 58 := by
                rw [List.getElem?_eq_getElem (by omega)]
                congr 1
                apply UInt8.toNat_inj.1
                rw [← byte_get (List.getElem?_eq_getElem (by omega))]
                show byteAt s.data.toList k = 58
                omega
              have hf : fieldF s.data.toList = if (Lib.trimS (s.data.toList.drop (k + 1)) [32, 9]).any (fun b => oddB b.toNat) then none else some (Lib.toLowerA (s.data.toList.take k), Lib.trimS (s.data.toList.drop (k + 1)) [32, 9]) := by
                unfold fieldF
                rw [htw, htl, if_pos ⟨by omega, by omega, hat⟩]
              refine wp_skip ?_
              refine n_then ?_
              refine c_seq ?_
              refine c_region ?_
              refine L_op (s_e hS (e_move rfl) rfl ?_); clear hS a; intro a hS
              refine L_op (s_e hS (e_move rfl) rfl ?_); clear hS a; intro a hS
              first | (refine L_op (s_e hS (e_binN rfl rfl rfl (by omega)) rfl ?_); clear hS a; intro a hS) | (refine L_op (s_e hS (e_bin rfl rfl rfl) rfl ?_); clear hS a; intro a hS)
              refine L_op (s_e hS (e_slSf rfl rfl ty_u9 (by omega)) rfl ?_); clear hS a; intro a hS
              refine L_op (s_e hS (e_assign rfl) rfl ?_); clear hS a; intro a hS
              refine L_nil ?_
              refine n_then ?_
              refine c_seq ?_
              refine wp_block ?_
              skip
              refine c_loop (γ := ByteArray) (fun v a w => St 118 noB w0 a w [(6, .string v), (5, .int .i64 (k : Int)), (0, .string s)] [] ∧ v.size ≤ s.size ∧ trL v.data.toList = trL (s.data.toList.drop (k + 1))) (fun v => v.size) (s.extract (k + 1) s.size) ⟨hS.slots (by repeat (first | exact trivial | refine ⟨rfl, ?_⟩)), by have := size_list (s.extract (k + 1) s.size); rw [ext_from, List.length_drop] at this; omega, by rw [ext_from]⟩ ?_
              clear hS a; (try clear w); intro v a w hI
              obtain ⟨hS, hvs, hv⟩ := hI
              have hvl := size_list v
              refine c_seq ?_
              refine c_seq ?_
              refine c_region ?_
              refine L_op (s_e hS (e_move rfl) rfl ?_); clear hS a; intro a hS
              refine L_op (s_e hS (e_binS rfl rfl rfl) rfl ?_); clear hS a; intro a hS
              refine L_op (s_e hS (e_move rfl) rfl ?_); clear hS a; intro a hS
              refine L_merge 9 65 (.bool (decide (v ≠ ⟨#[]⟩ ∧ (byteAt v.data.toList 0 = 32 ∨ byteAt v.data.toList 0 = 9)))) hS ?_ ?_
              · intro hcM65
                (first | refine g_splitD (t := 56) hS rfl ?_ ?_ | refine g_split (t := 56) hS rfl ?_ ?_) <;> (clear hS; intro hg56 hS)
                ·
                  have hvp : 0 < v.size := size_pos_of_ne hg56
                  refine L_go hS rfl rfl (s_e hS (e_move rfl) rfl ?_); clear hS a; intro a hS
                  refine L_go hS rfl rfl (s_e hS (e_ixS rfl rfl ty_u9 (by omega)) rfl ?_); clear hS a; intro a hS
                  refine L_go hS rfl rfl (s_e hS (e_bin rfl rfl rfl) rfl ?_); clear hS a; intro a hS
                  refine L_go hS rfl rfl (s_e hS (e_move rfl) rfl ?_); clear hS a; intro a hS
                  refine L_merge 4 64 (.bool (decide (byteAt v.data.toList 0 = 32 ∨ byteAt v.data.toList 0 = 9))) hS ?_ ?_
                  · intro hcM64
                    (first | refine g_splitD (t := 60) hS rfl ?_ ?_ | refine g_split (t := 60) hS rfl ?_ ?_) <;> (clear hS; intro hg60 hS)
                    ·
                      refine L_skip_f hS rfl rfl rfl ?_; clear hS a; intro a hS
                      refine L_skip_f hS rfl rfl rfl ?_; clear hS a; intro a hS
                      refine L_skip_f hS rfl rfl rfl ?_; clear hS a; intro a hS
                      first | (refine L_go hS rfl rfl (s_e hS (e_pick_t rfl rfl) rfl ?_); clear hS a; intro a hS) | (refine L_go hS rfl rfl (s_e hS (e_pick_f rfl rfl) rfl ?_); clear hS a; intro a hS)
                      exact hcM64 _ _ (hS.ends 5 64 60 rfl (congrArg Value.bool (by unfold byteAt; rw [Int.toNat_zero] at *; exact (decide_eq_true (.inl (by omega))).symm)) rfl rfl (by first | exact congrArg Value.bool (decide_eq_true hg60).symm | exact congrArg Value.bool hg60.symm | simp [hg60]) rfl)
                    ·
                      refine L_go hS rfl rfl (s_e hS (e_move rfl) rfl ?_); clear hS a; intro a hS
                      refine L_go hS rfl rfl (s_e hS (e_ixS rfl rfl ty_u9 (by omega)) rfl ?_); clear hS a; intro a hS
                      refine L_go hS rfl rfl (s_e hS (e_bin rfl rfl rfl) rfl ?_); clear hS a; intro a hS
                      first | (refine L_go hS rfl rfl (s_e hS (e_pick_t rfl rfl) rfl ?_); clear hS a; intro a hS) | (refine L_go hS rfl rfl (s_e hS (e_pick_f rfl rfl) rfl ?_); clear hS a; intro a hS)
                      exact hcM64 _ _ (hS.ends 5 64 60 rfl (congrArg Value.bool (by unfold byteAt; rw [Int.toNat_zero] at *; exact decide_eq_decide.2 (by omega))) rfl rfl (by first | exact congrArg Value.bool (decide_eq_false hg60).symm | exact congrArg Value.bool hg60.symm | simp [hg60]) rfl)
                  · clear hS a; (try clear w); intro a w hS
                    simp only [List.drop_succ_cons, List.drop_zero]
                    first | (refine L_op (s_e hS (e_pick_t rfl rfl) rfl ?_); clear hS a; intro a hS) | (refine L_op (s_e hS (e_pick_f rfl rfl) rfl ?_); clear hS a; intro a hS)
                    exact hcM65 _ _ (hS.ends 7 65 56 rfl (congrArg Value.bool (by exact decide_eq_decide.2 ⟨fun h => ⟨hg56, h⟩, fun h => h.2⟩)) rfl rfl (by first | exact congrArg Value.bool (decide_eq_true hg56).symm | exact congrArg Value.bool hg56.symm | simp [hg56]) rfl)
                ·
                  refine L_skip_t hS rfl rfl rfl ?_; clear hS a; intro a hS
                  refine L_skip_t hS rfl rfl rfl ?_; clear hS a; intro a hS
                  refine L_skip_t hS rfl rfl rfl ?_; clear hS a; intro a hS
                  refine L_skip_t hS rfl rfl rfl ?_; clear hS a; intro a hS
                  refine L_skip_u hS rfl rfl rfl ?_; clear hS a; intro a hS
                  refine L_skip_u hS rfl rfl rfl ?_; clear hS a; intro a hS
                  refine L_skip_u hS rfl rfl rfl ?_; clear hS a; intro a hS
                  refine L_skip_t hS rfl rfl rfl ?_; clear hS a; intro a hS
                  first | (refine L_op (s_e hS (e_pick_t rfl rfl) rfl ?_); clear hS a; intro a hS) | (refine L_op (s_e hS (e_pick_f rfl rfl) rfl ?_); clear hS a; intro a hS)
                  exact hcM65 _ _ (hS.ends 10 65 56 rfl (congrArg Value.bool (by exact (decide_eq_false (fun h => hg56 h.1)).symm)) rfl rfl (by first | exact congrArg Value.bool (decide_eq_false hg56).symm | exact congrArg Value.bool hg56.symm | simp [hg56]) rfl)
              · clear hS a; (try clear w); intro a w hS
                simp only [List.drop_succ_cons, List.drop_zero]
                refine L_nil ?_
                refine n_then ?_
                first | refine c_ifD hS rfl (fun hc65 => ?_) (fun hc65 => ?_) | refine c_if hS rfl (fun hc65 => ?_) (fun hc65 => ?_)
                ·
                  have hvp : 0 < v.size := size_pos_of_ne hc65.1
                  refine wp_skip ?_
                  refine n_then ?_
                  refine wp_block ?_
                  refine c_region ?_
                  refine L_op (s_e hS (e_move rfl) rfl ?_); clear hS a; intro a hS
                  refine L_op (s_e hS (e_slSf rfl rfl ty_u9 (by omega)) rfl ?_); clear hS a; intro a hS
                  refine L_op (s_e hS (e_assign rfl) rfl ?_); clear hS a; intro a hS
                  refine L_nil ?_
                  refine n_block ?_
                  exact ⟨v.extract 1 v.size, by have := size_list (v.extract 1 v.size); rw [drop_one, List.length_drop] at this; omega, hS.slots (by repeat (first | exact trivial | refine ⟨rfl, ?_⟩)), by have := size_list (v.extract 1 v.size); rw [drop_one, List.length_drop] at this; omega, by rw [drop_one, ← hv]; exact (trL_go (fun e => hc65.1 (nil_list.2 e)) hc65.2).symm⟩
                ·
                  have hv1 : v.data.toList = trL (s.data.toList.drop (k + 1)) := by rw [← hv]; exact (trL_end (fun h => hc65 ⟨fun e => h.1 (nil_list.1 e), h.2⟩)).symm
                  obtain ⟨v1, hv1e⟩ : ∃ v1, v1 = v := ⟨v, rfl⟩
                  refine wp_exit ?_
                  refine x_then (x_then (x_hit ?_))
                  refine n_then ?_
                  refine c_seq ?_
                  refine wp_block ?_
                  skip
                  refine c_loop (γ := ByteArray) (fun v a w => St 118 noB w0 a w [(6, .string v), (5, .int .i64 (k : Int)), (0, .string s)] [] ∧ v.size ≤ s.size ∧ trR v.data.toList = trR v1.data.toList) (fun v => v.size) v ⟨hS.slots (by repeat (first | exact trivial | refine ⟨rfl, ?_⟩)), hvs, by rw [hv1e]⟩ ?_
                  clear hS a; (try clear w); intro v a w hI
                  rw [← hv1e] at hv1
                  clear hc65 hv hvs hvl hv1e
                  obtain ⟨hS, hvs, hv⟩ := hI
                  have hvl := size_list v
                  refine c_seq ?_
                  refine c_seq ?_
                  refine c_region ?_
                  refine L_op (s_e hS (e_move rfl) rfl ?_); clear hS a; intro a hS
                  refine L_op (s_e hS (e_binS rfl rfl rfl) rfl ?_); clear hS a; intro a hS
                  refine L_op (s_e hS (e_move rfl) rfl ?_); clear hS a; intro a hS
                  refine L_merge 15 85 (.bool (decide (v ≠ ⟨#[]⟩ ∧ (byteAt v.data.toList (v.size - 1) = 32 ∨ byteAt v.data.toList (v.size - 1) = 9)))) hS ?_ ?_
                  · intro hcM85
                    (first | refine g_splitD (t := 70) hS rfl ?_ ?_ | refine g_split (t := 70) hS rfl ?_ ?_) <;> (clear hS; intro hg70 hS)
                    ·
                      have hvp : 0 < v.size := size_pos_of_ne hg70
                      obtain ⟨m, hm⟩ : ∃ m, v.size = m + 1 := ⟨v.size - 1, by omega⟩
                      refine L_go hS rfl rfl (s_e hS (e_move rfl) rfl ?_); clear hS a; intro a hS
                      refine L_go hS rfl rfl (s_e hS (e_move rfl) rfl ?_); clear hS a; intro a hS
                      refine L_go hS rfl rfl (s_e hS (e_lenS rfl rfl ty_u9) rfl ?_); clear hS a; intro a hS
                      first | (refine L_go hS rfl rfl (s_e hS (e_binN rfl rfl rfl (by omega)) rfl ?_); clear hS a; intro a hS) | (refine L_go hS rfl rfl (s_e hS (e_bin rfl rfl rfl) rfl ?_); clear hS a; intro a hS)
                      rw [hm, show ((m + 1 : Nat) : Int) - 1 = (m : Int) by omega] at hS
                      refine L_go hS rfl rfl (s_e hS (e_ixS rfl rfl ty_u9 (by omega)) rfl ?_); clear hS a; intro a hS
                      rw [Int.toNat_natCast] at hS
                      refine L_go hS rfl rfl (s_e hS (e_bin rfl rfl rfl) rfl ?_); clear hS a; intro a hS
                      refine L_go hS rfl rfl (s_e hS (e_move rfl) rfl ?_); clear hS a; intro a hS
                      refine L_merge 7 84 (.bool (decide (byteAt v.data.toList (v.size - 1) = 32 ∨ byteAt v.data.toList (v.size - 1) = 9))) hS ?_ ?_
                      · intro hcM84
                        (first | refine g_splitD (t := 77) hS rfl ?_ ?_ | refine g_split (t := 77) hS rfl ?_ ?_) <;> (clear hS; intro hg77 hS)
                        ·
                          refine L_skip_f hS rfl rfl rfl ?_; clear hS a; intro a hS
                          refine L_skip_f hS rfl rfl rfl ?_; clear hS a; intro a hS
                          refine L_skip_f hS rfl rfl rfl ?_; clear hS a; intro a hS
                          refine L_skip_f hS rfl rfl rfl ?_; clear hS a; intro a hS
                          refine L_skip_f hS rfl rfl rfl ?_; clear hS a; intro a hS
                          refine L_skip_f hS rfl rfl rfl ?_; clear hS a; intro a hS
                          first | (refine L_go hS rfl rfl (s_e hS (e_pick_t rfl rfl) rfl ?_); clear hS a; intro a hS) | (refine L_go hS rfl rfl (s_e hS (e_pick_f rfl rfl) rfl ?_); clear hS a; intro a hS)
                          exact hcM84 _ _ (hS.ends 8 84 77 rfl (congrArg Value.bool (by rw [hm, Nat.add_sub_cancel]; unfold byteAt; exact (decide_eq_true (.inl (by omega))).symm)) rfl rfl (by first | exact congrArg Value.bool (decide_eq_true hg77).symm | exact congrArg Value.bool hg77.symm | simp [hg77]) rfl)
                        ·
                          refine L_go hS rfl rfl (s_e hS (e_move rfl) rfl ?_); clear hS a; intro a hS
                          refine L_go hS rfl rfl (s_e hS (e_move rfl) rfl ?_); clear hS a; intro a hS
                          refine L_go hS rfl rfl (s_e hS (e_lenS rfl rfl ty_u9) rfl ?_); clear hS a; intro a hS
                          first | (refine L_go hS rfl rfl (s_e hS (e_binN rfl rfl rfl (by omega)) rfl ?_); clear hS a; intro a hS) | (refine L_go hS rfl rfl (s_e hS (e_bin rfl rfl rfl) rfl ?_); clear hS a; intro a hS)
                          rw [hm, show ((m + 1 : Nat) : Int) - 1 = (m : Int) by omega] at hS
                          refine L_go hS rfl rfl (s_e hS (e_ixS rfl rfl ty_u9 (by omega)) rfl ?_); clear hS a; intro a hS
                          rw [Int.toNat_natCast] at hS
                          refine L_go hS rfl rfl (s_e hS (e_bin rfl rfl rfl) rfl ?_); clear hS a; intro a hS
                          first | (refine L_go hS rfl rfl (s_e hS (e_pick_t rfl rfl) rfl ?_); clear hS a; intro a hS) | (refine L_go hS rfl rfl (s_e hS (e_pick_f rfl rfl) rfl ?_); clear hS a; intro a hS)
                          exact hcM84 _ _ (hS.ends 8 84 77 rfl (congrArg Value.bool (by rw [hm, Nat.add_sub_cancel]; unfold byteAt; exact decide_eq_decide.2 (by omega))) rfl rfl (by first | exact congrArg Value.bool (decide_eq_false hg77).symm | exact congrArg Value.bool hg77.symm | simp [hg77]) rfl)
                      · clear hS a; (try clear w); intro a w hS
                        simp only [List.drop_succ_cons, List.drop_zero]
                        first | (refine L_op (s_e hS (e_pick_t rfl rfl) rfl ?_); clear hS a; intro a hS) | (refine L_op (s_e hS (e_pick_f rfl rfl) rfl ?_); clear hS a; intro a hS)
                        exact hcM85 _ _ (hS.ends 10 85 70 rfl (congrArg Value.bool (by exact decide_eq_decide.2 ⟨fun h => ⟨hg70, h⟩, fun h => h.2⟩)) rfl rfl (by first | exact congrArg Value.bool (decide_eq_true hg70).symm | exact congrArg Value.bool hg70.symm | simp [hg70]) rfl)
                    ·
                      refine L_skip_t hS rfl rfl rfl ?_; clear hS a; intro a hS
                      refine L_skip_t hS rfl rfl rfl ?_; clear hS a; intro a hS
                      refine L_skip_t hS rfl rfl rfl ?_; clear hS a; intro a hS
                      refine L_skip_t hS rfl rfl rfl ?_; clear hS a; intro a hS
                      refine L_skip_t hS rfl rfl rfl ?_; clear hS a; intro a hS
                      refine L_skip_t hS rfl rfl rfl ?_; clear hS a; intro a hS
                      refine L_skip_t hS rfl rfl rfl ?_; clear hS a; intro a hS
                      refine L_skip_u hS rfl rfl rfl ?_; clear hS a; intro a hS
                      refine L_skip_u hS rfl rfl rfl ?_; clear hS a; intro a hS
                      refine L_skip_u hS rfl rfl rfl ?_; clear hS a; intro a hS
                      refine L_skip_u hS rfl rfl rfl ?_; clear hS a; intro a hS
                      refine L_skip_u hS rfl rfl rfl ?_; clear hS a; intro a hS
                      refine L_skip_u hS rfl rfl rfl ?_; clear hS a; intro a hS
                      refine L_skip_t hS rfl rfl rfl ?_; clear hS a; intro a hS
                      first | (refine L_op (s_e hS (e_pick_t rfl rfl) rfl ?_); clear hS a; intro a hS) | (refine L_op (s_e hS (e_pick_f rfl rfl) rfl ?_); clear hS a; intro a hS)
                      exact hcM85 _ _ (hS.ends 16 85 70 rfl (congrArg Value.bool (by exact (decide_eq_false (fun h => hg70 h.1)).symm)) rfl rfl (by first | exact congrArg Value.bool (decide_eq_false hg70).symm | exact congrArg Value.bool hg70.symm | simp [hg70]) rfl)
                  · clear hS a; (try clear w); intro a w hS
                    simp only [List.drop_succ_cons, List.drop_zero]
                    refine L_nil ?_
                    refine n_then ?_
                    first | refine c_ifD hS rfl (fun hc85 => ?_) (fun hc85 => ?_) | refine c_if hS rfl (fun hc85 => ?_) (fun hc85 => ?_)
                    ·
                      have hvp : 0 < v.size := size_pos_of_ne hc85.1
                      obtain ⟨m, hm⟩ : ∃ m, v.size = m + 1 := ⟨v.size - 1, by omega⟩
                      refine wp_skip ?_
                      refine n_then ?_
                      refine wp_block ?_
                      refine c_region ?_
                      refine L_op (s_e hS (e_move rfl) rfl ?_); clear hS a; intro a hS
                      refine L_op (s_e hS (e_move rfl) rfl ?_); clear hS a; intro a hS
                      refine L_op (s_e hS (e_lenS rfl rfl ty_u9) rfl ?_); clear hS a; intro a hS
                      first | (refine L_op (s_e hS (e_binN rfl rfl rfl (by omega)) rfl ?_); clear hS a; intro a hS) | (refine L_op (s_e hS (e_bin rfl rfl rfl) rfl ?_); clear hS a; intro a hS)
                      rw [hm, show ((m + 1 : Nat) : Int) - 1 = (m : Int) by omega] at hS
                      refine L_op (s_e hS (e_slSt rfl rfl ty_u9 (by omega)) rfl ?_); clear hS a; intro a hS
                      rw [Int.toNat_natCast] at hS
                      refine L_op (s_e hS (e_assign rfl) rfl ?_); clear hS a; intro a hS
                      refine L_nil ?_
                      refine n_block ?_
                      have h2 := hc85.2
                      rw [hm, Nat.add_sub_cancel] at h2
                      exact ⟨v.extract 0 m, by have := size_list (v.extract 0 m); rw [ext_to, List.length_take] at this; omega, hS.slots (by repeat (first | exact trivial | refine ⟨rfl, ?_⟩)), by have := size_list (v.extract 0 m); rw [ext_to, List.length_take] at this; omega, by rw [ext_to, ← hv]; exact (trR_go (by omega) h2).symm⟩
                    ·
                      have hv2 : v.data.toList = Lib.trimS (s.data.toList.drop (k + 1)) [32, 9] := by
                        rw [trim_eq, ← hv1, ← hv]
                        exact (trR_end (fun j hj h => hc85 ⟨fun e => by have := nil_list.1 e; rw [this] at hj; simp at hj, by rw [show v.size - 1 = j by omega]; exact h⟩)).symm
                      refine wp_exit ?_
                      refine x_then (x_then (x_hit ?_))
                      refine n_then ?_
                      refine c_seq ?_
                      refine c_seq ?_
                      refine c_region ?_
                      refine L_op (s_e hS (e_assign rfl) rfl ?_); clear hS a; intro a hS
                      refine L_nil ?_
                      refine n_then ?_
                      refine wp_block ?_
                      skip
                      refine c_loop (γ := Nat) (fun i a w => St 118 noB w0 a w [(7, .int .i64 (i : Int)), (6, .string v), (5, .int .i64 (k : Int)), (0, .string s)] [] ∧ i ≤ v.size ∧ ∀ j, j < i → ¬ oddB (byteAt v.data.toList j) = true) (fun i => v.size - i) 0 ⟨hS.slots (by repeat (first | exact trivial | refine ⟨rfl, ?_⟩)), Nat.zero_le _, fun j hj => by omega⟩ ?_
                      clear hS a; (try clear w); intro i a w hI
                      obtain ⟨hS, hi, hev⟩ := hI
                      refine c_seq ?_
                      refine c_seq ?_
                      refine c_region ?_
                      refine L_op (s_e hS (e_move rfl) rfl ?_); clear hS a; intro a hS
                      refine L_op (s_e hS (e_move rfl) rfl ?_); clear hS a; intro a hS
                      refine L_op (s_e hS (e_lenS rfl rfl ty_u9) rfl ?_); clear hS a; intro a hS
                      refine L_op (s_e hS (e_bin rfl rfl rfl) rfl ?_); clear hS a; intro a hS
                      refine L_nil ?_
                      refine n_then ?_
                      first | refine c_ifD hS rfl (fun hc94 => ?_) (fun hc94 => ?_) | refine c_if hS rfl (fun hc94 => ?_) (fun hc94 => ?_)
                      ·
                        have hil : i < v.size := by omega
                        refine wp_skip ?_
                        refine n_then ?_
                        refine c_seq ?_
                        refine wp_block ?_
                        refine c_seq ?_
                        refine c_region ?_
                        refine L_op (s_e hS (e_move rfl) rfl ?_); clear hS a; intro a hS
                        refine L_op (s_e hS (e_move rfl) rfl ?_); clear hS a; intro a hS
                        refine L_op (s_e hS (e_ixS rfl rfl ty_u9 (by omega)) rfl ?_); clear hS a; intro a hS
                        rw [Int.toNat_natCast] at hS
                        refine L_op (s_e hS (e_bin rfl rfl rfl) rfl ?_); clear hS a; intro a hS
                        refine L_op (s_e hS (e_move rfl) rfl ?_); clear hS a; intro a hS
                        refine L_merge 5 106 (.bool (decide (byteAt v.data.toList i < 32 ∨ 126 < byteAt v.data.toList i))) hS ?_ ?_
                        · intro hcM106
                          (first | refine g_splitD (t := 101) hS rfl ?_ ?_ | refine g_split (t := 101) hS rfl ?_ ?_) <;> (clear hS; intro hg101 hS)
                          ·
                            refine L_skip_f hS rfl rfl rfl ?_; clear hS a; intro a hS
                            refine L_skip_f hS rfl rfl rfl ?_; clear hS a; intro a hS
                            refine L_skip_f hS rfl rfl rfl ?_; clear hS a; intro a hS
                            refine L_skip_f hS rfl rfl rfl ?_; clear hS a; intro a hS
                            first | (refine L_op (s_e hS (e_pick_t rfl rfl) rfl ?_); clear hS a; intro a hS) | (refine L_op (s_e hS (e_pick_f rfl rfl) rfl ?_); clear hS a; intro a hS)
                            exact hcM106 _ _ (hS.ends 6 106 101 rfl (congrArg Value.bool (by unfold byteAt; exact (decide_eq_true (by omega)).symm)) rfl rfl (by first | exact congrArg Value.bool (decide_eq_true hg101).symm | exact congrArg Value.bool hg101.symm | simp [hg101]) rfl)
                          ·
                            refine L_go hS rfl rfl (s_e hS (e_move rfl) rfl ?_); clear hS a; intro a hS
                            refine L_go hS rfl rfl (s_e hS (e_move rfl) rfl ?_); clear hS a; intro a hS
                            refine L_go hS rfl rfl (s_e hS (e_ixS rfl rfl ty_u9 (by omega)) rfl ?_); clear hS a; intro a hS
                            rw [Int.toNat_natCast] at hS
                            refine L_go hS rfl rfl (s_e hS (e_bin rfl rfl rfl) rfl ?_); clear hS a; intro a hS
                            first | (refine L_op (s_e hS (e_pick_t rfl rfl) rfl ?_); clear hS a; intro a hS) | (refine L_op (s_e hS (e_pick_f rfl rfl) rfl ?_); clear hS a; intro a hS)
                            exact hcM106 _ _ (hS.ends 6 106 101 rfl (congrArg Value.bool (by unfold byteAt; exact decide_eq_decide.2 (by omega))) rfl rfl (by first | exact congrArg Value.bool (decide_eq_false hg101).symm | exact congrArg Value.bool hg101.symm | simp [hg101]) rfl)
                        · clear hS a; (try clear w); intro a w hS
                          simp only [List.drop_succ_cons, List.drop_zero]
                          refine L_op (s_e hS (e_move rfl) rfl ?_); clear hS a; intro a hS
                          refine L_merge 5 112 (.bool (oddB (byteAt v.data.toList i))) hS ?_ ?_
                          · intro hcM112
                            (first | refine g_splitD (t := 107) hS rfl ?_ ?_ | refine g_split (t := 107) hS rfl ?_ ?_) <;> (clear hS; intro hg107 hS)
                            ·
                              refine L_go hS rfl rfl (s_e hS (e_move rfl) rfl ?_); clear hS a; intro a hS
                              refine L_go hS rfl rfl (s_e hS (e_move rfl) rfl ?_); clear hS a; intro a hS
                              refine L_go hS rfl rfl (s_e hS (e_ixS rfl rfl ty_u9 (by omega)) rfl ?_); clear hS a; intro a hS
                              rw [Int.toNat_natCast] at hS
                              refine L_go hS rfl rfl (s_e hS (e_bin rfl rfl rfl) rfl ?_); clear hS a; intro a hS
                              first | (refine L_op (s_e hS (e_pick_t rfl rfl) rfl ?_); clear hS a; intro a hS) | (refine L_op (s_e hS (e_pick_f rfl rfl) rfl ?_); clear hS a; intro a hS)
                              exact hcM112 _ _ (hS.ends 6 112 107 rfl (congrArg Value.bool (by unfold oddB; unfold byteAt at *; exact decide_eq_decide.2 (by omega))) rfl rfl (by first | exact congrArg Value.bool (decide_eq_true hg107).symm | exact congrArg Value.bool hg107.symm | simp [hg107]) rfl)
                            ·
                              refine L_skip_t hS rfl rfl rfl ?_; clear hS a; intro a hS
                              refine L_skip_t hS rfl rfl rfl ?_; clear hS a; intro a hS
                              refine L_skip_t hS rfl rfl rfl ?_; clear hS a; intro a hS
                              refine L_skip_t hS rfl rfl rfl ?_; clear hS a; intro a hS
                              first | (refine L_op (s_e hS (e_pick_t rfl rfl) rfl ?_); clear hS a; intro a hS) | (refine L_op (s_e hS (e_pick_f rfl rfl) rfl ?_); clear hS a; intro a hS)
                              exact hcM112 _ _ (hS.ends 6 112 107 rfl (congrArg Value.bool (by unfold oddB; exact (decide_eq_false (fun h => hg107 h.2)).symm)) rfl rfl (by first | exact congrArg Value.bool (decide_eq_false hg107).symm | exact congrArg Value.bool hg107.symm | simp [hg107]) rfl)
                          · clear hS a; (try clear w); intro a w hS
                            simp only [List.drop_succ_cons, List.drop_zero]
                            refine L_nil ?_
                            refine n_then ?_
                            first | refine c_ifD hS rfl (fun hc112 => ?_) (fun hc112 => ?_) | refine c_if hS rfl (fun hc112 => ?_) (fun hc112 => ?_)
                            ·
                              refine c_seq ?_
                              refine c_region ?_
                              refine L_op (s_e hS (e_assign rfl) rfl ?_); clear hS a; intro a hS
                              refine L_op (s_e hS (e_assign rfl) rfl ?_); clear hS a; intro a hS
                              refine L_op (s_e hS (e_assign rfl) rfl ?_); clear hS a; intro a hS
                              refine L_nil ?_
                              refine n_then ?_
                              refine wp_ret ?_
                              refine r_block (r_then (r_then (r_block (r_then ?_))))
                              refine c_retN hS Tryz.results25 (.cons (.tmp rfl) (.cons (.tmp rfl) (.cons (.tmp rfl) .nil))) rfl ?_
                              have hf2 : fieldF s.data.toList = none := by rw [hf, if_pos (any_at.2 ⟨i, by rw [← hv2]; omega, by rw [← hv2]; exact decide_eq_true hc112⟩)]
                              obtain ⟨e1, e2, e3⟩ := f_no hf2
                              exact ⟨by rw [e1, e2, e3], hS.chg⟩
                            ·
                              refine wp_skip ?_
                              refine n_block ?_
                              refine n_then ?_
                              refine c_region ?_
                              refine L_op (s_e hS (e_move rfl) rfl ?_); clear hS a; intro a hS
                              first | (refine L_op (s_e hS (e_binN rfl rfl rfl (by omega)) rfl ?_); clear hS a; intro a hS) | (refine L_op (s_e hS (e_bin rfl rfl rfl) rfl ?_); clear hS a; intro a hS)
                              refine L_op (s_e hS (e_assign rfl) rfl ?_); clear hS a; intro a hS
                              refine L_nil ?_
                              exact ⟨i + 1, by omega, hS.slots (by repeat (first | exact trivial | refine ⟨rfl, ?_⟩)), by omega, fun j hj => by
                              rcases Nat.lt_or_ge j i with h | h
                              · exact hev j h
                              obtain rfl : j = i := (by omega)
                              exact fun h => hc112 (of_decide_eq_true h)⟩
                      ·
                        have hf2 : fieldF s.data.toList = some (Lib.toLowerA (s.data.toList.take k), v.data.toList) := by
                          rw [hf, ← hv2, if_neg (fun h => by obtain ⟨j, hj, h2⟩ := any_at.1 h; exact hev j (by omega) h2)]
                        refine wp_exit ?_
                        refine x_then (x_then (x_hit ?_))
                        refine n_then ?_
                        refine c_seq ?_
                        refine c_region ?_
                        refine L_op (s_e hS (e_move rfl) rfl ?_); clear hS a; intro a hS
                        refine L_op (s_e hS (e_move rfl) rfl ?_); clear hS a; intro a hS
                        refine L_op (s_e hS (e_slSt rfl rfl ty_u9 (by omega)) rfl ?_); clear hS a; intro a hS
                        rw [Int.toNat_natCast] at hS
                        refine L_op (s_callP hS (.cons rfl .nil) cf26 rfl (ySmall_P (s.extract 0 k) (by have := size_list (s.extract 0 k); rw [ext_to, List.length_take] at this; omega) _) ?_); clear hS a; (try clear w); intro a w hS
                        refine L_op (s_e hS (e_move rfl) rfl ?_); clear hS a; intro a hS
                        refine L_op (s_e hS (e_assign rfl) rfl ?_); clear hS a; intro a hS
                        refine L_op (s_e hS (e_assign rfl) rfl ?_); clear hS a; intro a hS
                        refine L_op (s_e hS (e_assign rfl) rfl ?_); clear hS a; intro a hS
                        refine L_nil ?_
                        refine n_then ?_
                        refine wp_ret ?_
                        refine c_retN hS Tryz.results25 (.cons (.tmp rfl) (.cons (.tmp rfl) (.cons (.tmp rfl) .nil))) rfl ?_
                        obtain ⟨e1, e2, e3⟩ := f_yes hf2
                        exact ⟨by rw [e1, e2, e3, ext_to, tx_self], hS.chg⟩
end Go.Proofs.YtjmkjkhcognoeaaGreatDoor

namespace Go.Proofs.YtjmkjkhcognoeaaGreatDoor
open Go.RowKit

theorem nm_of_own {w : World} {v : Value} {l : List ByteArray} {E : Nat} (h : (ownA E 1 v l.length (l.flatMap encN)).ok w) : NmAt v l w := by
  obtain ⟨q, c, rfl⟩ := own_slice h.now
  by_cases hl : l = []
  · subst hl; exact .inl ⟨rfl, _, _, rfl⟩
  · obtain ⟨g, rfl⟩ := own_at h.now (fun e => hl (List.eq_nil_of_length_eq_zero e))
    exact .inr ⟨g, 0, c, hl, rfl, row_of_own (enc := encN) (fun _ => rfl) h.now, h.lt g rfl⟩
set_option maxRecDepth 100000 in
theorem xBytes_P (q : Option Addr) (c : Nat) (l : List Int) (hlen : l.length ≤ 1000000) (w0 : World) (hv : ByAt (.slice q l.length c) l w0) :
    NewC Tryz.prog 29 [.slice q l.length c] w0 (fun v : Value => v) (fun v => ownA 5 1 v l.length (l.map (Value.int .u8))) := by
  refine c_enter [(0, .slice q l.length c)] [oldA w0] noB Tryz.func29 rfl Tryz.ntmps29 ⟨rfl, trivial⟩ rfl (okC (old_ok (old_refl w0)) okN) dis1 (mineC (by rfl) mineN) ?_
  intro a hS
  refine c_seq ?_
  refine c_region ?_
  refine L_op (s_e hS (e_assign rfl) rfl ?_); clear hS a; intro a hS
  refine L_nil ?_
  refine n_then ?_
  refine c_seq ?_
  refine c_region ?_
  refine L_op (s_bslice hS ty_sl22 ty_sz5 ty_z5 rfl rfl rfl rfl .nil rfl ?_); clear hS a; (try clear w); intro a w b3 hS
  replace hS := hS.swap (X := .blk b3 [] 5) (Y := ownA 5 1 (.slice (some ⟨b3, 0, none⟩) 0 0) 0 []) (by repeat constructor) (own_empty (hS.get (X := .blk b3 [] 5) (by repeat constructor))) (fun b hb => by simpa [ownA, Asn.F, Value.ownBlock, eq_comm] using hb) rfl
  refine L_op (s_e hS (e_move rfl) rfl ?_); clear hS a; intro a hS
  refine L_op (s_appendL hS rfl rfl ty_sl22 ty_sz5 ty_by5 ty_z5 rfl rfl rfl (by repeat constructor) (ys := l.map (Value.int .u8)) (by rw [List.length_map, Nat.mul_one]) (by_read (old_by (hS.get (X := oldA w0) (by repeat constructor)) hv)) (one_B _) (by omega) (fun _ => (by repeat constructor)) ?_); clear hS a; (try clear w); intro v5 a w hv5 hS
  rw [Nat.zero_add, List.nil_append] at hS
  refine L_op (s_e hS (e_assign rfl) rfl ?_); clear hS a; intro a hS
  refine L_nil ?_
  refine n_then ?_
  refine wp_ret ?_
  refine c_ret1 hS Tryz.results29 (.tmp rfl) ?_
  exact ⟨v5, rfl, hS.chg, hS.new (X := ownA 5 1 v5 l.length (l.map (Value.int .u8))) (by repeat constructor) rfl⟩

theorem low_plain {l : List UInt8} (h : ∀ b ∈ l, b.toNat < 128) : lowS l = tx (Lib.toLowerA l) := by
  unfold lowS; rw [Lib.toLowerD_ascii l h]
theorem hv_ascii {l : List UInt8} (h : hdrB l = true) : ∀ b ∈ Lib.trimS (Lib.cut l [58]).2.1 [32, 9], b.toNat < 128 := fun b hb => by
  have h2 := ((hdr_iff l).1 h).2.2
  rcases Nat.lt_or_ge b.toNat 128 with h3 | h3
  · exact h3
  · have : ((Lib.trimS (Lib.cut l [58]).2.1 [32, 9]).any fun b => oddB b.toNat) = true := List.any_eq_true.2 ⟨b, hb, decide_eq_true (by omega)⟩
    rw [h2] at this; cases this
theorem f_hdr (l : List UInt8) : (fieldF l).isSome = hdrB l ∧ (hdrB l = true → fN l = tx (Lib.toLowerD (Lib.cut l [58]).1) ∧ fV l = tx (Lib.trimS (Lib.cut l [58]).2.1 [32, 9])) := by
  have h := hdr_field l
  cases hb : hdrB l
  · rw [hb, if_neg (by decide)] at h
    exact ⟨(f_no h).2.2, fun e => by cases e⟩
  · rw [hb, if_pos rfl] at h
    exact ⟨(f_yes h).2.2, fun _ => ⟨(f_yes h).1, (f_yes h).2.1⟩⟩
theorem ite_iff {p q : Prop} [Decidable p] [Decidable q] {α : Type} {x y : α} (h : p ↔ q) : (if p then x else y) = if q then x else y := by
  by_cases hp : p
  · rw [if_pos hp, if_pos (h.1 hp)]
  · rw [if_neg hp, if_neg (fun hq => hp (h.2 hq))]
theorem cl_cn : sCL ≠ sCN := by decide
/-- what the reference knows of a reading, and what the program's reader knows. -/
structure yInv (l : List Int) (p : Nat) (D : RD) (sn : List ByteArray) : Prop where
  go : goP l p D = goP l 0 D0
  hp : p ≤ l.length
  ok : okD D
  z : D.n = 0 → D = D0
  has : ∀ k, (k = sCL ∨ k = sCN) → getI D.es k = if k ∈ sn then 1 else 0
  nov : D.over = false
  n : D.n ≤ 21
  sl : sn.length ≤ D.n
theorem yinv0 (l : List Int) : yInv l 0 D0 [] := ⟨rfl, Nat.zero_le _, ok_D0, fun _ => rfl, fun k _ => by rw [if_neg (by simp)]; rfl, rfl, by decide, by decide⟩
theorem yinv_end {l : List Int} {p : Nat} {D : RD} {sn : List ByteArray} (h : yInv l p D sn) (h1 : (lineF (l.drop p)).1 < 0) : goP l 0 D0 = .no (lineF (l.drop p)).2 := h.go.symm.trans (goP_end h1)
theorem yinv_err {l : List Int} {p : Nat} {D D' : RD} {sn : List ByteArray} {e : Int} (h : yInv l p D sn) (p1 : 0 ≤ (lineF (l.drop p)).1) (he : stepP D (lineS l p) = (D', e)) (hne : e ≠ 0) : goP l 0 D0 = .no e := by
  rw [← h.go, goP_err p1 (by rw [he]; exact hne), he]
theorem yinv_few {l : List Int} {p : Nat} {D D' : RD} {sn : List ByteArray} (h : yInv l p D sn) (p1 : 0 ≤ (lineF (l.drop p)).1) (he : stepP D (lineS l p) = (D', 0)) (ho : D'.over = true) (hb : (l.length : Int) - (aftL l p : Int) < D'.bl) : goP l 0 D0 = .no 0 := by
  rw [← h.go, goP_few p1 (by rw [he]) (by rw [he]; exact ho) (by rw [he]; exact hb)]
theorem yinv_yes {l : List Int} {p : Nat} {D D' : RD} {sn : List ByteArray} (h : yInv l p D sn) (p1 : 0 ≤ (lineF (l.drop p)).1) (he : stepP D (lineS l p) = (D', 0)) (ho : D'.over = true) (hb : ¬ (l.length : Int) - (aftL l p : Int) < D'.bl) :
    goP l 0 D0 = .yes D'.m D'.p D'.cl (bodyL l (aftL l p) D'.bl) (aftL l p + D'.bl.toNat) := by
  rw [← h.go, goP_yes p1 (by rw [he]) (by rw [he]; exact ho) (by rw [he]; exact hb), he]
theorem yinv_next {l : List Int} {p : Nat} {D D' : RD} {sn sn' : List ByteArray} (h : yInv l p D sn) (p1 : 0 ≤ (lineF (l.drop p)).1) (he : stepP D (lineS l p) = (D', 0)) (ho : D'.over = false) (hn : D'.n ≠ 0 ∧ D'.n ≤ 21)
    (hs : ∀ k, (k = sCL ∨ k = sCN) → getI D'.es k = if k ∈ sn' then 1 else 0) (hl : sn'.length ≤ D'.n) : yInv l (aftL l p) D' sn' := by
  have hk := (ok_step h.ok (lineS l p)).1
  rw [he] at hk
  exact ⟨by rw [← h.go, goP_go p1 (by rw [he]) (by rw [he]; exact ho), he], (line_in p1).2, hk, fun e => absurd e hn.1, hs, ho, hn.2, hl⟩
/-- the ways of a line. -/
theorem st_head {D : RD} {s : ByteArray} (h : D.n = 0) : stepP D s = ({ D with m := (headF s).2.1, p := (headF s).2.2, cl := false, n := 1 }, (headF s).1) := by unfold stepP; rw [if_pos h]
theorem st_over {D : RD} {s : ByteArray} (h : D.n ≠ 0) (h1 : s = ⟨#[]⟩) : stepP D s = ({ D with n := D.n + 1, over := true }, 0) := by unfold stepP; rw [if_neg h, if_pos h1]
theorem st_bad {D : RD} {s : ByteArray} (h : D.n ≠ 0) (h1 : ¬ s = ⟨#[]⟩) (h2 : hdrB s.data.toList = false) : stepP D s = ({ D with n := D.n + 1 }, 10) := by unfold stepP; rw [if_neg h, if_neg h1, if_pos h2]
theorem st_many {D : RD} {s : ByteArray} (h : D.n ≠ 0) (h1 : ¬ s = ⟨#[]⟩) (h2 : hdrB s.data.toList = true) (h3 : 20 < D.n) : stepP D s = ({ D with n := D.n + 1 }, 9) := by unfold stepP; rw [if_neg h, if_neg h1, if_neg (by rw [h2]; decide), if_pos h3]
theorem st_other {D : RD} {s : ByteArray} (h : D.n ≠ 0) (h1 : ¬ s = ⟨#[]⟩) (h2 : hdrB s.data.toList = true) (h3 : ¬ 20 < D.n) (h4 : hName s ≠ sCL ∧ hName s ≠ sCN) : stepP D s = ({ D with n := D.n + 1, es := setI D.es (hName s) (getI D.es (hName s) + 1) }, 0) := by
  unfold stepP; rw [if_neg h, if_neg h1, if_neg (by rw [h2]; decide), if_neg h3, if_pos h4]
theorem st_twice {D : RD} {s : ByteArray} (h : D.n ≠ 0) (h1 : ¬ s = ⟨#[]⟩) (h2 : hdrB s.data.toList = true) (h3 : ¬ 20 < D.n) (h4 : ¬ (hName s ≠ sCL ∧ hName s ≠ sCN)) (h5 : 1 < getI D.es (hName s) + 1) : stepP D s = ({ D with n := D.n + 1, es := setI D.es (hName s) (getI D.es (hName s) + 1) }, 12) := by
  unfold stepP; rw [if_neg h, if_neg h1, if_neg (by rw [h2]; decide), if_neg h3, if_neg h4, if_pos h5]
theorem st_len {D : RD} {s : ByteArray} (h : D.n ≠ 0) (h1 : ¬ s = ⟨#[]⟩) (h2 : hdrB s.data.toList = true) (h3 : ¬ 20 < D.n) (h4 : hName s = sCL) (h5 : ¬ 1 < getI D.es (hName s) + 1) :
    stepP D s = ({ D with n := D.n + 1, es := setI D.es (hName s) (getI D.es (hName s) + 1), bl := (lenF (hVal s).data.toList).1 }, (lenF (hVal s).data.toList).2) := by
  unfold stepP; rw [if_neg h, if_neg h1, if_neg (by rw [h2]; decide), if_neg h3, if_neg (fun hh => hh.1 h4), if_neg h5, if_pos h4]
theorem st_conn {D : RD} {s : ByteArray} (h : D.n ≠ 0) (h1 : ¬ s = ⟨#[]⟩) (h2 : hdrB s.data.toList = true) (h3 : ¬ 20 < D.n) (h4 : hName s = sCN) (h5 : ¬ 1 < getI D.es (hName s) + 1) :
    stepP D s = ({ D with n := D.n + 1, es := setI D.es (hName s) (getI D.es (hName s) + 1), cl := decide (tx (Lib.toLowerA (hVal s).data.toList) = sClose) },
      if tx (Lib.toLowerA (hVal s).data.toList) ≠ sClose ∧ tx (Lib.toLowerA (hVal s).data.toList) ≠ sKeep then 10 else 0) := by
  have ha : lowS (hVal s).data.toList = tx (Lib.toLowerA (hVal s).data.toList) := low_plain (hv_ascii h2)
  have hz : (tx (Lib.toLowerA (hVal s).data.toList)).size = (hVal s).size := by
    rw [tx_size, Lib.toLowerA, List.length_map]; exact size_list (hVal s)
  unfold stepP; rw [if_neg h, if_neg h1, if_neg (by rw [h2]; decide), if_neg h3, if_neg (fun hh => hh.2 h4), if_neg h5, if_neg (by rw [h4]; exact fun e => cl_cn e.symm), ha, hz]
  congr 1
  exact ite_iff ⟨fun h => h.resolve_left (fun h2 => h2 rfl), .inr⟩
theorem sn_set {D : RD} {sn : List ByteArray} {nm : ByteArray} {v : Int} (h : ∀ k, (k = sCL ∨ k = sCN) → getI D.es k = if k ∈ sn then 1 else 0) (h0 : getI D.es nm = 0) (h2 : v = getI D.es nm + 1) : ∀ k, (k = sCL ∨ k = sCN) → getI (setI D.es nm v) k = if k ∈ sn ++ [nm] then 1 else 0 := fun k hk => by
  rw [get_set]
  by_cases e : nm = k
  · subst e; rw [if_pos rfl, if_pos (by simp), h2, h0]; rfl
  · rw [if_neg e, h k hk]
    exact ite_iff (by simp [show ¬ k = nm from fun e2 => e e2.symm])
theorem sn_far {D : RD} {sn : List ByteArray} {nm : ByteArray} {v : Int} (h : ∀ k, (k = sCL ∨ k = sCN) → getI D.es k = if k ∈ sn then 1 else 0) (h0 : nm ≠ sCL ∧ nm ≠ sCN) : ∀ k, (k = sCL ∨ k = sCN) → getI (setI D.es nm v) k = if k ∈ sn then 1 else 0 := fun k hk => by
  rw [get_set, if_neg (fun e => by subst e; exact hk.elim h0.1 h0.2), h k hk]
theorem len_at {l : List UInt8} (h : NumForm l ∧ byteAt l 0 ≠ 45) : ((atoiR l).2 = true ∧ ¬ 32768 < (atoiR l).1 ∧ lenF l = ((atoiR l).1, 0)) ∨ ((atoiR l).2 = true ∧ 32768 < (atoiR l).1 ∧ lenF l = (0, 8)) ∨ ((atoiR l).2 = false ∧ lenF l = (0, 8)) := by
  have hb : numBody l = l := by unfold numBody; rw [if_neg (fun hh => h.2 hh.2)]
  have hn : numVal l = (dv l : Int) := by unfold numVal; rw [if_neg h.2, hb]
  unfold atoiR lenF
  rw [if_pos h, hn]
  by_cases h1 : (dv l : Int) ≤ 9223372036854775807
  · rw [if_pos ⟨h.1, by omega, h1⟩]
    by_cases h2 : (dv l : Int) ≤ 32768
    · rw [if_pos h2]; exact .inl ⟨rfl, by simp only; omega, rfl⟩
    · rw [if_neg h2]; exact .inr (.inl ⟨rfl, by simp only; omega, rfl⟩)
  · rw [if_neg (fun hh => h1 hh.2.2), if_neg (by omega)]; exact .inr (.inr ⟨rfl, rfl⟩)
theorem num_ne {l : List UInt8} (h : NumForm l) : 0 < l.length := by
  rcases Nat.eq_zero_or_pos l.length with h0 | h0
  · obtain rfl := List.eq_nil_of_length_eq_zero h0; exact absurd rfl h.1
  · exact h0

set_option maxHeartbeats 4000000 in
set_option maxRecDepth 100000 in
theorem yParse_P (W0 : World) (q : Option Addr) (c : Nat) (l : List Int) (hlen : l.length ≤ 1000000) (hv : ByAt (.slice q l.length c) l W0) (w0 : World) (ho : oldφ W0 w0) :
    NewC Tryz.prog 8 [.slice q l.length c] w0 (fun x : Value => oV (goP l 0 D0) x) (fun x => oY (goP l 0 D0) x) := by
  have hlc : l ≠ [] → l.length ≤ c := fun hne => by
    obtain ⟨b, off, c', e, h1, _⟩ := hv.some hne
    injection e with _ _ e3; omega
  have err_ : ∀ {e : Int}, goP l 0 D0 = .no e → ∀ {w : World}, Chg noB w0 w → ∃ x : Value, Ending.returned (.tuple [.agg [.string ⟨#[]⟩, .string ⟨#[]⟩, .slice none 0 0, .bool false].toArray, .int .i64 0, .bool false, .int .i64 e].toArray) = .returned (oV (goP l 0 D0) x) ∧ Chg noB w0 w ∧ (oY (goP l 0 D0) x).ok w ∧ ∀ b, (oY (goP l 0 D0) x).F b → w0.heap.size ≤ b := fun {e} h w hc => by
    rw [h]; exact ⟨.slice none 0 0, rfl, hc, none_ok _, fun b hb => hb.elim⟩
  refine c_enter [(0, .slice q l.length c)] [oldA W0] noB Tryz.func8 rfl Tryz.ntmps8 ⟨rfl, trivial⟩ rfl (okC (old_ok ho) okN) dis1 (mineC (by rfl) mineN) ?_
  intro a hS
  refine c_seq ?_
  refine c_region ?_
  refine L_op (s_alloc hS ty_z30 rfl ?_); clear hS a; (try clear w); intro a w b2 hS
  refine L_op (s_e hS (e_assign rfl) rfl ?_); clear hS a; intro a hS
  refine L_op (s_e hS (e_assign rfl) rfl ?_); clear hS a; intro a hS
  refine L_op (s_e hS (e_assign rfl) rfl ?_); clear hS a; intro a hS
  refine L_nil ?_
  refine n_then ?_
  refine c_seq ?_
  refine c_region ?_
  refine L_op (s_e hS (e_build ty_z30 ty_pl30 .nil) rfl ?_); clear hS a; intro a hS
  refine L_op (s_alloc hS ty_z30 rfl ?_); clear hS a; (try clear w); intro a w b6 hS
  refine L_op (s_storeA hS rfl rfl ty_sz30 (by repeat constructor) (by rfl) (by rfl) (by rfl) ?_); clear hS; (try clear w); intro w hS
  refine L_nil ?_
  refine n_then ?_
  refine c_seq ?_
  refine c_region ?_
  refine L_op (s_e hS (e_assign rfl) rfl ?_); clear hS a; intro a hS
  refine L_nil ?_
  refine n_then ?_
  refine c_seq ?_
  refine c_region ?_
  refine L_op (s_e hS (e_assign rfl) rfl ?_); clear hS a; intro a hS
  refine L_nil ?_
  refine n_then ?_
  refine c_seq ?_
  refine c_region ?_
  refine L_op (s_e hS (e_assign rfl) rfl ?_); clear hS a; intro a hS
  refine L_nil ?_
  refine n_then ?_
  refine c_seq ?_
  refine c_region ?_
  refine L_op (s_e hS (e_assign rfl) rfl ?_); clear hS a; intro a hS
  refine L_nil ?_
  refine n_then ?_
  refine c_seq ?_
  refine wp_block ?_
  skip
  refine c_loop (γ := (Nat × RD × List ByteArray × Value)) (fun G a w => St 132 noB w0 a w [(7, .int .i64 (G.1 : Int)), (8, .int .i64 (G.2.1.n : Int)), (9, .int .i64 G.2.1.bl), (10, G.2.2.2), (0, .slice q l.length c), (2, .pointer (some ⟨b2, 0, none⟩)), (6, .pointer (some ⟨b6, 0, none⟩))] [.blk b6 [.string G.2.1.m, .string G.2.1.p, .slice none 0 0, .bool G.2.1.cl] 30, .blk b2 [.string ⟨#[]⟩, .string ⟨#[]⟩, .slice none 0 0, .bool false] 30, ownA 9 1 G.2.2.2 G.2.2.1.length (G.2.2.1.flatMap encN), oldA W0] ∧ yInv l G.1 G.2.1 G.2.2.1) (fun G => l.length - G.1) (0, D0, [], .slice none 0 0) ⟨((hS.own_nil 9 1).slots (by repeat (first | exact trivial | refine ⟨rfl, ?_⟩))).pick (by repeat (first | exact Pick.nil | (refine Pick.cons (by repeat (first | exact Rem.head | apply Rem.tail)) ?_))), yinv0 l⟩ ?_
  clear hS a; (try clear w); intro G a w hI
  obtain ⟨p, D, sn, sv⟩ := G
  obtain ⟨hS, hI⟩ := hI
  simp only at hS hI
  have hsl := hI.sl
  have hDn := hI.n
  have hDb := hI.ok.bl
  have hcn := hI.ok.cnt
  have hls := lineS_size l p
  refine wp_block ?_
  refine c_seq ?_
  refine c_region ?_
  refine L_op (s_e hS (e_move rfl) rfl ?_); clear hS a; intro a hS
  refine L_op (s_e hS (e_move rfl) rfl ?_); clear hS a; intro a hS
  refine L_op (s_callP hS (.cons rfl (.cons rfl .nil)) cf23 rfl (yLine_P W0 q c l hlen hv p hI.hp _ (hS.get (X := oldA W0) (by repeat constructor))) ?_); clear hS a; (try clear w); intro a w hS
  refine L_op (s_e hS (e_move rfl) rfl ?_); clear hS a; intro a hS
  refine L_op (s_e hS (e_extract rfl rfl) rfl ?_); clear hS a; intro a hS
  refine L_op (s_e hS (e_extract rfl rfl) rfl ?_); clear hS a; intro a hS
  refine L_op (s_e hS (e_extract rfl rfl) rfl ?_); clear hS a; intro a hS
  refine L_op (s_e hS (e_assign rfl) rfl ?_); clear hS a; intro a hS
  refine L_op (s_e hS (e_assign rfl) rfl ?_); clear hS a; intro a hS
  refine L_op (s_e hS (e_assign rfl) rfl ?_); clear hS a; intro a hS
  refine L_nil ?_
  refine n_then ?_
  refine c_seq ?_
  refine c_seq ?_
  refine c_region ?_
  refine L_op (s_e hS (e_move rfl) rfl ?_); clear hS a; intro a hS
  refine L_op (s_e hS (e_bin rfl rfl rfl) rfl ?_); clear hS a; intro a hS
  refine L_nil ?_
  refine n_then ?_
  first | refine c_ifD hS rfl (fun hc31 => ?_) (fun hc31 => ?_) | refine c_if hS rfl (fun hc31 => ?_) (fun hc31 => ?_)
  ·
    have hneg : (lineF (l.drop p)).1 < 0 := by (rcases Int.lt_or_le (lineF (l.drop p)).1 0 with h | h; exact h; exact absurd (show lrE l p = 0 from if_pos h) hc31)
    refine c_seq ?_
    refine c_region ?_
    rw [show lrE l p = (lineF (l.drop p)).2 from if_neg (by omega)] at hS
    refine L_op (s_e hS (e_build ty_z30 ty_pl30 .nil) rfl ?_); clear hS a; intro a hS
    refine L_op (s_e hS (e_move rfl) rfl ?_); clear hS a; intro a hS
    refine L_op (s_storeA hS rfl rfl ty_sz30 (by repeat constructor) (by rfl) (by rfl) (by rfl) ?_); clear hS; (try clear w); intro w hS
    refine L_op (s_e hS (e_assign rfl) rfl ?_); clear hS a; intro a hS
    refine L_op (s_e hS (e_assign rfl) rfl ?_); clear hS a; intro a hS
    refine L_op (s_e hS (e_assign rfl) rfl ?_); clear hS a; intro a hS
    refine L_nil ?_
    refine n_then ?_
    refine wp_ret ?_
    refine r_then (r_block (r_then (r_block (r_then ?_))))
    refine c_retN hS Tryz.results8 (.cons (.cellA rfl (by repeat constructor) ty_st30 ty_sz30 (by rfl)) (.cons (.tmp rfl) (.cons (.tmp rfl) (.cons (.tmp rfl) .nil)))) rfl ?_
    exact err_ (yinv_end hI hneg) hS.chg
  ·
    refine wp_skip ?_
    refine n_then ?_
    refine c_seq ?_
    refine c_seq ?_
    refine c_region ?_
    refine L_op (s_e hS (e_move rfl) rfl ?_); clear hS a; intro a hS
    refine L_op (s_e hS (e_bin rfl rfl rfl) rfl ?_); clear hS a; intro a hS
    refine L_nil ?_
    refine n_then ?_
    first | refine c_ifD hS rfl (fun hc35 => ?_) (fun hc35 => ?_) | refine c_if hS rfl (fun hc35 => ?_) (fun hc35 => ?_)
    ·
      have hneg : (lineF (l.drop p)).1 < 0 := by
        rcases Int.lt_or_le (lineF (l.drop p)).1 0 with h | h
        · exact h
        · rw [show lrN l p = (aftL l p : Int) from if_pos h] at hc35; omega
      have hz : (lineF (l.drop p)).2 = 0 := by
        have : lrE l p = (lineF (l.drop p)).2 := if_neg (by omega)
        rw [← this]; exact Classical.not_not.1 hc31
      refine c_seq ?_
      refine c_region ?_
      refine L_op (s_e hS (e_build ty_z30 ty_pl30 .nil) rfl ?_); clear hS a; intro a hS
      refine L_op (s_storeA hS rfl rfl ty_sz30 (by repeat constructor) (by rfl) (by rfl) (by rfl) ?_); clear hS; (try clear w); intro w hS
      refine L_op (s_e hS (e_assign rfl) rfl ?_); clear hS a; intro a hS
      refine L_op (s_e hS (e_assign rfl) rfl ?_); clear hS a; intro a hS
      refine L_op (s_e hS (e_assign rfl) rfl ?_); clear hS a; intro a hS
      refine L_nil ?_
      refine n_then ?_
      refine wp_ret ?_
      refine r_then (r_block (r_then (r_block (r_then ?_))))
      refine c_retN hS Tryz.results8 (.cons (.cellA rfl (by repeat constructor) ty_st30 ty_sz30 (by rfl)) (.cons (.tmp rfl) (.cons (.tmp rfl) (.cons (.tmp rfl) .nil)))) rfl ?_
      exact err_ (by rw [yinv_end hI hneg, hz]) hS.chg
    ·
      have p1 : 0 ≤ (lineF (l.drop p)).1 := by
        rcases Int.lt_or_le (lineF (l.drop p)).1 0 with h | h
        · rw [show lrN l p = -1 from if_neg (by omega)] at hc35; omega
        · exact h
      rw [show lrN l p = (aftL l p : Int) from if_pos p1, show lrS l p = lineS l p from if_pos p1] at hS
      obtain ⟨hpl, hal⟩ := line_in p1
      have hap : p < aftL l p := by unfold aftL; omega
      refine wp_skip ?_
      refine n_then ?_
      refine c_seq ?_
      refine c_region ?_
      refine L_op (s_e hS (e_move rfl) rfl ?_); clear hS a; intro a hS
      refine L_op (s_e hS (e_assign rfl) rfl ?_); clear hS a; intro a hS
      refine L_nil ?_
      refine n_then ?_
      refine c_seq ?_
      refine c_seq ?_
      refine c_region ?_
      refine L_op (s_e hS (e_move rfl) rfl ?_); clear hS a; intro a hS
      refine L_op (s_e hS (e_bin rfl rfl rfl) rfl ?_); clear hS a; intro a hS
      refine L_nil ?_
      refine n_then ?_
      first | refine c_ifD hS rfl (fun hc39 => ?_) (fun hc39 => ?_) | refine c_if hS rfl (fun hc39 => ?_) (fun hc39 => ?_)
      ·
        have hn0 : D.n = 0 := by omega
        have hD0 := hI.z hn0
        have hes : ∀ k, getI D.es k = 0 := fun k => by rw [hD0]; rfl
        have hsn0 : sn = [] := List.eq_nil_of_length_eq_zero (by omega)
        refine c_seq ?_
        refine c_region ?_
        refine L_op (s_e hS (e_move rfl) rfl ?_); clear hS a; intro a hS
        refine L_op (s_callM hS (.cons rfl (.cons rfl .nil)) cf24 rfl (yHead_M (lineS l p) D.m D.p (.slice none 0 0) D.cl rfl b6 (by omega) _ (hS.get (X := .blk b6 [.string D.m, .string D.p, .slice none 0 0, .bool D.cl] 30) (by repeat constructor))) (fun x => (by repeat constructor)) rfl ?_); clear hS a; (try clear w); intro x41 a w hS
        refine L_op (s_e hS (e_assign rfl) rfl ?_); clear hS a; intro a hS
        refine L_nil ?_
        refine n_then ?_
        refine c_seq ?_
        refine c_seq ?_
        refine c_region ?_
        refine L_op (s_e hS (e_move rfl) rfl ?_); clear hS a; intro a hS
        refine L_op (s_e hS (e_bin rfl rfl rfl) rfl ?_); clear hS a; intro a hS
        refine L_nil ?_
        refine n_then ?_
        first | refine c_ifD hS rfl (fun hc43 => ?_) (fun hc43 => ?_) | refine c_if hS rfl (fun hc43 => ?_) (fun hc43 => ?_)
        ·
          refine c_seq ?_
          refine c_region ?_
          refine L_op (s_e hS (e_build ty_z30 ty_pl30 .nil) rfl ?_); clear hS a; intro a hS
          refine L_op (s_e hS (e_move rfl) rfl ?_); clear hS a; intro a hS
          refine L_op (s_storeA hS rfl rfl ty_sz30 (by repeat constructor) (by rfl) (by rfl) (by rfl) ?_); clear hS; (try clear w); intro w hS
          refine L_op (s_e hS (e_assign rfl) rfl ?_); clear hS a; intro a hS
          refine L_op (s_e hS (e_assign rfl) rfl ?_); clear hS a; intro a hS
          refine L_op (s_e hS (e_assign rfl) rfl ?_); clear hS a; intro a hS
          refine L_nil ?_
          refine n_then ?_
          refine wp_ret ?_
          refine r_then (r_then (r_block (r_then (r_block (r_then ?_)))))
          refine c_retN hS Tryz.results8 (.cons (.cellA rfl (by repeat constructor) ty_st30 ty_sz30 (by rfl)) (.cons (.tmp rfl) (.cons (.tmp rfl) (.cons (.tmp rfl) .nil)))) rfl ?_
          exact err_ (yinv_err hI p1 (st_head hn0) hc43) hS.chg
        ·
          have hh0 : (headF (lineS l p)).1 = 0 := Classical.not_not.1 hc43
          rw [show headL (lineS l p) D.m D.p (.slice none 0 0) D.cl = [.string (headF (lineS l p)).2.1, .string (headF (lineS l p)).2.2, .slice none 0 0, .bool D.cl] from if_pos hh0, show D.cl = false by rw [hD0]; rfl] at hS
          have he := st_head (s := lineS l p) hn0
          rw [hh0] at he
          refine wp_skip ?_
          refine n_then ?_
          refine c_seq ?_
          refine c_region ?_
          refine L_op (s_e hS (e_assign rfl) rfl ?_); clear hS a; intro a hS
          refine L_nil ?_
          refine n_then ?_
          refine wp_exit ?_
          refine x_then (x_hit ?_)
          first
          | (have hway := hes
             exact ⟨(aftL l p, { D with m := (headF (lineS l p)).2.1, p := (headF (lineS l p)).2.2, cl := false, n := 1 }, sn, sv), by show l.length - aftL l p < l.length - p; omega, (hS.slots (by repeat (first | exact trivial | refine ⟨rfl, ?_⟩))).pick (by repeat (first | exact Pick.nil | (refine Pick.cons (by repeat (first | exact Rem.head | apply Rem.tail)) ?_))), yinv_next hI p1 he (by show D.over = false; rw [hD0]; rfl) (by simp) hI.has (by rw [hsn0]; simp)⟩)
          | (have hq := hway
             exact ⟨(aftL l p, { D with n := D.n + 1, es := setI D.es (hName (lineS l p)) (getI D.es (hName (lineS l p)) + 1) }, sn, sv), by show l.length - aftL l p < l.length - p; omega, (hS.slots (by repeat (first | exact trivial | refine ⟨rfl, ?_⟩))).pick (by repeat (first | exact Pick.nil | (refine Pick.cons (by repeat (first | exact Rem.head | apply Rem.tail)) ?_))), yinv_next hI p1 hway hI.nov (by simp; omega) (sn_far hI.has hc67) (by simp; omega)⟩)
          | (have hq := hc85
             rw [← hfl] at hS
             exact ⟨(aftL l p, { D with n := D.n + 1, es := setI D.es (hName (lineS l p)) (getI D.es (hName (lineS l p)) + 1), cl := decide (tx (Lib.toLowerA (hVal (lineS l p)).data.toList) = sClose) }, sn ++ [hName (lineS l p)], v75), by show l.length - aftL l p < l.length - p; omega, by
              show St _ _ _ _ _ _ [_, _, ownA _ _ _ (sn ++ [hName (lineS l p)]).length _, _]
              rw [List.length_append]
              exact (hS.slots (by repeat (first | exact trivial | refine ⟨rfl, ?_⟩))).pick (by repeat (first | exact Pick.nil | (refine Pick.cons (by repeat (first | exact Rem.head | apply Rem.tail)) ?_))), yinv_next hI p1 hst hI.nov (by simp; omega) (sn_set hI.has (by omega) rfl) (by simp; omega)⟩)
          | (have hq := hc110
             rw [← hfl] at hS
             exact ⟨(aftL l p, { D with n := D.n + 1, es := setI D.es (hName (lineS l p)) (getI D.es (hName (lineS l p)) + 1), bl := (atoiR (hVal (lineS l p)).data.toList).1 }, sn ++ [hName (lineS l p)], v75), by show l.length - aftL l p < l.length - p; omega, by
              show St _ _ _ _ _ _ [_, _, ownA _ _ _ (sn ++ [hName (lineS l p)]).length _, _]
              rw [List.length_append]
              exact (hS.slots (by repeat (first | exact trivial | refine ⟨rfl, ?_⟩))).pick (by repeat (first | exact Pick.nil | (refine Pick.cons (by repeat (first | exact Rem.head | apply Rem.tail)) ?_))), yinv_next hI p1 hst hI.nov (by simp; omega) (sn_set hI.has (by omega) rfl) (by simp; omega)⟩)
      ·
        have hn0 : D.n ≠ 0 := by omega
        refine wp_skip ?_
        refine n_then ?_
        refine c_seq ?_
        refine c_seq ?_
        refine c_region ?_
        refine L_op (s_e hS (e_move rfl) rfl ?_); clear hS a; intro a hS
        refine L_op (s_e hS (e_binS rfl rfl rfl) rfl ?_); clear hS a; intro a hS
        refine L_nil ?_
        refine n_then ?_
        first | refine c_ifD hS rfl (fun hc47 => ?_) (fun hc47 => ?_) | refine c_if hS rfl (fun hc47 => ?_) (fun hc47 => ?_)
        ·
          have he := st_over (s := lineS l p) hn0 hc47
          obtain ⟨k0, hk0⟩ : ∃ k : Nat, D.bl = (k : Int) := ⟨D.bl.toNat, by omega⟩
          refine wp_exit ?_
          refine x_then (x_miss rfl (x_then (x_hit ?_)))
          refine n_then ?_
          refine c_seq ?_
          refine c_seq ?_
          rw [hk0] at hS
          refine c_region ?_
          refine L_op (s_e hS (e_move rfl) rfl ?_); clear hS a; intro a hS
          refine L_op (s_e hS (e_len rfl rfl ty_sl22) rfl ?_); clear hS a; intro a hS
          refine L_op (s_e hS (e_move rfl) rfl ?_); clear hS a; intro a hS
          first | (refine L_op (s_e hS (e_binN rfl rfl rfl (by omega)) rfl ?_); clear hS a; intro a hS) | (refine L_op (s_e hS (e_bin rfl rfl rfl) rfl ?_); clear hS a; intro a hS)
          refine L_op (s_e hS (e_move rfl) rfl ?_); clear hS a; intro a hS
          refine L_op (s_e hS (e_bin rfl rfl rfl) rfl ?_); clear hS a; intro a hS
          refine L_nil ?_
          refine n_then ?_
          first | refine c_ifD hS rfl (fun hc118 => ?_) (fun hc118 => ?_) | refine c_if hS rfl (fun hc118 => ?_) (fun hc118 => ?_)
          ·
            refine c_seq ?_
            refine c_region ?_
            refine L_op (s_e hS (e_build ty_z30 ty_pl30 .nil) rfl ?_); clear hS a; intro a hS
            refine L_op (s_storeA hS rfl rfl ty_sz30 (by repeat constructor) (by rfl) (by rfl) (by rfl) ?_); clear hS; (try clear w); intro w hS
            refine L_op (s_e hS (e_assign rfl) rfl ?_); clear hS a; intro a hS
            refine L_op (s_e hS (e_assign rfl) rfl ?_); clear hS a; intro a hS
            refine L_op (s_e hS (e_assign rfl) rfl ?_); clear hS a; intro a hS
            refine L_nil ?_
            refine n_then ?_
            refine wp_ret ?_
            refine r_then ?_
            refine c_retN hS Tryz.results8 (.cons (.cellA rfl (by repeat constructor) ty_st30 ty_sz30 (by rfl)) (.cons (.tmp rfl) (.cons (.tmp rfl) (.cons (.tmp rfl) .nil)))) rfl ?_
            exact err_ (yinv_few hI p1 he rfl (by simp only; rw [hk0]; omega)) hS.chg
          ·
            have hyes := yinv_yes hI p1 he rfl (by simp only; rw [hk0]; omega)
            simp only [hk0, Int.toNat_natCast] at hyes
            have hkl : aftL l p + k0 ≤ l.length := by omega
            have hblen := body_len hkl
            have hcap := hlc (fun e => by rw [e] at hpl; exact absurd hpl (Nat.not_lt_zero _))
            refine wp_skip ?_
            refine n_then ?_
            refine c_seq ?_
            refine c_region ?_
            refine L_op (s_e hS (e_move rfl) rfl ?_); clear hS a; intro a hS
            refine L_op (s_e hS (e_move rfl) rfl ?_); clear hS a; intro a hS
            refine L_op (s_e hS (e_move rfl) rfl ?_); clear hS a; intro a hS
            refine L_op (s_e hS (e_move rfl) rfl ?_); clear hS a; intro a hS
            first | (refine L_op (s_e hS (e_binN rfl rfl rfl (by omega)) rfl ?_); clear hS a; intro a hS) | (refine L_op (s_e hS (e_bin rfl rfl rfl) rfl ?_); clear hS a; intro a hS)
            rw [show ((aftL l p : Nat) : Int) + (k0 : Int) = ((aftL l p + k0 : Nat) : Int) from rfl] at hS
            refine L_op (s_e hS (e_slB (i := aftL l p) (j := aftL l p + k0) rfl rfl rfl ty_sl22 ty_sz5 ⟨Nat.le_add_right _ _, by omega⟩) rfl ?_); clear hS a; intro a hS
            rw [show aftL l p + k0 - aftL l p = (bodyL l (aftL l p) k0).length by rw [hblen]; omega] at hS
            refine L_op (s_callN hS (.cons rfl .nil) cf29 rfl (xBytes_P (tailP q (aftL l p) c 1) (c - aftL l p) (bodyL l (aftL l p) k0) (by rw [hblen]; omega) _ (by have h1 := (old_by (hS.get (X := oldA W0) (by repeat constructor)) hv).piece (j := aftL l p) (k := aftL l p + k0) (by omega) hkl; rw [show aftL l p + k0 - aftL l p = (bodyL l (aftL l p) k0).length by rw [hblen]; omega] at h1; exact h1)) ?_); clear hS a; (try clear w); intro x126 a w hS
            obtain ⟨q126, c126, rfl⟩ := own_slice (hS.get (X := ownA 5 1 x126 (bodyL l (aftL l p) k0).length ((bodyL l (aftL l p) k0).map (Value.int .u8))) (by repeat constructor))
            first | (refine L_op (s_e hS (e_fa0 rfl ty_fo30_2) rfl ?_); clear hS a; intro a hS) | (refine L_op (s_e hS (e_faK rfl ty_fo30_2) rfl ?_); clear hS a; intro a hS)
            refine L_op (s_store hS rfl rfl rfl ty_sz22 (by repeat constructor) (by repeat constructor) ?_); clear hS; (try clear w); intro w hS
            refine L_nil ?_
            refine n_then ?_
            refine c_seq ?_
            refine c_region ?_
            refine L_op (s_e hS (e_loadA rfl (by repeat constructor) ty_st30 ty_sz30 (by rfl)) rfl ?_); clear hS a; intro a hS
            refine L_op (s_e hS (e_move rfl) rfl ?_); clear hS a; intro a hS
            refine L_op (s_e hS (e_move rfl) rfl ?_); clear hS a; intro a hS
            first | (refine L_op (s_e hS (e_binN rfl rfl rfl (by omega)) rfl ?_); clear hS a; intro a hS) | (refine L_op (s_e hS (e_bin rfl rfl rfl) rfl ?_); clear hS a; intro a hS)
            rw [show ((aftL l p : Nat) : Int) + (k0 : Int) = ((aftL l p + k0 : Nat) : Int) from rfl] at hS
            refine L_op (s_storeA hS rfl rfl ty_sz30 (by repeat constructor) (by rfl) (by rfl) (by rfl) ?_); clear hS; (try clear w); intro w hS
            refine L_op (s_e hS (e_assign rfl) rfl ?_); clear hS a; intro a hS
            refine L_op (s_e hS (e_assign rfl) rfl ?_); clear hS a; intro a hS
            refine L_op (s_e hS (e_assign rfl) rfl ?_); clear hS a; intro a hS
            refine L_nil ?_
            refine n_then ?_
            refine wp_ret ?_
            refine c_retN hS Tryz.results8 (.cons (.cellA rfl (by repeat constructor) ty_st30 ty_sz30 (by rfl)) (.cons (.tmp rfl) (.cons (.tmp rfl) (.cons (.tmp rfl) .nil)))) rfl ?_
            refine ⟨.slice q126 (bodyL l (aftL l p) k0).length c126, ?_, hS.chg, ?_⟩
            · rw [hyes]; rfl
            · rw [hyes]; exact hS.new (X := ownA 5 1 (.slice q126 (bodyL l (aftL l p) k0).length c126) (bodyL l (aftL l p) k0).length ((bodyL l (aftL l p) k0).map (Value.int .u8))) (by repeat constructor) rfl
        ·
          have hf := f_hdr (lineS l p).data.toList
          refine wp_skip ?_
          refine n_then ?_
          refine c_seq ?_
          refine c_region ?_
          refine L_op (s_e hS (e_move rfl) rfl ?_); clear hS a; intro a hS
          refine L_op (s_callP hS (.cons rfl .nil) cf25 rfl (yField_P (lineS l p) (by omega) _) ?_); clear hS a; (try clear w); intro a w hS
          rw [hf.1] at hS
          refine L_op (s_e hS (e_move rfl) rfl ?_); clear hS a; intro a hS
          refine L_op (s_e hS (e_extract rfl rfl) rfl ?_); clear hS a; intro a hS
          refine L_op (s_e hS (e_extract rfl rfl) rfl ?_); clear hS a; intro a hS
          refine L_op (s_e hS (e_extract rfl rfl) rfl ?_); clear hS a; intro a hS
          refine L_op (s_e hS (e_assign rfl) rfl ?_); clear hS a; intro a hS
          refine L_op (s_e hS (e_assign rfl) rfl ?_); clear hS a; intro a hS
          refine L_op (s_e hS (e_assign rfl) rfl ?_); clear hS a; intro a hS
          refine L_nil ?_
          refine n_then ?_
          refine c_seq ?_
          refine c_seq ?_
          refine c_region ?_
          refine L_op (s_e hS (e_move rfl) rfl ?_); clear hS a; intro a hS
          refine L_op (s_e hS (e_not rfl) rfl ?_); clear hS a; intro a hS
          refine L_nil ?_
          refine n_then ?_
          first | refine c_ifD hS rfl (fun hc55 => ?_) (fun hc55 => ?_) | refine c_if hS rfl (fun hc55 => ?_) (fun hc55 => ?_)
          ·
            refine c_seq ?_
            refine c_region ?_
            refine L_op (s_e hS (e_build ty_z30 ty_pl30 .nil) rfl ?_); clear hS a; intro a hS
            refine L_op (s_storeA hS rfl rfl ty_sz30 (by repeat constructor) (by rfl) (by rfl) (by rfl) ?_); clear hS; (try clear w); intro w hS
            refine L_op (s_e hS (e_assign rfl) rfl ?_); clear hS a; intro a hS
            refine L_op (s_e hS (e_assign rfl) rfl ?_); clear hS a; intro a hS
            refine L_op (s_e hS (e_assign rfl) rfl ?_); clear hS a; intro a hS
            refine L_nil ?_
            refine n_then ?_
            refine wp_ret ?_
            refine r_then (r_block (r_then (r_block (r_then ?_))))
            refine c_retN hS Tryz.results8 (.cons (.cellA rfl (by repeat constructor) ty_st30 ty_sz30 (by rfl)) (.cons (.tmp rfl) (.cons (.tmp rfl) (.cons (.tmp rfl) .nil)))) rfl ?_
            exact err_ (yinv_err hI p1 (st_bad hn0 hc47 (by simpa using hc55)) (by decide)) hS.chg
          ·
            have hb : hdrB (lineS l p).data.toList = true := by simpa using hc55
            rw [show fN (lineS l p).data.toList = hName (lineS l p) from (hf.2 hb).1, show fV (lineS l p).data.toList = hVal (lineS l p) from (hf.2 hb).2] at hS
            have hvl := hVal_le (lineS l p)
            have hvz := size_list (hVal (lineS l p))
            refine wp_skip ?_
            refine n_then ?_
            refine c_seq ?_
            refine c_seq ?_
            refine c_region ?_
            refine L_op (s_e hS (e_move rfl) rfl ?_); clear hS a; intro a hS
            refine L_op (s_e hS (e_bin rfl rfl rfl) rfl ?_); clear hS a; intro a hS
            refine L_nil ?_
            refine n_then ?_
            first | refine c_ifD hS rfl (fun hc58 => ?_) (fun hc58 => ?_) | refine c_if hS rfl (fun hc58 => ?_) (fun hc58 => ?_)
            ·
              refine c_seq ?_
              refine c_region ?_
              refine L_op (s_e hS (e_build ty_z30 ty_pl30 .nil) rfl ?_); clear hS a; intro a hS
              refine L_op (s_storeA hS rfl rfl ty_sz30 (by repeat constructor) (by rfl) (by rfl) (by rfl) ?_); clear hS; (try clear w); intro w hS
              refine L_op (s_e hS (e_assign rfl) rfl ?_); clear hS a; intro a hS
              refine L_op (s_e hS (e_assign rfl) rfl ?_); clear hS a; intro a hS
              refine L_op (s_e hS (e_assign rfl) rfl ?_); clear hS a; intro a hS
              refine L_nil ?_
              refine n_then ?_
              refine wp_ret ?_
              refine r_then (r_block (r_then (r_block (r_then ?_))))
              refine c_retN hS Tryz.results8 (.cons (.cellA rfl (by repeat constructor) ty_st30 ty_sz30 (by rfl)) (.cons (.tmp rfl) (.cons (.tmp rfl) (.cons (.tmp rfl) .nil)))) rfl ?_
              exact err_ (yinv_err hI p1 (st_many hn0 hc47 hb (by omega)) (by decide)) hS.chg
            ·
              have h20 : ¬ 20 < D.n := by omega
              refine wp_skip ?_
              refine n_then ?_
              refine c_seq ?_
              refine c_region ?_
              refine L_op (s_e hS (e_move rfl) rfl ?_); clear hS a; intro a hS
              first | (refine L_op (s_e hS (e_binN rfl rfl rfl (by omega)) rfl ?_); clear hS a; intro a hS) | (refine L_op (s_e hS (e_bin rfl rfl rfl) rfl ?_); clear hS a; intro a hS)
              refine L_op (s_e hS (e_assign rfl) rfl ?_); clear hS a; intro a hS
              refine L_nil ?_
              refine n_then ?_
              refine c_seq ?_
              refine c_seq ?_
              refine c_region ?_
              refine L_op (s_e hS (e_move rfl) rfl ?_); clear hS a; intro a hS
              refine L_op (s_e hS (e_binS rfl rfl rfl) rfl ?_); clear hS a; intro a hS
              refine L_op (s_e hS (e_move rfl) rfl ?_); clear hS a; intro a hS
              refine L_merge 3 67 (.bool (decide (hName (lineS l p) ≠ sCL ∧ hName (lineS l p) ≠ sCN))) hS ?_ ?_
              · intro hcM67
                (first | refine g_splitD (t := 64) hS rfl ?_ ?_ | refine g_split (t := 64) hS rfl ?_ ?_) <;> (clear hS; intro hg64 hS)
                ·
                  refine L_go hS rfl rfl (s_e hS (e_move rfl) rfl ?_); clear hS a; intro a hS
                  refine L_go hS rfl rfl (s_e hS (e_binS rfl rfl rfl) rfl ?_); clear hS a; intro a hS
                  first | (refine L_op (s_e hS (e_pick_t rfl rfl) rfl ?_); clear hS a; intro a hS) | (refine L_op (s_e hS (e_pick_f rfl rfl) rfl ?_); clear hS a; intro a hS)
                  exact hcM67 _ _ (hS.ends 4 67 64 rfl (congrArg Value.bool (by exact decide_eq_decide.2 ⟨fun h => ⟨hg64, h⟩, fun h => h.2⟩)) rfl rfl (by first | exact congrArg Value.bool (decide_eq_true hg64).symm | exact congrArg Value.bool hg64.symm | simp [hg64]) rfl)
                ·
                  refine L_skip_t hS rfl rfl rfl ?_; clear hS a; intro a hS
                  refine L_skip_t hS rfl rfl rfl ?_; clear hS a; intro a hS
                  first | (refine L_op (s_e hS (e_pick_t rfl rfl) rfl ?_); clear hS a; intro a hS) | (refine L_op (s_e hS (e_pick_f rfl rfl) rfl ?_); clear hS a; intro a hS)
                  exact hcM67 _ _ (hS.ends 4 67 64 rfl (congrArg Value.bool (by exact (decide_eq_false (fun h => hg64 h.1)).symm)) rfl rfl (by first | exact congrArg Value.bool (decide_eq_false hg64).symm | exact congrArg Value.bool hg64.symm | simp [hg64]) rfl)
              · clear hS a; (try clear w); intro a w hS
                simp only [List.drop_succ_cons, List.drop_zero]
                refine L_nil ?_
                refine n_then ?_
                first | refine c_ifD hS rfl (fun hc67 => ?_) (fun hc67 => ?_) | refine c_if hS rfl (fun hc67 => ?_) (fun hc67 => ?_)
                ·
                  have hway := st_other hn0 hc47 hb h20 hc67
                  refine wp_exit ?_
                  refine x_then (x_hit ?_)
                  first
                  | (have hway := hes
                     exact ⟨(aftL l p, { D with m := (headF (lineS l p)).2.1, p := (headF (lineS l p)).2.2, cl := false, n := 1 }, sn, sv), by show l.length - aftL l p < l.length - p; omega, (hS.slots (by repeat (first | exact trivial | refine ⟨rfl, ?_⟩))).pick (by repeat (first | exact Pick.nil | (refine Pick.cons (by repeat (first | exact Rem.head | apply Rem.tail)) ?_))), yinv_next hI p1 he (by show D.over = false; rw [hD0]; rfl) (by simp) hI.has (by rw [hsn0]; simp)⟩)
                  | (have hq := hway
                     exact ⟨(aftL l p, { D with n := D.n + 1, es := setI D.es (hName (lineS l p)) (getI D.es (hName (lineS l p)) + 1) }, sn, sv), by show l.length - aftL l p < l.length - p; omega, (hS.slots (by repeat (first | exact trivial | refine ⟨rfl, ?_⟩))).pick (by repeat (first | exact Pick.nil | (refine Pick.cons (by repeat (first | exact Rem.head | apply Rem.tail)) ?_))), yinv_next hI p1 hway hI.nov (by simp; omega) (sn_far hI.has hc67) (by simp; omega)⟩)
                  | (have hq := hc85
                     rw [← hfl] at hS
                     exact ⟨(aftL l p, { D with n := D.n + 1, es := setI D.es (hName (lineS l p)) (getI D.es (hName (lineS l p)) + 1), cl := decide (tx (Lib.toLowerA (hVal (lineS l p)).data.toList) = sClose) }, sn ++ [hName (lineS l p)], v75), by show l.length - aftL l p < l.length - p; omega, by
                      show St _ _ _ _ _ _ [_, _, ownA _ _ _ (sn ++ [hName (lineS l p)]).length _, _]
                      rw [List.length_append]
                      exact (hS.slots (by repeat (first | exact trivial | refine ⟨rfl, ?_⟩))).pick (by repeat (first | exact Pick.nil | (refine Pick.cons (by repeat (first | exact Rem.head | apply Rem.tail)) ?_))), yinv_next hI p1 hst hI.nov (by simp; omega) (sn_set hI.has (by omega) rfl) (by simp; omega)⟩)
                  | (have hq := hc110
                     rw [← hfl] at hS
                     exact ⟨(aftL l p, { D with n := D.n + 1, es := setI D.es (hName (lineS l p)) (getI D.es (hName (lineS l p)) + 1), bl := (atoiR (hVal (lineS l p)).data.toList).1 }, sn ++ [hName (lineS l p)], v75), by show l.length - aftL l p < l.length - p; omega, by
                      show St _ _ _ _ _ _ [_, _, ownA _ _ _ (sn ++ [hName (lineS l p)]).length _, _]
                      rw [List.length_append]
                      exact (hS.slots (by repeat (first | exact trivial | refine ⟨rfl, ?_⟩))).pick (by repeat (first | exact Pick.nil | (refine Pick.cons (by repeat (first | exact Rem.head | apply Rem.tail)) ?_))), yinv_next hI p1 hst hI.nov (by simp; omega) (sn_set hI.has (by omega) rfl) (by simp; omega)⟩)
                ·
                  have hk : hName (lineS l p) = sCL ∨ hName (lineS l p) = sCN := by
                    by_cases h1 : hName (lineS l p) = sCL
                    · exact .inl h1
                    · exact .inr (Classical.not_not.1 (fun h2 => hc67 ⟨h1, h2⟩))
                  have hkk := hI.has _ hk
                  refine wp_skip ?_
                  refine n_then ?_
                  refine c_seq ?_
                  refine c_seq ?_
                  refine c_region ?_
                  refine L_op (s_e hS (e_move rfl) rfl ?_); clear hS a; intro a hS
                  refine L_op (s_e hS (e_move rfl) rfl ?_); clear hS a; intro a hS
                  refine L_op (s_callP hS (.cons rfl (.cons rfl .nil)) cf17 rfl (Has_P sv sn (hName (lineS l p)) (by omega) _ (nm_of_own (hS.ok (ownA 9 1 sv sn.length (sn.flatMap encN)) (by repeat constructor)))) ?_); clear hS a; (try clear w); intro a w hS
                  refine L_nil ?_
                  refine n_then ?_
                  first | refine c_ifD hS rfl (fun hc70 => ?_) (fun hc70 => ?_) | refine c_if hS rfl (fun hc70 => ?_) (fun hc70 => ?_)
                  ·
                    rw [if_pos hc70] at hkk
                    refine c_seq ?_
                    refine c_region ?_
                    refine L_op (s_e hS (e_build ty_z30 ty_pl30 .nil) rfl ?_); clear hS a; intro a hS
                    refine L_op (s_storeA hS rfl rfl ty_sz30 (by repeat constructor) (by rfl) (by rfl) (by rfl) ?_); clear hS; (try clear w); intro w hS
                    refine L_op (s_e hS (e_assign rfl) rfl ?_); clear hS a; intro a hS
                    refine L_op (s_e hS (e_assign rfl) rfl ?_); clear hS a; intro a hS
                    refine L_op (s_e hS (e_assign rfl) rfl ?_); clear hS a; intro a hS
                    refine L_nil ?_
                    refine n_then ?_
                    refine wp_ret ?_
                    refine r_then (r_block (r_then (r_block (r_then ?_))))
                    refine c_retN hS Tryz.results8 (.cons (.cellA rfl (by repeat constructor) ty_st30 ty_sz30 (by rfl)) (.cons (.tmp rfl) (.cons (.tmp rfl) (.cons (.tmp rfl) .nil)))) rfl ?_
                    exact err_ (yinv_err hI p1 (st_twice hn0 hc47 hb h20 hc67 (by omega)) (by decide)) hS.chg
                  ·
                    rw [if_neg hc70] at hkk
                    refine wp_skip ?_
                    refine n_then ?_
                    refine c_seq ?_
                    refine c_region ?_
                    refine L_op (s_e hS (e_move rfl) rfl ?_); clear hS a; intro a hS
                    refine L_op (s_e hS (e_move rfl) rfl ?_); clear hS a; intro a hS
                    refine L_op (s_bslice hS ty_sl45 ty_sz9 ty_z9 rfl rfl rfl rfl (.one rfl rfl rfl .nil) rfl ?_); clear hS a; (try clear w); intro a w b74 hS
                    refine L_op (s_append1 hS rfl rfl ty_sl45 ty_sz9 ty_by9 ty_z9 rfl rfl rfl (by repeat constructor) (by repeat constructor) (by rfl) (by rfl) (fun _ => (by repeat constructor)) (by omega) ?_); clear hS a; (try clear w); intro v75 a w hv75 hS
                    have hfl : (sn ++ [hName (lineS l p)]).flatMap encN = sn.flatMap encN ++ [.string (hName (lineS l p))] := by rw [List.flatMap_append]; rfl
                    refine L_op (s_e hS (e_assign rfl) rfl ?_); clear hS a; intro a hS
                    refine L_nil ?_
                    refine n_then ?_
                    refine c_seq ?_
                    refine c_seq ?_
                    refine c_region ?_
                    refine L_op (s_e hS (e_move rfl) rfl ?_); clear hS a; intro a hS
                    refine L_op (s_e hS (e_binS rfl rfl rfl) rfl ?_); clear hS a; intro a hS
                    refine L_nil ?_
                    refine n_then ?_
                    first | refine c_ifD hS rfl (fun hc77 => ?_) (fun hc77 => ?_) | refine c_if hS rfl (fun hc77 => ?_) (fun hc77 => ?_)
                    ·
                      have hst := st_conn (s := lineS l p) hn0 hc47 hb h20 hc77 (by omega)
                      refine c_seq ?_
                      refine c_region ?_
                      refine L_op (s_e hS (e_move rfl) rfl ?_); clear hS a; intro a hS
                      refine L_op (s_callP hS (.cons rfl .nil) cf26 rfl (ySmall_P (hVal (lineS l p)) (by omega) _) ?_); clear hS a; (try clear w); intro a w hS
                      refine L_op (s_e hS (e_assign rfl) rfl ?_); clear hS a; intro a hS
                      refine L_nil ?_
                      refine n_then ?_
                      refine c_seq ?_
                      refine c_seq ?_
                      refine c_region ?_
                      refine L_op (s_e hS (e_move rfl) rfl ?_); clear hS a; intro a hS
                      refine L_op (s_e hS (e_binS rfl rfl rfl) rfl ?_); clear hS a; intro a hS
                      refine L_op (s_e hS (e_move rfl) rfl ?_); clear hS a; intro a hS
                      refine L_merge 3 85 (.bool (decide (tx (Lib.toLowerA (hVal (lineS l p)).data.toList) ≠ sClose ∧ tx (Lib.toLowerA (hVal (lineS l p)).data.toList) ≠ sKeep))) hS ?_ ?_
                      · intro hcM85
                        (first | refine g_splitD (t := 82) hS rfl ?_ ?_ | refine g_split (t := 82) hS rfl ?_ ?_) <;> (clear hS; intro hg82 hS)
                        ·
                          refine L_go hS rfl rfl (s_e hS (e_move rfl) rfl ?_); clear hS a; intro a hS
                          refine L_go hS rfl rfl (s_e hS (e_binS rfl rfl rfl) rfl ?_); clear hS a; intro a hS
                          first | (refine L_op (s_e hS (e_pick_t rfl rfl) rfl ?_); clear hS a; intro a hS) | (refine L_op (s_e hS (e_pick_f rfl rfl) rfl ?_); clear hS a; intro a hS)
                          exact hcM85 _ _ (hS.ends 4 85 82 rfl (congrArg Value.bool (by exact decide_eq_decide.2 ⟨fun h => ⟨hg82, h⟩, fun h => h.2⟩)) rfl rfl (by first | exact congrArg Value.bool (decide_eq_true hg82).symm | exact congrArg Value.bool hg82.symm | simp [hg82]) rfl)
                        ·
                          refine L_skip_t hS rfl rfl rfl ?_; clear hS a; intro a hS
                          refine L_skip_t hS rfl rfl rfl ?_; clear hS a; intro a hS
                          first | (refine L_op (s_e hS (e_pick_t rfl rfl) rfl ?_); clear hS a; intro a hS) | (refine L_op (s_e hS (e_pick_f rfl rfl) rfl ?_); clear hS a; intro a hS)
                          exact hcM85 _ _ (hS.ends 4 85 82 rfl (congrArg Value.bool (by exact (decide_eq_false (fun h => hg82 h.1)).symm)) rfl rfl (by first | exact congrArg Value.bool (decide_eq_false hg82).symm | exact congrArg Value.bool hg82.symm | simp [hg82]) rfl)
                      · clear hS a; (try clear w); intro a w hS
                        simp only [List.drop_succ_cons, List.drop_zero]
                        refine L_nil ?_
                        refine n_then ?_
                        first | refine c_ifD hS rfl (fun hc85 => ?_) (fun hc85 => ?_) | refine c_if hS rfl (fun hc85 => ?_) (fun hc85 => ?_)
                        ·
                          refine c_seq ?_
                          refine c_region ?_
                          refine L_op (s_e hS (e_build ty_z30 ty_pl30 .nil) rfl ?_); clear hS a; intro a hS
                          refine L_op (s_storeA hS rfl rfl ty_sz30 (by repeat constructor) (by rfl) (by rfl) (by rfl) ?_); clear hS; (try clear w); intro w hS
                          refine L_op (s_e hS (e_assign rfl) rfl ?_); clear hS a; intro a hS
                          refine L_op (s_e hS (e_assign rfl) rfl ?_); clear hS a; intro a hS
                          refine L_op (s_e hS (e_assign rfl) rfl ?_); clear hS a; intro a hS
                          refine L_nil ?_
                          refine n_then ?_
                          refine wp_ret ?_
                          refine r_then (r_then (r_block (r_then (r_block (r_then ?_)))))
                          refine c_retN hS Tryz.results8 (.cons (.cellA rfl (by repeat constructor) ty_st30 ty_sz30 (by rfl)) (.cons (.tmp rfl) (.cons (.tmp rfl) (.cons (.tmp rfl) .nil)))) rfl ?_
                          rw [if_pos hc85] at hst
                          exact err_ (yinv_err hI p1 hst (by decide)) hS.chg
                        ·
                          rw [if_neg hc85] at hst
                          refine wp_skip ?_
                          refine n_then ?_
                          refine c_seq ?_
                          refine c_region ?_
                          refine L_op (s_e hS (e_move rfl) rfl ?_); clear hS a; intro a hS
                          refine L_op (s_e hS (e_binS rfl rfl rfl) rfl ?_); clear hS a; intro a hS
                          first | (refine L_op (s_e hS (e_fa0 rfl ty_fo30_3) rfl ?_); clear hS a; intro a hS) | (refine L_op (s_e hS (e_faK rfl ty_fo30_3) rfl ?_); clear hS a; intro a hS)
                          refine L_op (s_store hS rfl rfl rfl ty_sz4 (by repeat constructor) (by repeat constructor) ?_); clear hS; (try clear w); intro w hS
                          refine L_nil ?_
                          refine n_then ?_
                          refine wp_exit ?_
                          refine x_then (x_hit ?_)
                          first
                          | (have hway := hes
                             exact ⟨(aftL l p, { D with m := (headF (lineS l p)).2.1, p := (headF (lineS l p)).2.2, cl := false, n := 1 }, sn, sv), by show l.length - aftL l p < l.length - p; omega, (hS.slots (by repeat (first | exact trivial | refine ⟨rfl, ?_⟩))).pick (by repeat (first | exact Pick.nil | (refine Pick.cons (by repeat (first | exact Rem.head | apply Rem.tail)) ?_))), yinv_next hI p1 he (by show D.over = false; rw [hD0]; rfl) (by simp) hI.has (by rw [hsn0]; simp)⟩)
                          | (have hq := hway
                             exact ⟨(aftL l p, { D with n := D.n + 1, es := setI D.es (hName (lineS l p)) (getI D.es (hName (lineS l p)) + 1) }, sn, sv), by show l.length - aftL l p < l.length - p; omega, (hS.slots (by repeat (first | exact trivial | refine ⟨rfl, ?_⟩))).pick (by repeat (first | exact Pick.nil | (refine Pick.cons (by repeat (first | exact Rem.head | apply Rem.tail)) ?_))), yinv_next hI p1 hway hI.nov (by simp; omega) (sn_far hI.has hc67) (by simp; omega)⟩)
                          | (have hq := hc85
                             rw [← hfl] at hS
                             exact ⟨(aftL l p, { D with n := D.n + 1, es := setI D.es (hName (lineS l p)) (getI D.es (hName (lineS l p)) + 1), cl := decide (tx (Lib.toLowerA (hVal (lineS l p)).data.toList) = sClose) }, sn ++ [hName (lineS l p)], v75), by show l.length - aftL l p < l.length - p; omega, by
                              show St _ _ _ _ _ _ [_, _, ownA _ _ _ (sn ++ [hName (lineS l p)]).length _, _]
                              rw [List.length_append]
                              exact (hS.slots (by repeat (first | exact trivial | refine ⟨rfl, ?_⟩))).pick (by repeat (first | exact Pick.nil | (refine Pick.cons (by repeat (first | exact Rem.head | apply Rem.tail)) ?_))), yinv_next hI p1 hst hI.nov (by simp; omega) (sn_set hI.has (by omega) rfl) (by simp; omega)⟩)
                          | (have hq := hc110
                             rw [← hfl] at hS
                             exact ⟨(aftL l p, { D with n := D.n + 1, es := setI D.es (hName (lineS l p)) (getI D.es (hName (lineS l p)) + 1), bl := (atoiR (hVal (lineS l p)).data.toList).1 }, sn ++ [hName (lineS l p)], v75), by show l.length - aftL l p < l.length - p; omega, by
                              show St _ _ _ _ _ _ [_, _, ownA _ _ _ (sn ++ [hName (lineS l p)]).length _, _]
                              rw [List.length_append]
                              exact (hS.slots (by repeat (first | exact trivial | refine ⟨rfl, ?_⟩))).pick (by repeat (first | exact Pick.nil | (refine Pick.cons (by repeat (first | exact Rem.head | apply Rem.tail)) ?_))), yinv_next hI p1 hst hI.nov (by simp; omega) (sn_set hI.has (by omega) rfl) (by simp; omega)⟩)
                    ·
                      have hcl : hName (lineS l p) = sCL := hk.resolve_right hc77
                      refine wp_skip ?_
                      refine n_then ?_
                      refine c_seq ?_
                      refine c_region ?_
                      refine L_op (s_e hS (e_move rfl) rfl ?_); clear hS a; intro a hS
                      refine L_op (s_callP hS (.cons rfl .nil) cf27 rfl (NumberForm_P (hVal (lineS l p)) (by omega) _) ?_); clear hS a; (try clear w); intro a w hS
                      refine L_op (s_e hS (e_assign rfl) rfl ?_); clear hS a; intro a hS
                      refine L_nil ?_
                      refine n_then ?_
                      refine c_seq ?_
                      refine c_seq ?_
                      refine c_region ?_
                      refine L_op (s_e hS (e_move rfl) rfl ?_); clear hS a; intro a hS
                      refine L_op (s_e hS (e_not rfl) rfl ?_); clear hS a; intro a hS
                      refine L_op (s_e hS (e_move rfl) rfl ?_); clear hS a; intro a hS
                      refine L_merge 4 98 (.bool (decide (¬ (NumForm (hVal (lineS l p)).data.toList ∧ byteAt (hVal (lineS l p)).data.toList 0 ≠ 45)))) hS ?_ ?_
                      · intro hcM98
                        (first | refine g_splitD (t := 94) hS rfl ?_ ?_ | refine g_split (t := 94) hS rfl ?_ ?_) <;> (clear hS; intro hg94 hS)
                        ·
                          have hnf : ¬ NumForm (hVal (lineS l p)).data.toList := by simpa using hg94
                          refine L_skip_f hS rfl rfl rfl ?_; clear hS a; intro a hS
                          refine L_skip_f hS rfl rfl rfl ?_; clear hS a; intro a hS
                          refine L_skip_f hS rfl rfl rfl ?_; clear hS a; intro a hS
                          first | (refine L_op (s_e hS (e_pick_t rfl rfl) rfl ?_); clear hS a; intro a hS) | (refine L_op (s_e hS (e_pick_f rfl rfl) rfl ?_); clear hS a; intro a hS)
                          exact hcM98 _ _ (hS.ends 5 98 94 rfl (congrArg Value.bool (by exact (decide_eq_true (show ¬ (NumForm (hVal (lineS l p)).data.toList ∧ byteAt (hVal (lineS l p)).data.toList 0 ≠ 45) from fun h => hnf h.1)).symm)) rfl rfl (by first | exact congrArg Value.bool (decide_eq_true hg94).symm | exact congrArg Value.bool hg94.symm | simp [hg94]) rfl)
                        ·
                          have hnf : NumForm (hVal (lineS l p)).data.toList := by simpa using hg94
                          have hpos := num_ne hnf
                          refine L_go hS rfl rfl (s_e hS (e_move rfl) rfl ?_); clear hS a; intro a hS
                          refine L_go hS rfl rfl (s_e hS (e_ixS rfl rfl ty_u9 (by omega)) rfl ?_); clear hS a; intro a hS
                          refine L_go hS rfl rfl (s_e hS (e_bin rfl rfl rfl) rfl ?_); clear hS a; intro a hS
                          first | (refine L_op (s_e hS (e_pick_t rfl rfl) rfl ?_); clear hS a; intro a hS) | (refine L_op (s_e hS (e_pick_f rfl rfl) rfl ?_); clear hS a; intro a hS)
                          exact hcM98 _ _ (hS.ends 5 98 94 rfl (congrArg Value.bool (by rw [show ((hVal (lineS l p)).data.toList.getD (0 : Int).toNat 0).toNat = byteAt (hVal (lineS l p)).data.toList 0 from rfl]; exact decide_eq_decide.2 ⟨fun h h2 => h2.2 (by omega), fun h => Classical.not_not.1 (fun h2 => h ⟨hnf, fun h3 => h2 (by omega)⟩)⟩)) rfl rfl (by first | exact congrArg Value.bool (decide_eq_false hg94).symm | exact congrArg Value.bool hg94.symm | simp [hg94]) rfl)
                      · clear hS a; (try clear w); intro a w hS
                        simp only [List.drop_succ_cons, List.drop_zero]
                        refine L_nil ?_
                        refine n_then ?_
                        first | refine c_ifD hS rfl (fun hc98 => ?_) (fun hc98 => ?_) | refine c_if hS rfl (fun hc98 => ?_) (fun hc98 => ?_)
                        ·
                          refine c_seq ?_
                          refine c_region ?_
                          refine L_op (s_e hS (e_build ty_z30 ty_pl30 .nil) rfl ?_); clear hS a; intro a hS
                          refine L_op (s_storeA hS rfl rfl ty_sz30 (by repeat constructor) (by rfl) (by rfl) (by rfl) ?_); clear hS; (try clear w); intro w hS
                          refine L_op (s_e hS (e_assign rfl) rfl ?_); clear hS a; intro a hS
                          refine L_op (s_e hS (e_assign rfl) rfl ?_); clear hS a; intro a hS
                          refine L_op (s_e hS (e_assign rfl) rfl ?_); clear hS a; intro a hS
                          refine L_nil ?_
                          refine n_then ?_
                          refine wp_ret ?_
                          refine r_then (r_block (r_then (r_block (r_then ?_))))
                          refine c_retN hS Tryz.results8 (.cons (.cellA rfl (by repeat constructor) ty_st30 ty_sz30 (by rfl)) (.cons (.tmp rfl) (.cons (.tmp rfl) (.cons (.tmp rfl) .nil)))) rfl ?_
                          have hst := st_len (s := lineS l p) hn0 hc47 hb h20 hcl (by omega)
                          rw [show lenF (hVal (lineS l p)).data.toList = (0, 10) from if_neg hc98] at hst
                          exact err_ (yinv_err hI p1 hst (by decide)) hS.chg
                        ·
                          have hla := len_at (Classical.not_not.1 hc98)
                          have hst := st_len (s := lineS l p) hn0 hc47 hb h20 hcl (by omega)
                          refine wp_skip ?_
                          refine n_then ?_
                          refine c_seq ?_
                          refine c_region ?_
                          refine L_op (s_e hS (e_move rfl) rfl ?_); clear hS a; intro a hS
                          refine L_op (s_callP hS (.cons rfl .nil) cf28 rfl (Atoi_P (hVal (lineS l p)) (by omega) _) ?_); clear hS a; (try clear w); intro a w hS
                          refine L_op (s_e hS (e_move rfl) rfl ?_); clear hS a; intro a hS
                          refine L_op (s_e hS (e_extract rfl rfl) rfl ?_); clear hS a; intro a hS
                          refine L_op (s_e hS (e_extract rfl rfl) rfl ?_); clear hS a; intro a hS
                          refine L_op (s_e hS (e_assign rfl) rfl ?_); clear hS a; intro a hS
                          refine L_op (s_e hS (e_assign rfl) rfl ?_); clear hS a; intro a hS
                          refine L_nil ?_
                          refine n_then ?_
                          refine c_seq ?_
                          refine c_seq ?_
                          refine c_region ?_
                          refine L_op (s_e hS (e_move rfl) rfl ?_); clear hS a; intro a hS
                          refine L_op (s_e hS (e_not rfl) rfl ?_); clear hS a; intro a hS
                          refine L_op (s_e hS (e_move rfl) rfl ?_); clear hS a; intro a hS
                          refine L_merge 3 110 (.bool (decide (¬ ((atoiR (hVal (lineS l p)).data.toList).2 = true ∧ ¬ 32768 < (atoiR (hVal (lineS l p)).data.toList).1)))) hS ?_ ?_
                          · intro hcM110
                            (first | refine g_splitD (t := 107) hS rfl ?_ ?_ | refine g_split (t := 107) hS rfl ?_ ?_) <;> (clear hS; intro hg107 hS)
                            ·
                              refine L_skip_f hS rfl rfl rfl ?_; clear hS a; intro a hS
                              refine L_skip_f hS rfl rfl rfl ?_; clear hS a; intro a hS
                              first | (refine L_op (s_e hS (e_pick_t rfl rfl) rfl ?_); clear hS a; intro a hS) | (refine L_op (s_e hS (e_pick_f rfl rfl) rfl ?_); clear hS a; intro a hS)
                              exact hcM110 _ _ (hS.ends 4 110 107 rfl (congrArg Value.bool (by exact (decide_eq_true (show ¬ ((atoiR (hVal (lineS l p)).data.toList).2 = true ∧ ¬ 32768 < (atoiR (hVal (lineS l p)).data.toList).1) from fun h => by rw [h.1] at hg107; cases hg107)).symm)) rfl rfl (by first | exact congrArg Value.bool (decide_eq_true hg107).symm | exact congrArg Value.bool hg107.symm | simp [hg107]) rfl)
                            ·
                              refine L_go hS rfl rfl (s_e hS (e_move rfl) rfl ?_); clear hS a; intro a hS
                              refine L_go hS rfl rfl (s_e hS (e_bin rfl rfl rfl) rfl ?_); clear hS a; intro a hS
                              first | (refine L_op (s_e hS (e_pick_t rfl rfl) rfl ?_); clear hS a; intro a hS) | (refine L_op (s_e hS (e_pick_f rfl rfl) rfl ?_); clear hS a; intro a hS)
                              exact hcM110 _ _ (hS.ends 4 110 107 rfl (congrArg Value.bool (by exact decide_eq_decide.2 ⟨fun h h2 => h2.2 (by omega), fun h => Classical.not_not.1 (fun h2 => h ⟨by simpa using hg107, fun h3 => h2 (by omega)⟩)⟩)) rfl rfl (by first | exact congrArg Value.bool (decide_eq_false hg107).symm | exact congrArg Value.bool hg107.symm | simp [hg107]) rfl)
                          · clear hS a; (try clear w); intro a w hS
                            simp only [List.drop_succ_cons, List.drop_zero]
                            refine L_nil ?_
                            refine n_then ?_
                            first | refine c_ifD hS rfl (fun hc110 => ?_) (fun hc110 => ?_) | refine c_if hS rfl (fun hc110 => ?_) (fun hc110 => ?_)
                            ·
                              refine c_seq ?_
                              refine c_region ?_
                              refine L_op (s_e hS (e_build ty_z30 ty_pl30 .nil) rfl ?_); clear hS a; intro a hS
                              refine L_op (s_storeA hS rfl rfl ty_sz30 (by repeat constructor) (by rfl) (by rfl) (by rfl) ?_); clear hS; (try clear w); intro w hS
                              refine L_op (s_e hS (e_assign rfl) rfl ?_); clear hS a; intro a hS
                              refine L_op (s_e hS (e_assign rfl) rfl ?_); clear hS a; intro a hS
                              refine L_op (s_e hS (e_assign rfl) rfl ?_); clear hS a; intro a hS
                              refine L_nil ?_
                              refine n_then ?_
                              refine wp_ret ?_
                              refine r_then (r_block (r_then (r_block (r_then ?_))))
                              refine c_retN hS Tryz.results8 (.cons (.cellA rfl (by repeat constructor) ty_st30 ty_sz30 (by rfl)) (.cons (.tmp rfl) (.cons (.tmp rfl) (.cons (.tmp rfl) .nil)))) rfl ?_
                              rw [show lenF (hVal (lineS l p)).data.toList = (0, 8) from hla.elim (fun h => absurd ⟨h.1, h.2.1⟩ hc110) (fun h => h.elim (fun h => h.2.2) (fun h => h.2))] at hst
                              exact err_ (yinv_err hI p1 hst (by decide)) hS.chg
                            ·
                              rw [show lenF (hVal (lineS l p)).data.toList = ((atoiR (hVal (lineS l p)).data.toList).1, 0) from hla.elim (fun h => h.2.2) (fun h => absurd (Classical.not_not.1 hc110) (fun h2 => h.elim (fun h => h2.2 h.2.1) (fun h => by rw [h.1] at h2; cases h2.1)))] at hst
                              refine wp_skip ?_
                              refine n_then ?_
                              refine c_region ?_
                              refine L_op (s_e hS (e_move rfl) rfl ?_); clear hS a; intro a hS
                              refine L_op (s_e hS (e_assign rfl) rfl ?_); clear hS a; intro a hS
                              refine L_nil ?_
                              refine n_block ?_
                              first
                              | (have hway := hes
                                 exact ⟨(aftL l p, { D with m := (headF (lineS l p)).2.1, p := (headF (lineS l p)).2.2, cl := false, n := 1 }, sn, sv), by show l.length - aftL l p < l.length - p; omega, (hS.slots (by repeat (first | exact trivial | refine ⟨rfl, ?_⟩))).pick (by repeat (first | exact Pick.nil | (refine Pick.cons (by repeat (first | exact Rem.head | apply Rem.tail)) ?_))), yinv_next hI p1 he (by show D.over = false; rw [hD0]; rfl) (by simp) hI.has (by rw [hsn0]; simp)⟩)
                              | (have hq := hway
                                 exact ⟨(aftL l p, { D with n := D.n + 1, es := setI D.es (hName (lineS l p)) (getI D.es (hName (lineS l p)) + 1) }, sn, sv), by show l.length - aftL l p < l.length - p; omega, (hS.slots (by repeat (first | exact trivial | refine ⟨rfl, ?_⟩))).pick (by repeat (first | exact Pick.nil | (refine Pick.cons (by repeat (first | exact Rem.head | apply Rem.tail)) ?_))), yinv_next hI p1 hway hI.nov (by simp; omega) (sn_far hI.has hc67) (by simp; omega)⟩)
                              | (have hq := hc85
                                 rw [← hfl] at hS
                                 exact ⟨(aftL l p, { D with n := D.n + 1, es := setI D.es (hName (lineS l p)) (getI D.es (hName (lineS l p)) + 1), cl := decide (tx (Lib.toLowerA (hVal (lineS l p)).data.toList) = sClose) }, sn ++ [hName (lineS l p)], v75), by show l.length - aftL l p < l.length - p; omega, by
                                  show St _ _ _ _ _ _ [_, _, ownA _ _ _ (sn ++ [hName (lineS l p)]).length _, _]
                                  rw [List.length_append]
                                  exact (hS.slots (by repeat (first | exact trivial | refine ⟨rfl, ?_⟩))).pick (by repeat (first | exact Pick.nil | (refine Pick.cons (by repeat (first | exact Rem.head | apply Rem.tail)) ?_))), yinv_next hI p1 hst hI.nov (by simp; omega) (sn_set hI.has (by omega) rfl) (by simp; omega)⟩)
                              | (have hq := hc110
                                 rw [← hfl] at hS
                                 exact ⟨(aftL l p, { D with n := D.n + 1, es := setI D.es (hName (lineS l p)) (getI D.es (hName (lineS l p)) + 1), bl := (atoiR (hVal (lineS l p)).data.toList).1 }, sn ++ [hName (lineS l p)], v75), by show l.length - aftL l p < l.length - p; omega, by
                                  show St _ _ _ _ _ _ [_, _, ownA _ _ _ (sn ++ [hName (lineS l p)]).length _, _]
                                  rw [List.length_append]
                                  exact (hS.slots (by repeat (first | exact trivial | refine ⟨rfl, ?_⟩))).pick (by repeat (first | exact Pick.nil | (refine Pick.cons (by repeat (first | exact Rem.head | apply Rem.tail)) ?_))), yinv_next hI p1 hst hI.nov (by simp; omega) (sn_set hI.has (by omega) rfl) (by simp; omega)⟩)
end Go.Proofs.YtjmkjkhcognoeaaGreatDoor

namespace Go.Proofs.YtjmkjkhcognoeaaGreatDoor
open Go.RowKit

theorem goP_n {l : List Int} : ∀ (k p : Nat) (D : RD), l.length ≤ p + k → ∀ {m pa : ByteArray} {cl : Bool} {b : List Int} {n : Nat}, goP l p D = .yes m pa cl b n → p < n ∧ n ≤ l.length
  | 0, p, D, hk, m, pa, cl, b, n, h => by
    rcases Int.lt_or_le (lineF (l.drop p)).1 0 with h1 | h1
    · rw [goP_end h1] at h; cases h
    · have := (line_in h1).1; omega
  | k + 1, p, D, hk, m, pa, cl, b, n, h => by
    rcases Int.lt_or_le (lineF (l.drop p)).1 0 with h1 | h1
    · rw [goP_end h1] at h; cases h
    have hl := line_in h1
    have hap : p < aftL l p := by unfold aftL; omega
    by_cases h2 : (stepP D (lineS l p)).2 = 0
    · cases h3 : (stepP D (lineS l p)).1.over
      · rw [goP_go h1 h2 h3] at h
        have := goP_n k (aftL l p) _ (by omega) h
        omega
      · by_cases h4 : (l.length : Int) - (aftL l p : Int) < (stepP D (lineS l p)).1.bl
        · rw [goP_few h1 h2 h3 h4] at h; cases h
        · rw [goP_yes h1 h2 h3 h4] at h
          injection h with _ _ _ _ e
          omega
    · rw [goP_err h1 h2] at h; cases h
/-- a request, in plain data; and with its body's slice. -/
structure PR where
  m : ByteArray
  p : ByteArray
  cl : Bool
  body : List Int
structure RQ where
  r : PR
  v : Value
def encRQ (x : RQ) : List Value := [.string x.r.m, .string x.r.p, x.v, .bool x.r.cl]
def splitG (l : List Int) (acc : List PR) : List PR × Int :=
   if _h : l = [] then (acc, 0) else
   match hg : goP l 0 D0 with
   | .no e => ([], if e = 0 then 10 else e)
   | .yes m p cl b n => splitG (l.drop n) (acc ++ [⟨m, p, cl, b⟩])
 termination_by l.length
 decreasing_by
   have := goP_n l.length 0 D0 (by omega) hg
   rw [List.length_drop]; omega
theorem split_nil (acc : List PR) : splitG [] acc = (acc, 0) := by rw [splitG, dif_pos rfl]
theorem split_no {l : List Int} {acc : List PR} {e : Int} (h : l ≠ []) (hg : goP l 0 D0 = .no e) : splitG l acc = ([], if e = 0 then 10 else e) := by
  rw [splitG, dif_neg h]
  split
  · rename_i e2 h2; rw [hg] at h2; cases h2; rfl
  · rename_i h2; rw [hg] at h2; cases h2
theorem split_yes {l : List Int} {acc : List PR} {m p : ByteArray} {cl : Bool} {b : List Int} {n : Nat} (h : l ≠ []) (hg : goP l 0 D0 = .yes m p cl b n) : splitG l acc = splitG (l.drop n) (acc ++ [⟨m, p, cl, b⟩]) := by
  conv => lhs; rw [splitG, dif_neg h]
  split
  · rename_i h2; rw [hg] at h2; cases h2
  · rename_i h2; rw [hg] at h2; cases h2; rfl
def bodF (l : List RQ) (k : Nat) : Prop := ∃ x ∈ l, x.v.ownBlock = some k
def bdA (x : RQ) : Asn := ownA 5 1 x.v x.r.body.length (x.r.body.map (Value.int .u8))
def bodφ (l : List RQ) (w : World) : Prop := ∀ x ∈ l, (bdA x).ok w
def bodA (l : List RQ) : Asn := .any (bodF l) (bodφ l) true
theorem bod_ok {l : List RQ} {w : World} (h : bodφ l w) : (bodA l).ok w :=
  ⟨fun b ⟨x, hx, hb⟩ => (h x hx).lt b hb, fun _ hw x hx => (h x hx).agree fun k hk => hw k ⟨x, hx, hk⟩⟩
theorem by_of_own {E : Nat} {v : Value} {l : List Int} {w : World} (h : (ownA E 1 v l.length (l.map (Value.int .u8))).ok w) : ByAt v l w := by
  have hn : w.ownsRow 0 E 1 v l.length (l.map (Value.int .u8)) := h.now
  rcases hn.2 with ⟨rfl, h0⟩ | ⟨g, cap, cur, rfl, _, _, hc, _⟩
  · exact .inl ⟨List.eq_nil_of_length_eq_zero h0, _, _, rfl⟩
  · by_cases hl : l = []
    · subst hl; exact .inl ⟨rfl, _, _, rfl⟩
    · refine .inr ⟨g, 0, cap, hl, rfl, hc, fun j x hj => ?_, h.lt g rfl⟩
      have h2 := hn.cells (g := g) rfl j (.int .u8 x) (by rw [List.getElem?_map, hj]; rfl)
      rw [addr_add] at h2
      exact h2
theorem oR_shape {o : Out} {v : Value} {w : World} (h : (oY o v).φ w) : ∃ s1 s2 qa ma ca d, oR o v = [.string s1, .string s2, .slice qa ma ca, .bool d] := by
  cases o with
  | no e => exact ⟨_, _, _, _, _, _, rfl⟩
  | yes m p cl b n =>
    obtain ⟨q, c, rfl⟩ := own_slice h
    exact ⟨_, _, _, _, _, _, rfl⟩
theorem enc_snoc (rs : List RQ) (x : RQ) : (rs ++ [x]).flatMap encRQ = rs.flatMap encRQ ++ encRQ x := by rw [List.flatMap_append]; simp

set_option maxRecDepth 100000 in
theorem poolSplit_P (W0 : World) (hG : Gl W0) (q : Option Addr) (c : Nat) (l : List Int) (hlen : l.length ≤ 1000000) (hv : ByAt (.slice q l.length c) l W0) (w0 : World) (ho : oldφ W0 w0) :
    NewC Tryz.prog 7 [.slice q l.length c] w0 (fun y : { G : List RQ × Value // G.1.map (·.r) = (splitG l []).1 } => .tuple [y.1.2, .int .i64 (splitG l []).2].toArray) (fun y => duo (ownA 35 4 y.1.2 y.1.1.length (y.1.1.flatMap encRQ)) (bodA y.1.1)) := by
  have none2 : ∀ (w : World), (duo (ownA 35 4 (.slice none 0 0) ([] : List RQ).length (([] : List RQ).flatMap encRQ)) (bodA [])).ok w ∧ ∀ b, ¬ (duo (ownA 35 4 (.slice none 0 0) ([] : List RQ).length (([] : List RQ).flatMap encRQ)) (bodA [])).F b := fun w =>
    ⟨duo_ok (own_nil w 35 4) (bod_ok (fun x hx => by cases hx)) (fun k hk => by cases hk), fun b hb => hb.elim (fun h => by cases h) (fun ⟨x, hx, _⟩ => by cases hx)⟩
  refine c_enter [(0, .slice q l.length c)] [oldA W0] noB Tryz.func7 rfl Tryz.ntmps7 ⟨rfl, trivial⟩ rfl (okC (old_ok ho) okN) dis1 (mineC (by rfl) mineN) ?_
  intro a hS
  refine c_seq ?_
  refine c_region ?_
  refine L_op (s_e hS (e_assign rfl) rfl ?_); clear hS a; intro a hS
  refine L_op (s_e hS (e_assign rfl) rfl ?_); clear hS a; intro a hS
  refine L_nil ?_
  refine n_then ?_
  refine c_seq ?_
  refine c_region ?_
  refine L_op (s_e hS (e_assign rfl) rfl ?_); clear hS a; intro a hS
  refine L_nil ?_
  refine n_then ?_
  refine c_seq ?_
  refine wp_block ?_
  skip
  refine c_loop (γ := (Nat × Option Addr × Nat × List RQ × Value)) (fun G a w => St 34 noB w0 a w [(4, G.2.2.2.2), (0, .slice G.2.1 (l.drop G.1).length G.2.2.1)] [ownA 35 4 G.2.2.2.2 G.2.2.2.1.length (G.2.2.2.1.flatMap encRQ), bodA G.2.2.2.1, oldA W0] ∧ ByAt (.slice G.2.1 (l.drop G.1).length G.2.2.1) (l.drop G.1) W0 ∧ splitG (l.drop G.1) (G.2.2.2.1.map (·.r)) = splitG l [] ∧ G.1 ≤ l.length ∧ G.2.2.2.1.length ≤ G.1) (fun G => l.length - G.1) (0, q, c, [], .slice none 0 0) ⟨(((hS.own_nil 35 4).more (Y := bodA []) (bod_ok (fun x hx => by cases hx)) (fun b ⟨x, hx, _⟩ => by cases hx)).slots (by repeat (first | exact trivial | refine ⟨rfl, ?_⟩))).pick (by repeat (first | exact Pick.nil | (refine Pick.cons (by repeat (first | exact Rem.head | apply Rem.tail)) ?_))), hv, rfl, Nat.zero_le _, Nat.le_refl _⟩ ?_
  clear hS a; (try clear w); intro G a w hI
  obtain ⟨p, q', c', rs, ov⟩ := G
  obtain ⟨hS, hv', hsp, hp, hrl⟩ := hI
  simp only at hS hv' hsp hp hrl
  have hdl : (l.drop p).length = l.length - p := List.length_drop
  refine c_seq ?_
  refine c_seq ?_
  refine c_region ?_
  refine L_op (s_e hS (e_move rfl) rfl ?_); clear hS a; intro a hS
  refine L_op (s_e hS (e_len rfl rfl ty_sl22) rfl ?_); clear hS a; intro a hS
  refine L_op (s_e hS (e_bin rfl rfl rfl) rfl ?_); clear hS a; intro a hS
  refine L_nil ?_
  refine n_then ?_
  first | refine c_ifD hS rfl (fun hc11 => ?_) (fun hc11 => ?_) | refine c_if hS rfl (fun hc11 => ?_) (fun hc11 => ?_)
  ·
    have hne : l.drop p ≠ [] := fun e => by rw [e] at hc11; exact absurd hc11 (by decide)
    refine wp_skip ?_
    refine n_then ?_
    refine wp_block ?_
    refine c_seq ?_
    refine c_region ?_
    refine L_op (s_e hS (e_move rfl) rfl ?_); clear hS a; intro a hS
    refine L_op (s_callN hS (.cons rfl .nil) cf22 rfl (Parse_P W0 hG q' c' (l.drop p) (by omega) hv' _ (hS.get (X := oldA W0) (by repeat constructor))) ?_); clear hS a; (try clear w); intro x14 a w hS
    obtain ⟨s1, s2, qa, ma, ca, d, hr⟩ := oR_shape (hS.get (X := oY (goP (l.drop p) 0 D0) x14) (by repeat constructor))
    unfold oV at hS
    rw [hr] at hS
    refine L_op (s_e hS (e_move rfl) rfl ?_); clear hS a; intro a hS
    refine L_op (s_e hS (e_extract rfl rfl) rfl ?_); clear hS a; intro a hS
    refine L_op (s_e hS (e_extract rfl rfl) rfl ?_); clear hS a; intro a hS
    refine L_op (s_e hS (e_extract rfl rfl) rfl ?_); clear hS a; intro a hS
    refine L_op (s_e hS (e_extract rfl rfl) rfl ?_); clear hS a; intro a hS
    refine L_op (s_alloc hS ty_z35 rfl ?_); clear hS a; (try clear w); intro a w b5 hS
    refine L_op (s_storeA hS rfl rfl ty_sz35 (by repeat constructor) (by rfl) (by rfl) (by rfl) ?_); clear hS; (try clear w); intro w hS
    refine L_op (s_e hS (e_assign rfl) rfl ?_); clear hS a; intro a hS
    refine L_op (s_e hS (e_assign rfl) rfl ?_); clear hS a; intro a hS
    refine L_op (s_e hS (e_assign rfl) rfl ?_); clear hS a; intro a hS
    refine L_nil ?_
    refine n_then ?_
    refine c_seq ?_
    refine wp_block ?_
    refine c_seq ?_
    refine c_region ?_
    refine L_op (s_e hS (e_move rfl) rfl ?_); clear hS a; intro a hS
    refine L_op (s_e hS (e_bin rfl rfl rfl) rfl ?_); clear hS a; intro a hS
    refine L_op (s_e hS (e_assign rfl) rfl ?_); clear hS a; intro a hS
    refine L_nil ?_
    refine n_then ?_
    first | refine c_ifD hS rfl (fun hc19 => ?_) (fun hc19 => ?_) | refine c_if hS rfl (fun hc19 => ?_) (fun hc19 => ?_)
    ·
      refine c_seq ?_
      refine c_region ?_
      refine L_op (s_e hS (e_move rfl) rfl ?_); clear hS a; intro a hS
      refine L_op (s_e hS (e_assign rfl) rfl ?_); clear hS a; intro a hS
      refine L_op (s_e hS (e_assign rfl) rfl ?_); clear hS a; intro a hS
      refine L_nil ?_
      refine n_then ?_
      refine wp_ret ?_
      refine r_block (r_then (r_block (r_then (r_block (r_then ?_)))))
      refine c_retN hS Tryz.results7 (.cons (.tmp rfl) (.cons (.tmp rfl) .nil)) rfl ?_
      cases hg : goP (l.drop p) 0 D0 with
      | no e =>
        rw [hg] at hc19
        have hc19 : e ≠ 0 := hc19
        have e1 : splitG l [] = ([], e) := by rw [← hsp, split_no hne hg, if_neg hc19]
        exact ⟨⟨([], .slice none 0 0), by rw [e1]; rfl⟩, congrArg (fun e => Ending.returned (.tuple [.slice none 0 0, .int .i64 e].toArray)) (show _ = (splitG l []).2 by rw [e1]; rfl), hS.chg, (none2 _).1, fun b hb => ((none2 w).2 b hb).elim⟩
      | yes m pa cl bd n => rw [hg] at hc19; exact absurd rfl hc19
    ·
      refine c_seq ?_
      refine c_region ?_
      refine L_op (s_e hS (e_move rfl) rfl ?_); clear hS a; intro a hS
      refine L_op (s_e hS (e_not rfl) rfl ?_); clear hS a; intro a hS
      refine L_op (s_e hS (e_assign rfl) rfl ?_); clear hS a; intro a hS
      refine L_nil ?_
      refine n_then ?_
      first | refine c_ifD hS rfl (fun hc23 => ?_) (fun hc23 => ?_) | refine c_if hS rfl (fun hc23 => ?_) (fun hc23 => ?_)
      ·
        refine c_seq ?_
        refine c_region ?_
        refine L_op (s_e hS (e_assign rfl) rfl ?_); clear hS a; intro a hS
        refine L_op (s_e hS (e_assign rfl) rfl ?_); clear hS a; intro a hS
        refine L_nil ?_
        refine n_then ?_
        refine wp_ret ?_
        refine r_block (r_then (r_block (r_then (r_block (r_then ?_)))))
        refine c_retN hS Tryz.results7 (.cons (.tmp rfl) (.cons (.tmp rfl) .nil)) rfl ?_
        cases hg : goP (l.drop p) 0 D0 with
        | no e =>
          rw [hg] at hc19
          have e0 : e = 0 := Classical.not_not.1 hc19
          have e1 : splitG l [] = ([], 10) := by rw [← hsp, split_no hne hg, if_pos e0]
          exact ⟨⟨([], .slice none 0 0), by rw [e1]; rfl⟩, congrArg (fun e => Ending.returned (.tuple [.slice none 0 0, .int .i64 e].toArray)) (show _ = (splitG l []).2 by rw [e1]), hS.chg, (none2 _).1, fun b hb => ((none2 w).2 b hb).elim⟩
        | yes m pa cl bd n => rw [hg] at hc23; cases hc23
      ·
        obtain ⟨m, pa, cl, bd, n, hg⟩ : ∃ m pa cl bd n, goP (l.drop p) 0 D0 = .yes m pa cl bd n := by
          cases hg : goP (l.drop p) 0 D0 with
          | no e => rw [hg] at hc23; cases hc23
          | yes m pa cl bd n => exact ⟨m, pa, cl, bd, n, rfl⟩
        rw [hg] at hr hS
        have hnn := goP_n _ 0 D0 (Nat.le_add_left _ _) hg
        injection hr with e1 hr
        injection hr with e2 hr
        injection hr with e3 hr
        injection hr with e4 _
        injection e1 with e1
        injection e2 with e2
        injection e4 with e4
        subst e1; subst e2; subst e3; subst e4
        refine wp_skip ?_
        refine n_block ?_
        refine n_then ?_
        refine c_drawS [] (by kernel_rfl) hS (sub_cons (X := .blk b5 [.string m, .string pa, .slice qa ma ca, .bool cl] 35) (by repeat constructor) sub_nil) ?_; clear hS; (try clear w); intro w hS
        simp only [List.length_cons, List.length_nil, Nat.zero_add, Nat.reduceAdd, List.replicate]
        refine Z_take0 (i := 0) hS rfl want_none (e_move rfl) (listed' := [true, false, false, false, false, false, false, false, false]) rfl (by kernel_rfl) (by kernel_rfl) (by kernel_rfl) (fun _ _ _ h => h) rfl ?_; clear hS a; intro a hS
        refine Z_take (i := 1) hS rfl want_none (e_loadA rfl (by repeat constructor) ty_st35 ty_sz35 (by rfl)) (listed' := [true, true, false, false, false, false, false, false, false]) rfl (by kernel_rfl) (by kernel_rfl) (by kernel_rfl) (by kernel_rfl) (by kernel_rfl) (sub_cons (by repeat constructor) sub_nil) (fun _ _ _ h => h) rfl ?_; clear hS a; intro a hS
        refine Z_take0 (i := 4) hS rfl want_none (e_move rfl) (listed' := [true, true, false, false, true, false, false, false, false]) rfl (by kernel_rfl) (by kernel_rfl) (by kernel_rfl) (fun _ _ _ h => h) rfl ?_; clear hS a; intro a hS
        refine Z_take0 (i := 5) hS rfl want_none (e_move rfl) (listed' := [true, true, false, false, true, true, false, false, false]) rfl (by kernel_rfl) (by kernel_rfl) (by kernel_rfl) (fun _ _ _ h => h) rfl ?_; clear hS a; intro a hS
        refine Z_take0 (i := 6) hS rfl want_none (e_slT (j := n) rfl rfl ty_sl22 ty_sz5 (by omega)) (listed' := [true, true, false, false, true, true, true, false, false]) rfl (by kernel_rfl) (by kernel_rfl) (by kernel_rfl) (fun _ _ _ h => h) rfl ?_; clear hS a; intro a hS
        refine Z_one (i := 2) rfl (want_none a hS.sl) (listed' := [true, true, true, false, true, true, true, false, false]) rfl (by kernel_rfl) (s_bslice hS ty_sl24 ty_sz35 ty_z35 rfl rfl rfl rfl (.agg rfl rfl .nil) rfl ?_); clear hS a; (try clear w); intro a w b28 hS
        refine Z_and hS (sub_cons (by repeat constructor) sub_nil) ?_
        refine Z_one (i := 3) rfl (want_none a hS.sl) (listed' := [true, true, true, true, true, true, true, false, false]) rfl (by kernel_rfl) (s_append1 hS rfl rfl ty_sl24 ty_sz35 ty_by35 ty_z35 rfl rfl rfl (by repeat constructor) (by repeat constructor) (by rfl) (by rfl) (fun _ => (by repeat constructor)) (by omega) ?_); clear hS a; (try clear w); intro v29 a w hv29 hS
        refine Z_and hS (sub_cons (by repeat constructor) sub_nil) ?_
        refine Z_take0 (i := 7) hS rfl want_none (e_assign rfl) (listed' := [true, true, true, true, true, true, true, true, false]) rfl (by kernel_rfl) (by kernel_rfl) (by kernel_rfl) (fun _ _ _ h => h) rfl ?_; clear hS a; intro a hS
        refine Z_take0 (i := 8) hS rfl want_none (e_assign rfl) (listed' := [true, true, true, true, true, true, true, true, true]) rfl (by kernel_rfl) (by kernel_rfl) (by kernel_rfl) (fun _ _ _ h => h) rfl ?_; clear hS a; intro a hS
        refine Z_done (by kernel_rfl) ?_
        refine n_block ?_
        have hz : (bodA (rs ++ [(⟨⟨m, pa, cl, bd⟩, .slice qa ma ca⟩ : RQ)])).ok w := bod_ok (fun x hx => by
          rcases List.mem_append.1 hx with hx | hx
          · exact hS.get (X := bodA rs) (by repeat constructor) x hx
          · obtain rfl := List.mem_singleton.1 hx
            exact hS.ok (oY (.yes m pa cl bd n) (.slice qa ma ca)) (by repeat constructor))
        refine ⟨(p + n, tailP q' n c' 1, c' - n, rs ++ [(⟨⟨m, pa, cl, bd⟩, .slice qa ma ca⟩ : RQ)], v29), by show l.length - (p + n) < l.length - p; omega, ?_, ?_, ?_, by show p + n ≤ l.length; omega, by simp; omega⟩
        · have h1 := ((hS.slots (L' := [(4, v29), (0, .slice (tailP q' n c' 1) ((l.drop p).length - n) (c' - n))]) (by repeat (first | exact trivial | refine ⟨rfl, ?_⟩))).pick (Γ' := [oY (.yes m pa cl bd n) (.slice qa ma ca), bodA rs, ownA 35 4 v29 (rs.length + 1) (rs.flatMap encRQ ++ [.string m, .string pa, .slice qa ma ca, .bool cl]), oldA W0]) (by repeat (first | exact Pick.nil | (refine Pick.cons (by repeat (first | exact Rem.head | apply Rem.tail)) ?_)))).join (Y := bodA rs) (Z := bodA (rs ++ [(⟨⟨m, pa, cl, bd⟩, .slice qa ma ca⟩ : RQ)])) .head hz (fun b hb => by
            obtain ⟨x, hx, hb⟩ := hb
            rcases List.mem_append.1 hx with hx | hx
            · exact .inr ⟨x, hx, hb⟩
            · obtain rfl := List.mem_singleton.1 hx; exact .inl hb) (fun _ => ⟨rfl, rfl⟩)
          show St _ _ _ _ _ [(4, v29), (0, .slice (tailP q' n c' 1) (l.drop (p + n)).length (c' - n))] [ownA 35 4 v29 (rs ++ [(⟨⟨m, pa, cl, bd⟩, .slice qa ma ca⟩ : RQ)]).length ((rs ++ [(⟨⟨m, pa, cl, bd⟩, .slice qa ma ca⟩ : RQ)]).flatMap encRQ), bodA (rs ++ [(⟨⟨m, pa, cl, bd⟩, .slice qa ma ca⟩ : RQ)]), oldA W0]
          rw [List.length_append, enc_snoc, show (l.drop (p + n)).length = (l.drop p).length - n by rw [List.length_drop, List.length_drop]; omega]
          exact h1.pick (by repeat (first | exact Pick.nil | (refine Pick.cons (by repeat (first | exact Rem.head | apply Rem.tail)) ?_)))
        · have h1 := hv'.piece (j := n) (k := (l.drop p).length) (by omega) (Nat.le_refl _)
          rw [List.take_length, List.drop_drop] at h1
          show ByAt (.slice (tailP q' n c' 1) (l.drop (p + n)).length (c' - n)) (l.drop (p + n)) W0
          rw [show (l.drop (p + n)).length = (l.drop p).length - n by rw [List.length_drop, List.length_drop]; omega]
          exact h1
        · show splitG (l.drop (p + n)) ((rs ++ [(⟨⟨m, pa, cl, bd⟩, .slice qa ma ca⟩ : RQ)]).map (·.r)) = _
          rw [List.map_append, ← hsp, split_yes hne hg, List.drop_drop]; rfl
  ·
    have hnil : l.drop p = [] := List.eq_nil_of_length_eq_zero (by omega)
    have hfin : splitG l [] = (rs.map (·.r), 0) := by rw [← hsp, hnil, split_nil]
    refine wp_exit ?_
    refine x_then (x_then (x_hit ?_))
    refine n_then ?_
    refine c_seq ?_
    refine c_region ?_
    refine L_op (s_e hS (e_move rfl) rfl ?_); clear hS a; intro a hS
    refine L_op (s_e hS (e_assign rfl) rfl ?_); clear hS a; intro a hS
    refine L_op (s_e hS (e_assign rfl) rfl ?_); clear hS a; intro a hS
    refine L_nil ?_
    refine n_then ?_
    refine wp_ret ?_
    refine c_retN hS Tryz.results7 (.cons (.tmp rfl) (.cons (.tmp rfl) .nil)) rfl ?_
    refine ⟨⟨(rs, ov), by rw [hfin]⟩, congrArg (fun e => Ending.returned (.tuple [ov, .int .i64 e].toArray)) (show _ = (splitG l []).2 by rw [hfin]), hS.chg, duo_ok (hS.ok _ (.head _)) (hS.ok _ (.tail _ (.head _))) (fun b h1 h2 => hS.sep (X := ownA 35 4 ov rs.length (rs.flatMap encRQ)) (Y := bodA rs) (by repeat (first | exact Rem.head | apply Rem.tail)) (by repeat constructor) b h1 h2), fun b hb => ?_⟩
    rcases hb with hb | hb
    · exact (hS.new (X := ownA 35 4 ov rs.length (rs.flatMap encRQ)) (by repeat constructor) rfl).2 b hb
    · exact (hS.new (X := bodA rs) (by repeat constructor) rfl).2 b hb
end Go.Proofs.YtjmkjkhcognoeaaGreatDoor

namespace Go.Proofs.YtjmkjkhcognoeaaGreatDoor
open Go.RowKit

set_option maxRecDepth 100000 in
theorem sameB_P (va vb : Value) (l : List Int) (hl : l.length ≤ 1000000) (w0 : World) (h1 : ByAt va l w0) (h2 : ByAt vb l w0) : PureC Tryz.prog 30 [va, vb] w0 (.bool true) := by
  obtain ⟨qa, ca, rfl⟩ := h1.shape
  obtain ⟨qb, cb, rfl⟩ := h2.shape
  refine c_enter [(0, .slice qa l.length ca), (1, .slice qb l.length cb)] [oldA w0] noB Tryz.func30 rfl Tryz.ntmps30 ⟨rfl, rfl, trivial⟩ rfl (okC (old_ok (old_refl w0)) okN) dis1 (mineC (by rfl) mineN) ?_
  intro a hS
  refine c_seq ?_
  refine c_region ?_
  refine L_op (s_e hS (e_assign rfl) rfl ?_); clear hS a; intro a hS
  refine L_nil ?_
  refine n_then ?_
  refine c_seq ?_
  refine c_seq ?_
  refine c_region ?_
  refine L_op (s_e hS (e_move rfl) rfl ?_); clear hS a; intro a hS
  refine L_op (s_e hS (e_len rfl rfl ty_sl22) rfl ?_); clear hS a; intro a hS
  refine L_op (s_e hS (e_move rfl) rfl ?_); clear hS a; intro a hS
  refine L_op (s_e hS (e_len rfl rfl ty_sl22) rfl ?_); clear hS a; intro a hS
  refine L_op (s_e hS (e_bin rfl rfl rfl) rfl ?_); clear hS a; intro a hS
  refine L_nil ?_
  refine n_then ?_
  replace hS := hS.is (t := 10) (c := false) rfl ((decide_eq_false (by omega)))
  refine c_if_f hS rfl ?_
  refine wp_skip ?_
  refine n_then ?_
  refine c_seq ?_
  refine c_seq ?_
  refine c_region ?_
  refine L_op (s_e hS (e_assign rfl) rfl ?_); clear hS a; intro a hS
  refine L_nil ?_
  refine n_then ?_
  refine wp_block ?_
  skip
  refine c_loop (γ := Nat) (fun k a w => St 26 noB w0 a w [(5, .int .i64 (k : Int)), (0, .slice qa l.length ca), (1, .slice qb l.length cb)] [oldA w0] ∧ k ≤ l.length) (fun k => l.length - k) 0 ⟨hS.slots (by repeat (first | exact trivial | refine ⟨rfl, ?_⟩)), Nat.zero_le _⟩ ?_
  clear hS a; (try clear w); intro k a w hI
  obtain ⟨hS, hk⟩ := hI
  refine c_seq ?_
  refine c_seq ?_
  refine c_region ?_
  refine L_op (s_e hS (e_move rfl) rfl ?_); clear hS a; intro a hS
  refine L_op (s_e hS (e_move rfl) rfl ?_); clear hS a; intro a hS
  refine L_op (s_e hS (e_len rfl rfl ty_sl22) rfl ?_); clear hS a; intro a hS
  refine L_op (s_e hS (e_bin rfl rfl rfl) rfl ?_); clear hS a; intro a hS
  refine L_nil ?_
  refine n_then ?_
  first | refine c_ifD hS rfl (fun hc14 => ?_) (fun hc14 => ?_) | refine c_if hS rfl (fun hc14 => ?_) (fun hc14 => ?_)
  ·
    have hkl : k < l.length := by omega
    have hne : l ≠ [] := fun e => by rw [e] at hkl; exact absurd hkl (Nat.not_lt_zero _)
    obtain ⟨x, hx⟩ : ∃ x, l[k]? = some x := ⟨l[k], by simp⟩
    obtain ⟨b, off, c1, e1, _, hca⟩ := h1.some hne
    obtain ⟨b', off', c2, e2, _, hcb⟩ := h2.some hne
    injection e1 with e1 _ e3
    injection e2 with e2 _ e4
    subst e1; subst e2; subst e3; subst e4
    refine wp_skip ?_
    refine n_then ?_
    refine c_seq ?_
    refine wp_block ?_
    refine c_seq ?_
    refine c_drawS [] (by kernel_rfl) hS (sub_cons (X := oldA w0) (by repeat constructor) sub_nil) ?_; clear hS; (try clear w); intro w hS
    simp only [List.length_cons, List.length_nil, Nat.zero_add, Nat.reduceAdd, List.replicate]
    refine Z_take0 (i := 0) hS rfl want_none (e_move rfl) (listed' := [true, false, false, false, false, false, false, false, false]) rfl (by kernel_rfl) (by kernel_rfl) (by kernel_rfl) (fun _ _ _ h => h) rfl ?_; clear hS a; intro a hS
    refine Z_take0 (i := 1) hS rfl want_none (e_move rfl) (listed' := [true, true, false, false, false, false, false, false, false]) rfl (by kernel_rfl) (by kernel_rfl) (by kernel_rfl) (fun _ _ _ h => h) rfl ?_; clear hS a; intro a hS
    refine Z_take0 (i := 2) hS rfl want_none (e_ixN rfl rfl ty_sl22 ty_sz5 (by omega)) (listed' := [true, true, true, false, false, false, false, false, false]) rfl (by kernel_rfl) (by kernel_rfl) (by kernel_rfl) (fun _ _ _ h => h) rfl ?_; clear hS a; intro a hS
    refine Z_take (i := 3) hS rfl want_none (e_loadC rfl ty_sc5 (fun w hh => by rw [Nat.mul_one]; exact old_cell (hh (oldA w0) (by repeat constructor)) (hca _ _ hx))) (listed' := [true, true, true, true, false, false, false, false, false]) rfl (by kernel_rfl) (by kernel_rfl) (by kernel_rfl) (by kernel_rfl) (by kernel_rfl) (sub_cons (by repeat constructor) sub_nil) (fun _ _ _ h => h) rfl ?_; clear hS a; intro a hS
    refine Z_take0 (i := 4) hS rfl want_none (e_move rfl) (listed' := [true, true, true, true, true, false, false, false, false]) rfl (by kernel_rfl) (by kernel_rfl) (by kernel_rfl) (fun _ _ _ h => h) rfl ?_; clear hS a; intro a hS
    refine Z_take0 (i := 5) hS rfl want_none (e_move rfl) (listed' := [true, true, true, true, true, true, false, false, false]) rfl (by kernel_rfl) (by kernel_rfl) (by kernel_rfl) (fun _ _ _ h => h) rfl ?_; clear hS a; intro a hS
    refine Z_take0 (i := 6) hS rfl want_none (e_ixN rfl rfl ty_sl22 ty_sz5 (by omega)) (listed' := [true, true, true, true, true, true, true, false, false]) rfl (by kernel_rfl) (by kernel_rfl) (by kernel_rfl) (fun _ _ _ h => h) rfl ?_; clear hS a; intro a hS
    refine Z_take (i := 7) hS rfl want_none (e_loadC rfl ty_sc5 (fun w hh => by rw [Nat.mul_one]; exact old_cell (hh (oldA w0) (by repeat constructor)) (hcb _ _ hx))) (listed' := [true, true, true, true, true, true, true, true, false]) rfl (by kernel_rfl) (by kernel_rfl) (by kernel_rfl) (by kernel_rfl) (by kernel_rfl) (sub_cons (by repeat constructor) sub_nil) (fun _ _ _ h => h) rfl ?_; clear hS a; intro a hS
    refine Z_take0 (i := 8) hS rfl want_none (e_bin rfl rfl rfl) (listed' := [true, true, true, true, true, true, true, true, true]) rfl (by kernel_rfl) (by kernel_rfl) (by kernel_rfl) (fun _ _ _ h => h) rfl ?_; clear hS a; intro a hS
    refine Z_done (by kernel_rfl) ?_
    refine n_then ?_
    replace hS := hS.is (t := 25) (c := false) rfl ((decide_eq_false (fun h => h rfl)))
    refine c_if_f hS rfl ?_
    refine wp_skip ?_
    refine n_block ?_
    refine n_then ?_
    refine c_region ?_
    refine L_op (s_e hS (e_move rfl) rfl ?_); clear hS a; intro a hS
    first | (refine L_op (s_e hS (e_binN rfl rfl rfl (by omega)) rfl ?_); clear hS a; intro a hS) | (refine L_op (s_e hS (e_bin rfl rfl rfl) rfl ?_); clear hS a; intro a hS)
    refine L_op (s_e hS (e_assign rfl) rfl ?_); clear hS a; intro a hS
    refine L_nil ?_
    exact ⟨k + 1, by omega, hS.slots (by repeat (first | exact trivial | refine ⟨rfl, ?_⟩)), by omega⟩
  ·
    refine wp_exit ?_
    refine x_then (x_then (x_hit ?_))
    refine n_then ?_
    refine c_seq ?_
    refine c_region ?_
    refine L_op (s_e hS (e_assign rfl) rfl ?_); clear hS a; intro a hS
    refine L_nil ?_
    refine n_then ?_
    refine wp_ret ?_
    refine c_ret1 hS Tryz.results30 (.tmp rfl) ?_
    exact ⟨rfl, hS.chg⟩
set_option maxRecDepth 100000 in
theorem hSame_P (r : PR) (v1 v2 : Value) (hl : r.body.length ≤ 1000000) (w0 : World) (h1 : ByAt v1 r.body w0) (h2 : ByAt v2 r.body w0) : PureC Tryz.prog 10 [.agg (encRQ ⟨r, v1⟩).toArray, .agg (encRQ ⟨r, v2⟩).toArray] w0 (.bool true) := by
  obtain ⟨qa, ca, rfl⟩ := h1.shape
  obtain ⟨qb, cb, rfl⟩ := h2.shape
  unfold encRQ
  refine c_enter [(0, .agg [.string r.m, .string r.p, .slice qa r.body.length ca, .bool r.cl].toArray), (1, .agg [.string r.m, .string r.p, .slice qb r.body.length cb, .bool r.cl].toArray)] [oldA w0] noB Tryz.func10 rfl Tryz.ntmps10 ⟨rfl, rfl, trivial⟩ rfl (okC (old_ok (old_refl w0)) okN) dis1 (mineC (by rfl) mineN) ?_
  intro a hS
  refine c_seq ?_
  refine c_region ?_
  refine L_op (s_boxA hS rfl rfl ?_); clear hS a; (try clear w); intro a w b2 hS
  refine L_op (s_boxA hS rfl rfl ?_); clear hS a; (try clear w); intro a w b3 hS
  refine L_op (s_e hS (e_assign rfl) rfl ?_); clear hS a; intro a hS
  refine L_nil ?_
  refine n_then ?_
  refine c_seq ?_
  refine c_region ?_
  first | (refine L_op (s_e hS (e_fa0 rfl ty_fo35_0) rfl ?_); clear hS a; intro a hS) | (refine L_op (s_e hS (e_faK rfl ty_fo35_0) rfl ?_); clear hS a; intro a hS)
  refine L_op (s_e hS (e_load rfl (by repeat constructor) ty_sc9 (by rfl)) rfl ?_); clear hS a; intro a hS
  first | (refine L_op (s_e hS (e_fa0 rfl ty_fo30_0) rfl ?_); clear hS a; intro a hS) | (refine L_op (s_e hS (e_faK rfl ty_fo30_0) rfl ?_); clear hS a; intro a hS)
  refine L_op (s_e hS (e_load rfl (by repeat constructor) ty_sc9 (by rfl)) rfl ?_); clear hS a; intro a hS
  refine L_op (s_e hS (e_binS rfl rfl rfl) rfl ?_); clear hS a; intro a hS
  refine L_op (s_e hS (e_move rfl) rfl ?_); clear hS a; intro a hS
  replace hS := hS.is (t := 10) (c := true) rfl ((decide_eq_true rfl))
  first | (refine L_go hS rfl rfl (s_e hS (e_fa0 rfl ty_fo35_1) rfl ?_); clear hS a; intro a hS) | (refine L_go hS rfl rfl (s_e hS (e_faK rfl ty_fo35_1) rfl ?_); clear hS a; intro a hS)
  refine L_go hS rfl rfl (s_e hS (e_load rfl (by repeat constructor) ty_sc9 (by rfl)) rfl ?_); clear hS a; intro a hS
  first | (refine L_go hS rfl rfl (s_e hS (e_fa0 rfl ty_fo30_1) rfl ?_); clear hS a; intro a hS) | (refine L_go hS rfl rfl (s_e hS (e_faK rfl ty_fo30_1) rfl ?_); clear hS a; intro a hS)
  refine L_go hS rfl rfl (s_e hS (e_load rfl (by repeat constructor) ty_sc9 (by rfl)) rfl ?_); clear hS a; intro a hS
  refine L_go hS rfl rfl (s_e hS (e_binS rfl rfl rfl) rfl ?_); clear hS a; intro a hS
  first | (refine L_op (s_e hS (e_pick_t rfl rfl) rfl ?_); clear hS a; intro a hS) | (refine L_op (s_e hS (e_pick_f rfl rfl) rfl ?_); clear hS a; intro a hS)
  refine L_op (s_e hS (e_move rfl) rfl ?_); clear hS a; intro a hS
  replace hS := hS.is (t := 17) (c := true) rfl ((decide_eq_true rfl))
  first | (refine L_go hS rfl rfl (s_e hS (e_fa0 rfl ty_fo35_3) rfl ?_); clear hS a; intro a hS) | (refine L_go hS rfl rfl (s_e hS (e_faK rfl ty_fo35_3) rfl ?_); clear hS a; intro a hS)
  refine L_go hS rfl rfl (s_e hS (e_load rfl (by repeat constructor) ty_sc4 (by rfl)) rfl ?_); clear hS a; intro a hS
  first | (refine L_go hS rfl rfl (s_e hS (e_fa0 rfl ty_fo30_3) rfl ?_); clear hS a; intro a hS) | (refine L_go hS rfl rfl (s_e hS (e_faK rfl ty_fo30_3) rfl ?_); clear hS a; intro a hS)
  refine L_go hS rfl rfl (s_e hS (e_load rfl (by repeat constructor) ty_sc4 (by rfl)) rfl ?_); clear hS a; intro a hS
  refine L_go hS rfl rfl (s_e hS (e_binB rfl rfl ty_u4 rfl) rfl ?_); clear hS a; intro a hS
  first | (refine L_op (s_e hS (e_pick_t rfl rfl) rfl ?_); clear hS a; intro a hS) | (refine L_op (s_e hS (e_pick_f rfl rfl) rfl ?_); clear hS a; intro a hS)
  refine L_op (s_e hS (e_move rfl) rfl ?_); clear hS a; intro a hS
  replace hS := hS.is (t := 24) (c := true) rfl ((by cases r.cl <;> rfl))
  first | (refine L_go hS rfl rfl (s_e hS (e_fa0 rfl ty_fo35_2) rfl ?_); clear hS a; intro a hS) | (refine L_go hS rfl rfl (s_e hS (e_faK rfl ty_fo35_2) rfl ?_); clear hS a; intro a hS)
  refine L_go hS rfl rfl (s_e hS (e_load rfl (by repeat constructor) ty_sc22 (by rfl)) rfl ?_); clear hS a; intro a hS
  first | (refine L_go hS rfl rfl (s_e hS (e_fa0 rfl ty_fo30_2) rfl ?_); clear hS a; intro a hS) | (refine L_go hS rfl rfl (s_e hS (e_faK rfl ty_fo30_2) rfl ?_); clear hS a; intro a hS)
  refine L_go hS rfl rfl (s_e hS (e_load rfl (by repeat constructor) ty_sc22 (by rfl)) rfl ?_); clear hS a; intro a hS
  refine L_go hS rfl rfl (s_callP hS (.cons rfl (.cons rfl .nil)) cf30 rfl (sameB_P (.slice qa r.body.length ca) (.slice qb r.body.length cb) r.body hl _ (old_by (hS.get (X := oldA w0) (by repeat constructor)) h1) (old_by (hS.get (X := oldA w0) (by repeat constructor)) h2)) ?_); clear hS a; (try clear w); intro a w hS
  first | (refine L_op (s_e hS (e_pick_t rfl rfl) rfl ?_); clear hS a; intro a hS) | (refine L_op (s_e hS (e_pick_f rfl rfl) rfl ?_); clear hS a; intro a hS)
  refine L_op (s_e hS (e_assign rfl) rfl ?_); clear hS a; intro a hS
  refine L_nil ?_
  refine n_then ?_
  refine wp_ret ?_
  refine c_ret1 hS Tryz.results10 (.tmp rfl) ?_
  exact ⟨rfl, hS.chg⟩
end Go.Proofs.YtjmkjkhcognoeaaGreatDoor

namespace Go.Proofs.YtjmkjkhcognoeaaGreatDoor
open Go.RowKit

def gdN (bad : Int) : Nat := if bad = 0 then 1 else 0
theorem goP_body {l : List Int} : ∀ (k p : Nat) (D : RD), l.length ≤ p + k → ∀ {m pa : ByteArray} {cl : Bool} {b : List Int} {n : Nat}, goP l p D = .yes m pa cl b n → b.length ≤ l.length
  | 0, p, D, hk, m, pa, cl, b, n, h => by
    rcases Int.lt_or_le (lineF (l.drop p)).1 0 with h1 | h1
    · rw [goP_end h1] at h; cases h
    · have := (line_in h1).1; omega
  | k + 1, p, D, hk, m, pa, cl, b, n, h => by
    rcases Int.lt_or_le (lineF (l.drop p)).1 0 with h1 | h1
    · rw [goP_end h1] at h; cases h
    have hl := line_in h1
    have hap : p < aftL l p := by unfold aftL; omega
    by_cases h2 : (stepP D (lineS l p)).2 = 0
    · cases h3 : (stepP D (lineS l p)).1.over
      · rw [goP_go h1 h2 h3] at h
        exact goP_body k (aftL l p) _ (by omega) h
      · by_cases h4 : (l.length : Int) - (aftL l p : Int) < (stepP D (lineS l p)).1.bl
        · rw [goP_few h1 h2 h3 h4] at h; cases h
        · rw [goP_yes h1 h2 h3 h4] at h
          injection h with _ _ _ e _
          rw [← e]; unfold bodyL; rw [List.length_drop, List.length_take]; omega
    · rw [goP_err h1 h2] at h; cases h
set_option maxHeartbeats 4000000 in
set_option maxRecDepth 100000 in
theorem PoolSplits_P (q : Option Addr) (c : Nat) (l : List Int) (hl0 : l.length ≤ 4611686018427387904) (w0 : World) (hG : Gl w0) (hv : ByAt (.slice q l.length c) l w0) :
    PureC Tryz.prog 3 [.slice q l.length c] w0 (.bool true) := by
  obtain ⟨mx, hmx⟩ := hG.m
  refine c_enter [(0, .slice q l.length c)] [oldA w0] noB Tryz.func3 rfl Tryz.ntmps3 ⟨rfl, trivial⟩ rfl (okC (old_ok (old_refl w0)) okN) dis1 (mineC (by rfl) mineN) ?_
  intro a hS
  refine c_seq ?_
  refine c_region ?_
  refine L_op (s_e hS (e_assign rfl) rfl ?_); clear hS a; intro a hS
  refine L_nil ?_
  refine n_then ?_
  refine c_seq ?_
  refine c_region ?_
  refine L_op (s_callP hS .nil cf6 rfl (plainly_P mx _ (old_cell (hS.get (X := oldA w0) (by repeat constructor)) hmx)) ?_); clear hS a; (try clear w); intro a w hS
  refine L_op (s_e hS (e_assign rfl) rfl ?_); clear hS a; intro a hS
  refine L_nil ?_
  refine n_then ?_
  refine c_seq ?_
  refine c_seq ?_
  refine c_region ?_
  refine L_op (s_e hS (e_move rfl) rfl ?_); clear hS a; intro a hS
  refine L_op (s_e hS (e_not rfl) rfl ?_); clear hS a; intro a hS
  refine L_op (s_e hS (e_move rfl) rfl ?_); clear hS a; intro a hS
  replace hS := hS.is (t := 17) (c := false) rfl (rfl)
  refine L_go hS rfl rfl (s_e hS (e_move rfl) rfl ?_); clear hS a; intro a hS
  refine L_go hS rfl rfl (s_e hS (e_len rfl rfl ty_sl22) rfl ?_); clear hS a; intro a hS
  refine L_go hS rfl rfl (s_e hS (e_bin rfl rfl rfl) rfl ?_); clear hS a; intro a hS
  first | (refine L_op (s_e hS (e_pick_t rfl rfl) rfl ?_); clear hS a; intro a hS) | (refine L_op (s_e hS (e_pick_f rfl rfl) rfl ?_); clear hS a; intro a hS)
  refine L_nil ?_
  refine n_then ?_
  first | refine c_ifD hS rfl (fun hc21 => ?_) (fun hc21 => ?_) | refine c_if hS rfl (fun hc21 => ?_) (fun hc21 => ?_)
  ·
    refine c_seq ?_
    refine c_region ?_
    refine L_op (s_e hS (e_move rfl) rfl ?_); clear hS a; intro a hS
    refine L_op (s_e hS (e_assign rfl) rfl ?_); clear hS a; intro a hS
    refine L_nil ?_
    refine n_then ?_
    refine wp_ret ?_
    refine r_then ?_
    refine c_ret1 hS Tryz.results3 (.tmp rfl) ?_
    exact ⟨rfl, hS.chg⟩
  ·
    refine wp_skip ?_
    refine n_then ?_
    refine c_seq ?_
    refine c_region ?_
    refine L_op (s_e hS (e_move rfl) rfl ?_); clear hS a; intro a hS
    refine L_op (s_callN hS (.cons rfl .nil) cf7 rfl (poolSplit_P w0 hG q c l (by omega) hv _ (hS.get (X := oldA w0) (by repeat constructor))) ?_); clear hS a; (try clear w); intro x25 a w hS
    obtain ⟨⟨rs, ov⟩, hrs⟩ := x25
    simp only at hrs
    replace hS := hS.unduo
    simp only at hS
    obtain ⟨qo, co, rfl⟩ := own_slice (hS.get (X := ownA 35 4 ov rs.length (rs.flatMap encRQ)) (by repeat constructor))
    refine L_op (s_e hS (e_move rfl) rfl ?_); clear hS a; intro a hS
    refine L_op (s_e hS (e_extract rfl rfl) rfl ?_); clear hS a; intro a hS
    refine L_op (s_e hS (e_extract rfl rfl) rfl ?_); clear hS a; intro a hS
    refine L_op (s_e hS (e_assign rfl) rfl ?_); clear hS a; intro a hS
    refine L_op (s_e hS (e_assign rfl) rfl ?_); clear hS a; intro a hS
    refine L_nil ?_
    refine n_then ?_
    refine c_seq ?_
    refine c_region ?_
    refine L_op (s_e hS (e_assign rfl) rfl ?_); clear hS a; intro a hS
    refine L_nil ?_
    refine n_then ?_
    refine c_seq ?_
    refine c_region ?_
    refine L_op (s_e hS (e_assign rfl) rfl ?_); clear hS a; intro a hS
    refine L_nil ?_
    refine n_then ?_
    refine c_seq ?_
    refine c_region ?_
    refine L_op (s_e hS (e_move rfl) rfl ?_); clear hS a; intro a hS
    refine L_op (s_e hS (e_assign rfl) rfl ?_); clear hS a; intro a hS
    refine L_nil ?_
    refine n_then ?_
    refine c_seq ?_
    refine wp_block ?_
    skip
    refine c_loop (γ := (Nat × Option Addr × Nat × List RQ × Value × Int)) (fun G a w => St 92 noB w0 a w [(6, G.2.2.2.2.1), (7, .int .i64 G.2.2.2.2.2), (8, .slice G.2.1 (l.drop G.1).length G.2.2.1), (4, .slice qo rs.length co), (5, .int .i64 (splitG l []).2)] [ownA 30 4 G.2.2.2.2.1 G.2.2.2.1.length (G.2.2.2.1.flatMap encRQ), bodA G.2.2.2.1, ownA 35 4 (.slice qo rs.length co) rs.length (rs.flatMap encRQ), bodA rs, oldA w0] ∧ ByAt (.slice G.2.1 (l.drop G.1).length G.2.2.1) (l.drop G.1) w0 ∧ (G.2.2.2.2.2 = 0 → splitG (l.drop G.1) (G.2.2.2.1.map (·.r)) = splitG l []) ∧ (G.2.2.2.2.2 ≠ 0 → splitG l [] = ([], G.2.2.2.2.2)) ∧ G.1 ≤ l.length ∧ G.2.2.2.1.length ≤ G.1 ∧ ∀ x ∈ G.2.2.2.1, x.r.body.length ≤ l.length) (fun G => gdN G.2.2.2.2.2 + (l.length - G.1)) (0, q, c, [], .slice none 0 0, 0) ⟨(((hS.own_nil 30 4).more (Y := bodA []) (bod_ok (fun x hx => by cases hx)) (fun b ⟨x, hx, _⟩ => by cases hx)).slots (by repeat (first | exact trivial | refine ⟨rfl, ?_⟩))).pick (by repeat (first | exact Pick.nil | (refine Pick.cons (by repeat (first | exact Rem.head | apply Rem.tail)) ?_))), hv, fun _ => rfl, fun h => absurd rfl h, Nat.zero_le _, Nat.le_refl _, fun x hx => by cases hx⟩ ?_
    clear hS a; (try clear w); intro G a w hI
    obtain ⟨p, q', c', ws, wv, bad⟩ := G
    obtain ⟨hS, hv', hgo, hbad, hp, hwl, hbl⟩ := hI
    simp only at hS hv' hgo hbad hp hwl hbl
    have hdl : (l.drop p).length = l.length - p := List.length_drop
    refine c_seq ?_
    refine c_seq ?_
    refine c_region ?_
    refine L_op (s_e hS (e_move rfl) rfl ?_); clear hS a; intro a hS
    refine L_op (s_e hS (e_len rfl rfl ty_sl22) rfl ?_); clear hS a; intro a hS
    refine L_op (s_e hS (e_bin rfl rfl rfl) rfl ?_); clear hS a; intro a hS
    refine L_op (s_e hS (e_move rfl) rfl ?_); clear hS a; intro a hS
    refine L_merge 3 35 (.bool (decide (0 < (l.drop p).length ∧ bad = 0))) hS ?_ ?_
    · intro hcM35
      (first | refine g_splitD (t := 32) hS rfl ?_ ?_ | refine g_split (t := 32) hS rfl ?_ ?_) <;> (clear hS; intro hg32 hS)
      ·
        refine L_go hS rfl rfl (s_e hS (e_move rfl) rfl ?_); clear hS a; intro a hS
        refine L_go hS rfl rfl (s_e hS (e_bin rfl rfl rfl) rfl ?_); clear hS a; intro a hS
        first | (refine L_op (s_e hS (e_pick_t rfl rfl) rfl ?_); clear hS a; intro a hS) | (refine L_op (s_e hS (e_pick_f rfl rfl) rfl ?_); clear hS a; intro a hS)
        exact hcM35 _ _ (hS.ends 4 35 32 rfl (congrArg Value.bool (by exact decide_eq_decide.2 ⟨fun h => ⟨by omega, h⟩, fun h => h.2⟩)) rfl rfl (by first | exact congrArg Value.bool (decide_eq_true hg32).symm | exact congrArg Value.bool hg32.symm | simp [hg32]) rfl)
      ·
        refine L_skip_t hS rfl rfl rfl ?_; clear hS a; intro a hS
        refine L_skip_t hS rfl rfl rfl ?_; clear hS a; intro a hS
        first | (refine L_op (s_e hS (e_pick_t rfl rfl) rfl ?_); clear hS a; intro a hS) | (refine L_op (s_e hS (e_pick_f rfl rfl) rfl ?_); clear hS a; intro a hS)
        exact hcM35 _ _ (hS.ends 4 35 32 rfl (congrArg Value.bool (by exact (decide_eq_false (fun h => hg32 (by omega))).symm)) rfl rfl (by first | exact congrArg Value.bool (decide_eq_false hg32).symm | exact congrArg Value.bool hg32.symm | simp [hg32]) rfl)
    · clear hS a; (try clear w); intro a w hS
      simp only [List.drop_succ_cons, List.drop_zero]
      refine L_nil ?_
      refine n_then ?_
      first | refine c_ifD hS rfl (fun hc35 => ?_) (fun hc35 => ?_) | refine c_if hS rfl (fun hc35 => ?_) (fun hc35 => ?_)
      ·
        have hne : l.drop p ≠ [] := fun e => by rw [e] at hc35; exact absurd hc35.1 (by decide)
        have hb0 := hc35.2
        have hsp := hgo hb0
        have hg1 : gdN bad = 1 := if_pos hb0
        refine wp_skip ?_
        refine n_then ?_
        refine wp_block ?_
        refine c_seq ?_
        refine c_region ?_
        refine L_op (s_e hS (e_move rfl) rfl ?_); clear hS a; intro a hS
        refine L_op (s_callN hS (.cons rfl .nil) cf8 rfl (yParse_P w0 q' c' (l.drop p) (by omega) hv' _ (hS.get (X := oldA w0) (by repeat constructor))) ?_); clear hS a; (try clear w); intro x38 a w hS
        obtain ⟨s1, s2, qa, ma, ca, d, hr⟩ := oR_shape (hS.get (X := oY (goP (l.drop p) 0 D0) x38) (by repeat constructor))
        unfold oV at hS
        rw [hr] at hS
        refine L_op (s_e hS (e_move rfl) rfl ?_); clear hS a; intro a hS
        refine L_op (s_e hS (e_extract rfl rfl) rfl ?_); clear hS a; intro a hS
        refine L_op (s_e hS (e_extract rfl rfl) rfl ?_); clear hS a; intro a hS
        refine L_op (s_e hS (e_extract rfl rfl) rfl ?_); clear hS a; intro a hS
        refine L_op (s_e hS (e_extract rfl rfl) rfl ?_); clear hS a; intro a hS
        refine L_op (s_alloc hS ty_z30 rfl ?_); clear hS a; (try clear w); intro a w b9 hS
        refine L_op (s_storeA hS rfl rfl ty_sz30 (by repeat constructor) (by rfl) (by rfl) (by rfl) ?_); clear hS; (try clear w); intro w hS
        refine L_op (s_e hS (e_assign rfl) rfl ?_); clear hS a; intro a hS
        refine L_op (s_e hS (e_assign rfl) rfl ?_); clear hS a; intro a hS
        refine L_op (s_e hS (e_assign rfl) rfl ?_); clear hS a; intro a hS
        refine L_nil ?_
        refine n_then ?_
        refine c_seq ?_
        refine c_region ?_
        refine L_op (s_e hS (e_move rfl) rfl ?_); clear hS a; intro a hS
        refine L_op (s_e hS (e_bin rfl rfl rfl) rfl ?_); clear hS a; intro a hS
        refine L_nil ?_
        refine n_then ?_
        first | refine c_ifD hS rfl (fun hc44 => ?_) (fun hc44 => ?_) | refine c_if hS rfl (fun hc44 => ?_) (fun hc44 => ?_)
        ·
          obtain ⟨e, hg⟩ : ∃ e, goP (l.drop p) 0 D0 = .no e := by
            cases hg : goP (l.drop p) 0 D0 with
            | no e => exact ⟨e, rfl⟩
            | yes m pa cl bd n => rw [hg] at hc44; exact absurd rfl hc44
          rw [hg] at hc44 hS
          have he0 : e ≠ 0 := hc44
          have hno : splitG l [] = ([], e) := by rw [← hsp, split_no hne hg, if_neg he0]
          refine c_region ?_
          refine L_op (s_e hS (e_move rfl) rfl ?_); clear hS a; intro a hS
          refine L_op (s_e hS (e_assign rfl) rfl ?_); clear hS a; intro a hS
          refine L_nil ?_
          refine n_block ?_
          first
          | (have hw := hno
             exact ⟨(p, q', c', ws, wv, e), by show gdN e + (l.length - p) < gdN bad + (l.length - p); rw [hg1, show gdN e = 0 from if_neg he0]; omega, (hS.slots (by repeat (first | exact trivial | refine ⟨rfl, ?_⟩))).pick (by repeat (first | exact Pick.nil | (refine Pick.cons (by repeat (first | exact Rem.head | apply Rem.tail)) ?_))), hv', fun h => absurd h he0, fun _ => hno, hp, hwl, hbl⟩)
          | (have hw := hten
             exact ⟨(p, q', c', ws, wv, 10), by show gdN 10 + (l.length - p) < gdN bad + (l.length - p); rw [hg1, show gdN 10 = 0 by decide]; omega, (hS.slots (by repeat (first | exact trivial | refine ⟨rfl, ?_⟩))).pick (by repeat (first | exact Pick.nil | (refine Pick.cons (by repeat (first | exact Rem.head | apply Rem.tail)) ?_))), hv', fun h => absurd (show (10 : Int) = 0 from h) (by decide), fun _ => hten, hp, hwl, hbl⟩)
          | (have hz : (bodA (ws ++ [(⟨⟨m, pa, cl, bd⟩, .slice qa ma ca⟩ : RQ)])).ok w := bod_ok (fun x hx => by
               rcases List.mem_append.1 hx with hx | hx
               · exact hS.get (X := bodA ws) (by repeat constructor) x hx
               · obtain rfl := List.mem_singleton.1 hx
                 exact hS.ok (oY (.yes m pa cl bd n) (.slice qa ma ca)) (by repeat constructor))
             refine ⟨(p + n, tailP q' n c' 1, c' - n, ws ++ [(⟨⟨m, pa, cl, bd⟩, .slice qa ma ca⟩ : RQ)], v51, 0), by show gdN 0 + (l.length - (p + n)) < gdN bad + (l.length - p); rw [hg1, show gdN 0 = 1 from rfl]; omega, ?_, ?_, ?_, fun h => absurd rfl h, by show p + n ≤ l.length; omega, by simp; omega, fun x hx => by
               rcases List.mem_append.1 hx with hx | hx
               · exact hbl x hx
               · obtain rfl := List.mem_singleton.1 hx; have := goP_body _ 0 D0 (Nat.le_add_left _ _) hg; show bd.length ≤ l.length; omega⟩
             · have h1 := ((hS.slots (L' := [(6, v51), (7, .int .i64 bad), (8, .slice (tailP q' n c' 1) ((l.drop p).length - n) (c' - n)), (4, .slice qo rs.length co), (5, .int .i64 (splitG l []).2)]) (by repeat (first | exact trivial | refine ⟨rfl, ?_⟩))).pick (Γ' := [oY (.yes m pa cl bd n) (.slice qa ma ca), bodA ws, ownA 30 4 v51 (ws.length + 1) (ws.flatMap encRQ ++ [.string m, .string pa, .slice qa ma ca, .bool cl]), ownA 35 4 (.slice qo rs.length co) rs.length (rs.flatMap encRQ), bodA rs, oldA w0]) (by repeat (first | exact Pick.nil | (refine Pick.cons (by repeat (first | exact Rem.head | apply Rem.tail)) ?_)))).join (Y := bodA ws) (Z := bodA (ws ++ [(⟨⟨m, pa, cl, bd⟩, .slice qa ma ca⟩ : RQ)])) .head hz (fun b hb => by
                 obtain ⟨x, hx, hb⟩ := hb
                 rcases List.mem_append.1 hx with hx | hx
                 · exact .inr ⟨x, hx, hb⟩
                 · obtain rfl := List.mem_singleton.1 hx; exact .inl hb) (fun _ => ⟨rfl, rfl⟩)
               rw [hb0] at h1
               show St _ _ _ _ _ [(6, v51), (7, .int .i64 0), (8, .slice (tailP q' n c' 1) (l.drop (p + n)).length (c' - n)), (4, .slice qo rs.length co), (5, .int .i64 (splitG l []).2)] [ownA 30 4 v51 (ws ++ [(⟨⟨m, pa, cl, bd⟩, .slice qa ma ca⟩ : RQ)]).length ((ws ++ [(⟨⟨m, pa, cl, bd⟩, .slice qa ma ca⟩ : RQ)]).flatMap encRQ), bodA (ws ++ [(⟨⟨m, pa, cl, bd⟩, .slice qa ma ca⟩ : RQ)]), ownA 35 4 (.slice qo rs.length co) rs.length (rs.flatMap encRQ), bodA rs, oldA w0]
               rw [List.length_append, enc_snoc, show (l.drop (p + n)).length = (l.drop p).length - n by rw [List.length_drop, List.length_drop]; omega]
               exact h1.pick (by repeat (first | exact Pick.nil | (refine Pick.cons (by repeat (first | exact Rem.head | apply Rem.tail)) ?_)))
             · have h1 := hv'.piece (j := n) (k := (l.drop p).length) (by omega) (Nat.le_refl _)
               rw [List.take_length, List.drop_drop] at h1
               show ByAt (.slice (tailP q' n c' 1) (l.drop (p + n)).length (c' - n)) (l.drop (p + n)) w0
               rw [show (l.drop (p + n)).length = (l.drop p).length - n by rw [List.length_drop, List.length_drop]; omega]
               exact h1
             · show _ → splitG (l.drop (p + n)) ((ws ++ [(⟨⟨m, pa, cl, bd⟩, .slice qa ma ca⟩ : RQ)]).map (·.r)) = _
               intro _
               rw [List.map_append, ← hsp, split_yes hne hg, List.drop_drop]; rfl)
        ·
          refine c_seq ?_
          refine c_region ?_
          refine L_op (s_e hS (e_move rfl) rfl ?_); clear hS a; intro a hS
          refine L_op (s_e hS (e_not rfl) rfl ?_); clear hS a; intro a hS
          refine L_nil ?_
          refine n_then ?_
          first | refine c_ifD hS rfl (fun hc47 => ?_) (fun hc47 => ?_) | refine c_if hS rfl (fun hc47 => ?_) (fun hc47 => ?_)
          ·
            obtain ⟨e, hg⟩ : ∃ e, goP (l.drop p) 0 D0 = .no e := by
              cases hg : goP (l.drop p) 0 D0 with
              | no e => exact ⟨e, rfl⟩
              | yes m pa cl bd n => rw [hg] at hc47; cases hc47
            rw [hg] at hc44
            have he0 : e = 0 := Classical.not_not.1 hc44
            have hten : splitG l [] = ([], 10) := by rw [← hsp, split_no hne hg, if_pos he0]
            refine c_region ?_
            refine L_op (s_e hS (e_assign rfl) rfl ?_); clear hS a; intro a hS
            refine L_nil ?_
            refine n_block ?_
            first
            | (have hw := hno
               exact ⟨(p, q', c', ws, wv, e), by show gdN e + (l.length - p) < gdN bad + (l.length - p); rw [hg1, show gdN e = 0 from if_neg he0]; omega, (hS.slots (by repeat (first | exact trivial | refine ⟨rfl, ?_⟩))).pick (by repeat (first | exact Pick.nil | (refine Pick.cons (by repeat (first | exact Rem.head | apply Rem.tail)) ?_))), hv', fun h => absurd h he0, fun _ => hno, hp, hwl, hbl⟩)
            | (have hw := hten
               exact ⟨(p, q', c', ws, wv, 10), by show gdN 10 + (l.length - p) < gdN bad + (l.length - p); rw [hg1, show gdN 10 = 0 by decide]; omega, (hS.slots (by repeat (first | exact trivial | refine ⟨rfl, ?_⟩))).pick (by repeat (first | exact Pick.nil | (refine Pick.cons (by repeat (first | exact Rem.head | apply Rem.tail)) ?_))), hv', fun h => absurd (show (10 : Int) = 0 from h) (by decide), fun _ => hten, hp, hwl, hbl⟩)
            | (have hz : (bodA (ws ++ [(⟨⟨m, pa, cl, bd⟩, .slice qa ma ca⟩ : RQ)])).ok w := bod_ok (fun x hx => by
                 rcases List.mem_append.1 hx with hx | hx
                 · exact hS.get (X := bodA ws) (by repeat constructor) x hx
                 · obtain rfl := List.mem_singleton.1 hx
                   exact hS.ok (oY (.yes m pa cl bd n) (.slice qa ma ca)) (by repeat constructor))
               refine ⟨(p + n, tailP q' n c' 1, c' - n, ws ++ [(⟨⟨m, pa, cl, bd⟩, .slice qa ma ca⟩ : RQ)], v51, 0), by show gdN 0 + (l.length - (p + n)) < gdN bad + (l.length - p); rw [hg1, show gdN 0 = 1 from rfl]; omega, ?_, ?_, ?_, fun h => absurd rfl h, by show p + n ≤ l.length; omega, by simp; omega, fun x hx => by
                 rcases List.mem_append.1 hx with hx | hx
                 · exact hbl x hx
                 · obtain rfl := List.mem_singleton.1 hx; have := goP_body _ 0 D0 (Nat.le_add_left _ _) hg; show bd.length ≤ l.length; omega⟩
               · have h1 := ((hS.slots (L' := [(6, v51), (7, .int .i64 bad), (8, .slice (tailP q' n c' 1) ((l.drop p).length - n) (c' - n)), (4, .slice qo rs.length co), (5, .int .i64 (splitG l []).2)]) (by repeat (first | exact trivial | refine ⟨rfl, ?_⟩))).pick (Γ' := [oY (.yes m pa cl bd n) (.slice qa ma ca), bodA ws, ownA 30 4 v51 (ws.length + 1) (ws.flatMap encRQ ++ [.string m, .string pa, .slice qa ma ca, .bool cl]), ownA 35 4 (.slice qo rs.length co) rs.length (rs.flatMap encRQ), bodA rs, oldA w0]) (by repeat (first | exact Pick.nil | (refine Pick.cons (by repeat (first | exact Rem.head | apply Rem.tail)) ?_)))).join (Y := bodA ws) (Z := bodA (ws ++ [(⟨⟨m, pa, cl, bd⟩, .slice qa ma ca⟩ : RQ)])) .head hz (fun b hb => by
                   obtain ⟨x, hx, hb⟩ := hb
                   rcases List.mem_append.1 hx with hx | hx
                   · exact .inr ⟨x, hx, hb⟩
                   · obtain rfl := List.mem_singleton.1 hx; exact .inl hb) (fun _ => ⟨rfl, rfl⟩)
                 rw [hb0] at h1
                 show St _ _ _ _ _ [(6, v51), (7, .int .i64 0), (8, .slice (tailP q' n c' 1) (l.drop (p + n)).length (c' - n)), (4, .slice qo rs.length co), (5, .int .i64 (splitG l []).2)] [ownA 30 4 v51 (ws ++ [(⟨⟨m, pa, cl, bd⟩, .slice qa ma ca⟩ : RQ)]).length ((ws ++ [(⟨⟨m, pa, cl, bd⟩, .slice qa ma ca⟩ : RQ)]).flatMap encRQ), bodA (ws ++ [(⟨⟨m, pa, cl, bd⟩, .slice qa ma ca⟩ : RQ)]), ownA 35 4 (.slice qo rs.length co) rs.length (rs.flatMap encRQ), bodA rs, oldA w0]
                 rw [List.length_append, enc_snoc, show (l.drop (p + n)).length = (l.drop p).length - n by rw [List.length_drop, List.length_drop]; omega]
                 exact h1.pick (by repeat (first | exact Pick.nil | (refine Pick.cons (by repeat (first | exact Rem.head | apply Rem.tail)) ?_)))
               · have h1 := hv'.piece (j := n) (k := (l.drop p).length) (by omega) (Nat.le_refl _)
                 rw [List.take_length, List.drop_drop] at h1
                 show ByAt (.slice (tailP q' n c' 1) (l.drop (p + n)).length (c' - n)) (l.drop (p + n)) w0
                 rw [show (l.drop (p + n)).length = (l.drop p).length - n by rw [List.length_drop, List.length_drop]; omega]
                 exact h1
               · show _ → splitG (l.drop (p + n)) ((ws ++ [(⟨⟨m, pa, cl, bd⟩, .slice qa ma ca⟩ : RQ)]).map (·.r)) = _
                 intro _
                 rw [List.map_append, ← hsp, split_yes hne hg, List.drop_drop]; rfl)
          ·
            obtain ⟨m, pa, cl, bd, n, hg⟩ : ∃ m pa cl bd n, goP (l.drop p) 0 D0 = .yes m pa cl bd n := by
              cases hg : goP (l.drop p) 0 D0 with
              | no e => rw [hg] at hc47; cases hc47
              | yes m pa cl bd n => exact ⟨m, pa, cl, bd, n, rfl⟩
            rw [hg] at hr hS
            have hnn := goP_n _ 0 D0 (Nat.le_add_left _ _) hg
            injection hr with e1 hr
            injection hr with e2 hr
            injection hr with e3 hr
            injection hr with e4 _
            injection e1 with e1
            injection e2 with e2
            injection e4 with e4
            subst e1; subst e2; subst e3; subst e4
            refine c_seq ?_
            refine c_region ?_
            refine L_op (s_e hS (e_move rfl) rfl ?_); clear hS a; intro a hS
            refine L_op (s_e hS (e_loadA rfl (by repeat constructor) ty_st30 ty_sz30 (by rfl)) rfl ?_); clear hS a; intro a hS
            refine L_op (s_bslice hS ty_sl28 ty_sz30 ty_z30 rfl rfl rfl rfl (.agg rfl rfl .nil) rfl ?_); clear hS a; (try clear w); intro a w b50 hS
            refine L_op (s_append1 hS rfl rfl ty_sl28 ty_sz30 ty_by30 ty_z30 rfl rfl rfl (by repeat constructor) (by repeat constructor) (by rfl) (by rfl) (fun _ => (by repeat constructor)) (by omega) ?_); clear hS a; (try clear w); intro v51 a w hv51 hS
            refine L_op (s_e hS (e_assign rfl) rfl ?_); clear hS a; intro a hS
            refine L_nil ?_
            refine n_then ?_
            refine c_region ?_
            refine L_op (s_e hS (e_move rfl) rfl ?_); clear hS a; intro a hS
            refine L_op (s_e hS (e_move rfl) rfl ?_); clear hS a; intro a hS
            refine L_op (s_e hS (e_slT (j := n) rfl rfl ty_sl22 ty_sz5 (by omega)) rfl ?_); clear hS a; intro a hS
            refine L_op (s_e hS (e_assign rfl) rfl ?_); clear hS a; intro a hS
            refine L_nil ?_
            refine n_block ?_
            first
            | (have hw := hno
               exact ⟨(p, q', c', ws, wv, e), by show gdN e + (l.length - p) < gdN bad + (l.length - p); rw [hg1, show gdN e = 0 from if_neg he0]; omega, (hS.slots (by repeat (first | exact trivial | refine ⟨rfl, ?_⟩))).pick (by repeat (first | exact Pick.nil | (refine Pick.cons (by repeat (first | exact Rem.head | apply Rem.tail)) ?_))), hv', fun h => absurd h he0, fun _ => hno, hp, hwl, hbl⟩)
            | (have hw := hten
               exact ⟨(p, q', c', ws, wv, 10), by show gdN 10 + (l.length - p) < gdN bad + (l.length - p); rw [hg1, show gdN 10 = 0 by decide]; omega, (hS.slots (by repeat (first | exact trivial | refine ⟨rfl, ?_⟩))).pick (by repeat (first | exact Pick.nil | (refine Pick.cons (by repeat (first | exact Rem.head | apply Rem.tail)) ?_))), hv', fun h => absurd (show (10 : Int) = 0 from h) (by decide), fun _ => hten, hp, hwl, hbl⟩)
            | (have hz : (bodA (ws ++ [(⟨⟨m, pa, cl, bd⟩, .slice qa ma ca⟩ : RQ)])).ok w := bod_ok (fun x hx => by
                 rcases List.mem_append.1 hx with hx | hx
                 · exact hS.get (X := bodA ws) (by repeat constructor) x hx
                 · obtain rfl := List.mem_singleton.1 hx
                   exact hS.ok (oY (.yes m pa cl bd n) (.slice qa ma ca)) (by repeat constructor))
               refine ⟨(p + n, tailP q' n c' 1, c' - n, ws ++ [(⟨⟨m, pa, cl, bd⟩, .slice qa ma ca⟩ : RQ)], v51, 0), by show gdN 0 + (l.length - (p + n)) < gdN bad + (l.length - p); rw [hg1, show gdN 0 = 1 from rfl]; omega, ?_, ?_, ?_, fun h => absurd rfl h, by show p + n ≤ l.length; omega, by simp; omega, fun x hx => by
                 rcases List.mem_append.1 hx with hx | hx
                 · exact hbl x hx
                 · obtain rfl := List.mem_singleton.1 hx; have := goP_body _ 0 D0 (Nat.le_add_left _ _) hg; show bd.length ≤ l.length; omega⟩
               · have h1 := ((hS.slots (L' := [(6, v51), (7, .int .i64 bad), (8, .slice (tailP q' n c' 1) ((l.drop p).length - n) (c' - n)), (4, .slice qo rs.length co), (5, .int .i64 (splitG l []).2)]) (by repeat (first | exact trivial | refine ⟨rfl, ?_⟩))).pick (Γ' := [oY (.yes m pa cl bd n) (.slice qa ma ca), bodA ws, ownA 30 4 v51 (ws.length + 1) (ws.flatMap encRQ ++ [.string m, .string pa, .slice qa ma ca, .bool cl]), ownA 35 4 (.slice qo rs.length co) rs.length (rs.flatMap encRQ), bodA rs, oldA w0]) (by repeat (first | exact Pick.nil | (refine Pick.cons (by repeat (first | exact Rem.head | apply Rem.tail)) ?_)))).join (Y := bodA ws) (Z := bodA (ws ++ [(⟨⟨m, pa, cl, bd⟩, .slice qa ma ca⟩ : RQ)])) .head hz (fun b hb => by
                   obtain ⟨x, hx, hb⟩ := hb
                   rcases List.mem_append.1 hx with hx | hx
                   · exact .inr ⟨x, hx, hb⟩
                   · obtain rfl := List.mem_singleton.1 hx; exact .inl hb) (fun _ => ⟨rfl, rfl⟩)
                 rw [hb0] at h1
                 show St _ _ _ _ _ [(6, v51), (7, .int .i64 0), (8, .slice (tailP q' n c' 1) (l.drop (p + n)).length (c' - n)), (4, .slice qo rs.length co), (5, .int .i64 (splitG l []).2)] [ownA 30 4 v51 (ws ++ [(⟨⟨m, pa, cl, bd⟩, .slice qa ma ca⟩ : RQ)]).length ((ws ++ [(⟨⟨m, pa, cl, bd⟩, .slice qa ma ca⟩ : RQ)]).flatMap encRQ), bodA (ws ++ [(⟨⟨m, pa, cl, bd⟩, .slice qa ma ca⟩ : RQ)]), ownA 35 4 (.slice qo rs.length co) rs.length (rs.flatMap encRQ), bodA rs, oldA w0]
                 rw [List.length_append, enc_snoc, show (l.drop (p + n)).length = (l.drop p).length - n by rw [List.length_drop, List.length_drop]; omega]
                 exact h1.pick (by repeat (first | exact Pick.nil | (refine Pick.cons (by repeat (first | exact Rem.head | apply Rem.tail)) ?_)))
               · have h1 := hv'.piece (j := n) (k := (l.drop p).length) (by omega) (Nat.le_refl _)
                 rw [List.take_length, List.drop_drop] at h1
                 show ByAt (.slice (tailP q' n c' 1) (l.drop (p + n)).length (c' - n)) (l.drop (p + n)) w0
                 rw [show (l.drop (p + n)).length = (l.drop p).length - n by rw [List.length_drop, List.length_drop]; omega]
                 exact h1
               · show _ → splitG (l.drop (p + n)) ((ws ++ [(⟨⟨m, pa, cl, bd⟩, .slice qa ma ca⟩ : RQ)]).map (·.r)) = _
                 intro _
                 rw [List.map_append, ← hsp, split_yes hne hg, List.drop_drop]; rfl)
      ·
        refine wp_exit ?_
        refine x_then (x_then (x_hit ?_))
        refine n_then ?_
        refine c_seq ?_
        refine c_seq ?_
        refine c_region ?_
        refine L_op (s_e hS (e_move rfl) rfl ?_); clear hS a; intro a hS
        refine L_op (s_e hS (e_bin rfl rfl rfl) rfl ?_); clear hS a; intro a hS
        refine L_nil ?_
        refine n_then ?_
        first | refine c_ifD hS rfl (fun hc56 => ?_) (fun hc56 => ?_) | refine c_if hS rfl (fun hc56 => ?_) (fun hc56 => ?_)
        ·
          have hsb := hbad hc56
          rw [hsb] at hS hrs
          have hr0 : rs = [] := List.map_eq_nil_iff.1 hrs
          subst hr0
          refine c_seq ?_
          refine c_region ?_
          refine L_op (s_e hS (e_move rfl) rfl ?_); clear hS a; intro a hS
          refine L_op (s_e hS (e_len rfl rfl ty_sl24) rfl ?_); clear hS a; intro a hS
          refine L_op (s_e hS (e_bin rfl rfl rfl) rfl ?_); clear hS a; intro a hS
          refine L_op (s_e hS (e_move rfl) rfl ?_); clear hS a; intro a hS
          replace hS := hS.is (t := 60) (c := true) rfl (rfl)
          refine L_go hS rfl rfl (s_e hS (e_move rfl) rfl ?_); clear hS a; intro a hS
          refine L_go hS rfl rfl (s_callP hS (.cons rfl .nil) cf9 rfl (Num_w bad _) ?_); clear hS a; (try clear w); intro a w hS
          refine L_go hS rfl rfl (s_e hS (e_move rfl) rfl ?_); clear hS a; intro a hS
          refine L_go hS rfl rfl (s_e hS (e_bin rfl rfl rfl) rfl ?_); clear hS a; intro a hS
          first | (refine L_op (s_e hS (e_pick_t rfl rfl) rfl ?_); clear hS a; intro a hS) | (refine L_op (s_e hS (e_pick_f rfl rfl) rfl ?_); clear hS a; intro a hS)
          refine L_op (s_e hS (e_assign rfl) rfl ?_); clear hS a; intro a hS
          refine L_nil ?_
          refine n_then ?_
          refine wp_ret ?_
          refine r_then ?_
          refine c_ret1 hS Tryz.results3 (.tmp rfl) ?_
          exact ⟨by rw [show decide (bad = bad) = true from decide_eq_true rfl], hS.chg⟩
        ·
          have hb0 : bad = 0 := Classical.not_not.1 hc56
          have hnil : l.drop p = [] := List.eq_nil_of_length_eq_zero (by rcases Nat.eq_zero_or_pos (l.drop p).length with h | h; exact h; exact absurd ⟨h, hb0⟩ hc35)
          have hsp := hgo hb0
          rw [hnil, split_nil] at hsp
          rw [← hsp] at hS hrs
          simp only at hS hrs
          have hlen : rs.length = ws.length := by simpa using congrArg List.length hrs
          obtain ⟨qw, cw, rfl⟩ := own_slice (hS.get (X := ownA 30 4 wv ws.length (ws.flatMap encRQ)) (by repeat constructor))
          refine wp_skip ?_
          refine n_then ?_
          refine c_seq ?_
          refine c_seq ?_
          refine c_region ?_
          refine L_op (s_e hS (e_move rfl) rfl ?_); clear hS a; intro a hS
          refine L_op (s_callP hS (.cons rfl .nil) cf9 rfl (Num_w 0 _) ?_); clear hS a; (try clear w); intro a w hS
          refine L_op (s_e hS (e_bin rfl rfl rfl) rfl ?_); clear hS a; intro a hS
          refine L_op (s_e hS (e_move rfl) rfl ?_); clear hS a; intro a hS
          replace hS := hS.is (t := 69) (c := false) rfl ((by decide))
          refine L_go hS rfl rfl (s_e hS (e_move rfl) rfl ?_); clear hS a; intro a hS
          refine L_go hS rfl rfl (s_e hS (e_len rfl rfl ty_sl24) rfl ?_); clear hS a; intro a hS
          refine L_go hS rfl rfl (s_e hS (e_move rfl) rfl ?_); clear hS a; intro a hS
          refine L_go hS rfl rfl (s_e hS (e_len rfl rfl ty_sl28) rfl ?_); clear hS a; intro a hS
          refine L_go hS rfl rfl (s_e hS (e_bin rfl rfl rfl) rfl ?_); clear hS a; intro a hS
          first | (refine L_op (s_e hS (e_pick_t rfl rfl) rfl ?_); clear hS a; intro a hS) | (refine L_op (s_e hS (e_pick_f rfl rfl) rfl ?_); clear hS a; intro a hS)
          refine L_nil ?_
          refine n_then ?_
          replace hS := hS.is (t := 75) (c := false) rfl ((decide_eq_false (by omega)))
          refine c_if_f hS rfl ?_
          refine wp_skip ?_
          refine n_then ?_
          refine c_seq ?_
          refine c_seq ?_
          refine c_region ?_
          refine L_op (s_e hS (e_assign rfl) rfl ?_); clear hS a; intro a hS
          refine L_nil ?_
          refine n_then ?_
          refine wp_block ?_
          skip
          refine c_loop (γ := Nat) (fun k a w => St 92 noB w0 a w [(13, .int .i64 (k : Int)), (4, .slice qo rs.length co), (6, .slice qw ws.length cw)] [ownA 30 4 (.slice qw ws.length cw) ws.length (ws.flatMap encRQ), bodA ws, ownA 35 4 (.slice qo rs.length co) rs.length (rs.flatMap encRQ), bodA rs] ∧ k ≤ rs.length) (fun k => rs.length - k) 0 ⟨(hS.slots (by repeat (first | exact trivial | refine ⟨rfl, ?_⟩))).pick (by repeat (first | exact Pick.nil | (refine Pick.cons (by repeat (first | exact Rem.head | apply Rem.tail)) ?_))), Nat.zero_le _⟩ ?_
          clear hS a; (try clear w); intro k a w hI
          obtain ⟨hS, hk⟩ := hI
          refine c_seq ?_
          refine c_seq ?_
          refine c_region ?_
          refine L_op (s_e hS (e_move rfl) rfl ?_); clear hS a; intro a hS
          refine L_op (s_e hS (e_move rfl) rfl ?_); clear hS a; intro a hS
          refine L_op (s_e hS (e_len rfl rfl ty_sl24) rfl ?_); clear hS a; intro a hS
          refine L_op (s_e hS (e_bin rfl rfl rfl) rfl ?_); clear hS a; intro a hS
          refine L_nil ?_
          refine n_then ?_
          first | refine c_ifD hS rfl (fun hc79 => ?_) (fun hc79 => ?_) | refine c_if hS rfl (fun hc79 => ?_) (fun hc79 => ?_)
          ·
            have hkl : k < rs.length := by omega
            obtain ⟨x, hx⟩ : ∃ x, rs[k]? = some x := ⟨rs[k], by simp⟩
            obtain ⟨y, hy⟩ : ∃ y, ws[k]? = some y := ⟨ws[k]'(by omega), List.getElem?_eq_getElem (by omega)⟩
            have hxy : x.r = y.r := by
              have h1 := congrArg (·[k]?) hrs
              simp only [List.getElem?_map, hx, hy, Option.map_some] at h1
              exact Option.some.inj h1
            obtain ⟨go, rfl⟩ := own_at (hS.get (X := ownA 35 4 (.slice qo rs.length co) rs.length (rs.flatMap encRQ)) (by repeat constructor)) (by omega)
            obtain ⟨gw, rfl⟩ := own_at (hS.get (X := ownA 30 4 (.slice qw ws.length cw) ws.length (ws.flatMap encRQ)) (by repeat constructor)) (by omega)
            refine wp_skip ?_
            refine n_then ?_
            refine c_seq ?_
            refine wp_block ?_
            refine c_seq ?_
            refine c_drawS [] (by kernel_rfl) hS (sub_cons (X := ownA 30 4 (.slice (some ⟨gw, 0, none⟩) ws.length cw) ws.length (ws.flatMap encRQ)) (by repeat constructor) (sub_cons (X := bodA ws) (by repeat constructor) (sub_cons (X := ownA 35 4 (.slice (some ⟨go, 0, none⟩) rs.length co) rs.length (rs.flatMap encRQ)) (by repeat constructor) (sub_cons (X := bodA rs) (by repeat constructor) sub_nil)))) ?_; clear hS; (try clear w); intro w hS
            simp only [List.length_cons, List.length_nil, Nat.zero_add, Nat.reduceAdd, List.replicate]
            refine Z_take0 (i := 0) hS rfl want_none (e_move rfl) (listed' := [true, false, false, false, false, false, false, false, false, false]) rfl (by kernel_rfl) (by kernel_rfl) (by kernel_rfl) (fun _ _ _ h => h) rfl ?_; clear hS a; intro a hS
            refine Z_take0 (i := 1) hS rfl want_none (e_move rfl) (listed' := [true, true, false, false, false, false, false, false, false, false]) rfl (by kernel_rfl) (by kernel_rfl) (by kernel_rfl) (fun _ _ _ h => h) rfl ?_; clear hS a; intro a hS
            refine Z_take0 (i := 2) hS rfl want_none (e_ixN rfl rfl ty_sl24 ty_sz35 (by omega)) (listed' := [true, true, true, false, false, false, false, false, false, false]) rfl (by kernel_rfl) (by kernel_rfl) (by kernel_rfl) (fun _ _ _ h => h) rfl ?_; clear hS a; intro a hS
            refine Z_take (i := 3) hS rfl want_none (e_loadAC (l := encRQ x) rfl ty_st35 ty_sz35 (own_get (enc := encRQ) (s := 4) (fun _ => rfl) (by repeat constructor) hx)) (listed' := [true, true, true, true, false, false, false, false, false, false]) rfl (by kernel_rfl) (by kernel_rfl) (by kernel_rfl) (by kernel_rfl) (by kernel_rfl) (sub_cons (by repeat constructor) (sub_cons (by repeat constructor) (sub_cons (by repeat constructor) (sub_cons (by repeat constructor) sub_nil)))) (fun _ _ _ h => h) rfl ?_; clear hS a; intro a hS
            refine Z_take0 (i := 4) hS rfl want_none (e_move rfl) (listed' := [true, true, true, true, true, false, false, false, false, false]) rfl (by kernel_rfl) (by kernel_rfl) (by kernel_rfl) (fun _ _ _ h => h) rfl ?_; clear hS a; intro a hS
            refine Z_take0 (i := 5) hS rfl want_none (e_move rfl) (listed' := [true, true, true, true, true, true, false, false, false, false]) rfl (by kernel_rfl) (by kernel_rfl) (by kernel_rfl) (fun _ _ _ h => h) rfl ?_; clear hS a; intro a hS
            refine Z_take0 (i := 6) hS rfl want_none (e_ixN rfl rfl ty_sl28 ty_sz30 (by omega)) (listed' := [true, true, true, true, true, true, true, false, false, false]) rfl (by kernel_rfl) (by kernel_rfl) (by kernel_rfl) (fun _ _ _ h => h) rfl ?_; clear hS a; intro a hS
            refine Z_take (i := 7) hS rfl want_none (e_loadAC (l := encRQ y) rfl ty_st30 ty_sz30 (own_get (enc := encRQ) (s := 4) (fun _ => rfl) (by repeat constructor) hy)) (listed' := [true, true, true, true, true, true, true, true, false, false]) rfl (by kernel_rfl) (by kernel_rfl) (by kernel_rfl) (by kernel_rfl) (by kernel_rfl) (sub_cons (by repeat constructor) (sub_cons (by repeat constructor) (sub_cons (by repeat constructor) (sub_cons (by repeat constructor) sub_nil)))) (fun _ _ _ h => h) rfl ?_; clear hS a; intro a hS
            have hbx := by_of_own (hS.get (X := bodA rs) (by repeat constructor) x (List.mem_of_getElem? hx))
            have hby := by_of_own (hS.get (X := bodA ws) (by repeat constructor) y (List.mem_of_getElem? hy))
            rw [← hxy] at hby
            rw [show encRQ y = encRQ ⟨x.r, y.v⟩ by rw [hxy]] at hS
            refine Z_one (i := 8) rfl (want_none a hS.sl) (listed' := [true, true, true, true, true, true, true, true, true, false]) rfl (by kernel_rfl) (s_callP hS (.cons rfl (.cons rfl .nil)) cf10 rfl (hSame_P x.r x.v y.v (by have := hbl y (List.mem_of_getElem? hy); rw [← hxy] at this; omega) _ hbx hby) ?_); clear hS a; (try clear w); intro a w hS
            refine Z_and hS (sub_cons (by repeat constructor) (sub_cons (by repeat constructor) (sub_cons (by repeat constructor) (sub_cons (by repeat constructor) sub_nil)))) ?_
            refine Z_take0 (i := 9) hS rfl want_none (e_not rfl) (listed' := [true, true, true, true, true, true, true, true, true, true]) rfl (by kernel_rfl) (by kernel_rfl) (by kernel_rfl) (fun _ _ _ h => h) rfl ?_; clear hS a; intro a hS
            refine Z_done (by kernel_rfl) ?_
            refine n_then ?_
            replace hS := hS.is (t := 91) (c := false) rfl (rfl)
            refine c_if_f hS rfl ?_
            refine wp_skip ?_
            refine n_block ?_
            refine n_then ?_
            refine c_region ?_
            refine L_op (s_e hS (e_move rfl) rfl ?_); clear hS a; intro a hS
            first | (refine L_op (s_e hS (e_binN rfl rfl rfl (by omega)) rfl ?_); clear hS a; intro a hS) | (refine L_op (s_e hS (e_bin rfl rfl rfl) rfl ?_); clear hS a; intro a hS)
            refine L_op (s_e hS (e_assign rfl) rfl ?_); clear hS a; intro a hS
            refine L_nil ?_
            exact ⟨k + 1, by omega, (hS.slots (by repeat (first | exact trivial | refine ⟨rfl, ?_⟩))).pick (by repeat (first | exact Pick.nil | (refine Pick.cons (by repeat (first | exact Rem.head | apply Rem.tail)) ?_))), by omega⟩
          ·
            refine wp_exit ?_
            refine x_then (x_then (x_hit ?_))
            refine n_then ?_
            refine c_seq ?_
            refine c_region ?_
            refine L_op (s_e hS (e_assign rfl) rfl ?_); clear hS a; intro a hS
            refine L_nil ?_
            refine n_then ?_
            refine wp_ret ?_
            refine c_ret1 hS Tryz.results3 (.tmp rfl) ?_
            exact ⟨rfl, hS.chg⟩
end Go.Proofs.YtjmkjkhcognoeaaGreatDoor

namespace Go.Proofs.YtjmkjkhcognoeaaGreatDoor.Open
set_option maxRecDepth 100000
open Go.ChangeShapes Go.WideShapes Go.Deep
section
variable {H : Type} {enc : TypeId × Value → H} {P : Program} {w : World} {base : Nat} {spare : Nat → Bool} {held : Bool}
end

section
variable {H : Type} {enc : TypeId × Value → H}
theorem shape_lt {w : World} {b : Nat} {x : TypeId × Nat} (h : w.shape? b = some x) : b < w.heap.size := by
  unfold World.shape? at h
  by_cases hb : b < w.heap.size
  · exact hb
  · rw [Array.getElem?_eq_none (by omega)] at h; cases h

theorem add_spot {a : Addr} (h : a.spot = none) (n : Nat) : a.add n = ⟨a.block, a.off + n, none⟩ := by
  unfold Addr.add
  split
  · next h0 => subst h0; cases a; simp_all
  · rfl


end
end Go.Proofs.YtjmkjkhcognoeaaGreatDoor.Open

namespace Go.Proofs.YtjmkjkhcognoeaaGreatDoor.Open
set_option maxRecDepth 100000
open Go.ChangeShapes Go.WideShapes Go.Deep
section
variable {H : Type} {enc : TypeId × Value → H}
theorem bytesU8 : Tryz.prog.bytesOf 5 = 1 := by kernel_rfl
theorem oneU8 : Tryz.prog.cellsOf 5 = 1 := by kernel_rfl
theorem open_bytes {W : World} {base : Nat} {v : Value} {d : DataW H} {pl : List MemPlace} (hval : Value.okWide Tryz.prog W .any base 22 v) (h : DataW.Trod enc Tryz.prog W 0 (fun _ => true) true 22 v d pl) (hw : ∀ n ∈ d.weights Tryz.prog 22, n ≤ reachBytes) :
    ∃ (q : Option Addr) (c : Nat) (l : List Int), v = .slice q l.length c ∧ ByAt (.slice q l.length c) l W ∧ l.length ≤ 4611686018427387904 := by
  obtain ⟨fuel, hf⟩ := h
  have hu := Tryz.underlying22
  have hsl : ∃ a len cap, v = .slice a len cap := okWide_slice hu hval
  obtain ⟨a0, len0, cap0, rfl⟩ := hsl
  rcases open_slice hu hf with ⟨hc, _⟩ | ⟨a, len, cap, m, n, D, Pl, hc, hlc, hl, hm, hmm, hx, hi⟩
  · simp only [Value.cells, List.cons.injEq, and_true] at hc
    rw [hc]
    exact ⟨none, 0, [], rfl, .inl ⟨rfl, _, _, rfl⟩, by simp⟩
  · simp only [Value.cells, List.cons.injEq, and_true] at hc
    rw [hc]
    have hx : d = _ := congrArg (·.1) hx
    simp only at hx
    simp only [if_true] at hmm
    rw [hmm] at hx hi
    have each : ∀ i, i < len → ∃ s : Int, W.cell? (a.add i) = some (.int .u8 s) := by
      intro i hil
      obtain ⟨cs', hcs, htr⟩ := hi i (by omega)
      rw [oneU8, Nat.mul_one] at hcs
      obtain ⟨s, rfl, _, _⟩ := DataW.trod_int Tryz.underlying5 htr
      obtain ⟨_, _, hat⟩ := World.cells?_some hcs
      have := hat (i := 0) (by decide)
      rw [show (a.add i).add 0 = a.add i by unfold Addr.add; rfl] at this
      exact ⟨s, this⟩
    have hlen : (len + (cap - len)) * 1 ≤ reachBytes := by
      have := hw ((len + (cap - len)) * Tryz.prog.bytesOf 5) (by rw [hx]; simp [DataW.weights, hu])
      rwa [bytesU8] at this
    simp only [reachBytes] at hlen
    obtain ⟨f, hfn⟩ := choose_lt each
    have hll : ((List.range len).map f).length = len := by simp
    have hlcap : len ≤ cap := by omega
    refine ⟨some a, cap, (List.range len).map f, by rw [hll], ?_, by rw [hll]; omega⟩
    rw [hll]
    by_cases h0 : len = 0
    · subst h0; exact .inl ⟨rfl, _, _, rfl⟩
    · have hc0 := hfn 0 (by omega)
      have e0 : a.add 0 = a := by unfold Addr.add; rw [if_pos rfl]
      rw [e0] at hc0
      obtain ⟨_, _, hsh, _, hsp⟩ := World.shape?_of_cell? hc0
      have hlt : a.block < W.heap.size := shape_lt hsh
      refine .inr ⟨a.block, a.off, cap, ?_, ?_, by rw [hll]; exact hlcap, ?_, hlt⟩
      · intro e
        have := congrArg List.length e
        simp at this; omega
      · cases a
        simp only at hsp
        subst hsp
        simp
      · intro i x hx
        simp only [List.getElem?_map, Option.map_eq_some_iff] at hx
        obtain ⟨k, hk, rfl⟩ := hx
        obtain ⟨hk1, hk2⟩ := List.getElem?_eq_some_iff.1 hk
        simp only [List.length_range] at hk1
        simp only [List.getElem_range] at hk2
        subst hk2
        have := hfn i hk1
        rw [add_spot hsp] at this
        exact this
end
end Go.Proofs.YtjmkjkhcognoeaaGreatDoor.Open

namespace Go.Proofs.YtjmkjkhcognoeaaGreatDoor
theorem handed_and_shaped {H : Type} {enc : TypeId × Value → H} {a : Assume} {C : Checked} {os : Os} {f : FuncId} {fn : Func} {s : ChangeSpec} {conds : List PathCond} {apart fresh handsOn again : Bool} {X : World → Array Value → Prop}
    (hX : ∀ (w w' : World) (args : Array Value), w.heap = w'.heap → X w args → X w' args)
    (own : ownKnob C.prog.godebug = none) (started : os.Started) (noInit : C.prog.inits.idxOf? f = none) (hfn : C.prog.funcs[f]? = some fn)
    (witness : ∃ (w : World) (tape : Tape) (i : Input), w.os = os ∧ (w.forCall tape i).Shaped C.prog ∧ i.vars = [] ∧ Input.okWide C.prog (w.forCall tape i) .any w.heap.size f i ∧
      ((s.pre enc C.prog fn conds apart (w.forCall tape i).memory i.args ∧ X (w.forCall tape i).memory i.args) ∧ sizedMet enc C.prog fn (OpenSpec.ofChange s) apart (w.forCall tape i).memory i.args) ∧ a.holds C.prog (lone (Frame.enter C.prog f i.args .normal) [] (w.forCall tape i)))
    (contract : ∀ (W : World) (base : Nat) (args : Array Value) (ds gs : List (DataW H)) (before : List MemPlace),
      (∀ (j : Nat) t v, fn.params[j]? = some t → args[j]? = some v → Value.okWide C.prog W .any base t v) →
      DataW.Whole enc C.prog fn.params.toList s.vars apart W args.toList ds gs before →
      conds.all (PathCond.test C.prog ⟨fn.params.toList, ds, s.plain.varTypes C.prog, gs⟩) = true →
      (DataW.weightsEach C.prog (fn.params.toList ++ s.plain.varTypes C.prog) (ds ++ gs)).all (· ≤ reachBytes) = true → X W args → W.ShapedOpen C.prog →
      a.holds C.prog (lone (Frame.enter C.prog f args .normal) [] W) →
      Calls C.prog f args W fun e W' => ∃ v, e = .returned v ∧ s.post enc C.prog fn apart fresh handsOn again W args v W') :
    ReturnsInHanded a C os f .any (fun w args => (s.pre enc C.prog fn conds apart w args ∧ X w args) ∧ sizedMet enc C.prog fn (OpenSpec.ofChange s) apart w args) (s.post enc C.prog fn apart fresh handsOn again) := by
  refine returnsInHanded_of_calls own started noInit witness ?_
  intro w tape i _ hsh _ hok hpre hholds
  obtain ⟨_, _, _, fn', hfn', _, _, _, _, hval⟩ := hok
  have e : fn' = fn := Option.some.inj (hfn'.symm.trans hfn)
  subst e
  obtain ⟨⟨⟨ds, gs, before, hw, hc⟩, hx⟩, hz⟩ := hpre
  have hw' := DataW.Whole.of_heap (w' := w.forCall tape i) (by rfl) hw
  refine (contract (w.forCall tape i) w.heap.size i.args ds gs before hval hw' hc (hz.weights hw) (hX _ _ _ (by rfl) hx) hsh hholds).mono fun e W' ⟨v, he, hp⟩ => ?_
  subst he
  exact ChangeSpec.post_blind hp
theorem maxLen_any {w : World} (h : w.ShapedOpen Tryz.prog) : ∃ m, w.cell? ⟨1, 0, none⟩ = some (.int .i64 m) :=
  cell_of_shapedOpen_int (zero := #[.int .i64 0]) h (of_decide_eq_true (by kernel_rfl)) (by kernel_rfl) (by kernel_rfl) (by kernel_rfl) (by kernel_rfl) Tryz.underlying3
end Go.Proofs.YtjmkjkhcognoeaaGreatDoor

namespace Go.Proofs.YtjmkjkhcognoeaaGreatDoor
open Go.Lib
theorem gER : Tryz.prog.globalNamed "strconv.ErrRange" = some 3 := by kernel_rfl
theorem starES : "*" ++ "errors.errorString" = "*errors.errorString" := by decide
theorem rowES (u : TypeId) (h : Tryz.prog.typeName? 3 u = some "*errors.errorString") : u = 200 :=
  typeName_ptr_named (nm := "errors.errorString") (by rw [starES]; kernel_rfl) (by kernel_rfl) (by decide) u (by rw [starES]; exact h)
set_option maxRecDepth 100000 in
theorem gl_of {W : World} (hsh : W.ShapedOpen Tryz.prog) (hl : laidMetH Tryz.prog Rows.poolSplitsRow.laid W) : Gl W := by
  have hL : laidMet Tryz.prog Rows.poolSplitsRow.laid W := by rwa [MakeChecks.laidMetH_plain _ _ _ (by kernel_rfl)] at hl
  refine ⟨maxLen_any hsh, ?_, ?_, ?_⟩
  · exact caseVar_of_reads (ρ := Tryz.lays159_ren) { Tryz.lays159 with } Tryz.lays159.t206 ⟨by kernel_rfl, by kernel_rfl, by kernel_rfl, by kernel_rfl, by kernel_rfl, by kernel_rfl⟩ (Lib.laidMet.reads hL (.tail _ (.tail _ (.tail _ (.tail _ (.tail _ (.tail _ (.head _))))))))
  · exact utf8Tabs_of_reads (ρ := Tryz.lays159_ren) { Tryz.lays159 with } ⟨by kernel_rfl, by kernel_rfl, by kernel_rfl, by kernel_rfl, by kernel_rfl, by kernel_rfl, by kernel_rfl⟩ (Lib.laidMet.reads hL (.tail _ (.tail _ (.tail _ (.tail _ (.tail _ (.tail _ (.tail _ (.head _))))))))) (Lib.laidMet.reads hL (.tail _ (.tail _ (.tail _ (.head _)))))
  · obtain ⟨a1, s1, hv1, -, -, -⟩ := laid_sentinel (tp := 200) hL.tail.tail.tail.tail gER (ti := 132) (by kernel_rfl) Tryz.underlying132 rowES Tryz.underlying200 Tryz.underlying202 rfl rfl Tryz.underlying9 (by kernel_rfl) (by kernel_rfl)
    exact ⟨_, by have h0 := World.var?_cell gER hv1 0; simpa using h0, .inr ⟨_, _, rfl⟩⟩
end Go.Proofs.YtjmkjkhcognoeaaGreatDoor

namespace Go.Proofs.YtjmkjkhcognoeaaGreatDoor.poolSplits
open Go.ChangeShapes Go.WideShapes Go.ChangeAt Go.RowKit Go.Joins
open Go.ChangeMaps (open_string shut_string)

theorem own : ownKnob Tryz.prog.godebug = none := by kernel_rfl
theorem laidOut : laidOutB Tryz.prog = true := by kernel_rfl

set_option maxRecDepth 100000 in
theorem lifted (os : Os) (started : os.Started) (H : Type) (enc : TypeId × Value → H) :
    ReturnsInHanded {} Tryz.checked os 3 .any (fun w args => (Rows.poolSplitsSpec.pre enc Tryz.prog Tryz.f3 Rows.poolSplitsRow.domain false w args ∧ laidMetH Tryz.prog Rows.poolSplitsRow.laid w) ∧ sizedMet enc Tryz.prog Tryz.f3 (OpenSpec.ofChange Rows.poolSplitsSpec) false w args)
      (Rows.poolSplitsSpec.post enc Tryz.prog Tryz.f3 false true false false) := by
  refine handed_and_shaped (C := Tryz.checked) (X := fun w _ => laidMetH Tryz.prog Rows.poolSplitsRow.laid w) (fun _ _ _ hh h => h.of_heap hh) own started (by kernel_rfl) Tryz.func3
    (ChangeSpec.witness_shaped (enc := enc) (C := Tryz.checked) (os := os) (X := fun w _ => laidMetH Tryz.prog Rows.poolSplitsRow.laid w) false (World.laidAll Tryz.prog os Rows.poolSplitsRow.laid) #[.slice none 0 0] 8 (World.laidAll_os _ _ _)
      (World.shaped_of_ZipB (by kernel_rfl) (by kernel_rfl)) (by kernel_rfl) (by kernel_rfl) (by kernel_rfl)
      (by rw [MakeChecks.laidMetH_plain _ _ _ (by kernel_rfl)]; exact laidMet_laidAll _ (by kernel_rfl) (by kernel_rfl))) ?_
  intro W base args ds gs before hval0 hW hcnd hsz0 hlaid hsh _
  have hval : ∀ (j : Nat) t v, Tryz.f3.params[j]? = some t → args[j]? = some v → Value.okWide Tryz.prog W .any base t v := hval0
  have hW' := hW
  obtain ⟨p, q, hA0, hV, rfl, hfz, hnd⟩ := hW
  have hsz : (DataW.weightsEach Tryz.prog (Tryz.f3.params.toList ++ Rows.poolSplitsSpec.plain.varTypes Tryz.prog) (ds ++ gs)).all (· ≤ reachBytes) = true := hsz0
  have hA : DataW.TrodAll enc Tryz.prog W 0 (fun _ => true) true Tryz.f3.params.toList args.toList ds p := hA0
  rw [Tryz.params3] at hA hval hsz
  obtain ⟨v0, vs0, d0, ds0, p0, q0, hargs, rfl, rfl, h0, r0⟩ := trodAll_cons hA
  obtain ⟨rfl, rfl, rfl⟩ := trodAll_nil r0
  obtain rfl : args = #[v0] := by cases args; simp_all
  obtain ⟨rfl, rfl⟩ := trodVars_none hV
  have k0 := h0
  have lt0 : ∀ x ∈ p0, x.block < W.heap.size := by obtain ⟨m, hm⟩ := k0; exact DataW.trod_lt m _ _ _ hm
  have z0 : ∀ n ∈ d0.weights Tryz.prog 22, n ≤ reachBytes := fun n hn => by simpa using List.all_eq_true.1 hsz n (DataW.weights_mem_each (j := 0) (t := 22) (d := d0) rfl rfl n hn)
  obtain ⟨s0, c0, l0, rfl, e0, f0⟩ := Open.open_bytes (hval 0 22 v0 rfl rfl) h0 z0
  obtain ⟨mx, hmx⟩ := maxLen_any hsh
  have hw := PoolSplits_P s0 c0 l0 f0 W (gl_of hsh hlaid) e0
  clear hA0 hval0
  refine hw.mono fun e W' ⟨he, hchg⟩ => ?_
  have bel := hchg.below
  subst he
  exact ⟨_, rfl, _, _, _, [], _, [], hW', trodAll_mk1 (shut_bool Tryz.underlying4 _), (trodAll_cons_mk (Below.trod laidOut (by kernel_rfl) (of_decide_eq_true (by kernel_rfl)) k0 bel lt0) trodAll_mk0), rfl, bel.frame _, fun h => by cases h⟩

theorem over : Rows.poolSplitsRow.holds Tryz.pinned (OpenSpec.ofChange Rows.poolSplitsSpec) :=
  OpenClaim.holds_of_wide 3 Tryz.f3 rfl rfl rfl rfl rfl rfl rfl ⟨rfl, rfl, rfl, rfl, rfl⟩ rfl rfl rfl rfl rfl (by kernel_rfl) Tryz.func3 (by kernel_rfl)
    (of_decide_eq_true (by kernel_rfl)) (by unfold Func.isWrapper; first | (rw [if_pos (by decide +kernel)]; kernel_rfl) | (rw [if_neg (by decide +kernel)]; exact ⟨rfl, rfl⟩))
    (fun os started H enc _ => lifted os started H enc)

theorem proved : Rows.PoolSplitsCardSaid :=
  Claim7.holds_tied_plain_at .later [] Rows.poolSplitsCard.laidKinds true Rows.poolSplitsCard.stood.harness true over (fun _ h => by cases h) (by kernel_rfl) (fun _ h => by cases h) poolSplits_row_tie rfl ⟨rfl, rfl⟩ (by kernel_rfl) rfl
    (fun f fn hf hfn => by
      obtain rfl : f = 3 := Option.some.inj ((show Tryz.prog.funcNamed Rows.poolSplitsRow.func = some 3 by kernel_rfl).symm.trans hf) |>.symm
      obtain rfl : fn = Tryz.f3 := (Option.some.inj (Tryz.func3.symm.trans hfn)).symm
      exact ⟨by kernel_rfl, fun j t ht => by
        have hm : t ∈ Tryz.f3.params.toList := by simpa using Array.mem_of_getElem? ht
        have hall : (Tryz.f3.params.toList.all fun u => !Tryz.prog.wantsStandIn u) = true := by kernel_rfl
        exact (show Tryz.prog.wantsStandIn t = false by simpa using List.all_eq_true.1 hall t hm)⟩)
    (by kernel_rfl)
end Go.Proofs.YtjmkjkhcognoeaaGreatDoor.poolSplits
