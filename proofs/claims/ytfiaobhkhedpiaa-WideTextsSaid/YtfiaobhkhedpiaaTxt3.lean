/- A number's text read by the reference, walked. -/
import Derived.Test.YtfiaobhkhedpiaaNum2
import Derived.Test.YtfiaobhkhedpiaaBig2
import Derived.Test.YtfiaobhkhedpiaaSe8
namespace Go.Proofs.Ytfiaobhkhedpiaa
open Go.RowKit

section
variable {P : Program} {n : Nat} {a : Act} {L : List (Nat × Value)} {Γ : List Asn} {dst : Option Nat} {ty : Nat} {pos : String} {af : Array Edge} {g : Option (Nat × Bool)} {x y : Operand}
theorem e_max {ts : Array TypeId} {k k' : IntKind} {i j : Int} (hx : ev L x = some (.int k i)) (hy : ev L y = some (.int k' j)) : Ex P n a L Γ ⟨dst, .call ⟨.builtin .max, #[x, y], ts⟩, ty, pos, af, g⟩ (.int k (if j > i then j else i)) := fun hs w _ => by
  simp [execOp, resolve, invoke, builtin, run_max_int2, hs.ev hx, hs.ev hy]
end
theorem fold_add : ∀ (b : List UInt8) (x : Nat), b.foldl dvStep x = x * 10 ^ b.length + b.foldl dvStep 0
  | [], x => by simp
  | c :: r, x => by
    rw [List.foldl_cons, List.foldl_cons, fold_add r (dvStep x c), fold_add r (dvStep 0 c), List.length_cons, Nat.pow_succ]
    unfold dvStep
    rw [← Nat.add_assoc, Nat.mul_zero, Nat.zero_add, Nat.add_mul, Nat.mul_comm (10 ^ r.length) 10, ← Nat.mul_assoc, Nat.mul_comm x 10]
theorem dv_append (a b : List UInt8) : dv (a ++ b) = dv a * 10 ^ b.length + dv b := by
  unfold dv
  rw [List.foldl_append]; exact fold_add b _
theorem dv_lt {l : List UInt8} (h : ∀ j, j < l.length → byteAt l j ≤ 57) : ∀ k, k ≤ l.length → dv (l.take k) < 10 ^ k
  | 0, _ => by simp [dv]
  | k + 1, hk => by
    have h1 := dv_lt h k (by omega)
    have h2 := h k (by omega)
    rw [dv_succ (by omega), Nat.pow_succ]; omega
theorem byteAt_drop (l : List UInt8) (f j : Nat) : byteAt (l.drop f) j = byteAt l (f + j) := by
  unfold byteAt; rw [List.getD_eq_getElem?_getD, List.getD_eq_getElem?_getD, List.getElem?_drop]
theorem byteAt_take {l : List UInt8} {m j : Nat} (h : j < m) : byteAt (l.take m) j = byteAt l j := by
  unfold byteAt; rw [List.getD_eq_getElem?_getD, List.getD_eq_getElem?_getD, List.getElem?_take_of_lt h]
theorem take_list (s : ByteArray) (k : Nat) : (s.extract 0 k).data.toList = s.data.toList.take k := by
  simp only [ByteArray.data_extract, Array.toList_extract, List.extract_eq_take_drop, List.drop_zero, Nat.sub_zero]
/-- one digit in base 10000 more. -/
theorem nv_dv {B : List UInt8} {l : List Int} {m : Nat} (hm : m ≤ B.length) (h : nv l + 10000 ^ l.length * (dv (B.take m) : Int) = dv B) :
    nv (l ++ [(dv ((B.take m).drop (m - 4)) : Int)]) + 10000 ^ (l ++ [(dv ((B.take m).drop (m - 4)) : Int)]).length * (dv (B.take (m - 4)) : Int) = dv B := by
  rw [nv_snoc, ← h, List.length_append, List.length_singleton, Int.pow_succ]
  have e0 : (B.take m).take (m - 4) ++ (B.take m).drop (m - 4) = B.take m := List.take_append_drop _ _
  rw [List.take_take, show min (m - 4) m = m - 4 by omega] at e0
  have e1 := dv_append (B.take (m - 4)) ((B.take m).drop (m - 4))
  rw [e0, List.length_drop, List.length_take, show min m B.length = m by omega] at e1
  by_cases h4 : 4 ≤ m
  · rw [show m - (m - 4) = 4 by omega] at e1
    rw [e1]
    generalize (10000 : Int) ^ l.length = P
    generalize dv (B.take (m - 4)) = u
    generalize dv ((B.take m).drop (m - 4)) = v
    have e2 : ((u * 10 ^ 4 + v : Nat) : Int) = (u : Int) * 10000 + v := by omega
    rw [e2, Int.mul_add, Int.mul_assoc, Int.mul_comm 10000 (u : Int)]; omega
  · rw [show m - 4 = 0 by omega] at e1 ⊢
    have e3 : dv (B.take 0) = 0 := rfl
    rw [e3, Nat.zero_mul, Nat.zero_add] at e1
    rw [e3, ← e1]; simp

set_option maxHeartbeats 1000000 in
set_option maxRecDepth 100000 in
theorem BigParse_no (s : ByteArray) (hs : s.size ≤ 1000) (hF : ¬ NumForm s.data.toList) (w0 : World) : PureC Try.prog 32 [.string s] w0 (.tuple [bigV 0 none 0, .bool false].toArray) := by
  have big_none' : bigV 0 none 0 = .agg [.bool false, .slice none 0 0].toArray := by
    unfold bigV
    rw [show (0 : Int).natAbs = 0 from rfl, dgs_zero]; rfl
  rw [big_none']
  refine c_enter [(0, .string s)] [] noB Try.func32 rfl Try.ntmps32 ⟨rfl, trivial⟩ rfl (by simp) (by simp) (by simp) ?_
  intro a hS
  refine c_seq ?_
  refine c_region ?_
  refine L_op (s_alloc hS ty_z47 rfl ?_); clear hS a; (try clear w); intro a w b2 hS
  refine L_op (s_e hS (e_assign rfl) rfl ?_); clear hS a; intro a hS
  refine L_nil ?_
  refine n_then ?_
  refine c_seq ?_
  refine c_region ?_
  refine L_op (s_e hS (e_move rfl) rfl ?_); clear hS a; intro a hS
  refine L_op (s_callP hS (.cons rfl .nil) cf86 rfl (NumberForm_P s (by omega) _) ?_); clear hS a; (try clear w); intro a w hS
  refine L_op (s_e hS (e_assign rfl) rfl ?_); clear hS a; intro a hS
  refine L_nil ?_
  refine n_then ?_
  refine c_seq ?_
  refine c_seq ?_
  refine c_region ?_
  refine L_op (s_e hS (e_move rfl) rfl ?_); clear hS a; intro a hS
  refine L_op (s_e hS (e_not rfl) rfl ?_); clear hS a; intro a hS
  refine L_nil ?_
  refine n_then ?_
  replace hS := hS.is (t := 13) (c := true) rfl ((by rw [decide_eq_false hF]; rfl))
  refine c_if_t hS rfl ?_
  refine c_seq ?_
  refine c_region ?_
  refine L_op (s_e hS (e_build ty_z47 ty_pl47 .nil) rfl ?_); clear hS a; intro a hS
  refine L_op (s_storeA hS rfl rfl ty_sz47 (by repeat constructor) (by rfl) (by rfl) (by rfl) ?_); clear hS; (try clear w); intro w hS
  refine L_op (s_e hS (e_assign rfl) rfl ?_); clear hS a; intro a hS
  refine L_nil ?_
  refine n_then ?_
  refine wp_ret ?_
  refine r_then ?_
  refine c_retN hS Try.results32 (.cons (.cellA rfl (by repeat constructor) ty_st47 ty_sz47 (by rfl)) (.cons (.tmp rfl) .nil)) rfl ?_
  exact ⟨rfl, hS.chg⟩

set_option maxHeartbeats 1000000 in
set_option maxRecDepth 100000 in
theorem BigParse_yes (s : ByteArray) (hs : s.size ≤ 1000) (hF : NumForm s.data.toList) (w0 : World) :
    NewC Try.prog 32 [.string s] w0 (fun y : At (numVal s.data.toList) => .tuple [bigV (numVal s.data.toList) (some (y.1.1, 0)) y.1.2, .bool true].toArray) (fun y => bigA (numVal s.data.toList) y.1.1) := by
  have hl := size_list s
  have hpos : 0 < s.size := by
    have h1 := hF.1
    by_cases h0 : s.size = 0
    · have : s.data.toList = [] := List.eq_nil_of_length_eq_zero (by omega)
      rw [this] at h1
      exact absurd rfl h1
    · omega
  have hneg : byteAt s.data.toList 0 = 45 → 1 < s.data.toList.length := by
    intro h1
    by_cases h2 : 1 < s.data.toList.length
    · exact h2
    · have h3 : numBody s.data.toList = s.data.toList := by unfold numBody; rw [if_neg (by omega)]
      have h4 := hF.2.2.2 0 (by rw [h3]; omega)
      rw [h3] at h4
      omega
  obtain ⟨B, hB⟩ : ∃ B, B = numBody s.data.toList := ⟨_, rfl⟩
  have hF4 := hF.2.2.2
  rw [← hB] at hF4
  have hBs : B.length ≤ s.size := by
    rw [hB]; unfold numBody; split
    · rw [List.length_drop]; omega
    · omega
  refine c_enter [(0, .string s)] [] noB Try.func32 rfl Try.ntmps32 ⟨rfl, trivial⟩ rfl (by simp) (by simp) (by simp) ?_
  intro a hS
  refine c_seq ?_
  refine c_region ?_
  refine L_op (s_alloc hS ty_z47 rfl ?_); clear hS a; (try clear w); intro a w b2 hS
  refine L_op (s_e hS (e_assign rfl) rfl ?_); clear hS a; intro a hS
  refine L_nil ?_
  refine n_then ?_
  refine c_seq ?_
  refine c_region ?_
  refine L_op (s_e hS (e_move rfl) rfl ?_); clear hS a; intro a hS
  refine L_op (s_callP hS (.cons rfl .nil) cf86 rfl (NumberForm_P s (by omega) _) ?_); clear hS a; (try clear w); intro a w hS
  refine L_op (s_e hS (e_assign rfl) rfl ?_); clear hS a; intro a hS
  refine L_nil ?_
  refine n_then ?_
  refine c_seq ?_
  refine c_seq ?_
  refine c_region ?_
  refine L_op (s_e hS (e_move rfl) rfl ?_); clear hS a; intro a hS
  refine L_op (s_e hS (e_not rfl) rfl ?_); clear hS a; intro a hS
  refine L_nil ?_
  refine n_then ?_
  replace hS := hS.is (t := 13) (c := false) rfl ((by rw [decide_eq_true hF]; rfl))
  refine c_if_f hS rfl ?_
  refine wp_skip ?_
  refine n_then ?_
  refine c_seq ?_
  refine c_region ?_
  refine L_op (s_e hS (e_move rfl) rfl ?_); clear hS a; intro a hS
  refine L_op (s_e hS (e_ixS rfl rfl ty_u9 (by omega)) rfl ?_); clear hS a; intro a hS
  refine L_op (s_e hS (e_bin rfl rfl rfl) rfl ?_); clear hS a; intro a hS
  refine L_op (s_e hS (e_assign rfl) rfl ?_); clear hS a; intro a hS
  refine L_nil ?_
  refine n_then ?_
  refine c_cut (fun a w => ∃ d : ByteArray, St 53 noB w0 a w [(0, .string d), (5, .bool (decide ((byteAt s.data.toList 0 : Int) = 45))), (2, .pointer (some ⟨b2, 0, none⟩)), (3, .bool false)] [.blk b2 [.bool false, .slice none 0 0] 47] ∧ d.data.toList = B) ?_ ?_
  ·
    refine c_seq ?_
    refine c_region ?_
    refine L_op (s_e hS (e_move rfl) rfl ?_); clear hS a; intro a hS
    refine L_nil ?_
    refine n_then ?_
    first | refine c_ifD hS rfl (fun hc18 => ?_) (fun hc18 => ?_) | refine c_if hS rfl (fun hc18 => ?_) (fun hc18 => ?_)
    ·
      refine c_region ?_
      refine L_op (s_e hS (e_move rfl) rfl ?_); clear hS a; intro a hS
      refine L_op (s_e hS (e_slSf rfl rfl ty_u9 (by omega)) rfl ?_); clear hS a; intro a hS
      refine L_op (s_e hS (e_assign rfl) rfl ?_); clear hS a; intro a hS
      refine L_nil ?_
      first
      | (
        have h45 : byteAt s.data.toList 0 = 45 := by unfold byteAt; rw [Int.toNat_zero] at hc18; omega
        exact ⟨_, hS.slots (by repeat (first | exact trivial | refine ⟨rfl, ?_⟩)), by rw [hB]; unfold numBody; rw [if_pos ⟨hneg h45, h45⟩]; exact drop_one s⟩)
      | exact ⟨_, hS.slots (by repeat (first | exact trivial | refine ⟨rfl, ?_⟩)), by rw [hB]; unfold numBody; rw [if_neg (by rintro ⟨_, u⟩; unfold byteAt at u; rw [Int.toNat_zero] at hc18; omega)]⟩
    ·
      refine wp_skip ?_
      first
      | (
        have h45 : byteAt s.data.toList 0 = 45 := by unfold byteAt; rw [Int.toNat_zero] at hc18; omega
        exact ⟨_, hS.slots (by repeat (first | exact trivial | refine ⟨rfl, ?_⟩)), by rw [hB]; unfold numBody; rw [if_pos ⟨hneg h45, h45⟩]; exact drop_one s⟩)
      | exact ⟨_, hS.slots (by repeat (first | exact trivial | refine ⟨rfl, ?_⟩)), by rw [hB]; unfold numBody; rw [if_neg (by rintro ⟨_, u⟩; unfold byteAt at u; rw [Int.toNat_zero] at hc18; omega)]⟩
  ·
    clear hS a; (try clear w); intro a w hS
    obtain ⟨d, hS, hd⟩ := hS
    refine c_seq ?_
    refine c_region ?_
    refine L_op (s_e hS (e_assign rfl) rfl ?_); clear hS a; intro a hS
    refine L_nil ?_
    refine n_then ?_
    refine c_seq ?_
    refine wp_block ?_
    skip
    refine c_loop (γ := Nat × List Int × Value × ByteArray) (fun G a w => St 53 noB w0 a w [(0, .string G.2.2.2), (5, .bool (decide ((byteAt s.data.toList 0 : Int) = 45))), (2, .pointer (some ⟨b2, 0, none⟩)), (6, G.2.2.1)] [ownA 3 1 G.2.2.1 G.2.1.length (G.2.1.flatMap encD), .blk b2 [.bool false, .slice none 0 0] 47] ∧ G.2.2.2.data.toList = B.take G.1 ∧ G.1 ≤ B.length ∧ inR G.2.1 ∧ nv G.2.1 + 10000 ^ G.2.1.length * (dv (B.take G.1) : Int) = dv B ∧ G.2.1.length + G.1 ≤ B.length) (fun G => G.1) (B.length, [], .slice none 0 0, d) ⟨(hS.own_nil 3 1).slots (by repeat (first | exact trivial | refine ⟨rfl, ?_⟩)), by simp only [List.take_length]; exact hd, Nat.le_refl _, (show inR [] from fun x hx => by cases hx), by simp [nv], by simp⟩ ?_
    clear hS a; (try clear w); intro G a w hI
    obtain ⟨m, l, sv, cur⟩ := G
    obtain ⟨hS, hcur, hm, hin, hnv, hlm⟩ := hI
    simp only at hS hcur hm hin hnv hlm
    have hcl := size_list cur
    rw [hcur, List.length_take, Nat.min_eq_left hm] at hcl
    refine c_seq ?_
    refine c_seq ?_
    refine c_region ?_
    refine L_op (s_e hS (e_move rfl) rfl ?_); clear hS a; intro a hS
    refine L_op (s_e hS (e_lenS rfl rfl ty_u9) rfl ?_); clear hS a; intro a hS
    refine L_op (s_e hS (e_bin rfl rfl rfl) rfl ?_); clear hS a; intro a hS
    refine L_nil ?_
    refine n_then ?_
    first | refine c_ifD hS rfl (fun hc23 => ?_) (fun hc23 => ?_) | refine c_if hS rfl (fun hc23 => ?_) (fun hc23 => ?_)
    ·
      have hT4 : (cur.data.toList.drop (m - 4)).length ≤ 4 := by rw [List.length_drop, hcur, List.length_take]; omega
      have hTd : ∀ j, j < (cur.data.toList.drop (m - 4)).length → 48 ≤ byteAt (cur.data.toList.drop (m - 4)) j ∧ byteAt (cur.data.toList.drop (m - 4)) j ≤ 57 := by
        intro j hj
        rw [List.length_drop, hcur, List.length_take] at hj
        rw [byteAt_drop, hcur, byteAt_take (by omega)]
        exact hF4 _ (by omega)
      have hTv := dv_lt (fun j hj => (hTd j hj).2) _ (Nat.le_refl (cur.data.toList.drop (m - 4)).length)
      rw [List.take_length] at hTv
      have hT9 : dv (cur.data.toList.drop (m - 4)) < 10 ^ 4 := Nat.lt_of_lt_of_le hTv (Nat.pow_le_pow_right (by decide) hT4)
      have hTl : (cur.data.toList.drop (m - 4)).length = m - (m - 4) := by rw [List.length_drop, hcur, List.length_take]; omega
      refine wp_skip ?_
      refine n_then ?_
      refine wp_block ?_
      refine c_seq ?_
      refine c_region ?_
      refine L_op (s_e hS (e_move rfl) rfl ?_); clear hS a; intro a hS
      refine L_op (s_e hS (e_lenS rfl rfl ty_u9) rfl ?_); clear hS a; intro a hS
      first | (refine L_op (s_e hS (e_binN rfl rfl rfl (by omega)) rfl ?_); clear hS a; intro a hS) | (refine L_op (s_e hS (e_bin rfl rfl rfl) rfl ?_); clear hS a; intro a hS)
      refine L_op (s_e hS (e_max rfl rfl) rfl ?_); clear hS a; intro a hS
      have hfr : (if (0 : Int) > (cur.size : Int) - 4 then (0 : Int) else (cur.size : Int) - 4) = ((m - 4 : Nat) : Int) := by split <;> omega
      rw [hfr] at hS
      refine L_op (s_e hS (e_assign rfl) rfl ?_); clear hS a; intro a hS
      refine L_nil ?_
      refine n_then ?_
      refine c_seq ?_
      refine c_region ?_
      refine L_op (s_e hS (e_assign rfl) rfl ?_); clear hS a; intro a hS
      refine L_nil ?_
      refine n_then ?_
      refine c_seq ?_
      refine c_seq ?_
      refine c_region ?_
      refine L_op (s_e hS (e_move rfl) rfl ?_); clear hS a; intro a hS
      refine L_op (s_e hS (e_assign rfl) rfl ?_); clear hS a; intro a hS
      refine L_nil ?_
      refine n_then ?_
      refine wp_block ?_
      skip
      refine c_loop (γ := Nat) (fun j a w => St 53 noB w0 a w [(9, .int .i64 ((m - 4 + j : Nat) : Int)), (8, .int .i64 (dv ((cur.data.toList.drop (m - 4)).take j) : Int)), (7, .int .i64 ((m - 4 : Nat) : Int)), (0, .string cur), (5, .bool (decide ((byteAt s.data.toList 0 : Int) = 45))), (2, .pointer (some ⟨b2, 0, none⟩)), (6, sv)] [ownA 3 1 sv l.length (l.flatMap encD), .blk b2 [.bool false, .slice none 0 0] 47] ∧ m - 4 + j ≤ m) (fun j => m - (m - 4 + j)) 0 ⟨hS.slots (by repeat (first | exact trivial | refine ⟨rfl, ?_⟩)), by omega⟩ ?_
      clear hS a; (try clear w); intro j a w hI
      obtain ⟨hS, hj⟩ := hI
      refine c_seq ?_
      refine c_seq ?_
      refine c_region ?_
      refine L_op (s_e hS (e_move rfl) rfl ?_); clear hS a; intro a hS
      refine L_op (s_e hS (e_move rfl) rfl ?_); clear hS a; intro a hS
      refine L_op (s_e hS (e_lenS rfl rfl ty_u9) rfl ?_); clear hS a; intro a hS
      refine L_op (s_e hS (e_bin rfl rfl rfl) rfl ?_); clear hS a; intro a hS
      refine L_nil ?_
      refine n_then ?_
      first | refine c_ifD hS rfl (fun hc32 => ?_) (fun hc32 => ?_) | refine c_if hS rfl (fun hc32 => ?_) (fun hc32 => ?_)
      ·
        have hx := hTd j (by omega)
        have hs1 := dv_succ (l := cur.data.toList.drop (m - 4)) (k := j) (by omega)
        have hx2 := dv_take (l := cur.data.toList.drop (m - 4)) j
        have hxe : ((cur.data.toList.getD ((m - 4 + j : Nat) : Int).toNat 0).toNat : Int) = (byteAt (cur.data.toList.drop (m - 4)) j : Int) := by rw [byteAt_drop]; unfold byteAt; rw [Int.toNat_natCast]
        refine wp_skip ?_
        refine n_then ?_
        refine c_seq ?_
        refine wp_block ?_
        refine c_region ?_
        refine L_op (s_e hS (e_move rfl) rfl ?_); clear hS a; intro a hS
        first | (refine L_op (s_e hS (e_binN rfl rfl rfl (by omega)) rfl ?_); clear hS a; intro a hS) | (refine L_op (s_e hS (e_bin rfl rfl rfl) rfl ?_); clear hS a; intro a hS)
        refine L_op (s_e hS (e_move rfl) rfl ?_); clear hS a; intro a hS
        refine L_op (s_e hS (e_move rfl) rfl ?_); clear hS a; intro a hS
        refine L_op (s_e hS (e_ixS rfl rfl ty_u9 (by omega)) rfl ?_); clear hS a; intro a hS
        rw [hxe] at hS
        first | (refine L_op (s_e hS (e_binN rfl rfl rfl (by omega)) rfl ?_); clear hS a; intro a hS) | (refine L_op (s_e hS (e_bin rfl rfl rfl) rfl ?_); clear hS a; intro a hS)
        rw [wrap_byte (by omega)] at hS
        first | (refine L_op (s_e hS (e_convN rfl ty_u5 ty_u3 (by omega)) rfl ?_); clear hS a; intro a hS) | (refine L_op (s_e hS (e_conv rfl ty_u5 ty_u3) rfl ?_); clear hS a; intro a hS)
        first | (refine L_op (s_e hS (e_binN rfl rfl rfl (by omega)) rfl ?_); clear hS a; intro a hS) | (refine L_op (s_e hS (e_bin rfl rfl rfl) rfl ?_); clear hS a; intro a hS)
        refine L_op (s_e hS (e_assign rfl) rfl ?_); clear hS a; intro a hS
        refine L_nil ?_
        refine n_block ?_
        refine n_then ?_
        refine c_region ?_
        refine L_op (s_e hS (e_move rfl) rfl ?_); clear hS a; intro a hS
        first | (refine L_op (s_e hS (e_binN rfl rfl rfl (by omega)) rfl ?_); clear hS a; intro a hS) | (refine L_op (s_e hS (e_bin rfl rfl rfl) rfl ?_); clear hS a; intro a hS)
        refine L_op (s_e hS (e_assign rfl) rfl ?_); clear hS a; intro a hS
        refine L_nil ?_
        have e7 : 10 * (dv ((cur.data.toList.drop (m - 4)).take j) : Int) + ((byteAt (cur.data.toList.drop (m - 4)) j : Int) - 48) = (dv ((cur.data.toList.drop (m - 4)).take (j + 1)) : Int) := by rw [hs1]; omega
        rw [e7] at hS
        exact ⟨j + 1, by omega, hS.slots (by repeat (first | exact trivial | refine ⟨rfl, ?_⟩)), by omega⟩
      ·
        obtain rfl : j = m - (m - 4) := by omega
        rw [← hTl, List.take_length] at hS
        refine wp_exit ?_
        refine x_then (x_then (x_hit ?_))
        refine n_then ?_
        refine c_seq ?_
        refine c_region ?_
        refine L_op (s_e hS (e_move rfl) rfl ?_); clear hS a; intro a hS
        refine L_op (s_e hS (e_move rfl) rfl ?_); clear hS a; intro a hS
        refine L_op (s_bslice hS ty_sl23 ty_sz3 ty_z3 rfl rfl rfl rfl (.one rfl rfl rfl .nil) rfl ?_); clear hS a; (try clear w); intro a w b45 hS
        refine L_op (s_append1 hS rfl rfl ty_sl23 ty_sz3 ty_by3 ty_z3 rfl rfl rfl (by repeat constructor) (by repeat constructor) (by rfl) (by rfl) (fun _ => (by repeat constructor)) (by omega) ?_); clear hS a; (try clear w); intro v46 a w hv46 hS
        refine L_op (s_e hS (e_assign rfl) rfl ?_); clear hS a; intro a hS
        refine L_nil ?_
        refine n_then ?_
        refine c_region ?_
        refine L_op (s_e hS (e_move rfl) rfl ?_); clear hS a; intro a hS
        refine L_op (s_e hS (e_move rfl) rfl ?_); clear hS a; intro a hS
        refine L_op (s_e hS (e_slSt rfl rfl ty_u9 (by omega)) rfl ?_); clear hS a; intro a hS
        refine L_op (s_e hS (e_assign rfl) rfl ?_); clear hS a; intro a hS
        refine L_nil ?_
        refine n_block ?_
        have e1 : (l ++ [(dv (cur.data.toList.drop (m - 4)) : Int)]).flatMap encD = l.flatMap encD ++ [.int .i64 (dv (cur.data.toList.drop (m - 4)) : Int)] := by simp [encD]
        have hnx := nv_dv hm hnv
        rw [← hcur] at hnx
        refine ⟨(m - 4, l ++ [(dv (cur.data.toList.drop (m - 4)) : Int)], v46, cur.extract 0 ((m - 4 : Nat) : Int).toNat), by simp only; omega, ?_, ?_, ?_, ?_, ?_, ?_⟩
        rotate_left
        · simp only; rw [take_list, hcur, List.take_take, Int.toNat_natCast, Nat.min_eq_left (by omega)]
        · simp only; omega
        · exact inR_snoc hin (by omega)
        · exact hnx
        · simp only [List.length_append, List.length_singleton]; omega
        · simp only [List.length_append, List.length_cons, List.length_nil, Nat.zero_add, e1]
          exact (hS.pick (by repeat (first | exact Pick.nil | (refine Pick.cons (by repeat (first | exact Rem.head | apply Rem.tail)) ?_)))).slots (by repeat (first | exact trivial | refine ⟨rfl, ?_⟩))
    ·
      obtain rfl : m = 0 := by omega
      rw [show dv (B.take 0) = 0 from rfl] at hnv
      simp only [Int.natCast_zero, Int.mul_zero, Int.add_zero] at hnv
      have hsg : sgn (decide ((byteAt s.data.toList 0 : Int) = 45)) (nv l) = numVal s.data.toList := by
        rw [hnv, hB]; unfold sgn numVal
        by_cases h : byteAt s.data.toList 0 = 45
        · rw [if_pos h, if_pos (by simp; omega)]
        · rw [if_neg h, if_neg (by simp; omega)]
      obtain ⟨p4, c4, rfl, h4, h5, _, _⟩ := own_digs (hS.get (X := ownA 3 1 sv l.length (l.flatMap encD)) (by repeat constructor))
      refine wp_exit ?_
      refine x_then (x_then (x_hit ?_))
      refine n_then ?_
      refine c_seq ?_
      refine c_region ?_
      refine L_op (s_e hS (e_move rfl) rfl ?_); clear hS a; intro a hS
      refine L_op (s_e hS (e_move rfl) rfl ?_); clear hS a; intro a hS
      obtain ⟨p5, c5, e5, _, _, h6, h7⟩ := own_digs (hS.get (X := ownA 3 1 (sliceV p4 l.length c4) l.length (l.flatMap encD)) (by repeat constructor))
      obtain ⟨rfl, rfl⟩ := sliceV_inj e5
      have hT := trim_P (decide ((byteAt s.data.toList 0 : Int) = 45)) p4 c4 h4 l hin h5 (by omega) w h6 h7
      rw [hsg] at hT
      clear e5
      refine L_op (s_callN hS (.cons rfl (.cons rfl .nil)) cf67 rfl (hT) ?_); clear hS a; (try clear w); intro x52 a w hS
      refine L_op (s_storeA hS rfl rfl ty_sz47 (by repeat constructor) (by rfl) (by rfl) (by rfl) ?_); clear hS; (try clear w); intro w hS
      refine L_op (s_e hS (e_assign rfl) rfl ?_); clear hS a; intro a hS
      refine L_nil ?_
      refine n_then ?_
      refine wp_ret ?_
      refine c_retN hS Try.results32 (.cons (.cellA rfl (by repeat constructor) ty_st47 ty_sz47 (by rfl)) (.cons (.tmp rfl) .nil)) rfl ?_
      exact ⟨x52, rfl, hS.chg, hS.new (X := bigA (numVal s.data.toList) x52.1.1) (by repeat constructor) rfl⟩
end Go.Proofs.Ytfiaobhkhedpiaa
