/- A number's text read as an int, walked. -/
import Derived.Test.YtheofhegdjjfgaaNum1
import Derived.Test.YtheofhegdjjfgaaBig2
namespace Go.Proofs.Ytheofhegdjjfgaa
open Go.RowKit

/-- the number of digits. -/
def dvStep (a : Nat) (c : UInt8) : Nat := 10 * a + (c.toNat - 48)
def dv (l : List UInt8) : Nat := l.foldl dvStep 0
theorem dv_snoc (l : List UInt8) (c : UInt8) : dv (l ++ [c]) = 10 * dv l + (c.toNat - 48) := by unfold dv; rw [List.foldl_append]; rfl
theorem fold_ge : ∀ (b : List UInt8) (x : Nat), x ≤ b.foldl dvStep x
  | [], _ => Nat.le_refl _
  | c :: r, x => by
    have := fold_ge r (dvStep x c)
    rw [List.foldl_cons]
    have h : x ≤ dvStep x c := by unfold dvStep; omega
    omega
theorem fold_lo : ∀ (b : List UInt8) (x : Nat), x * 10 ^ b.length ≤ b.foldl dvStep x
  | [], x => by simp
  | c :: r, x => by
    have := fold_lo r (dvStep x c)
    rw [List.foldl_cons, List.length_cons, Nat.pow_succ]
    have h : 10 * x ≤ dvStep x c := by unfold dvStep; omega
    have h2 := Nat.mul_le_mul_right (10 ^ r.length) h
    rw [show x * (10 ^ r.length * 10) = 10 * x * 10 ^ r.length by rw [Nat.mul_comm (10 ^ r.length) 10, ← Nat.mul_assoc, Nat.mul_comm x 10]]
    omega
theorem dv_take {l : List UInt8} (k : Nat) : dv (l.take k) ≤ dv l := by
  have h := fold_ge (l.drop k) (dv (l.take k))
  unfold dv at *
  rw [← List.foldl_append, List.take_append_drop] at h
  exact h
theorem dv_succ {l : List UInt8} {k : Nat} (hk : k < l.length) : dv (l.take (k + 1)) = 10 * dv (l.take k) + (byteAt l k - 48) := by
  rw [List.take_succ_eq_append_getElem hk, dv_snoc]
  unfold byteAt
  rw [List.getD_eq_getElem?_getD, List.getElem?_eq_getElem hk]; rfl
theorem dv_long {l : List UInt8} (h : 20 ≤ l.length) (h0 : 49 ≤ byteAt l 0) : 9223372036854775808 < dv l := by
  cases l with
  | nil => simp at h
  | cons c r =>
    have h1 := fold_lo r (dvStep 0 c)
    have h2 : 1 ≤ dvStep 0 c := by unfold dvStep; unfold byteAt at h0; simp at h0; omega
    have h3 : 10 ^ 19 ≤ 10 ^ r.length := Nat.pow_le_pow_right (by decide) (by simp at h; omega)
    have h4 := Nat.mul_le_mul h2 h3
    unfold dv
    rw [List.foldl_cons]
    omega
theorem wrap_byte {m : Int} (h : 0 ≤ m ∧ m ≤ 255) : IntKind.u8.wrap m = m := IntWalk.u8_in _ h
theorem neg_quo {m : Int} (h : 0 ≤ m) : (-m).tdiv 10 = -(m / 10) := by rw [Int.neg_tdiv, Int.tdiv_eq_ediv_of_nonneg h]
def numVal (l : List UInt8) : Int := if byteAt l 0 = 45 then -(dv (numBody l) : Int) else dv (numBody l)
/-- an int's number out of its text. -/
def atoiR (l : List UInt8) : Int × Bool := if NumForm l ∧ -9223372036854775808 ≤ numVal l ∧ numVal l ≤ 9223372036854775807 then (numVal l, true) else (0, false)

set_option maxRecDepth 100000 in
set_option maxHeartbeats 1000000 in
theorem Atoi_P (s : ByteArray) (hs : s.size ≤ 4611686018427387904) (w0 : World) : PureC Try.prog 134 [.string s] w0 (.tuple [.int .i64 (atoiR s.data.toList).1, .bool (atoiR s.data.toList).2].toArray) := by
  have hl := size_list s
  refine c_enter [(0, .string s)] [] noB Try.func134 rfl Try.ntmps134 ⟨rfl, trivial⟩ rfl (by simp) (by simp) (by simp) ?_
  intro a hS
  refine c_seq ?_
  refine c_region ?_
  refine L_op (s_e hS (e_assign rfl) rfl ?_); clear hS a; intro a hS
  refine L_op (s_e hS (e_assign rfl) rfl ?_); clear hS a; intro a hS
  refine L_nil ?_
  refine n_then ?_
  refine c_seq ?_
  refine c_region ?_
  refine L_op (s_e hS (e_move rfl) rfl ?_); clear hS a; intro a hS
  refine L_op (s_callP hS (.cons rfl .nil) cf143 rfl (NumberForm_P s hs _) ?_); clear hS a; (try clear w); intro a w hS
  refine L_op (s_e hS (e_assign rfl) rfl ?_); clear hS a; intro a hS
  refine L_nil ?_
  refine n_then ?_
  refine c_seq ?_
  refine c_seq ?_
  refine c_region ?_
  refine L_op (s_e hS (e_move rfl) rfl ?_); clear hS a; intro a hS
  refine L_op (s_e hS (e_not rfl) rfl ?_); clear hS a; intro a hS
  refine L_nil ?_
  refine n_then ?_
  first | refine c_ifD hS rfl (fun hc13 => ?_) (fun hc13 => ?_) | refine c_if hS rfl (fun hc13 => ?_) (fun hc13 => ?_)
  ·
    have hF : ¬ NumForm s.data.toList := by simpa using hc13
    refine c_seq ?_
    refine c_region ?_
    refine L_op (s_e hS (e_assign rfl) rfl ?_); clear hS a; intro a hS
    refine L_op (s_e hS (e_assign rfl) rfl ?_); clear hS a; intro a hS
    refine L_nil ?_
    refine n_then ?_
    refine wp_ret ?_
    refine r_then ?_
    refine c_retN hS Try.results134 (.cons (.tmp rfl) (.cons (.tmp rfl) .nil)) rfl ?_
    exact ⟨by unfold atoiR; rw [if_neg (fun h => hF h.1)], hS.chg⟩
  ·
    have hF : NumForm s.data.toList := by simpa using hc13
    have hpos : 0 < s.size := by
      have h1 := hF.1
      by_cases h0 : s.size = 0
      · have : s.data.toList = [] := List.eq_nil_of_length_eq_zero (by omega)
        rw [this] at h1
        exact absurd rfl h1
      · omega
    have hneg : byteAt s.data.toList 0 = 45 → 1 < s.data.toList.length := by
      intro h1
      by_cases h2 : 1 < s.data.toList.length
      · exact h2
      · have h3 : numBody s.data.toList = s.data.toList := by unfold numBody; rw [if_neg (by omega)]
        have h4 := hF.2.2.2 0 (by rw [h3]; omega)
        rw [h3] at h4
        omega
    refine wp_skip ?_
    refine n_then ?_
    refine c_seq ?_
    refine c_region ?_
    refine L_op (s_e hS (e_move rfl) rfl ?_); clear hS a; intro a hS
    refine L_op (s_e hS (e_ixS rfl rfl ty_u9 (by omega)) rfl ?_); clear hS a; intro a hS
    refine L_op (s_e hS (e_bin rfl rfl rfl) rfl ?_); clear hS a; intro a hS
    refine L_op (s_e hS (e_assign rfl) rfl ?_); clear hS a; intro a hS
    refine L_nil ?_
    refine n_then ?_
    refine c_seq ?_
    refine c_region ?_
    refine L_op (s_e hS (e_move rfl) rfl ?_); clear hS a; intro a hS
    refine L_op (s_e hS (e_assign rfl) rfl ?_); clear hS a; intro a hS
    refine L_nil ?_
    refine n_then ?_
    refine c_cut (fun a w => ∃ d : ByteArray, St 50 noB w0 a w [(6, .string d), (5, .bool (decide ((byteAt s.data.toList 0 : Int) = 45))), (0, .string s), (2, .int .i64 0), (3, .bool false)] [] ∧ d.data.toList = numBody s.data.toList) ?_ ?_
    ·
      refine c_seq ?_
      refine c_region ?_
      refine L_op (s_e hS (e_move rfl) rfl ?_); clear hS a; intro a hS
      refine L_nil ?_
      refine n_then ?_
      first | refine c_ifD hS rfl (fun hc18 => ?_) (fun hc18 => ?_) | refine c_if hS rfl (fun hc18 => ?_) (fun hc18 => ?_)
      ·
        refine c_region ?_
        refine L_op (s_e hS (e_move rfl) rfl ?_); clear hS a; intro a hS
        refine L_op (s_e hS (e_slSf rfl rfl ty_u9 (by omega)) rfl ?_); clear hS a; intro a hS
        refine L_op (s_e hS (e_assign rfl) rfl ?_); clear hS a; intro a hS
        refine L_nil ?_
        first
        | (
          have h45 : byteAt s.data.toList 0 = 45 := by unfold byteAt; rw [Int.toNat_zero] at hc18; omega
          exact ⟨_, hS.slots (by exact ⟨rfl, rfl, rfl, rfl, rfl, trivial⟩), by unfold numBody; rw [if_pos ⟨hneg h45, h45⟩]; exact drop_one s⟩)
        | exact ⟨_, hS.slots (by exact ⟨rfl, rfl, rfl, rfl, rfl, trivial⟩), by unfold numBody; rw [if_neg (by rintro ⟨_, u⟩; unfold byteAt at u; rw [Int.toNat_zero] at hc18; omega)]⟩
      ·
        refine wp_skip ?_
        first
        | (
          have h45 : byteAt s.data.toList 0 = 45 := by unfold byteAt; rw [Int.toNat_zero] at hc18; omega
          exact ⟨_, hS.slots (by exact ⟨rfl, rfl, rfl, rfl, rfl, trivial⟩), by unfold numBody; rw [if_pos ⟨hneg h45, h45⟩]; exact drop_one s⟩)
        | exact ⟨_, hS.slots (by exact ⟨rfl, rfl, rfl, rfl, rfl, trivial⟩), by unfold numBody; rw [if_neg (by rintro ⟨_, u⟩; unfold byteAt at u; rw [Int.toNat_zero] at hc18; omega)]⟩
    ·
      clear hS a; (try clear w); intro a w hS
      obtain ⟨d, hS, hd⟩ := hS
      have hld := size_list d
      have hds : d.size ≤ s.size := by
        rw [← hld, hd]; unfold numBody; split
        · rw [List.length_drop]; omega
        · omega
      have hF1 := hF.1
      have hF2 := hF.2.1
      have hF4 := hF.2.2.2
      rw [← hd] at hF1 hF2 hF4
      have hv : numVal s.data.toList = if byteAt s.data.toList 0 = 45 then -(dv d.data.toList : Int) else dv d.data.toList := by unfold numVal; rw [hd]
      refine c_seq ?_
      refine c_seq ?_
      refine c_region ?_
      refine L_op (s_e hS (e_move rfl) rfl ?_); clear hS a; intro a hS
      refine L_op (s_e hS (e_lenS rfl rfl ty_u9) rfl ?_); clear hS a; intro a hS
      refine L_op (s_e hS (e_bin rfl rfl rfl) rfl ?_); clear hS a; intro a hS
      refine L_nil ?_
      refine n_then ?_
      first | refine c_ifD hS rfl (fun hc23 => ?_) (fun hc23 => ?_) | refine c_if hS rfl (fun hc23 => ?_) (fun hc23 => ?_)
      ·
        have hno : atoiR s.data.toList = (0, false) := by
          have h1 := hF4 0 (by omega)
          have h2 := dv_long (l := d.data.toList) (by omega) (by
            have h3 : ¬ byteAt d.data.toList 0 = 48 := fun e => hF2 ⟨by omega, e⟩
            omega)
          unfold atoiR
          rw [if_neg]
          rintro ⟨_, u, v⟩
          rw [hv] at u v
          split at u <;> omega
        refine c_seq ?_
        refine c_region ?_
        refine L_op (s_e hS (e_assign rfl) rfl ?_); clear hS a; intro a hS
        refine L_op (s_e hS (e_assign rfl) rfl ?_); clear hS a; intro a hS
        refine L_nil ?_
        refine n_then ?_
        refine wp_ret ?_
        refine r_then ?_
        refine c_retN hS Try.results134 (.cons (.tmp rfl) (.cons (.tmp rfl) .nil)) rfl ?_
        exact ⟨by rw [hno], hS.chg⟩
      ·
        refine wp_skip ?_
        refine n_then ?_
        refine c_seq ?_
        refine c_region ?_
        refine L_op (s_e hS (e_assign rfl) rfl ?_); clear hS a; intro a hS
        refine L_nil ?_
        refine n_then ?_
        refine c_seq ?_
        refine c_seq ?_
        refine c_region ?_
        refine L_op (s_e hS (e_assign rfl) rfl ?_); clear hS a; intro a hS
        refine L_nil ?_
        refine n_then ?_
        refine wp_block ?_
        skip
        refine c_loop (γ := Nat) (fun k a w => St 50 noB w0 a w [(8, .int .i64 (k : Int)), (7, .int .i64 (-(dv (d.data.toList.take k) : Int))), (6, .string d), (5, .bool (decide ((byteAt s.data.toList 0 : Int) = 45))), (0, .string s), (2, .int .i64 0), (3, .bool false)] [] ∧ k ≤ d.size ∧ dv (d.data.toList.take k) ≤ 9223372036854775808) (fun k => d.size - k) 0 ⟨hS.slots (by exact ⟨rfl, rfl, rfl, rfl, rfl, rfl, rfl, trivial⟩), Nat.zero_le _, by simp [dv]⟩ ?_
        clear hS a; (try clear w); intro k a w hI
        obtain ⟨hS, hk, hb⟩ := hI
        refine c_seq ?_
        refine c_seq ?_
        refine c_region ?_
        refine L_op (s_e hS (e_move rfl) rfl ?_); clear hS a; intro a hS
        refine L_op (s_e hS (e_move rfl) rfl ?_); clear hS a; intro a hS
        refine L_op (s_e hS (e_lenS rfl rfl ty_u9) rfl ?_); clear hS a; intro a hS
        refine L_op (s_e hS (e_bin rfl rfl rfl) rfl ?_); clear hS a; intro a hS
        refine L_nil ?_
        refine n_then ?_
        first | refine c_ifD hS rfl (fun hc27 => ?_) (fun hc27 => ?_) | refine c_if hS rfl (fun hc27 => ?_) (fun hc27 => ?_)
        ·
          have hx := hF4 k (by omega)
          have hs1 := dv_succ (l := d.data.toList) (k := k) (by omega)
          have hxe : ((d.data.toList.getD (k : Int).toNat 0).toNat : Int) = (byteAt d.data.toList k : Int) := by unfold byteAt; rw [Int.toNat_natCast]
          refine wp_skip ?_
          refine n_then ?_
          refine c_seq ?_
          refine wp_block ?_
          refine c_seq ?_
          refine c_region ?_
          refine L_op (s_e hS (e_move rfl) rfl ?_); clear hS a; intro a hS
          refine L_op (s_e hS (e_move rfl) rfl ?_); clear hS a; intro a hS
          refine L_op (s_e hS (e_ixS rfl rfl ty_u9 (by omega)) rfl ?_); clear hS a; intro a hS
          rw [hxe] at hS
          first | (refine L_op (s_e hS (e_binN rfl rfl rfl (by omega)) rfl ?_); clear hS a; intro a hS) | (refine L_op (s_e hS (e_bin rfl rfl rfl) rfl ?_); clear hS a; intro a hS)
          rw [wrap_byte (by omega)] at hS
          first | (refine L_op (s_e hS (e_convN rfl ty_u5 ty_u3 (by omega)) rfl ?_); clear hS a; intro a hS) | (refine L_op (s_e hS (e_conv rfl ty_u5 ty_u3) rfl ?_); clear hS a; intro a hS)
          refine L_op (s_e hS (e_assign rfl) rfl ?_); clear hS a; intro a hS
          refine L_nil ?_
          refine n_then ?_
          refine c_seq ?_
          refine c_seq ?_
          refine c_region ?_
          refine L_op (s_e hS (e_move rfl) rfl ?_); clear hS a; intro a hS
          refine L_op (s_e hS (e_move rfl) rfl ?_); clear hS a; intro a hS
          first | (refine L_op (s_e hS (e_binN rfl rfl rfl (by omega)) rfl ?_); clear hS a; intro a hS) | (refine L_op (s_e hS (e_bin rfl rfl rfl) rfl ?_); clear hS a; intro a hS)
          refine L_op (s_e hS (e_quo rfl rfl (by decide)) rfl ?_); clear hS a; intro a hS
          have hq : ((-9223372036854775808 : Int) + ((byteAt d.data.toList k : Int) - 48)).tdiv 10 = -((9223372036854775808 - ((byteAt d.data.toList k : Int) - 48)) / 10) := by
            rw [show (-9223372036854775808 : Int) + ((byteAt d.data.toList k : Int) - 48) = -(9223372036854775808 - ((byteAt d.data.toList k : Int) - 48)) by omega]
            exact neg_quo (by omega)
          rw [hq, wrap_fit (by omega)] at hS
          refine L_op (s_e hS (e_bin rfl rfl rfl) rfl ?_); clear hS a; intro a hS
          refine L_nil ?_
          refine n_then ?_
          first | refine c_ifD hS rfl (fun hc39 => ?_) (fun hc39 => ?_) | refine c_if hS rfl (fun hc39 => ?_) (fun hc39 => ?_)
          ·
            have hno : atoiR s.data.toList = (0, false) := by
              have h2 := dv_take (l := d.data.toList) (k + 1)
              have h3 : 9223372036854775808 < dv (d.data.toList.take (k + 1)) := by omega
              unfold atoiR
              rw [if_neg]
              rintro ⟨_, u, v⟩
              rw [hv] at u v
              split at u <;> omega
            refine c_seq ?_
            refine c_region ?_
            refine L_op (s_e hS (e_assign rfl) rfl ?_); clear hS a; intro a hS
            refine L_op (s_e hS (e_assign rfl) rfl ?_); clear hS a; intro a hS
            refine L_nil ?_
            refine n_then ?_
            refine wp_ret ?_
            refine r_then (r_block (r_then (r_then (r_block (r_then ?_)))))
            refine c_retN hS Try.results134 (.cons (.tmp rfl) (.cons (.tmp rfl) .nil)) rfl ?_
            exact ⟨by rw [hno], hS.chg⟩
          ·
            refine wp_skip ?_
            refine n_then ?_
            refine c_region ?_
            refine L_op (s_e hS (e_move rfl) rfl ?_); clear hS a; intro a hS
            first | (refine L_op (s_e hS (e_binN rfl rfl rfl (by omega)) rfl ?_); clear hS a; intro a hS) | (refine L_op (s_e hS (e_bin rfl rfl rfl) rfl ?_); clear hS a; intro a hS)
            refine L_op (s_e hS (e_move rfl) rfl ?_); clear hS a; intro a hS
            first | (refine L_op (s_e hS (e_binN rfl rfl rfl (by omega)) rfl ?_); clear hS a; intro a hS) | (refine L_op (s_e hS (e_bin rfl rfl rfl) rfl ?_); clear hS a; intro a hS)
            refine L_op (s_e hS (e_assign rfl) rfl ?_); clear hS a; intro a hS
            refine L_nil ?_
            refine n_block ?_
            refine n_then ?_
            refine c_region ?_
            refine L_op (s_e hS (e_move rfl) rfl ?_); clear hS a; intro a hS
            first | (refine L_op (s_e hS (e_binN rfl rfl rfl (by omega)) rfl ?_); clear hS a; intro a hS) | (refine L_op (s_e hS (e_bin rfl rfl rfl) rfl ?_); clear hS a; intro a hS)
            refine L_op (s_e hS (e_assign rfl) rfl ?_); clear hS a; intro a hS
            refine L_nil ?_
            have e7 : 10 * -(dv (d.data.toList.take k) : Int) - ((byteAt d.data.toList k : Int) - 48) = -(dv (d.data.toList.take (k + 1)) : Int) := by rw [hs1]; omega
            rw [e7] at hS
            exact ⟨k + 1, by omega, hS.slots (by exact ⟨rfl, rfl, rfl, rfl, rfl, rfl, rfl, trivial⟩), by omega, by rw [hs1]; omega⟩
        ·
          obtain rfl : k = d.size := by omega
          rw [List.take_of_length_le (by omega)] at hS hb
          clear hk
          refine wp_exit ?_
          refine x_then (x_then (x_hit ?_))
          refine n_then ?_
          refine c_seq ?_
          refine c_seq ?_
          refine c_region ?_
          refine L_op (s_e hS (e_move rfl) rfl ?_); clear hS a; intro a hS
          refine L_nil ?_
          refine n_then ?_
          first | refine c_ifD hS rfl (fun hc44 => ?_) (fun hc44 => ?_) | refine c_if hS rfl (fun hc44 => ?_) (fun hc44 => ?_)
          ·
            refine c_seq ?_
            refine c_region ?_
            refine L_op (s_e hS (e_move rfl) rfl ?_); clear hS a; intro a hS
            refine L_op (s_e hS (e_assign rfl) rfl ?_); clear hS a; intro a hS
            refine L_op (s_e hS (e_assign rfl) rfl ?_); clear hS a; intro a hS
            refine L_nil ?_
            refine n_then ?_
            refine wp_ret ?_
            refine r_then ?_
            refine c_retN hS Try.results134 (.cons (.tmp rfl) (.cons (.tmp rfl) .nil)) rfl ?_
            have hyes : atoiR s.data.toList = (-(dv d.data.toList : Int), true) := by
              have e : numVal s.data.toList = -(dv d.data.toList : Int) := by rw [hv, if_pos (by omega)]
              unfold atoiR
              rw [e, if_pos ⟨hF, by omega, by omega⟩]
            exact ⟨by rw [hyes], hS.chg⟩
          ·
            refine wp_skip ?_
            refine n_then ?_
            refine c_seq ?_
            refine c_seq ?_
            refine c_region ?_
            refine L_op (s_e hS (e_move rfl) rfl ?_); clear hS a; intro a hS
            refine L_op (s_e hS (e_bin rfl rfl rfl) rfl ?_); clear hS a; intro a hS
            refine L_nil ?_
            refine n_then ?_
            first | refine c_ifD hS rfl (fun hc47 => ?_) (fun hc47 => ?_) | refine c_if hS rfl (fun hc47 => ?_) (fun hc47 => ?_)
            ·
              refine c_seq ?_
              refine c_region ?_
              refine L_op (s_e hS (e_assign rfl) rfl ?_); clear hS a; intro a hS
              refine L_op (s_e hS (e_assign rfl) rfl ?_); clear hS a; intro a hS
              refine L_nil ?_
              refine n_then ?_
              refine wp_ret ?_
              refine r_then ?_
              refine c_retN hS Try.results134 (.cons (.tmp rfl) (.cons (.tmp rfl) .nil)) rfl ?_
              have hno : atoiR s.data.toList = (0, false) := by
                have e : numVal s.data.toList = (dv d.data.toList : Int) := by rw [hv, if_neg (by omega)]
                unfold atoiR
                rw [e, if_neg (by rintro ⟨_, _, u⟩; omega)]
              exact ⟨by rw [hno], hS.chg⟩
            ·
              refine wp_skip ?_
              refine n_then ?_
              refine c_seq ?_
              refine c_region ?_
              refine L_op (s_e hS (e_move rfl) rfl ?_); clear hS a; intro a hS
              refine L_op (s_e hS (e_neg rfl) rfl ?_); clear hS a; intro a hS
              rw [wrap_fit (by omega)] at hS
              refine L_op (s_e hS (e_assign rfl) rfl ?_); clear hS a; intro a hS
              refine L_op (s_e hS (e_assign rfl) rfl ?_); clear hS a; intro a hS
              refine L_nil ?_
              refine n_then ?_
              refine wp_ret ?_
              refine c_retN hS Try.results134 (.cons (.tmp rfl) (.cons (.tmp rfl) .nil)) rfl ?_
              have hyes : atoiR s.data.toList = ((dv d.data.toList : Int), true) := by
                have e : numVal s.data.toList = (dv d.data.toList : Int) := by rw [hv, if_neg (by omega)]
                unfold atoiR
                rw [e, if_pos ⟨hF, by omega, by omega⟩]
              exact ⟨by rw [hyes]; simp, hS.chg⟩
end Go.Proofs.Ytheofhegdjjfgaa
