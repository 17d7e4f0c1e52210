/- Numbers by digits in base 10000, walked: their text. -/
import Derived.Test.YtheofhegdjjfgaaBig4
import Derived.Test.YtheofhegdjjfgaaWdS
import Derived.Laws.BytesArg
namespace Go.Proofs.Ytheofhegdjjfgaa
open Go.RowKit

section
variable {n : Nat} {F0 : Nat → Prop} {w0 w : World} {a : Act} {L : List (Nat × Value)} {Γ : List Asn} {dst : Option Nat} {ty : Nat} {pos : String} {af : Array Edge} {g : Option (Nat × Bool)} {x : Operand}
/-- 'string([]byte{x})'. -/
theorem e_byte1 {b E : Nat} {u : Int} (hx : ev L x = some (.slice (some ⟨b, 0, none⟩) 1 1)) (hm : Asn.blk b [.int .u8 u] E ∈ Γ) : Ex Try.prog n a L Γ ⟨dst, .convert 212 9 x, ty, pos, af, g⟩ (.string ⟨#[UInt8.ofNat u.toNat]⟩) := fun hs w hh => by
  have h := run_convert_bytes_arg (P := Try.prog) w 212 5 Try.underlying212 Try.underlying5 b 0 1 1 [u] rfl (fun i hi => by
    obtain rfl : i = 0 := by omega
    exact cell_of_blk (hh _ hm) (k := 0) rfl) 9 Try.underlying9
  have e : strOfNums [u] = ⟨#[UInt8.ofNat u.toNat]⟩ := rfl
  rw [e] at h
  simp [execOp, hs.ev hx, h]
end
theorem wrap_u8 {m : Int} (h : 0 ≤ m ∧ m ≤ 255) : IntKind.u8.wrap m = m := IntWalk.u8_in _ h

/-! ### decimal digits of digits in base 10000 -/
theorem pow4 (i : Nat) : (10000 : Nat) ^ i = 10 ^ (4 * i) := by rw [Nat.pow_mul]
theorem dgs_get : ∀ (i N : Nat), i < (dgs N).length → (dgs N)[i]? = some ((N / 10000 ^ i % 10000 : Nat) : Int)
  | 0, N, h => by
    have h0 : N ≠ 0 := by rintro rfl; rw [dgs_zero] at h; simp at h
    rw [dgs_pos h0]; simp
  | i + 1, N, h => by
    have h0 : N ≠ 0 := by rintro rfl; rw [dgs_zero] at h; simp at h
    rw [dgs_pos h0] at h ⊢
    rw [List.getElem?_cons_succ, dgs_get i (N / 10000) (by simpa using h), Nat.div_div_eq_div_mul, Nat.pow_succ, Nat.mul_comm]
theorem dgs_hi {N : Nat} : N < 10 ^ (4 * (dgs N).length) := by
  have := nv_lt (inR_dgs N)
  rw [nv_dgs] at this
  rw [← pow4]
  have e : ((10000 ^ (dgs N).length : Nat) : Int) = 10000 ^ (dgs N).length := by rw [Int.natCast_pow]; rfl
  rw [← e] at this
  omega
theorem dgs_lo {N : Nat} (h : N ≠ 0) : 10 ^ (4 * ((dgs N).length - 1)) ≤ N := by
  have := dgs_pow h
  rw [← pow4]
  have e : ((10000 ^ ((dgs N).length - 1) : Nat) : Int) = 10000 ^ ((dgs N).length - 1) := by rw [Int.natCast_pow]; rfl
  rw [← e] at this
  omega
/-- what is still to be told of digit i behind k decimals. -/
def xk (N i k : Nat) : Nat := N / 10 ^ (4 * i + k) % 10 ^ (4 - k)
theorem xk_zero (N i : Nat) : xk N i 0 = N / 10000 ^ i % 10000 := by unfold xk; rw [pow4]; rfl
theorem xk_div {N i k : Nat} (h : k < 4) : xk N i k / 10 = xk N i (k + 1) := by
  unfold xk
  rw [show 4 - k = (4 - (k + 1)) + 1 by omega, Nat.pow_succ, Nat.mul_comm (10 ^ (4 - (k + 1))) 10, Nat.mod_mul_right_div_self, Nat.div_div_eq_div_mul, ← Nat.pow_succ]
  rfl
theorem xk_mod {N i k : Nat} (h : k < 4) : xk N i k % 10 = N / 10 ^ (4 * i + k) % 10 := by
  unfold xk
  rw [show 4 - k = (4 - (k + 1)) + 1 by omega, Nat.pow_succ]
  exact Nat.mod_mod_of_dvd _ (Nat.dvd_mul_left _ _)
theorem xk_lt {N i k : Nat} : xk N i k < 10000 := by
  unfold xk
  have h1 : N / 10 ^ (4 * i + k) % 10 ^ (4 - k) < 10 ^ (4 - k) := Nat.mod_lt _ (Nat.pow_pos (by decide))
  have h2 : 10 ^ (4 - k) ≤ 10 ^ 4 := Nat.pow_le_pow_right (by decide) (by omega)
  omega
theorem top_quo {N i k : Nat} (hi : i + 1 = (dgs N).length) (hk : k ≤ 4) : N / 10 ^ (4 * i + k) = xk N i k := by
  unfold xk
  have h1 := dgs_hi (N := N)
  rw [← hi, show 4 * (i + 1) = (4 * i + k) + (4 - k) by omega, Nat.pow_add] at h1
  exact (Nat.mod_eq_of_lt (Nat.div_lt_of_lt_mul h1)).symm
theorem top_pos {N i : Nat} (hi : i + 1 = (dgs N).length) : N / 10 ^ (4 * i) ≠ 0 := by
  have hN : N ≠ 0 := by rintro rfl; rw [dgs_zero] at hi; simp at hi
  have h1 := dgs_lo hN
  rw [← hi, Nat.add_sub_cancel] at h1
  have := Nat.div_pos h1 (Nat.pow_pos (n := 4 * i) (show 0 < 10 by decide))
  omega
theorem cons_bytes (x : UInt8) (l : List UInt8) : (⟨#[x]⟩ : ByteArray) ++ ⟨l.toArray⟩ = ⟨(x :: l).toArray⟩ := by
  apply ByteArray.ext; simp
theorem text_step {N i k : Nat} (h : k < 4) : (⟨#[UInt8.ofNat (48 + (xk N i k : Int) % 10).toNat]⟩ : ByteArray) ++ ⟨(Wd.ld (4 * i + k) N).toArray⟩ = ⟨(Wd.ld (4 * i + (k + 1)) N).toArray⟩ := by
  have e : UInt8.ofNat (48 + (xk N i k : Int) % 10).toNat = Wd.dig (N / 10 ^ (4 * i + k)) := by
    unfold Wd.dig
    rw [← xk_mod h]
    congr 1
  rw [e, show 4 * i + (k + 1) = (4 * i + k) + 1 by omega, ← Wd.ld_cons, cons_bytes]

theorem dg_size : ∀ (k n : Nat), n < 10 ^ k → (Wd.dg n).length ≤ k
  | 0, n, h => by
    obtain rfl : n = 0 := by simpa using h
    rw [Wd.dg_zero]; simp
  | k + 1, n, h => by
    by_cases h0 : n = 0
    · subst h0; rw [Wd.dg_zero]; simp
    · rw [Wd.dg_pos n h0, List.length_append]
      have := dg_size k (n / 10) (by rw [Nat.pow_succ] at h; omega)
      simp only [List.length_cons, List.length_nil]; omega

set_option maxHeartbeats 1000000 in
set_option maxRecDepth 100000 in
theorem BigText_P (p : Option (Nat × Nat)) (c : Nat) (z : Int) (hz : (dgs z.natAbs).length ≤ 1000) (w0 : World) (h : (oneA p (dgs z.natAbs)).ok w0) :
    PureC Try.prog 135 [bigV z p c] w0 (.string ⟨(Wd.text z).toArray⟩) := by
  have hp : RowP p 1 ((dgs z.natAbs).map encD) w0 := h.now
  refine c_enter [(0, bigV z p c)] [oneA p (dgs z.natAbs)] noB Try.func135 rfl Try.ntmps135 ⟨rfl, trivial⟩ rfl (by intro X hX; obtain rfl := List.mem_singleton.1 hX; exact h) (by simp) (by intro X hX hm; obtain rfl := List.mem_singleton.1 hX; cases hm) ?_
  intro a hS
  refine c_seq ?_
  refine c_region ?_
  refine L_op (s_boxA hS rfl rfl ?_); clear hS a; (try clear w); intro a w b1 hS
  refine L_op (s_e hS (e_assign rfl) rfl ?_); clear hS a; intro a hS
  refine L_nil ?_
  refine n_then ?_
  refine c_seq ?_
  refine c_seq ?_
  refine c_region ?_
  first | (refine L_op (s_e hS (e_fa0 rfl ty_fo44_1) rfl ?_); clear hS a; intro a hS) | (refine L_op (s_e hS (e_faK rfl ty_fo44_1) rfl ?_); clear hS a; intro a hS)
  refine L_op (s_e hS (e_load rfl (by repeat constructor) ty_sc42 (by rfl)) rfl ?_); clear hS a; intro a hS
  refine L_op (s_e hS (e_len rfl rfl ty_sl42) rfl ?_); clear hS a; intro a hS
  refine L_op (s_e hS (e_bin rfl rfl rfl) rfl ?_); clear hS a; intro a hS
  refine L_nil ?_
  refine n_then ?_
  first | refine c_ifD hS rfl (fun hc10 => ?_) (fun hc10 => ?_) | refine c_if hS rfl (fun hc10 => ?_) (fun hc10 => ?_)
  ·
    have hz0 : z = 0 := by
      have := (dgs_ne (n := z.natAbs)).2
      by_cases h0 : 0 < z.natAbs
      · have h1 := List.length_pos_iff.2 (this h0); omega
      · omega
    refine c_seq ?_
    refine c_region ?_
    refine L_op (s_e hS (e_assign rfl) rfl ?_); clear hS a; intro a hS
    refine L_nil ?_
    refine n_then ?_
    refine wp_ret ?_
    refine r_then ?_
    refine c_ret1 hS Try.results135 (.tmp rfl) ?_
    exact ⟨by subst hz0; rfl, hS.chg⟩
  ·
    refine wp_skip ?_
    refine n_then ?_
    refine c_seq ?_
    refine c_region ?_
    refine L_op (s_e hS (e_assign rfl) rfl ?_); clear hS a; intro a hS
    refine L_nil ?_
    refine n_then ?_
    refine c_seq ?_
    refine c_seq ?_
    refine c_region ?_
    refine L_op (s_e hS (e_assign rfl) rfl ?_); clear hS a; intro a hS
    refine L_nil ?_
    refine n_then ?_
    refine wp_block ?_
    skip
    refine c_loop (γ := (Nat × List UInt8)) (fun G a w => St 54 noB w0 a w [(4, .int .i64 (G.1 : Int)), (3, .string ⟨G.2.toArray⟩), (2, .string ⟨#[]⟩), (1, .pointer (some ⟨b1, 0, none⟩))] [.blk b1 [.bool (decide (z < 0)), sliceV p (dgs z.natAbs).length c] 44, oneA p (dgs z.natAbs)] ∧ G.1 ≤ (dgs z.natAbs).length ∧ (G.1 < (dgs z.natAbs).length → G.2 = Wd.ld (4 * G.1) z.natAbs) ∧ (G.1 = (dgs z.natAbs).length → G.2 = Wd.dg z.natAbs)) (fun G => (dgs z.natAbs).length - G.1) (0, []) ⟨hS.slots ⟨rfl, rfl, rfl, rfl, trivial⟩, Nat.zero_le _, fun _ => rfl, fun e => absurd e (by simp only; omega)⟩ ?_
    clear hS a; (try clear w); intro G a w hI
    obtain ⟨i, s⟩ := G
    obtain ⟨hS, hi, hs1, hs2⟩ := hI
    simp only at hS hi hs1 hs2
    refine c_seq ?_
    refine c_seq ?_
    refine c_region ?_
    refine L_op (s_e hS (e_move rfl) rfl ?_); clear hS a; intro a hS
    first | (refine L_op (s_e hS (e_fa0 rfl ty_fo44_1) rfl ?_); clear hS a; intro a hS) | (refine L_op (s_e hS (e_faK rfl ty_fo44_1) rfl ?_); clear hS a; intro a hS)
    refine L_op (s_e hS (e_load rfl (by repeat constructor) ty_sc42 (by rfl)) rfl ?_); clear hS a; intro a hS
    refine L_op (s_e hS (e_len rfl rfl ty_sl42) rfl ?_); clear hS a; intro a hS
    refine L_op (s_e hS (e_bin rfl rfl rfl) rfl ?_); clear hS a; intro a hS
    refine L_nil ?_
    refine n_then ?_
    first | refine c_ifD hS rfl (fun hc15 => ?_) (fun hc15 => ?_) | refine c_if hS rfl (fun hc15 => ?_) (fun hc15 => ?_)
    ·
      have hsl := hs1 (by omega)
      subst hsl
      have hd := dgs_get i z.natAbs (by omega)
      obtain ⟨bp, op, rfl⟩ := two_pos hp (fun e => by rw [e] at hd; cases hd)
      have hd' : ((dgs z.natAbs).map encD)[i]? = some (encD ((z.natAbs / 10000 ^ i % 10000 : Nat) : Int)) := by simp [hd]
      refine wp_skip ?_
      refine n_then ?_
      refine c_seq ?_
      refine wp_block ?_
      refine c_seq ?_
      refine c_region ?_
      first | (refine L_op (s_e hS (e_fa0 rfl ty_fo44_1) rfl ?_); clear hS a; intro a hS) | (refine L_op (s_e hS (e_faK rfl ty_fo44_1) rfl ?_); clear hS a; intro a hS)
      refine L_op (s_e hS (e_load rfl (by repeat constructor) ty_sc42 (by rfl)) rfl ?_); clear hS a; intro a hS
      refine L_op (s_e hS (e_move rfl) rfl ?_); clear hS a; intro a hS
      refine L_op (s_e hS (e_ixN rfl rfl ty_sl42 ty_sz3 (by omega)) rfl ?_); clear hS a; intro a hS
      refine L_op (s_e hS (e_loadC rfl ty_sc3 (fun w hh => rowP_get (by repeat (first | exact .head _ | refine .tail _ ?_)) hd' w hh 0 (.int .i64 ((z.natAbs / 10000 ^ i % 10000 : Nat) : Int)) rfl)) rfl ?_); clear hS a; intro a hS
      refine L_op (s_e hS (e_assign rfl) rfl ?_); clear hS a; intro a hS
      refine L_nil ?_
      refine n_then ?_
      refine c_seq ?_
      refine c_region ?_
      rw [← xk_zero] at hS
      refine L_op (s_e hS (e_assign rfl) rfl ?_); clear hS a; intro a hS
      refine L_nil ?_
      refine n_then ?_
      refine wp_block ?_
      skip
      refine c_loop (γ := Nat) (fun k a w => St 54 noB w0 a w [(6, .int .i64 (k : Int)), (5, .int .i64 (xk z.natAbs i k : Int)), (4, .int .i64 (i : Int)), (3, .string ⟨(Wd.ld (4 * i + k) z.natAbs).toArray⟩), (2, .string ⟨#[]⟩), (1, .pointer (some ⟨b1, 0, none⟩))] [.blk b1 [.bool (decide (z < 0)), sliceV (some (bp, op)) (dgs z.natAbs).length c] 44, oneA (some (bp, op)) (dgs z.natAbs)] ∧ k ≤ 4 ∧ (i + 1 = (dgs z.natAbs).length → k ≠ 0 → z.natAbs / 10 ^ (4 * i + k - 1) ≠ 0)) (fun k => 4 - k) 0 ⟨hS.slots ⟨rfl, rfl, rfl, rfl, rfl, rfl, trivial⟩, Nat.zero_le _, fun _ e => absurd rfl e⟩ ?_
      clear hS a; (try clear w); intro k a w hI
      obtain ⟨hS, hk, hpr⟩ := hI
      refine c_seq ?_
      refine c_seq ?_
      refine c_region ?_
      refine L_op (s_e hS (e_move rfl) rfl ?_); clear hS a; intro a hS
      refine L_op (s_e hS (e_bin rfl rfl rfl) rfl ?_); clear hS a; intro a hS
      refine L_op (s_e hS (e_move rfl) rfl ?_); clear hS a; intro a hS
      (first | refine g_splitD (t := 25) hS rfl ?_ ?_ | refine g_split (t := 25) hS rfl ?_ ?_) <;> (clear hS; intro hg25 hS)
      ·
        refine L_go hS rfl rfl (s_e hS (e_move rfl) rfl ?_); clear hS a; intro a hS
        first | (refine L_go hS rfl rfl (s_e hS (e_fa0 rfl ty_fo44_1) rfl ?_); clear hS a; intro a hS) | (refine L_go hS rfl rfl (s_e hS (e_faK rfl ty_fo44_1) rfl ?_); clear hS a; intro a hS)
        refine L_go hS rfl rfl (s_e hS (e_load rfl (by repeat constructor) ty_sc42 (by rfl)) rfl ?_); clear hS a; intro a hS
        refine L_go hS rfl rfl (s_e hS (e_len rfl rfl ty_sl42) rfl ?_); clear hS a; intro a hS
        first | (refine L_go hS rfl rfl (s_e hS (e_binN rfl rfl rfl (by omega)) rfl ?_); clear hS a; intro a hS) | (refine L_go hS rfl rfl (s_e hS (e_bin rfl rfl rfl) rfl ?_); clear hS a; intro a hS)
        refine L_go hS rfl rfl (s_e hS (e_bin rfl rfl rfl) rfl ?_); clear hS a; intro a hS
        refine L_go hS rfl rfl (s_e hS (e_move rfl) rfl ?_); clear hS a; intro a hS
        (first | refine g_splitD (t := 32) hS rfl ?_ ?_ | refine g_split (t := 32) hS rfl ?_ ?_) <;> (clear hS; intro hg32 hS)
        ·
          refine L_skip_f hS rfl rfl rfl ?_; clear hS a; intro a hS
          refine L_skip_f hS rfl rfl rfl ?_; clear hS a; intro a hS
          first | (refine L_go hS rfl rfl (s_e hS (e_pick_t rfl rfl) rfl ?_); clear hS a; intro a hS) | (refine L_go hS rfl rfl (s_e hS (e_pick_f rfl rfl) rfl ?_); clear hS a; intro a hS)
          first | (refine L_op (s_e hS (e_pick_t rfl rfl) rfl ?_); clear hS a; intro a hS) | (refine L_op (s_e hS (e_pick_f rfl rfl) rfl ?_); clear hS a; intro a hS)
          refine L_nil ?_
          refine n_then ?_
          refine c_if_t hS rfl ?_
          refine wp_skip ?_
          refine n_then ?_
          refine c_seq ?_
          refine wp_block ?_
          refine c_seq ?_
          refine c_region ?_
          have hk4 : k < 4 := by omega
          have hxl := xk_lt (N := z.natAbs) (i := i) (k := k)
          have hll : (Wd.ld (4 * i + k) z.natAbs).length = 4 * i + k := Wd.ld_len _ _
          refine L_op (s_e hS (e_move rfl) rfl ?_); clear hS a; intro a hS
          first | (refine L_op (s_e hS (e_remN rfl rfl (by omega)) rfl ?_); clear hS a; intro a hS) | (refine L_op (s_e hS (e_rem rfl rfl (by omega)) rfl ?_); clear hS a; intro a hS)
          first | (refine L_op (s_e hS (e_binN rfl rfl rfl (by omega)) rfl ?_); clear hS a; intro a hS) | (refine L_op (s_e hS (e_bin rfl rfl rfl) rfl ?_); clear hS a; intro a hS)
          refine L_op (s_e hS (e_conv rfl Try.underlying3 Try.underlying5) rfl ?_); clear hS a; intro a hS
          rw [wrap_u8 (by omega)] at hS
          refine L_op (s_bslice hS ty_sl212 ty_sz5 ty_z5 rfl rfl rfl rfl (.one rfl rfl rfl .nil) rfl ?_); clear hS a; (try clear w); intro a w b43 hS
          refine L_op (s_e hS (e_byte1 rfl (by repeat (first | exact .head _ | refine .tail _ ?_))) rfl ?_); clear hS a; intro a hS
          refine L_op (s_e hS (e_move rfl) rfl ?_); clear hS a; intro a hS
          refine L_op (s_e hS (e_cat rfl rfl (by simp [ByteArray.size]; omega)) rfl ?_); clear hS a; intro a hS
          rw [text_step hk4] at hS
          refine L_op (s_e hS (e_assign rfl) rfl ?_); clear hS a; intro a hS
          refine L_nil ?_
          refine n_then ?_
          refine c_region ?_
          refine L_op (s_e hS (e_move rfl) rfl ?_); clear hS a; intro a hS
          first | (refine L_op (s_e hS (e_quoN rfl rfl (by omega)) rfl ?_); clear hS a; intro a hS) | (refine L_op (s_e hS (e_quo rfl rfl (by omega)) rfl ?_); clear hS a; intro a hS)
          rw [show (xk z.natAbs i k : Int) / 10 = (xk z.natAbs i (k + 1) : Nat) by rw [← xk_div hk4]; omega] at hS
          refine L_op (s_e hS (e_assign rfl) rfl ?_); clear hS a; intro a hS
          refine L_nil ?_
          refine n_block ?_
          refine n_then ?_
          refine c_region ?_
          refine L_op (s_e hS (e_move rfl) rfl ?_); clear hS a; intro a hS
          first | (refine L_op (s_e hS (e_binN rfl rfl rfl (by omega)) rfl ?_); clear hS a; intro a hS) | (refine L_op (s_e hS (e_bin rfl rfl rfl) rfl ?_); clear hS a; intro a hS)
          refine L_op (s_e hS (e_assign rfl) rfl ?_); clear hS a; intro a hS
          refine L_nil ?_
          refine ⟨k + 1, by omega, (hS.drop (by repeat (first | exact List.Sublist.refl _ | apply List.Sublist.cons))).slots (by exact ⟨rfl, rfl, rfl, rfl, rfl, rfl, trivial⟩), by omega, fun e _ => ?_⟩
          rw [show 4 * i + (k + 1) - 1 = 4 * i + k by omega, top_quo e hk]
          omega
        ·
          refine L_go hS rfl rfl (s_e hS (e_move rfl) rfl ?_); clear hS a; intro a hS
          refine L_go hS rfl rfl (s_e hS (e_bin rfl rfl rfl) rfl ?_); clear hS a; intro a hS
          first | (refine L_go hS rfl rfl (s_e hS (e_pick_t rfl rfl) rfl ?_); clear hS a; intro a hS) | (refine L_go hS rfl rfl (s_e hS (e_pick_f rfl rfl) rfl ?_); clear hS a; intro a hS)
          first | (refine L_op (s_e hS (e_pick_t rfl rfl) rfl ?_); clear hS a; intro a hS) | (refine L_op (s_e hS (e_pick_f rfl rfl) rfl ?_); clear hS a; intro a hS)
          refine L_nil ?_
          refine n_then ?_
          first | refine c_ifD hS rfl (fun hc36 => ?_) (fun hc36 => ?_) | refine c_if hS rfl (fun hc36 => ?_) (fun hc36 => ?_)
          ·
            refine wp_skip ?_
            refine n_then ?_
            refine c_seq ?_
            refine wp_block ?_
            refine c_seq ?_
            refine c_region ?_
            have hk4 : k < 4 := by omega
            have hxl := xk_lt (N := z.natAbs) (i := i) (k := k)
            have hll : (Wd.ld (4 * i + k) z.natAbs).length = 4 * i + k := Wd.ld_len _ _
            refine L_op (s_e hS (e_move rfl) rfl ?_); clear hS a; intro a hS
            first | (refine L_op (s_e hS (e_remN rfl rfl (by omega)) rfl ?_); clear hS a; intro a hS) | (refine L_op (s_e hS (e_rem rfl rfl (by omega)) rfl ?_); clear hS a; intro a hS)
            first | (refine L_op (s_e hS (e_binN rfl rfl rfl (by omega)) rfl ?_); clear hS a; intro a hS) | (refine L_op (s_e hS (e_bin rfl rfl rfl) rfl ?_); clear hS a; intro a hS)
            refine L_op (s_e hS (e_conv rfl Try.underlying3 Try.underlying5) rfl ?_); clear hS a; intro a hS
            rw [wrap_u8 (by omega)] at hS
            refine L_op (s_bslice hS ty_sl212 ty_sz5 ty_z5 rfl rfl rfl rfl (.one rfl rfl rfl .nil) rfl ?_); clear hS a; (try clear w); intro a w b43 hS
            refine L_op (s_e hS (e_byte1 rfl (by repeat (first | exact .head _ | refine .tail _ ?_))) rfl ?_); clear hS a; intro a hS
            refine L_op (s_e hS (e_move rfl) rfl ?_); clear hS a; intro a hS
            refine L_op (s_e hS (e_cat rfl rfl (by simp [ByteArray.size]; omega)) rfl ?_); clear hS a; intro a hS
            rw [text_step hk4] at hS
            refine L_op (s_e hS (e_assign rfl) rfl ?_); clear hS a; intro a hS
            refine L_nil ?_
            refine n_then ?_
            refine c_region ?_
            refine L_op (s_e hS (e_move rfl) rfl ?_); clear hS a; intro a hS
            first | (refine L_op (s_e hS (e_quoN rfl rfl (by omega)) rfl ?_); clear hS a; intro a hS) | (refine L_op (s_e hS (e_quo rfl rfl (by omega)) rfl ?_); clear hS a; intro a hS)
            rw [show (xk z.natAbs i k : Int) / 10 = (xk z.natAbs i (k + 1) : Nat) by rw [← xk_div hk4]; omega] at hS
            refine L_op (s_e hS (e_assign rfl) rfl ?_); clear hS a; intro a hS
            refine L_nil ?_
            refine n_block ?_
            refine n_then ?_
            refine c_region ?_
            refine L_op (s_e hS (e_move rfl) rfl ?_); clear hS a; intro a hS
            first | (refine L_op (s_e hS (e_binN rfl rfl rfl (by omega)) rfl ?_); clear hS a; intro a hS) | (refine L_op (s_e hS (e_bin rfl rfl rfl) rfl ?_); clear hS a; intro a hS)
            refine L_op (s_e hS (e_assign rfl) rfl ?_); clear hS a; intro a hS
            refine L_nil ?_
            refine ⟨k + 1, by omega, (hS.drop (by repeat (first | exact List.Sublist.refl _ | apply List.Sublist.cons))).slots (by exact ⟨rfl, rfl, rfl, rfl, rfl, rfl, trivial⟩), by omega, fun e _ => ?_⟩
            rw [show 4 * i + (k + 1) - 1 = 4 * i + k by omega, top_quo e hk]
            omega
          ·
            refine wp_exit ?_
            refine x_then (x_then (x_hit ?_))
            refine n_block ?_
            refine n_then ?_
            refine c_region ?_
            refine L_op (s_e hS (e_move rfl) rfl ?_); clear hS a; intro a hS
            first | (refine L_op (s_e hS (e_binN rfl rfl rfl (by omega)) rfl ?_); clear hS a; intro a hS) | (refine L_op (s_e hS (e_bin rfl rfl rfl) rfl ?_); clear hS a; intro a hS)
            refine L_op (s_e hS (e_assign rfl) rfl ?_); clear hS a; intro a hS
            refine L_nil ?_
            refine ⟨(i + 1, Wd.ld (4 * i + k) z.natAbs), by simp only; omega, hS.slots (by exact ⟨rfl, rfl, rfl, rfl, trivial⟩), by simp only; omega, fun e => ?_, fun e => ?_⟩
            · simp only at e ⊢
              obtain rfl : k = 4 := by omega
              rfl
            · simp only at e ⊢
              have hk0 : k ≠ 0 := by
                rintro rfl
                have := top_pos e
                have h2 := top_quo e (Nat.zero_le 4)
                rw [Nat.add_zero] at h2
                omega
              have hx0 : xk z.natAbs i k = 0 := by
                by_cases h4 : k = 4
                · subst h4; unfold xk; simp [Nat.mod_one]
                · omega
              refine (Wd.dg_all (4 * i + k) z.natAbs (by rw [top_quo e hk]; exact hx0) (.inr (hpr e hk0))).symm
      ·
        refine L_skip_t hS rfl rfl rfl ?_; clear hS a; intro a hS
        refine L_skip_t hS rfl rfl rfl ?_; clear hS a; intro a hS
        refine L_skip_t hS rfl rfl rfl ?_; clear hS a; intro a hS
        refine L_skip_t hS rfl rfl rfl ?_; clear hS a; intro a hS
        refine L_skip_t hS rfl rfl rfl ?_; clear hS a; intro a hS
        refine L_skip_t hS rfl rfl rfl ?_; clear hS a; intro a hS
        refine L_skip_t hS rfl rfl rfl ?_; clear hS a; intro a hS
        refine L_skip_u hS rfl rfl rfl ?_; clear hS a; intro a hS
        refine L_skip_u hS rfl rfl rfl ?_; clear hS a; intro a hS
        refine L_skip_t hS rfl rfl rfl ?_; clear hS a; intro a hS
        first | (refine L_op (s_e hS (e_pick_t rfl rfl) rfl ?_); clear hS a; intro a hS) | (refine L_op (s_e hS (e_pick_f rfl rfl) rfl ?_); clear hS a; intro a hS)
        refine L_nil ?_
        refine n_then ?_
        refine c_if_f hS rfl ?_
        refine wp_exit ?_
        refine x_then (x_then (x_hit ?_))
        refine n_block ?_
        refine n_then ?_
        refine c_region ?_
        refine L_op (s_e hS (e_move rfl) rfl ?_); clear hS a; intro a hS
        first | (refine L_op (s_e hS (e_binN rfl rfl rfl (by omega)) rfl ?_); clear hS a; intro a hS) | (refine L_op (s_e hS (e_bin rfl rfl rfl) rfl ?_); clear hS a; intro a hS)
        refine L_op (s_e hS (e_assign rfl) rfl ?_); clear hS a; intro a hS
        refine L_nil ?_
        refine ⟨(i + 1, Wd.ld (4 * i + k) z.natAbs), by simp only; omega, hS.slots (by exact ⟨rfl, rfl, rfl, rfl, trivial⟩), by simp only; omega, fun e => ?_, fun e => ?_⟩
        · simp only at e ⊢
          obtain rfl : k = 4 := by omega
          rfl
        · simp only at e ⊢
          have hk0 : k ≠ 0 := by
            rintro rfl
            have := top_pos e
            have h2 := top_quo e (Nat.zero_le 4)
            rw [Nat.add_zero] at h2
            omega
          have hx0 : xk z.natAbs i k = 0 := by
            by_cases h4 : k = 4
            · subst h4; unfold xk; simp [Nat.mod_one]
            · omega
          refine (Wd.dg_all (4 * i + k) z.natAbs (by rw [top_quo e hk]; exact hx0) (.inr (hpr e hk0))).symm
    ·
      have hsl := hs2 (by omega)
      subst hsl
      have hzn : z ≠ 0 := by
        rintro rfl
        rw [show (0 : Int).natAbs = 0 from rfl, dgs_zero] at *
        simp at *
      have hta : (Wd.ab z).toNat = z.natAbs := by unfold Wd.ab; split <;> omega
      have hdl := dg_size _ z.natAbs dgs_hi
      refine wp_exit ?_
      refine x_then (x_then (x_hit ?_))
      refine n_then ?_
      refine c_seq ?_
      refine c_seq ?_
      refine c_region ?_
      first | (refine L_op (s_e hS (e_fa0 rfl ty_fo44_0) rfl ?_); clear hS a; intro a hS) | (refine L_op (s_e hS (e_faK rfl ty_fo44_0) rfl ?_); clear hS a; intro a hS)
      refine L_op (s_e hS (e_load rfl (by repeat constructor) ty_sc4 (by rfl)) rfl ?_); clear hS a; intro a hS
      refine L_nil ?_
      refine n_then ?_
      first | refine c_ifD hS rfl (fun hc50 => ?_) (fun hc50 => ?_) | refine c_if hS rfl (fun hc50 => ?_) (fun hc50 => ?_)
      ·
        refine c_seq ?_
        refine c_region ?_
        refine L_op (s_e hS (e_move rfl) rfl ?_); clear hS a; intro a hS
        refine L_op (s_e hS (e_cat rfl rfl (by simp [ByteArray.size]; omega)) rfl ?_); clear hS a; intro a hS
        refine L_op (s_e hS (e_assign rfl) rfl ?_); clear hS a; intro a hS
        refine L_nil ?_
        refine n_then ?_
        refine wp_ret ?_
        refine r_then ?_
        refine c_ret1 hS Try.results135 (.tmp rfl) ?_
        exact ⟨by unfold Wd.text; rw [if_neg hzn, if_pos hc50, hta]; rw [cons_bytes], hS.chg⟩
      ·
        refine wp_skip ?_
        refine n_then ?_
        refine c_seq ?_
        refine c_region ?_
        refine L_op (s_e hS (e_move rfl) rfl ?_); clear hS a; intro a hS
        refine L_op (s_e hS (e_assign rfl) rfl ?_); clear hS a; intro a hS
        refine L_nil ?_
        refine n_then ?_
        refine wp_ret ?_
        refine c_ret1 hS Try.results135 (.tmp rfl) ?_
        exact ⟨by unfold Wd.text; rw [if_neg hzn, if_neg hc50, hta], hS.chg⟩
end Go.Proofs.Ytheofhegdjjfgaa

