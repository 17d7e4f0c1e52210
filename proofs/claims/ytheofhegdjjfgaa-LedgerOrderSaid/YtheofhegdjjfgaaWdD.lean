/- The long division of two words by one: plain arithmetic. -/
import Derived.Test.YtheofhegdjjfgaaWdO
import Derived.Lib.BitFns
namespace Go.Proofs.Ytheofhegdjjfgaa
namespace Wd

/-- what holds of a guessed digit q and its rest r: not too small; q times the high half and the rest make u. -/
def KI (y1 y0 u u1 q r : Int) : Prop := 0 ≤ q ∧ q ≤ 4294967297 ∧ 0 ≤ r ∧ r < 4294967296 ∧ q * y1 + r = u ∧ (u * 4294967296 + u1) / (y1 * 4294967296 + y0) ≤ q
/-- a normalized divisor and a dividend of three halves. -/
def KD (y1 y0 u u1 : Int) : Prop := 2147483648 ≤ y1 ∧ y1 < 4294967296 ∧ 0 ≤ y0 ∧ y0 < 4294967296 ∧ 0 ≤ u1 ∧ u1 < 4294967296 ∧ 0 ≤ u ∧ u < y1 * 4294967296 + y0
def Kq (y1 y0 u u1 : Int) : Int := (u * 4294967296 + u1) / (y1 * 4294967296 + y0)
def Kr (y1 y0 u u1 : Int) : Int := (u * 4294967296 + u1) % (y1 * 4294967296 + y0)

theorem KI_mul {y1 y0 u u1 q r : Int} (h : q * y1 + r = u) : q * (y1 * 4294967296 + y0) - (u * 4294967296 + u1) = q * y0 - r * 4294967296 - u1 := by
  rw [Int.mul_add, ← Int.mul_assoc]; generalize q * y0 = p; omega
theorem KI_init {y1 y0 u u1 : Int} (d : KD y1 y0 u u1) : KI y1 y0 u u1 (u / y1) (u % y1) := by
  obtain ⟨a, b, c, e, f, g, i, j⟩ := d
  have hq0 : 0 ≤ u / y1 := Int.ediv_nonneg i (by omega)
  have hr0 := Int.emod_nonneg u (show y1 ≠ 0 by omega)
  have hr1 := Int.emod_lt_of_pos u (show 0 < y1 by omega)
  have hm : u / y1 * y1 + u % y1 = u := Int.ediv_mul_add_emod u y1
  refine ⟨hq0, ?_, hr0, by omega, hm, ?_⟩
  · have : u / y1 < 4294967298 := (Int.ediv_lt_iff_lt_mul (by omega)).2 (by omega)
    omega
  · have h : (u * 4294967296 + u1) / (y1 * 4294967296 + y0) < u / y1 + 1 := by
      refine (Int.ediv_lt_iff_lt_mul (by omega)).2 ?_
      have e1 := KI_mul (y1 := y1) (y0 := y0) (u := u) (u1 := u1) (q := u / y1 + 1) (r := u % y1 - y1) (by rw [Int.add_mul]; omega)
      have h2 : 0 ≤ (u / y1 + 1) * y0 := Int.mul_nonneg (by omega) c
      omega
    omega
theorem KI_low {y1 y0 u u1 q r : Int} (k : KI y1 y0 u u1 q r) (d : KD y1 y0 u u1) (h : 4294967296 ≤ q ∨ 4294967296 * r + u1 < q * y0) : (u * 4294967296 + u1) / (y1 * 4294967296 + y0) ≤ q - 1 ∧ 1 ≤ q := by
  obtain ⟨a, b, c, e, f, g, i, j⟩ := d
  obtain ⟨k1, k2, k3, k4, k5, k6⟩ := k
  have hY : 0 < y1 * 4294967296 + y0 := by omega
  have e1 := KI_mul (y0 := y0) (u1 := u1) k5
  have hlt : u * 4294967296 + u1 < q * (y1 * 4294967296 + y0) := by
    rcases h with h | h
    · have h2 := Int.mul_le_mul_of_nonneg_right (a := 4294967296) (b := q) (c := y1 * 4294967296 + y0) h (by omega)
      omega
    · omega
  have h3 := (Int.ediv_lt_iff_lt_mul hY).2 hlt
  have h4 : 0 ≤ (u * 4294967296 + u1) / (y1 * 4294967296 + y0) := Int.ediv_nonneg (by omega) (by omega)
  omega
theorem KI_step {y1 y0 u u1 q r : Int} (k : KI y1 y0 u u1 q r) (d : KD y1 y0 u u1) (h : 4294967296 ≤ q ∨ 4294967296 * r + u1 < q * y0) (hr : r + y1 < 4294967296) : KI y1 y0 u u1 (q - 1) (r + y1) := by
  have hl := KI_low k d h
  obtain ⟨a, b, c, e, f, g, i, j⟩ := d
  obtain ⟨k1, k2, k3, k4, k5, k6⟩ := k
  refine ⟨by omega, by omega, by omega, hr, ?_, hl.1⟩
  rw [Int.sub_mul]; omega
theorem KI_ge {y1 y0 u u1 q r : Int} (d : KD y1 y0 u u1) (h : q * y1 + r = u) (hle : q * y0 ≤ r * 4294967296 + u1) : q ≤ (u * 4294967296 + u1) / (y1 * 4294967296 + y0) := by
  obtain ⟨a, b, c, e, f, g, i, j⟩ := d
  have e1 := KI_mul (y0 := y0) (u1 := u1) h
  exact (Int.le_ediv_iff_mul_le (by omega)).2 (by omega)
theorem KI_break {y1 y0 u u1 q r : Int} (k : KI y1 y0 u u1 q r) (d : KD y1 y0 u u1) (h : 4294967296 ≤ q ∨ 4294967296 * r + u1 < q * y0) (hr : 4294967296 ≤ r + y1) : q - 1 = Kq y1 y0 u u1 := by
  have hl := KI_low k d h
  have hg := KI_ge (q := q - 1) (r := r + y1) d (by rw [Int.sub_mul]; have := k.2.2.2.2.1; omega) (by
    obtain ⟨a, b, c, e, f, g, i, j⟩ := d
    obtain ⟨k1, k2, k3, k4, k5, k6⟩ := k
    have h2 := Int.mul_le_mul (a := q - 1) (b := y0) (c := 4294967296) (d := 4294967295) (by omega) (by omega) c (by omega)
    omega)
  unfold Kq; omega
theorem KI_exit {y1 y0 u u1 q r : Int} (k : KI y1 y0 u u1 q r) (d : KD y1 y0 u u1) (h : q * y0 ≤ 4294967296 * r + u1) : q = Kq y1 y0 u u1 := by
  have hg := KI_ge d k.2.2.2.2.1 (by omega)
  have := k.2.2.2.2.2
  unfold Kq; omega
theorem Kq_bd {y1 y0 u u1 : Int} (d : KD y1 y0 u u1) : 0 ≤ Kq y1 y0 u u1 ∧ Kq y1 y0 u u1 < 4294967296 := by
  obtain ⟨a, b, c, e, f, g, i, j⟩ := d
  exact ⟨Int.ediv_nonneg (by omega) (by omega), (Int.ediv_lt_iff_lt_mul (by omega)).2 (by omega)⟩
theorem Kr_bd {y1 y0 u u1 : Int} (d : KD y1 y0 u u1) : 0 ≤ Kr y1 y0 u u1 ∧ Kr y1 y0 u u1 < y1 * 4294967296 + y0 := by
  obtain ⟨a, b, c, e, f, g, i, j⟩ := d
  exact ⟨Int.emod_nonneg _ (by omega), Int.emod_lt_of_pos _ (by omega)⟩
theorem Kqr (y1 y0 u u1 : Int) : Kq y1 y0 u u1 * (y1 * 4294967296 + y0) + Kr y1 y0 u u1 = u * 4294967296 + u1 := Int.ediv_mul_add_emod _ _
/-- the rest, as the words come to it: modulo 2 to the 64. -/
theorem Kr_wrap {y1 y0 u u1 : Int} (d : KD y1 y0 u u1) : (u * 4294967296 + u1 - Kq y1 y0 u u1 * (y1 * 4294967296 + y0)) % 18446744073709551616 = Kr y1 y0 u u1 := by
  have h := Kqr y1 y0 u u1
  have hb := Kr_bd d
  obtain ⟨a, b, c, e, f, g, i, j⟩ := d
  generalize Kq y1 y0 u u1 * (y1 * 4294967296 + y0) = p at *
  omega

/-- how far the divisor is shifted: its leading zeros. -/
def lz (y : Int) : Nat := 64 - Lib.bitLen y.toNat
theorem bitLenAux_le : ∀ f x, Lib.bitLenAux f x ≤ f
  | 0, _ => Nat.le_refl _
  | f + 1, x => by unfold Lib.bitLenAux; split; omega; have := bitLenAux_le f (x / 2); omega
theorem bitLenAux_pow : ∀ f x, x < 2 ^ f → 0 < x → 2 ^ (Lib.bitLenAux f x - 1) ≤ x ∧ x < 2 ^ Lib.bitLenAux f x ∧ 1 ≤ Lib.bitLenAux f x
  | 0, x, h, h0 => by simp at h; omega
  | f + 1, x, h, h0 => by
    unfold Lib.bitLenAux
    rw [if_neg (by omega)]
    by_cases h1 : x / 2 = 0
    · rw [h1]
      have e : Lib.bitLenAux f 0 = 0 := by cases f <;> simp [Lib.bitLenAux]
      rw [e]; simp; omega
    · have ih := bitLenAux_pow f (x / 2) (by rw [Nat.pow_succ] at h; omega) (by omega)
      obtain ⟨a, b, c⟩ := ih
      generalize Lib.bitLenAux f (x / 2) = k at *
      obtain ⟨k, rfl⟩ : ∃ j, k = j + 1 := ⟨k - 1, by omega⟩
      simp only [Nat.add_sub_cancel] at a
      refine ⟨?_, ?_, by omega⟩
      · rw [show 1 + (k + 1) - 1 = k + 1 from by omega, Nat.pow_succ]; omega
      · rw [show 1 + (k + 1) = (k + 1) + 1 from by omega, Nat.pow_succ]; omega
theorem lz_of (y : Int) (h0 : 0 < y) (h1 : y < 18446744073709551616) : Lib.bitLen y.toNat ≤ 64 ∧ lz y ≤ 63 ∧ 9223372036854775808 ≤ y * 2 ^ lz y ∧ y * 2 ^ lz y < 18446744073709551616 := by
  obtain ⟨n, rfl⟩ := Int.eq_ofNat_of_zero_le (show 0 ≤ y by omega)
  have hb := bitLenAux_le 64 n
  have hp := bitLenAux_pow 64 n (by omega) (by omega)
  unfold lz Lib.bitLen
  rw [Int.toNat_natCast]
  generalize Lib.bitLenAux 64 n = k at *
  obtain ⟨a, b, c⟩ := hp
  refine ⟨hb, by omega, ?_, ?_⟩
  · have h : 2 ^ (k - 1) * 2 ^ (64 - k) ≤ n * 2 ^ (64 - k) := Nat.mul_le_mul_right _ a
    rw [← Nat.pow_add, show k - 1 + (64 - k) = 63 from by omega] at h
    have : ((2 ^ 63 : Nat) : Int) ≤ ((n * 2 ^ (64 - k) : Nat) : Int) := by omega
    simpa using this
  · have h : n * 2 ^ (64 - k) < 2 ^ k * 2 ^ (64 - k) := Nat.mul_lt_mul_of_pos_right b (Nat.two_pow_pos _)
    rw [← Nat.pow_add, show k + (64 - k) = 64 from by omega] at h
    have : ((n * 2 ^ (64 - k) : Nat) : Int) < ((2 ^ 64 : Nat) : Int) := by omega
    simpa using this

end Wd
end Go.Proofs.Ytheofhegdjjfgaa
