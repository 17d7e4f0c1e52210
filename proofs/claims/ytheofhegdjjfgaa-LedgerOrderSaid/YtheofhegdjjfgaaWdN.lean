/- More plain arithmetic of the 128-bit words. -/
import Derived.Test.YtheofhegdjjfgaaWdM
namespace Go.Proofs.Ytheofhegdjjfgaa
namespace Wd

/-- a size (no sign) and its turning over. -/
theorem size_lt (s : Int) (h0 : 0 ≤ s) (h : s < 170141183460469231731687303715884105728) : decide (9223372036854775808 ≤ hi s) = false := hi_lt s (by unfold fit; omega) h0
theorem size_ge (s : Int) (h0 : 170141183460469231731687303715884105728 ≤ s) (h : s < 340282366920938463463374607431768211456) : decide (9223372036854775808 ≤ hi s) = true := by
  have : 9223372036854775808 ≤ hi s := by unfold hi; omega
  simpa using this
theorem size_ne (s : Int) (h0 : 170141183460469231731687303715884105728 ≤ s) (h : s < 340282366920938463463374607431768211456) : (hi s != 0) = true := by
  have : hi s ≠ 0 := by unfold hi; omega
  simpa using this
theorem turn_ge (s : Int) (h0 : 0 < s) (h : s ≤ 170141183460469231731687303715884105728) : decide (9223372036854775808 ≤ hi (-s)) = true := hi_ge (-s) (by unfold fit; omega) (by omega)
theorem turn_lt (s : Int) (h0 : 170141183460469231731687303715884105728 < s) (h : s < 340282366920938463463374607431768211456) : decide (9223372036854775808 ≤ hi (-s)) = false := by
  have : ¬ 9223372036854775808 ≤ hi (-s) := by unfold hi; omega
  simpa using this

/-- what an operation answers for a whole number: it, or 0; and the error's number. -/
def tr (v : Int) : Int := if fit v then v else 0
def er (v : Int) : Int := if fit v then 0 else 16
theorem tr_of {v : Int} (h : fit v) : tr v = v := if_pos h
theorem er_of {v : Int} (h : fit v) : er v = 0 := if_pos h
theorem tr_no {v : Int} (h : ¬ fit v) : tr v = 0 := if_neg h
theorem er_no {v : Int} (h : ¬ fit v) : er v = 16 := if_neg h
theorem fit_tr (v : Int) : fit (tr v) := by unfold tr; split; assumption; decide
def sv (neg : Bool) (s : Int) : Int := if neg = true then -s else s

theorem mul_lo (S w : Int) : lo (lo S * w) = lo (S * w) := by
  unfold lo; rw [Int.mul_emod (S % 18446744073709551616), Int.emod_emod_of_dvd _ (Int.dvd_refl _), ← Int.mul_emod]
theorem mul_split (S w : Int) (h0 : 0 ≤ S) (h1 : S < 340282366920938463463374607431768211456) : S * w = hi S * w * 18446744073709551616 + lo S * w := by
  have h := hi_lo S h0 h1
  have e : (hi S * 18446744073709551616 + lo S) * w = hi S * w * 18446744073709551616 + lo S * w := by rw [Int.add_mul, Int.mul_right_comm]
  rw [h] at e; exact e
/-- the carry into the word above the high one. -/
def cy3 (S w : Int) : Int := (lo (hi S * w) + hi (lo S * w) + 0) / 18446744073709551616
theorem mul_hi (S w : Int) (h0 : 0 ≤ S) (h1 : S < 340282366920938463463374607431768211456) : (lo (hi S * w) + hi (lo S * w) + 0) % 18446744073709551616 = hi (S * w) := by
  rw [mul_split S w h0 h1]; generalize hi S * w = p; generalize lo S * w = q; unfold lo hi; omega
theorem cy3_bd (S w : Int) : 0 ≤ cy3 S w ∧ cy3 S w ≤ 1 := by unfold cy3 lo hi; omega
theorem word_mul {x y : Int} (hx : 0 ≤ x) (hx1 : x < 18446744073709551616) (hy : 0 ≤ y) (hy1 : y < 18446744073709551616) : 0 ≤ x * y ∧ x * y ≤ 340282366920938463426481119284349108225 :=
  ⟨Int.mul_nonneg hx hy, by have := Int.mul_le_mul (a := x) (b := y) (c := 18446744073709551615) (d := 18446744073709551615) (by omega) (by omega) hy (by omega); omega⟩
theorem half_mul {x y : Int} (hx : 0 ≤ x) (hx1 : x ≤ 9223372036854775808) (hy : 0 ≤ y) (hy1 : y ≤ 9223372036854775808) : 0 ≤ x * y ∧ x * y ≤ 85070591730234615865843651857942052864 :=
  ⟨Int.mul_nonneg hx hy, by have := Int.mul_le_mul (a := x) (b := y) (c := 9223372036854775808) (d := 9223372036854775808) hx1 hy1 hy (by omega); omega⟩
/-- no word above the high one is wanted just where the product is below 2 to the 128. -/
theorem ov_zero (S w : Int) (h0 : 0 ≤ S) (h1 : S < 340282366920938463463374607431768211456) (hw : 0 ≤ w) (hw1 : w < 18446744073709551616) (h : S * w < 340282366920938463463374607431768211456) : hi (hi S * w) = 0 ∧ cy3 S w = 0 := by
  have hp := word_mul (hi_bd S).1 (hi_bd S).2 hw hw1
  have hq := word_mul (lo_bd S).1 (lo_bd S).2 hw hw1
  rw [mul_split S w h0 h1] at h
  unfold cy3
  generalize hi S * w = p at *; generalize lo S * w = q at *
  unfold hi lo; omega
theorem ov_pos (S w : Int) (h0 : 0 ≤ S) (h1 : S < 340282366920938463463374607431768211456) (hw : 0 ≤ w) (hw1 : w < 18446744073709551616) (h : 340282366920938463463374607431768211456 ≤ S * w) : 0 < hi (hi S * w) + cy3 S w := by
  have hp := word_mul (hi_bd S).1 (hi_bd S).2 hw hw1
  have hq := word_mul (lo_bd S).1 (lo_bd S).2 hw hw1
  rw [mul_split S w h0 h1] at h
  unfold cy3
  generalize hi S * w = p at *; generalize lo S * w = q at *
  unfold hi lo; omega
theorem ab_bd (n : Int) (h1 : -9223372036854775808 ≤ n) (h2 : n < 9223372036854775808) : 0 ≤ ab n ∧ ab n ≤ 9223372036854775808 := by unfold ab; split <;> omega
theorem ab_mul (a b : Int) : ab a * ab b = ab (a * b) := by
  unfold ab
  by_cases ha : a < 0
  · by_cases hb : b < 0
    · have h : 0 ≤ a * b := Int.mul_nonneg_of_nonpos_of_nonpos (by omega) (by omega)
      rw [if_pos ha, if_pos hb, if_neg (by omega), Int.neg_mul_neg]
    · by_cases h0 : b = 0
      · subst h0; simp
      · have h : a * b < 0 := Int.mul_neg_of_neg_of_pos ha (by omega)
        rw [if_pos ha, if_neg hb, if_pos h, Int.neg_mul]
  · by_cases hb : b < 0
    · by_cases h0 : a = 0
      · subst h0; simp
      · have h : a * b < 0 := Int.mul_neg_of_pos_of_neg (by omega) hb
        rw [if_neg ha, if_pos hb, if_pos h, Int.mul_neg]
    · have h : 0 ≤ a * b := Int.mul_nonneg (by omega) (by omega)
      rw [if_neg ha, if_neg hb, if_neg (by omega)]
theorem sv_mul (a b : Int) : sv (!(decide (a < 0) == decide (b < 0))) (ab a * ab b) = a * b := by
  unfold ab sv
  by_cases ha : a < 0 <;> by_cases hb : b < 0 <;> simp [ha, hb, Int.neg_mul, Int.mul_neg]

theorem sv_mulw (a n : Int) (hf : fit a) : sv (!(decide (9223372036854775808 ≤ hi a) == decide (n < 0))) (ab a * ab n) = a * n := by
  have e : decide (9223372036854775808 ≤ hi a) = decide (a < 0) := by
    have := hi_neg a hf
    by_cases h : a < 0 <;> simp [this, h]
  rw [e]; exact sv_mul a n

theorem hi_small (S w : Int) (h0 : 0 ≤ S) (h1 : S ≤ 170141183460469231731687303715884105728) (hw : 0 ≤ w) (hw1 : w ≤ 9223372036854775808) : 0 ≤ hi (hi S * w) ∧ hi (hi S * w) ≤ 9223372036854775808 := by
  have hp := half_mul (hi_bd S).1 (show hi S ≤ 9223372036854775808 by unfold hi; omega) hw hw1
  generalize hi S * w = p at *
  unfold hi; omega

theorem ab_lt (v : Int) (h : fit v) : ab v < 340282366920938463463374607431768211456 := by have := ab_le v h; omega
theorem sv_neg (v : Int) : sv (decide (0 < sg v)) (ab v) = -v := by
  unfold sv sg ab
  by_cases h : v < 0
  · simp [h]
  · by_cases h0 : v = 0
    · subst h0; rfl
    · simp [h, h0]

end Wd
end Go.Proofs.Ytheofhegdjjfgaa
