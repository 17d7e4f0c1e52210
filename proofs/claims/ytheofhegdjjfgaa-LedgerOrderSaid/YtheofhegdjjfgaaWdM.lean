/- The 128-bit words of a whole number: the two halves, and what sums, differences and turning over do to them. Plain arithmetic; no program. -/
import Derived.WalkKit
namespace Go.Proofs.Ytheofhegdjjfgaa
namespace Wd

/-- the high word of a whole number, as 64 bits. -/
def hi (v : Int) : Int := v / 18446744073709551616 % 18446744073709551616
/-- the low word. -/
def lo (v : Int) : Int := v % 18446744073709551616

theorem hi_bd (v : Int) : 0 ≤ hi v ∧ hi v < 18446744073709551616 := by unfold hi; omega
theorem lo_bd (v : Int) : 0 ≤ lo v ∧ lo v < 18446744073709551616 := by unfold lo; omega
theorem hi_lo (v : Int) (h : 0 ≤ v) (h' : v < 340282366920938463463374607431768211456) : hi v * 18446744073709551616 + lo v = v := by unfold hi lo; omega
/-- what is a number of 128 bits with a sign. -/
def fit (v : Int) : Prop := -170141183460469231731687303715884105728 ≤ v ∧ v < 170141183460469231731687303715884105728
instance (v : Int) : Decidable (fit v) := by unfold fit; infer_instance
theorem hi_neg (v : Int) (h : fit v) : 9223372036854775808 ≤ hi v ↔ v < 0 := by unfold fit at h; unfold hi; omega
theorem eq_of (a b : Int) (ha : fit a) (hb : fit b) (h1 : hi a = hi b) (h2 : lo a = lo b) : a = b := by unfold fit at ha hb; unfold hi at h1; unfold lo at h2; omega
/-- two words are the words of one number with a sign. -/
def val (x y : Int) : Int := if x < 9223372036854775808 then x * 18446744073709551616 + y else x * 18446744073709551616 + y - 340282366920938463463374607431768211456
theorem val_fit (x y : Int) (hx : 0 ≤ x) (hx' : x < 18446744073709551616) (hy : 0 ≤ y) (hy' : y < 18446744073709551616) : fit (val x y) := by unfold val fit; split <;> omega
theorem hi_val (x y : Int) (hx : 0 ≤ x) (hx' : x < 18446744073709551616) (hy : 0 ≤ y) (hy' : y < 18446744073709551616) : hi (val x y) = x := by unfold val hi; split <;> omega
theorem lo_val (x y : Int) (hy : 0 ≤ y) (hy' : y < 18446744073709551616) : lo (val x y) = y := by unfold val lo; split <;> omega
theorem val_of (v : Int) (h : fit v) : val (hi v) (lo v) = v := by unfold fit at h; unfold val hi lo; split <;> omega

theorem lo_zero : lo 0 = 0 := rfl
theorem hi_zero : hi 0 = 0 := rfl

/-- a sum of two words and a carry: the rest and the carry out. -/
theorem add_lo (a b : Int) : (lo a + lo b + 0) % 18446744073709551616 = lo (a + b) := by unfold lo; omega
theorem add_hi (a b : Int) : (hi a + hi b + (lo a + lo b + 0) / 18446744073709551616) % 18446744073709551616 = hi (a + b) := by unfold hi lo; omega
theorem sub_lo (a b : Int) : (lo a + 18446744073709551616 - lo b - 0) % 18446744073709551616 = lo (a - b) := by unfold lo; omega
theorem sub_hi (a b : Int) : (hi a + 18446744073709551616 - hi b - (if lo a < lo b + 0 then 1 else 0)) % 18446744073709551616 = hi (a - b) := by unfold hi lo; split <;> omega
theorem neg_lo (b : Int) : (0 + 18446744073709551616 - lo b - 0) % 18446744073709551616 = lo (-b) := by unfold lo; omega
theorem neg_hi (b : Int) : (0 + 18446744073709551616 - hi b - (if 0 < lo b + 0 then 1 else 0)) % 18446744073709551616 = hi (-b) := by unfold hi lo; split <;> omega

/-- the carry out of the low words of a sum; the borrow of a difference. -/
def cy (a b : Int) : Int := (lo a + lo b + 0) / 18446744073709551616
def bw (a b : Int) : Int := if lo a < lo b + 0 then 1 else 0
theorem cy_bd (a b : Int) : 0 ≤ cy a b ∧ cy a b ≤ 1 := by unfold cy lo; omega
theorem bw_bd (a b : Int) : 0 ≤ bw a b ∧ bw a b ≤ 1 := by unfold bw; split <;> omega
theorem carry_hi (a b : Int) : (hi a + hi b + cy a b) % 18446744073709551616 = hi (a + b) := add_hi a b
theorem borrow_hi (a b : Int) : (hi a + 18446744073709551616 - hi b - bw a b) % 18446744073709551616 = hi (a - b) := sub_hi a b
def cy2 (a b : Int) : Int := (hi a + hi b + cy a b) / 18446744073709551616
def bw2 (a b : Int) : Int := if hi a < hi b + bw a b then 1 else 0

theorem hi_ge (v : Int) (h : fit v) (hn : v < 0) : decide (9223372036854775808 ≤ hi v) = true := by have := (hi_neg v h).2 hn; simp [this]
theorem hi_lt (v : Int) (h : fit v) (hn : 0 ≤ v) : decide (9223372036854775808 ≤ hi v) = false := by
  have h1 : ¬ 9223372036854775808 ≤ hi v := fun h2 => by have := (hi_neg v h).1 h2; omega
  simp [h1]

theorem wrap_lo (n : Int) : IntKind.u64.wrap n = lo n := by rw [IntKind.wrap_u64]; rfl
theorem wrap_hi (n : Int) (h1 : -9223372036854775808 ≤ n) (h2 : n < 9223372036854775808) : IntKind.u64.wrap (n / 9223372036854775808) = hi n := by rw [IntKind.wrap_u64]; unfold hi; omega

/-- without its sign. -/
def ab (v : Int) : Int := if v < 0 then -v else v
theorem ab_nonneg (v : Int) : 0 ≤ ab v := by unfold ab; split <;> omega
theorem ab_le (v : Int) (h : fit v) : ab v ≤ 170141183460469231731687303715884105728 := by unfold fit at h; unfold ab; split <;> omega
theorem ab_lo (n : Int) (h1 : -9223372036854775808 ≤ n) (h2 : n < 9223372036854775808) : lo (ab n) = ab n := by unfold lo ab; split <;> omega
/-- the sign. -/
def sg (v : Int) : Int := if v < 0 then -1 else if v = 0 then 0 else 1

/-- the low word as an int. -/
def back (v : Int) : Int := RowKit.wrap64 (lo v)
theorem back_eq (v : Int) : RowKit.wrap64 (lo v) = back v := rfl
theorem back_bd (v : Int) : -9223372036854775808 ≤ back v ∧ back v < 9223372036854775808 := by unfold back RowKit.wrap64; omega
theorem back_of (v : Int) (h1 : -9223372036854775808 ≤ v) (h2 : v < 9223372036854775808) : back v = v := by unfold back RowKit.wrap64; unfold lo; omega
theorem back_lo (v : Int) : (lo (back v) == lo v) = true := by
  have : lo (back v) = lo v := by unfold back RowKit.wrap64 lo; omega
  simpa using this
theorem back_ne (v : Int) (hf : fit v) (h : v < -9223372036854775808 ∨ 9223372036854775808 ≤ v) : (hi (back v) == hi v) = false := by
  have hb := back_bd v
  have h0 : ¬ (hi (back v) = hi v) := fun a => by
    have := eq_of (back v) v (by unfold fit; omega) hf a (by simpa using back_lo v)
    omega
  simpa using h0

end Wd
end Go.Proofs.Ytheofhegdjjfgaa
