/- Plain arithmetic of the 128-bit words: comparison. -/
import Derived.Test.YtheofhegdjjfgaaWdN
namespace Go.Proofs.Ytheofhegdjjfgaa
namespace Wd

theorem xor_top (x : Nat) (h : x < 18446744073709551616) : x ^^^ 9223372036854775808 = if x < 9223372036854775808 then x + 9223372036854775808 else x - 9223372036854775808 := by
  have h1 : (x ^^^ 9223372036854775808) / 2 ^ 63 = (x / 2 ^ 63) ^^^ (9223372036854775808 / 2 ^ 63) := Nat.xor_div_two_pow
  have h2 : (x ^^^ 9223372036854775808) % 2 ^ 63 = (x % 2 ^ 63) ^^^ (9223372036854775808 % 2 ^ 63) := Nat.xor_mod_two_pow
  have e1 : (9223372036854775808 : Nat) / 2 ^ 63 = 1 := by decide
  have e2 : (9223372036854775808 : Nat) % 2 ^ 63 = 0 := by decide
  rw [e1] at h1
  rw [e2, Nat.xor_zero] at h2
  have hx : x / 2 ^ 63 = 0 ∨ x / 2 ^ 63 = 1 := by omega
  rcases hx with hx | hx
  · rw [hx, show (0 ^^^ 1 : Nat) = 1 from rfl] at h1; split <;> omega
  · rw [hx, show (1 ^^^ 1 : Nat) = 0 from rfl] at h1; split <;> omega
theorem fx_of (x : Int) (h0 : 0 ≤ x) (h : x < 18446744073709551616) : bits BinOp.xor IntKind.u64 x 9223372036854775808 = if x < 9223372036854775808 then x + 9223372036854775808 else x - 9223372036854775808 := by
  obtain ⟨n, rfl⟩ := Int.eq_ofNat_of_zero_le h0
  have e := bits_xor_u64_nat n 9223372036854775808 (by omega) (by omega)
  have e2 : ((9223372036854775808 : Nat) : Int) = 9223372036854775808 := rfl
  rw [e2] at e
  rw [e, xor_top n (by omega)]
  split <;> split <;> omega
theorem fx_lt (a b : Int) (ha : fit a) (hb : fit b) (hh : hi a ≠ hi b) (h : a < b) : bits BinOp.xor IntKind.u64 (hi a) 9223372036854775808 < bits BinOp.xor IntKind.u64 (hi b) 9223372036854775808 := by
  rw [fx_of _ (hi_bd a).1 (hi_bd a).2, fx_of _ (hi_bd b).1 (hi_bd b).2]
  unfold fit at ha hb
  unfold hi at *
  split <;> split <;> omega
theorem lo_lt_of (a b : Int) (ha : fit a) (hb : fit b) (hh : hi a = hi b) (h : a < b) : lo a < lo b := by
  unfold fit at ha hb; unfold hi at hh; unfold lo; omega

end Wd
end Go.Proofs.Ytheofhegdjjfgaa
