/- The long division of two words by one: the shifts, and what comes out. -/
import Derived.Test.YtheofhegdjjfgaaWdD
namespace Go.Proofs.Ytheofhegdjjfgaa
namespace Wd

def dY (y : Int) : Int := y * 2 ^ lz y
def d1 (y : Int) : Int := dY y / 4294967296
def d0 (y : Int) : Int := dY y % 4294967296
def dH (x l y : Int) : Int := x * 2 ^ lz y + l / 2 ^ (64 - lz y)
def dL (l y : Int) : Int := l * 2 ^ lz y % 18446744073709551616
def e1 (l y : Int) : Int := dL l y / 4294967296
def e0 (l y : Int) : Int := dL l y % 4294967296

theorem and_mask (a : Int) (h0 : 0 ≤ a) (h1 : a < 18446744073709551616) : bits .and .u64 a 4294967295 = a % 4294967296 := by
  obtain ⟨n, rfl⟩ := Int.eq_ofNat_of_zero_le h0
  have h := bits_and_u64_nat n 4294967295 (by omega) (by omega)
  rw [show n &&& 4294967295 = n % 4294967296 from Nat.and_two_pow_sub_one_eq_mod n 32] at h
  exact h
theorem or_shift (x t : Int) (s : Nat) (hx : 0 ≤ x) (ht : 0 ≤ t) (hts : t < 2 ^ s) (hb : x * 2 ^ s < 18446744073709551616) (hs : s ≤ 63) : bits .or .u64 (x * 2 ^ s) t = x * 2 ^ s + t := by
  obtain ⟨n, rfl⟩ := Int.eq_ofNat_of_zero_le hx
  obtain ⟨m, rfl⟩ := Int.eq_ofNat_of_zero_le ht
  have e : ((n : Int) * 2 ^ s) = ((n * 2 ^ s : Nat) : Int) := by simp
  have hm : m < 2 ^ s := by
    have e2 : ((2 : Int) ^ s) = ((2 ^ s : Nat) : Int) := by simp
    rw [e2] at hts; omega
  rw [e] at hb ⊢
  have hp : 2 ^ s ≤ 2 ^ 63 := Nat.pow_le_pow_right (by decide) hs
  rw [bits_or_u64_nat (n * 2 ^ s) m (by omega) (by omega), ← Nat.shiftLeft_eq, ← Nat.shiftLeft_add_eq_or_of_lt hm]
  simp
theorem pow_pos (s : Nat) : (0 : Int) < 2 ^ s := Int.pow_pos (by decide)
theorem pow_split (s : Nat) (hs : s ≤ 64) : (2 : Int) ^ (64 - s) * 2 ^ s = 18446744073709551616 := by
  rw [← Int.pow_add, Nat.sub_add_cancel hs]; rfl
theorem low_of (l : Int) (s : Nat) (hs : s ≤ 64) : l / 2 ^ (64 - s) * 18446744073709551616 + l * 2 ^ s % 18446744073709551616 = l * 2 ^ s := by
  have h : l * 2 ^ s / 18446744073709551616 = l / 2 ^ (64 - s) := by
    rw [← pow_split s hs]; exact Int.mul_ediv_mul_of_pos_left _ _ (pow_pos s)
  rw [← h]; omega
theorem dHL (x l y : Int) (hz : lz y ≤ 63) : dH x l y * 18446744073709551616 + dL l y = (x * 18446744073709551616 + l) * 2 ^ lz y := by
  have h := low_of l (lz y) (by omega)
  unfold dH dL
  rw [Int.add_mul, Int.add_mul, Int.mul_right_comm x 18446744073709551616]
  omega
theorem dL_bd (l y : Int) : 0 ≤ dL l y ∧ dL l y < 18446744073709551616 := by unfold dL; omega
theorem e_bd (l y : Int) : 0 ≤ e1 l y ∧ e1 l y < 4294967296 ∧ 0 ≤ e0 l y ∧ e0 l y < 4294967296 ∧ e1 l y * 4294967296 + e0 l y = dL l y := by
  have := dL_bd l y; unfold e1 e0; omega
theorem dY_bd (y : Int) (h0 : 0 < y) (h1 : y < 18446744073709551616) : 9223372036854775808 ≤ dY y ∧ dY y < 18446744073709551616 := (lz_of y h0 h1).2.2
theorem d_bd (y : Int) (h0 : 0 < y) (h1 : y < 18446744073709551616) : 2147483648 ≤ d1 y ∧ d1 y < 4294967296 ∧ 0 ≤ d0 y ∧ d0 y < 4294967296 ∧ d1 y * 4294967296 + d0 y = dY y := by
  have := dY_bd y h0 h1; unfold d1 d0; omega
theorem dH_bd (x l y : Int) (hx : 0 ≤ x) (hxy : x < y) (hl : 0 ≤ l) (hl1 : l < 18446744073709551616) (h1 : y < 18446744073709551616) : 0 ≤ dH x l y ∧ dH x l y < dY y := by
  have hz := (lz_of y (by omega) h1).2.1
  have hp := pow_pos (lz y)
  have e := dHL x l y hz
  have hb := dL_bd l y
  refine ⟨?_, ?_⟩
  · unfold dH; exact Int.add_nonneg (Int.mul_nonneg hx (by omega)) (Int.ediv_nonneg hl (Int.le_of_lt (pow_pos _)))
  · have h : (x * 18446744073709551616 + l) * 2 ^ lz y < (y * 18446744073709551616) * 2 ^ lz y := Int.mul_lt_mul_of_pos_right (by omega) hp
    rw [← e, Int.mul_right_comm] at h
    unfold dY; omega
theorem KD_hi (x l y : Int) (hx : 0 ≤ x) (hxy : x < y) (hl : 0 ≤ l) (hl1 : l < 18446744073709551616) (h1 : y < 18446744073709551616) : KD (d1 y) (d0 y) (dH x l y) (e1 l y) := by
  have a := d_bd y (by omega) h1
  have b := dH_bd x l y hx hxy hl hl1 h1
  have c := e_bd l y
  unfold KD; omega
def dR (x l y : Int) : Int := Kr (d1 y) (d0 y) (dH x l y) (e1 l y)
theorem KD_lo (x l y : Int) (hx : 0 ≤ x) (hxy : x < y) (hl : 0 ≤ l) (hl1 : l < 18446744073709551616) (h1 : y < 18446744073709551616) : KD (d1 y) (d0 y) (dR x l y) (e0 l y) := by
  have a := d_bd y (by omega) h1
  have b := Kr_bd (KD_hi x l y hx hxy hl hl1 h1)
  have c := e_bd l y
  unfold KD dR; omega
theorem out_of (x l y : Int) (hx : 0 ≤ x) (hxy : x < y) (hl : 0 ≤ l) (hl1 : l < 18446744073709551616) (h1 : y < 18446744073709551616) :
    Kq (d1 y) (d0 y) (dH x l y) (e1 l y) * 4294967296 + Kq (d1 y) (d0 y) (dR x l y) (e0 l y) = (x * 18446744073709551616 + l) / y ∧
    Kr (d1 y) (d0 y) (dR x l y) (e0 l y) / 2 ^ lz y = (x * 18446744073709551616 + l) % y := by
  have hy : 0 < y := by omega
  have hz := (lz_of y hy h1).2.1
  have a := d_bd y hy h1
  have c := e_bd l y
  have k1 := Kqr (d1 y) (d0 y) (dH x l y) (e1 l y)
  have k2 := Kqr (d1 y) (d0 y) (dR x l y) (e0 l y)
  have b2 := Kr_bd (KD_lo x l y hx hxy hl hl1 h1)
  have e := dHL x l y hz
  have hp := pow_pos (lz y)
  rw [a.2.2.2.2] at k1 k2 b2
  have er : Kr (d1 y) (d0 y) (dH x l y) (e1 l y) = dR x l y := rfl
  rw [er] at k1
  generalize Kq (d1 y) (d0 y) (dH x l y) (e1 l y) = q1 at *
  generalize Kq (d1 y) (d0 y) (dR x l y) (e0 l y) = q0 at *
  generalize Kr (d1 y) (d0 y) (dR x l y) (e0 l y) = r at *
  have hN : (x * 18446744073709551616 + l) * 2 ^ lz y = (q1 * 4294967296 + q0) * dY y + r := by
    rw [← e, Int.add_mul, Int.mul_right_comm q1]
    generalize q1 * dY y = p1 at *; generalize q0 * dY y = p0 at *
    omega
  have hdiv : (x * 18446744073709551616 + l) / y = q1 * 4294967296 + q0 := by
    have h : (x * 18446744073709551616 + l) * 2 ^ lz y / (y * 2 ^ lz y) = (x * 18446744073709551616 + l) / y := Int.mul_ediv_mul_of_pos_left _ _ hp
    rw [← h, hN]
    show ((q1 * 4294967296 + q0) * dY y + r) / dY y = _
    rw [Int.add_comm, Int.add_mul_ediv_right _ _ (by omega), Int.ediv_eq_zero_of_lt b2.1 b2.2, Int.zero_add]
  refine ⟨hdiv.symm, ?_⟩
  have hm := Int.emod_def (x * 18446744073709551616 + l) y
  rw [hm, hdiv]
  have hr : r = ((x * 18446744073709551616 + l) - y * (q1 * 4294967296 + q0)) * 2 ^ lz y := by
    rw [Int.sub_mul, hN]
    have : y * (q1 * 4294967296 + q0) * 2 ^ lz y = (q1 * 4294967296 + q0) * dY y := by
      unfold dY; rw [Int.mul_comm y, Int.mul_assoc]
    rw [this]; omega
  rw [hr, Int.mul_ediv_cancel _ (by omega)]

end Wd
end Go.Proofs.Ytheofhegdjjfgaa
