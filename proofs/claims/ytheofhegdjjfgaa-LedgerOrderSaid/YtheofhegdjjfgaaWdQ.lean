/- Quotients of whole numbers, with and without signs: plain arithmetic. -/
import Derived.Test.YtheofhegdjjfgaaWdO
namespace Go.Proofs.Ytheofhegdjjfgaa
namespace Wd

theorem quo_words (S w : Int) (h0 : 0 ≤ S) (h1 : S < 340282366920938463463374607431768211456) (hw : 0 < w) (hw1 : w < 18446744073709551616) :
    hi S / w = hi (S / w) ∧ (hi S % w * 18446744073709551616 + lo S) / w = lo (S / w) ∧ (hi S % w * 18446744073709551616 + lo S) % w = S % w := by
  have e := hi_lo S h0 h1
  have hb := hi_bd S
  have lb := lo_bd S
  have hm := Int.ediv_mul_add_emod (hi S) w
  have hm0 := Int.emod_nonneg (hi S) (show w ≠ 0 by omega)
  have hm1 := Int.emod_lt_of_pos (hi S) hw
  have q0 : 0 ≤ hi S / w := Int.ediv_nonneg hb.1 (by omega)
  have q1 : hi S / w ≤ hi S := Int.ediv_le_self _ hb.1
  have eS : S = hi S / w * 18446744073709551616 * w + (hi S % w * 18446744073709551616 + lo S) := by
    have : hi S / w * 18446744073709551616 * w = hi S / w * w * 18446744073709551616 := Int.mul_right_comm _ _ _
    rw [this]; generalize hi S / w * w = p at *; omega
  have hT : (hi S % w * 18446744073709551616 + lo S) / w < 18446744073709551616 := (Int.ediv_lt_iff_lt_mul hw).2 (by
    have : hi S % w * 18446744073709551616 + lo S < w * 18446744073709551616 := by omega
    omega)
  have hT0 : 0 ≤ (hi S % w * 18446744073709551616 + lo S) / w := Int.ediv_nonneg (by omega) (by omega)
  have eq : S / w = hi S / w * 18446744073709551616 + (hi S % w * 18446744073709551616 + lo S) / w := by
    conv => lhs; rw [eS]
    rw [Int.add_comm, Int.add_mul_ediv_right _ _ (by omega), Int.add_comm]
  refine ⟨?_, ?_, ?_⟩
  · rw [eq]; generalize (hi S % w * 18446744073709551616 + lo S) / w = t at *
    generalize hi S / w = q at *
    unfold hi; omega
  · rw [eq]; generalize (hi S % w * 18446744073709551616 + lo S) / w = t at *
    generalize hi S / w = q at *
    unfold lo; omega
  · conv => rhs; rw [eS]
    generalize hi S % w * 18446744073709551616 + lo S = t
    rw [Int.add_comm, Int.add_mul_emod_self_right]

/-- the quotient rounded towards 0, and the rest, by the sizes. -/
theorem tq_of (a d : Int) : sv (!(decide (a < 0) == decide (d < 0))) (ab a / ab d) = a.tdiv d := by
  unfold sv ab
  by_cases ha : a < 0 <;> by_cases hb : d < 0 <;> simp only [ha, hb, decide_true, decide_false, if_true, if_false, beq_self_eq_true, Bool.not_true, Bool.false_eq_true]
  · rw [← Int.neg_tdiv_neg, Int.tdiv_eq_ediv_of_nonneg (by omega)]
  · simp only [show (true == false) = false from rfl, Bool.not_false, if_true]
    rw [← Int.neg_neg (a.tdiv d), ← Int.neg_tdiv, Int.tdiv_eq_ediv_of_nonneg (by omega)]
  · simp only [show (false == true) = false from rfl, Bool.not_false, if_true]
    rw [← Int.neg_neg (a.tdiv d), ← Int.tdiv_neg, Int.tdiv_eq_ediv_of_nonneg (by omega)]
  · rw [Int.tdiv_eq_ediv_of_nonneg (by omega)]
theorem tm_of (a d : Int) : sv (decide (a < 0)) (ab a % ab d) = a.tmod d := by
  have h := Int.tmod_def a d
  have q := tq_of a d
  rw [h, ← q]
  have e := Int.emod_def (ab a) (ab d)
  rw [e]
  unfold sv ab
  by_cases ha : a < 0 <;> by_cases hb : d < 0 <;> simp [ha, hb, Int.neg_mul, Int.mul_neg] <;> omega
/-- the nearest quotient of sizes, halves to the even. -/
def ev (S w : Int) : Int := if w < 2 * (S % w) ∨ 2 * (S % w) = w ∧ S / w % 2 = 1 then S / w + 1 else S / w
def dv (a d : Int) : Int := sv (!(decide (a < 0) == decide (d < 0))) (ev (ab a) (ab d))
def cyo (s : Int) : Int := (lo s + 1 + 0) / 18446744073709551616
theorem cyo_bd (s : Int) : 0 ≤ cyo s ∧ cyo s ≤ 1 := by unfold cyo lo; omega
theorem inc_lo (s : Int) : (lo s + 1 + 0) % 18446744073709551616 = lo (s + 1) := by unfold lo; omega
theorem inc_hi (s : Int) (h0 : 0 ≤ s) (h1 : s + 1 < 340282366920938463463374607431768211456) : hi s + cyo s = hi (s + 1) := by unfold hi cyo lo; omega
theorem quo_bd (S w : Int) (h0 : 0 ≤ S) (h1 : S ≤ 170141183460469231731687303715884105728) (hw : 0 < w) : 0 ≤ S / w ∧ S / w ≤ 170141183460469231731687303715884105728 := by
  have := Int.ediv_le_self w h0
  exact ⟨Int.ediv_nonneg h0 (by omega), by omega⟩
theorem rest_bd (S w : Int) (hw : 0 < w) : 0 ≤ S % w ∧ S % w < w := ⟨Int.emod_nonneg _ (by omega), Int.emod_lt_of_pos _ hw⟩
theorem ev_bd (S w : Int) (h0 : 0 ≤ S) (h1 : S ≤ 170141183460469231731687303715884105728) (hw : 0 < w) : 0 ≤ ev S w ∧ ev S w ≤ 170141183460469231731687303715884105729 := by
  have := quo_bd S w h0 h1 hw; unfold ev; split <;> omega
theorem ab_pos (d : Int) (h : d ≠ 0) : 0 < ab d := by unfold ab; split <;> omega

theorem low_dec (a : Int) (hf : fit a) : decide (9223372036854775808 ≤ hi a) = decide (a < 0) := by
  have := hi_neg a hf
  by_cases h : a < 0 <;> simp [this, h]
theorem tq_fit (a d : Int) (hf : fit a) : sv (!(decide (9223372036854775808 ≤ hi a) == decide (d < 0))) (ab a / ab d) = a.tdiv d := by rw [low_dec a hf]; exact tq_of a d
theorem tm_fit (a : Int) (hf : fit a) (d : Int) : sv (decide (9223372036854775808 ≤ hi a)) (ab a % ab d) = a.tmod d := by rw [low_dec a hf]; exact tm_of a d

theorem tm_bd (a d : Int) (hd : d ≠ 0) (h0 : -9223372036854775808 ≤ d) (h1 : d < 9223372036854775808) : -9223372036854775808 < a.tmod d ∧ a.tmod d < 9223372036854775808 := by
  have e := tm_of a d
  have hb := rest_bd (ab a) (ab d) (ab_pos d hd)
  have hd2 := ab_bd d h0 h1
  rw [← e]; unfold sv; split <;> omega
theorem back_tm (a d : Int) (hd : d ≠ 0) (h0 : -9223372036854775808 ≤ d) (h1 : d < 9223372036854775808) : RowKit.wrap64 (lo (a.tmod d)) = a.tmod d := by
  have := tm_bd a d hd h0 h1
  exact back_of _ (by omega) (by omega)

theorem dv_fit (a d : Int) (hf : fit a) : sv (!(decide (9223372036854775808 ≤ hi a) == decide (d < 0))) (ev (ab a) (ab d)) = dv a d := by rw [low_dec a hf]; rfl
theorem lo_odd (q : Int) : lo q % 2 = q % 2 := by unfold lo; omega

end Wd
end Go.Proofs.Ytheofhegdjjfgaa
