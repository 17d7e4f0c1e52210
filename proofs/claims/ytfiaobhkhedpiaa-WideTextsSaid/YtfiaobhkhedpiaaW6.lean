/- Walks of package wide: products. -/
import Derived.Test.YtfiaobhkhedpiaaW5
import Derived.Test.YtfiaobhkhedpiaaShelf
namespace Go.Proofs.Ytfiaobhkhedpiaa
open Go.RowKit

/-- a size with a sign: the whole number, or an overflow. -/
theorem signed_w (s : Int) (neg : Bool) (h0 : 0 ≤ s) (h1 : s < 340282366920938463463374607431768211456) (w : World) :
    Calls Try.prog 90 #[Value.agg #[.int .u64 (Wd.hi (s)), .int .u64 (Wd.lo (s))], .bool neg] w fun e w' => e = .returned (.tuple #[Value.agg #[.int .u64 (Wd.hi (Wd.tr (Wd.sv neg s))), .int .u64 (Wd.lo (Wd.tr (Wd.sv neg s)))], .int .i64 (Wd.er (Wd.sv neg s))]) ∧ Below w.heap.size w w' := by
  cases neg with
  | false =>
    have e : Wd.sv false s = s := if_neg (by decide)
    rw [e]
    by_cases h : s < 170141183460469231731687303715884105728
    · have hf : Wd.fit s := by unfold Wd.fit; omega
      rw [Wd.tr_of hf, Wd.er_of hf]; exact signed_ff s h0 h w
    · have hf : ¬ Wd.fit s := by unfold Wd.fit; omega
      rw [Wd.tr_no hf, Wd.er_no hf]; exact signed_fo s (by omega) h1 w
  | true =>
    have e : Wd.sv true s = -s := if_pos rfl
    rw [e]
    by_cases hz : s = 0
    · subst hz
      exact signed_t0 w
    · by_cases h : s ≤ 170141183460469231731687303715884105728
      · have hf : Wd.fit (-s) := by unfold Wd.fit; omega
        rw [Wd.tr_of hf, Wd.er_of hf]; exact signed_tt s (by omega) h w
      · have hf : ¬ Wd.fit (-s) := by unfold Wd.fit; omega
        rw [Wd.tr_no hf, Wd.er_no hf]; exact signed_to s (by omega) h1 w

/-- the product of two words. -/
theorem mul64_w (x y : Int) (hx : 0 ≤ x) (hx1 : x < 18446744073709551616) (hy : 0 ≤ y) (hy1 : y < 18446744073709551616) (w : World) :
    Calls Try.prog 93 #[.int .u64 x, .int .u64 y] w fun e w' => e = .returned (.tuple #[.int .u64 (Wd.hi (x * y)), .int .u64 (Wd.lo (x * y))]) ∧ w = w' := by
  have hm := Wd.word_mul hx hx1 hy hy1
  obtain ⟨x, rfl⟩ := Int.eq_ofNat_of_zero_le hx
  obtain ⟨y, rfl⟩ := Int.eq_ofNat_of_zero_le hy
  refine (Try.bits_Mul64 x y (by omega) (by omega) w).mono fun e w' ⟨he, hw⟩ => ⟨?_, hw.symm⟩
  rw [he]
  have e1 : Wd.hi ((x : Int) * y) = ((x * y / 18446744073709551616 : Nat) : Int) := by
    rw [← Int.natCast_mul] at hm ⊢; generalize x * y = p at *; unfold Wd.hi; omega
  have e2 : Wd.lo ((x : Int) * y) = ((x * y % 18446744073709551616 : Nat) : Int) := by
    rw [← Int.natCast_mul]; generalize x * y = p at *; unfold Wd.lo; omega
  rw [e1, e2]

/-- the high word of a product, out of the two halves' products. -/
theorem add64_mul (S n : Int) (h0 : 0 ≤ S) (h1 : S < 340282366920938463463374607431768211456) (w : World) :
    (callFunc 91 #[.int .u64 (Wd.lo (Wd.hi S * n)), .int .u64 (Wd.hi (Wd.lo S * n)), .int .u64 0]).run Try.prog w = .ok (.value (.tuple #[.int .u64 (Wd.hi (S * n)), .int .u64 (Wd.cy3 S n)])) w := by
  rw [run_add64_at _ _ _ (Wd.lo_bd _).1 (Wd.hi_bd _).1 (by omega) (by omega), Wd.mul_hi S n h0 h1]; rfl

set_option maxHeartbeats 1000000 in
theorem Mul_w (a b : Int) (ha : -9223372036854775808 ≤ a) (ha1 : a < 9223372036854775808) (hb : -9223372036854775808 ≤ b) (hB1 : b < 9223372036854775808) (w : World) :
    Calls Try.prog 44 #[.int .i64 a, .int .i64 b] w fun e w' => e = .returned (Value.agg #[.int .u64 (Wd.hi (a * b)), .int .u64 (Wd.lo (a * b))]) ∧ Below w.heap.size w w' := by
  have ba := Wd.ab_bd a ha ha1
  have bb := Wd.ab_bd b hb hB1
  have bm := Wd.half_mul ba.1 ba.2 bb.1 bb.2
  have e1 := Wd.sv_mul a b
  have hf : Wd.fit (a * b) := by rw [← e1]; unfold Wd.sv Wd.fit; split <;> omega
  have EF := Lib.hid hf
  have E1 := Lib.hid e1
  clear hf e1
  go_enter Try.func44, Try.ntmps44
  go_wp2_with fail
  refine (wordOf_w a ha ha1 _).mono ?_
  rintro e w1 ⟨rfl, hb1⟩
  obtain ⟨hc_hb1, hf_hb1⟩ := bcell hb1; have hz_hb1 := Below.size hb1; (try simp at hz_hb1); have z0_hb1 : w.heap.size < w1.heap.size := (by omega); have c00_hb1 := hc_hb1 (w.heap.size) 0 (by (try simp) <;> omega); have f00_hb1 := hf_hb1 (w.heap.size) 0 (by (try simp) <;> omega); have c01_hb1 := hc_hb1 (w.heap.size) 1 (by (try simp) <;> omega); have f01_hb1 := hf_hb1 (w.heap.size) 1 (by (try simp) <;> omega); clear hc_hb1 hf_hb1; (try simp [*] at c00_hb1); (try simp [*] at f00_hb1); (try simp [*] at c01_hb1); (try simp [*] at f01_hb1)
  go_wp2_with fail
  refine (wordOf_w b hb hB1 _).mono ?_
  rintro e w2 ⟨rfl, hb2⟩
  obtain ⟨hc_hb2, hf_hb2⟩ := bcell hb2; have hz_hb2 := Below.size hb2; (try simp at hz_hb2); have z0_hb2 : w.heap.size < w2.heap.size := (by omega); have c00_hb2 := hc_hb2 (w.heap.size) 0 (by (try simp) <;> omega); have f00_hb2 := hf_hb2 (w.heap.size) 0 (by (try simp) <;> omega); have c01_hb2 := hc_hb2 (w.heap.size) 1 (by (try simp) <;> omega); have f01_hb2 := hf_hb2 (w.heap.size) 1 (by (try simp) <;> omega); clear hc_hb2 hf_hb2; (try simp [*] at c00_hb2); (try simp [*] at f00_hb2); (try simp [*] at c01_hb2); (try simp [*] at f01_hb2)
  go_wp2_with fail
  refine (mul64_w _ _ ba.1 (by omega) bb.1 (by omega) _).mono ?_
  rintro e w3 ⟨rfl, rfl⟩
  go_wp2_with fail
  refine (signed_w _ _ bm.1 (by omega) _).mono ?_
  rintro e w4 ⟨rfl, hb4⟩
  obtain ⟨hc_hb4, hf_hb4⟩ := bcell hb4; have hz_hb4 := Below.size hb4; (try simp at hz_hb4); have z0_hb4 : w.heap.size < w4.heap.size := (by omega); have c00_hb4 := hc_hb4 (w.heap.size) 0 (by (try simp) <;> omega); have f00_hb4 := hf_hb4 (w.heap.size) 0 (by (try simp) <;> omega); have c01_hb4 := hc_hb4 (w.heap.size) 1 (by (try simp) <;> omega); have f01_hb4 := hf_hb4 (w.heap.size) 1 (by (try simp) <;> omega); clear hc_hb4 hf_hb4; (try simp [*] at c00_hb4); (try simp [*] at f00_hb4); (try simp [*] at c01_hb4); (try simp [*] at f01_hb4)
  rw [E1.out, Wd.tr_of EF.out, Wd.er_of EF.out]
  go_wp2
  exact bodyPost_ret (v := Value.agg #[.int .u64 (Wd.hi (a * b)), .int .u64 (Wd.lo (a * b))]) (by simp [*, results, Try.results44, go_sem]) rfl ⟨rfl, by (repeat' (first | exact Below.refl _ _ | assumption | refine Below.drew ?_ | refine Below.alloc ?_ ?_ _ | refine Below.setCell ?_ ?_ _ | (apply below_via; assumption) | (simp; done) | omega | (simp; omega)))⟩

set_option maxHeartbeats 1000000 in
theorem MulInt_lo (a n : Int) (hf : Wd.fit a) (hn : -9223372036854775808 ≤ n) (hn1 : n < 9223372036854775808) (h : Wd.ab a * Wd.ab n < 340282366920938463463374607431768211456) (w : World) :
    Calls Try.prog 47 #[Value.agg #[.int .u64 (Wd.hi (a)), .int .u64 (Wd.lo (a))], .int .i64 n] w fun e w' => e = .returned (.tuple #[Value.agg #[.int .u64 (Wd.hi (Wd.tr (a * n))), .int .u64 (Wd.lo (Wd.tr (a * n)))], .int .i64 (Wd.er (a * n))]) ∧ Below w.heap.size w w' := by
  have ba := Wd.ab_nonneg a
  have ba1 := Wd.ab_le a hf
  have bn := Wd.ab_bd n hn hn1
  have b0 : 0 ≤ Wd.ab a * Wd.ab n := Int.mul_nonneg ba bn.1
  have HE := Lib.hid (Wd.sv_mulw a n hf)
  have hz := Wd.ov_zero (Wd.ab a) (Wd.ab n) ba (by omega) bn.1 (by omega) h
  obtain ⟨z1, z2⟩ := hz
  have bl := Wd.lo_bd (Wd.ab a)
  have bh := Wd.hi_bd (Wd.ab a)
  have r1 := fun w => add64_mul (Wd.ab a) (Wd.ab n) ba (by omega) w
  have r2 := Wd.mul_lo (Wd.ab a) (Wd.ab n)
  go_enter Try.func47, Try.ntmps47
  go_wp2_with fail
  refine (size_w a hf _).mono ?_
  rintro e w1 ⟨rfl, hb1⟩
  obtain ⟨hc_hb1, hf_hb1⟩ := bcell hb1; have hz_hb1 := Below.size hb1; (try simp at hz_hb1); have z0_hb1 : w.heap.size < w1.heap.size := (by omega); have z1_hb1 : w.heap.size + 1 < w1.heap.size := (by omega); have c00_hb1 := hc_hb1 (w.heap.size) 0 (by (try simp) <;> omega); have f00_hb1 := hf_hb1 (w.heap.size) 0 (by (try simp) <;> omega); have c01_hb1 := hc_hb1 (w.heap.size) 1 (by (try simp) <;> omega); have f01_hb1 := hf_hb1 (w.heap.size) 1 (by (try simp) <;> omega); have c10_hb1 := hc_hb1 (w.heap.size + 1) 0 (by (try simp) <;> omega); have f10_hb1 := hf_hb1 (w.heap.size + 1) 0 (by (try simp) <;> omega); have c11_hb1 := hc_hb1 (w.heap.size + 1) 1 (by (try simp) <;> omega); have f11_hb1 := hf_hb1 (w.heap.size + 1) 1 (by (try simp) <;> omega); clear hc_hb1 hf_hb1; (try simp [*] at c00_hb1); (try simp [*] at f00_hb1); (try simp [*] at c01_hb1); (try simp [*] at f01_hb1); (try simp [*] at c10_hb1); (try simp [*] at f10_hb1); (try simp [*] at c11_hb1); (try simp [*] at f11_hb1)
  go_wp2_with fail
  refine (wordOf_w n hn hn1 _).mono ?_
  rintro e w2 ⟨rfl, hb2⟩
  obtain ⟨hc_hb2, hf_hb2⟩ := bcell hb2; have hz_hb2 := Below.size hb2; (try simp at hz_hb2); have z0_hb2 : w.heap.size < w2.heap.size := (by omega); have z1_hb2 : w.heap.size + 1 < w2.heap.size := (by omega); have c00_hb2 := hc_hb2 (w.heap.size) 0 (by (try simp) <;> omega); have f00_hb2 := hf_hb2 (w.heap.size) 0 (by (try simp) <;> omega); have c01_hb2 := hc_hb2 (w.heap.size) 1 (by (try simp) <;> omega); have f01_hb2 := hf_hb2 (w.heap.size) 1 (by (try simp) <;> omega); have c10_hb2 := hc_hb2 (w.heap.size + 1) 0 (by (try simp) <;> omega); have f10_hb2 := hf_hb2 (w.heap.size + 1) 0 (by (try simp) <;> omega); have c11_hb2 := hc_hb2 (w.heap.size + 1) 1 (by (try simp) <;> omega); have f11_hb2 := hf_hb2 (w.heap.size + 1) 1 (by (try simp) <;> omega); clear hc_hb2 hf_hb2; (try simp [*] at c00_hb2); (try simp [*] at f00_hb2); (try simp [*] at c01_hb2); (try simp [*] at f01_hb2); (try simp [*] at c10_hb2); (try simp [*] at f10_hb2); (try simp [*] at c11_hb2); (try simp [*] at f11_hb2)
  go_wp2_with fail
  refine (mul64_w _ _ bl.1 bl.2 bn.1 (by omega) _).mono ?_
  rintro e w3 ⟨rfl, rfl⟩
  go_wp2_with fail
  refine (mul64_w _ _ bh.1 bh.2 bn.1 (by omega) _).mono ?_
  rintro e w3 ⟨rfl, rfl⟩
  go_wp2_with fail
  refine (below_w _ _ _).mono ?_
  rintro e w4 ⟨rfl, hb4⟩
  obtain ⟨hc_hb4, hf_hb4⟩ := bcell hb4; have hz_hb4 := Below.size hb4; (try simp at hz_hb4); have z1_hb4 : w.heap.size + 1 < w4.heap.size := (by omega); have c10_hb4 := hc_hb4 (w.heap.size + 1) 0 (by (try simp) <;> omega); have f10_hb4 := hf_hb4 (w.heap.size + 1) 0 (by (try simp) <;> omega); have c11_hb4 := hc_hb4 (w.heap.size + 1) 1 (by (try simp) <;> omega); have f11_hb4 := hf_hb4 (w.heap.size + 1) 1 (by (try simp) <;> omega); clear hc_hb4 hf_hb4; (try simp [*] at c10_hb4); (try simp [*] at f10_hb4); (try simp [*] at c11_hb4); (try simp [*] at f11_hb4)
  go_wp2_with fail
  refine (signed_w _ _ b0 h _).mono ?_
  rintro e w5 ⟨rfl, hb5⟩
  obtain ⟨hc_hb5, hf_hb5⟩ := bcell hb5; have hz_hb5 := Below.size hb5; (try simp at hz_hb5); have z1_hb5 : w.heap.size + 1 < w5.heap.size := (by omega); have c10_hb5 := hc_hb5 (w.heap.size + 1) 0 (by (try simp) <;> omega); have f10_hb5 := hf_hb5 (w.heap.size + 1) 0 (by (try simp) <;> omega); have c11_hb5 := hc_hb5 (w.heap.size + 1) 1 (by (try simp) <;> omega); have f11_hb5 := hf_hb5 (w.heap.size + 1) 1 (by (try simp) <;> omega); clear hc_hb5 hf_hb5; (try simp [*] at c10_hb5); (try simp [*] at f10_hb5); (try simp [*] at c11_hb5); (try simp [*] at f11_hb5)
  rw [HE.out]
  go_wp2
  exact bodyPost_ret (v := .tuple #[Value.agg #[.int .u64 (Wd.hi (Wd.tr (a * n))), .int .u64 (Wd.lo (Wd.tr (a * n)))], .int .i64 (Wd.er (a * n))]) (by simp [*, results, Try.results47, go_sem]) rfl ⟨rfl, by (repeat' (first | exact Below.refl _ _ | assumption | refine Below.drew ?_ | refine Below.alloc ?_ ?_ _ | refine Below.setCell ?_ ?_ _ | (apply below_via; assumption) | (simp; done) | omega | (simp; omega)))⟩

set_option maxHeartbeats 1000000 in
theorem MulInt_hi (a n : Int) (hf : Wd.fit a) (hn : -9223372036854775808 ≤ n) (hn1 : n < 9223372036854775808) (h : 340282366920938463463374607431768211456 ≤ Wd.ab a * Wd.ab n) (w : World) :
    Calls Try.prog 47 #[Value.agg #[.int .u64 (Wd.hi (a)), .int .u64 (Wd.lo (a))], .int .i64 n] w fun e w' => e = .returned (.tuple #[Value.agg #[.int .u64 (Wd.hi (0)), .int .u64 (Wd.lo (0))], .int .i64 16]) ∧ Below w.heap.size w w' := by
  have ba := Wd.ab_nonneg a
  have ba1 := Wd.ab_le a hf
  have bn := Wd.ab_bd n hn hn1
  have b0 : 0 ≤ Wd.ab a * Wd.ab n := Int.mul_nonneg ba bn.1
  have HE := Lib.hid (Wd.sv_mulw a n hf)
  have hz := Wd.ov_pos (Wd.ab a) (Wd.ab n) ba (by omega) bn.1 (by omega) h
  have hz1 := Wd.hi_small (Wd.ab a) (Wd.ab n) ba ba1 bn.1 bn.2
  have hz2 := Wd.cy3_bd (Wd.ab a) (Wd.ab n)
  have bl := Wd.lo_bd (Wd.ab a)
  have bh := Wd.hi_bd (Wd.ab a)
  have r1 := fun w => add64_mul (Wd.ab a) (Wd.ab n) ba (by omega) w
  have r2 := Wd.mul_lo (Wd.ab a) (Wd.ab n)
  go_enter Try.func47, Try.ntmps47
  go_wp2_with fail
  refine (size_w a hf _).mono ?_
  rintro e w1 ⟨rfl, hb1⟩
  obtain ⟨hc_hb1, hf_hb1⟩ := bcell hb1; have hz_hb1 := Below.size hb1; (try simp at hz_hb1); have z0_hb1 : w.heap.size < w1.heap.size := (by omega); have z1_hb1 : w.heap.size + 1 < w1.heap.size := (by omega); have c00_hb1 := hc_hb1 (w.heap.size) 0 (by (try simp) <;> omega); have f00_hb1 := hf_hb1 (w.heap.size) 0 (by (try simp) <;> omega); have c01_hb1 := hc_hb1 (w.heap.size) 1 (by (try simp) <;> omega); have f01_hb1 := hf_hb1 (w.heap.size) 1 (by (try simp) <;> omega); have c10_hb1 := hc_hb1 (w.heap.size + 1) 0 (by (try simp) <;> omega); have f10_hb1 := hf_hb1 (w.heap.size + 1) 0 (by (try simp) <;> omega); have c11_hb1 := hc_hb1 (w.heap.size + 1) 1 (by (try simp) <;> omega); have f11_hb1 := hf_hb1 (w.heap.size + 1) 1 (by (try simp) <;> omega); clear hc_hb1 hf_hb1; (try simp [*] at c00_hb1); (try simp [*] at f00_hb1); (try simp [*] at c01_hb1); (try simp [*] at f01_hb1); (try simp [*] at c10_hb1); (try simp [*] at f10_hb1); (try simp [*] at c11_hb1); (try simp [*] at f11_hb1)
  go_wp2_with fail
  refine (wordOf_w n hn hn1 _).mono ?_
  rintro e w2 ⟨rfl, hb2⟩
  obtain ⟨hc_hb2, hf_hb2⟩ := bcell hb2; have hz_hb2 := Below.size hb2; (try simp at hz_hb2); have z0_hb2 : w.heap.size < w2.heap.size := (by omega); have z1_hb2 : w.heap.size + 1 < w2.heap.size := (by omega); have c00_hb2 := hc_hb2 (w.heap.size) 0 (by (try simp) <;> omega); have f00_hb2 := hf_hb2 (w.heap.size) 0 (by (try simp) <;> omega); have c01_hb2 := hc_hb2 (w.heap.size) 1 (by (try simp) <;> omega); have f01_hb2 := hf_hb2 (w.heap.size) 1 (by (try simp) <;> omega); have c10_hb2 := hc_hb2 (w.heap.size + 1) 0 (by (try simp) <;> omega); have f10_hb2 := hf_hb2 (w.heap.size + 1) 0 (by (try simp) <;> omega); have c11_hb2 := hc_hb2 (w.heap.size + 1) 1 (by (try simp) <;> omega); have f11_hb2 := hf_hb2 (w.heap.size + 1) 1 (by (try simp) <;> omega); clear hc_hb2 hf_hb2; (try simp [*] at c00_hb2); (try simp [*] at f00_hb2); (try simp [*] at c01_hb2); (try simp [*] at f01_hb2); (try simp [*] at c10_hb2); (try simp [*] at f10_hb2); (try simp [*] at c11_hb2); (try simp [*] at f11_hb2)
  go_wp2_with fail
  refine (mul64_w _ _ bl.1 bl.2 bn.1 (by omega) _).mono ?_
  rintro e w3 ⟨rfl, rfl⟩
  go_wp2_with fail
  refine (mul64_w _ _ bh.1 bh.2 bn.1 (by omega) _).mono ?_
  rintro e w3 ⟨rfl, rfl⟩
  go_wp2_with fail
  exact bodyPost_ret (v := .tuple #[Value.agg #[.int .u64 (Wd.hi (0)), .int .u64 (Wd.lo (0))], .int .i64 16]) (by simp [*, results, Try.results47, go_sem, Wd.hi_zero, Wd.lo_zero]) rfl ⟨rfl, by (repeat' (first | exact Below.refl _ _ | assumption | refine Below.drew ?_ | refine Below.alloc ?_ ?_ _ | refine Below.setCell ?_ ?_ _ | (apply below_via; assumption) | (simp; done) | omega | (simp; omega)))⟩

theorem MulInt_w (a n : Int) (hf : Wd.fit a) (hn : -9223372036854775808 ≤ n) (hn1 : n < 9223372036854775808) (w : World) :
    Calls Try.prog 47 #[Value.agg #[.int .u64 (Wd.hi (a)), .int .u64 (Wd.lo (a))], .int .i64 n] w fun e w' => e = .returned (.tuple #[Value.agg #[.int .u64 (Wd.hi (Wd.tr (a * n))), .int .u64 (Wd.lo (Wd.tr (a * n)))], .int .i64 (Wd.er (a * n))]) ∧ Below w.heap.size w w' := by
  by_cases h : Wd.ab a * Wd.ab n < 340282366920938463463374607431768211456
  · exact MulInt_lo a n hf hn hn1 h w
  · have hf2 : ¬ Wd.fit (a * n) := by
      have e := Wd.ab_mul a n
      rw [e] at h; unfold Wd.ab at h; unfold Wd.fit; split at h <;> omega
    rw [Wd.tr_no hf2, Wd.er_no hf2]
    exact MulInt_hi a n hf hn hn1 (by omega) w

end Go.Proofs.Ytfiaobhkhedpiaa
