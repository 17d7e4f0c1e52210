/- Walks of package wide: products. -/
import Derived.Test.YtheofhegdjjfgaaW5
import Derived.Test.YtheofhegdjjfgaaShelf
namespace Go.Proofs.Ytheofhegdjjfgaa
open Go.RowKit

/-- a size with a sign: the whole number, or an overflow. -/
theorem signed_w (s : Int) (neg : Bool) (h0 : 0 ≤ s) (h1 : s < 340282366920938463463374607431768211456) (w : World) :
    Calls Try.prog 87 #[Value.agg #[.int .u64 (Wd.hi (s)), .int .u64 (Wd.lo (s))], .bool neg] w fun e w' => e = .returned (.tuple #[Value.agg #[.int .u64 (Wd.hi (Wd.tr (Wd.sv neg s))), .int .u64 (Wd.lo (Wd.tr (Wd.sv neg s)))], .int .i64 (Wd.er (Wd.sv neg s))]) ∧ Below w.heap.size w w' := by
  cases neg with
  | false =>
    have e : Wd.sv false s = s := if_neg (by decide)
    rw [e]
    by_cases h : s < 170141183460469231731687303715884105728
    · have hf : Wd.fit s := by unfold Wd.fit; omega
      rw [Wd.tr_of hf, Wd.er_of hf]; exact signed_ff s h0 h w
    · have hf : ¬ Wd.fit s := by unfold Wd.fit; omega
      rw [Wd.tr_no hf, Wd.er_no hf]; exact signed_fo s (by omega) h1 w
  | true =>
    have e : Wd.sv true s = -s := if_pos rfl
    rw [e]
    by_cases hz : s = 0
    · subst hz
      exact signed_t0 w
    · by_cases h : s ≤ 170141183460469231731687303715884105728
      · have hf : Wd.fit (-s) := by unfold Wd.fit; omega
        rw [Wd.tr_of hf, Wd.er_of hf]; exact signed_tt s (by omega) h w
      · have hf : ¬ Wd.fit (-s) := by unfold Wd.fit; omega
        rw [Wd.tr_no hf, Wd.er_no hf]; exact signed_to s (by omega) h1 w

/-- the product of two words. -/
theorem mul64_w (x y : Int) (hx : 0 ≤ x) (hx1 : x < 18446744073709551616) (hy : 0 ≤ y) (hy1 : y < 18446744073709551616) (w : World) :
    Calls Try.prog 85 #[.int .u64 x, .int .u64 y] w fun e w' => e = .returned (.tuple #[.int .u64 (Wd.hi (x * y)), .int .u64 (Wd.lo (x * y))]) ∧ w = w' := by
  have hm := Wd.word_mul hx hx1 hy hy1
  obtain ⟨x, rfl⟩ := Int.eq_ofNat_of_zero_le hx
  obtain ⟨y, rfl⟩ := Int.eq_ofNat_of_zero_le hy
  refine (Try.bits_Mul64 x y (by omega) (by omega) w).mono fun e w' ⟨he, hw⟩ => ⟨?_, hw.symm⟩
  rw [he]
  have e1 : Wd.hi ((x : Int) * y) = ((x * y / 18446744073709551616 : Nat) : Int) := by
    rw [← Int.natCast_mul] at hm ⊢; generalize x * y = p at *; unfold Wd.hi; omega
  have e2 : Wd.lo ((x : Int) * y) = ((x * y % 18446744073709551616 : Nat) : Int) := by
    rw [← Int.natCast_mul]; generalize x * y = p at *; unfold Wd.lo; omega
  rw [e1, e2]

/-- the high word of a product, out of the two halves' products. -/
theorem add64_mul (S n : Int) (h0 : 0 ≤ S) (h1 : S < 340282366920938463463374607431768211456) (w : World) :
    (callFunc 90 #[.int .u64 (Wd.lo (Wd.hi S * n)), .int .u64 (Wd.hi (Wd.lo S * n)), .int .u64 0]).run Try.prog w = .ok (.value (.tuple #[.int .u64 (Wd.hi (S * n)), .int .u64 (Wd.cy3 S n)])) w := by
  rw [run_add64_at _ _ _ (Wd.lo_bd _).1 (Wd.hi_bd _).1 (by omega) (by omega), Wd.mul_hi S n h0 h1]; rfl

set_option maxHeartbeats 1000000 in
theorem Mul_w (a b : Int) (ha : -9223372036854775808 ≤ a) (ha1 : a < 9223372036854775808) (hb : -9223372036854775808 ≤ b) (hB1 : b < 9223372036854775808) (w : World) :
    Calls Try.prog 50 #[.int .i64 a, .int .i64 b] w fun e w' => e = .returned (Value.agg #[.int .u64 (Wd.hi (a * b)), .int .u64 (Wd.lo (a * b))]) ∧ Below w.heap.size w w' := by
  have ba := Wd.ab_bd a ha ha1
  have bb := Wd.ab_bd b hb hB1
  have bm := Wd.half_mul ba.1 ba.2 bb.1 bb.2
  have e1 := Wd.sv_mul a b
  have hf : Wd.fit (a * b) := by rw [← e1]; unfold Wd.sv Wd.fit; split <;> omega
  have EF := Lib.hid hf
  have E1 := Lib.hid e1
  clear hf e1
  go_enter Try.func50, Try.ntmps50
  go_wp2_with fail
  refine (wordOf_w a ha ha1 _).mono ?_
  rintro e w1 ⟨rfl, hb1⟩
  obtain ⟨hc_hb1, hf_hb1⟩ := bcell hb1; have hz_hb1 := Below.size hb1; (try simp at hz_hb1); have z0_hb1 : w.heap.size < w1.heap.size := (by omega); have c00_hb1 := hc_hb1 (w.heap.size) 0 (by (try simp) <;> omega); have f00_hb1 := hf_hb1 (w.heap.size) 0 (by (try simp) <;> omega); have c01_hb1 := hc_hb1 (w.heap.size) 1 (by (try simp) <;> omega); have f01_hb1 := hf_hb1 (w.heap.size) 1 (by (try simp) <;> omega); clear hc_hb1 hf_hb1; (try simp [*] at c00_hb1); (try simp [*] at f00_hb1); (try simp [*] at c01_hb1); (try simp [*] at f01_hb1)
  go_wp2_with fail
  refine (wordOf_w b hb hB1 _).mono ?_
  rintro e w2 ⟨rfl, hb2⟩
  obtain ⟨hc_hb2, hf_hb2⟩ := bcell hb2; have hz_hb2 := Below.size hb2; (try simp at hz_hb2); have z0_hb2 : w.heap.size < w2.heap.size := (by omega); have c00_hb2 := hc_hb2 (w.heap.size) 0 (by (try simp) <;> omega); have f00_hb2 := hf_hb2 (w.heap.size) 0 (by (try simp) <;> omega); have c01_hb2 := hc_hb2 (w.heap.size) 1 (by (try simp) <;> omega); have f01_hb2 := hf_hb2 (w.heap.size) 1 (by (try simp) <;> omega); clear hc_hb2 hf_hb2; (try simp [*] at c00_hb2); (try simp [*] at f00_hb2); (try simp [*] at c01_hb2); (try simp [*] at f01_hb2)
  go_wp2_with fail
  refine (mul64_w _ _ ba.1 (by omega) bb.1 (by omega) _).mono ?_
  rintro e w3 ⟨rfl, rfl⟩
  go_wp2_with fail
  refine (signed_w _ _ bm.1 (by omega) _).mono ?_
  rintro e w4 ⟨rfl, hb4⟩
  obtain ⟨hc_hb4, hf_hb4⟩ := bcell hb4; have hz_hb4 := Below.size hb4; (try simp at hz_hb4); have z0_hb4 : w.heap.size < w4.heap.size := (by omega); have c00_hb4 := hc_hb4 (w.heap.size) 0 (by (try simp) <;> omega); have f00_hb4 := hf_hb4 (w.heap.size) 0 (by (try simp) <;> omega); have c01_hb4 := hc_hb4 (w.heap.size) 1 (by (try simp) <;> omega); have f01_hb4 := hf_hb4 (w.heap.size) 1 (by (try simp) <;> omega); clear hc_hb4 hf_hb4; (try simp [*] at c00_hb4); (try simp [*] at f00_hb4); (try simp [*] at c01_hb4); (try simp [*] at f01_hb4)
  rw [E1.out, Wd.tr_of EF.out, Wd.er_of EF.out]
  go_wp2
  exact bodyPost_ret (v := Value.agg #[.int .u64 (Wd.hi (a * b)), .int .u64 (Wd.lo (a * b))]) (by simp [*, results, Try.results50, go_sem]) rfl ⟨rfl, by (repeat' (first | exact Below.refl _ _ | assumption | refine Below.drew ?_ | refine Below.alloc ?_ ?_ _ | refine Below.setCell ?_ ?_ _ | (apply below_via; assumption) | (simp; done) | omega | (simp; omega)))⟩

end Go.Proofs.Ytheofhegdjjfgaa
