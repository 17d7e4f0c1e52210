/- Walks of package wide: quotients. -/
import Derived.Test.YtheofhegdjjfgaaW8
import Derived.Test.YtheofhegdjjfgaaWdQ
namespace Go.Proofs.Ytheofhegdjjfgaa
open Go.RowKit

set_option maxHeartbeats 1000000 in
theorem Div64_zero (l y : Int) (hy : 0 < y) (hl : 0 ≤ l) (hl1 : l < 18446744073709551616) (hy1 : y < 18446744073709551616) (w : World) :
    Calls Try.prog 111 #[.int .u64 0, .int .u64 l, .int .u64 y] w fun e w' => e = .returned (.tuple #[.int .u64 (l / y), .int .u64 (l % y)]) ∧ Below w.heap.size w w' := by
  have hy0 : (y == 0) = false := by simp; omega
  have hyx : decide (y ≤ 0) = false := by simp; omega
  have b1 : 0 ≤ l / y := Int.ediv_nonneg hl (by omega)
  have b2 : l / y ≤ l := Int.ediv_le_self _ hl
  go_enter Try.func111, Try.ntmps111
  go_wp2
  go_quiet (fail)
  go_wp2
  go_ret2
  refine ⟨rfl, ?_⟩
  rw [Below_drewN]
  (repeat' (first | exact Below.refl _ _ | assumption | refine Below.drew ?_ | refine Below.alloc ?_ ?_ _ | refine Below.setCell ?_ ?_ _ | (apply below_via; assumption) | (simp; done) | omega | (simp; omega)))

theorem Div64_w (x l y : Int) (hx : 0 ≤ x) (hxy : x < y) (hl : 0 ≤ l) (hl1 : l < 18446744073709551616) (hy1 : y < 18446744073709551616) (w : World) :
    Calls Try.prog 111 #[.int .u64 x, .int .u64 l, .int .u64 y] w fun e w' => e = .returned (.tuple #[.int .u64 ((x * 18446744073709551616 + l) / y), .int .u64 ((x * 18446744073709551616 + l) % y)]) ∧ Below w.heap.size w w' := by
  by_cases h : x = 0
  · subst h
    rw [Int.zero_mul, Int.zero_add]
    exact Div64_zero l y hxy hl hl1 hy1 w
  · refine (Div64_pos x l y (by omega) hxy hl hl1 hy1 w).mono ?_
    rintro e w' ⟨rfl, rfl⟩
    exact ⟨rfl, Below.refl _ _⟩

set_option maxHeartbeats 1000000 in
theorem quo_w (S u : Int) (h0 : 0 ≤ S) (h1 : S < 340282366920938463463374607431768211456) (hu : 0 < u) (hu1 : u < 18446744073709551616) (w : World) :
    Calls Try.prog 89 #[Value.agg #[.int .u64 (Wd.hi (S)), .int .u64 (Wd.lo (S))], .int .u64 u] w fun e w' => e = .returned (.tuple #[Value.agg #[.int .u64 (Wd.hi (S / u)), .int .u64 (Wd.lo (S / u))], .int .u64 (S % u)]) ∧ Below w.heap.size w w' := by
  obtain ⟨q1, q2, q3⟩ := Wd.quo_words S u h0 h1 hu hu1
  have Q2 := Lib.hid q2
  have Q3 := Lib.hid q3
  clear q2 q3
  have bh := Wd.hi_bd S
  have bl := Wd.lo_bd S
  have m0 := Int.emod_nonneg (Wd.hi S) (show u ≠ 0 by omega)
  have m1 := Int.emod_lt_of_pos (Wd.hi S) hu
  have hu0 : (u == 0) = false := by simp; omega
  have b1 : 0 ≤ Wd.hi S / u := Int.ediv_nonneg bh.1 (by omega)
  have b2 : Wd.hi S / u ≤ Wd.hi S := Int.ediv_le_self _ bh.1
  go_enter Try.func89, Try.ntmps89
  go_wp2
  go_quiet (fail)
  go_wp2_with fail
  refine (Div64_w _ _ _ m0 m1 bl.1 bl.2 hu1 _).mono ?_
  rintro e w1 ⟨rfl, hb⟩
  obtain ⟨hc_hb, hf_hb⟩ := bcell hb; have hz_hb := Below.size hb; (try simp at hz_hb); have z1_hb : w.heap.size + 1 < w1.heap.size := (by omega); have c10_hb := hc_hb (w.heap.size + 1) 0 (by (try simp) <;> omega); have f10_hb := hf_hb (w.heap.size + 1) 0 (by (try simp) <;> omega); have c11_hb := hc_hb (w.heap.size + 1) 1 (by (try simp) <;> omega); have f11_hb := hf_hb (w.heap.size + 1) 1 (by (try simp) <;> omega); clear hc_hb hf_hb; (try simp [*, go_sem] at c10_hb); (try simp [*, go_sem] at f10_hb); (try simp [*, go_sem] at c11_hb); (try simp [*, go_sem] at f11_hb)
  rw [Q2.out, Q3.out]
  go_wp2
  refine bodyPost_ret (v := .tuple #[Value.agg #[.int .u64 (Wd.hi (S / u)), .int .u64 (Wd.lo (S / u))], .int .u64 (S % u)]) (by simp [*, results, Try.results89, go_sem]) rfl ⟨rfl, ?_⟩
  have hb' : Below w.heap.size w w1 := by
    refine Below.trans ?_ (hb.mono (by simp; omega))
    rw [Below_drewN]
    (repeat' (first | exact Below.refl _ _ | assumption | refine Below.drew ?_ | refine Below.alloc ?_ ?_ _ | refine Below.setCell ?_ ?_ _ | (apply below_via; assumption) | (simp; done) | omega | (simp; omega)))
  clear hb
  (repeat' (first | exact Below.refl _ _ | assumption | refine Below.drew ?_ | refine Below.alloc ?_ ?_ _ | refine Below.setCell ?_ ?_ _ | (apply below_via; assumption) | (simp; done) | omega | (simp; omega)))

theorem signed_small (r : Int) (neg : Bool) (h0 : 0 ≤ r) (h1 : r < 9223372036854775808) (w : World) :
    Calls Try.prog 87 #[.agg #[.int .u64 0, .int .u64 r], .bool neg] w fun e w' => e = .returned (.tuple #[Value.agg #[.int .u64 (Wd.hi (Wd.sv neg r)), .int .u64 (Wd.lo (Wd.sv neg r))], .int .i64 0]) ∧ Below w.heap.size w w' := by
  have e1 : Wd.hi r = 0 := by unfold Wd.hi; omega
  have e2 : Wd.lo r = r := by unfold Wd.lo; omega
  have hf : Wd.fit (Wd.sv neg r) := by unfold Wd.sv Wd.fit; split <;> omega
  have h := signed_w r neg h0 (by omega) w
  rw [e1, e2, Wd.tr_of hf, Wd.er_of hf] at h
  exact h

set_option maxHeartbeats 1000000 in
theorem DivEven_zero (a : Int) (w : World) :
    Calls Try.prog 51 #[Value.agg #[.int .u64 (Wd.hi (a)), .int .u64 (Wd.lo (a))], .int .i64 0] w fun e w' => e = .returned (.tuple #[Value.agg #[.int .u64 (Wd.hi (0)), .int .u64 (Wd.lo (0))], .int .i64 17]) ∧ Below w.heap.size w w' := by
  go_enter Try.func51, Try.ntmps51
  go_wp2
  exact bodyPost_ret (v := .tuple #[Value.agg #[.int .u64 (Wd.hi (0)), .int .u64 (Wd.lo (0))], .int .i64 17]) (by simp [*, results, Try.results51, go_sem, Wd.hi_zero, Wd.lo_zero]) rfl ⟨rfl, by (repeat' (first | exact Below.refl _ _ | assumption | refine Below.drew ?_ | refine Below.alloc ?_ ?_ _ | refine Below.setCell ?_ ?_ _ | (apply below_via; assumption) | (simp; done) | omega | (simp; omega)))⟩

end Go.Proofs.Ytheofhegdjjfgaa
