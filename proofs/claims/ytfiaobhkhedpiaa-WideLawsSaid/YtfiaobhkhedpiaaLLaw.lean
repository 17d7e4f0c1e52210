/- The law WideLaws, walked. -/
import Derived.Test.YtfiaobhkhedpiaaLOrdBase
import Derived.Test.YtfiaobhkhedpiaaLInts
namespace Go.Proofs.Ytfiaobhkhedpiaa
open Go.RowKit Go.Lib

theorem Wd.er_yes {v : Int} (h : Wd.fit v) : (Wd.er v == 0) = true := by rw [Wd.er_of h]; rfl
theorem Wd.er_not {v : Int} (h : ¬ Wd.fit v) : (Wd.er v == 0) = false := by rw [Wd.er_no h]; rfl
theorem Wd.er_same {v : Int} (h : Wd.fit v) : (Wd.er v != 0) = false := by rw [Wd.er_of h]; rfl
theorem Wd.distr_tr {a b n : Int} (h : Wd.fit (a + b)) (k : Wd.fit (a * n)) (l : Wd.fit (b * n)) : Wd.tr (a * n) + Wd.tr (b * n) = Wd.tr (a + b) * n := by
  rw [Wd.tr_of h, Wd.tr_of k, Wd.tr_of l, Int.add_mul]
theorem Wd.tdiv_mul_fit (a d : Int) (ha : Wd.fit a) : Wd.fit (a.tdiv d * d) := by
  by_cases hd : d = 0
  · subst hd; rw [Int.mul_zero]; decide
  · have h := Int.tdiv_mul_add_tmod a d
    have e := Wd.tm_of a d
    have p := Wd.ab_pos d hd
    have n := Wd.ab_nonneg a
    have r := Wd.rest_bd (Wd.ab a) (Wd.ab d) p
    have m := Int.ediv_mul_add_emod (Wd.ab a) (Wd.ab d)
    have q : 0 ≤ Wd.ab a / Wd.ab d * Wd.ab d := Int.mul_nonneg (Int.ediv_nonneg n (by omega)) (by omega)
    generalize Wd.ab a / Wd.ab d * Wd.ab d = k at *
    generalize Wd.ab a % Wd.ab d = t at *
    rw [← e] at h
    unfold Wd.fit at *
    unfold Wd.sv Wd.ab at *
    by_cases h0 : a < 0 <;> simp [h0] at * <;> omega
theorem Wd.dv_step (a d : Int) : Wd.dv a d - a.tdiv d = 0 ∨ Wd.dv a d - a.tdiv d = 1 ∨ Wd.dv a d - a.tdiv d = -1 := by
  have h := Wd.tq_of a d
  rw [← h]
  unfold Wd.dv Wd.ev Wd.sv
  split <;> split <;> omega
theorem from_1 (w : World) : Calls Try.prog 42 #[.int .i64 1] w fun e w' => e = .returned (.agg #[.int .u64 0, .int .u64 1]) ∧ Below w.heap.size w w' := by
  have h := FromInt_w 1 (by decide) (by decide) w
  rw [show Wd.hi 1 = 0 from by decide, show Wd.lo 1 = 1 from by decide] at h
  exact h
theorem from_m1 (w : World) : Calls Try.prog 42 #[.int .i64 (-1)] w fun e w' => e = .returned (Value.agg #[.int .u64 (Wd.hi (-1)), .int .u64 (Wd.lo (-1))]) ∧ Below w.heap.size w w' := FromInt_w (-1) (by decide) (by decide) w
theorem Wd.assoc_tr {a b c : Int} (h : Wd.fit (a + b)) (k : Wd.fit (b + c)) : a + Wd.tr (b + c) = Wd.tr (a + b) + c := by
  rw [Wd.tr_of h, Wd.tr_of k, Int.add_assoc]

set_option maxRecDepth 100000 in
set_option maxHeartbeats 8000000 in
theorem WideLaws_w (a b c : Int) (n d : Int) (ha : Wd.fit a) (hb : Wd.fit b) (hc : Wd.fit c) (n1 : -9223372036854775808 ≤ n) (n2 : n < 9223372036854775808) (d1 : -9223372036854775808 ≤ d) (d2 : d < 9223372036854775808) (w : World) :
    Calls Try.prog 10 #[Value.agg #[.int .u64 (Wd.hi (a)), .int .u64 (Wd.lo (a))], Value.agg #[.int .u64 (Wd.hi (b)), .int .u64 (Wd.lo (b))], Value.agg #[.int .u64 (Wd.hi (c)), .int .u64 (Wd.lo (c))], .int .i64 n, .int .i64 d] w fun e w' => e = .returned (.bool true) ∧ Below w.heap.size w w' := by
  have hab := Lib.hid (Int.add_comm b a)
  go_enter Try.func10, Try.ntmps10
  go_wp2_with fail
  refine (wfirst_w _).mono ?_
  rintro e w1 ⟨rfl, hb1⟩
  have b_w1 : Below w.heap.size w w1 := (below_via hb1 (by (repeat' (first | exact Below.refl _ _ | assumption | refine Below.drew ?_ | refine Below.alloc ?_ ?_ _ | refine Below.setCell ?_ ?_ _ | (apply below_via; assumption) | (simp; done) | omega | (simp; omega)))) (by first | omega | (simp; omega) | (simp; done))); have s_w1 := Below.size b_w1
  obtain ⟨hc_hb1, hf_hb1⟩ := bcell hb1; have hz_hb1 := Below.size hb1; (try simp at hz_hb1); have z0_hb1 : w.heap.size < w1.heap.size := (by omega); have z1_hb1 : w.heap.size + 1 < w1.heap.size := (by omega); have z2_hb1 : w.heap.size + 1 + 1 < w1.heap.size := (by omega); have c00_hb1 := hc_hb1 (w.heap.size) 0 (by (try simp) <;> omega); have f00_hb1 := hf_hb1 (w.heap.size) 0 (by (try simp) <;> omega); have c01_hb1 := hc_hb1 (w.heap.size) 1 (by (try simp) <;> omega); have f01_hb1 := hf_hb1 (w.heap.size) 1 (by (try simp) <;> omega); have c10_hb1 := hc_hb1 (w.heap.size + 1) 0 (by (try simp) <;> omega); have f10_hb1 := hf_hb1 (w.heap.size + 1) 0 (by (try simp) <;> omega); have c11_hb1 := hc_hb1 (w.heap.size + 1) 1 (by (try simp) <;> omega); have f11_hb1 := hf_hb1 (w.heap.size + 1) 1 (by (try simp) <;> omega); have c20_hb1 := hc_hb1 (w.heap.size + 1 + 1) 0 (by (try simp) <;> omega); have f20_hb1 := hf_hb1 (w.heap.size + 1 + 1) 0 (by (try simp) <;> omega); have c21_hb1 := hc_hb1 (w.heap.size + 1 + 1) 1 (by (try simp) <;> omega); have f21_hb1 := hf_hb1 (w.heap.size + 1 + 1) 1 (by (try simp) <;> omega); clear hc_hb1 hf_hb1; (try simp [*, go_sem] at c00_hb1); (try simp [*, go_sem] at f00_hb1); (try simp [*, go_sem] at c01_hb1); (try simp [*, go_sem] at f01_hb1); (try simp [*, go_sem] at c10_hb1); (try simp [*, go_sem] at f10_hb1); (try simp [*, go_sem] at c11_hb1); (try simp [*, go_sem] at f11_hb1); (try simp [*, go_sem] at c20_hb1); (try simp [*, go_sem] at f20_hb1); (try simp [*, go_sem] at c21_hb1); (try simp [*, go_sem] at f21_hb1)
  go_wp2_with fail
  refine (Add_w a b ha hb _).mono ?_
  rintro e w2 ⟨rfl, hb2⟩
  have b_w2 : Below w.heap.size w w2 := (below_via hb2 (by (repeat' (first | exact Below.refl _ _ | assumption | refine Below.drew ?_ | refine Below.alloc ?_ ?_ _ | refine Below.setCell ?_ ?_ _ | (apply below_via; assumption) | (simp; done) | omega | (simp; omega)))) (by first | omega | (simp; omega) | (simp; done))); have s_w2 := Below.size b_w2
  obtain ⟨hc_hb2, hf_hb2⟩ := bcell hb2; have hz_hb2 := Below.size hb2; (try simp at hz_hb2); have z0_hb2 : w.heap.size < w2.heap.size := (by omega); have z1_hb2 : w.heap.size + 1 < w2.heap.size := (by omega); have z2_hb2 : w.heap.size + 1 + 1 < w2.heap.size := (by omega); have c00_hb2 := hc_hb2 (w.heap.size) 0 (by (try simp) <;> omega); have f00_hb2 := hf_hb2 (w.heap.size) 0 (by (try simp) <;> omega); have c01_hb2 := hc_hb2 (w.heap.size) 1 (by (try simp) <;> omega); have f01_hb2 := hf_hb2 (w.heap.size) 1 (by (try simp) <;> omega); have c10_hb2 := hc_hb2 (w.heap.size + 1) 0 (by (try simp) <;> omega); have f10_hb2 := hf_hb2 (w.heap.size + 1) 0 (by (try simp) <;> omega); have c11_hb2 := hc_hb2 (w.heap.size + 1) 1 (by (try simp) <;> omega); have f11_hb2 := hf_hb2 (w.heap.size + 1) 1 (by (try simp) <;> omega); have c20_hb2 := hc_hb2 (w.heap.size + 1 + 1) 0 (by (try simp) <;> omega); have f20_hb2 := hf_hb2 (w.heap.size + 1 + 1) 0 (by (try simp) <;> omega); have c21_hb2 := hc_hb2 (w.heap.size + 1 + 1) 1 (by (try simp) <;> omega); have f21_hb2 := hf_hb2 (w.heap.size + 1 + 1) 1 (by (try simp) <;> omega); clear hc_hb2 hf_hb2; (try simp [*, go_sem] at c00_hb2); (try simp [*, go_sem] at f00_hb2); (try simp [*, go_sem] at c01_hb2); (try simp [*, go_sem] at f01_hb2); (try simp [*, go_sem] at c10_hb2); (try simp [*, go_sem] at f10_hb2); (try simp [*, go_sem] at c11_hb2); (try simp [*, go_sem] at f11_hb2); (try simp [*, go_sem] at c20_hb2); (try simp [*, go_sem] at f20_hb2); (try simp [*, go_sem] at c21_hb2); (try simp [*, go_sem] at f21_hb2)
  go_wp2_with fail
  refine (Add_w b a hb ha _).mono ?_
  rintro e w3 ⟨rfl, hb3⟩
  rw [hab.out]
  have b_w3 : Below w.heap.size w w3 := (below_via hb3 (by (repeat' (first | exact Below.refl _ _ | assumption | refine Below.drew ?_ | refine Below.alloc ?_ ?_ _ | refine Below.setCell ?_ ?_ _ | (apply below_via; assumption) | (simp; done) | omega | (simp; omega)))) (by first | omega | (simp; omega) | (simp; done))); have s_w3 := Below.size b_w3
  obtain ⟨hc_hb3, hf_hb3⟩ := bcell hb3; have hz_hb3 := Below.size hb3; (try simp at hz_hb3); have z0_hb3 : w.heap.size < w3.heap.size := (by omega); have z1_hb3 : w.heap.size + 1 < w3.heap.size := (by omega); have z2_hb3 : w.heap.size + 1 + 1 < w3.heap.size := (by omega); have zw2_heap_size_hb3 : w2.heap.size < w3.heap.size := (by omega); have c00_hb3 := hc_hb3 (w.heap.size) 0 (by (try simp) <;> omega); have f00_hb3 := hf_hb3 (w.heap.size) 0 (by (try simp) <;> omega); have c01_hb3 := hc_hb3 (w.heap.size) 1 (by (try simp) <;> omega); have f01_hb3 := hf_hb3 (w.heap.size) 1 (by (try simp) <;> omega); have c10_hb3 := hc_hb3 (w.heap.size + 1) 0 (by (try simp) <;> omega); have f10_hb3 := hf_hb3 (w.heap.size + 1) 0 (by (try simp) <;> omega); have c11_hb3 := hc_hb3 (w.heap.size + 1) 1 (by (try simp) <;> omega); have f11_hb3 := hf_hb3 (w.heap.size + 1) 1 (by (try simp) <;> omega); have c20_hb3 := hc_hb3 (w.heap.size + 1 + 1) 0 (by (try simp) <;> omega); have f20_hb3 := hf_hb3 (w.heap.size + 1 + 1) 0 (by (try simp) <;> omega); have c21_hb3 := hc_hb3 (w.heap.size + 1 + 1) 1 (by (try simp) <;> omega); have f21_hb3 := hf_hb3 (w.heap.size + 1 + 1) 1 (by (try simp) <;> omega); have cw2_heap_size0_hb3 := hc_hb3 (w2.heap.size) 0 (by (try simp) <;> omega); have fw2_heap_size0_hb3 := hf_hb3 (w2.heap.size) 0 (by (try simp) <;> omega); have cw2_heap_size1_hb3 := hc_hb3 (w2.heap.size) 1 (by (try simp) <;> omega); have fw2_heap_size1_hb3 := hf_hb3 (w2.heap.size) 1 (by (try simp) <;> omega); clear hc_hb3 hf_hb3; (try simp [*, go_sem] at c00_hb3); (try simp [*, go_sem] at f00_hb3); (try simp [*, go_sem] at c01_hb3); (try simp [*, go_sem] at f01_hb3); (try simp [*, go_sem] at c10_hb3); (try simp [*, go_sem] at f10_hb3); (try simp [*, go_sem] at c11_hb3); (try simp [*, go_sem] at f11_hb3); (try simp [*, go_sem] at c20_hb3); (try simp [*, go_sem] at f20_hb3); (try simp [*, go_sem] at c21_hb3); (try simp [*, go_sem] at f21_hb3); (try simp [*, go_sem] at cw2_heap_size0_hb3); (try simp [*, go_sem] at fw2_heap_size0_hb3); (try simp [*, go_sem] at cw2_heap_size1_hb3); (try simp [*, go_sem] at fw2_heap_size1_hb3)
  go_wp2_with fail
  refine (Add_w _ c (Wd.fit_tr (a + b)) hc _).mono ?_
  rintro e w4 ⟨rfl, hb4⟩
  have b_w4 : Below w.heap.size w w4 := (below_via hb4 (by (repeat' (first | exact Below.refl _ _ | assumption | refine Below.drew ?_ | refine Below.alloc ?_ ?_ _ | refine Below.setCell ?_ ?_ _ | (apply below_via; assumption) | (simp; done) | omega | (simp; omega)))) (by first | omega | (simp; omega) | (simp; done))); have s_w4 := Below.size b_w4
  obtain ⟨hc_hb4, hf_hb4⟩ := bcell hb4; have hz_hb4 := Below.size hb4; (try simp at hz_hb4); have z0_hb4 : w.heap.size < w4.heap.size := (by omega); have z1_hb4 : w.heap.size + 1 < w4.heap.size := (by omega); have z2_hb4 : w.heap.size + 1 + 1 < w4.heap.size := (by omega); have zw2_heap_size_hb4 : w2.heap.size < w4.heap.size := (by omega); have c00_hb4 := hc_hb4 (w.heap.size) 0 (by (try simp) <;> omega); have f00_hb4 := hf_hb4 (w.heap.size) 0 (by (try simp) <;> omega); have c01_hb4 := hc_hb4 (w.heap.size) 1 (by (try simp) <;> omega); have f01_hb4 := hf_hb4 (w.heap.size) 1 (by (try simp) <;> omega); have c10_hb4 := hc_hb4 (w.heap.size + 1) 0 (by (try simp) <;> omega); have f10_hb4 := hf_hb4 (w.heap.size + 1) 0 (by (try simp) <;> omega); have c11_hb4 := hc_hb4 (w.heap.size + 1) 1 (by (try simp) <;> omega); have f11_hb4 := hf_hb4 (w.heap.size + 1) 1 (by (try simp) <;> omega); have c20_hb4 := hc_hb4 (w.heap.size + 1 + 1) 0 (by (try simp) <;> omega); have f20_hb4 := hf_hb4 (w.heap.size + 1 + 1) 0 (by (try simp) <;> omega); have c21_hb4 := hc_hb4 (w.heap.size + 1 + 1) 1 (by (try simp) <;> omega); have f21_hb4 := hf_hb4 (w.heap.size + 1 + 1) 1 (by (try simp) <;> omega); have cw2_heap_size0_hb4 := hc_hb4 (w2.heap.size) 0 (by (try simp) <;> omega); have fw2_heap_size0_hb4 := hf_hb4 (w2.heap.size) 0 (by (try simp) <;> omega); have cw2_heap_size1_hb4 := hc_hb4 (w2.heap.size) 1 (by (try simp) <;> omega); have fw2_heap_size1_hb4 := hf_hb4 (w2.heap.size) 1 (by (try simp) <;> omega); clear hc_hb4 hf_hb4; (try simp [*, go_sem] at c00_hb4); (try simp [*, go_sem] at f00_hb4); (try simp [*, go_sem] at c01_hb4); (try simp [*, go_sem] at f01_hb4); (try simp [*, go_sem] at c10_hb4); (try simp [*, go_sem] at f10_hb4); (try simp [*, go_sem] at c11_hb4); (try simp [*, go_sem] at f11_hb4); (try simp [*, go_sem] at c20_hb4); (try simp [*, go_sem] at f20_hb4); (try simp [*, go_sem] at c21_hb4); (try simp [*, go_sem] at f21_hb4); (try simp [*, go_sem] at cw2_heap_size0_hb4); (try simp [*, go_sem] at fw2_heap_size0_hb4); (try simp [*, go_sem] at cw2_heap_size1_hb4); (try simp [*, go_sem] at fw2_heap_size1_hb4)
  go_wp2_with fail
  refine (Add_w b c hb hc _).mono ?_
  rintro e w5 ⟨rfl, hb5⟩
  have b_w5 : Below w.heap.size w w5 := (below_via hb5 (by (repeat' (first | exact Below.refl _ _ | assumption | refine Below.drew ?_ | refine Below.alloc ?_ ?_ _ | refine Below.setCell ?_ ?_ _ | (apply below_via; assumption) | (simp; done) | omega | (simp; omega)))) (by first | omega | (simp; omega) | (simp; done))); have s_w5 := Below.size b_w5
  obtain ⟨hc_hb5, hf_hb5⟩ := bcell hb5; have hz_hb5 := Below.size hb5; (try simp at hz_hb5); have z0_hb5 : w.heap.size < w5.heap.size := (by omega); have z1_hb5 : w.heap.size + 1 < w5.heap.size := (by omega); have z2_hb5 : w.heap.size + 1 + 1 < w5.heap.size := (by omega); have zw2_heap_size_hb5 : w2.heap.size < w5.heap.size := (by omega); have zw4_heap_size_hb5 : w4.heap.size < w5.heap.size := (by omega); have c00_hb5 := hc_hb5 (w.heap.size) 0 (by (try simp) <;> omega); have f00_hb5 := hf_hb5 (w.heap.size) 0 (by (try simp) <;> omega); have c01_hb5 := hc_hb5 (w.heap.size) 1 (by (try simp) <;> omega); have f01_hb5 := hf_hb5 (w.heap.size) 1 (by (try simp) <;> omega); have c10_hb5 := hc_hb5 (w.heap.size + 1) 0 (by (try simp) <;> omega); have f10_hb5 := hf_hb5 (w.heap.size + 1) 0 (by (try simp) <;> omega); have c11_hb5 := hc_hb5 (w.heap.size + 1) 1 (by (try simp) <;> omega); have f11_hb5 := hf_hb5 (w.heap.size + 1) 1 (by (try simp) <;> omega); have c20_hb5 := hc_hb5 (w.heap.size + 1 + 1) 0 (by (try simp) <;> omega); have f20_hb5 := hf_hb5 (w.heap.size + 1 + 1) 0 (by (try simp) <;> omega); have c21_hb5 := hc_hb5 (w.heap.size + 1 + 1) 1 (by (try simp) <;> omega); have f21_hb5 := hf_hb5 (w.heap.size + 1 + 1) 1 (by (try simp) <;> omega); have cw2_heap_size0_hb5 := hc_hb5 (w2.heap.size) 0 (by (try simp) <;> omega); have fw2_heap_size0_hb5 := hf_hb5 (w2.heap.size) 0 (by (try simp) <;> omega); have cw2_heap_size1_hb5 := hc_hb5 (w2.heap.size) 1 (by (try simp) <;> omega); have fw2_heap_size1_hb5 := hf_hb5 (w2.heap.size) 1 (by (try simp) <;> omega); have cw4_heap_size0_hb5 := hc_hb5 (w4.heap.size) 0 (by (try simp) <;> omega); have fw4_heap_size0_hb5 := hf_hb5 (w4.heap.size) 0 (by (try simp) <;> omega); have cw4_heap_size1_hb5 := hc_hb5 (w4.heap.size) 1 (by (try simp) <;> omega); have fw4_heap_size1_hb5 := hf_hb5 (w4.heap.size) 1 (by (try simp) <;> omega); clear hc_hb5 hf_hb5; (try simp [*, go_sem] at c00_hb5); (try simp [*, go_sem] at f00_hb5); (try simp [*, go_sem] at c01_hb5); (try simp [*, go_sem] at f01_hb5); (try simp [*, go_sem] at c10_hb5); (try simp [*, go_sem] at f10_hb5); (try simp [*, go_sem] at c11_hb5); (try simp [*, go_sem] at f11_hb5); (try simp [*, go_sem] at c20_hb5); (try simp [*, go_sem] at f20_hb5); (try simp [*, go_sem] at c21_hb5); (try simp [*, go_sem] at f21_hb5); (try simp [*, go_sem] at cw2_heap_size0_hb5); (try simp [*, go_sem] at fw2_heap_size0_hb5); (try simp [*, go_sem] at cw2_heap_size1_hb5); (try simp [*, go_sem] at fw2_heap_size1_hb5); (try simp [*, go_sem] at cw4_heap_size0_hb5); (try simp [*, go_sem] at fw4_heap_size0_hb5); (try simp [*, go_sem] at cw4_heap_size1_hb5); (try simp [*, go_sem] at fw4_heap_size1_hb5)
  go_upto_region 8 with fail
  (generalize hW : World.alloc _ _ = W); (have c00_W : W.cell? ⟨w.heap.size, 0, none⟩ = some (.int .u64 (Wd.hi (a))) := by subst hW; (first | (go_simp; done) | (simp [*]; done))); (have f00_W : W.frozen? ⟨w.heap.size, 0, none⟩ = false := by subst hW; (first | (go_simp; done) | (simp [*]; done))); (have c01_W : W.cell? ⟨w.heap.size, 1, none⟩ = some (.int .u64 (Wd.lo (a))) := by subst hW; (first | (go_simp; done) | (simp [*]; done))); (have f01_W : W.frozen? ⟨w.heap.size, 1, none⟩ = false := by subst hW; (first | (go_simp; done) | (simp [*]; done))); (have z0_W : w.heap.size < W.heap.size := by subst hW; first | (simp; done) | (simp; omega)); (have c10_W : W.cell? ⟨w.heap.size + 1, 0, none⟩ = some (.int .u64 (Wd.hi (b))) := by subst hW; (first | (go_simp; done) | (simp [*]; done))); (have f10_W : W.frozen? ⟨w.heap.size + 1, 0, none⟩ = false := by subst hW; (first | (go_simp; done) | (simp [*]; done))); (have c11_W : W.cell? ⟨w.heap.size + 1, 1, none⟩ = some (.int .u64 (Wd.lo (b))) := by subst hW; (first | (go_simp; done) | (simp [*]; done))); (have f11_W : W.frozen? ⟨w.heap.size + 1, 1, none⟩ = false := by subst hW; (first | (go_simp; done) | (simp [*]; done))); (have z1_W : w.heap.size + 1 < W.heap.size := by subst hW; first | (simp; done) | (simp; omega)); (have c20_W : W.cell? ⟨w.heap.size + 1 + 1, 0, none⟩ = some (.int .u64 (Wd.hi (c))) := by subst hW; (first | (go_simp; done) | (simp [*]; done))); (have f20_W : W.frozen? ⟨w.heap.size + 1 + 1, 0, none⟩ = false := by subst hW; (first | (go_simp; done) | (simp [*]; done))); (have c21_W : W.cell? ⟨w.heap.size + 1 + 1, 1, none⟩ = some (.int .u64 (Wd.lo (c))) := by subst hW; (first | (go_simp; done) | (simp [*]; done))); (have f21_W : W.frozen? ⟨w.heap.size + 1 + 1, 1, none⟩ = false := by subst hW; (first | (go_simp; done) | (simp [*]; done))); (have z2_W : w.heap.size + 1 + 1 < W.heap.size := by subst hW; first | (simp; done) | (simp; omega)); (have cw2_heap_size0_W : W.cell? ⟨w2.heap.size, 0, none⟩ = some (.int .u64 (Wd.hi (Wd.tr (a + b)))) := by subst hW; (first | (go_simp; done) | (simp [*]; done))); (have fw2_heap_size0_W : W.frozen? ⟨w2.heap.size, 0, none⟩ = false := by subst hW; (first | (go_simp; done) | (simp [*]; done))); (have cw2_heap_size1_W : W.cell? ⟨w2.heap.size, 1, none⟩ = some (.int .u64 (Wd.lo (Wd.tr (a + b)))) := by subst hW; (first | (go_simp; done) | (simp [*]; done))); (have fw2_heap_size1_W : W.frozen? ⟨w2.heap.size, 1, none⟩ = false := by subst hW; (first | (go_simp; done) | (simp [*]; done))); (have zw2_heap_size_W : w2.heap.size < W.heap.size := by subst hW; first | (simp; done) | (simp; omega)); (have cw4_heap_size0_W : W.cell? ⟨w4.heap.size, 0, none⟩ = some (.int .u64 (Wd.hi (Wd.tr (Wd.tr (a + b) + c)))) := by subst hW; (first | (go_simp; done) | (simp [*]; done))); (have fw4_heap_size0_W : W.frozen? ⟨w4.heap.size, 0, none⟩ = false := by subst hW; (first | (go_simp; done) | (simp [*]; done))); (have cw4_heap_size1_W : W.cell? ⟨w4.heap.size, 1, none⟩ = some (.int .u64 (Wd.lo (Wd.tr (Wd.tr (a + b) + c)))) := by subst hW; (first | (go_simp; done) | (simp [*]; done))); (have fw4_heap_size1_W : W.frozen? ⟨w4.heap.size, 1, none⟩ = false := by subst hW; (first | (go_simp; done) | (simp [*]; done))); (have zw4_heap_size_W : w4.heap.size < W.heap.size := by subst hW; first | (simp; done) | (simp; omega)); (have cw5_heap_size0_W : W.cell? ⟨w5.heap.size, 0, none⟩ = some (.int .u64 (Wd.hi (Wd.tr (b + c)))) := by subst hW; (first | (go_simp; done) | (simp [*]; done))); (have fw5_heap_size0_W : W.frozen? ⟨w5.heap.size, 0, none⟩ = false := by subst hW; (first | (go_simp; done) | (simp [*]; done))); (have cw5_heap_size1_W : W.cell? ⟨w5.heap.size, 1, none⟩ = some (.int .u64 (Wd.lo (Wd.tr (b + c)))) := by subst hW; (first | (go_simp; done) | (simp [*]; done))); (have fw5_heap_size1_W : W.frozen? ⟨w5.heap.size, 1, none⟩ = false := by subst hW; (first | (go_simp; done) | (simp [*]; done))); (have zw5_heap_size_W : w5.heap.size < W.heap.size := by subst hW; first | (simp; done) | (simp; omega)); (have b_W : Below w.heap.size w W := by subst hW; (repeat' (first | exact Below.refl _ _ | assumption | refine Below.drew ?_ | refine Below.alloc ?_ ?_ _ | refine Below.setCell ?_ ?_ _ | (apply below_via; assumption) | (simp; done) | omega | (simp; omega)))); (have s_W := Below.size b_W); (clear hW)
  generalize w2.heap.size = gx at *
  generalize w3.heap.size = gy at *
  generalize w4.heap.size = gl at *
  generalize w5.heap.size = gr at *
  clear hb1 hb2 hb3 hb4 hb5 b_w2 b_w3 b_w4 b_w5 s_w2 s_w3 s_w4 s_w5
  obtain ⟨eh, HEH⟩ : ∃ eh : Bool, Hid (eh = (decide (Wd.fit (a + b)) && decide (Wd.fit (b + c)))) := ⟨_, rfl⟩
  go_cut [81] from 74 to 81 (fun s81 wx => s81 = .bool eh ∧ W = wx)
  case first =>
    by_cases E : Wd.fit (a + b)
    · by_cases H : Wd.fit (b + c)
      · have e1 : eh = true := by rw [HEH.out]; simp [E, H]
        have e2 := Wd.er_yes E
        have e3 := Wd.er_yes H
        subst e1
        go_wp2_with (first | (go_at_call 16; refine (Num_w _ _).mono ?_; rintro e w7 ⟨rfl, rfl⟩))
        go_meet
        exact ⟨rfl, rfl⟩
      · have e1 : eh = false := by rw [HEH.out]; simp [E, H]
        have e2 := Wd.er_yes E
        have e3 := Wd.er_not H
        subst e1
        go_wp2_with (first | (go_at_call 16; refine (Num_w _ _).mono ?_; rintro e w7 ⟨rfl, rfl⟩))
        go_meet
        exact ⟨rfl, rfl⟩
    · have e1 : eh = false := by rw [HEH.out]; simp [E]
      have e2 := Wd.er_not E
      subst e1
      go_wp2_with (first | (go_at_call 16; refine (Num_w _ _).mono ?_; rintro e w7 ⟨rfl, rfl⟩))
      go_meet
      exact ⟨rfl, rfl⟩
  case rest =>
    obtain ⟨rfl, rfl⟩ := hcut
    go_upto_if 81 with fail
    go_cut [20, 21] from 82 to 99 (fun s20 s21 wx => Below W.heap.size W wx)
    case first =>
      by_cases EH : eh = true
      · have hE : Wd.fit (a + b) ∧ Wd.fit (b + c) := by have h := HEH.out; rw [EH] at h; simpa using h.symm
        obtain ⟨E, H⟩ := hE
        subst EH
        have HM := Lib.hid (Wd.assoc_tr E H)
        clear HEH
        go_wp2_with fail
        refine (Add_w a _ ha (Wd.fit_tr (b + c)) _).mono ?_
        rintro e w6 ⟨rfl, hb6⟩
        rw [HM.out]
        obtain ⟨hc_hb6, hf_hb6⟩ := bcell hb6; have hz_hb6 := Below.size hb6; (try simp at hz_hb6); have zgl_hb6 : gl < w6.heap.size := (by omega); have cgl0_hb6 := hc_hb6 (gl) 0 (by (try simp) <;> omega); have fgl0_hb6 := hf_hb6 (gl) 0 (by (try simp) <;> omega); have cgl1_hb6 := hc_hb6 (gl) 1 (by (try simp) <;> omega); have fgl1_hb6 := hf_hb6 (gl) 1 (by (try simp) <;> omega); clear hc_hb6 hf_hb6; (try simp [*, go_sem] at cgl0_hb6); (try simp [*, go_sem] at fgl0_hb6); (try simp [*, go_sem] at cgl1_hb6); (try simp [*, go_sem] at fgl1_hb6)
        go_wp2_with (first | (go_at_call 16; refine (Num_w _ _).mono ?_; rintro e w7 ⟨rfl, rfl⟩))
        go_meet
        exact hb6.alloc (by omega) _
      · have e1 : eh = false := by simpa using EH
        subst e1
        go_wp2_with fail
        go_meet
        exact Below.refl _ _
    case rest =>
      obtain ⟨hc_hcut, hf_hcut⟩ := bcell hcut; have hz_hcut := Below.size hcut; (try simp at hz_hcut); have z0_hcut : w.heap.size < wc.heap.size := (by omega); have z1_hcut : w.heap.size + 1 < wc.heap.size := (by omega); have z2_hcut : w.heap.size + 1 + 1 < wc.heap.size := (by omega); have zgx_hcut : gx < wc.heap.size := (by omega); have c00_hcut := hc_hcut (w.heap.size) 0 (by (try simp) <;> omega); have f00_hcut := hf_hcut (w.heap.size) 0 (by (try simp) <;> omega); have c01_hcut := hc_hcut (w.heap.size) 1 (by (try simp) <;> omega); have f01_hcut := hf_hcut (w.heap.size) 1 (by (try simp) <;> omega); have c10_hcut := hc_hcut (w.heap.size + 1) 0 (by (try simp) <;> omega); have f10_hcut := hf_hcut (w.heap.size + 1) 0 (by (try simp) <;> omega); have c11_hcut := hc_hcut (w.heap.size + 1) 1 (by (try simp) <;> omega); have f11_hcut := hf_hcut (w.heap.size + 1) 1 (by (try simp) <;> omega); have c20_hcut := hc_hcut (w.heap.size + 1 + 1) 0 (by (try simp) <;> omega); have f20_hcut := hf_hcut (w.heap.size + 1 + 1) 0 (by (try simp) <;> omega); have c21_hcut := hc_hcut (w.heap.size + 1 + 1) 1 (by (try simp) <;> omega); have f21_hcut := hf_hcut (w.heap.size + 1 + 1) 1 (by (try simp) <;> omega); have cgx0_hcut := hc_hcut (gx) 0 (by (try simp) <;> omega); have fgx0_hcut := hf_hcut (gx) 0 (by (try simp) <;> omega); have cgx1_hcut := hc_hcut (gx) 1 (by (try simp) <;> omega); have fgx1_hcut := hf_hcut (gx) 1 (by (try simp) <;> omega); clear hc_hcut hf_hcut; (try simp [*, go_sem] at c00_hcut); (try simp [*, go_sem] at f00_hcut); (try simp [*, go_sem] at c01_hcut); (try simp [*, go_sem] at f01_hcut); (try simp [*, go_sem] at c10_hcut); (try simp [*, go_sem] at f10_hcut); (try simp [*, go_sem] at c11_hcut); (try simp [*, go_sem] at f11_hcut); (try simp [*, go_sem] at c20_hcut); (try simp [*, go_sem] at f20_hcut); (try simp [*, go_sem] at c21_hcut); (try simp [*, go_sem] at f21_hcut); (try simp [*, go_sem] at cgx0_hcut); (try simp [*, go_sem] at fgx0_hcut); (try simp [*, go_sem] at cgx1_hcut); (try simp [*, go_sem] at fgx1_hcut)
      have b_wc : Below w.heap.size w wc := b_W.trans (hcut.mono s_W)
      have s_wc := b_wc.size
      clear hcut HEH b_W s_W
      have fX := Wd.fit_tr (a + b)
      go_wp2_with fail
      refine (MulInt_w a n ha n1 n2 _).mono ?_
      rintro e w6 ⟨rfl, hb6⟩
      have b_w6 : Below w.heap.size w w6 := (below_via hb6 (by (repeat' (first | exact Below.refl _ _ | assumption | refine Below.drew ?_ | refine Below.alloc ?_ ?_ _ | refine Below.setCell ?_ ?_ _ | (apply below_via; assumption) | (simp; done) | omega | (simp; omega)))) (by first | omega | (simp; omega) | (simp; done))); have s_w6 := Below.size b_w6
      obtain ⟨hc_hb6, hf_hb6⟩ := bcell hb6; have hz_hb6 := Below.size hb6; (try simp at hz_hb6); have z0_hb6 : w.heap.size < w6.heap.size := (by omega); have z1_hb6 : w.heap.size + 1 < w6.heap.size := (by omega); have zgx_hb6 : gx < w6.heap.size := (by omega); have c00_hb6 := hc_hb6 (w.heap.size) 0 (by (try simp) <;> omega); have f00_hb6 := hf_hb6 (w.heap.size) 0 (by (try simp) <;> omega); have c01_hb6 := hc_hb6 (w.heap.size) 1 (by (try simp) <;> omega); have f01_hb6 := hf_hb6 (w.heap.size) 1 (by (try simp) <;> omega); have c10_hb6 := hc_hb6 (w.heap.size + 1) 0 (by (try simp) <;> omega); have f10_hb6 := hf_hb6 (w.heap.size + 1) 0 (by (try simp) <;> omega); have c11_hb6 := hc_hb6 (w.heap.size + 1) 1 (by (try simp) <;> omega); have f11_hb6 := hf_hb6 (w.heap.size + 1) 1 (by (try simp) <;> omega); have cgx0_hb6 := hc_hb6 (gx) 0 (by (try simp) <;> omega); have fgx0_hb6 := hf_hb6 (gx) 0 (by (try simp) <;> omega); have cgx1_hb6 := hc_hb6 (gx) 1 (by (try simp) <;> omega); have fgx1_hb6 := hf_hb6 (gx) 1 (by (try simp) <;> omega); clear hc_hb6 hf_hb6; (try simp [*, go_sem] at c00_hb6); (try simp [*, go_sem] at f00_hb6); (try simp [*, go_sem] at c01_hb6); (try simp [*, go_sem] at f01_hb6); (try simp [*, go_sem] at c10_hb6); (try simp [*, go_sem] at f10_hb6); (try simp [*, go_sem] at c11_hb6); (try simp [*, go_sem] at f11_hb6); (try simp [*, go_sem] at cgx0_hb6); (try simp [*, go_sem] at fgx0_hb6); (try simp [*, go_sem] at cgx1_hb6); (try simp [*, go_sem] at fgx1_hb6)
      go_wp2_with fail
      refine (MulInt_w b n hb n1 n2 _).mono ?_
      rintro e w7 ⟨rfl, hb7⟩
      have b_w7 : Below w.heap.size w w7 := (below_via hb7 (by (repeat' (first | exact Below.refl _ _ | assumption | refine Below.drew ?_ | refine Below.alloc ?_ ?_ _ | refine Below.setCell ?_ ?_ _ | (apply below_via; assumption) | (simp; done) | omega | (simp; omega)))) (by first | omega | (simp; omega) | (simp; done))); have s_w7 := Below.size b_w7
      obtain ⟨hc_hb7, hf_hb7⟩ := bcell hb7; have hz_hb7 := Below.size hb7; (try simp at hz_hb7); have z0_hb7 : w.heap.size < w7.heap.size := (by omega); have zgx_hb7 : gx < w7.heap.size := (by omega); have zw6_heap_size_hb7 : w6.heap.size < w7.heap.size := (by omega); have c00_hb7 := hc_hb7 (w.heap.size) 0 (by (try simp) <;> omega); have f00_hb7 := hf_hb7 (w.heap.size) 0 (by (try simp) <;> omega); have c01_hb7 := hc_hb7 (w.heap.size) 1 (by (try simp) <;> omega); have f01_hb7 := hf_hb7 (w.heap.size) 1 (by (try simp) <;> omega); have cgx0_hb7 := hc_hb7 (gx) 0 (by (try simp) <;> omega); have fgx0_hb7 := hf_hb7 (gx) 0 (by (try simp) <;> omega); have cgx1_hb7 := hc_hb7 (gx) 1 (by (try simp) <;> omega); have fgx1_hb7 := hf_hb7 (gx) 1 (by (try simp) <;> omega); have cw6_heap_size0_hb7 := hc_hb7 (w6.heap.size) 0 (by (try simp) <;> omega); have fw6_heap_size0_hb7 := hf_hb7 (w6.heap.size) 0 (by (try simp) <;> omega); have cw6_heap_size1_hb7 := hc_hb7 (w6.heap.size) 1 (by (try simp) <;> omega); have fw6_heap_size1_hb7 := hf_hb7 (w6.heap.size) 1 (by (try simp) <;> omega); clear hc_hb7 hf_hb7; (try simp [*, go_sem] at c00_hb7); (try simp [*, go_sem] at f00_hb7); (try simp [*, go_sem] at c01_hb7); (try simp [*, go_sem] at f01_hb7); (try simp [*, go_sem] at cgx0_hb7); (try simp [*, go_sem] at fgx0_hb7); (try simp [*, go_sem] at cgx1_hb7); (try simp [*, go_sem] at fgx1_hb7); (try simp [*, go_sem] at cw6_heap_size0_hb7); (try simp [*, go_sem] at fw6_heap_size0_hb7); (try simp [*, go_sem] at cw6_heap_size1_hb7); (try simp [*, go_sem] at fw6_heap_size1_hb7)
      go_wp2_with fail
      refine (MulInt_w _ n fX n1 n2 _).mono ?_
      rintro e w8 ⟨rfl, hb8⟩
      have b_w8 : Below w.heap.size w w8 := (below_via hb8 (by (repeat' (first | exact Below.refl _ _ | assumption | refine Below.drew ?_ | refine Below.alloc ?_ ?_ _ | refine Below.setCell ?_ ?_ _ | (apply below_via; assumption) | (simp; done) | omega | (simp; omega)))) (by first | omega | (simp; omega) | (simp; done))); have s_w8 := Below.size b_w8
      obtain ⟨hc_hb8, hf_hb8⟩ := bcell hb8; have hz_hb8 := Below.size hb8; (try simp at hz_hb8); have z0_hb8 : w.heap.size < w8.heap.size := (by omega); have zw6_heap_size_hb8 : w6.heap.size < w8.heap.size := (by omega); have zw7_heap_size_hb8 : w7.heap.size < w8.heap.size := (by omega); have c00_hb8 := hc_hb8 (w.heap.size) 0 (by (try simp) <;> omega); have f00_hb8 := hf_hb8 (w.heap.size) 0 (by (try simp) <;> omega); have c01_hb8 := hc_hb8 (w.heap.size) 1 (by (try simp) <;> omega); have f01_hb8 := hf_hb8 (w.heap.size) 1 (by (try simp) <;> omega); have cw6_heap_size0_hb8 := hc_hb8 (w6.heap.size) 0 (by (try simp) <;> omega); have fw6_heap_size0_hb8 := hf_hb8 (w6.heap.size) 0 (by (try simp) <;> omega); have cw6_heap_size1_hb8 := hc_hb8 (w6.heap.size) 1 (by (try simp) <;> omega); have fw6_heap_size1_hb8 := hf_hb8 (w6.heap.size) 1 (by (try simp) <;> omega); have cw7_heap_size0_hb8 := hc_hb8 (w7.heap.size) 0 (by (try simp) <;> omega); have fw7_heap_size0_hb8 := hf_hb8 (w7.heap.size) 0 (by (try simp) <;> omega); have cw7_heap_size1_hb8 := hc_hb8 (w7.heap.size) 1 (by (try simp) <;> omega); have fw7_heap_size1_hb8 := hf_hb8 (w7.heap.size) 1 (by (try simp) <;> omega); clear hc_hb8 hf_hb8; (try simp [*, go_sem] at c00_hb8); (try simp [*, go_sem] at f00_hb8); (try simp [*, go_sem] at c01_hb8); (try simp [*, go_sem] at f01_hb8); (try simp [*, go_sem] at cw6_heap_size0_hb8); (try simp [*, go_sem] at fw6_heap_size0_hb8); (try simp [*, go_sem] at cw6_heap_size1_hb8); (try simp [*, go_sem] at fw6_heap_size1_hb8); (try simp [*, go_sem] at cw7_heap_size0_hb8); (try simp [*, go_sem] at fw7_heap_size0_hb8); (try simp [*, go_sem] at cw7_heap_size1_hb8); (try simp [*, go_sem] at fw7_heap_size1_hb8)
      go_upto_region 15 with fail
      (generalize hW : World.alloc _ _ = V); (have c00_V : V.cell? ⟨w.heap.size, 0, none⟩ = some (.int .u64 (Wd.hi (a))) := by subst hW; (first | (go_simp; done) | (simp [*]; done))); (have f00_V : V.frozen? ⟨w.heap.size, 0, none⟩ = false := by subst hW; (first | (go_simp; done) | (simp [*]; done))); (have c01_V : V.cell? ⟨w.heap.size, 1, none⟩ = some (.int .u64 (Wd.lo (a))) := by subst hW; (first | (go_simp; done) | (simp [*]; done))); (have f01_V : V.frozen? ⟨w.heap.size, 1, none⟩ = false := by subst hW; (first | (go_simp; done) | (simp [*]; done))); (have z0_V : w.heap.size < V.heap.size := by subst hW; first | (simp; done) | (simp; omega)); (have cw6_heap_size0_V : V.cell? ⟨w6.heap.size, 0, none⟩ = some (.int .u64 (Wd.hi (Wd.tr (a * n)))) := by subst hW; (first | (go_simp; done) | (simp [*]; done))); (have fw6_heap_size0_V : V.frozen? ⟨w6.heap.size, 0, none⟩ = false := by subst hW; (first | (go_simp; done) | (simp [*]; done))); (have cw6_heap_size1_V : V.cell? ⟨w6.heap.size, 1, none⟩ = some (.int .u64 (Wd.lo (Wd.tr (a * n)))) := by subst hW; (first | (go_simp; done) | (simp [*]; done))); (have fw6_heap_size1_V : V.frozen? ⟨w6.heap.size, 1, none⟩ = false := by subst hW; (first | (go_simp; done) | (simp [*]; done))); (have zw6_heap_size_V : w6.heap.size < V.heap.size := by subst hW; first | (simp; done) | (simp; omega)); (have cw7_heap_size0_V : V.cell? ⟨w7.heap.size, 0, none⟩ = some (.int .u64 (Wd.hi (Wd.tr (b * n)))) := by subst hW; (first | (go_simp; done) | (simp [*]; done))); (have fw7_heap_size0_V : V.frozen? ⟨w7.heap.size, 0, none⟩ = false := by subst hW; (first | (go_simp; done) | (simp [*]; done))); (have cw7_heap_size1_V : V.cell? ⟨w7.heap.size, 1, none⟩ = some (.int .u64 (Wd.lo (Wd.tr (b * n)))) := by subst hW; (first | (go_simp; done) | (simp [*]; done))); (have fw7_heap_size1_V : V.frozen? ⟨w7.heap.size, 1, none⟩ = false := by subst hW; (first | (go_simp; done) | (simp [*]; done))); (have zw7_heap_size_V : w7.heap.size < V.heap.size := by subst hW; first | (simp; done) | (simp; omega)); (have cw8_heap_size0_V : V.cell? ⟨w8.heap.size, 0, none⟩ = some (.int .u64 (Wd.hi (Wd.tr (Wd.tr (a + b) * n)))) := by subst hW; (first | (go_simp; done) | (simp [*]; done))); (have fw8_heap_size0_V : V.frozen? ⟨w8.heap.size, 0, none⟩ = false := by subst hW; (first | (go_simp; done) | (simp [*]; done))); (have cw8_heap_size1_V : V.cell? ⟨w8.heap.size, 1, none⟩ = some (.int .u64 (Wd.lo (Wd.tr (Wd.tr (a + b) * n)))) := by subst hW; (first | (go_simp; done) | (simp [*]; done))); (have fw8_heap_size1_V : V.frozen? ⟨w8.heap.size, 1, none⟩ = false := by subst hW; (first | (go_simp; done) | (simp [*]; done))); (have zw8_heap_size_V : w8.heap.size < V.heap.size := by subst hW; first | (simp; done) | (simp; omega)); (have b_V : Below w.heap.size w V := by subst hW; (repeat' (first | exact Below.refl _ _ | assumption | refine Below.drew ?_ | refine Below.alloc ?_ ?_ _ | refine Below.setCell ?_ ?_ _ | (apply below_via; assumption) | (simp; done) | omega | (simp; omega)))); (have s_V := Below.size b_V); (clear hW)
      generalize w6.heap.size = gp at *
      generalize w7.heap.size = gq at *
      generalize w8.heap.size = gs at *
      clear hb6 hb7 hb8 b_w6 b_w7 b_w8 s_w6 s_w7 s_w8 b_wc s_wc
      obtain ⟨em, HEM⟩ : ∃ em : Bool, Hid (em = (decide (Wd.fit (a + b)) && decide (Wd.fit (a * n)) && decide (Wd.fit (b * n)) && decide (Wd.fit (Wd.tr (a + b) * n)))) := ⟨_, rfl⟩
      go_cut [135] from 118 to 135 (fun s135 wx => s135 = .bool em ∧ V = wx)
      case first =>
        by_cases E : Wd.fit (a + b)
        · by_cases F1 : Wd.fit (a * n)
          · by_cases F2 : Wd.fit (b * n)
            · by_cases F3 : Wd.fit (Wd.tr (a + b) * n)
              · have e1 : em = true := by rw [HEM.out]; simp [E, F1, F2, F3]
                have e2 := Wd.er_yes E
                have e3 := Wd.er_yes F1
                have e4 := Wd.er_yes F2
                have e5 := Wd.er_yes F3
                subst e1
                go_wp2_with (first | (go_at_call 16; refine (Num_w _ _).mono ?_; rintro e w9 ⟨rfl, rfl⟩))
                go_meet
                exact ⟨rfl, rfl⟩
              · have e1 : em = false := by rw [HEM.out]; simp [F3]
                have e2 := Wd.er_yes E
                have e3 := Wd.er_yes F1
                have e4 := Wd.er_yes F2
                have e5 := Wd.er_not F3
                subst e1
                go_wp2_with (first | (go_at_call 16; refine (Num_w _ _).mono ?_; rintro e w9 ⟨rfl, rfl⟩))
                go_meet
                exact ⟨rfl, rfl⟩
            · have e1 : em = false := by rw [HEM.out]; simp [F2]
              have e2 := Wd.er_yes E
              have e3 := Wd.er_yes F1
              have e4 := Wd.er_not F2
              subst e1
              go_wp2_with (first | (go_at_call 16; refine (Num_w _ _).mono ?_; rintro e w9 ⟨rfl, rfl⟩))
              go_meet
              exact ⟨rfl, rfl⟩
          · have e1 : em = false := by rw [HEM.out]; simp [F1]
            have e2 := Wd.er_yes E
            have e3 := Wd.er_not F1
            subst e1
            go_wp2_with (first | (go_at_call 16; refine (Num_w _ _).mono ?_; rintro e w9 ⟨rfl, rfl⟩))
            go_meet
            exact ⟨rfl, rfl⟩
        · have e1 : em = false := by rw [HEM.out]; simp [E]
          have e2 := Wd.er_not E
          subst e1
          go_wp2_with (first | (go_at_call 16; refine (Num_w _ _).mono ?_; rintro e w9 ⟨rfl, rfl⟩))
          go_meet
          exact ⟨rfl, rfl⟩
      case rest =>
        obtain ⟨rfl, rfl⟩ := hcut
        go_upto_if 135 with fail
        go_cut [28, 29] from 136 to 149 (fun s28 s29 wx => Below V.heap.size V wx)
        case first =>
          by_cases EM : em = true
          · have hE : ((Wd.fit (a + b) ∧ Wd.fit (a * n)) ∧ Wd.fit (b * n)) ∧ Wd.fit (Wd.tr (a + b) * n) := by have h := HEM.out; rw [EM] at h; simpa using h.symm
            obtain ⟨⟨⟨E, F1⟩, F2⟩, F3⟩ := hE
            subst EM
            have HM := Lib.hid (Wd.distr_tr E F1 F2)
            have e5 := Wd.er_yes F3
            have e6 := Wd.er_same F3
            clear HEM
            go_wp2_with fail
            refine (Add_w _ _ (Wd.fit_tr (a * n)) (Wd.fit_tr (b * n)) _).mono ?_
            rintro e w6 ⟨rfl, hb6⟩
            rw [HM.out]
            obtain ⟨hc_hb6, hf_hb6⟩ := bcell hb6; have hz_hb6 := Below.size hb6; (try simp at hz_hb6); have zgs_hb6 : gs < w6.heap.size := (by omega); have cgs0_hb6 := hc_hb6 (gs) 0 (by (try simp) <;> omega); have fgs0_hb6 := hf_hb6 (gs) 0 (by (try simp) <;> omega); have cgs1_hb6 := hc_hb6 (gs) 1 (by (try simp) <;> omega); have fgs1_hb6 := hf_hb6 (gs) 1 (by (try simp) <;> omega); clear hc_hb6 hf_hb6; (try simp [*, go_sem] at cgs0_hb6); (try simp [*, go_sem] at fgs0_hb6); (try simp [*, go_sem] at cgs1_hb6); (try simp [*, go_sem] at fgs1_hb6)
            go_wp2_with (first | (go_at_call 16; refine (Num_w _ _).mono ?_; rintro e w9 ⟨rfl, rfl⟩))
            go_meet
            exact hb6.alloc (by omega) _
          · have e1 : em = false := by simpa using EM
            subst e1
            go_wp2_with fail
            go_meet
            exact Below.refl _ _
        case rest =>
          obtain ⟨hc_hcut, hf_hcut⟩ := bcell hcut; have hz_hcut := Below.size hcut; (try simp at hz_hcut); have z0_hcut : w.heap.size < wc.heap.size := (by omega); have c00_hcut := hc_hcut (w.heap.size) 0 (by (try simp) <;> omega); have f00_hcut := hf_hcut (w.heap.size) 0 (by (try simp) <;> omega); have c01_hcut := hc_hcut (w.heap.size) 1 (by (try simp) <;> omega); have f01_hcut := hf_hcut (w.heap.size) 1 (by (try simp) <;> omega); clear hc_hcut hf_hcut; (try simp [*, go_sem] at c00_hcut); (try simp [*, go_sem] at f00_hcut); (try simp [*, go_sem] at c01_hcut); (try simp [*, go_sem] at f01_hcut)
          have b_wc : Below w.heap.size w wc := b_V.trans (hcut.mono s_V)
          have s_wc := b_wc.size
          clear hcut HEM b_V s_V
          by_cases hd : d = 0
          · subst hd
            go_wp2_with fail
            refine (QuoRem_zero a _).mono ?_
            rintro e w6 ⟨rfl, hb6⟩
            have b_w6 : Below w.heap.size w w6 := (below_via hb6 (by (repeat' (first | exact Below.refl _ _ | assumption | refine Below.drew ?_ | refine Below.alloc ?_ ?_ _ | refine Below.setCell ?_ ?_ _ | (apply below_via; assumption) | (simp; done) | omega | (simp; omega)))) (by first | omega | (simp; omega) | (simp; done))); have s_w6 := Below.size b_w6
            go_wp2_with (first | (go_at_call 16; refine (Num_w _ _).mono ?_; rintro e w19 ⟨rfl, rfl⟩))
            go_ret
            refine ⟨rfl, ?_⟩
            (repeat' (first | exact Below.refl _ _ | assumption | refine Below.drew ?_ | refine Below.alloc ?_ ?_ _ | refine Below.setCell ?_ ?_ _ | (apply below_via; assumption) | (simp; done) | omega | (simp; omega)))
          · by_cases hq : Wd.fit (a.tdiv d)
            · have HD := Lib.hid hd
              have hqd := Wd.tdiv_mul_fit a d ha
              have HQD := Lib.hid hqd
              have HQ := Lib.hid hq
              have HA := Lib.hid (Int.tdiv_mul_add_tmod a d)
              obtain ⟨r1, r2⟩ := Wd.tm_bd a d hd d1 d2
              clear hd hq hqd
              go_wp2_with fail
              refine (QuoRem_ok a d ha HD.out d1 d2 HQ.out _).mono ?_
              rintro e w6 ⟨rfl, hb6⟩
              have b_w6 : Below w.heap.size w w6 := (below_via hb6 (by (repeat' (first | exact Below.refl _ _ | assumption | refine Below.drew ?_ | refine Below.alloc ?_ ?_ _ | refine Below.setCell ?_ ?_ _ | (apply below_via; assumption) | (simp; done) | omega | (simp; omega)))) (by first | omega | (simp; omega) | (simp; done))); have s_w6 := Below.size b_w6
              obtain ⟨hc_hb6, hf_hb6⟩ := bcell hb6; have hz_hb6 := Below.size hb6; (try simp at hz_hb6); have z0_hb6 : w.heap.size < w6.heap.size := (by omega); have c00_hb6 := hc_hb6 (w.heap.size) 0 (by (try simp) <;> omega); have f00_hb6 := hf_hb6 (w.heap.size) 0 (by (try simp) <;> omega); have c01_hb6 := hc_hb6 (w.heap.size) 1 (by (try simp) <;> omega); have f01_hb6 := hf_hb6 (w.heap.size) 1 (by (try simp) <;> omega); clear hc_hb6 hf_hb6; (try simp [*, go_sem] at c00_hb6); (try simp [*, go_sem] at f00_hb6); (try simp [*, go_sem] at c01_hb6); (try simp [*, go_sem] at f01_hb6)
              go_wp2_with (first | (go_at_call 16; refine (Num_w _ _).mono ?_; rintro e w19 ⟨rfl, rfl⟩))
              refine (MulInt_w _ d HQ.out d1 d2 _).mono ?_
              rintro e w7 ⟨rfl, hb7⟩
              rw [Wd.tr_of HQD.out, Wd.er_of HQD.out]
              have b_w7 : Below w.heap.size w w7 := (below_via hb7 (by (repeat' (first | exact Below.refl _ _ | assumption | refine Below.drew ?_ | refine Below.alloc ?_ ?_ _ | refine Below.setCell ?_ ?_ _ | (apply below_via; assumption) | (simp; done) | omega | (simp; omega)))) (by first | omega | (simp; omega) | (simp; done))); have s_w7 := Below.size b_w7
              obtain ⟨hc_hb7, hf_hb7⟩ := bcell hb7; have hz_hb7 := Below.size hb7; (try simp at hz_hb7); have z0_hb7 : w.heap.size < w7.heap.size := (by omega); have zw6_heap_size_hb7 : w6.heap.size < w7.heap.size := (by omega); have c00_hb7 := hc_hb7 (w.heap.size) 0 (by (try simp) <;> omega); have f00_hb7 := hf_hb7 (w.heap.size) 0 (by (try simp) <;> omega); have c01_hb7 := hc_hb7 (w.heap.size) 1 (by (try simp) <;> omega); have f01_hb7 := hf_hb7 (w.heap.size) 1 (by (try simp) <;> omega); have cw6_heap_size0_hb7 := hc_hb7 (w6.heap.size) 0 (by (try simp) <;> omega); have fw6_heap_size0_hb7 := hf_hb7 (w6.heap.size) 0 (by (try simp) <;> omega); have cw6_heap_size1_hb7 := hc_hb7 (w6.heap.size) 1 (by (try simp) <;> omega); have fw6_heap_size1_hb7 := hf_hb7 (w6.heap.size) 1 (by (try simp) <;> omega); clear hc_hb7 hf_hb7; (try simp [*, go_sem] at c00_hb7); (try simp [*, go_sem] at f00_hb7); (try simp [*, go_sem] at c01_hb7); (try simp [*, go_sem] at f01_hb7); (try simp [*, go_sem] at cw6_heap_size0_hb7); (try simp [*, go_sem] at fw6_heap_size0_hb7); (try simp [*, go_sem] at cw6_heap_size1_hb7); (try simp [*, go_sem] at fw6_heap_size1_hb7)
              go_upto_region 23 with fail
              (generalize hW : World.alloc _ _ = U); (have c00_U : U.cell? ⟨w.heap.size, 0, none⟩ = some (.int .u64 (Wd.hi (a))) := by subst hW; (first | (go_simp; done) | (simp [*]; done))); (have f00_U : U.frozen? ⟨w.heap.size, 0, none⟩ = false := by subst hW; (first | (go_simp; done) | (simp [*]; done))); (have c01_U : U.cell? ⟨w.heap.size, 1, none⟩ = some (.int .u64 (Wd.lo (a))) := by subst hW; (first | (go_simp; done) | (simp [*]; done))); (have f01_U : U.frozen? ⟨w.heap.size, 1, none⟩ = false := by subst hW; (first | (go_simp; done) | (simp [*]; done))); (have z0_U : w.heap.size < U.heap.size := by subst hW; first | (simp; done) | (simp; omega)); (have cw6_heap_size0_U : U.cell? ⟨w6.heap.size, 0, none⟩ = some (.int .u64 (Wd.hi (a.tdiv d))) := by subst hW; (first | (go_simp; done) | (simp [*]; done))); (have fw6_heap_size0_U : U.frozen? ⟨w6.heap.size, 0, none⟩ = false := by subst hW; (first | (go_simp; done) | (simp [*]; done))); (have cw6_heap_size1_U : U.cell? ⟨w6.heap.size, 1, none⟩ = some (.int .u64 (Wd.lo (a.tdiv d))) := by subst hW; (first | (go_simp; done) | (simp [*]; done))); (have fw6_heap_size1_U : U.frozen? ⟨w6.heap.size, 1, none⟩ = false := by subst hW; (first | (go_simp; done) | (simp [*]; done))); (have zw6_heap_size_U : w6.heap.size < U.heap.size := by subst hW; first | (simp; done) | (simp; omega)); (have cw7_heap_size0_U : U.cell? ⟨w7.heap.size, 0, none⟩ = some (.int .u64 (Wd.hi (a.tdiv d * d))) := by subst hW; (first | (go_simp; done) | (simp [*]; done))); (have fw7_heap_size0_U : U.frozen? ⟨w7.heap.size, 0, none⟩ = false := by subst hW; (first | (go_simp; done) | (simp [*]; done))); (have cw7_heap_size1_U : U.cell? ⟨w7.heap.size, 1, none⟩ = some (.int .u64 (Wd.lo (a.tdiv d * d))) := by subst hW; (first | (go_simp; done) | (simp [*]; done))); (have fw7_heap_size1_U : U.frozen? ⟨w7.heap.size, 1, none⟩ = false := by subst hW; (first | (go_simp; done) | (simp [*]; done))); (have zw7_heap_size_U : w7.heap.size < U.heap.size := by subst hW; first | (simp; done) | (simp; omega)); (have b_U : Below w.heap.size w U := by subst hW; (repeat' (first | exact Below.refl _ _ | assumption | refine Below.drew ?_ | refine Below.alloc ?_ ?_ _ | refine Below.setCell ?_ ?_ _ | (apply below_via; assumption) | (simp; done) | omega | (simp; omega)))); (have s_U := Below.size b_U); (clear hW)
              generalize w6.heap.size = gq at *
              generalize w7.heap.size = gw at *
              clear hb6 hb7 b_w6 b_w7 s_w6 s_w7 b_wc s_wc
              go_cut [35, 36] from 167 to 173 (fun s35 s36 wx => ∃ g : Nat, s35 = .pointer (some ⟨g, 0, none⟩) ∧ s36 = .int .i64 0 ∧ wx.cell? ⟨g, 0, none⟩ = some (.int .u64 (Wd.hi a)) ∧ wx.cell? ⟨g, 1, none⟩ = some (.int .u64 (Wd.lo a)) ∧ U.heap.size ≤ g ∧ g < wx.heap.size ∧ Below U.heap.size U wx)
              case first =>
                have tfit := HQD.out
                have rfit : Wd.fit (a.tmod d) := by unfold Wd.fit; omega
                go_region_held3 (fun w' => Below U.heap.size U w' ∧ (∀ b o, b < U.heap.size → w'.cell? ⟨b, o, none⟩ = U.cell? ⟨b, o, none⟩))
    ((first | assumption | exact keptS (Below.drew (Below.refl _ _)) | (refine keptS0 ?_; assumption) | (apply keptS1 <;> assumption) | (apply keptS; (repeat' (first | exact Below.refl _ _ | exact And.left (by assumption) | assumption | refine Below.drew ?_ | refine Below.alloc ?_ ?_ _ | refine Below.setCell ?_ ?_ _ | (apply below_via; assumption) | (simp; done) | omega | (simp; omega))))))
    (first | (go_at_call 42; refine (FromInt_w _ (by omega) (by omega) _).mono ?_; rintro e w8 ⟨rfl, hb8⟩; obtain ⟨hc8, hf8⟩ := bcell hb8; have hz8 := hb8.size; (try simp at hz8); (try have hl8 : U.heap.size < w8.heap.size := (by omega))) | (go_at_call 46; refine (Add_w _ _ tfit rfit _).mono ?_; rintro e w9 ⟨rfl, hb9⟩; obtain ⟨hc9, hf9⟩ := bcell hb9; have hz9 := hb9.size; (try simp at hz9); rw [HA.out, Wd.tr_of ha, Wd.er_of ha]))
                all_goals
                  go_wp2_with fail
                  go_meet
                  refine ⟨_, rfl, rfl, ?_, ?_, ?_, ?_, ?_⟩
                  · go_simp
                  · go_simp
                  · first | (simp; done) | omega
                  · first | (simp; done) | (simp; omega) | omega
                  · first | exact And.left (by assumption) | assumption
              case rest =>
                obtain ⟨g, rfl, rfl, cg0, cg1, zg, zg1, bG⟩ := hcut
                have b_wc : Below w.heap.size w wc := b_U.trans (bG.mono s_U)
                have s_wc := b_wc.size
                obtain ⟨hc_bG, hf_bG⟩ := bcell bG; have hz_bG := Below.size bG; (try simp at hz_bG); have z0_bG : w.heap.size < wc.heap.size := (by omega); have zgq_bG : gq < wc.heap.size := (by omega); have c00_bG := hc_bG (w.heap.size) 0 (by (try simp) <;> omega); have f00_bG := hf_bG (w.heap.size) 0 (by (try simp) <;> omega); have c01_bG := hc_bG (w.heap.size) 1 (by (try simp) <;> omega); have f01_bG := hf_bG (w.heap.size) 1 (by (try simp) <;> omega); have cgq0_bG := hc_bG (gq) 0 (by (try simp) <;> omega); have fgq0_bG := hf_bG (gq) 0 (by (try simp) <;> omega); have cgq1_bG := hc_bG (gq) 1 (by (try simp) <;> omega); have fgq1_bG := hf_bG (gq) 1 (by (try simp) <;> omega); clear hc_bG hf_bG; (try simp [*, go_sem] at c00_bG); (try simp [*, go_sem] at f00_bG); (try simp [*, go_sem] at c01_bG); (try simp [*, go_sem] at f01_bG); (try simp [*, go_sem] at cgq0_bG); (try simp [*, go_sem] at fgq0_bG); (try simp [*, go_sem] at cgq1_bG); (try simp [*, go_sem] at fgq1_bG)
                clear bG b_U s_U
                go_wp2_with (first | (go_at_call 16; refine (Num_w _ _).mono ?_; rintro e w19 ⟨rfl, rfl⟩))
                refine (DivEven_w a d ha HD.out d1 d2 _).mono ?_
                rintro e w10 ⟨rfl, hb10⟩
                have b_w10 : Below w.heap.size w w10 := (below_via hb10 (by (repeat' (first | exact Below.refl _ _ | assumption | refine Below.drew ?_ | refine Below.alloc ?_ ?_ _ | refine Below.setCell ?_ ?_ _ | (apply below_via; assumption) | (simp; done) | omega | (simp; omega)))) (by first | omega | (simp; omega) | (simp; done))); have s_w10 := Below.size b_w10
                obtain ⟨hc_hb10, hf_hb10⟩ := bcell hb10; have hz_hb10 := Below.size hb10; (try simp at hz_hb10); have zgq_hb10 : gq < w10.heap.size := (by omega); have cgq0_hb10 := hc_hb10 (gq) 0 (by (try simp) <;> omega); have fgq0_hb10 := hf_hb10 (gq) 0 (by (try simp) <;> omega); have cgq1_hb10 := hc_hb10 (gq) 1 (by (try simp) <;> omega); have fgq1_hb10 := hf_hb10 (gq) 1 (by (try simp) <;> omega); clear hc_hb10 hf_hb10; (try simp [*, go_sem] at cgq0_hb10); (try simp [*, go_sem] at fgq0_hb10); (try simp [*, go_sem] at cgq1_hb10); (try simp [*, go_sem] at fgq1_hb10)
                by_cases hn : Wd.fit (Wd.dv a d)
                · rw [Wd.er_of hn, Wd.tr_of hn]
                  have HN := Lib.hid hn
                  have HST := Lib.hid (Wd.dv_step a d)
                  clear hn
                  go_wp2_with (first | (go_at_call 16; refine (Num_w _ _).mono ?_; rintro e w19 ⟨rfl, rfl⟩))
                  refine (Sub_w _ _ HN.out HQ.out _).mono ?_
                  rintro e w11 ⟨rfl, hb11⟩
                  have b_w11 : Below w.heap.size w w11 := (below_via hb11 (by (repeat' (first | exact Below.refl _ _ | assumption | refine Below.drew ?_ | refine Below.alloc ?_ ?_ _ | refine Below.setCell ?_ ?_ _ | (apply below_via; assumption) | (simp; done) | omega | (simp; omega)))) (by first | omega | (simp; omega) | (simp; done))); have s_w11 := Below.size b_w11
                  rcases HST.out with h0 | h0 | h0
                  · rw [h0, show Wd.tr 0 = 0 from by decide, show Wd.er 0 = 0 from by decide, Wd.hi_zero, Wd.lo_zero]
                    clear HST h0
                    go_upto_region 30 with fail
                    (generalize hW : World.alloc _ _ = Z); (have cw11_heap_size0_Z : Z.cell? ⟨w11.heap.size, 0, none⟩ = some (.int .u64 0) := by subst hW; (first | (go_simp; done) | (simp [*]; done))); (have fw11_heap_size0_Z : Z.frozen? ⟨w11.heap.size, 0, none⟩ = false := by subst hW; (first | (go_simp; done) | (simp [*]; done))); (have cw11_heap_size1_Z : Z.cell? ⟨w11.heap.size, 1, none⟩ = some (.int .u64 0) := by subst hW; (first | (go_simp; done) | (simp [*]; done))); (have fw11_heap_size1_Z : Z.frozen? ⟨w11.heap.size, 1, none⟩ = false := by subst hW; (first | (go_simp; done) | (simp [*]; done))); (have zw11_heap_size_Z : w11.heap.size < Z.heap.size := by subst hW; first | (simp; done) | (simp; omega)); (have b_Z : Below w.heap.size w Z := by subst hW; (repeat' (first | exact Below.refl _ _ | assumption | refine Below.drew ?_ | refine Below.alloc ?_ ?_ _ | refine Below.setCell ?_ ?_ _ | (apply below_via; assumption) | (simp; done) | omega | (simp; omega)))); (have s_Z := Below.size b_Z); (clear hW)
                    generalize w11.heap.size = g11 at *
                    go_region_with (first | (go_at_call 42; (with_reducible refine (from_1 _).mono ?_); rintro e w12 ⟨rfl, hb12⟩; have b_w12 : Below w.heap.size w w12 := (below_via hb12 (by (repeat' (first | exact Below.refl _ _ | assumption | refine Below.drew ?_ | refine Below.alloc ?_ ?_ _ | refine Below.setCell ?_ ?_ _ | (apply below_via; assumption) | (simp; done) | omega | (simp; omega)))) (by first | omega | (simp; omega) | (simp; done))); have s_w12 := Below.size b_w12; obtain ⟨hc_hb12, hf_hb12⟩ := bcell hb12; have hz_hb12 := Below.size hb12; (try simp at hz_hb12); have zg11_hb12 : g11 < w12.heap.size := (by omega); have cg110_hb12 := hc_hb12 (g11) 0 (by (try simp) <;> omega); have fg110_hb12 := hf_hb12 (g11) 0 (by (try simp) <;> omega); have cg111_hb12 := hc_hb12 (g11) 1 (by (try simp) <;> omega); have fg111_hb12 := hf_hb12 (g11) 1 (by (try simp) <;> omega); clear hc_hb12 hf_hb12; (try simp [*, go_sem] at cg110_hb12); (try simp [*, go_sem] at fg110_hb12); (try simp [*, go_sem] at cg111_hb12); (try simp [*, go_sem] at fg111_hb12)) | (go_at_call 42; (with_reducible refine (from_m1 _).mono ?_); rintro e w13 ⟨rfl, hb13⟩; have b_w13 : Below w.heap.size w w13 := (below_via hb13 (by (repeat' (first | exact Below.refl _ _ | assumption | refine Below.drew ?_ | refine Below.alloc ?_ ?_ _ | refine Below.setCell ?_ ?_ _ | (apply below_via; assumption) | (simp; done) | omega | (simp; omega)))) (by first | omega | (simp; omega) | (simp; done))); have s_w13 := Below.size b_w13; obtain ⟨hc_hb13, hf_hb13⟩ := bcell hb13; have hz_hb13 := Below.size hb13; (try simp at hz_hb13); have zg11_hb13 : g11 < w13.heap.size := (by omega); have cg110_hb13 := hc_hb13 (g11) 0 (by (try simp) <;> omega); have fg110_hb13 := hf_hb13 (g11) 0 (by (try simp) <;> omega); have cg111_hb13 := hc_hb13 (g11) 1 (by (try simp) <;> omega); have fg111_hb13 := hf_hb13 (g11) 1 (by (try simp) <;> omega); clear hc_hb13 hf_hb13; (try simp [*, go_sem] at cg110_hb13); (try simp [*, go_sem] at fg110_hb13); (try simp [*, go_sem] at cg111_hb13); (try simp [*, go_sem] at fg111_hb13)))
                    all_goals
                      go_wp2
                      go_ret
                      refine ⟨rfl, ?_⟩
                      (repeat' (first | exact Below.refl _ _ | assumption | refine Below.drew ?_ | refine Below.alloc ?_ ?_ _ | refine Below.setCell ?_ ?_ _ | (apply below_via; assumption) | (simp; done) | omega | (simp; omega)))
                  · rw [h0, show Wd.tr 1 = 1 from by decide, show Wd.er 1 = 0 from by decide, show Wd.hi 1 = 0 from by decide, show Wd.lo 1 = 1 from by decide]
                    clear HST h0
                    go_upto_region 30 with fail
                    (generalize hW : World.alloc _ _ = Z); (have cw11_heap_size0_Z : Z.cell? ⟨w11.heap.size, 0, none⟩ = some (.int .u64 0) := by subst hW; (first | (go_simp; done) | (simp [*]; done))); (have fw11_heap_size0_Z : Z.frozen? ⟨w11.heap.size, 0, none⟩ = false := by subst hW; (first | (go_simp; done) | (simp [*]; done))); (have cw11_heap_size1_Z : Z.cell? ⟨w11.heap.size, 1, none⟩ = some (.int .u64 1) := by subst hW; (first | (go_simp; done) | (simp [*]; done))); (have fw11_heap_size1_Z : Z.frozen? ⟨w11.heap.size, 1, none⟩ = false := by subst hW; (first | (go_simp; done) | (simp [*]; done))); (have zw11_heap_size_Z : w11.heap.size < Z.heap.size := by subst hW; first | (simp; done) | (simp; omega)); (have b_Z : Below w.heap.size w Z := by subst hW; (repeat' (first | exact Below.refl _ _ | assumption | refine Below.drew ?_ | refine Below.alloc ?_ ?_ _ | refine Below.setCell ?_ ?_ _ | (apply below_via; assumption) | (simp; done) | omega | (simp; omega)))); (have s_Z := Below.size b_Z); (clear hW)
                    generalize w11.heap.size = g11 at *
                    go_region_with (first | (go_at_call 42; (with_reducible refine (from_1 _).mono ?_); rintro e w12 ⟨rfl, hb12⟩; have b_w12 : Below w.heap.size w w12 := (below_via hb12 (by (repeat' (first | exact Below.refl _ _ | assumption | refine Below.drew ?_ | refine Below.alloc ?_ ?_ _ | refine Below.setCell ?_ ?_ _ | (apply below_via; assumption) | (simp; done) | omega | (simp; omega)))) (by first | omega | (simp; omega) | (simp; done))); have s_w12 := Below.size b_w12; obtain ⟨hc_hb12, hf_hb12⟩ := bcell hb12; have hz_hb12 := Below.size hb12; (try simp at hz_hb12); have zg11_hb12 : g11 < w12.heap.size := (by omega); have cg110_hb12 := hc_hb12 (g11) 0 (by (try simp) <;> omega); have fg110_hb12 := hf_hb12 (g11) 0 (by (try simp) <;> omega); have cg111_hb12 := hc_hb12 (g11) 1 (by (try simp) <;> omega); have fg111_hb12 := hf_hb12 (g11) 1 (by (try simp) <;> omega); clear hc_hb12 hf_hb12; (try simp [*, go_sem] at cg110_hb12); (try simp [*, go_sem] at fg110_hb12); (try simp [*, go_sem] at cg111_hb12); (try simp [*, go_sem] at fg111_hb12)) | (go_at_call 42; (with_reducible refine (from_m1 _).mono ?_); rintro e w13 ⟨rfl, hb13⟩; have b_w13 : Below w.heap.size w w13 := (below_via hb13 (by (repeat' (first | exact Below.refl _ _ | assumption | refine Below.drew ?_ | refine Below.alloc ?_ ?_ _ | refine Below.setCell ?_ ?_ _ | (apply below_via; assumption) | (simp; done) | omega | (simp; omega)))) (by first | omega | (simp; omega) | (simp; done))); have s_w13 := Below.size b_w13; obtain ⟨hc_hb13, hf_hb13⟩ := bcell hb13; have hz_hb13 := Below.size hb13; (try simp at hz_hb13); have zg11_hb13 : g11 < w13.heap.size := (by omega); have cg110_hb13 := hc_hb13 (g11) 0 (by (try simp) <;> omega); have fg110_hb13 := hf_hb13 (g11) 0 (by (try simp) <;> omega); have cg111_hb13 := hc_hb13 (g11) 1 (by (try simp) <;> omega); have fg111_hb13 := hf_hb13 (g11) 1 (by (try simp) <;> omega); clear hc_hb13 hf_hb13; (try simp [*, go_sem] at cg110_hb13); (try simp [*, go_sem] at fg110_hb13); (try simp [*, go_sem] at cg111_hb13); (try simp [*, go_sem] at fg111_hb13)))
                    all_goals
                      go_wp2
                      go_ret
                      refine ⟨rfl, ?_⟩
                      (repeat' (first | exact Below.refl _ _ | assumption | refine Below.drew ?_ | refine Below.alloc ?_ ?_ _ | refine Below.setCell ?_ ?_ _ | (apply below_via; assumption) | (simp; done) | omega | (simp; omega)))
                  · rw [h0, show Wd.tr (-1) = -1 from by decide, show Wd.er (-1) = 0 from by decide]
                    have hm1 : (Wd.hi (-1) == 0) = false := by decide
                    clear HST h0
                    go_upto_region 30 with fail
                    (generalize hW : World.alloc _ _ = Z); (have cw11_heap_size0_Z : Z.cell? ⟨w11.heap.size, 0, none⟩ = some (.int .u64 (Wd.hi (-1))) := by subst hW; (first | (go_simp; done) | (simp [*]; done))); (have fw11_heap_size0_Z : Z.frozen? ⟨w11.heap.size, 0, none⟩ = false := by subst hW; (first | (go_simp; done) | (simp [*]; done))); (have cw11_heap_size1_Z : Z.cell? ⟨w11.heap.size, 1, none⟩ = some (.int .u64 (Wd.lo (-1))) := by subst hW; (first | (go_simp; done) | (simp [*]; done))); (have fw11_heap_size1_Z : Z.frozen? ⟨w11.heap.size, 1, none⟩ = false := by subst hW; (first | (go_simp; done) | (simp [*]; done))); (have zw11_heap_size_Z : w11.heap.size < Z.heap.size := by subst hW; first | (simp; done) | (simp; omega)); (have b_Z : Below w.heap.size w Z := by subst hW; (repeat' (first | exact Below.refl _ _ | assumption | refine Below.drew ?_ | refine Below.alloc ?_ ?_ _ | refine Below.setCell ?_ ?_ _ | (apply below_via; assumption) | (simp; done) | omega | (simp; omega)))); (have s_Z := Below.size b_Z); (clear hW)
                    generalize w11.heap.size = g11 at *
                    go_region_with (first | (go_at_call 42; (with_reducible refine (from_1 _).mono ?_); rintro e w12 ⟨rfl, hb12⟩; have b_w12 : Below w.heap.size w w12 := (below_via hb12 (by (repeat' (first | exact Below.refl _ _ | assumption | refine Below.drew ?_ | refine Below.alloc ?_ ?_ _ | refine Below.setCell ?_ ?_ _ | (apply below_via; assumption) | (simp; done) | omega | (simp; omega)))) (by first | omega | (simp; omega) | (simp; done))); have s_w12 := Below.size b_w12; obtain ⟨hc_hb12, hf_hb12⟩ := bcell hb12; have hz_hb12 := Below.size hb12; (try simp at hz_hb12); have zg11_hb12 : g11 < w12.heap.size := (by omega); have cg110_hb12 := hc_hb12 (g11) 0 (by (try simp) <;> omega); have fg110_hb12 := hf_hb12 (g11) 0 (by (try simp) <;> omega); have cg111_hb12 := hc_hb12 (g11) 1 (by (try simp) <;> omega); have fg111_hb12 := hf_hb12 (g11) 1 (by (try simp) <;> omega); clear hc_hb12 hf_hb12; (try simp [*, go_sem] at cg110_hb12); (try simp [*, go_sem] at fg110_hb12); (try simp [*, go_sem] at cg111_hb12); (try simp [*, go_sem] at fg111_hb12)) | (go_at_call 42; (with_reducible refine (from_m1 _).mono ?_); rintro e w13 ⟨rfl, hb13⟩; have b_w13 : Below w.heap.size w w13 := (below_via hb13 (by (repeat' (first | exact Below.refl _ _ | assumption | refine Below.drew ?_ | refine Below.alloc ?_ ?_ _ | refine Below.setCell ?_ ?_ _ | (apply below_via; assumption) | (simp; done) | omega | (simp; omega)))) (by first | omega | (simp; omega) | (simp; done))); have s_w13 := Below.size b_w13; obtain ⟨hc_hb13, hf_hb13⟩ := bcell hb13; have hz_hb13 := Below.size hb13; (try simp at hz_hb13); have zg11_hb13 : g11 < w13.heap.size := (by omega); have cg110_hb13 := hc_hb13 (g11) 0 (by (try simp) <;> omega); have fg110_hb13 := hf_hb13 (g11) 0 (by (try simp) <;> omega); have cg111_hb13 := hc_hb13 (g11) 1 (by (try simp) <;> omega); have fg111_hb13 := hf_hb13 (g11) 1 (by (try simp) <;> omega); clear hc_hb13 hf_hb13; (try simp [*, go_sem] at cg110_hb13); (try simp [*, go_sem] at fg110_hb13); (try simp [*, go_sem] at cg111_hb13); (try simp [*, go_sem] at fg111_hb13)))
                    all_goals
                      go_wp2
                      go_ret
                      refine ⟨rfl, ?_⟩
                      (repeat' (first | exact Below.refl _ _ | assumption | refine Below.drew ?_ | refine Below.alloc ?_ ?_ _ | refine Below.setCell ?_ ?_ _ | (apply below_via; assumption) | (simp; done) | omega | (simp; omega)))
                · rw [Wd.er_no hn, Wd.tr_no hn]
                  clear hn
                  go_wp2_with (first | (go_at_call 16; refine (Num_w _ _).mono ?_; rintro e w19 ⟨rfl, rfl⟩))
                  go_ret
                  refine ⟨rfl, ?_⟩
                  (repeat' (first | exact Below.refl _ _ | assumption | refine Below.drew ?_ | refine Below.alloc ?_ ?_ _ | refine Below.setCell ?_ ?_ _ | (apply below_via; assumption) | (simp; done) | omega | (simp; omega)))
            · have HD := Lib.hid hd
              have HQ := Lib.hid hq
              clear hd hq
              go_wp2_with fail
              refine (QuoRem_no a d ha HD.out d1 d2 HQ.out _).mono ?_
              rintro e w6 ⟨rfl, hb6⟩
              have b_w6 : Below w.heap.size w w6 := (below_via hb6 (by (repeat' (first | exact Below.refl _ _ | assumption | refine Below.drew ?_ | refine Below.alloc ?_ ?_ _ | refine Below.setCell ?_ ?_ _ | (apply below_via; assumption) | (simp; done) | omega | (simp; omega)))) (by first | omega | (simp; omega) | (simp; done))); have s_w6 := Below.size b_w6
              go_wp2_with (first | (go_at_call 16; refine (Num_w _ _).mono ?_; rintro e w19 ⟨rfl, rfl⟩))
              go_ret
              refine ⟨rfl, ?_⟩
              (repeat' (first | exact Below.refl _ _ | assumption | refine Below.drew ?_ | refine Below.alloc ?_ ?_ _ | refine Below.setCell ?_ ?_ _ | (apply below_via; assumption) | (simp; done) | omega | (simp; omega)))

end Go.Proofs.Ytfiaobhkhedpiaa
