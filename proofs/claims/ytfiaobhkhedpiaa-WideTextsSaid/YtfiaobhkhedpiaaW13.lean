/- The chapter's example of package wide is true. -/
import Derived.Test.YtfiaobhkhedpiaaW12
namespace Go.Proofs.Ytfiaobhkhedpiaa
open Go.RowKit Go.Lib

theorem mul_c (w : World) : Calls Try.prog 44 #[.int .i64 4611686018427387904, .int .i64 4] w fun e w' => e = .returned (.agg #[.int .u64 1, .int .u64 0]) ∧ Below w.heap.size w w' := by
  have h := Mul_w 4611686018427387904 4 (by decide) (by decide) (by decide) (by decide) w
  rw [show (4611686018427387904 : Int) * 4 = 18446744073709551616 from by decide, show Wd.hi 18446744073709551616 = 1 from by decide, show Wd.lo 18446744073709551616 = 0 from by decide] at h
  exact h
theorem text_c : Wd.text 18446744073709551616 = [49, 56, 52, 52, 54, 55, 52, 52, 48, 55, 51, 55, 48, 57, 53, 53, 49, 54, 49, 54] := by
  have h := Wd.dg_all 20 18446744073709551616 (by decide) (Or.inr (by decide))
  have e := Wd.text_pos 18446744073709551616 18446744073709551616 (by decide) (by decide) (by decide)
  rw [e, h]; decide
theorem str_c (w : World) : Calls Try.prog 31 #[.agg #[.int .u64 1, .int .u64 0]] w fun e w' => e = .returned (.string ⟨#[49, 56, 52, 52, 54, 55, 52, 52, 48, 55, 51, 55, 48, 57, 53, 53, 49, 54, 49, 54]⟩) ∧ Below w.heap.size w w' := by
  have h := String_w 18446744073709551616 (by decide) w
  rw [text_c, show Wd.hi 18446744073709551616 = 1 from by decide, show Wd.lo 18446744073709551616 = 0 from by decide] at h
  exact h
theorem div_c (w : World) : Calls Try.prog 37 #[Value.agg #[.int .u64 (Wd.hi (-5)), .int .u64 (Wd.lo (-5))], .int .i64 2] w fun e w' => e = .returned (.tuple #[Value.agg #[.int .u64 (Wd.hi (-2)), .int .u64 (Wd.lo (-2))], .int .i64 0]) ∧ Below w.heap.size w w' := by
  have h := DivEven_w (-5) 2 (by decide) (by decide) (by decide) (by decide) w
  rw [show Wd.dv (-5) 2 = -2 from by decide, show Wd.tr (-2) = -2 from by decide, show Wd.er (-2) = 0 from by decide] at h
  exact h
theorem from_m5 (w : World) : Calls Try.prog 42 #[.int .i64 (-5)] w fun e w' => e = .returned (Value.agg #[.int .u64 (Wd.hi (-5)), .int .u64 (Wd.lo (-5))]) ∧ Below w.heap.size w w' := FromInt_w (-5) (by decide) (by decide) w
theorem from_m2 (w : World) : Calls Try.prog 42 #[.int .i64 (-2)] w fun e w' => e = .returned (Value.agg #[.int .u64 (Wd.hi (-2)), .int .u64 (Wd.lo (-2))]) ∧ Below w.heap.size w w' := FromInt_w (-2) (by decide) (by decide) w
theorem Num_w (x : Int) (w : World) : Calls Try.prog 16 #[.int .i64 x] w fun e w' => e = .returned (.int .i64 x) ∧ w = w' := by
  go_enter Try.func16, Try.ntmps16
  go_wp2
  go_ret
  exact ⟨rfl, rfl⟩

set_option maxRecDepth 100000 in
set_option maxHeartbeats 2000000 in
theorem wfirst_w (w : World) : Calls Try.prog 29 #[] w fun e w' => e = .returned (.bool true) ∧ Below w.heap.size w w' := by
  go_enter Try.func29, Try.ntmps29
  go_wp2_with fail
  refine (mul_c _).mono ?_
  rintro e w1 ⟨rfl, hb1⟩
  have s_w1 := hb1.size
  go_wp2_with fail
  refine (from_m5 _).mono ?_
  rintro e w2 ⟨rfl, hb2⟩
  have b_w2 : Below w.heap.size w w2 := (below_via hb2 (by (repeat' (first | exact Below.refl _ _ | assumption | refine Below.drew ?_ | refine Below.alloc ?_ ?_ _ | refine Below.setCell ?_ ?_ _ | (apply below_via; assumption) | (simp; done) | omega | (simp; omega)))) (by first | omega | (simp; omega) | (simp; done))); have s_w2 := Below.size b_w2
  obtain ⟨hc_hb2, hf_hb2⟩ := bcell hb2; have hz_hb2 := Below.size hb2; (try simp at hz_hb2); have zw1_heap_size_hb2 : w1.heap.size < w2.heap.size := (by omega); have cw1_heap_size0_hb2 := hc_hb2 (w1.heap.size) 0 (by (try simp) <;> omega); have fw1_heap_size0_hb2 := hf_hb2 (w1.heap.size) 0 (by (try simp) <;> omega); have cw1_heap_size1_hb2 := hc_hb2 (w1.heap.size) 1 (by (try simp) <;> omega); have fw1_heap_size1_hb2 := hf_hb2 (w1.heap.size) 1 (by (try simp) <;> omega); clear hc_hb2 hf_hb2; (try simp [*, go_sem] at cw1_heap_size0_hb2); (try simp [*, go_sem] at fw1_heap_size0_hb2); (try simp [*, go_sem] at cw1_heap_size1_hb2); (try simp [*, go_sem] at fw1_heap_size1_hb2)
  go_wp2_with fail
  refine (div_c _).mono ?_
  rintro e w3 ⟨rfl, hb3⟩
  have b_w3 : Below w.heap.size w w3 := (below_via hb3 (by (repeat' (first | exact Below.refl _ _ | assumption | refine Below.drew ?_ | refine Below.alloc ?_ ?_ _ | refine Below.setCell ?_ ?_ _ | (apply below_via; assumption) | (simp; done) | omega | (simp; omega)))) (by first | omega | (simp; omega) | (simp; done))); have s_w3 := Below.size b_w3
  obtain ⟨hc_hb3, hf_hb3⟩ := bcell hb3; have hz_hb3 := Below.size hb3; (try simp at hz_hb3); have zw1_heap_size_hb3 : w1.heap.size < w3.heap.size := (by omega); have cw1_heap_size0_hb3 := hc_hb3 (w1.heap.size) 0 (by (try simp) <;> omega); have fw1_heap_size0_hb3 := hf_hb3 (w1.heap.size) 0 (by (try simp) <;> omega); have cw1_heap_size1_hb3 := hc_hb3 (w1.heap.size) 1 (by (try simp) <;> omega); have fw1_heap_size1_hb3 := hf_hb3 (w1.heap.size) 1 (by (try simp) <;> omega); clear hc_hb3 hf_hb3; (try simp [*, go_sem] at cw1_heap_size0_hb3); (try simp [*, go_sem] at fw1_heap_size0_hb3); (try simp [*, go_sem] at cw1_heap_size1_hb3); (try simp [*, go_sem] at fw1_heap_size1_hb3)
  go_wp2_with fail
  refine (Parse_m0 _).mono ?_
  rintro e w4 ⟨rfl, hb4⟩
  have b_w4 : Below w.heap.size w w4 := (below_via hb4 (by (repeat' (first | exact Below.refl _ _ | assumption | refine Below.drew ?_ | refine Below.alloc ?_ ?_ _ | refine Below.setCell ?_ ?_ _ | (apply below_via; assumption) | (simp; done) | omega | (simp; omega)))) (by first | omega | (simp; omega) | (simp; done))); have s_w4 := Below.size b_w4
  obtain ⟨hc_hb4, hf_hb4⟩ := bcell hb4; have hz_hb4 := Below.size hb4; (try simp at hz_hb4); have zw1_heap_size_hb4 : w1.heap.size < w4.heap.size := (by omega); have zw3_heap_size_hb4 : w3.heap.size < w4.heap.size := (by omega); have cw1_heap_size0_hb4 := hc_hb4 (w1.heap.size) 0 (by (try simp) <;> omega); have fw1_heap_size0_hb4 := hf_hb4 (w1.heap.size) 0 (by (try simp) <;> omega); have cw1_heap_size1_hb4 := hc_hb4 (w1.heap.size) 1 (by (try simp) <;> omega); have fw1_heap_size1_hb4 := hf_hb4 (w1.heap.size) 1 (by (try simp) <;> omega); have cw3_heap_size0_hb4 := hc_hb4 (w3.heap.size) 0 (by (try simp) <;> omega); have fw3_heap_size0_hb4 := hf_hb4 (w3.heap.size) 0 (by (try simp) <;> omega); have cw3_heap_size1_hb4 := hc_hb4 (w3.heap.size) 1 (by (try simp) <;> omega); have fw3_heap_size1_hb4 := hf_hb4 (w3.heap.size) 1 (by (try simp) <;> omega); clear hc_hb4 hf_hb4; (try simp [*, go_sem] at cw1_heap_size0_hb4); (try simp [*, go_sem] at fw1_heap_size0_hb4); (try simp [*, go_sem] at cw1_heap_size1_hb4); (try simp [*, go_sem] at fw1_heap_size1_hb4); (try simp [*, go_sem] at cw3_heap_size0_hb4); (try simp [*, go_sem] at fw3_heap_size0_hb4); (try simp [*, go_sem] at cw3_heap_size1_hb4); (try simp [*, go_sem] at fw3_heap_size1_hb4)
  go_wp2_with fail
  generalize hW : World.alloc _ _ = W
  have d0 : W.cell? ⟨w1.heap.size, 0, none⟩ = some (.int .u64 1) := by subst hW; (first | (go_simp; done) | (simp [*]; done))
  have d1 : W.cell? ⟨w1.heap.size, 1, none⟩ = some (.int .u64 0) := by subst hW; (first | (go_simp; done) | (simp [*]; done))
  have d2 : W.cell? ⟨w3.heap.size, 0, none⟩ = some (.int .u64 (Wd.hi (-2))) := by subst hW; (first | (go_simp; done) | (simp [*]; done))
  have d3 : W.cell? ⟨w3.heap.size, 1, none⟩ = some (.int .u64 (Wd.lo (-2))) := by subst hW; (first | (go_simp; done) | (simp [*]; done))
  have z1 : w1.heap.size < W.heap.size := by subst hW; simp; omega
  have z3 : w3.heap.size < W.heap.size := by subst hW; simp; omega
  have bW : Below w.heap.size w W := by subst hW; (repeat' (first | exact Below.refl _ _ | assumption | refine Below.drew ?_ | refine Below.alloc ?_ ?_ _ | refine Below.setCell ?_ ?_ _ | (apply below_via; assumption) | (simp; done) | omega | (simp; omega)))
  clear hW
  go_region_held3 (fun w' => Below W.heap.size W w' ∧ (∀ b o, b < W.heap.size → w'.cell? ⟨b, o, none⟩ = W.cell? ⟨b, o, none⟩))
    ((first | assumption | exact keptS (Below.drew (Below.refl _ _)) | (refine keptS0 ?_; assumption) | (apply keptS1 <;> assumption) | (apply keptS; (repeat' (first | exact Below.refl _ _ | exact And.left (by assumption) | assumption | refine Below.drew ?_ | refine Below.alloc ?_ ?_ _ | refine Below.setCell ?_ ?_ _ | (apply below_via; assumption) | (simp; done) | omega | (simp; omega))))))
    (first | (go_at_call 31; refine (str_c _).mono ?_; rintro e w5 ⟨rfl, hb5⟩) | (go_at_call 42; refine (from_m2 _).mono ?_; rintro e w6 ⟨rfl, hb6⟩) | (go_at_call 16; refine (Num_w _ _).mono ?_; rintro e w7 ⟨rfl, rfl⟩))
  have hR : Below W.heap.size W w6 := And.left (by assumption)
  go_wp2
  go_ret
  exact ⟨rfl, bW.trans (hR.mono bW.size)⟩

end Go.Proofs.Ytfiaobhkhedpiaa
