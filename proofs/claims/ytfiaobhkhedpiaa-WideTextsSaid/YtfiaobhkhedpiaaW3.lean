/- Walks of package wide: the sum. -/
import Derived.Test.YtfiaobhkhedpiaaW2
namespace Go.Proofs.Ytfiaobhkhedpiaa
open Go.RowKit

set_option maxHeartbeats 1000000 in
theorem Add_ttt (a b : Int) (h1 : decide (9223372036854775808 ≤ Wd.hi a) = true) (h2 : decide (9223372036854775808 ≤ Wd.hi b) = true) (h3 : decide (9223372036854775808 ≤ Wd.hi (a + b)) = true) (w : World) :
    Calls Try.prog 46 #[Value.agg #[.int .u64 (Wd.hi (a)), .int .u64 (Wd.lo (a))], Value.agg #[.int .u64 (Wd.hi (b)), .int .u64 (Wd.lo (b))]] w fun e w' => e = .returned (.tuple #[Value.agg #[.int .u64 (Wd.hi (a + b)), .int .u64 (Wd.lo (a + b))], .int .i64 0]) ∧ Below w.heap.size w w' := by
  have r1 := fun w => add64_lo a b w
  have r2 := fun w => add64_hi a b w
  go_enter Try.func46, Try.ntmps46
  go_wp2
  generalize hW : World.alloc _ _ = W
  have cW00 : W.cell? ⟨w.heap.size, 0, none⟩ = some (.int .u64 (Wd.hi a)) := by subst hW; (first | (go_simp; done) | (simp [*]; done))
  have fW00 : W.frozen? ⟨w.heap.size, 0, none⟩ = false := by subst hW; (first | (go_simp; done) | (simp [*]; done))
  have cW01 : W.cell? ⟨w.heap.size, 1, none⟩ = some (.int .u64 (Wd.lo a)) := by subst hW; (first | (go_simp; done) | (simp [*]; done))
  have fW01 : W.frozen? ⟨w.heap.size, 1, none⟩ = false := by subst hW; (first | (go_simp; done) | (simp [*]; done))
  have cW10 : W.cell? ⟨w.heap.size + 1, 0, none⟩ = some (.int .u64 (Wd.hi b)) := by subst hW; (first | (go_simp; done) | (simp [*]; done))
  have fW10 : W.frozen? ⟨w.heap.size + 1, 0, none⟩ = false := by subst hW; (first | (go_simp; done) | (simp [*]; done))
  have cW11 : W.cell? ⟨w.heap.size + 1, 1, none⟩ = some (.int .u64 (Wd.lo b)) := by subst hW; (first | (go_simp; done) | (simp [*]; done))
  have fW11 : W.frozen? ⟨w.heap.size + 1, 1, none⟩ = false := by subst hW; (first | (go_simp; done) | (simp [*]; done))
  have cW20 : W.cell? ⟨w.heap.size + 1 + 1, 0, none⟩ = some (.int .u64 0) := by subst hW; (first | (go_simp; done) | (simp [*]; done))
  have fW20 : W.frozen? ⟨w.heap.size + 1 + 1, 0, none⟩ = false := by subst hW; (first | (go_simp; done) | (simp [*]; done))
  have cW21 : W.cell? ⟨w.heap.size + 1 + 1, 1, none⟩ = some (.int .u64 0) := by subst hW; (first | (go_simp; done) | (simp [*]; done))
  have fW21 : W.frozen? ⟨w.heap.size + 1 + 1, 1, none⟩ = false := by subst hW; (first | (go_simp; done) | (simp [*]; done))
  have cW30 : W.cell? ⟨w.heap.size + 1 + 1 + 1, 0, none⟩ = some (.int .u64 (Wd.hi (a + b))) := by subst hW; (first | (go_simp; done) | (simp [*]; done))
  have fW30 : W.frozen? ⟨w.heap.size + 1 + 1 + 1, 0, none⟩ = false := by subst hW; (first | (go_simp; done) | (simp [*]; done))
  have cW31 : W.cell? ⟨w.heap.size + 1 + 1 + 1, 1, none⟩ = some (.int .u64 (Wd.lo (a + b))) := by subst hW; (first | (go_simp; done) | (simp [*]; done))
  have fW31 : W.frozen? ⟨w.heap.size + 1 + 1 + 1, 1, none⟩ = false := by subst hW; (first | (go_simp; done) | (simp [*]; done))
  have zW : W.heap.size = w.heap.size + 1 + 1 + 1 + 1 := by rw [← hW]; simp
  have bW : Below w.heap.size w W := by rw [← hW]; (repeat' (first | exact Below.refl _ _ | assumption | refine Below.drew ?_ | refine Below.alloc ?_ ?_ _ | refine Below.setCell ?_ ?_ _ | (apply below_via; assumption) | (simp; done) | omega | (simp; omega)))
  clear hW
  go_region_held3 (fun w' => Below W.heap.size W w' ∧ (∀ b o, b < W.heap.size → w'.cell? ⟨b, o, none⟩ = W.cell? ⟨b, o, none⟩))
    ((first | exact keptS (Below.drew (Below.refl _ _)) | (refine keptS0 ?_; assumption) | (apply keptS1 <;> assumption)))
    (first | (go_at_call 85; refine (below_w _ _ _).mono ?_; rintro e w1 ⟨rfl, hb⟩))
  (have hR : Below W.heap.size W w1 := (by first | assumption | exact And.left (by assumption))); (have zR := hR.size); (have z2_R : w.heap.size + 1 + 1 < w1.heap.size := by omega); (have cR20 := (hR.cell (p := ⟨w.heap.size + 1 + 1, 0, none⟩) (by show w.heap.size + 1 + 1 < W.heap.size; omega)).trans cW20); (have fR20 := (hR.frozen (p := ⟨w.heap.size + 1 + 1, 0, none⟩) (by show w.heap.size + 1 + 1 < W.heap.size; omega)).trans fW20); (have cR21 := (hR.cell (p := ⟨w.heap.size + 1 + 1, 1, none⟩) (by show w.heap.size + 1 + 1 < W.heap.size; omega)).trans cW21); (have fR21 := (hR.frozen (p := ⟨w.heap.size + 1 + 1, 1, none⟩) (by show w.heap.size + 1 + 1 < W.heap.size; omega)).trans fW21); (have z3_R : w.heap.size + 1 + 1 + 1 < w1.heap.size := by omega); (have cR30 := (hR.cell (p := ⟨w.heap.size + 1 + 1 + 1, 0, none⟩) (by show w.heap.size + 1 + 1 + 1 < W.heap.size; omega)).trans cW30); (have fR30 := (hR.frozen (p := ⟨w.heap.size + 1 + 1 + 1, 0, none⟩) (by show w.heap.size + 1 + 1 + 1 < W.heap.size; omega)).trans fW30); (have cR31 := (hR.cell (p := ⟨w.heap.size + 1 + 1 + 1, 1, none⟩) (by show w.heap.size + 1 + 1 + 1 < W.heap.size; omega)).trans cW31); (have fR31 := (hR.frozen (p := ⟨w.heap.size + 1 + 1 + 1, 1, none⟩) (by show w.heap.size + 1 + 1 + 1 < W.heap.size; omega)).trans fW31)
  go_wp2
  exact bodyPost_ret (v := .tuple #[Value.agg #[.int .u64 (Wd.hi (a + b)), .int .u64 (Wd.lo (a + b))], .int .i64 0]) (by simp [*, results, Try.results46, go_sem]) rfl ⟨rfl, by (repeat' (first | exact Below.refl _ _ | assumption | refine Below.drew ?_ | refine Below.alloc ?_ ?_ _ | refine Below.setCell ?_ ?_ _ | (apply below_via; assumption) | (simp; done) | omega | (simp; omega)))⟩

set_option maxHeartbeats 1000000 in
theorem Add_ttf (a b : Int) (h1 : decide (9223372036854775808 ≤ Wd.hi a) = true) (h2 : decide (9223372036854775808 ≤ Wd.hi b) = true) (h3 : decide (9223372036854775808 ≤ Wd.hi (a + b)) = false) (w : World) :
    Calls Try.prog 46 #[Value.agg #[.int .u64 (Wd.hi (a)), .int .u64 (Wd.lo (a))], Value.agg #[.int .u64 (Wd.hi (b)), .int .u64 (Wd.lo (b))]] w fun e w' => e = .returned (.tuple #[Value.agg #[.int .u64 (Wd.hi (0)), .int .u64 (Wd.lo (0))], .int .i64 16]) ∧ Below w.heap.size w w' := by
  have r1 := fun w => add64_lo a b w
  have r2 := fun w => add64_hi a b w
  go_enter Try.func46, Try.ntmps46
  go_wp2
  generalize hW : World.alloc _ _ = W
  have cW00 : W.cell? ⟨w.heap.size, 0, none⟩ = some (.int .u64 (Wd.hi a)) := by subst hW; (first | (go_simp; done) | (simp [*]; done))
  have fW00 : W.frozen? ⟨w.heap.size, 0, none⟩ = false := by subst hW; (first | (go_simp; done) | (simp [*]; done))
  have cW01 : W.cell? ⟨w.heap.size, 1, none⟩ = some (.int .u64 (Wd.lo a)) := by subst hW; (first | (go_simp; done) | (simp [*]; done))
  have fW01 : W.frozen? ⟨w.heap.size, 1, none⟩ = false := by subst hW; (first | (go_simp; done) | (simp [*]; done))
  have cW10 : W.cell? ⟨w.heap.size + 1, 0, none⟩ = some (.int .u64 (Wd.hi b)) := by subst hW; (first | (go_simp; done) | (simp [*]; done))
  have fW10 : W.frozen? ⟨w.heap.size + 1, 0, none⟩ = false := by subst hW; (first | (go_simp; done) | (simp [*]; done))
  have cW11 : W.cell? ⟨w.heap.size + 1, 1, none⟩ = some (.int .u64 (Wd.lo b)) := by subst hW; (first | (go_simp; done) | (simp [*]; done))
  have fW11 : W.frozen? ⟨w.heap.size + 1, 1, none⟩ = false := by subst hW; (first | (go_simp; done) | (simp [*]; done))
  have cW20 : W.cell? ⟨w.heap.size + 1 + 1, 0, none⟩ = some (.int .u64 0) := by subst hW; (first | (go_simp; done) | (simp [*]; done))
  have fW20 : W.frozen? ⟨w.heap.size + 1 + 1, 0, none⟩ = false := by subst hW; (first | (go_simp; done) | (simp [*]; done))
  have cW21 : W.cell? ⟨w.heap.size + 1 + 1, 1, none⟩ = some (.int .u64 0) := by subst hW; (first | (go_simp; done) | (simp [*]; done))
  have fW21 : W.frozen? ⟨w.heap.size + 1 + 1, 1, none⟩ = false := by subst hW; (first | (go_simp; done) | (simp [*]; done))
  have cW30 : W.cell? ⟨w.heap.size + 1 + 1 + 1, 0, none⟩ = some (.int .u64 (Wd.hi (a + b))) := by subst hW; (first | (go_simp; done) | (simp [*]; done))
  have fW30 : W.frozen? ⟨w.heap.size + 1 + 1 + 1, 0, none⟩ = false := by subst hW; (first | (go_simp; done) | (simp [*]; done))
  have cW31 : W.cell? ⟨w.heap.size + 1 + 1 + 1, 1, none⟩ = some (.int .u64 (Wd.lo (a + b))) := by subst hW; (first | (go_simp; done) | (simp [*]; done))
  have fW31 : W.frozen? ⟨w.heap.size + 1 + 1 + 1, 1, none⟩ = false := by subst hW; (first | (go_simp; done) | (simp [*]; done))
  have zW : W.heap.size = w.heap.size + 1 + 1 + 1 + 1 := by rw [← hW]; simp
  have bW : Below w.heap.size w W := by rw [← hW]; (repeat' (first | exact Below.refl _ _ | assumption | refine Below.drew ?_ | refine Below.alloc ?_ ?_ _ | refine Below.setCell ?_ ?_ _ | (apply below_via; assumption) | (simp; done) | omega | (simp; omega)))
  clear hW
  go_region_held3 (fun w' => Below W.heap.size W w' ∧ (∀ b o, b < W.heap.size → w'.cell? ⟨b, o, none⟩ = W.cell? ⟨b, o, none⟩))
    ((first | exact keptS (Below.drew (Below.refl _ _)) | (refine keptS0 ?_; assumption) | (apply keptS1 <;> assumption)))
    (first | (go_at_call 85; refine (below_w _ _ _).mono ?_; rintro e w1 ⟨rfl, hb⟩))
  (have hR : Below W.heap.size W w1 := (by first | assumption | exact And.left (by assumption))); (have zR := hR.size); (have z2_R : w.heap.size + 1 + 1 < w1.heap.size := by omega); (have cR20 := (hR.cell (p := ⟨w.heap.size + 1 + 1, 0, none⟩) (by show w.heap.size + 1 + 1 < W.heap.size; omega)).trans cW20); (have fR20 := (hR.frozen (p := ⟨w.heap.size + 1 + 1, 0, none⟩) (by show w.heap.size + 1 + 1 < W.heap.size; omega)).trans fW20); (have cR21 := (hR.cell (p := ⟨w.heap.size + 1 + 1, 1, none⟩) (by show w.heap.size + 1 + 1 < W.heap.size; omega)).trans cW21); (have fR21 := (hR.frozen (p := ⟨w.heap.size + 1 + 1, 1, none⟩) (by show w.heap.size + 1 + 1 < W.heap.size; omega)).trans fW21); (have z3_R : w.heap.size + 1 + 1 + 1 < w1.heap.size := by omega); (have cR30 := (hR.cell (p := ⟨w.heap.size + 1 + 1 + 1, 0, none⟩) (by show w.heap.size + 1 + 1 + 1 < W.heap.size; omega)).trans cW30); (have fR30 := (hR.frozen (p := ⟨w.heap.size + 1 + 1 + 1, 0, none⟩) (by show w.heap.size + 1 + 1 + 1 < W.heap.size; omega)).trans fW30); (have cR31 := (hR.cell (p := ⟨w.heap.size + 1 + 1 + 1, 1, none⟩) (by show w.heap.size + 1 + 1 + 1 < W.heap.size; omega)).trans cW31); (have fR31 := (hR.frozen (p := ⟨w.heap.size + 1 + 1 + 1, 1, none⟩) (by show w.heap.size + 1 + 1 + 1 < W.heap.size; omega)).trans fW31)
  go_wp2
  exact bodyPost_ret (v := .tuple #[Value.agg #[.int .u64 (Wd.hi (0)), .int .u64 (Wd.lo (0))], .int .i64 16]) (by simp [*, results, Try.results46, go_sem, Wd.hi_zero, Wd.lo_zero]) rfl ⟨rfl, by (repeat' (first | exact Below.refl _ _ | assumption | refine Below.drew ?_ | refine Below.alloc ?_ ?_ _ | refine Below.setCell ?_ ?_ _ | (apply below_via; assumption) | (simp; done) | omega | (simp; omega)))⟩

set_option maxHeartbeats 1000000 in
theorem Add_tf (a b : Int) (h1 : decide (9223372036854775808 ≤ Wd.hi a) = true) (h2 : decide (9223372036854775808 ≤ Wd.hi b) = false) (w : World) :
    Calls Try.prog 46 #[Value.agg #[.int .u64 (Wd.hi (a)), .int .u64 (Wd.lo (a))], Value.agg #[.int .u64 (Wd.hi (b)), .int .u64 (Wd.lo (b))]] w fun e w' => e = .returned (.tuple #[Value.agg #[.int .u64 (Wd.hi (a + b)), .int .u64 (Wd.lo (a + b))], .int .i64 0]) ∧ Below w.heap.size w w' := by
  have r1 := fun w => add64_lo a b w
  have r2 := fun w => add64_hi a b w
  go_enter Try.func46, Try.ntmps46
  go_wp2
  generalize hW : World.alloc _ _ = W
  have cW00 : W.cell? ⟨w.heap.size, 0, none⟩ = some (.int .u64 (Wd.hi a)) := by subst hW; (first | (go_simp; done) | (simp [*]; done))
  have fW00 : W.frozen? ⟨w.heap.size, 0, none⟩ = false := by subst hW; (first | (go_simp; done) | (simp [*]; done))
  have cW01 : W.cell? ⟨w.heap.size, 1, none⟩ = some (.int .u64 (Wd.lo a)) := by subst hW; (first | (go_simp; done) | (simp [*]; done))
  have fW01 : W.frozen? ⟨w.heap.size, 1, none⟩ = false := by subst hW; (first | (go_simp; done) | (simp [*]; done))
  have cW10 : W.cell? ⟨w.heap.size + 1, 0, none⟩ = some (.int .u64 (Wd.hi b)) := by subst hW; (first | (go_simp; done) | (simp [*]; done))
  have fW10 : W.frozen? ⟨w.heap.size + 1, 0, none⟩ = false := by subst hW; (first | (go_simp; done) | (simp [*]; done))
  have cW11 : W.cell? ⟨w.heap.size + 1, 1, none⟩ = some (.int .u64 (Wd.lo b)) := by subst hW; (first | (go_simp; done) | (simp [*]; done))
  have fW11 : W.frozen? ⟨w.heap.size + 1, 1, none⟩ = false := by subst hW; (first | (go_simp; done) | (simp [*]; done))
  have cW20 : W.cell? ⟨w.heap.size + 1 + 1, 0, none⟩ = some (.int .u64 0) := by subst hW; (first | (go_simp; done) | (simp [*]; done))
  have fW20 : W.frozen? ⟨w.heap.size + 1 + 1, 0, none⟩ = false := by subst hW; (first | (go_simp; done) | (simp [*]; done))
  have cW21 : W.cell? ⟨w.heap.size + 1 + 1, 1, none⟩ = some (.int .u64 0) := by subst hW; (first | (go_simp; done) | (simp [*]; done))
  have fW21 : W.frozen? ⟨w.heap.size + 1 + 1, 1, none⟩ = false := by subst hW; (first | (go_simp; done) | (simp [*]; done))
  have cW30 : W.cell? ⟨w.heap.size + 1 + 1 + 1, 0, none⟩ = some (.int .u64 (Wd.hi (a + b))) := by subst hW; (first | (go_simp; done) | (simp [*]; done))
  have fW30 : W.frozen? ⟨w.heap.size + 1 + 1 + 1, 0, none⟩ = false := by subst hW; (first | (go_simp; done) | (simp [*]; done))
  have cW31 : W.cell? ⟨w.heap.size + 1 + 1 + 1, 1, none⟩ = some (.int .u64 (Wd.lo (a + b))) := by subst hW; (first | (go_simp; done) | (simp [*]; done))
  have fW31 : W.frozen? ⟨w.heap.size + 1 + 1 + 1, 1, none⟩ = false := by subst hW; (first | (go_simp; done) | (simp [*]; done))
  have zW : W.heap.size = w.heap.size + 1 + 1 + 1 + 1 := by rw [← hW]; simp
  have bW : Below w.heap.size w W := by rw [← hW]; (repeat' (first | exact Below.refl _ _ | assumption | refine Below.drew ?_ | refine Below.alloc ?_ ?_ _ | refine Below.setCell ?_ ?_ _ | (apply below_via; assumption) | (simp; done) | omega | (simp; omega)))
  clear hW
  clear r1 r2
  go_region_with (go_at_call 85; refine (below_w _ _ _).mono ?_; rintro e w1 ⟨rfl, hb⟩; obtain ⟨hc, hf⟩ := bcell hb; have hz := hb.size; (try simp at hz))
  all_goals
    have hR : Below W.heap.size W w1 := by apply below_two <;> assumption
    clear hc hf
    (have hR : Below W.heap.size W w1 := (by first | assumption | exact And.left (by assumption))); (have zR := hR.size); (have z2_R : w.heap.size + 1 + 1 < w1.heap.size := by omega); (have cR20 := (hR.cell (p := ⟨w.heap.size + 1 + 1, 0, none⟩) (by show w.heap.size + 1 + 1 < W.heap.size; omega)).trans cW20); (have fR20 := (hR.frozen (p := ⟨w.heap.size + 1 + 1, 0, none⟩) (by show w.heap.size + 1 + 1 < W.heap.size; omega)).trans fW20); (have cR21 := (hR.cell (p := ⟨w.heap.size + 1 + 1, 1, none⟩) (by show w.heap.size + 1 + 1 < W.heap.size; omega)).trans cW21); (have fR21 := (hR.frozen (p := ⟨w.heap.size + 1 + 1, 1, none⟩) (by show w.heap.size + 1 + 1 < W.heap.size; omega)).trans fW21); (have z3_R : w.heap.size + 1 + 1 + 1 < w1.heap.size := by omega); (have cR30 := (hR.cell (p := ⟨w.heap.size + 1 + 1 + 1, 0, none⟩) (by show w.heap.size + 1 + 1 + 1 < W.heap.size; omega)).trans cW30); (have fR30 := (hR.frozen (p := ⟨w.heap.size + 1 + 1 + 1, 0, none⟩) (by show w.heap.size + 1 + 1 + 1 < W.heap.size; omega)).trans fW30); (have cR31 := (hR.cell (p := ⟨w.heap.size + 1 + 1 + 1, 1, none⟩) (by show w.heap.size + 1 + 1 + 1 < W.heap.size; omega)).trans cW31); (have fR31 := (hR.frozen (p := ⟨w.heap.size + 1 + 1 + 1, 1, none⟩) (by show w.heap.size + 1 + 1 + 1 < W.heap.size; omega)).trans fW31)
    go_wp2
    exact bodyPost_ret (v := .tuple #[Value.agg #[.int .u64 (Wd.hi (a + b)), .int .u64 (Wd.lo (a + b))], .int .i64 0]) (by simp [*, results, Try.results46, go_sem]) rfl ⟨rfl, by (repeat' (first | exact Below.refl _ _ | assumption | refine Below.drew ?_ | refine Below.alloc ?_ ?_ _ | refine Below.setCell ?_ ?_ _ | (apply below_via; assumption) | (simp; done) | omega | (simp; omega)))⟩

set_option maxHeartbeats 1000000 in
theorem Add_ft (a b : Int) (h1 : decide (9223372036854775808 ≤ Wd.hi a) = false) (h2 : decide (9223372036854775808 ≤ Wd.hi b) = true) (w : World) :
    Calls Try.prog 46 #[Value.agg #[.int .u64 (Wd.hi (a)), .int .u64 (Wd.lo (a))], Value.agg #[.int .u64 (Wd.hi (b)), .int .u64 (Wd.lo (b))]] w fun e w' => e = .returned (.tuple #[Value.agg #[.int .u64 (Wd.hi (a + b)), .int .u64 (Wd.lo (a + b))], .int .i64 0]) ∧ Below w.heap.size w w' := by
  have r1 := fun w => add64_lo a b w
  have r2 := fun w => add64_hi a b w
  go_enter Try.func46, Try.ntmps46
  go_wp2
  generalize hW : World.alloc _ _ = W
  have cW00 : W.cell? ⟨w.heap.size, 0, none⟩ = some (.int .u64 (Wd.hi a)) := by subst hW; (first | (go_simp; done) | (simp [*]; done))
  have fW00 : W.frozen? ⟨w.heap.size, 0, none⟩ = false := by subst hW; (first | (go_simp; done) | (simp [*]; done))
  have cW01 : W.cell? ⟨w.heap.size, 1, none⟩ = some (.int .u64 (Wd.lo a)) := by subst hW; (first | (go_simp; done) | (simp [*]; done))
  have fW01 : W.frozen? ⟨w.heap.size, 1, none⟩ = false := by subst hW; (first | (go_simp; done) | (simp [*]; done))
  have cW10 : W.cell? ⟨w.heap.size + 1, 0, none⟩ = some (.int .u64 (Wd.hi b)) := by subst hW; (first | (go_simp; done) | (simp [*]; done))
  have fW10 : W.frozen? ⟨w.heap.size + 1, 0, none⟩ = false := by subst hW; (first | (go_simp; done) | (simp [*]; done))
  have cW11 : W.cell? ⟨w.heap.size + 1, 1, none⟩ = some (.int .u64 (Wd.lo b)) := by subst hW; (first | (go_simp; done) | (simp [*]; done))
  have fW11 : W.frozen? ⟨w.heap.size + 1, 1, none⟩ = false := by subst hW; (first | (go_simp; done) | (simp [*]; done))
  have cW20 : W.cell? ⟨w.heap.size + 1 + 1, 0, none⟩ = some (.int .u64 0) := by subst hW; (first | (go_simp; done) | (simp [*]; done))
  have fW20 : W.frozen? ⟨w.heap.size + 1 + 1, 0, none⟩ = false := by subst hW; (first | (go_simp; done) | (simp [*]; done))
  have cW21 : W.cell? ⟨w.heap.size + 1 + 1, 1, none⟩ = some (.int .u64 0) := by subst hW; (first | (go_simp; done) | (simp [*]; done))
  have fW21 : W.frozen? ⟨w.heap.size + 1 + 1, 1, none⟩ = false := by subst hW; (first | (go_simp; done) | (simp [*]; done))
  have cW30 : W.cell? ⟨w.heap.size + 1 + 1 + 1, 0, none⟩ = some (.int .u64 (Wd.hi (a + b))) := by subst hW; (first | (go_simp; done) | (simp [*]; done))
  have fW30 : W.frozen? ⟨w.heap.size + 1 + 1 + 1, 0, none⟩ = false := by subst hW; (first | (go_simp; done) | (simp [*]; done))
  have cW31 : W.cell? ⟨w.heap.size + 1 + 1 + 1, 1, none⟩ = some (.int .u64 (Wd.lo (a + b))) := by subst hW; (first | (go_simp; done) | (simp [*]; done))
  have fW31 : W.frozen? ⟨w.heap.size + 1 + 1 + 1, 1, none⟩ = false := by subst hW; (first | (go_simp; done) | (simp [*]; done))
  have zW : W.heap.size = w.heap.size + 1 + 1 + 1 + 1 := by rw [← hW]; simp
  have bW : Below w.heap.size w W := by rw [← hW]; (repeat' (first | exact Below.refl _ _ | assumption | refine Below.drew ?_ | refine Below.alloc ?_ ?_ _ | refine Below.setCell ?_ ?_ _ | (apply below_via; assumption) | (simp; done) | omega | (simp; omega)))
  clear hW
  clear r1 r2
  go_region_with (go_at_call 85; refine (below_w _ _ _).mono ?_; rintro e w1 ⟨rfl, hb⟩; obtain ⟨hc, hf⟩ := bcell hb; have hz := hb.size; (try simp at hz))
  all_goals
    have hR : Below W.heap.size W w1 := by apply below_two <;> assumption
    clear hc hf
    (have hR : Below W.heap.size W w1 := (by first | assumption | exact And.left (by assumption))); (have zR := hR.size); (have z2_R : w.heap.size + 1 + 1 < w1.heap.size := by omega); (have cR20 := (hR.cell (p := ⟨w.heap.size + 1 + 1, 0, none⟩) (by show w.heap.size + 1 + 1 < W.heap.size; omega)).trans cW20); (have fR20 := (hR.frozen (p := ⟨w.heap.size + 1 + 1, 0, none⟩) (by show w.heap.size + 1 + 1 < W.heap.size; omega)).trans fW20); (have cR21 := (hR.cell (p := ⟨w.heap.size + 1 + 1, 1, none⟩) (by show w.heap.size + 1 + 1 < W.heap.size; omega)).trans cW21); (have fR21 := (hR.frozen (p := ⟨w.heap.size + 1 + 1, 1, none⟩) (by show w.heap.size + 1 + 1 < W.heap.size; omega)).trans fW21); (have z3_R : w.heap.size + 1 + 1 + 1 < w1.heap.size := by omega); (have cR30 := (hR.cell (p := ⟨w.heap.size + 1 + 1 + 1, 0, none⟩) (by show w.heap.size + 1 + 1 + 1 < W.heap.size; omega)).trans cW30); (have fR30 := (hR.frozen (p := ⟨w.heap.size + 1 + 1 + 1, 0, none⟩) (by show w.heap.size + 1 + 1 + 1 < W.heap.size; omega)).trans fW30); (have cR31 := (hR.cell (p := ⟨w.heap.size + 1 + 1 + 1, 1, none⟩) (by show w.heap.size + 1 + 1 + 1 < W.heap.size; omega)).trans cW31); (have fR31 := (hR.frozen (p := ⟨w.heap.size + 1 + 1 + 1, 1, none⟩) (by show w.heap.size + 1 + 1 + 1 < W.heap.size; omega)).trans fW31)
    go_wp2
    exact bodyPost_ret (v := .tuple #[Value.agg #[.int .u64 (Wd.hi (a + b)), .int .u64 (Wd.lo (a + b))], .int .i64 0]) (by simp [*, results, Try.results46, go_sem]) rfl ⟨rfl, by (repeat' (first | exact Below.refl _ _ | assumption | refine Below.drew ?_ | refine Below.alloc ?_ ?_ _ | refine Below.setCell ?_ ?_ _ | (apply below_via; assumption) | (simp; done) | omega | (simp; omega)))⟩

set_option maxHeartbeats 1000000 in
theorem Add_fft (a b : Int) (h1 : decide (9223372036854775808 ≤ Wd.hi a) = false) (h2 : decide (9223372036854775808 ≤ Wd.hi b) = false) (h3 : decide (9223372036854775808 ≤ Wd.hi (a + b)) = true) (w : World) :
    Calls Try.prog 46 #[Value.agg #[.int .u64 (Wd.hi (a)), .int .u64 (Wd.lo (a))], Value.agg #[.int .u64 (Wd.hi (b)), .int .u64 (Wd.lo (b))]] w fun e w' => e = .returned (.tuple #[Value.agg #[.int .u64 (Wd.hi (0)), .int .u64 (Wd.lo (0))], .int .i64 16]) ∧ Below w.heap.size w w' := by
  have r1 := fun w => add64_lo a b w
  have r2 := fun w => add64_hi a b w
  go_enter Try.func46, Try.ntmps46
  go_wp2
  generalize hW : World.alloc _ _ = W
  have cW00 : W.cell? ⟨w.heap.size, 0, none⟩ = some (.int .u64 (Wd.hi a)) := by subst hW; (first | (go_simp; done) | (simp [*]; done))
  have fW00 : W.frozen? ⟨w.heap.size, 0, none⟩ = false := by subst hW; (first | (go_simp; done) | (simp [*]; done))
  have cW01 : W.cell? ⟨w.heap.size, 1, none⟩ = some (.int .u64 (Wd.lo a)) := by subst hW; (first | (go_simp; done) | (simp [*]; done))
  have fW01 : W.frozen? ⟨w.heap.size, 1, none⟩ = false := by subst hW; (first | (go_simp; done) | (simp [*]; done))
  have cW10 : W.cell? ⟨w.heap.size + 1, 0, none⟩ = some (.int .u64 (Wd.hi b)) := by subst hW; (first | (go_simp; done) | (simp [*]; done))
  have fW10 : W.frozen? ⟨w.heap.size + 1, 0, none⟩ = false := by subst hW; (first | (go_simp; done) | (simp [*]; done))
  have cW11 : W.cell? ⟨w.heap.size + 1, 1, none⟩ = some (.int .u64 (Wd.lo b)) := by subst hW; (first | (go_simp; done) | (simp [*]; done))
  have fW11 : W.frozen? ⟨w.heap.size + 1, 1, none⟩ = false := by subst hW; (first | (go_simp; done) | (simp [*]; done))
  have cW20 : W.cell? ⟨w.heap.size + 1 + 1, 0, none⟩ = some (.int .u64 0) := by subst hW; (first | (go_simp; done) | (simp [*]; done))
  have fW20 : W.frozen? ⟨w.heap.size + 1 + 1, 0, none⟩ = false := by subst hW; (first | (go_simp; done) | (simp [*]; done))
  have cW21 : W.cell? ⟨w.heap.size + 1 + 1, 1, none⟩ = some (.int .u64 0) := by subst hW; (first | (go_simp; done) | (simp [*]; done))
  have fW21 : W.frozen? ⟨w.heap.size + 1 + 1, 1, none⟩ = false := by subst hW; (first | (go_simp; done) | (simp [*]; done))
  have cW30 : W.cell? ⟨w.heap.size + 1 + 1 + 1, 0, none⟩ = some (.int .u64 (Wd.hi (a + b))) := by subst hW; (first | (go_simp; done) | (simp [*]; done))
  have fW30 : W.frozen? ⟨w.heap.size + 1 + 1 + 1, 0, none⟩ = false := by subst hW; (first | (go_simp; done) | (simp [*]; done))
  have cW31 : W.cell? ⟨w.heap.size + 1 + 1 + 1, 1, none⟩ = some (.int .u64 (Wd.lo (a + b))) := by subst hW; (first | (go_simp; done) | (simp [*]; done))
  have fW31 : W.frozen? ⟨w.heap.size + 1 + 1 + 1, 1, none⟩ = false := by subst hW; (first | (go_simp; done) | (simp [*]; done))
  have zW : W.heap.size = w.heap.size + 1 + 1 + 1 + 1 := by rw [← hW]; simp
  have bW : Below w.heap.size w W := by rw [← hW]; (repeat' (first | exact Below.refl _ _ | assumption | refine Below.drew ?_ | refine Below.alloc ?_ ?_ _ | refine Below.setCell ?_ ?_ _ | (apply below_via; assumption) | (simp; done) | omega | (simp; omega)))
  clear hW
  go_region_held3 (fun w' => Below W.heap.size W w' ∧ (∀ b o, b < W.heap.size → w'.cell? ⟨b, o, none⟩ = W.cell? ⟨b, o, none⟩))
    ((first | exact keptS (Below.drew (Below.refl _ _)) | (refine keptS0 ?_; assumption) | (apply keptS1 <;> assumption)))
    (first | (go_at_call 85; refine (below_w _ _ _).mono ?_; rintro e w1 ⟨rfl, hb⟩))
  (have hR : Below W.heap.size W w1 := (by first | assumption | exact And.left (by assumption))); (have zR := hR.size); (have z2_R : w.heap.size + 1 + 1 < w1.heap.size := by omega); (have cR20 := (hR.cell (p := ⟨w.heap.size + 1 + 1, 0, none⟩) (by show w.heap.size + 1 + 1 < W.heap.size; omega)).trans cW20); (have fR20 := (hR.frozen (p := ⟨w.heap.size + 1 + 1, 0, none⟩) (by show w.heap.size + 1 + 1 < W.heap.size; omega)).trans fW20); (have cR21 := (hR.cell (p := ⟨w.heap.size + 1 + 1, 1, none⟩) (by show w.heap.size + 1 + 1 < W.heap.size; omega)).trans cW21); (have fR21 := (hR.frozen (p := ⟨w.heap.size + 1 + 1, 1, none⟩) (by show w.heap.size + 1 + 1 < W.heap.size; omega)).trans fW21); (have z3_R : w.heap.size + 1 + 1 + 1 < w1.heap.size := by omega); (have cR30 := (hR.cell (p := ⟨w.heap.size + 1 + 1 + 1, 0, none⟩) (by show w.heap.size + 1 + 1 + 1 < W.heap.size; omega)).trans cW30); (have fR30 := (hR.frozen (p := ⟨w.heap.size + 1 + 1 + 1, 0, none⟩) (by show w.heap.size + 1 + 1 + 1 < W.heap.size; omega)).trans fW30); (have cR31 := (hR.cell (p := ⟨w.heap.size + 1 + 1 + 1, 1, none⟩) (by show w.heap.size + 1 + 1 + 1 < W.heap.size; omega)).trans cW31); (have fR31 := (hR.frozen (p := ⟨w.heap.size + 1 + 1 + 1, 1, none⟩) (by show w.heap.size + 1 + 1 + 1 < W.heap.size; omega)).trans fW31)
  go_wp2
  exact bodyPost_ret (v := .tuple #[Value.agg #[.int .u64 (Wd.hi (0)), .int .u64 (Wd.lo (0))], .int .i64 16]) (by simp [*, results, Try.results46, go_sem, Wd.hi_zero, Wd.lo_zero]) rfl ⟨rfl, by (repeat' (first | exact Below.refl _ _ | assumption | refine Below.drew ?_ | refine Below.alloc ?_ ?_ _ | refine Below.setCell ?_ ?_ _ | (apply below_via; assumption) | (simp; done) | omega | (simp; omega)))⟩

set_option maxHeartbeats 1000000 in
theorem Add_fff (a b : Int) (h1 : decide (9223372036854775808 ≤ Wd.hi a) = false) (h2 : decide (9223372036854775808 ≤ Wd.hi b) = false) (h3 : decide (9223372036854775808 ≤ Wd.hi (a + b)) = false) (w : World) :
    Calls Try.prog 46 #[Value.agg #[.int .u64 (Wd.hi (a)), .int .u64 (Wd.lo (a))], Value.agg #[.int .u64 (Wd.hi (b)), .int .u64 (Wd.lo (b))]] w fun e w' => e = .returned (.tuple #[Value.agg #[.int .u64 (Wd.hi (a + b)), .int .u64 (Wd.lo (a + b))], .int .i64 0]) ∧ Below w.heap.size w w' := by
  have r1 := fun w => add64_lo a b w
  have r2 := fun w => add64_hi a b w
  go_enter Try.func46, Try.ntmps46
  go_wp2
  generalize hW : World.alloc _ _ = W
  have cW00 : W.cell? ⟨w.heap.size, 0, none⟩ = some (.int .u64 (Wd.hi a)) := by subst hW; (first | (go_simp; done) | (simp [*]; done))
  have fW00 : W.frozen? ⟨w.heap.size, 0, none⟩ = false := by subst hW; (first | (go_simp; done) | (simp [*]; done))
  have cW01 : W.cell? ⟨w.heap.size, 1, none⟩ = some (.int .u64 (Wd.lo a)) := by subst hW; (first | (go_simp; done) | (simp [*]; done))
  have fW01 : W.frozen? ⟨w.heap.size, 1, none⟩ = false := by subst hW; (first | (go_simp; done) | (simp [*]; done))
  have cW10 : W.cell? ⟨w.heap.size + 1, 0, none⟩ = some (.int .u64 (Wd.hi b)) := by subst hW; (first | (go_simp; done) | (simp [*]; done))
  have fW10 : W.frozen? ⟨w.heap.size + 1, 0, none⟩ = false := by subst hW; (first | (go_simp; done) | (simp [*]; done))
  have cW11 : W.cell? ⟨w.heap.size + 1, 1, none⟩ = some (.int .u64 (Wd.lo b)) := by subst hW; (first | (go_simp; done) | (simp [*]; done))
  have fW11 : W.frozen? ⟨w.heap.size + 1, 1, none⟩ = false := by subst hW; (first | (go_simp; done) | (simp [*]; done))
  have cW20 : W.cell? ⟨w.heap.size + 1 + 1, 0, none⟩ = some (.int .u64 0) := by subst hW; (first | (go_simp; done) | (simp [*]; done))
  have fW20 : W.frozen? ⟨w.heap.size + 1 + 1, 0, none⟩ = false := by subst hW; (first | (go_simp; done) | (simp [*]; done))
  have cW21 : W.cell? ⟨w.heap.size + 1 + 1, 1, none⟩ = some (.int .u64 0) := by subst hW; (first | (go_simp; done) | (simp [*]; done))
  have fW21 : W.frozen? ⟨w.heap.size + 1 + 1, 1, none⟩ = false := by subst hW; (first | (go_simp; done) | (simp [*]; done))
  have cW30 : W.cell? ⟨w.heap.size + 1 + 1 + 1, 0, none⟩ = some (.int .u64 (Wd.hi (a + b))) := by subst hW; (first | (go_simp; done) | (simp [*]; done))
  have fW30 : W.frozen? ⟨w.heap.size + 1 + 1 + 1, 0, none⟩ = false := by subst hW; (first | (go_simp; done) | (simp [*]; done))
  have cW31 : W.cell? ⟨w.heap.size + 1 + 1 + 1, 1, none⟩ = some (.int .u64 (Wd.lo (a + b))) := by subst hW; (first | (go_simp; done) | (simp [*]; done))
  have fW31 : W.frozen? ⟨w.heap.size + 1 + 1 + 1, 1, none⟩ = false := by subst hW; (first | (go_simp; done) | (simp [*]; done))
  have zW : W.heap.size = w.heap.size + 1 + 1 + 1 + 1 := by rw [← hW]; simp
  have bW : Below w.heap.size w W := by rw [← hW]; (repeat' (first | exact Below.refl _ _ | assumption | refine Below.drew ?_ | refine Below.alloc ?_ ?_ _ | refine Below.setCell ?_ ?_ _ | (apply below_via; assumption) | (simp; done) | omega | (simp; omega)))
  clear hW
  go_region_held3 (fun w' => Below W.heap.size W w' ∧ (∀ b o, b < W.heap.size → w'.cell? ⟨b, o, none⟩ = W.cell? ⟨b, o, none⟩))
    ((first | exact keptS (Below.drew (Below.refl _ _)) | (refine keptS0 ?_; assumption) | (apply keptS1 <;> assumption)))
    (first | (go_at_call 85; refine (below_w _ _ _).mono ?_; rintro e w1 ⟨rfl, hb⟩))
  (have hR : Below W.heap.size W w1 := (by first | assumption | exact And.left (by assumption))); (have zR := hR.size); (have z2_R : w.heap.size + 1 + 1 < w1.heap.size := by omega); (have cR20 := (hR.cell (p := ⟨w.heap.size + 1 + 1, 0, none⟩) (by show w.heap.size + 1 + 1 < W.heap.size; omega)).trans cW20); (have fR20 := (hR.frozen (p := ⟨w.heap.size + 1 + 1, 0, none⟩) (by show w.heap.size + 1 + 1 < W.heap.size; omega)).trans fW20); (have cR21 := (hR.cell (p := ⟨w.heap.size + 1 + 1, 1, none⟩) (by show w.heap.size + 1 + 1 < W.heap.size; omega)).trans cW21); (have fR21 := (hR.frozen (p := ⟨w.heap.size + 1 + 1, 1, none⟩) (by show w.heap.size + 1 + 1 < W.heap.size; omega)).trans fW21); (have z3_R : w.heap.size + 1 + 1 + 1 < w1.heap.size := by omega); (have cR30 := (hR.cell (p := ⟨w.heap.size + 1 + 1 + 1, 0, none⟩) (by show w.heap.size + 1 + 1 + 1 < W.heap.size; omega)).trans cW30); (have fR30 := (hR.frozen (p := ⟨w.heap.size + 1 + 1 + 1, 0, none⟩) (by show w.heap.size + 1 + 1 + 1 < W.heap.size; omega)).trans fW30); (have cR31 := (hR.cell (p := ⟨w.heap.size + 1 + 1 + 1, 1, none⟩) (by show w.heap.size + 1 + 1 + 1 < W.heap.size; omega)).trans cW31); (have fR31 := (hR.frozen (p := ⟨w.heap.size + 1 + 1 + 1, 1, none⟩) (by show w.heap.size + 1 + 1 + 1 < W.heap.size; omega)).trans fW31)
  go_wp2
  exact bodyPost_ret (v := .tuple #[Value.agg #[.int .u64 (Wd.hi (a + b)), .int .u64 (Wd.lo (a + b))], .int .i64 0]) (by simp [*, results, Try.results46, go_sem]) rfl ⟨rfl, by (repeat' (first | exact Below.refl _ _ | assumption | refine Below.drew ?_ | refine Below.alloc ?_ ?_ _ | refine Below.setCell ?_ ?_ _ | (apply below_via; assumption) | (simp; done) | omega | (simp; omega)))⟩

end Go.Proofs.Ytfiaobhkhedpiaa
