/- Walks of package wide: the nearest quotient. -/
import Derived.Test.YtheofhegdjjfgaaW9
namespace Go.Proofs.Ytheofhegdjjfgaa
open Go.RowKit

theorem add64_inc (q : Int) (w : World) : (callFunc 90 #[.int .u64 (Wd.lo q), .int .u64 1, .int .u64 0]).run Try.prog w = .ok (.value (.tuple #[.int .u64 (Wd.lo (q + 1)), .int .u64 (Wd.cyo q)])) w := by
  rw [run_add64_at _ _ _ (Wd.lo_bd q).1 (by omega) (by omega) (by omega), Wd.inc_lo]; rfl

set_option maxRecDepth 100000 in
set_option maxHeartbeats 4000000 in
theorem DivEven_more (a d : Int) (hf : Wd.fit a) (hd : d ≠ 0) (hd0 : -9223372036854775808 ≤ d) (hd1 : d < 9223372036854775808) (h1 : decide (Wd.ab d < 2 * (Wd.ab a % Wd.ab d)) = true) (hE : Wd.ev (Wd.ab a) (Wd.ab d) = Wd.ab a / Wd.ab d + 1) (w : World) :
    Calls Try.prog 51 #[Value.agg #[.int .u64 (Wd.hi (a)), .int .u64 (Wd.lo (a))], .int .i64 d] w fun e w' => e = .returned (.tuple #[Value.agg #[.int .u64 (Wd.hi (Wd.tr (Wd.dv a d))), .int .u64 (Wd.lo (Wd.tr (Wd.dv a d)))], .int .i64 (Wd.er (Wd.dv a d))]) ∧ Below w.heap.size w w' := by
  have hdz : (d == 0) = false := by simp; omega
  have ba := Wd.ab_nonneg a
  have ba1 := Wd.ab_le a hf
  have bd := Wd.ab_bd d hd0 hd1
  have bd1 := Wd.ab_pos d hd
  have bq := Wd.quo_bd (Wd.ab a) (Wd.ab d) ba ba1 bd1
  have br := Wd.rest_bd (Wd.ab a) (Wd.ab d) bd1
  obtain ⟨lq0, lq1⟩ := Wd.lo_bd (Wd.ab a / Wd.ab d)
  have hb0 : 0 ≤ 2 * (Wd.ab a % Wd.ab d) := by omega
  have hb1 : 2 * (Wd.ab a % Wd.ab d) < 18446744073709551616 := by omega
  have HQ := Wd.dv_fit a d hf
  rw [hE] at HQ
  have HQ' := Lib.hid HQ
  clear HQ hE
  have up1 := fun w => add64_inc (Wd.ab a / Wd.ab d) w
  have up2 := Wd.inc_hi (Wd.ab a / Wd.ab d) bq.1 (by omega)
  obtain ⟨up3, up4⟩ := Wd.hi_bd (Wd.ab a / Wd.ab d + 1)
  go_enter Try.func51, Try.ntmps51
  go_wp2_with fail
  refine (wordOf_w d hd0 hd1 _).mono ?_
  rintro e w1 ⟨rfl, hx1⟩
  obtain ⟨hc_hx1, hf_hx1⟩ := bcell hx1; have hz_hx1 := Below.size hx1; (try simp at hz_hx1); have z0_hx1 : w.heap.size < w1.heap.size := (by omega); have z1_hx1 : w.heap.size + 1 < w1.heap.size := (by omega); have c00_hx1 := hc_hx1 (w.heap.size) 0 (by (try simp) <;> omega); have f00_hx1 := hf_hx1 (w.heap.size) 0 (by (try simp) <;> omega); have c01_hx1 := hc_hx1 (w.heap.size) 1 (by (try simp) <;> omega); have f01_hx1 := hf_hx1 (w.heap.size) 1 (by (try simp) <;> omega); have c10_hx1 := hc_hx1 (w.heap.size + 1) 0 (by (try simp) <;> omega); have f10_hx1 := hf_hx1 (w.heap.size + 1) 0 (by (try simp) <;> omega); have c11_hx1 := hc_hx1 (w.heap.size + 1) 1 (by (try simp) <;> omega); have f11_hx1 := hf_hx1 (w.heap.size + 1) 1 (by (try simp) <;> omega); clear hc_hx1 hf_hx1; (try simp [*, go_sem] at c00_hx1); (try simp [*, go_sem] at f00_hx1); (try simp [*, go_sem] at c01_hx1); (try simp [*, go_sem] at f01_hx1); (try simp [*, go_sem] at c10_hx1); (try simp [*, go_sem] at f10_hx1); (try simp [*, go_sem] at c11_hx1); (try simp [*, go_sem] at f11_hx1)
  go_wp2_with fail
  refine (size_w a hf _).mono ?_
  rintro e w2 ⟨rfl, hx2⟩
  obtain ⟨hc_hx2, hf_hx2⟩ := bcell hx2; have hz_hx2 := Below.size hx2; (try simp at hz_hx2); have z0_hx2 : w.heap.size < w2.heap.size := (by omega); have z1_hx2 : w.heap.size + 1 < w2.heap.size := (by omega); have c00_hx2 := hc_hx2 (w.heap.size) 0 (by (try simp) <;> omega); have f00_hx2 := hf_hx2 (w.heap.size) 0 (by (try simp) <;> omega); have c01_hx2 := hc_hx2 (w.heap.size) 1 (by (try simp) <;> omega); have f01_hx2 := hf_hx2 (w.heap.size) 1 (by (try simp) <;> omega); have c10_hx2 := hc_hx2 (w.heap.size + 1) 0 (by (try simp) <;> omega); have f10_hx2 := hf_hx2 (w.heap.size + 1) 0 (by (try simp) <;> omega); have c11_hx2 := hc_hx2 (w.heap.size + 1) 1 (by (try simp) <;> omega); have f11_hx2 := hf_hx2 (w.heap.size + 1) 1 (by (try simp) <;> omega); clear hc_hx2 hf_hx2; (try simp [*, go_sem] at c00_hx2); (try simp [*, go_sem] at f00_hx2); (try simp [*, go_sem] at c01_hx2); (try simp [*, go_sem] at f01_hx2); (try simp [*, go_sem] at c10_hx2); (try simp [*, go_sem] at f10_hx2); (try simp [*, go_sem] at c11_hx2); (try simp [*, go_sem] at f11_hx2)
  go_wp2_with fail
  refine (quo_w _ _ ba (by omega) bd1 (by omega) _).mono ?_
  rintro e w3 ⟨rfl, hx3⟩
  obtain ⟨hc_hx3, hf_hx3⟩ := bcell hx3; have hz_hx3 := Below.size hx3; (try simp at hz_hx3); have z0_hx3 : w.heap.size < w3.heap.size := (by omega); have z1_hx3 : w.heap.size + 1 < w3.heap.size := (by omega); have c00_hx3 := hc_hx3 (w.heap.size) 0 (by (try simp) <;> omega); have f00_hx3 := hf_hx3 (w.heap.size) 0 (by (try simp) <;> omega); have c01_hx3 := hc_hx3 (w.heap.size) 1 (by (try simp) <;> omega); have f01_hx3 := hf_hx3 (w.heap.size) 1 (by (try simp) <;> omega); have c10_hx3 := hc_hx3 (w.heap.size + 1) 0 (by (try simp) <;> omega); have f10_hx3 := hf_hx3 (w.heap.size + 1) 0 (by (try simp) <;> omega); have c11_hx3 := hc_hx3 (w.heap.size + 1) 1 (by (try simp) <;> omega); have f11_hx3 := hf_hx3 (w.heap.size + 1) 1 (by (try simp) <;> omega); clear hc_hx3 hf_hx3; (try simp [*, go_sem] at c00_hx3); (try simp [*, go_sem] at f00_hx3); (try simp [*, go_sem] at c01_hx3); (try simp [*, go_sem] at f01_hx3); (try simp [*, go_sem] at c10_hx3); (try simp [*, go_sem] at f10_hx3); (try simp [*, go_sem] at c11_hx3); (try simp [*, go_sem] at f11_hx3)
  go_upto_region 8 with fail
  generalize hW : World.alloc _ _ = W
  have cA0 : W.cell? ⟨w.heap.size, 0, none⟩ = some (.int .u64 (Wd.hi a)) := by subst hW; (first | (go_simp; done) | (simp [*]; done))
  have cA1 : W.cell? ⟨w.heap.size, 1, none⟩ = some (.int .u64 (Wd.lo a)) := by subst hW; (first | (go_simp; done) | (simp [*]; done))
  have cR0 : W.cell? ⟨w.heap.size + 1, 0, none⟩ = some (.int .u64 0) := by subst hW; (first | (go_simp; done) | (simp [*]; done))
  have cR1 : W.cell? ⟨w.heap.size + 1, 1, none⟩ = some (.int .u64 0) := by subst hW; (first | (go_simp; done) | (simp [*]; done))
  have fR0 : W.frozen? ⟨w.heap.size + 1, 0, none⟩ = false := by subst hW; (first | (go_simp; done) | (simp [*]; done))
  have fR1 : W.frozen? ⟨w.heap.size + 1, 1, none⟩ = false := by subst hW; (first | (go_simp; done) | (simp [*]; done))
  have cQ0 : W.cell? ⟨w3.heap.size, 0, none⟩ = some (.int .u64 (Wd.hi (Wd.ab a / Wd.ab d + 1))) := by subst hW; (first | (go_simp; done) | (simp [*]; done))
  have cQ1 : W.cell? ⟨w3.heap.size, 1, none⟩ = some (.int .u64 (Wd.lo (Wd.ab a / Wd.ab d + 1))) := by subst hW; (first | (go_simp; done) | (simp [*]; done))
  have zQ : w3.heap.size < W.heap.size := by subst hW; simp
  have zA : w.heap.size < W.heap.size := by omega
  have zR : w.heap.size + 1 < W.heap.size := by omega
  have bW : Below w.heap.size w W := by subst hW; (repeat' (first | exact Below.refl _ _ | assumption | refine Below.drew ?_ | refine Below.alloc ?_ ?_ _ | refine Below.setCell ?_ ?_ _ | (apply below_via; assumption) | (simp; done) | omega | (simp; omega)))
  clear hW hx1 hx2 hx3
  generalize w3.heap.size = g7 at *
  go_region_with (first | (go_at_call 91; refine (below_w _ _ _).mono ?_; rintro e w4 ⟨rfl, hb4⟩; obtain ⟨hc_hb4, hf_hb4⟩ := bcell hb4; have hz_hb4 := Below.size hb4; (try simp at hz_hb4); have z0_hb4 : w.heap.size < w4.heap.size := (by omega); have z1_hb4 : w.heap.size + 1 < w4.heap.size := (by omega); have zg7_hb4 : g7 < w4.heap.size := (by omega); have c00_hb4 := hc_hb4 (w.heap.size) 0 (by (try simp) <;> omega); have f00_hb4 := hf_hb4 (w.heap.size) 0 (by (try simp) <;> omega); have c01_hb4 := hc_hb4 (w.heap.size) 1 (by (try simp) <;> omega); have f01_hb4 := hf_hb4 (w.heap.size) 1 (by (try simp) <;> omega); have c10_hb4 := hc_hb4 (w.heap.size + 1) 0 (by (try simp) <;> omega); have f10_hb4 := hf_hb4 (w.heap.size + 1) 0 (by (try simp) <;> omega); have c11_hb4 := hc_hb4 (w.heap.size + 1) 1 (by (try simp) <;> omega); have f11_hb4 := hf_hb4 (w.heap.size + 1) 1 (by (try simp) <;> omega); have cg70_hb4 := hc_hb4 (g7) 0 (by (try simp) <;> omega); have fg70_hb4 := hf_hb4 (g7) 0 (by (try simp) <;> omega); have cg71_hb4 := hc_hb4 (g7) 1 (by (try simp) <;> omega); have fg71_hb4 := hf_hb4 (g7) 1 (by (try simp) <;> omega); clear hc_hb4 hf_hb4; (try simp [*, go_sem] at c00_hb4); (try simp [*, go_sem] at f00_hb4); (try simp [*, go_sem] at c01_hb4); (try simp [*, go_sem] at f01_hb4); (try simp [*, go_sem] at c10_hb4); (try simp [*, go_sem] at f10_hb4); (try simp [*, go_sem] at c11_hb4); (try simp [*, go_sem] at f11_hb4); (try simp [*, go_sem] at cg70_hb4); (try simp [*, go_sem] at fg70_hb4); (try simp [*, go_sem] at cg71_hb4); (try simp [*, go_sem] at fg71_hb4)) | (go_at_call 87; refine (signed_w _ _ (by omega) (by omega) _).mono ?_; rintro e w5 ⟨rfl, hb5⟩; obtain ⟨hc_hb5, hf_hb5⟩ := bcell hb5; have hz_hb5 := Below.size hb5; (try simp at hz_hb5); have z1_hb5 : w.heap.size + 1 < w5.heap.size := (by omega); have c10_hb5 := hc_hb5 (w.heap.size + 1) 0 (by (try simp) <;> omega); have f10_hb5 := hf_hb5 (w.heap.size + 1) 0 (by (try simp) <;> omega); have c11_hb5 := hc_hb5 (w.heap.size + 1) 1 (by (try simp) <;> omega); have f11_hb5 := hf_hb5 (w.heap.size + 1) 1 (by (try simp) <;> omega); clear hc_hb5 hf_hb5; (try simp [*, go_sem] at c10_hb5); (try simp [*, go_sem] at f10_hb5); (try simp [*, go_sem] at c11_hb5); (try simp [*, go_sem] at f11_hb5); rw [HQ'.out]))
  all_goals
    go_wp2
    refine bodyPost_ret (v := .tuple #[Value.agg #[.int .u64 (Wd.hi (Wd.tr (Wd.dv a d))), .int .u64 (Wd.lo (Wd.tr (Wd.dv a d)))], .int .i64 (Wd.er (Wd.dv a d))]) (by simp [*, results, Try.results51, go_sem]) rfl ⟨rfl, ?_⟩
    have hb6 : Below w.heap.size w w5 := bW.trans ((below_two hb5 hb4).mono (by omega))
    clear hb4 hb5
    (repeat' (first | exact Below.refl _ _ | assumption | refine Below.drew ?_ | refine Below.alloc ?_ ?_ _ | refine Below.setCell ?_ ?_ _ | (apply below_via; assumption) | (simp; done) | omega | (simp; omega)))

set_option maxRecDepth 100000 in
set_option maxHeartbeats 4000000 in
theorem DivEven_odd (a d : Int) (hf : Wd.fit a) (hd : d ≠ 0) (hd0 : -9223372036854775808 ≤ d) (hd1 : d < 9223372036854775808) (h1 : decide (Wd.ab d < 2 * (Wd.ab a % Wd.ab d)) = false) (h2 : (2 * (Wd.ab a % Wd.ab d) == Wd.ab d) = true) (h3 : (Wd.lo (Wd.ab a / Wd.ab d) % 2 == 1) = true) (hE : Wd.ev (Wd.ab a) (Wd.ab d) = Wd.ab a / Wd.ab d + 1) (w : World) :
    Calls Try.prog 51 #[Value.agg #[.int .u64 (Wd.hi (a)), .int .u64 (Wd.lo (a))], .int .i64 d] w fun e w' => e = .returned (.tuple #[Value.agg #[.int .u64 (Wd.hi (Wd.tr (Wd.dv a d))), .int .u64 (Wd.lo (Wd.tr (Wd.dv a d)))], .int .i64 (Wd.er (Wd.dv a d))]) ∧ Below w.heap.size w w' := by
  have hdz : (d == 0) = false := by simp; omega
  have ba := Wd.ab_nonneg a
  have ba1 := Wd.ab_le a hf
  have bd := Wd.ab_bd d hd0 hd1
  have bd1 := Wd.ab_pos d hd
  have bq := Wd.quo_bd (Wd.ab a) (Wd.ab d) ba ba1 bd1
  have br := Wd.rest_bd (Wd.ab a) (Wd.ab d) bd1
  obtain ⟨lq0, lq1⟩ := Wd.lo_bd (Wd.ab a / Wd.ab d)
  have hb0 : 0 ≤ 2 * (Wd.ab a % Wd.ab d) := by omega
  have hb1 : 2 * (Wd.ab a % Wd.ab d) < 18446744073709551616 := by omega
  have HQ := Wd.dv_fit a d hf
  rw [hE] at HQ
  have HQ' := Lib.hid HQ
  clear HQ hE
  have up1 := fun w => add64_inc (Wd.ab a / Wd.ab d) w
  have up2 := Wd.inc_hi (Wd.ab a / Wd.ab d) bq.1 (by omega)
  obtain ⟨up3, up4⟩ := Wd.hi_bd (Wd.ab a / Wd.ab d + 1)
  go_enter Try.func51, Try.ntmps51
  go_wp2_with fail
  refine (wordOf_w d hd0 hd1 _).mono ?_
  rintro e w1 ⟨rfl, hx1⟩
  obtain ⟨hc_hx1, hf_hx1⟩ := bcell hx1; have hz_hx1 := Below.size hx1; (try simp at hz_hx1); have z0_hx1 : w.heap.size < w1.heap.size := (by omega); have z1_hx1 : w.heap.size + 1 < w1.heap.size := (by omega); have c00_hx1 := hc_hx1 (w.heap.size) 0 (by (try simp) <;> omega); have f00_hx1 := hf_hx1 (w.heap.size) 0 (by (try simp) <;> omega); have c01_hx1 := hc_hx1 (w.heap.size) 1 (by (try simp) <;> omega); have f01_hx1 := hf_hx1 (w.heap.size) 1 (by (try simp) <;> omega); have c10_hx1 := hc_hx1 (w.heap.size + 1) 0 (by (try simp) <;> omega); have f10_hx1 := hf_hx1 (w.heap.size + 1) 0 (by (try simp) <;> omega); have c11_hx1 := hc_hx1 (w.heap.size + 1) 1 (by (try simp) <;> omega); have f11_hx1 := hf_hx1 (w.heap.size + 1) 1 (by (try simp) <;> omega); clear hc_hx1 hf_hx1; (try simp [*, go_sem] at c00_hx1); (try simp [*, go_sem] at f00_hx1); (try simp [*, go_sem] at c01_hx1); (try simp [*, go_sem] at f01_hx1); (try simp [*, go_sem] at c10_hx1); (try simp [*, go_sem] at f10_hx1); (try simp [*, go_sem] at c11_hx1); (try simp [*, go_sem] at f11_hx1)
  go_wp2_with fail
  refine (size_w a hf _).mono ?_
  rintro e w2 ⟨rfl, hx2⟩
  obtain ⟨hc_hx2, hf_hx2⟩ := bcell hx2; have hz_hx2 := Below.size hx2; (try simp at hz_hx2); have z0_hx2 : w.heap.size < w2.heap.size := (by omega); have z1_hx2 : w.heap.size + 1 < w2.heap.size := (by omega); have c00_hx2 := hc_hx2 (w.heap.size) 0 (by (try simp) <;> omega); have f00_hx2 := hf_hx2 (w.heap.size) 0 (by (try simp) <;> omega); have c01_hx2 := hc_hx2 (w.heap.size) 1 (by (try simp) <;> omega); have f01_hx2 := hf_hx2 (w.heap.size) 1 (by (try simp) <;> omega); have c10_hx2 := hc_hx2 (w.heap.size + 1) 0 (by (try simp) <;> omega); have f10_hx2 := hf_hx2 (w.heap.size + 1) 0 (by (try simp) <;> omega); have c11_hx2 := hc_hx2 (w.heap.size + 1) 1 (by (try simp) <;> omega); have f11_hx2 := hf_hx2 (w.heap.size + 1) 1 (by (try simp) <;> omega); clear hc_hx2 hf_hx2; (try simp [*, go_sem] at c00_hx2); (try simp [*, go_sem] at f00_hx2); (try simp [*, go_sem] at c01_hx2); (try simp [*, go_sem] at f01_hx2); (try simp [*, go_sem] at c10_hx2); (try simp [*, go_sem] at f10_hx2); (try simp [*, go_sem] at c11_hx2); (try simp [*, go_sem] at f11_hx2)
  go_wp2_with fail
  refine (quo_w _ _ ba (by omega) bd1 (by omega) _).mono ?_
  rintro e w3 ⟨rfl, hx3⟩
  obtain ⟨hc_hx3, hf_hx3⟩ := bcell hx3; have hz_hx3 := Below.size hx3; (try simp at hz_hx3); have z0_hx3 : w.heap.size < w3.heap.size := (by omega); have z1_hx3 : w.heap.size + 1 < w3.heap.size := (by omega); have c00_hx3 := hc_hx3 (w.heap.size) 0 (by (try simp) <;> omega); have f00_hx3 := hf_hx3 (w.heap.size) 0 (by (try simp) <;> omega); have c01_hx3 := hc_hx3 (w.heap.size) 1 (by (try simp) <;> omega); have f01_hx3 := hf_hx3 (w.heap.size) 1 (by (try simp) <;> omega); have c10_hx3 := hc_hx3 (w.heap.size + 1) 0 (by (try simp) <;> omega); have f10_hx3 := hf_hx3 (w.heap.size + 1) 0 (by (try simp) <;> omega); have c11_hx3 := hc_hx3 (w.heap.size + 1) 1 (by (try simp) <;> omega); have f11_hx3 := hf_hx3 (w.heap.size + 1) 1 (by (try simp) <;> omega); clear hc_hx3 hf_hx3; (try simp [*, go_sem] at c00_hx3); (try simp [*, go_sem] at f00_hx3); (try simp [*, go_sem] at c01_hx3); (try simp [*, go_sem] at f01_hx3); (try simp [*, go_sem] at c10_hx3); (try simp [*, go_sem] at f10_hx3); (try simp [*, go_sem] at c11_hx3); (try simp [*, go_sem] at f11_hx3)
  go_upto_region 8 with fail
  generalize hW : World.alloc _ _ = W
  have cA0 : W.cell? ⟨w.heap.size, 0, none⟩ = some (.int .u64 (Wd.hi a)) := by subst hW; (first | (go_simp; done) | (simp [*]; done))
  have cA1 : W.cell? ⟨w.heap.size, 1, none⟩ = some (.int .u64 (Wd.lo a)) := by subst hW; (first | (go_simp; done) | (simp [*]; done))
  have cR0 : W.cell? ⟨w.heap.size + 1, 0, none⟩ = some (.int .u64 0) := by subst hW; (first | (go_simp; done) | (simp [*]; done))
  have cR1 : W.cell? ⟨w.heap.size + 1, 1, none⟩ = some (.int .u64 0) := by subst hW; (first | (go_simp; done) | (simp [*]; done))
  have fR0 : W.frozen? ⟨w.heap.size + 1, 0, none⟩ = false := by subst hW; (first | (go_simp; done) | (simp [*]; done))
  have fR1 : W.frozen? ⟨w.heap.size + 1, 1, none⟩ = false := by subst hW; (first | (go_simp; done) | (simp [*]; done))
  have cQ0 : W.cell? ⟨w3.heap.size, 0, none⟩ = some (.int .u64 (Wd.hi (Wd.ab a / Wd.ab d + 1))) := by subst hW; (first | (go_simp; done) | (simp [*]; done))
  have cQ1 : W.cell? ⟨w3.heap.size, 1, none⟩ = some (.int .u64 (Wd.lo (Wd.ab a / Wd.ab d + 1))) := by subst hW; (first | (go_simp; done) | (simp [*]; done))
  have zQ : w3.heap.size < W.heap.size := by subst hW; simp
  have zA : w.heap.size < W.heap.size := by omega
  have zR : w.heap.size + 1 < W.heap.size := by omega
  have bW : Below w.heap.size w W := by subst hW; (repeat' (first | exact Below.refl _ _ | assumption | refine Below.drew ?_ | refine Below.alloc ?_ ?_ _ | refine Below.setCell ?_ ?_ _ | (apply below_via; assumption) | (simp; done) | omega | (simp; omega)))
  clear hW hx1 hx2 hx3
  generalize w3.heap.size = g7 at *
  go_region_with (first | (go_at_call 91; refine (below_w _ _ _).mono ?_; rintro e w4 ⟨rfl, hb4⟩; obtain ⟨hc_hb4, hf_hb4⟩ := bcell hb4; have hz_hb4 := Below.size hb4; (try simp at hz_hb4); have z0_hb4 : w.heap.size < w4.heap.size := (by omega); have z1_hb4 : w.heap.size + 1 < w4.heap.size := (by omega); have zg7_hb4 : g7 < w4.heap.size := (by omega); have c00_hb4 := hc_hb4 (w.heap.size) 0 (by (try simp) <;> omega); have f00_hb4 := hf_hb4 (w.heap.size) 0 (by (try simp) <;> omega); have c01_hb4 := hc_hb4 (w.heap.size) 1 (by (try simp) <;> omega); have f01_hb4 := hf_hb4 (w.heap.size) 1 (by (try simp) <;> omega); have c10_hb4 := hc_hb4 (w.heap.size + 1) 0 (by (try simp) <;> omega); have f10_hb4 := hf_hb4 (w.heap.size + 1) 0 (by (try simp) <;> omega); have c11_hb4 := hc_hb4 (w.heap.size + 1) 1 (by (try simp) <;> omega); have f11_hb4 := hf_hb4 (w.heap.size + 1) 1 (by (try simp) <;> omega); have cg70_hb4 := hc_hb4 (g7) 0 (by (try simp) <;> omega); have fg70_hb4 := hf_hb4 (g7) 0 (by (try simp) <;> omega); have cg71_hb4 := hc_hb4 (g7) 1 (by (try simp) <;> omega); have fg71_hb4 := hf_hb4 (g7) 1 (by (try simp) <;> omega); clear hc_hb4 hf_hb4; (try simp [*, go_sem] at c00_hb4); (try simp [*, go_sem] at f00_hb4); (try simp [*, go_sem] at c01_hb4); (try simp [*, go_sem] at f01_hb4); (try simp [*, go_sem] at c10_hb4); (try simp [*, go_sem] at f10_hb4); (try simp [*, go_sem] at c11_hb4); (try simp [*, go_sem] at f11_hb4); (try simp [*, go_sem] at cg70_hb4); (try simp [*, go_sem] at fg70_hb4); (try simp [*, go_sem] at cg71_hb4); (try simp [*, go_sem] at fg71_hb4)) | (go_at_call 87; refine (signed_w _ _ (by omega) (by omega) _).mono ?_; rintro e w5 ⟨rfl, hb5⟩; obtain ⟨hc_hb5, hf_hb5⟩ := bcell hb5; have hz_hb5 := Below.size hb5; (try simp at hz_hb5); have z1_hb5 : w.heap.size + 1 < w5.heap.size := (by omega); have c10_hb5 := hc_hb5 (w.heap.size + 1) 0 (by (try simp) <;> omega); have f10_hb5 := hf_hb5 (w.heap.size + 1) 0 (by (try simp) <;> omega); have c11_hb5 := hc_hb5 (w.heap.size + 1) 1 (by (try simp) <;> omega); have f11_hb5 := hf_hb5 (w.heap.size + 1) 1 (by (try simp) <;> omega); clear hc_hb5 hf_hb5; (try simp [*, go_sem] at c10_hb5); (try simp [*, go_sem] at f10_hb5); (try simp [*, go_sem] at c11_hb5); (try simp [*, go_sem] at f11_hb5); rw [HQ'.out]))
  all_goals
    go_wp2
    refine bodyPost_ret (v := .tuple #[Value.agg #[.int .u64 (Wd.hi (Wd.tr (Wd.dv a d))), .int .u64 (Wd.lo (Wd.tr (Wd.dv a d)))], .int .i64 (Wd.er (Wd.dv a d))]) (by simp [*, results, Try.results51, go_sem]) rfl ⟨rfl, ?_⟩
    have hb6 : Below w.heap.size w w5 := bW.trans ((below_two hb5 hb4).mono (by omega))
    clear hb4 hb5
    (repeat' (first | exact Below.refl _ _ | assumption | refine Below.drew ?_ | refine Below.alloc ?_ ?_ _ | refine Below.setCell ?_ ?_ _ | (apply below_via; assumption) | (simp; done) | omega | (simp; omega)))

set_option maxRecDepth 100000 in
set_option maxHeartbeats 4000000 in
theorem DivEven_even (a d : Int) (hf : Wd.fit a) (hd : d ≠ 0) (hd0 : -9223372036854775808 ≤ d) (hd1 : d < 9223372036854775808) (h1 : decide (Wd.ab d < 2 * (Wd.ab a % Wd.ab d)) = false) (h2 : (2 * (Wd.ab a % Wd.ab d) == Wd.ab d) = true) (h3 : (Wd.lo (Wd.ab a / Wd.ab d) % 2 == 1) = false) (hE : Wd.ev (Wd.ab a) (Wd.ab d) = Wd.ab a / Wd.ab d) (w : World) :
    Calls Try.prog 51 #[Value.agg #[.int .u64 (Wd.hi (a)), .int .u64 (Wd.lo (a))], .int .i64 d] w fun e w' => e = .returned (.tuple #[Value.agg #[.int .u64 (Wd.hi (Wd.tr (Wd.dv a d))), .int .u64 (Wd.lo (Wd.tr (Wd.dv a d)))], .int .i64 (Wd.er (Wd.dv a d))]) ∧ Below w.heap.size w w' := by
  have hdz : (d == 0) = false := by simp; omega
  have ba := Wd.ab_nonneg a
  have ba1 := Wd.ab_le a hf
  have bd := Wd.ab_bd d hd0 hd1
  have bd1 := Wd.ab_pos d hd
  have bq := Wd.quo_bd (Wd.ab a) (Wd.ab d) ba ba1 bd1
  have br := Wd.rest_bd (Wd.ab a) (Wd.ab d) bd1
  obtain ⟨lq0, lq1⟩ := Wd.lo_bd (Wd.ab a / Wd.ab d)
  have hb0 : 0 ≤ 2 * (Wd.ab a % Wd.ab d) := by omega
  have hb1 : 2 * (Wd.ab a % Wd.ab d) < 18446744073709551616 := by omega
  have HQ := Wd.dv_fit a d hf
  rw [hE] at HQ
  have HQ' := Lib.hid HQ
  clear HQ hE
  go_enter Try.func51, Try.ntmps51
  go_wp2_with fail
  refine (wordOf_w d hd0 hd1 _).mono ?_
  rintro e w1 ⟨rfl, hx1⟩
  obtain ⟨hc_hx1, hf_hx1⟩ := bcell hx1; have hz_hx1 := Below.size hx1; (try simp at hz_hx1); have z0_hx1 : w.heap.size < w1.heap.size := (by omega); have z1_hx1 : w.heap.size + 1 < w1.heap.size := (by omega); have c00_hx1 := hc_hx1 (w.heap.size) 0 (by (try simp) <;> omega); have f00_hx1 := hf_hx1 (w.heap.size) 0 (by (try simp) <;> omega); have c01_hx1 := hc_hx1 (w.heap.size) 1 (by (try simp) <;> omega); have f01_hx1 := hf_hx1 (w.heap.size) 1 (by (try simp) <;> omega); have c10_hx1 := hc_hx1 (w.heap.size + 1) 0 (by (try simp) <;> omega); have f10_hx1 := hf_hx1 (w.heap.size + 1) 0 (by (try simp) <;> omega); have c11_hx1 := hc_hx1 (w.heap.size + 1) 1 (by (try simp) <;> omega); have f11_hx1 := hf_hx1 (w.heap.size + 1) 1 (by (try simp) <;> omega); clear hc_hx1 hf_hx1; (try simp [*, go_sem] at c00_hx1); (try simp [*, go_sem] at f00_hx1); (try simp [*, go_sem] at c01_hx1); (try simp [*, go_sem] at f01_hx1); (try simp [*, go_sem] at c10_hx1); (try simp [*, go_sem] at f10_hx1); (try simp [*, go_sem] at c11_hx1); (try simp [*, go_sem] at f11_hx1)
  go_wp2_with fail
  refine (size_w a hf _).mono ?_
  rintro e w2 ⟨rfl, hx2⟩
  obtain ⟨hc_hx2, hf_hx2⟩ := bcell hx2; have hz_hx2 := Below.size hx2; (try simp at hz_hx2); have z0_hx2 : w.heap.size < w2.heap.size := (by omega); have z1_hx2 : w.heap.size + 1 < w2.heap.size := (by omega); have c00_hx2 := hc_hx2 (w.heap.size) 0 (by (try simp) <;> omega); have f00_hx2 := hf_hx2 (w.heap.size) 0 (by (try simp) <;> omega); have c01_hx2 := hc_hx2 (w.heap.size) 1 (by (try simp) <;> omega); have f01_hx2 := hf_hx2 (w.heap.size) 1 (by (try simp) <;> omega); have c10_hx2 := hc_hx2 (w.heap.size + 1) 0 (by (try simp) <;> omega); have f10_hx2 := hf_hx2 (w.heap.size + 1) 0 (by (try simp) <;> omega); have c11_hx2 := hc_hx2 (w.heap.size + 1) 1 (by (try simp) <;> omega); have f11_hx2 := hf_hx2 (w.heap.size + 1) 1 (by (try simp) <;> omega); clear hc_hx2 hf_hx2; (try simp [*, go_sem] at c00_hx2); (try simp [*, go_sem] at f00_hx2); (try simp [*, go_sem] at c01_hx2); (try simp [*, go_sem] at f01_hx2); (try simp [*, go_sem] at c10_hx2); (try simp [*, go_sem] at f10_hx2); (try simp [*, go_sem] at c11_hx2); (try simp [*, go_sem] at f11_hx2)
  go_wp2_with fail
  refine (quo_w _ _ ba (by omega) bd1 (by omega) _).mono ?_
  rintro e w3 ⟨rfl, hx3⟩
  obtain ⟨hc_hx3, hf_hx3⟩ := bcell hx3; have hz_hx3 := Below.size hx3; (try simp at hz_hx3); have z0_hx3 : w.heap.size < w3.heap.size := (by omega); have z1_hx3 : w.heap.size + 1 < w3.heap.size := (by omega); have c00_hx3 := hc_hx3 (w.heap.size) 0 (by (try simp) <;> omega); have f00_hx3 := hf_hx3 (w.heap.size) 0 (by (try simp) <;> omega); have c01_hx3 := hc_hx3 (w.heap.size) 1 (by (try simp) <;> omega); have f01_hx3 := hf_hx3 (w.heap.size) 1 (by (try simp) <;> omega); have c10_hx3 := hc_hx3 (w.heap.size + 1) 0 (by (try simp) <;> omega); have f10_hx3 := hf_hx3 (w.heap.size + 1) 0 (by (try simp) <;> omega); have c11_hx3 := hc_hx3 (w.heap.size + 1) 1 (by (try simp) <;> omega); have f11_hx3 := hf_hx3 (w.heap.size + 1) 1 (by (try simp) <;> omega); clear hc_hx3 hf_hx3; (try simp [*, go_sem] at c00_hx3); (try simp [*, go_sem] at f00_hx3); (try simp [*, go_sem] at c01_hx3); (try simp [*, go_sem] at f01_hx3); (try simp [*, go_sem] at c10_hx3); (try simp [*, go_sem] at f10_hx3); (try simp [*, go_sem] at c11_hx3); (try simp [*, go_sem] at f11_hx3)
  go_upto_region 8 with fail
  generalize hW : World.alloc _ _ = W
  have cA0 : W.cell? ⟨w.heap.size, 0, none⟩ = some (.int .u64 (Wd.hi a)) := by subst hW; (first | (go_simp; done) | (simp [*]; done))
  have cA1 : W.cell? ⟨w.heap.size, 1, none⟩ = some (.int .u64 (Wd.lo a)) := by subst hW; (first | (go_simp; done) | (simp [*]; done))
  have cR0 : W.cell? ⟨w.heap.size + 1, 0, none⟩ = some (.int .u64 0) := by subst hW; (first | (go_simp; done) | (simp [*]; done))
  have cR1 : W.cell? ⟨w.heap.size + 1, 1, none⟩ = some (.int .u64 0) := by subst hW; (first | (go_simp; done) | (simp [*]; done))
  have fR0 : W.frozen? ⟨w.heap.size + 1, 0, none⟩ = false := by subst hW; (first | (go_simp; done) | (simp [*]; done))
  have fR1 : W.frozen? ⟨w.heap.size + 1, 1, none⟩ = false := by subst hW; (first | (go_simp; done) | (simp [*]; done))
  have cQ0 : W.cell? ⟨w3.heap.size, 0, none⟩ = some (.int .u64 (Wd.hi (Wd.ab a / Wd.ab d))) := by subst hW; (first | (go_simp; done) | (simp [*]; done))
  have cQ1 : W.cell? ⟨w3.heap.size, 1, none⟩ = some (.int .u64 (Wd.lo (Wd.ab a / Wd.ab d))) := by subst hW; (first | (go_simp; done) | (simp [*]; done))
  have zQ : w3.heap.size < W.heap.size := by subst hW; simp
  have zA : w.heap.size < W.heap.size := by omega
  have zR : w.heap.size + 1 < W.heap.size := by omega
  have bW : Below w.heap.size w W := by subst hW; (repeat' (first | exact Below.refl _ _ | assumption | refine Below.drew ?_ | refine Below.alloc ?_ ?_ _ | refine Below.setCell ?_ ?_ _ | (apply below_via; assumption) | (simp; done) | omega | (simp; omega)))
  clear hW hx1 hx2 hx3
  generalize w3.heap.size = g7 at *
  go_region_with (first | (go_at_call 91; refine (below_w _ _ _).mono ?_; rintro e w4 ⟨rfl, hb4⟩; obtain ⟨hc_hb4, hf_hb4⟩ := bcell hb4; have hz_hb4 := Below.size hb4; (try simp at hz_hb4); have z0_hb4 : w.heap.size < w4.heap.size := (by omega); have z1_hb4 : w.heap.size + 1 < w4.heap.size := (by omega); have zg7_hb4 : g7 < w4.heap.size := (by omega); have c00_hb4 := hc_hb4 (w.heap.size) 0 (by (try simp) <;> omega); have f00_hb4 := hf_hb4 (w.heap.size) 0 (by (try simp) <;> omega); have c01_hb4 := hc_hb4 (w.heap.size) 1 (by (try simp) <;> omega); have f01_hb4 := hf_hb4 (w.heap.size) 1 (by (try simp) <;> omega); have c10_hb4 := hc_hb4 (w.heap.size + 1) 0 (by (try simp) <;> omega); have f10_hb4 := hf_hb4 (w.heap.size + 1) 0 (by (try simp) <;> omega); have c11_hb4 := hc_hb4 (w.heap.size + 1) 1 (by (try simp) <;> omega); have f11_hb4 := hf_hb4 (w.heap.size + 1) 1 (by (try simp) <;> omega); have cg70_hb4 := hc_hb4 (g7) 0 (by (try simp) <;> omega); have fg70_hb4 := hf_hb4 (g7) 0 (by (try simp) <;> omega); have cg71_hb4 := hc_hb4 (g7) 1 (by (try simp) <;> omega); have fg71_hb4 := hf_hb4 (g7) 1 (by (try simp) <;> omega); clear hc_hb4 hf_hb4; (try simp [*, go_sem] at c00_hb4); (try simp [*, go_sem] at f00_hb4); (try simp [*, go_sem] at c01_hb4); (try simp [*, go_sem] at f01_hb4); (try simp [*, go_sem] at c10_hb4); (try simp [*, go_sem] at f10_hb4); (try simp [*, go_sem] at c11_hb4); (try simp [*, go_sem] at f11_hb4); (try simp [*, go_sem] at cg70_hb4); (try simp [*, go_sem] at fg70_hb4); (try simp [*, go_sem] at cg71_hb4); (try simp [*, go_sem] at fg71_hb4)) | (go_at_call 87; refine (signed_w _ _ (by omega) (by omega) _).mono ?_; rintro e w5 ⟨rfl, hb5⟩; obtain ⟨hc_hb5, hf_hb5⟩ := bcell hb5; have hz_hb5 := Below.size hb5; (try simp at hz_hb5); have z1_hb5 : w.heap.size + 1 < w5.heap.size := (by omega); have c10_hb5 := hc_hb5 (w.heap.size + 1) 0 (by (try simp) <;> omega); have f10_hb5 := hf_hb5 (w.heap.size + 1) 0 (by (try simp) <;> omega); have c11_hb5 := hc_hb5 (w.heap.size + 1) 1 (by (try simp) <;> omega); have f11_hb5 := hf_hb5 (w.heap.size + 1) 1 (by (try simp) <;> omega); clear hc_hb5 hf_hb5; (try simp [*, go_sem] at c10_hb5); (try simp [*, go_sem] at f10_hb5); (try simp [*, go_sem] at c11_hb5); (try simp [*, go_sem] at f11_hb5); rw [HQ'.out]))
  all_goals
    go_wp2
    refine bodyPost_ret (v := .tuple #[Value.agg #[.int .u64 (Wd.hi (Wd.tr (Wd.dv a d))), .int .u64 (Wd.lo (Wd.tr (Wd.dv a d)))], .int .i64 (Wd.er (Wd.dv a d))]) (by simp [*, results, Try.results51, go_sem]) rfl ⟨rfl, ?_⟩
    have hb6 : Below w.heap.size w w5 := bW.trans ((below_two hb5 hb4).mono (by omega))
    clear hb4 hb5
    (repeat' (first | exact Below.refl _ _ | assumption | refine Below.drew ?_ | refine Below.alloc ?_ ?_ _ | refine Below.setCell ?_ ?_ _ | (apply below_via; assumption) | (simp; done) | omega | (simp; omega)))

set_option maxRecDepth 100000 in
set_option maxHeartbeats 4000000 in
theorem DivEven_less (a d : Int) (hf : Wd.fit a) (hd : d ≠ 0) (hd0 : -9223372036854775808 ≤ d) (hd1 : d < 9223372036854775808) (h1 : decide (Wd.ab d < 2 * (Wd.ab a % Wd.ab d)) = false) (h2 : (2 * (Wd.ab a % Wd.ab d) == Wd.ab d) = false) (hE : Wd.ev (Wd.ab a) (Wd.ab d) = Wd.ab a / Wd.ab d) (w : World) :
    Calls Try.prog 51 #[Value.agg #[.int .u64 (Wd.hi (a)), .int .u64 (Wd.lo (a))], .int .i64 d] w fun e w' => e = .returned (.tuple #[Value.agg #[.int .u64 (Wd.hi (Wd.tr (Wd.dv a d))), .int .u64 (Wd.lo (Wd.tr (Wd.dv a d)))], .int .i64 (Wd.er (Wd.dv a d))]) ∧ Below w.heap.size w w' := by
  have hdz : (d == 0) = false := by simp; omega
  have ba := Wd.ab_nonneg a
  have ba1 := Wd.ab_le a hf
  have bd := Wd.ab_bd d hd0 hd1
  have bd1 := Wd.ab_pos d hd
  have bq := Wd.quo_bd (Wd.ab a) (Wd.ab d) ba ba1 bd1
  have br := Wd.rest_bd (Wd.ab a) (Wd.ab d) bd1
  obtain ⟨lq0, lq1⟩ := Wd.lo_bd (Wd.ab a / Wd.ab d)
  have hb0 : 0 ≤ 2 * (Wd.ab a % Wd.ab d) := by omega
  have hb1 : 2 * (Wd.ab a % Wd.ab d) < 18446744073709551616 := by omega
  have HQ := Wd.dv_fit a d hf
  rw [hE] at HQ
  have HQ' := Lib.hid HQ
  clear HQ hE
  go_enter Try.func51, Try.ntmps51
  go_wp2_with fail
  refine (wordOf_w d hd0 hd1 _).mono ?_
  rintro e w1 ⟨rfl, hx1⟩
  obtain ⟨hc_hx1, hf_hx1⟩ := bcell hx1; have hz_hx1 := Below.size hx1; (try simp at hz_hx1); have z0_hx1 : w.heap.size < w1.heap.size := (by omega); have z1_hx1 : w.heap.size + 1 < w1.heap.size := (by omega); have c00_hx1 := hc_hx1 (w.heap.size) 0 (by (try simp) <;> omega); have f00_hx1 := hf_hx1 (w.heap.size) 0 (by (try simp) <;> omega); have c01_hx1 := hc_hx1 (w.heap.size) 1 (by (try simp) <;> omega); have f01_hx1 := hf_hx1 (w.heap.size) 1 (by (try simp) <;> omega); have c10_hx1 := hc_hx1 (w.heap.size + 1) 0 (by (try simp) <;> omega); have f10_hx1 := hf_hx1 (w.heap.size + 1) 0 (by (try simp) <;> omega); have c11_hx1 := hc_hx1 (w.heap.size + 1) 1 (by (try simp) <;> omega); have f11_hx1 := hf_hx1 (w.heap.size + 1) 1 (by (try simp) <;> omega); clear hc_hx1 hf_hx1; (try simp [*, go_sem] at c00_hx1); (try simp [*, go_sem] at f00_hx1); (try simp [*, go_sem] at c01_hx1); (try simp [*, go_sem] at f01_hx1); (try simp [*, go_sem] at c10_hx1); (try simp [*, go_sem] at f10_hx1); (try simp [*, go_sem] at c11_hx1); (try simp [*, go_sem] at f11_hx1)
  go_wp2_with fail
  refine (size_w a hf _).mono ?_
  rintro e w2 ⟨rfl, hx2⟩
  obtain ⟨hc_hx2, hf_hx2⟩ := bcell hx2; have hz_hx2 := Below.size hx2; (try simp at hz_hx2); have z0_hx2 : w.heap.size < w2.heap.size := (by omega); have z1_hx2 : w.heap.size + 1 < w2.heap.size := (by omega); have c00_hx2 := hc_hx2 (w.heap.size) 0 (by (try simp) <;> omega); have f00_hx2 := hf_hx2 (w.heap.size) 0 (by (try simp) <;> omega); have c01_hx2 := hc_hx2 (w.heap.size) 1 (by (try simp) <;> omega); have f01_hx2 := hf_hx2 (w.heap.size) 1 (by (try simp) <;> omega); have c10_hx2 := hc_hx2 (w.heap.size + 1) 0 (by (try simp) <;> omega); have f10_hx2 := hf_hx2 (w.heap.size + 1) 0 (by (try simp) <;> omega); have c11_hx2 := hc_hx2 (w.heap.size + 1) 1 (by (try simp) <;> omega); have f11_hx2 := hf_hx2 (w.heap.size + 1) 1 (by (try simp) <;> omega); clear hc_hx2 hf_hx2; (try simp [*, go_sem] at c00_hx2); (try simp [*, go_sem] at f00_hx2); (try simp [*, go_sem] at c01_hx2); (try simp [*, go_sem] at f01_hx2); (try simp [*, go_sem] at c10_hx2); (try simp [*, go_sem] at f10_hx2); (try simp [*, go_sem] at c11_hx2); (try simp [*, go_sem] at f11_hx2)
  go_wp2_with fail
  refine (quo_w _ _ ba (by omega) bd1 (by omega) _).mono ?_
  rintro e w3 ⟨rfl, hx3⟩
  obtain ⟨hc_hx3, hf_hx3⟩ := bcell hx3; have hz_hx3 := Below.size hx3; (try simp at hz_hx3); have z0_hx3 : w.heap.size < w3.heap.size := (by omega); have z1_hx3 : w.heap.size + 1 < w3.heap.size := (by omega); have c00_hx3 := hc_hx3 (w.heap.size) 0 (by (try simp) <;> omega); have f00_hx3 := hf_hx3 (w.heap.size) 0 (by (try simp) <;> omega); have c01_hx3 := hc_hx3 (w.heap.size) 1 (by (try simp) <;> omega); have f01_hx3 := hf_hx3 (w.heap.size) 1 (by (try simp) <;> omega); have c10_hx3 := hc_hx3 (w.heap.size + 1) 0 (by (try simp) <;> omega); have f10_hx3 := hf_hx3 (w.heap.size + 1) 0 (by (try simp) <;> omega); have c11_hx3 := hc_hx3 (w.heap.size + 1) 1 (by (try simp) <;> omega); have f11_hx3 := hf_hx3 (w.heap.size + 1) 1 (by (try simp) <;> omega); clear hc_hx3 hf_hx3; (try simp [*, go_sem] at c00_hx3); (try simp [*, go_sem] at f00_hx3); (try simp [*, go_sem] at c01_hx3); (try simp [*, go_sem] at f01_hx3); (try simp [*, go_sem] at c10_hx3); (try simp [*, go_sem] at f10_hx3); (try simp [*, go_sem] at c11_hx3); (try simp [*, go_sem] at f11_hx3)
  go_upto_region 8 with fail
  generalize hW : World.alloc _ _ = W
  have cA0 : W.cell? ⟨w.heap.size, 0, none⟩ = some (.int .u64 (Wd.hi a)) := by subst hW; (first | (go_simp; done) | (simp [*]; done))
  have cA1 : W.cell? ⟨w.heap.size, 1, none⟩ = some (.int .u64 (Wd.lo a)) := by subst hW; (first | (go_simp; done) | (simp [*]; done))
  have cR0 : W.cell? ⟨w.heap.size + 1, 0, none⟩ = some (.int .u64 0) := by subst hW; (first | (go_simp; done) | (simp [*]; done))
  have cR1 : W.cell? ⟨w.heap.size + 1, 1, none⟩ = some (.int .u64 0) := by subst hW; (first | (go_simp; done) | (simp [*]; done))
  have fR0 : W.frozen? ⟨w.heap.size + 1, 0, none⟩ = false := by subst hW; (first | (go_simp; done) | (simp [*]; done))
  have fR1 : W.frozen? ⟨w.heap.size + 1, 1, none⟩ = false := by subst hW; (first | (go_simp; done) | (simp [*]; done))
  have cQ0 : W.cell? ⟨w3.heap.size, 0, none⟩ = some (.int .u64 (Wd.hi (Wd.ab a / Wd.ab d))) := by subst hW; (first | (go_simp; done) | (simp [*]; done))
  have cQ1 : W.cell? ⟨w3.heap.size, 1, none⟩ = some (.int .u64 (Wd.lo (Wd.ab a / Wd.ab d))) := by subst hW; (first | (go_simp; done) | (simp [*]; done))
  have zQ : w3.heap.size < W.heap.size := by subst hW; simp
  have zA : w.heap.size < W.heap.size := by omega
  have zR : w.heap.size + 1 < W.heap.size := by omega
  have bW : Below w.heap.size w W := by subst hW; (repeat' (first | exact Below.refl _ _ | assumption | refine Below.drew ?_ | refine Below.alloc ?_ ?_ _ | refine Below.setCell ?_ ?_ _ | (apply below_via; assumption) | (simp; done) | omega | (simp; omega)))
  clear hW hx1 hx2 hx3
  generalize w3.heap.size = g7 at *
  go_region_with (first | (go_at_call 91; refine (below_w _ _ _).mono ?_; rintro e w4 ⟨rfl, hb4⟩; obtain ⟨hc_hb4, hf_hb4⟩ := bcell hb4; have hz_hb4 := Below.size hb4; (try simp at hz_hb4); have z0_hb4 : w.heap.size < w4.heap.size := (by omega); have z1_hb4 : w.heap.size + 1 < w4.heap.size := (by omega); have zg7_hb4 : g7 < w4.heap.size := (by omega); have c00_hb4 := hc_hb4 (w.heap.size) 0 (by (try simp) <;> omega); have f00_hb4 := hf_hb4 (w.heap.size) 0 (by (try simp) <;> omega); have c01_hb4 := hc_hb4 (w.heap.size) 1 (by (try simp) <;> omega); have f01_hb4 := hf_hb4 (w.heap.size) 1 (by (try simp) <;> omega); have c10_hb4 := hc_hb4 (w.heap.size + 1) 0 (by (try simp) <;> omega); have f10_hb4 := hf_hb4 (w.heap.size + 1) 0 (by (try simp) <;> omega); have c11_hb4 := hc_hb4 (w.heap.size + 1) 1 (by (try simp) <;> omega); have f11_hb4 := hf_hb4 (w.heap.size + 1) 1 (by (try simp) <;> omega); have cg70_hb4 := hc_hb4 (g7) 0 (by (try simp) <;> omega); have fg70_hb4 := hf_hb4 (g7) 0 (by (try simp) <;> omega); have cg71_hb4 := hc_hb4 (g7) 1 (by (try simp) <;> omega); have fg71_hb4 := hf_hb4 (g7) 1 (by (try simp) <;> omega); clear hc_hb4 hf_hb4; (try simp [*, go_sem] at c00_hb4); (try simp [*, go_sem] at f00_hb4); (try simp [*, go_sem] at c01_hb4); (try simp [*, go_sem] at f01_hb4); (try simp [*, go_sem] at c10_hb4); (try simp [*, go_sem] at f10_hb4); (try simp [*, go_sem] at c11_hb4); (try simp [*, go_sem] at f11_hb4); (try simp [*, go_sem] at cg70_hb4); (try simp [*, go_sem] at fg70_hb4); (try simp [*, go_sem] at cg71_hb4); (try simp [*, go_sem] at fg71_hb4)) | (go_at_call 87; refine (signed_w _ _ (by omega) (by omega) _).mono ?_; rintro e w5 ⟨rfl, hb5⟩; obtain ⟨hc_hb5, hf_hb5⟩ := bcell hb5; have hz_hb5 := Below.size hb5; (try simp at hz_hb5); have z1_hb5 : w.heap.size + 1 < w5.heap.size := (by omega); have c10_hb5 := hc_hb5 (w.heap.size + 1) 0 (by (try simp) <;> omega); have f10_hb5 := hf_hb5 (w.heap.size + 1) 0 (by (try simp) <;> omega); have c11_hb5 := hc_hb5 (w.heap.size + 1) 1 (by (try simp) <;> omega); have f11_hb5 := hf_hb5 (w.heap.size + 1) 1 (by (try simp) <;> omega); clear hc_hb5 hf_hb5; (try simp [*, go_sem] at c10_hb5); (try simp [*, go_sem] at f10_hb5); (try simp [*, go_sem] at c11_hb5); (try simp [*, go_sem] at f11_hb5); rw [HQ'.out]))
  all_goals
    go_wp2
    refine bodyPost_ret (v := .tuple #[Value.agg #[.int .u64 (Wd.hi (Wd.tr (Wd.dv a d))), .int .u64 (Wd.lo (Wd.tr (Wd.dv a d)))], .int .i64 (Wd.er (Wd.dv a d))]) (by simp [*, results, Try.results51, go_sem]) rfl ⟨rfl, ?_⟩
    have hb6 : Below w.heap.size w w5 := bW.trans ((below_two hb5 hb4).mono (by omega))
    clear hb4 hb5
    (repeat' (first | exact Below.refl _ _ | assumption | refine Below.drew ?_ | refine Below.alloc ?_ ?_ _ | refine Below.setCell ?_ ?_ _ | (apply below_via; assumption) | (simp; done) | omega | (simp; omega)))

/-- the nearest whole number, halves to the even. -/
theorem DivEven_w (a d : Int) (hf : Wd.fit a) (hd : d ≠ 0) (hd0 : -9223372036854775808 ≤ d) (hd1 : d < 9223372036854775808) (w : World) :
    Calls Try.prog 51 #[Value.agg #[.int .u64 (Wd.hi (a)), .int .u64 (Wd.lo (a))], .int .i64 d] w fun e w' => e = .returned (.tuple #[Value.agg #[.int .u64 (Wd.hi (Wd.tr (Wd.dv a d))), .int .u64 (Wd.lo (Wd.tr (Wd.dv a d)))], .int .i64 (Wd.er (Wd.dv a d))]) ∧ Below w.heap.size w w' := by
  by_cases h1 : Wd.ab d < 2 * (Wd.ab a % Wd.ab d)
  · exact DivEven_more a d hf hd hd0 hd1 (by simpa using h1) (if_pos (Or.inl h1)) w
  · by_cases h2 : 2 * (Wd.ab a % Wd.ab d) = Wd.ab d
    · by_cases h3 : Wd.ab a / Wd.ab d % 2 = 1
      · exact DivEven_odd a d hf hd hd0 hd1 (by simpa using h1) (by simpa using h2) (by rw [Wd.lo_odd]; simpa using h3) (if_pos (Or.inr ⟨h2, h3⟩)) w
      · exact DivEven_even a d hf hd hd0 hd1 (by simpa using h1) (by simpa using h2) (by rw [Wd.lo_odd]; simpa using h3) (if_neg (fun h => h.elim h1 (fun h => h3 h.2))) w
    · exact DivEven_less a d hf hd hd0 hd1 (by simpa using h1) (by simpa using h2) (if_neg (fun h => h.elim h1 (fun h => h2 h.1))) w

end Go.Proofs.Ytheofhegdjjfgaa
