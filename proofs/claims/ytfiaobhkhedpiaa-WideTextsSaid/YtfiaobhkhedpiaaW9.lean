/- Walks of package wide: quotients. -/
import Derived.Test.YtfiaobhkhedpiaaW8
import Derived.Test.YtfiaobhkhedpiaaWdQ
namespace Go.Proofs.Ytfiaobhkhedpiaa
open Go.RowKit

set_option maxHeartbeats 1000000 in
theorem Div64_zero (l y : Int) (hy : 0 < y) (hl : 0 ≤ l) (hl1 : l < 18446744073709551616) (hy1 : y < 18446744073709551616) (w : World) :
    Calls Try.prog 111 #[.int .u64 0, .int .u64 l, .int .u64 y] w fun e w' => e = .returned (.tuple #[.int .u64 (l / y), .int .u64 (l % y)]) ∧ Below w.heap.size w w' := by
  have hy0 : (y == 0) = false := by simp; omega
  have hyx : decide (y ≤ 0) = false := by simp; omega
  have b1 : 0 ≤ l / y := Int.ediv_nonneg hl (by omega)
  have b2 : l / y ≤ l := Int.ediv_le_self _ hl
  go_enter Try.func111, Try.ntmps111
  go_wp2
  go_quiet (fail)
  go_wp2
  go_ret2
  refine ⟨rfl, ?_⟩
  rw [Below_drewN]
  (repeat' (first | exact Below.refl _ _ | assumption | refine Below.drew ?_ | refine Below.alloc ?_ ?_ _ | refine Below.setCell ?_ ?_ _ | (apply below_via; assumption) | (simp; done) | omega | (simp; omega)))

theorem Div64_w (x l y : Int) (hx : 0 ≤ x) (hxy : x < y) (hl : 0 ≤ l) (hl1 : l < 18446744073709551616) (hy1 : y < 18446744073709551616) (w : World) :
    Calls Try.prog 111 #[.int .u64 x, .int .u64 l, .int .u64 y] w fun e w' => e = .returned (.tuple #[.int .u64 ((x * 18446744073709551616 + l) / y), .int .u64 ((x * 18446744073709551616 + l) % y)]) ∧ Below w.heap.size w w' := by
  by_cases h : x = 0
  · subst h
    rw [Int.zero_mul, Int.zero_add]
    exact Div64_zero l y hxy hl hl1 hy1 w
  · refine (Div64_pos x l y (by omega) hxy hl hl1 hy1 w).mono ?_
    rintro e w' ⟨rfl, rfl⟩
    exact ⟨rfl, Below.refl _ _⟩

set_option maxHeartbeats 1000000 in
theorem quo_w (S u : Int) (h0 : 0 ≤ S) (h1 : S < 340282366920938463463374607431768211456) (hu : 0 < u) (hu1 : u < 18446744073709551616) (w : World) :
    Calls Try.prog 84 #[Value.agg #[.int .u64 (Wd.hi (S)), .int .u64 (Wd.lo (S))], .int .u64 u] w fun e w' => e = .returned (.tuple #[Value.agg #[.int .u64 (Wd.hi (S / u)), .int .u64 (Wd.lo (S / u))], .int .u64 (S % u)]) ∧ Below w.heap.size w w' := by
  obtain ⟨q1, q2, q3⟩ := Wd.quo_words S u h0 h1 hu hu1
  have Q2 := Lib.hid q2
  have Q3 := Lib.hid q3
  clear q2 q3
  have bh := Wd.hi_bd S
  have bl := Wd.lo_bd S
  have m0 := Int.emod_nonneg (Wd.hi S) (show u ≠ 0 by omega)
  have m1 := Int.emod_lt_of_pos (Wd.hi S) hu
  have hu0 : (u == 0) = false := by simp; omega
  have b1 : 0 ≤ Wd.hi S / u := Int.ediv_nonneg bh.1 (by omega)
  have b2 : Wd.hi S / u ≤ Wd.hi S := Int.ediv_le_self _ bh.1
  go_enter Try.func84, Try.ntmps84
  go_wp2
  go_quiet (fail)
  go_wp2_with fail
  refine (Div64_w _ _ _ m0 m1 bl.1 bl.2 hu1 _).mono ?_
  rintro e w1 ⟨rfl, hb⟩
  obtain ⟨hc_hb, hf_hb⟩ := bcell hb; have hz_hb := Below.size hb; (try simp at hz_hb); have z1_hb : w.heap.size + 1 < w1.heap.size := (by omega); have c10_hb := hc_hb (w.heap.size + 1) 0 (by (try simp) <;> omega); have f10_hb := hf_hb (w.heap.size + 1) 0 (by (try simp) <;> omega); have c11_hb := hc_hb (w.heap.size + 1) 1 (by (try simp) <;> omega); have f11_hb := hf_hb (w.heap.size + 1) 1 (by (try simp) <;> omega); clear hc_hb hf_hb; (try simp [*, go_sem] at c10_hb); (try simp [*, go_sem] at f10_hb); (try simp [*, go_sem] at c11_hb); (try simp [*, go_sem] at f11_hb)
  rw [Q2.out, Q3.out]
  go_wp2
  refine bodyPost_ret (v := .tuple #[Value.agg #[.int .u64 (Wd.hi (S / u)), .int .u64 (Wd.lo (S / u))], .int .u64 (S % u)]) (by simp [*, results, Try.results84, go_sem]) rfl ⟨rfl, ?_⟩
  have hb' : Below w.heap.size w w1 := by
    refine Below.trans ?_ (hb.mono (by simp; omega))
    rw [Below_drewN]
    (repeat' (first | exact Below.refl _ _ | assumption | refine Below.drew ?_ | refine Below.alloc ?_ ?_ _ | refine Below.setCell ?_ ?_ _ | (apply below_via; assumption) | (simp; done) | omega | (simp; omega)))
  clear hb
  (repeat' (first | exact Below.refl _ _ | assumption | refine Below.drew ?_ | refine Below.alloc ?_ ?_ _ | refine Below.setCell ?_ ?_ _ | (apply below_via; assumption) | (simp; done) | omega | (simp; omega)))

theorem signed_small (r : Int) (neg : Bool) (h0 : 0 ≤ r) (h1 : r < 9223372036854775808) (w : World) :
    Calls Try.prog 90 #[.agg #[.int .u64 0, .int .u64 r], .bool neg] w fun e w' => e = .returned (.tuple #[Value.agg #[.int .u64 (Wd.hi (Wd.sv neg r)), .int .u64 (Wd.lo (Wd.sv neg r))], .int .i64 0]) ∧ Below w.heap.size w w' := by
  have e1 : Wd.hi r = 0 := by unfold Wd.hi; omega
  have e2 : Wd.lo r = r := by unfold Wd.lo; omega
  have hf : Wd.fit (Wd.sv neg r) := by unfold Wd.sv Wd.fit; split <;> omega
  have h := signed_w r neg h0 (by omega) w
  rw [e1, e2, Wd.tr_of hf, Wd.er_of hf] at h
  exact h

set_option maxHeartbeats 1000000 in
theorem QuoRem_zero (a : Int) (w : World) :
    Calls Try.prog 36 #[Value.agg #[.int .u64 (Wd.hi (a)), .int .u64 (Wd.lo (a))], .int .i64 0] w fun e w' => e = .returned (.tuple #[Value.agg #[.int .u64 (Wd.hi (0)), .int .u64 (Wd.lo (0))], .int .i64 0, .int .i64 17]) ∧ Below w.heap.size w w' := by
  go_enter Try.func36, Try.ntmps36
  go_wp2
  exact bodyPost_ret (v := .tuple #[Value.agg #[.int .u64 (Wd.hi (0)), .int .u64 (Wd.lo (0))], .int .i64 0, .int .i64 17]) (by simp [*, results, Try.results36, go_sem, Wd.hi_zero, Wd.lo_zero]) rfl ⟨rfl, by (repeat' (first | exact Below.refl _ _ | assumption | refine Below.drew ?_ | refine Below.alloc ?_ ?_ _ | refine Below.setCell ?_ ?_ _ | (apply below_via; assumption) | (simp; done) | omega | (simp; omega)))⟩

set_option maxHeartbeats 1000000 in
theorem DivEven_zero (a : Int) (w : World) :
    Calls Try.prog 37 #[Value.agg #[.int .u64 (Wd.hi (a)), .int .u64 (Wd.lo (a))], .int .i64 0] w fun e w' => e = .returned (.tuple #[Value.agg #[.int .u64 (Wd.hi (0)), .int .u64 (Wd.lo (0))], .int .i64 17]) ∧ Below w.heap.size w w' := by
  go_enter Try.func37, Try.ntmps37
  go_wp2
  exact bodyPost_ret (v := .tuple #[Value.agg #[.int .u64 (Wd.hi (0)), .int .u64 (Wd.lo (0))], .int .i64 17]) (by simp [*, results, Try.results37, go_sem, Wd.hi_zero, Wd.lo_zero]) rfl ⟨rfl, by (repeat' (first | exact Below.refl _ _ | assumption | refine Below.drew ?_ | refine Below.alloc ?_ ?_ _ | refine Below.setCell ?_ ?_ _ | (apply below_via; assumption) | (simp; done) | omega | (simp; omega)))⟩

set_option maxHeartbeats 1000000 in
theorem QuoRem_ok (a d : Int) (hf : Wd.fit a) (hd : d ≠ 0) (hd0 : -9223372036854775808 ≤ d) (hd1 : d < 9223372036854775808) (hq : Wd.fit (a.tdiv d)) (w : World) :
    Calls Try.prog 36 #[Value.agg #[.int .u64 (Wd.hi (a)), .int .u64 (Wd.lo (a))], .int .i64 d] w fun e w' => e = .returned (.tuple #[Value.agg #[.int .u64 (Wd.hi (a.tdiv d)), .int .u64 (Wd.lo (a.tdiv d))], .int .i64 (a.tmod d), .int .i64 0]) ∧ Below w.heap.size w w' := by
  have hdz : (d == 0) = false := by simp; omega
  have ba := Wd.ab_nonneg a
  have ba1 := Wd.ab_le a hf
  have bd := Wd.ab_bd d hd0 hd1
  have bd1 := Wd.ab_pos d hd
  have bq := Wd.quo_bd (Wd.ab a) (Wd.ab d) ba ba1 bd1
  have br := Wd.rest_bd (Wd.ab a) (Wd.ab d) bd1
  have HQ := Lib.hid (Wd.tq_fit a d hf)
  have HR := Lib.hid (Wd.tm_fit a hf d)
  have HF := Lib.hid hq
  clear hq
  go_enter Try.func36, Try.ntmps36
  go_wp2_with fail
  refine (size_w a hf _).mono ?_
  rintro e w1 ⟨rfl, hb1⟩
  obtain ⟨hc_hb1, hf_hb1⟩ := bcell hb1; have hz_hb1 := Below.size hb1; (try simp at hz_hb1); have z0_hb1 : w.heap.size < w1.heap.size := (by omega); have z1_hb1 : w.heap.size + 1 < w1.heap.size := (by omega); have c00_hb1 := hc_hb1 (w.heap.size) 0 (by (try simp) <;> omega); have f00_hb1 := hf_hb1 (w.heap.size) 0 (by (try simp) <;> omega); have c01_hb1 := hc_hb1 (w.heap.size) 1 (by (try simp) <;> omega); have f01_hb1 := hf_hb1 (w.heap.size) 1 (by (try simp) <;> omega); have c10_hb1 := hc_hb1 (w.heap.size + 1) 0 (by (try simp) <;> omega); have f10_hb1 := hf_hb1 (w.heap.size + 1) 0 (by (try simp) <;> omega); have c11_hb1 := hc_hb1 (w.heap.size + 1) 1 (by (try simp) <;> omega); have f11_hb1 := hf_hb1 (w.heap.size + 1) 1 (by (try simp) <;> omega); clear hc_hb1 hf_hb1; (try simp [*, go_sem] at c00_hb1); (try simp [*, go_sem] at f00_hb1); (try simp [*, go_sem] at c01_hb1); (try simp [*, go_sem] at f01_hb1); (try simp [*, go_sem] at c10_hb1); (try simp [*, go_sem] at f10_hb1); (try simp [*, go_sem] at c11_hb1); (try simp [*, go_sem] at f11_hb1)
  go_wp2_with fail
  refine (wordOf_w d hd0 hd1 _).mono ?_
  rintro e w2 ⟨rfl, hb2⟩
  obtain ⟨hc_hb2, hf_hb2⟩ := bcell hb2; have hz_hb2 := Below.size hb2; (try simp at hz_hb2); have z0_hb2 : w.heap.size < w2.heap.size := (by omega); have z1_hb2 : w.heap.size + 1 < w2.heap.size := (by omega); have c00_hb2 := hc_hb2 (w.heap.size) 0 (by (try simp) <;> omega); have f00_hb2 := hf_hb2 (w.heap.size) 0 (by (try simp) <;> omega); have c01_hb2 := hc_hb2 (w.heap.size) 1 (by (try simp) <;> omega); have f01_hb2 := hf_hb2 (w.heap.size) 1 (by (try simp) <;> omega); have c10_hb2 := hc_hb2 (w.heap.size + 1) 0 (by (try simp) <;> omega); have f10_hb2 := hf_hb2 (w.heap.size + 1) 0 (by (try simp) <;> omega); have c11_hb2 := hc_hb2 (w.heap.size + 1) 1 (by (try simp) <;> omega); have f11_hb2 := hf_hb2 (w.heap.size + 1) 1 (by (try simp) <;> omega); clear hc_hb2 hf_hb2; (try simp [*, go_sem] at c00_hb2); (try simp [*, go_sem] at f00_hb2); (try simp [*, go_sem] at c01_hb2); (try simp [*, go_sem] at f01_hb2); (try simp [*, go_sem] at c10_hb2); (try simp [*, go_sem] at f10_hb2); (try simp [*, go_sem] at c11_hb2); (try simp [*, go_sem] at f11_hb2)
  go_wp2_with fail
  refine (quo_w _ _ ba (by omega) bd1 (by omega) _).mono ?_
  rintro e w3 ⟨rfl, hb3⟩
  obtain ⟨hc_hb3, hf_hb3⟩ := bcell hb3; have hz_hb3 := Below.size hb3; (try simp at hz_hb3); have z0_hb3 : w.heap.size < w3.heap.size := (by omega); have z1_hb3 : w.heap.size + 1 < w3.heap.size := (by omega); have c00_hb3 := hc_hb3 (w.heap.size) 0 (by (try simp) <;> omega); have f00_hb3 := hf_hb3 (w.heap.size) 0 (by (try simp) <;> omega); have c01_hb3 := hc_hb3 (w.heap.size) 1 (by (try simp) <;> omega); have f01_hb3 := hf_hb3 (w.heap.size) 1 (by (try simp) <;> omega); have c10_hb3 := hc_hb3 (w.heap.size + 1) 0 (by (try simp) <;> omega); have f10_hb3 := hf_hb3 (w.heap.size + 1) 0 (by (try simp) <;> omega); have c11_hb3 := hc_hb3 (w.heap.size + 1) 1 (by (try simp) <;> omega); have f11_hb3 := hf_hb3 (w.heap.size + 1) 1 (by (try simp) <;> omega); clear hc_hb3 hf_hb3; (try simp [*, go_sem] at c00_hb3); (try simp [*, go_sem] at f00_hb3); (try simp [*, go_sem] at c01_hb3); (try simp [*, go_sem] at f01_hb3); (try simp [*, go_sem] at c10_hb3); (try simp [*, go_sem] at f10_hb3); (try simp [*, go_sem] at c11_hb3); (try simp [*, go_sem] at f11_hb3)
  go_upto_region 4 with fail
  generalize hW : World.alloc _ _ = W
  have cA0 : W.cell? ⟨w.heap.size, 0, none⟩ = some (.int .u64 (Wd.hi a)) := by subst hW; (first | (go_simp; done) | (simp [*]; done))
  have cA1 : W.cell? ⟨w.heap.size, 1, none⟩ = some (.int .u64 (Wd.lo a)) := by subst hW; (first | (go_simp; done) | (simp [*]; done))
  have cR0 : W.cell? ⟨w.heap.size + 1, 0, none⟩ = some (.int .u64 0) := by subst hW; (first | (go_simp; done) | (simp [*]; done))
  have cR1 : W.cell? ⟨w.heap.size + 1, 1, none⟩ = some (.int .u64 0) := by subst hW; (first | (go_simp; done) | (simp [*]; done))
  have fR0 : W.frozen? ⟨w.heap.size + 1, 0, none⟩ = false := by subst hW; (first | (go_simp; done) | (simp [*]; done))
  have fR1 : W.frozen? ⟨w.heap.size + 1, 1, none⟩ = false := by subst hW; (first | (go_simp; done) | (simp [*]; done))
  have cQ0 : W.cell? ⟨w3.heap.size, 0, none⟩ = some (.int .u64 (Wd.hi (Wd.ab a / Wd.ab d))) := by subst hW; (first | (go_simp; done) | (simp [*]; done))
  have cQ1 : W.cell? ⟨w3.heap.size, 1, none⟩ = some (.int .u64 (Wd.lo (Wd.ab a / Wd.ab d))) := by subst hW; (first | (go_simp; done) | (simp [*]; done))
  have zQ : w3.heap.size < W.heap.size := by subst hW; simp
  have zA : w.heap.size < W.heap.size := by omega
  have zR : w.heap.size + 1 < W.heap.size := by omega
  have bW : Below w.heap.size w W := by subst hW; (repeat' (first | exact Below.refl _ _ | assumption | refine Below.drew ?_ | refine Below.alloc ?_ ?_ _ | refine Below.setCell ?_ ?_ _ | (apply below_via; assumption) | (simp; done) | omega | (simp; omega)))
  clear hW
  generalize w3.heap.size = g7 at *
  go_cut [9, 10] (fun s9 s10 wx => ∃ g : Nat, s9 = .pointer (some ⟨g, 0, none⟩) ∧ s10 = .int .i64 0 ∧ wx.cell? ⟨g, 0, none⟩ = some (.int .u64 (Wd.hi (a.tdiv d))) ∧ wx.cell? ⟨g, 1, none⟩ = some (.int .u64 (Wd.lo (a.tdiv d))) ∧ W.heap.size ≤ g ∧ g < wx.heap.size ∧ Below W.heap.size W wx)
  case first =>
    go_region_held3 (fun w' => Below W.heap.size W w' ∧ (∀ b o, b < W.heap.size → w'.cell? ⟨b, o, none⟩ = W.cell? ⟨b, o, none⟩))
    ((first | exact keptS (Below.drew (Below.refl _ _)) | (refine keptS0 ?_; assumption) | (apply keptS1 <;> assumption) | (apply keptS; (repeat' (first | exact Below.refl _ _ | exact And.left (by assumption) | assumption | refine Below.drew ?_ | refine Below.alloc ?_ ?_ _ | refine Below.setCell ?_ ?_ _ | (apply below_via; assumption) | (simp; done) | omega | (simp; omega))))))
    (first | (go_at_call 85; refine (below_w _ _ _).mono ?_; rintro e w4 ⟨rfl, hb4⟩; obtain ⟨hc4, hf4⟩ := bcell hb4; have hz4 := hb4.size; (try simp at hz4); (try have hl4 : W.heap.size < w4.heap.size := (by omega))) | (go_at_call 90; refine (signed_w _ _ bq.1 (by omega) _).mono ?_; rintro e w5 ⟨rfl, hb5⟩; obtain ⟨hc5, hf5⟩ := bcell hb5; have hz5 := hb5.size; (try simp at hz5); rw [HQ.out, Wd.tr_of HF.out, Wd.er_of HF.out]))
    all_goals
      go_wp2_with fail
      go_meet
      refine ⟨_, rfl, rfl, ?_, ?_, ?_, ?_, ?_⟩
      · go_simp
      · go_simp
      · first | (simp; done) | omega
      · first | (simp; done) | (simp; omega) | omega
      · first | exact And.left (by assumption) | assumption
  case rest =>
    obtain ⟨g, rfl, rfl, cg0, cg1, zg, zg1, bG⟩ := hcut
    have s1 := bG.size
    have c00 := (bG.cell (p := ⟨w.heap.size, 0, none⟩) zA).trans cA0
    have c01 := (bG.cell (p := ⟨w.heap.size, 1, none⟩) zA).trans cA1
    have c10 := (bG.cell (p := ⟨w.heap.size + 1, 0, none⟩) zR).trans cR0
    have c11 := (bG.cell (p := ⟨w.heap.size + 1, 1, none⟩) zR).trans cR1
    have f10 := (bG.frozen (p := ⟨w.heap.size + 1, 0, none⟩) zR).trans fR0
    have f11 := (bG.frozen (p := ⟨w.heap.size + 1, 1, none⟩) zR).trans fR1
    have bw : Below w.heap.size w wc := bW.trans (bG.mono (by omega))
    clear cA0 cA1 cR0 cR1 fR0 fR1 cQ0 cQ1 bW bG
    have HB := Lib.hid (Wd.back_tm a d hd hd0 hd1)
    go_wp2_with fail
    refine (below_w _ _ _).mono ?_
    rintro e w6 ⟨rfl, hb6⟩
    obtain ⟨hc_hb6, hf_hb6⟩ := bcell hb6; have hz_hb6 := Below.size hb6; (try simp at hz_hb6); have z1_hb6 : w.heap.size + 1 < w6.heap.size := (by omega); have zg_hb6 : g < w6.heap.size := (by omega); have c10_hb6 := hc_hb6 (w.heap.size + 1) 0 (by (try simp) <;> omega); have f10_hb6 := hf_hb6 (w.heap.size + 1) 0 (by (try simp) <;> omega); have c11_hb6 := hc_hb6 (w.heap.size + 1) 1 (by (try simp) <;> omega); have f11_hb6 := hf_hb6 (w.heap.size + 1) 1 (by (try simp) <;> omega); have cg0_hb6 := hc_hb6 (g) 0 (by (try simp) <;> omega); have fg0_hb6 := hf_hb6 (g) 0 (by (try simp) <;> omega); have cg1_hb6 := hc_hb6 (g) 1 (by (try simp) <;> omega); have fg1_hb6 := hf_hb6 (g) 1 (by (try simp) <;> omega); clear hc_hb6 hf_hb6; (try simp [*, go_sem] at c10_hb6); (try simp [*, go_sem] at f10_hb6); (try simp [*, go_sem] at c11_hb6); (try simp [*, go_sem] at f11_hb6); (try simp [*, go_sem] at cg0_hb6); (try simp [*, go_sem] at fg0_hb6); (try simp [*, go_sem] at cg1_hb6); (try simp [*, go_sem] at fg1_hb6)
    go_wp2_with fail
    refine (signed_small _ _ br.1 (by omega) _).mono ?_
    rintro e w7 ⟨rfl, hb7⟩
    obtain ⟨hc_hb7, hf_hb7⟩ := bcell hb7; have hz_hb7 := Below.size hb7; (try simp at hz_hb7); have z1_hb7 : w.heap.size + 1 < w7.heap.size := (by omega); have zg_hb7 : g < w7.heap.size := (by omega); have c10_hb7 := hc_hb7 (w.heap.size + 1) 0 (by (try simp) <;> omega); have f10_hb7 := hf_hb7 (w.heap.size + 1) 0 (by (try simp) <;> omega); have c11_hb7 := hc_hb7 (w.heap.size + 1) 1 (by (try simp) <;> omega); have f11_hb7 := hf_hb7 (w.heap.size + 1) 1 (by (try simp) <;> omega); have cg0_hb7 := hc_hb7 (g) 0 (by (try simp) <;> omega); have fg0_hb7 := hf_hb7 (g) 0 (by (try simp) <;> omega); have cg1_hb7 := hc_hb7 (g) 1 (by (try simp) <;> omega); have fg1_hb7 := hf_hb7 (g) 1 (by (try simp) <;> omega); clear hc_hb7 hf_hb7; (try simp [*, go_sem] at c10_hb7); (try simp [*, go_sem] at f10_hb7); (try simp [*, go_sem] at c11_hb7); (try simp [*, go_sem] at f11_hb7); (try simp [*, go_sem] at cg0_hb7); (try simp [*, go_sem] at fg0_hb7); (try simp [*, go_sem] at cg1_hb7); (try simp [*, go_sem] at fg1_hb7)
    rw [HR.out]
    go_wp2_with fail
    go_region
    go_wp2
    rw [HB.out]
    refine bodyPost_ret (v := .tuple #[Value.agg #[.int .u64 (Wd.hi (a.tdiv d)), .int .u64 (Wd.lo (a.tdiv d))], .int .i64 (a.tmod d), .int .i64 0]) (by simp [*, results, Try.results36, go_sem]) rfl ⟨rfl, ?_⟩
    (repeat' (first | exact Below.refl _ _ | assumption | refine Below.drew ?_ | refine Below.alloc ?_ ?_ _ | refine Below.setCell ?_ ?_ _ | (apply below_via; assumption) | (simp; done) | omega | (simp; omega)))

set_option maxHeartbeats 1000000 in
theorem QuoRem_no (a d : Int) (hf : Wd.fit a) (hd : d ≠ 0) (hd0 : -9223372036854775808 ≤ d) (hd1 : d < 9223372036854775808) (hq : ¬ Wd.fit (a.tdiv d)) (w : World) :
    Calls Try.prog 36 #[Value.agg #[.int .u64 (Wd.hi (a)), .int .u64 (Wd.lo (a))], .int .i64 d] w fun e w' => e = .returned (.tuple #[Value.agg #[.int .u64 (Wd.hi (0)), .int .u64 (Wd.lo (0))], .int .i64 0, .int .i64 16]) ∧ Below w.heap.size w w' := by
  have hdz : (d == 0) = false := by simp; omega
  have ba := Wd.ab_nonneg a
  have ba1 := Wd.ab_le a hf
  have bd := Wd.ab_bd d hd0 hd1
  have bd1 := Wd.ab_pos d hd
  have bq := Wd.quo_bd (Wd.ab a) (Wd.ab d) ba ba1 bd1
  have br := Wd.rest_bd (Wd.ab a) (Wd.ab d) bd1
  have HQ := Lib.hid (Wd.tq_fit a d hf)
  have HF := Lib.hid hq
  clear hq
  go_enter Try.func36, Try.ntmps36
  go_wp2_with fail
  refine (size_w a hf _).mono ?_
  rintro e w1 ⟨rfl, hb1⟩
  obtain ⟨hc_hb1, hf_hb1⟩ := bcell hb1; have hz_hb1 := Below.size hb1; (try simp at hz_hb1); have z0_hb1 : w.heap.size < w1.heap.size := (by omega); have z1_hb1 : w.heap.size + 1 < w1.heap.size := (by omega); have c00_hb1 := hc_hb1 (w.heap.size) 0 (by (try simp) <;> omega); have f00_hb1 := hf_hb1 (w.heap.size) 0 (by (try simp) <;> omega); have c01_hb1 := hc_hb1 (w.heap.size) 1 (by (try simp) <;> omega); have f01_hb1 := hf_hb1 (w.heap.size) 1 (by (try simp) <;> omega); have c10_hb1 := hc_hb1 (w.heap.size + 1) 0 (by (try simp) <;> omega); have f10_hb1 := hf_hb1 (w.heap.size + 1) 0 (by (try simp) <;> omega); have c11_hb1 := hc_hb1 (w.heap.size + 1) 1 (by (try simp) <;> omega); have f11_hb1 := hf_hb1 (w.heap.size + 1) 1 (by (try simp) <;> omega); clear hc_hb1 hf_hb1; (try simp [*, go_sem] at c00_hb1); (try simp [*, go_sem] at f00_hb1); (try simp [*, go_sem] at c01_hb1); (try simp [*, go_sem] at f01_hb1); (try simp [*, go_sem] at c10_hb1); (try simp [*, go_sem] at f10_hb1); (try simp [*, go_sem] at c11_hb1); (try simp [*, go_sem] at f11_hb1)
  go_wp2_with fail
  refine (wordOf_w d hd0 hd1 _).mono ?_
  rintro e w2 ⟨rfl, hb2⟩
  obtain ⟨hc_hb2, hf_hb2⟩ := bcell hb2; have hz_hb2 := Below.size hb2; (try simp at hz_hb2); have z0_hb2 : w.heap.size < w2.heap.size := (by omega); have z1_hb2 : w.heap.size + 1 < w2.heap.size := (by omega); have c00_hb2 := hc_hb2 (w.heap.size) 0 (by (try simp) <;> omega); have f00_hb2 := hf_hb2 (w.heap.size) 0 (by (try simp) <;> omega); have c01_hb2 := hc_hb2 (w.heap.size) 1 (by (try simp) <;> omega); have f01_hb2 := hf_hb2 (w.heap.size) 1 (by (try simp) <;> omega); have c10_hb2 := hc_hb2 (w.heap.size + 1) 0 (by (try simp) <;> omega); have f10_hb2 := hf_hb2 (w.heap.size + 1) 0 (by (try simp) <;> omega); have c11_hb2 := hc_hb2 (w.heap.size + 1) 1 (by (try simp) <;> omega); have f11_hb2 := hf_hb2 (w.heap.size + 1) 1 (by (try simp) <;> omega); clear hc_hb2 hf_hb2; (try simp [*, go_sem] at c00_hb2); (try simp [*, go_sem] at f00_hb2); (try simp [*, go_sem] at c01_hb2); (try simp [*, go_sem] at f01_hb2); (try simp [*, go_sem] at c10_hb2); (try simp [*, go_sem] at f10_hb2); (try simp [*, go_sem] at c11_hb2); (try simp [*, go_sem] at f11_hb2)
  go_wp2_with fail
  refine (quo_w _ _ ba (by omega) bd1 (by omega) _).mono ?_
  rintro e w3 ⟨rfl, hb3⟩
  obtain ⟨hc_hb3, hf_hb3⟩ := bcell hb3; have hz_hb3 := Below.size hb3; (try simp at hz_hb3); have z0_hb3 : w.heap.size < w3.heap.size := (by omega); have z1_hb3 : w.heap.size + 1 < w3.heap.size := (by omega); have c00_hb3 := hc_hb3 (w.heap.size) 0 (by (try simp) <;> omega); have f00_hb3 := hf_hb3 (w.heap.size) 0 (by (try simp) <;> omega); have c01_hb3 := hc_hb3 (w.heap.size) 1 (by (try simp) <;> omega); have f01_hb3 := hf_hb3 (w.heap.size) 1 (by (try simp) <;> omega); have c10_hb3 := hc_hb3 (w.heap.size + 1) 0 (by (try simp) <;> omega); have f10_hb3 := hf_hb3 (w.heap.size + 1) 0 (by (try simp) <;> omega); have c11_hb3 := hc_hb3 (w.heap.size + 1) 1 (by (try simp) <;> omega); have f11_hb3 := hf_hb3 (w.heap.size + 1) 1 (by (try simp) <;> omega); clear hc_hb3 hf_hb3; (try simp [*, go_sem] at c00_hb3); (try simp [*, go_sem] at f00_hb3); (try simp [*, go_sem] at c01_hb3); (try simp [*, go_sem] at f01_hb3); (try simp [*, go_sem] at c10_hb3); (try simp [*, go_sem] at f10_hb3); (try simp [*, go_sem] at c11_hb3); (try simp [*, go_sem] at f11_hb3)
  go_upto_region 4 with fail
  generalize hW : World.alloc _ _ = W
  have cA0 : W.cell? ⟨w.heap.size, 0, none⟩ = some (.int .u64 (Wd.hi a)) := by subst hW; (first | (go_simp; done) | (simp [*]; done))
  have cA1 : W.cell? ⟨w.heap.size, 1, none⟩ = some (.int .u64 (Wd.lo a)) := by subst hW; (first | (go_simp; done) | (simp [*]; done))
  have cR0 : W.cell? ⟨w.heap.size + 1, 0, none⟩ = some (.int .u64 0) := by subst hW; (first | (go_simp; done) | (simp [*]; done))
  have cR1 : W.cell? ⟨w.heap.size + 1, 1, none⟩ = some (.int .u64 0) := by subst hW; (first | (go_simp; done) | (simp [*]; done))
  have fR0 : W.frozen? ⟨w.heap.size + 1, 0, none⟩ = false := by subst hW; (first | (go_simp; done) | (simp [*]; done))
  have fR1 : W.frozen? ⟨w.heap.size + 1, 1, none⟩ = false := by subst hW; (first | (go_simp; done) | (simp [*]; done))
  have cQ0 : W.cell? ⟨w3.heap.size, 0, none⟩ = some (.int .u64 (Wd.hi (Wd.ab a / Wd.ab d))) := by subst hW; (first | (go_simp; done) | (simp [*]; done))
  have cQ1 : W.cell? ⟨w3.heap.size, 1, none⟩ = some (.int .u64 (Wd.lo (Wd.ab a / Wd.ab d))) := by subst hW; (first | (go_simp; done) | (simp [*]; done))
  have zQ : w3.heap.size < W.heap.size := by subst hW; simp
  have zA : w.heap.size < W.heap.size := by omega
  have zR : w.heap.size + 1 < W.heap.size := by omega
  have bW : Below w.heap.size w W := by subst hW; (repeat' (first | exact Below.refl _ _ | assumption | refine Below.drew ?_ | refine Below.alloc ?_ ?_ _ | refine Below.setCell ?_ ?_ _ | (apply below_via; assumption) | (simp; done) | omega | (simp; omega)))
  clear hW
  generalize w3.heap.size = g7 at *
  go_cut [9, 10] (fun s9 s10 wx => ∃ g : Nat, s9 = .pointer (some ⟨g, 0, none⟩) ∧ s10 = .int .i64 16 ∧ wx.cell? ⟨g, 0, none⟩ = some (.int .u64 (Wd.hi 0)) ∧ wx.cell? ⟨g, 1, none⟩ = some (.int .u64 (Wd.lo 0)) ∧ W.heap.size ≤ g ∧ g < wx.heap.size ∧ Below W.heap.size W wx)
  case first =>
    go_region_held3 (fun w' => Below W.heap.size W w' ∧ (∀ b o, b < W.heap.size → w'.cell? ⟨b, o, none⟩ = W.cell? ⟨b, o, none⟩))
    ((first | exact keptS (Below.drew (Below.refl _ _)) | (refine keptS0 ?_; assumption) | (apply keptS1 <;> assumption) | (apply keptS; (repeat' (first | exact Below.refl _ _ | exact And.left (by assumption) | assumption | refine Below.drew ?_ | refine Below.alloc ?_ ?_ _ | refine Below.setCell ?_ ?_ _ | (apply below_via; assumption) | (simp; done) | omega | (simp; omega))))))
    (first | (go_at_call 85; refine (below_w _ _ _).mono ?_; rintro e w4 ⟨rfl, hb4⟩; obtain ⟨hc4, hf4⟩ := bcell hb4; have hz4 := hb4.size; (try simp at hz4); (try have hl4 : W.heap.size < w4.heap.size := (by omega))) | (go_at_call 90; refine (signed_w _ _ bq.1 (by omega) _).mono ?_; rintro e w5 ⟨rfl, hb5⟩; obtain ⟨hc5, hf5⟩ := bcell hb5; have hz5 := hb5.size; (try simp at hz5); rw [HQ.out, Wd.tr_no HF.out, Wd.er_no HF.out]))
    all_goals
      go_wp2_with fail
      go_meet
      refine ⟨_, rfl, rfl, ?_, ?_, ?_, ?_, ?_⟩
      · go_simp
      · go_simp
      · first | (simp; done) | omega
      · first | (simp; done) | (simp; omega) | omega
      · first | exact And.left (by assumption) | assumption
  case rest =>
    obtain ⟨g, rfl, rfl, cg0, cg1, zg, zg1, bG⟩ := hcut
    have s1 := bG.size
    have c00 := (bG.cell (p := ⟨w.heap.size, 0, none⟩) zA).trans cA0
    have c01 := (bG.cell (p := ⟨w.heap.size, 1, none⟩) zA).trans cA1
    have c10 := (bG.cell (p := ⟨w.heap.size + 1, 0, none⟩) zR).trans cR0
    have c11 := (bG.cell (p := ⟨w.heap.size + 1, 1, none⟩) zR).trans cR1
    have f10 := (bG.frozen (p := ⟨w.heap.size + 1, 0, none⟩) zR).trans fR0
    have f11 := (bG.frozen (p := ⟨w.heap.size + 1, 1, none⟩) zR).trans fR1
    have bw : Below w.heap.size w wc := bW.trans (bG.mono (by omega))
    clear cA0 cA1 cR0 cR1 fR0 fR1 cQ0 cQ1 bW bG
    go_wp2
    refine bodyPost_ret (v := .tuple #[Value.agg #[.int .u64 (Wd.hi (0)), .int .u64 (Wd.lo (0))], .int .i64 0, .int .i64 16]) (by simp [*, results, Try.results36, go_sem, Wd.hi_zero, Wd.lo_zero]) rfl ⟨rfl, ?_⟩
    (repeat' (first | exact Below.refl _ _ | assumption | refine Below.drew ?_ | refine Below.alloc ?_ ?_ _ | refine Below.setCell ?_ ?_ _ | (apply below_via; assumption) | (simp; done) | omega | (simp; omega)))

end Go.Proofs.Ytfiaobhkhedpiaa
