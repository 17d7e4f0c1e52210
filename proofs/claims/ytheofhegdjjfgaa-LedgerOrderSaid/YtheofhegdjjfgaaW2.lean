/- Walks of package wide: a word without its sign, the sign, the way back to an int, a size with a sign. -/
import Derived.Test.YtheofhegdjjfgaaW1
namespace Go.Proofs.Ytheofhegdjjfgaa
open Go.RowKit

theorem field_size1 (x y : Int) (w : World) : (Instr.field 162 (.agg #[.int .u64 x, .int .u64 y]) 1).run Try.prog w = .ok (.int .u64 y) w := by kernel_rfl

set_option maxHeartbeats 400000 in
theorem wordOf_w (n : Int) (h1 : -9223372036854775808 ≤ n) (h2 : n < 9223372036854775808) (w : World) :
    Calls Try.prog 86 #[.int .i64 n] w fun e w' => e = .returned (.int .u64 (Wd.ab n)) ∧ Below w.heap.size w w' := by
  have hf : Wd.fit n := by unfold Wd.fit; omega
  have hl := Wd.ab_lo n h1 h2
  have HL := Lib.hid hl
  clear hl
  have hfd := fun x y w => field_size1 x y w
  go_enter Try.func86, Try.ntmps86
  go_wp2_with (first | (go_at_call 92; go_must (refine (FromInt_w n h1 h2 _).mono ?_; rintro e w1 ⟨rfl, hb⟩)) | (go_at_call 88; go_must (refine (size_w n hf _).mono ?_; rintro e w2 ⟨rfl, hb2⟩)))
  rw [HL.out]
  have hz := hb.size
  go_ret
  exact ⟨rfl, by (repeat' (first | exact Below.refl _ _ | assumption | refine Below.drew ?_ | refine Below.alloc ?_ ?_ _ | refine Below.setCell ?_ ?_ _ | (apply below_via; assumption) | (simp; done) | omega | (simp; omega)))⟩

set_option maxHeartbeats 400000 in
theorem Sign_neg (v : Int) (hf : Wd.fit v) (hn : v < 0) (w : World) :
    Calls Try.prog 102 #[Value.agg #[.int .u64 (Wd.hi (v)), .int .u64 (Wd.lo (v))]] w fun e w' => e = .returned (.int .i64 (-1)) ∧ Below w.heap.size w w' := by
  have hd := Wd.hi_ge v hf hn
  go_enter Try.func102, Try.ntmps102
  go_wp2_with (first | (go_at_call 91; go_must (refine (below_w _ _ _).mono ?_; rintro e w1 ⟨rfl, hb⟩; obtain ⟨hc_hb, hf_hb⟩ := bcell hb; have hz_hb := Below.size hb; (try simp at hz_hb); have z0_hb : w.heap.size < w1.heap.size := (by omega); have c00_hb := hc_hb (w.heap.size) 0 (by (try simp) <;> omega); have f00_hb := hf_hb (w.heap.size) 0 (by (try simp) <;> omega); have c01_hb := hc_hb (w.heap.size) 1 (by (try simp) <;> omega); have f01_hb := hf_hb (w.heap.size) 1 (by (try simp) <;> omega); clear hc_hb hf_hb; (try simp [*] at c00_hb); (try simp [*] at f00_hb); (try simp [*] at c01_hb); (try simp [*] at f01_hb))))
  go_ret
  exact ⟨rfl, by (repeat' (first | exact Below.refl _ _ | assumption | refine Below.drew ?_ | refine Below.alloc ?_ ?_ _ | refine Below.setCell ?_ ?_ _ | (apply below_via; assumption) | (simp; done) | omega | (simp; omega)))⟩

set_option maxHeartbeats 400000 in
theorem Sign_pos (v : Int) (hf : Wd.fit v) (hn : 0 < v) (w : World) :
    Calls Try.prog 102 #[Value.agg #[.int .u64 (Wd.hi (v)), .int .u64 (Wd.lo (v))]] w fun e w' => e = .returned (.int .i64 1) ∧ Below w.heap.size w w' := by
  have hd := Wd.hi_lt v hf (by omega)
  by_cases hh : Wd.hi v = 0
  · have h1 : (Wd.hi v == 0) = true := by simp [hh]
    have h2 : (Wd.lo v == 0) = false := by
      have : Wd.lo v ≠ 0 := by unfold Wd.fit at hf; unfold Wd.hi at hh; unfold Wd.lo; omega
      simp [this]
    clear hh
    go_enter Try.func102, Try.ntmps102
    go_wp2_with (first | (go_at_call 91; go_must (refine (below_w _ _ _).mono ?_; rintro e w1 ⟨rfl, hb⟩; obtain ⟨hc_hb, hf_hb⟩ := bcell hb; have hz_hb := Below.size hb; (try simp at hz_hb); have z0_hb : w.heap.size < w1.heap.size := (by omega); have c00_hb := hc_hb (w.heap.size) 0 (by (try simp) <;> omega); have f00_hb := hf_hb (w.heap.size) 0 (by (try simp) <;> omega); have c01_hb := hc_hb (w.heap.size) 1 (by (try simp) <;> omega); have f01_hb := hf_hb (w.heap.size) 1 (by (try simp) <;> omega); clear hc_hb hf_hb; (try simp [*] at c00_hb); (try simp [*] at f00_hb); (try simp [*] at c01_hb); (try simp [*] at f01_hb))))
    go_ret
    exact ⟨rfl, by (repeat' (first | exact Below.refl _ _ | assumption | refine Below.drew ?_ | refine Below.alloc ?_ ?_ _ | refine Below.setCell ?_ ?_ _ | (apply below_via; assumption) | (simp; done) | omega | (simp; omega)))⟩
  · have h1 : (Wd.hi v == 0) = false := by simp [hh]
    clear hh
    go_enter Try.func102, Try.ntmps102
    go_wp2_with (first | (go_at_call 91; go_must (refine (below_w _ _ _).mono ?_; rintro e w1 ⟨rfl, hb⟩; obtain ⟨hc_hb, hf_hb⟩ := bcell hb; have hz_hb := Below.size hb; (try simp at hz_hb); have z0_hb : w.heap.size < w1.heap.size := (by omega); have c00_hb := hc_hb (w.heap.size) 0 (by (try simp) <;> omega); have f00_hb := hf_hb (w.heap.size) 0 (by (try simp) <;> omega); have c01_hb := hc_hb (w.heap.size) 1 (by (try simp) <;> omega); have f01_hb := hf_hb (w.heap.size) 1 (by (try simp) <;> omega); clear hc_hb hf_hb; (try simp [*] at c00_hb); (try simp [*] at f00_hb); (try simp [*] at c01_hb); (try simp [*] at f01_hb))))
    go_ret
    exact ⟨rfl, by (repeat' (first | exact Below.refl _ _ | assumption | refine Below.drew ?_ | refine Below.alloc ?_ ?_ _ | refine Below.setCell ?_ ?_ _ | (apply below_via; assumption) | (simp; done) | omega | (simp; omega)))⟩

set_option maxHeartbeats 400000 in
theorem Sign_zero (w : World) :
    Calls Try.prog 102 #[Value.agg #[.int .u64 (Wd.hi (0)), .int .u64 (Wd.lo (0))]] w fun e w' => e = .returned (.int .i64 0) ∧ Below w.heap.size w w' := by
  have hd := Wd.hi_lt 0 (by decide) (by omega)
  have h1 : (Wd.hi 0 == 0) = true := rfl
  have h2 : (Wd.lo 0 == 0) = true := rfl
  go_enter Try.func102, Try.ntmps102
  go_wp2_with (first | (go_at_call 91; go_must (refine (below_w _ _ _).mono ?_; rintro e w1 ⟨rfl, hb⟩; obtain ⟨hc_hb, hf_hb⟩ := bcell hb; have hz_hb := Below.size hb; (try simp at hz_hb); have z0_hb : w.heap.size < w1.heap.size := (by omega); have c00_hb := hc_hb (w.heap.size) 0 (by (try simp) <;> omega); have f00_hb := hf_hb (w.heap.size) 0 (by (try simp) <;> omega); have c01_hb := hc_hb (w.heap.size) 1 (by (try simp) <;> omega); have f01_hb := hf_hb (w.heap.size) 1 (by (try simp) <;> omega); clear hc_hb hf_hb; (try simp [*] at c00_hb); (try simp [*] at f00_hb); (try simp [*] at c01_hb); (try simp [*] at f01_hb))))
  go_ret
  exact ⟨rfl, by (repeat' (first | exact Below.refl _ _ | assumption | refine Below.drew ?_ | refine Below.alloc ?_ ?_ _ | refine Below.setCell ?_ ?_ _ | (apply below_via; assumption) | (simp; done) | omega | (simp; omega)))⟩

theorem Sign_w (v : Int) (hf : Wd.fit v) (w : World) :
    Calls Try.prog 102 #[Value.agg #[.int .u64 (Wd.hi (v)), .int .u64 (Wd.lo (v))]] w fun e w' => e = .returned (.int .i64 (Wd.sg v)) ∧ Below w.heap.size w w' := by
  unfold Wd.sg
  by_cases hn : v < 0
  · rw [if_pos hn]; exact Sign_neg v hf hn w
  · by_cases h0 : v = 0
    · subst h0; exact Sign_zero w
    · rw [if_neg hn, if_neg h0]; exact Sign_pos v hf (by omega) w

set_option maxHeartbeats 400000 in
theorem Int_yes (v : Int) (h1 : -9223372036854775808 ≤ v) (h2 : v < 9223372036854775808) (w : World) :
    Calls Try.prog 52 #[Value.agg #[.int .u64 (Wd.hi (v)), .int .u64 (Wd.lo (v))]] w fun e w' => e = .returned (.tuple #[.int .i64 v, .int .i64 0]) ∧ Below w.heap.size w w' := by
  have hl : IntKind.i64.wrap (Wd.lo v) = v := by rw [IntKind.wrap_i64]; unfold Wd.lo; omega
  go_enter Try.func52, Try.ntmps52
  go_wp2
  go_region_held3 (fun w' => w'.cell? ⟨w.heap.size, 0, none⟩ = some (.int .u64 (Wd.hi v)) ∧ w'.cell? ⟨w.heap.size, 1, none⟩ = some (.int .u64 (Wd.lo v)) ∧ w.heap.size < w'.heap.size ∧ Below w.heap.size w w')
    (first | (refine ⟨by simp, by simp, by simp, ?_⟩; (repeat' (first | exact Below.refl _ _ | assumption | refine Below.drew ?_ | refine Below.alloc ?_ ?_ _ | refine Below.setCell ?_ ?_ _ | (apply below_via; assumption) | (simp; done) | omega | (simp; omega)))) | (refine ⟨by simp [*], by simp [*], by (try simp) <;> omega, ?_⟩; (repeat' (first | exact Below.refl _ _ | assumption | refine Below.drew ?_ | refine Below.alloc ?_ ?_ _ | refine Below.setCell ?_ ?_ _ | (apply below_via; assumption) | (simp; done) | omega | (simp; omega)))))
    (first | (go_at_call 92; refine (FromInt_w v h1 h2 _).mono ?_; rintro e w1 ⟨rfl, hb⟩; obtain ⟨hc_hb, hf_hb⟩ := bcell hb; have hz_hb := Below.size hb; (try simp at hz_hb); have z0_hb : w.heap.size < w1.heap.size := (by omega); have c00_hb := hc_hb (w.heap.size) 0 (by (try simp) <;> omega); have f00_hb := hf_hb (w.heap.size) 0 (by (try simp) <;> omega); have c01_hb := hc_hb (w.heap.size) 1 (by (try simp) <;> omega); have f01_hb := hf_hb (w.heap.size) 1 (by (try simp) <;> omega); clear hc_hb hf_hb; (try simp [*] at c00_hb); (try simp [*] at f00_hb); (try simp [*] at c01_hb); (try simp [*] at f01_hb)))
  go_wp2
  go_ret2
  refine ⟨rfl, ?_⟩
  (repeat' (first | exact Below.refl _ _ | assumption | refine Below.drew ?_ | refine Below.alloc ?_ ?_ _ | refine Below.setCell ?_ ?_ _ | (apply below_via; assumption) | (simp; done) | omega | (simp; omega)))

set_option maxHeartbeats 400000 in
theorem Int_no (v : Int) (hf : Wd.fit v) (h : v < -9223372036854775808 ∨ 9223372036854775808 ≤ v) (w : World) :
    Calls Try.prog 52 #[Value.agg #[.int .u64 (Wd.hi (v)), .int .u64 (Wd.lo (v))]] w fun e w' => e = .returned (.tuple #[.int .i64 0, .int .i64 16]) ∧ Below w.heap.size w w' := by
  have hbk := Wd.back_eq v
  have hl := Wd.back_bd v
  have hne := Wd.back_ne v hf h
  have hlo := Wd.back_lo v
  go_enter Try.func52, Try.ntmps52
  go_wp2
  go_region_held3 (fun w' => w'.cell? ⟨w.heap.size, 0, none⟩ = some (.int .u64 (Wd.hi v)) ∧ w'.cell? ⟨w.heap.size, 1, none⟩ = some (.int .u64 (Wd.lo v)) ∧ w.heap.size < w'.heap.size ∧ Below w.heap.size w w')
    (first | (refine ⟨by simp, by simp, by simp, ?_⟩; (repeat' (first | exact Below.refl _ _ | assumption | refine Below.drew ?_ | refine Below.alloc ?_ ?_ _ | refine Below.setCell ?_ ?_ _ | (apply below_via; assumption) | (simp; done) | omega | (simp; omega)))) | (refine ⟨by simp [*], by simp [*], by (try simp) <;> omega, ?_⟩; (repeat' (first | exact Below.refl _ _ | assumption | refine Below.drew ?_ | refine Below.alloc ?_ ?_ _ | refine Below.setCell ?_ ?_ _ | (apply below_via; assumption) | (simp; done) | omega | (simp; omega)))))
    (first | (go_at_call 92; refine (FromInt_w _ hl.1 hl.2 _).mono ?_; rintro e w1 ⟨rfl, hb⟩; obtain ⟨hc_hb, hf_hb⟩ := bcell hb; have hz_hb := Below.size hb; (try simp at hz_hb); have z0_hb : w.heap.size < w1.heap.size := (by omega); have c00_hb := hc_hb (w.heap.size) 0 (by (try simp) <;> omega); have f00_hb := hf_hb (w.heap.size) 0 (by (try simp) <;> omega); have c01_hb := hc_hb (w.heap.size) 1 (by (try simp) <;> omega); have f01_hb := hf_hb (w.heap.size) 1 (by (try simp) <;> omega); clear hc_hb hf_hb; (try simp [*] at c00_hb); (try simp [*] at f00_hb); (try simp [*] at c01_hb); (try simp [*] at f01_hb)))
  go_wp2
  go_ret2
  refine ⟨rfl, ?_⟩
  (repeat' (first | exact Below.refl _ _ | assumption | refine Below.drew ?_ | refine Below.alloc ?_ ?_ _ | refine Below.setCell ?_ ?_ _ | (apply below_via; assumption) | (simp; done) | omega | (simp; omega)))

end Go.Proofs.Ytheofhegdjjfgaa
