/- Walks of package wide: comparison; what is turned over. -/
import Derived.Test.YtfiaobhkhedpiaaW6
import Derived.Test.YtfiaobhkhedpiaaWdO
namespace Go.Proofs.Ytfiaobhkhedpiaa
open Go.RowKit

theorem Below_drewN {B : Nat} {a w : World} {n : Nat} : Below B a (w.drewN n) = Below B a w := by
  apply propext
  exact ⟨fun h => ⟨h.os, h.tape, h.output, h.size, h.block⟩, fun h => ⟨h.os, h.tape, h.output, h.size, h.block⟩⟩

set_option maxHeartbeats 1000000 in
theorem Cmp_hi_lt (x y u v : Int) (h1 : (x == u) = false) (h2 : decide (bits BinOp.xor IntKind.u64 x 9223372036854775808 < bits BinOp.xor IntKind.u64 u 9223372036854775808) = true) (w : World) :
    Calls Try.prog 49 #[.agg #[.int .u64 x, .int .u64 y], .agg #[.int .u64 u, .int .u64 v]] w fun e w' => e = .returned (.int .i64 (-1)) ∧ Below w.heap.size w w' := by
  go_enter Try.func49, Try.ntmps49
  go_wp2
  go_quiet (fail)
  go_wp2
  go_ret
  refine ⟨rfl, ?_⟩
  rw [Below_drewN]
  (repeat' (first | exact Below.refl _ _ | assumption | refine Below.drew ?_ | refine Below.alloc ?_ ?_ _ | refine Below.setCell ?_ ?_ _ | (apply below_via; assumption) | (simp; done) | omega | (simp; omega)))

set_option maxHeartbeats 1000000 in
theorem Cmp_hi_gt (x y u v : Int) (h1 : (x == u) = false) (h2 : decide (bits BinOp.xor IntKind.u64 x 9223372036854775808 < bits BinOp.xor IntKind.u64 u 9223372036854775808) = false) (h3 : (bits BinOp.xor IntKind.u64 x 9223372036854775808 == bits BinOp.xor IntKind.u64 u 9223372036854775808) = false) (w : World) :
    Calls Try.prog 49 #[.agg #[.int .u64 x, .int .u64 y], .agg #[.int .u64 u, .int .u64 v]] w fun e w' => e = .returned (.int .i64 (1)) ∧ Below w.heap.size w w' := by
  go_enter Try.func49, Try.ntmps49
  go_wp2
  go_quiet (fail)
  go_wp2
  go_ret
  refine ⟨rfl, ?_⟩
  rw [Below_drewN]
  (repeat' (first | exact Below.refl _ _ | assumption | refine Below.drew ?_ | refine Below.alloc ?_ ?_ _ | refine Below.setCell ?_ ?_ _ | (apply below_via; assumption) | (simp; done) | omega | (simp; omega)))

set_option maxHeartbeats 1000000 in
theorem Cmp_lo_lt (x y v : Int) (h1 : (y == v) = false) (h2 : decide (y < v) = true) (w : World) :
    Calls Try.prog 49 #[.agg #[.int .u64 x, .int .u64 y], .agg #[.int .u64 x, .int .u64 v]] w fun e w' => e = .returned (.int .i64 (-1)) ∧ Below w.heap.size w w' := by
  go_enter Try.func49, Try.ntmps49
  go_wp2
  go_quiet (fail)
  go_wp2
  go_ret
  refine ⟨rfl, ?_⟩
  rw [Below_drewN]
  (repeat' (first | exact Below.refl _ _ | assumption | refine Below.drew ?_ | refine Below.alloc ?_ ?_ _ | refine Below.setCell ?_ ?_ _ | (apply below_via; assumption) | (simp; done) | omega | (simp; omega)))

set_option maxHeartbeats 1000000 in
theorem Cmp_lo_gt (x y v : Int) (h1 : (y == v) = false) (h2 : decide (y < v) = false) (w : World) :
    Calls Try.prog 49 #[.agg #[.int .u64 x, .int .u64 y], .agg #[.int .u64 x, .int .u64 v]] w fun e w' => e = .returned (.int .i64 (1)) ∧ Below w.heap.size w w' := by
  go_enter Try.func49, Try.ntmps49
  go_wp2
  go_quiet (fail)
  go_wp2
  go_ret
  refine ⟨rfl, ?_⟩
  rw [Below_drewN]
  (repeat' (first | exact Below.refl _ _ | assumption | refine Below.drew ?_ | refine Below.alloc ?_ ?_ _ | refine Below.setCell ?_ ?_ _ | (apply below_via; assumption) | (simp; done) | omega | (simp; omega)))

set_option maxHeartbeats 1000000 in
theorem Cmp_same (x y : Int) (w : World) :
    Calls Try.prog 49 #[.agg #[.int .u64 x, .int .u64 y], .agg #[.int .u64 x, .int .u64 y]] w fun e w' => e = .returned (.int .i64 0) ∧ Below w.heap.size w w' := by
  go_enter Try.func49, Try.ntmps49
  go_wp2
  go_quiet (fail)
  go_wp2
  go_ret
  refine ⟨rfl, ?_⟩
  rw [Below_drewN]
  (repeat' (first | exact Below.refl _ _ | assumption | refine Below.drew ?_ | refine Below.alloc ?_ ?_ _ | refine Below.setCell ?_ ?_ _ | (apply below_via; assumption) | (simp; done) | omega | (simp; omega)))

/-- the comparison of two whole numbers. -/
theorem Cmp_w (a b : Int) (ha : Wd.fit a) (hb : Wd.fit b) (w : World) :
    Calls Try.prog 49 #[Value.agg #[.int .u64 (Wd.hi (a)), .int .u64 (Wd.lo (a))], Value.agg #[.int .u64 (Wd.hi (b)), .int .u64 (Wd.lo (b))]] w fun e w' => e = .returned (.int .i64 (Wd.sg (a - b))) ∧ Below w.heap.size w w' := by
  rcases Int.lt_trichotomy a b with h | h | h
  · rw [show Wd.sg (a - b) = -1 from if_pos (by omega)]
    by_cases hh : Wd.hi a = Wd.hi b
    · have hl := Wd.lo_lt_of a b ha hb hh h
      rw [hh]
      exact Cmp_lo_lt _ _ _ (by simp; omega) (by simpa using hl) w
    · exact Cmp_hi_lt _ _ _ _ (by simpa using hh) (by simpa using Wd.fx_lt a b ha hb hh h) w
  · subst h
    rw [Int.sub_self]
    exact Cmp_same _ _ w
  · rw [show Wd.sg (a - b) = 1 from by unfold Wd.sg; rw [if_neg (by omega), if_neg (by omega)]]
    by_cases hh : Wd.hi a = Wd.hi b
    · have hl := Wd.lo_lt_of b a hb ha hh.symm h
      rw [hh]
      exact Cmp_lo_gt _ _ _ (by simp; omega) (by simp; omega) w
    · have hf := Wd.fx_lt b a hb ha (fun e => hh e.symm) h
      exact Cmp_hi_gt _ _ _ _ (by simpa using hh) (by simp; omega) (by simp; omega) w

set_option maxHeartbeats 1000000 in
theorem Neg_w (a : Int) (hf : Wd.fit a) (w : World) :
    Calls Try.prog 45 #[Value.agg #[.int .u64 (Wd.hi (a)), .int .u64 (Wd.lo (a))]] w fun e w' => e = .returned (.tuple #[Value.agg #[.int .u64 (Wd.hi (Wd.tr (-a))), .int .u64 (Wd.lo (Wd.tr (-a)))], .int .i64 (Wd.er (-a))]) ∧ Below w.heap.size w w' := by
  have e1 := Wd.sv_neg a
  go_enter Try.func45, Try.ntmps45
  go_wp2
  go_region_with (first | (go_at_call 83; refine (size_w a hf _).mono ?_; rintro e w1 ⟨rfl, hb1⟩; obtain ⟨hc_hb1, hf_hb1⟩ := bcell hb1; have hz_hb1 := Below.size hb1; (try simp at hz_hb1); have z0_hb1 : w.heap.size < w1.heap.size := (by omega); have z1_hb1 : w.heap.size + 1 < w1.heap.size := (by omega); have c00_hb1 := hc_hb1 (w.heap.size) 0 (by (try simp) <;> omega); have f00_hb1 := hf_hb1 (w.heap.size) 0 (by (try simp) <;> omega); have c01_hb1 := hc_hb1 (w.heap.size) 1 (by (try simp) <;> omega); have f01_hb1 := hf_hb1 (w.heap.size) 1 (by (try simp) <;> omega); have c10_hb1 := hc_hb1 (w.heap.size + 1) 0 (by (try simp) <;> omega); have f10_hb1 := hf_hb1 (w.heap.size + 1) 0 (by (try simp) <;> omega); have c11_hb1 := hc_hb1 (w.heap.size + 1) 1 (by (try simp) <;> omega); have f11_hb1 := hf_hb1 (w.heap.size + 1) 1 (by (try simp) <;> omega); clear hc_hb1 hf_hb1; (try simp [*] at c00_hb1); (try simp [*] at f00_hb1); (try simp [*] at c01_hb1); (try simp [*] at f01_hb1); (try simp [*] at c10_hb1); (try simp [*] at f10_hb1); (try simp [*] at c11_hb1); (try simp [*] at f11_hb1)) | (go_at_call 50; refine (Sign_w a hf _).mono ?_; rintro e w2 ⟨rfl, hb2⟩; obtain ⟨hc_hb2, hf_hb2⟩ := bcell hb2; have hz_hb2 := Below.size hb2; (try simp at hz_hb2); have z0_hb2 : w.heap.size < w2.heap.size := (by omega); have z1_hb2 : w.heap.size + 1 < w2.heap.size := (by omega); have c00_hb2 := hc_hb2 (w.heap.size) 0 (by (try simp) <;> omega); have f00_hb2 := hf_hb2 (w.heap.size) 0 (by (try simp) <;> omega); have c01_hb2 := hc_hb2 (w.heap.size) 1 (by (try simp) <;> omega); have f01_hb2 := hf_hb2 (w.heap.size) 1 (by (try simp) <;> omega); have c10_hb2 := hc_hb2 (w.heap.size + 1) 0 (by (try simp) <;> omega); have f10_hb2 := hf_hb2 (w.heap.size + 1) 0 (by (try simp) <;> omega); have c11_hb2 := hc_hb2 (w.heap.size + 1) 1 (by (try simp) <;> omega); have f11_hb2 := hf_hb2 (w.heap.size + 1) 1 (by (try simp) <;> omega); clear hc_hb2 hf_hb2; (try simp [*] at c00_hb2); (try simp [*] at f00_hb2); (try simp [*] at c01_hb2); (try simp [*] at f01_hb2); (try simp [*] at c10_hb2); (try simp [*] at f10_hb2); (try simp [*] at c11_hb2); (try simp [*] at f11_hb2)) | (go_at_call 90; refine (signed_w _ _ (Wd.ab_nonneg a) (Wd.ab_lt a hf) _).mono ?_; rintro e w3 ⟨rfl, hb3⟩; obtain ⟨hc_hb3, hf_hb3⟩ := bcell hb3; have hz_hb3 := Below.size hb3; (try simp at hz_hb3); have z0_hb3 : w.heap.size < w3.heap.size := (by omega); have z1_hb3 : w.heap.size + 1 < w3.heap.size := (by omega); have c00_hb3 := hc_hb3 (w.heap.size) 0 (by (try simp) <;> omega); have f00_hb3 := hf_hb3 (w.heap.size) 0 (by (try simp) <;> omega); have c01_hb3 := hc_hb3 (w.heap.size) 1 (by (try simp) <;> omega); have f01_hb3 := hf_hb3 (w.heap.size) 1 (by (try simp) <;> omega); have c10_hb3 := hc_hb3 (w.heap.size + 1) 0 (by (try simp) <;> omega); have f10_hb3 := hf_hb3 (w.heap.size + 1) 0 (by (try simp) <;> omega); have c11_hb3 := hc_hb3 (w.heap.size + 1) 1 (by (try simp) <;> omega); have f11_hb3 := hf_hb3 (w.heap.size + 1) 1 (by (try simp) <;> omega); clear hc_hb3 hf_hb3; (try simp [*] at c00_hb3); (try simp [*] at f00_hb3); (try simp [*] at c01_hb3); (try simp [*] at f01_hb3); (try simp [*] at c10_hb3); (try simp [*] at f10_hb3); (try simp [*] at c11_hb3); (try simp [*] at f11_hb3)))
  all_goals
    go_wp2
    refine bodyPost_ret (v := .tuple #[Value.agg #[.int .u64 (Wd.hi (Wd.tr (-a))), .int .u64 (Wd.lo (Wd.tr (-a)))], .int .i64 (Wd.er (-a))]) (by simp [*, results, Try.results45, go_sem]) rfl ⟨rfl, ?_⟩
    (repeat' (first | exact Below.refl _ _ | assumption | refine Below.drew ?_ | refine Below.alloc ?_ ?_ _ | refine Below.setCell ?_ ?_ _ | (apply below_via; assumption) | (simp; done) | omega | (simp; omega)))

end Go.Proofs.Ytfiaobhkhedpiaa
