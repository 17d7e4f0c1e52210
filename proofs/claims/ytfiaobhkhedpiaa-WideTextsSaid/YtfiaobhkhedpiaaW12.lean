/- Walks of package wide: reading digits; the chapter's example. -/
import Derived.Test.YtfiaobhkhedpiaaW11
namespace Go.Proofs.Ytfiaobhkhedpiaa
open Go.RowKit Go.Lib

def Wd.odd (x : Nat) : Bool := decide (x < 48) || decide (57 < x)

theorem odd_lo (x : Nat) (h : x < 48) (w : World) : Calls Try.prog 81 #[.int .i32 (x : Int)] w fun e w' => e = .returned (.bool true) ∧ w = w' := by
  have h1 : decide ((x : Int) < 48) = true := by simp; omega
  go_enter Try.func81, Try.ntmps81
  go_wp2
  go_ret
  exact ⟨rfl, rfl⟩
theorem odd_hi (x : Nat) (h : 57 < x) (w : World) : Calls Try.prog 81 #[.int .i32 (x : Int)] w fun e w' => e = .returned (.bool true) ∧ w = w' := by
  have h1 : decide ((x : Int) < 48) = false := by simp; omega
  have h2 : decide ((57 : Int) < (x : Int)) = true := by simp; omega
  go_enter Try.func81, Try.ntmps81
  go_wp2
  go_ret
  exact ⟨rfl, rfl⟩
theorem odd_no (x : Nat) (h : 48 ≤ x) (h' : x ≤ 57) (w : World) : Calls Try.prog 81 #[.int .i32 (x : Int)] w fun e w' => e = .returned (.bool false) ∧ w = w' := by
  have h1 : decide ((x : Int) < 48) = false := by simp; omega
  have h2 : decide ((57 : Int) < (x : Int)) = false := by simp; omega
  go_enter Try.func81, Try.ntmps81
  go_wp2
  go_ret
  exact ⟨rfl, rfl⟩

theorem odd_gives (w : World) : PredAt Try.prog 81 #[] encR Wd.odd w := by
  intro W x hb
  unfold FnGives Wd.odd
  by_cases h1 : x < 48
  · refine (odd_lo x h1 W).mono ?_
    rintro e w' ⟨rfl, rfl⟩
    exact ⟨by simp [h1], 0, rfl⟩
  · by_cases h2 : 57 < x
    · refine (odd_hi x h2 W).mono ?_
      rintro e w' ⟨rfl, rfl⟩
      exact ⟨by simp [h2], 0, rfl⟩
    · refine (odd_no x (by omega) (by omega) W).mono ?_
      rintro e w' ⟨rfl, rfl⟩
      exact ⟨by simp [h1, h2], 0, rfl⟩

theorem enter_odd : ∀ args w, (callFunc 81 args).run Try.prog w = .ok (.enter 81 args) w := enters_of Try.func81 (by kernel_rfl) rfl

/-- no byte but digits. -/
theorem contains_w (s : ByteArray) (w : World) :
    Calls Try.prog 82 #[.string s, .func (.func 81) #[] #[]] w fun e w' => e = .returned (.bool (decide (0 ≤ Lib.idxFunc Wd.odd true s))) ∧ Below w.heap.size w w' :=
  Try.strings_ContainsFunc 81 #[] enter_odd Wd.odd s w (odd_gives w)

theorem idx_zero : Lib.idxFunc Wd.odd true ⟨#[48]⟩ = -1 := by decide +kernel

set_option maxRecDepth 100000 in
set_option maxHeartbeats 1000000 in
theorem Parse_m0 (w : World) : Calls Try.prog 30 #[.string ⟨#[45, 48]⟩] w fun e w' => e = .returned (.tuple #[Value.agg #[.int .u64 (Wd.hi (0)), .int .u64 (Wd.lo (0))], .int .i64 10]) ∧ Below w.heap.size w w' := by
  have hi := idx_zero
  go_enter Try.func30, Try.ntmps30
  go_wp2_with fail
  refine (Try.strings_CutPrefix _ _ _).mono ?_
  rintro e w1 ⟨rfl, hw1⟩
  rw [hw1]
  rw [show (Lib.trimPrefix (ByteArray.mk #[45, 48]).data.toList (ByteArray.mk #[45]).data.toList) = [48] from by decide +kernel, show Lib.hasPrefix (ByteArray.mk #[45, 48]).data.toList (ByteArray.mk #[45]).data.toList = true from by decide +kernel]
  clear hw1
  go_wp2_with fail
  refine (contains_w _ _).mono ?_
  rintro e w2 ⟨rfl, hb⟩
  rw [hi]
  obtain ⟨hc_hb, hf_hb⟩ := bcell hb; have hz_hb := Below.size hb; (try simp at hz_hb); have z0_hb : w.heap.size < w2.heap.size := (by omega); have c00_hb := hc_hb (w.heap.size) 0 (by (try simp) <;> omega); have f00_hb := hf_hb (w.heap.size) 0 (by (try simp) <;> omega); have c01_hb := hc_hb (w.heap.size) 1 (by (try simp) <;> omega); have f01_hb := hf_hb (w.heap.size) 1 (by (try simp) <;> omega); clear hc_hb hf_hb; (try simp [*, go_sem] at c00_hb); (try simp [*, go_sem] at f00_hb); (try simp [*, go_sem] at c01_hb); (try simp [*, go_sem] at f01_hb)
  go_wp2
  exact bodyPost_ret (v := .tuple #[Value.agg #[.int .u64 (Wd.hi (0)), .int .u64 (Wd.lo (0))], .int .i64 10]) (by simp [*, results, Try.results30, go_sem, Wd.hi_zero, Wd.lo_zero]) rfl ⟨rfl, by (repeat' (first | exact Below.refl _ _ | assumption | refine Below.drew ?_ | refine Below.alloc ?_ ?_ _ | refine Below.setCell ?_ ?_ _ | (apply below_via; assumption) | (simp; done) | omega | (simp; omega)))⟩

end Go.Proofs.Ytfiaobhkhedpiaa
