/- The law WideOrder, walked: comparison is an order. -/
import Derived.Test.YtfiaobhkhedpiaaW14
import Derived.Deep.CutBlock
import Derived.Deep.CutRange
namespace Go.Proofs.Ytfiaobhkhedpiaa
open Go.RowKit Go.Lib

theorem keptX {W w1 w2 : World} (hb : Below w1.heap.size w1 w2) (h1 : Below W.heap.size W w1) : Below W.heap.size W w2 := h1.trans (hb.mono h1.size)

/-- two whole numbers that differ: in the high word, or in the low one. -/
theorem Wd.ne_words {a b : Int} (ha : Wd.fit a) (hb : Wd.fit b) (h : a ≠ b) : (Wd.hi a == Wd.hi b) = false ∨ ((Wd.hi a == Wd.hi b) = true ∧ (Wd.lo a == Wd.lo b) = false) := by
  by_cases h1 : Wd.hi a = Wd.hi b
  · refine Or.inr ⟨by simpa using h1, ?_⟩
    have : Wd.lo a ≠ Wd.lo b := fun h2 => h (Wd.eq_of a b ha hb h1 h2)
    simpa using this
  · exact Or.inl (by simpa using h1)
theorem Wd.sg_bd (v : Int) : -1 ≤ Wd.sg v ∧ Wd.sg v ≤ 1 := by unfold Wd.sg; split; omega; split <;> omega
theorem Wd.sg_zero : Wd.sg 0 = 0 := rfl
theorem Wd.sg_neg {v : Int} (h : v < 0) : Wd.sg v = -1 := if_pos h
theorem Wd.sg_pos {v : Int} (h : 0 < v) : Wd.sg v = 1 := by unfold Wd.sg; rw [if_neg (by omega), if_neg (by omega)]
theorem Wd.sg_le {v : Int} : Wd.sg v ≤ 0 ↔ v ≤ 0 := by unfold Wd.sg; split; omega; split <;> omega

end Go.Proofs.Ytfiaobhkhedpiaa
