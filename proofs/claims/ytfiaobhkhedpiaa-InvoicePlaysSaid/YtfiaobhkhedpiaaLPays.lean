/- The law InvoicePays, walked: whatever lines and parts, it answers true. -/
import Derived.Test.YtfiaobhkhedpiaaInv8
namespace Go.Proofs.Ytfiaobhkhedpiaa
open Go.RowKit

def encZ (n : Int) : List Value := [.int .i64 n]
def stOf (v : Inv) : Prop := (leftI v = 0 ∧ v.state = 2) ∨ (leftI v ≠ 0 ∧ v.state = 1)
/-- one part of a bill's settling, in numbers. -/
def Part (l0 u m f l1 : Int) : Prop := (l0 = 0 ∧ f = 25 ∧ l1 = 0) ∨ (l0 ≠ 0 ∧ (u < 1 ∨ l0 < u) ∧ f = 6 ∧ l1 = l0) ∨ (l0 ≠ 0 ∧ 1 ≤ u ∧ u ≤ l0 ∧ f = 0 ∧ m = l0 - u ∧ l1 = l0 - u)
theorem part_P {x y : IA} {u m f : Int} (hg : goodI x.v) (hs : stOf x.v) (h : PayRel addP x u y m f) : Part (leftI x.v) u m f (leftI y.v) ∧ goodI y.v ∧ stOf y.v := by
  have hl : ∀ v : Inv, leftI v = v.total - v.paid - v.credited := fun _ => rfl
  rcases h with ⟨h1, rfl, rfl, rfl⟩ | ⟨h1, h2, rfl, rfl, rfl⟩ | ⟨h1, h2, rfl, rfl, rfl⟩
  · refine ⟨.inl ?_, hg, hs⟩
    rcases hs with ⟨a, b⟩ | ⟨a, b⟩ <;> omega
  · refine ⟨.inr (.inl ?_), hg, hs⟩
    rcases hs with ⟨a, b⟩ | ⟨a, b⟩ <;> omega
  · have hgy := (settle_P hg h2.1 h2.2).good
    have e : leftI (addP x.v u) = leftI x.v - u := by simp only [hl, addP]; omega
    have e2 : leftI (doneI (addP x.v u)) = leftI x.v - u := by rw [← e]; unfold doneI; split <;> rfl
    refine ⟨.inr (.inr ⟨by omega, h2.1, h2.2, rfl, by rw [e], e2⟩), ?_, ?_⟩
    · show goodI (doneI _)
      unfold doneI; split
      · exact ⟨hgy.paid, hgy.cred, hgy.sum, hgy.tot, hgy.lines, .inr (.inl rfl)⟩
      · exact hgy
    · show stOf (doneI _)
      unfold stOf
      rw [e2, ← e]
      unfold doneI; split
      · exact .inl ⟨by assumption, rfl⟩
      · exact .inr ⟨by assumption, h1⟩
theorem part_C {x y : IA} {u m f : Int} (hg : goodI x.v) (hs : stOf x.v) (h : PayRel addC x u y m f) : Part (leftI x.v) u m f (leftI y.v) ∧ goodI y.v ∧ stOf y.v := by
  have hl : ∀ v : Inv, leftI v = v.total - v.paid - v.credited := fun _ => rfl
  rcases h with ⟨h1, rfl, rfl, rfl⟩ | ⟨h1, h2, rfl, rfl, rfl⟩ | ⟨h1, h2, rfl, rfl, rfl⟩
  · refine ⟨.inl ?_, hg, hs⟩
    rcases hs with ⟨a, b⟩ | ⟨a, b⟩ <;> omega
  · refine ⟨.inr (.inl ?_), hg, hs⟩
    rcases hs with ⟨a, b⟩ | ⟨a, b⟩ <;> omega
  · have hgy := (settle_C hg h2.1 h2.2).good
    have e : leftI (addC x.v u) = leftI x.v - u := by simp only [hl, addC]; omega
    have e2 : leftI (doneI (addC x.v u)) = leftI x.v - u := by rw [← e]; unfold doneI; split <;> rfl
    refine ⟨.inr (.inr ⟨by omega, h2.1, h2.2, rfl, by rw [e], e2⟩), ?_, ?_⟩
    · show goodI (doneI _)
      unfold doneI; split
      · exact ⟨hgy.paid, hgy.cred, hgy.sum, hgy.tot, hgy.lines, .inr (.inl rfl)⟩
      · exact hgy
    · show stOf (doneI _)
      unfold stOf
      rw [e2, ← e]
      unfold doneI; split
      · exact .inl ⟨by assumption, rfl⟩
      · exact .inr ⟨by assumption, h1⟩
/-- lines without an error have sums that are not below 0. -/
theorem sums_nonneg {l : List RLine} (h : firstErr l = 0) : 0 ≤ sumN l ∧ 0 ≤ sumT l := by
  have h1 := firstErr_zero h
  have h2 : ∀ x ∈ l, 0 ≤ x.net ∧ 0 ≤ x.tax := fun x hx => by
    obtain ⟨j, hj, rfl⟩ := List.mem_iff_getElem.1 hx
    have := h1 j l[j] (by simp)
    unfold lineErr at this
    split at this
    · simp at this
    · split at this
      · simp at this
      · omega
  clear h1 h
  induction l with
  | nil => simp [sumN, sumT]
  | cons x l ih =>
    have h3 := h2 x (.head _)
    have h4 := ih (fun y hy => h2 y (.tail _ hy))
    simp only [sumN, sumT, List.map_cons, List.sum_cons] at *
    omega
theorem new_good {n : Nat} {account cur : ByteArray} {at_ f t : Int} {l : List RLine} (h : issueE [] account cur at_ f t l = 0) : goodI (newInv n account cur at_ f t l) ∧ stOf (newInv n account cur at_ f t l) := by
  obtain ⟨e1, e2, e3, e4⟩ := issueE_zero h
  obtain ⟨n1, n2, n3⟩ := askE_lines e1
  obtain ⟨⟨u1, u2, u3⟩, e5⟩ := (sumR_err l).2 e3
  obtain ⟨s1, s2⟩ := sums_nonneg e2
  unfold inU at u3
  refine ⟨⟨by simp [newInv], by simp [newInv], by simp only [newInv]; omega, by simp only [newInv]; omega, by simp only [newInv]; omega, by simp only [newInv]; split <;> simp⟩, ?_⟩
  unfold stOf leftI
  simp only [newInv]
  split <;> simp <;> omega
end Go.Proofs.Ytfiaobhkhedpiaa
