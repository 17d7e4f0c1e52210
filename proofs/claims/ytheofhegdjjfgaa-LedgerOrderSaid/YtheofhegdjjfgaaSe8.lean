/- Entries put together one by one; small words for walks. -/
import Derived.Test.YtheofhegdjjfgaaSe7
namespace Go.Proofs.Ytheofhegdjjfgaa
open Go.RowKit
variable {n : Nat} {F0 : Nat → Prop} {w0 w : World} {a : Act} {L : List (Nat × Value)} {Γ : List Asn} {X Y : Asn}

theorem okN : ∀ X ∈ ([] : List Asn), X.ok w := fun _ h => by cases h
theorem okC (h : X.ok w) (t : ∀ Y ∈ Γ, Y.ok w) : ∀ Y ∈ X :: Γ, Y.ok w := fun Y hY => by
  rcases List.mem_cons.1 hY with rfl | hY
  · exact h
  · exact t Y hY
theorem mineN : ∀ X ∈ ([] : List Asn), X.mine = true → ∀ b, X.F b → w.heap.size ≤ b ∨ F0 b := fun _ h => by cases h
/-- an entry that is only read. -/
theorem mineC (h : X.mine = false) (t : ∀ Y ∈ Γ, Y.mine = true → ∀ b, Y.F b → w.heap.size ≤ b ∨ F0 b) : ∀ Y ∈ X :: Γ, Y.mine = true → ∀ b, Y.F b → w.heap.size ≤ b ∨ F0 b := fun Y hY hm b hb => by
  rcases List.mem_cons.1 hY with rfl | hY
  · rw [h] at hm; cases hm
  · exact t Y hY hm b hb
/-- an entry that may change. -/
theorem mineO (h : ∀ b, X.F b → F0 b) (t : ∀ Y ∈ Γ, Y.mine = true → ∀ b, Y.F b → w.heap.size ≤ b ∨ F0 b) : ∀ Y ∈ X :: Γ, Y.mine = true → ∀ b, Y.F b → w.heap.size ≤ b ∨ F0 b := fun Y hY hm b hb => by
  rcases List.mem_cons.1 hY with rfl | hY
  · exact .inr (h b hb)
  · exact t Y hY hm b hb
theorem disN : ([] : List Asn).Pairwise (fun X Y => ∀ b, X.F b → ¬ Y.F b) := .nil
theorem dis1 : [X].Pairwise (fun X Y => ∀ b, X.F b → ¬ Y.F b) := List.pairwise_singleton _ _
theorem disC (h : ∀ Y ∈ Γ, ∀ b, X.F b → ¬ Y.F b) (t : Γ.Pairwise (fun X Y => ∀ b, X.F b → ¬ Y.F b)) : (X :: Γ).Pairwise (fun X Y => ∀ b, X.F b → ¬ Y.F b) := List.pairwise_cons.2 ⟨h, t⟩
theorem sepN : ∀ Y ∈ ([] : List Asn), ∀ b, X.F b → ¬ Y.F b := fun _ h => by cases h
theorem sepC (h : ∀ b, X.F b → ¬ Y.F b) (t : ∀ Z ∈ Γ, ∀ b, X.F b → ¬ Z.F b) : ∀ Z ∈ Y :: Γ, ∀ b, X.F b → ¬ Z.F b := fun Z hZ => by
  rcases List.mem_cons.1 hZ with rfl | hZ
  · exact h
  · exact t Z hZ
/-- two entries of a state have no block in common. -/
theorem St.sep (h : St n F0 w0 a w L Γ) {Γ' : List Asn} (hr : Rem X Γ Γ') (hm : Y ∈ Γ') : ∀ b, X.F b → ¬ Y.F b := by
  have hp := hr.perm
  have h2 := (h.perm hp.symm).dis
  exact (List.pairwise_cons.1 h2).1 Y hm

/-! ### two ways that meet again -/
theorem lk_append {E L : List (Nat × Value)} {t : Nat} (h : ∀ q ∈ E, q.1 ≠ t) : lk (E ++ L) t = lk L t := by
  induction E with
  | nil => rfl
  | cons q E ih =>
    obtain ⟨s, u⟩ := q
    have h1 : Nat.beq s t = false := nbeq_no (h _ (.head _))
    show (bif Nat.beq s t then some u else lk (E ++ L) t) = _
    rw [h1]
    exact ih (fun q hq => h q (.tail _ hq))
/-- no slot of the first list, but for the one of the guard, is one of the second. -/
def freshX (g : Nat) (E L : List (Nat × Value)) : Bool := E.all fun q => Nat.beq q.1 g || L.all fun p => !Nat.beq q.1 p.1
theorem lk_mem {L : List (Nat × Value)} {t : Nat} {v : Value} (h : lk L t = some v) : ∃ p ∈ L, p.1 = t := by
  induction L with
  | nil => cases h
  | cons q L ih =>
    obtain ⟨s, u⟩ := q
    by_cases e : s = t
    · exact ⟨_, .head _, e⟩
    · have h1 : Nat.beq s t = false := nbeq_no e
      have h2 : lk L t = some v := by
        have h3 : (bif Nat.beq s t then some u else lk L t) = some v := h
        rw [h1] at h3; exact h3
      obtain ⟨p, hp, e2⟩ := ih h2
      exact ⟨p, .tail _ hp, e2⟩
theorem St.ends {L' : List (Nat × Value)} (hS : St n F0 w0 a w L' Γ) (m t g : Nat) {u v x y : Value} (h : lk L' t = some u) (he : u = v) (hg : lk L' g = some x) (hg2 : lk (L'.drop m) g = some y) (hxy : x = y) (hk : freshX g (L'.take m) (L'.drop m) = true) :
    St n F0 w0 a w ((t, v) :: L'.drop m) Γ := by
  refine hS.act ⟨hS.sl.size, hS.sl.defers, fun s z hz => ?_⟩
  have hz : (bif Nat.beq t s then some v else lk (L'.drop m) s) = some z := hz
  by_cases e : t = s
  · subst e
    have h1 : Nat.beq t t = true := by simp
    rw [h1] at hz; cases hz
    rw [← he]; exact hS.sl.get _ _ h
  · rw [nbeq_no e] at hz
    have hz : lk (L'.drop m) s = some z := hz
    by_cases e2 : g = s
    · subst e2
      rw [hg2] at hz; cases hz
      rw [← hxy]; exact hS.sl.get _ _ hg
    · refine hS.sl.get _ _ ?_
      obtain ⟨p, hp, e3⟩ := lk_mem hz
      rw [← List.take_append_drop m L', lk_append, hz]
      intro q hq e4
      have h1 := List.all_eq_true.1 hk q hq
      have h2 : Nat.beq q.1 g = false := nbeq_no (by rw [e4]; exact fun e5 => e2 e5.symm)
      rw [h2, Bool.false_or] at h1
      have h3 := List.all_eq_true.1 h1 p hp
      rw [e4, e3] at h3
      have h4 : Nat.beq s s = true := by simp
      rw [h4] at h3; cases h3
theorem L_merge {P : Program} {Q : Exit → Act → World → Prop} {ops : Array Oper} {l : List Oper} (m t : Nat) (v : Value) (_hS : St n F0 w0 a w L Γ) (hseg : (∀ a w, St n F0 w0 a w ((t, v) :: L) Γ → wpList P ops Q (l.drop m) a w) → wpList P ops Q l a w) (hcont : ∀ a w, St n F0 w0 a w ((t, v) :: L) Γ → wpList P ops Q (l.drop m) a w) : wpList P ops Q l a w := hseg hcont
theorem Z_merge {P : Program} {Q : Exit → Act → World → Prop} {ops : Array Oper} {S : World → Prop} {Z : List Nat} {fuel : Nat} {listed : Array Bool} (fuel' : Nat) (listed' : List Bool) (t : Nat) (v : Value) (_hS : St n F0 w0 a w L Γ) (hseg : (∀ a w, St n F0 w0 a w ((t, v) :: L) Γ → wpZ P ops Q S Z fuel' listed'.toArray a w) → wpZ P ops Q S Z fuel listed a w) (hcont : ∀ a w, St n F0 w0 a w ((t, v) :: L) Γ → wpZ P ops Q S Z fuel' listed'.toArray a w) : wpZ P ops Q S Z fuel listed a w := hseg hcont
end Go.Proofs.Ytheofhegdjjfgaa
