/- Whole structs stored into rows of one's own; a row copied. -/
import Derived.Test.YtfiaobhkhedpiaaSe8
namespace Go.Proofs.Ytfiaobhkhedpiaa
open Go.RowKit
variable {P : Program} {n : Nat} {F0 : Nat → Prop} {w0 w : World} {a : Act} {L : List (Nat × Value)} {Γ : List Asn} {dst : Option Nat}
variable {ty : Nat} {pos : String} {af : Array Edge} {g : Option (Nat × Bool)} {K : Act → World → Prop} {Q : Exit → Act → World → Prop} {d : Nat}

def setMany : List Value → Nat → List Value → List Value
  | xs, _, [] => xs
  | xs, j, v :: vs => setMany (xs.set j v) (j + 1) vs
theorem setMany_mid : ∀ (vs A B C : List Value), B.length = vs.length → setMany (A ++ (B ++ C)) A.length vs = A ++ (vs ++ C)
  | [], A, B, C, h => by
    have : B = [] := List.eq_nil_of_length_eq_zero (by simpa using h)
    subst this; rfl
  | v :: vs, A, [], C, h => by simp at h
  | v :: vs, A, b :: B, C, h => by
    have h1 : (A ++ (b :: B ++ C)).set A.length v = (A ++ [v]) ++ (B ++ C) := by simp
    show setMany ((A ++ (b :: B ++ C)).set A.length v) (A.length + 1) vs = _
    rw [h1]
    have h2 := setMany_mid vs (A ++ [v]) B C (by simpa using h)
    simp only [List.length_append, List.length_cons, List.length_nil, Nat.zero_add] at h2
    rw [h2]; simp
theorem flat_put {α : Type} {enc : α → List Value} {s : Nat} (hl : ∀ x, (enc x).length = s) {xs : List α} {i : Nat} {x y : α} (hx : xs[i]? = some x) : setMany (xs.flatMap enc) (i * s) (enc y) = (xs.set i y).flatMap enc := by
  obtain ⟨hi, e⟩ := List.getElem?_eq_some_iff.1 hx
  have e1 : xs = xs.take i ++ x :: xs.drop (i + 1) := by rw [← e, List.getElem_cons_drop, List.take_append_drop]
  have e2 : (xs.take i).length = i := by simp; omega
  have e3 : ((xs.take i).flatMap enc).length = i * s := by rw [flat_len enc s hl, e2]
  have e4 : xs.set i y = xs.take i ++ y :: xs.drop (i + 1) := by rw [List.set_eq_take_append_cons_drop, if_pos hi]
  rw [e4]
  conv => lhs; rw [e1]
  rw [List.flatMap_append, List.flatMap_cons, List.flatMap_append, List.flatMap_cons, ← e3]
  exact setMany_mid (enc y) _ (enc x) _ (by rw [hl, hl])
theorem storeOwn_run {E s gb m c o : Nat} : ∀ (vs : List Value) (i : Nat) (w : World) (xs : List Value), w.ownsRow 0 E s (.slice (some ⟨gb, 0, none⟩) m c) m xs → o + i + vs.length ≤ m * s → (∀ v ∈ vs, isOne v = true) →
    ∃ w', (storeCells ⟨gb, o, none⟩ vs i).run P w = .ok () w' ∧ w'.ownsRow 0 E s (.slice (some ⟨gb, 0, none⟩) m c) m (setMany xs (o + i) vs) ∧ Chg (fun k => k = gb) w w' := by
  intro vs
  induction vs with
  | nil => intro i w xs h _ _; exact ⟨w, by simp [storeCells], h, Chg.refl _ _⟩
  | cons v vs ih =>
    intro i w xs h hb h1
    have hv := h1 v (by simp)
    simp only [List.length_cons] at hb
    have hcell : w.cell? ⟨gb, o + i, none⟩ = xs[o + i]? := World.ownsRow.cellAt h (o + i) (by omega)
    rw [List.getElem?_eq_getElem (by rw [h.1]; omega)] at hcell
    have hfz := World.ownsRow.frozenAt h (o + i)
    have hst := (World.ownsRow.stored h (o + i) v).1
    obtain ⟨w', h2, h3, h4⟩ := ih (i + 1) _ _ hst (by omega) (fun u hu => h1 u (by simp [hu]))
    refine ⟨w', ?_, by rw [← Nat.add_assoc] at h3; exact h3, (Chg.setCell w ⟨gb, o + i, none⟩ v).trans h4 (fun i hi _ => hi)⟩
    simp [storeCells, addr_add, run_store _ _ _ _ _ (isOne_oneCell hv), hcell, hfz, h2]
/-- a struct stored whole into an element of a row of the walk's own. -/
theorem s_storeOA {α : Type} {enc : α → List Value} {T gb i s m c E : Nat} {x y : Operand} {xs : List α} {u v : α} {Γ' : List Asn} (hS : St n F0 w0 a w L Γ) (hx : ev L x = some (.pointer (some ⟨gb, 0 + i * s, none⟩))) (hy : ev L y = some (.agg (enc v).toArray)) (hl : ∀ x, (enc x).length = s)
    (h1 : (enc v).all isOne = true) (hz : szOf P T = some s) (hu : xs[i]? = some u) (hm : xs.length = m) (hr : Rep (ownA E s (.slice (some ⟨gb, 0, none⟩) m c) m (xs.flatMap enc)) (ownA E s (.slice (some ⟨gb, 0, none⟩) m c) m ((xs.set i v).flatMap enc)) Γ Γ') (h : ∀ w', St n F0 w0 a w' L Γ' → K a w') : OW P ⟨none, .store T x y, ty, pos, af, g⟩ a w K Q := by
  have hown : w.ownsRow 0 E s (.slice (some ⟨gb, 0, none⟩) m c) m (xs.flatMap enc) := hS.get hr.mem
  have hi : i < m := by rw [← hm]; exact (List.getElem?_eq_some_iff.1 hu).1
  obtain ⟨w', h2, h3, h4⟩ := storeOwn_run (P := P) (o := 0 + i * s) (enc v) 0 w _ hown (by rw [hl]; have := Nat.mul_le_mul_right s (show i + 1 ≤ m from hi); rw [Nat.add_mul] at this; omega) (by simpa using h1)
  rw [Nat.zero_add, Nat.add_zero, flat_put hl hu] at h3
  rw [Nat.zero_add] at h2
  have he : (execOp a.eval (⟨none, .store T x y, ty, pos, af, g⟩ : Oper)).run P w = .ok .skip w' := by
    simp [execOp, hS.sl.ev hx, hS.sl.ev hy, Instr.storeAt, Instr.sureAddr, storeVar, sizeOf_run hz, Value.cells, hl, h2]
  refine ⟨?_⟩
  unfold Oper.wp
  rw [he]
  exact h _ (hS.upd hr (h4.mono (fun k hk => by rw [hk]; rfl)) (ok_own h3) (fun k hk => .inl hk) rfl)
theorem own_get {α : Type} {enc : α → List Value} {s E g c m : Nat} {xs : List α} (hl : ∀ x, (enc x).length = s) (hm : ownA E s (.slice (some ⟨g, 0, none⟩) m c) m (xs.flatMap enc) ∈ Γ) {i : Nat} {x : α} (hx : xs[i]? = some x) : ∀ w, Hd Γ w → ∀ j v, (enc x)[j]? = some v → w.cell? ⟨g, 0 + i * s + j, none⟩ = some v := by
  intro w hh j v hj
  have h : w.ownsRow 0 E s (.slice (some ⟨g, 0, none⟩) m c) m (xs.flatMap enc) := hh _ hm
  have h1 := flat_get enc s hl xs i x hx j v hj
  have h2 := World.ownsRow.cells h (g := g) rfl _ _ h1
  rw [addr_add] at h2
  rw [← h2]; congr 2; omega
end Go.Proofs.Ytfiaobhkhedpiaa
