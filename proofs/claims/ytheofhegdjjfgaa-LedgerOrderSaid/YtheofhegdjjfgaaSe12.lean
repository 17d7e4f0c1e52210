/- Pieces of slices, put together; texts in order. -/
import Derived.Test.YtheofhegdjjfgaaSe8
namespace Go.Proofs.Ytheofhegdjjfgaa
open Go.RowKit
variable {P : Program} {n : Nat} {F0 : Nat → Prop} {w0 w : World} {a : Act} {L : List (Nat × Value)} {Γ : List Asn} {dst : Option Nat}
variable {ty : Nat} {pos : String} {af : Array Edge} {g : Option (Nat × Bool)} {K : Act → World → Prop} {Q : Exit → Act → World → Prop} {d : Nat}

def leS (x y : ByteArray) : Bool := Go.Op.bytesLess x.toList y.toList || (x.toList == y.toList)
theorem e_leS {t t' : TypeId} {x y : Operand} {i j : ByteArray} (hx : ev L x = some (.string i)) (hy : ev L y = some (.string j)) : Ex P n a L Γ ⟨dst, .binOp .leq t x y t', ty, pos, af, g⟩ (.bool (leS i j)) := fun hs w hh => by
  simp only [execOp, hs.ev hx, hs.ev hy, eqGuard, binOp, Op.stringOp]
  rfl

/-- where a slice's tail lies. -/
def tailP (q : Option Addr) (k c s : Nat) : Option Addr := if c = k then q else q.map (·.add (k * s))
theorem e_slT {T E s m c : Nat} {p : Option Addr} {x y : Operand} {k : IntKind} {j : Nat} (hx : ev L x = some (.slice p m c)) (hy : ev L y = some (.int k (j : Int))) (hT : sliceT P T = some E) (hs : szOf P E = some s) (hj : j ≤ m) :
    Ex P n a L Γ ⟨dst, .slice T x (some y) none none, ty, pos, af, g⟩ (.slice (tailP p j c s) (m - j) (c - j)) := fun hs' w hh => by
  obtain ⟨h1, h2⟩ := sliceT_elem hT
  have h3 := run_sliceAt_slice (P := P) (w := w) T (.slice p m c) (some (.int k (j : Int))) none none h1
  have h4 := run_slice_l (P := P) (w := w) T p m c h1 k (j : Int) (by omega) (by omega)
  rw [h2, sizeOf_run hs] at h4
  simp [execOp, hs'.ev hx, hs'.ev hy, h3, h4, Result.andThen, sliced, tailP]

/-- it can be read there, or it is nothing at all. -/
def ReadQ (w : World) (q : Option Addr) (k c : Nat) (ys : List Value) : Prop := (q = none ∧ k = 0 ∧ c = 0 ∧ ys = []) ∨ ∃ bx ox, q = some ⟨bx, ox, none⟩ ∧ ∀ j u, ys[j]? = some u → w.cell? ⟨bx, ox + j, none⟩ = some u
theorem flat_drop {α : Type} {enc : α → List Value} {s : Nat} (hl : ∀ x, (enc x).length = s) : ∀ (xs : List α) (k : Nat), (xs.drop k).flatMap enc = (xs.flatMap enc).drop (k * s)
  | xs, 0 => by simp
  | [], k + 1 => by simp
  | x :: xs, k + 1 => by
    rw [List.drop_succ_cons, flat_drop hl xs k, List.flatMap_cons, Nat.add_mul, Nat.one_mul, Nat.add_comm, ← List.drop_drop]
    congr 1
    rw [List.drop_append_of_le_length (by rw [hl]; exact Nat.le_refl _), List.drop_eq_nil_of_le (by rw [hl]; exact Nat.le_refl _), List.nil_append]
theorem flat_take {α : Type} {enc : α → List Value} {s : Nat} (hl : ∀ x, (enc x).length = s) : ∀ (xs : List α) (k : Nat), (xs.take k).flatMap enc = (xs.flatMap enc).take (k * s)
  | xs, 0 => by simp
  | [], k + 1 => by simp
  | x :: xs, k + 1 => by
    have e1 : (enc x).take ((k + 1) * s) = enc x := List.take_of_length_le (by rw [hl, Nat.add_mul]; omega)
    have e2 : (k + 1) * s - s = k * s := by rw [Nat.add_mul]; omega
    rw [List.take_succ_cons, List.flatMap_cons, flat_take hl xs k, List.flatMap_cons, List.take_append, e1, hl, e2]
theorem own_head {α : Type} {enc : α → List Value} {s E m c k : Nat} {q : Option Addr} {xs : List α} (h : w.ownsRow 0 E s (.slice q m c) m (xs.flatMap enc)) (hl : ∀ x, (enc x).length = s) (hk : k ≤ m) : ReadQ w q k c ((xs.take k).flatMap enc) := by
  rcases h.2 with ⟨e1, e2⟩ | ⟨g, cap, cur, e1, _⟩
  · injection e1 with e3 e4 e5
    subst e3 e5
    refine .inl ⟨rfl, by omega, rfl, ?_⟩
    rw [show k = 0 by omega]; simp
  · injection e1 with e3 e4 e5
    subst e3
    refine .inr ⟨g, 0, rfl, fun j u hj => ?_⟩
    rw [flat_take hl] at hj
    have h1 : (xs.flatMap enc)[j]? = some u := by
      rw [List.getElem?_take] at hj
      split at hj
      · exact hj
      · cases hj
    have h2 := World.ownsRow.cells h (g := g) rfl _ _ h1
    rw [addr_add] at h2
    rw [← h2]
theorem own_tail {α : Type} {enc : α → List Value} {s E m c k : Nat} {q : Option Addr} {xs : List α} (h : w.ownsRow 0 E s (.slice q m c) m (xs.flatMap enc)) (hl : ∀ x, (enc x).length = s) (hx : xs.length = m) (hk : k ≤ m) : ReadQ w (tailP q k c s) (m - k) (c - k) ((xs.drop k).flatMap enc) := by
  rcases h.2 with ⟨e1, e2⟩ | ⟨g, cap, cur, e1, _, _, hcap, _⟩
  · injection e1 with e3 e4 e5
    subst e3 e5
    refine .inl ⟨by unfold tailP; split <;> rfl, by omega, by omega, ?_⟩
    rw [List.drop_eq_nil_of_le (by omega)]; rfl
  · injection e1 with e3 e4 e5
    subst e3 e5
    by_cases e : c = k
    · refine .inr ⟨g, 0, by unfold tailP; rw [if_pos e], fun j u hj => ?_⟩
      rw [List.drop_eq_nil_of_le (by omega)] at hj; simp at hj
    · refine .inr ⟨g, k * s, by unfold tailP; rw [if_neg e]; simp [addr_add], fun j u hj => ?_⟩
      rw [flat_drop hl, List.getElem?_drop] at hj
      have h2 := World.ownsRow.cells h (g := g) rfl _ _ hj
      rw [addr_add] at h2
      rw [← h2]; congr 2; omega
/-- 'append(s, x..)' of what can be read, or is nothing. -/
theorem s_appendQ {T E s b : Nat} {zs : List Value} {x y : Operand} {v : Value} {m k c : Nat} {q : Option Addr} {cs ys : List Value} {Γ' : Value → List Asn} (hS : St n F0 w0 a w L Γ) (hx : ev L x = some v) (hy : ev L y = some (.slice q k c))
    (hT : sliceT P T = some E) (hs : szOf P E = some s) (hb : byOf P E = some b) (hz : zeroOf P E = some zs) (hzl : Nat.beq zs.length s = true) (hs0 : Nat.blt 0 s = true) (hn : Nat.blt d n = true)
    (hm : ownA E s v m cs ∈ Γ) (hyl : ys.length = k * s) (hq : ReadQ w q k c ys) (h1 : ∀ u ∈ ys, isOne u = true) (hbd : (m + k) * b ≤ 140737488355328 ∧ m + k ≤ 4611686018427387904)
    (hr : ∀ v', Rep (ownA E s v m cs) (ownA E s v' (m + k) (cs ++ ys)) Γ (Γ' v'))
    (h : ∀ v' a' w', (v' = .slice none 0 0 ↔ v = .slice none 0 0 ∧ k = 0) → St n F0 w0 a' w' ((d, v') :: L) (Γ' v') → K a' w') : OW P ⟨some d, .call ⟨.builtin .append, #[x, y], #[T, T]⟩, ty, pos, af, g⟩ a w K Q := by
  rcases hq with ⟨rfl, rfl, rfl, rfl⟩ | ⟨bx, ox, rfl, hys⟩
  · refine s_e hS (e_append0 hx hy hT hs hb hz hm) hn (fun a' hS' => h v a' w (by simp) ?_)
    have hown : w.ownsRow 0 E s v m cs := hS.get hm
    refine hS'.upd (hr v) (Chg.refl _ _) ?_ (fun b hb => .inl hb) rfl
    have := ok_own (w := w) (E := E) (s := s) (v := v) (m := m) (xs := cs) hown
    rwa [Nat.add_zero, List.append_nil]
  · exact s_append hS hx hy hT hs hb hz hzl hs0 hn hm hyl hys h1 hbd hr h
end Go.Proofs.Ytheofhegdjjfgaa
