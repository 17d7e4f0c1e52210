/- Slices of slices; entries turned over. -/
import Derived.Test.YtheofhegdjjfgaaSe5
import Derived.Laws.OwnMore
namespace Go.Proofs.Ytheofhegdjjfgaa
open Go.RowKit
variable {P : Program} {n : Nat} {F0 : Nat → Prop} {w0 w : World} {a : Act} {L : List (Nat × Value)} {Γ : List Asn} {dst : Option Nat}
variable {ty : Nat} {pos : String} {af : Array Edge} {g : Option (Nat × Bool)}

theorem sliceT_elem {T E : TypeId} (h : sliceT P T = some E) : P.underlying T = some (.slice (P.elem T)) ∧ P.elem T = E := by
  have h1 := sliceT_eq h
  have h2 : P.elem T = E := by simp [Program.elem, h1]
  exact ⟨by rw [h2]; exact h1, h2⟩

/-- 's[:j]'. -/
theorem e_slH {T E s m c : Nat} {p : Option Addr} {x y : Operand} {k : IntKind} {j : Nat} (hx : ev L x = some (.slice p m c)) (hy : ev L y = some (.int k (j : Int))) (hT : sliceT P T = some E) (hs : szOf P E = some s) (hj : j ≤ c) :
    Ex P n a L Γ ⟨dst, .slice T x none (some y) none, ty, pos, af, g⟩ (.slice p j c) := fun hs' w hh => by
  obtain ⟨h1, h2⟩ := sliceT_elem hT
  have h3 := run_sliceAt_slice (P := P) (w := w) T (.slice p m c) none (some (.int k (j : Int))) none h1
  have h4 := run_slice_h (P := P) (w := w) T p m c h1 k (j : Int) (by omega) (by omega)
  rw [h2, sizeOf_run hs] at h4
  have h5 : sliced p 0 j c s = .slice p j c := by
    unfold sliced
    split
    · simp
    · cases p <;> simp [Addr.add]
  simp [execOp, hs'.ev hx, hs'.ev hy, h3, h4, Result.andThen, h5]

/-- an entry is read as another of the same blocks. -/
theorem St.swap (h : St n F0 w0 a w L Γ) {X Y : Asn} {Γ' : List Asn} (hr : Rep X Y Γ Γ') (hY : Y.ok w) (hF : ∀ b, Y.F b → X.F b) (hm : X.mine = true) : St n F0 w0 a w L Γ' :=
  h.upd hr (Chg.refl _ _) hY (fun b hb => .inl (hF b hb)) hm
/-- an empty block, as a row of one's own. -/
theorem own_empty {w : World} {b E s : Nat} (h : w.heap[b]? = some (.cells ([] : List Value).toArray E (0, 0))) : (ownA E s (.slice (some ⟨b, 0, none⟩) 0 0) 0 []).ok w :=
  ok_own ⟨by simp, .inr ⟨b, 0, #[], rfl, Nat.zero_le _, h, Nat.le_refl _, Nat.zero_le _, by simp, by simp⟩⟩

/-- 'make([]T, n)' of one-cell elements. -/
theorem s_makeN1 {K : Act → World → Prop} {Q : Exit → Act → World → Prop} {d : Nat} {T E b : Nat} {z1 : Value} {x y : Operand} {k k' : IntKind} {c : Nat} (hS : St n F0 w0 a w L Γ) (hx : ev L x = some (.int k (c : Int))) (hy : ev L y = some (.int k' (c : Int)))
    (hT : sliceT P T = some E) (hs : szOf P E = some 1) (hb : byOf P E = some b) (hz : zeroOf P E = some [z1]) (hn : Nat.blt d n = true) (hbd : b * c ≤ 281474976710656 ∧ c ≤ 4611686018427387904)
    (h : ∀ b' a' w', St n F0 w0 a' w' ((d, .slice (some ⟨b', 0, none⟩) c c) :: L) (ownA E 1 (.slice (some ⟨b', 0, none⟩) c c) c (List.replicate c z1) :: Γ) → K a' w') : OW P ⟨some d, .makeSlice T x y, ty, pos, af, g⟩ a w K Q := by
  obtain ⟨i, z, hi, hz', hsz, hby, hzc⟩ := info_of hs hb hz
  obtain ⟨w', hrun, hown, hgr⟩ := run_make_full (P := P) w 0 T E i z 1 (sliceT_eq hT) hi hz' hsz k k' c (by rw [hby]; exact hbd.1) (by unfold maxLen; omega) (Nat.zero_le _)
  rw [hzc, Nat.mul_one, toList_madeCells_one] at hown
  have he : (execOp a.eval (⟨some d, .makeSlice T x y, ty, pos, af, g⟩ : Oper)).run P w = .ok (.value (.slice (some ⟨w.heap.size, 0, none⟩) c c)) w' := by
    simp [execOp, hS.sl.ev hx, hS.sl.ev hy, hrun]
  refine ⟨?_⟩
  unfold Oper.wp
  rw [he]
  exact h _ _ _ ((hS.fresh (Chg.grown0 hgr) (ok_own hown) (fun q hq => by
    have : Value.ownBlock (.slice (some ⟨w.heap.size, 0, none⟩) c c) = some q := hq
    simp [Value.ownBlock] at this; omega)).put hn _)

/-! ### drawn regions in which several operations may come next -/
section
variable {Q : Exit → Act → World → Prop} {op : Op}
def ZOp (P : Program) (l : List Oper) (Γs : List Asn) (Z : List Nat) (fuel : Nat) (listed : List Bool) (Q : Exit → Act → World → Prop) (a : Act) (w : World) (i : Nat) : Prop :=
  wpOp P l.toArray Q i (fun a' w' => (Hd Γs w → i ∈ Z ∨ Hd Γs w') ∧ wpZ P l.toArray Q (Hd Γs) Z fuel (listed.toArray.setIfInBounds i true) a' w') a w
def ZAll (P : Program) (l : List Oper) (Γs : List Asn) (Z : List Nat) (fuel : Nat) (listed : List Bool) (Q : Exit → Act → World → Prop) (a : Act) (w : World) : List Nat → Prop
  | [] => True
  | i :: r => ZOp P l Γs Z fuel listed Q a w i ∧ ZAll P l Γs Z fuel listed Q a w r
theorem ZAll.mem {l : List Oper} {Γs : List Asn} {Z : List Nat} {fuel : Nat} {listed : List Bool} : ∀ {js : List Nat}, ZAll P l Γs Z fuel listed Q a w js → ∀ i ∈ js, ZOp P l Γs Z fuel listed Q a w i
  | _ :: _, h, i, hi => by
    rcases List.mem_cons.1 hi with rfl | hi
    · exact h.1
    · exact ZAll.mem h.2 i hi
theorem Z_many {j : Nat} {js : List Nat} {fuel : Nat} {l : List Oper} {Γs : List Asn} {Z : List Nat} {listed : List Bool} (hr : Region.ready .any l.toArray listed.toArray = j :: js) (h : ZAll P l Γs Z fuel listed Q a w (j :: js)) : wpZ P l.toArray Q (Hd Γs) Z (fuel + 1) listed.toArray a w := by
  refine ⟨fun h0 => (by rw [hr] at h0; cases h0), fun i hi => ?_⟩
  rw [hr] at hi
  exact h.mem i hi
theorem Z_op {i fuel : Nat} {l : List Oper} {Γs : List Asn} {Z : List Nat} {listed listed' : List Bool} (hi : l[i]? = some ⟨dst, op, ty, pos, af, g⟩) (hw : Region.wanted ⟨dst, op, ty, pos, af, g⟩ (yielded l.toArray a.tmps) = true) (hl : listed.set i true = listed')
    (h : OW P ⟨dst, op, ty, pos, af, g⟩ a w (fun a' w' => (Hd Γs w → i ∈ Z ∨ Hd Γs w') ∧ wpZ P l.toArray Q (Hd Γs) Z fuel listed'.toArray a' w') Q) : ZOp P l Γs Z fuel listed Q a w i := by
  have hi' : l.toArray[i]? = some ⟨dst, op, ty, pos, af, g⟩ := by simpa using hi
  unfold ZOp wpOp
  simp only [hi']
  rw [if_pos hw]
  subst hl
  refine .inl ?_
  have h := h.h
  simpa using h
end
end Go.Proofs.Ytheofhegdjjfgaa
