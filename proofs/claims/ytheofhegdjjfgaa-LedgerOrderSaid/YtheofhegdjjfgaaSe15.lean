/- Ranges over maps with texts as keys. -/
import Derived.Test.YtheofhegdjjfgaaSe9
import Derived.Maps.RangeRun
import Derived.RangeFuncRecord
namespace Go.Proofs.Ytheofhegdjjfgaa
open Go.RowKit

/-- a range's own place: what it has seen. -/
def itA (it m : Nat) (seen : List Nat) (n : Nat) : Asn := .any (fun k => k = it) (fun w => w.heap[it]? = some (.mapIter (some m) n seen.toArray n)) true
theorem it_ok {it m n : Nat} {seen : List Nat} {w : World} (h : w.heap[it]? = some (.mapIter (some m) n seen.toArray n)) : (itA it m seen n).ok w :=
  ⟨fun k hk => by obtain rfl : k = it := hk; exact (Array.getElem?_eq_some_iff.1 h).1, fun w' hw => by show w'.heap[it]? = _; rw [hw it rfl]; exact h⟩
theorem mkM_mem {l : List (ByteArray × Value)} {e : MapEntry} : ∀ {j : Nat}, e ∈ mkM j l → ∃ i k v, l[i]? = some (k, v) ∧ e = ⟨.string k, v, j + i⟩ := by
  induction l with
  | nil => intro j h; cases h
  | cons p l ih =>
    obtain ⟨k, v⟩ := p
    intro j h
    rcases List.mem_cons.1 h with rfl | h
    · exact ⟨0, k, v, rfl, rfl⟩
    · obtain ⟨i, k2, v2, h1, h2⟩ := ih h
      exact ⟨i + 1, k2, v2, h1, by rw [h2]; congr 1; omega⟩
theorem mkM_born (l : List (ByteArray × Value)) : ∀ j, (mkM j l).map (·.born) = List.range' j l.length := by
  induction l with
  | nil => intro j; rfl
  | cons p l ih => intro j; simp only [mkM, List.map_cons, ih, List.length_cons, List.range'_succ]

section
variable {P : Program} {n : Nat} {F0 : Nat → Prop} {w0 : World} {a : Act} {w : World} {L : List (Nat × Value)} {Γ : List Asn}
variable {K : Act → World → Prop} {Q : Exit → Act → World → Prop} {d ty : Nat} {dst : Option Tmp} {pos : String} {af : Array Edge} {g : Option (Nat × Bool)}
theorem s_rangeM {T Kt Et m : Nat} {l : List (ByteArray × Value)} {x : Operand} (hS : St n F0 w0 a w L Γ) (hx : ev L x = some (.map (some m))) (hT : mapT P T = some (Kt, Et))
    (hm : ∀ w, Hd Γ w → w.heap[m]? = some (.map (mkM 0 l).toArray l.length)) (hn : Nat.blt d n = true)
    (h : ∀ a' w' b, St n F0 w0 a' w' ((d, .pointer (some ⟨b, 0, none⟩)) :: L) (itA b m [] l.length :: Γ) → K a' w') : OW P ⟨some d, .range T x, ty, pos, af, g⟩ a w K Q := by
  have hb := hm w hS.hd
  have he : (execOp a.eval (⟨some d, .range T x, ty, pos, af, g⟩ : Oper)).run P w = .ok (.value (.pointer (some ⟨w.heap.size, 0, none⟩))) (w.alloc (.mapIter (some m) l.length #[] l.length)) := by
    simp only [execOp, hS.sl.ev hx, Instr.range, Sem.run_bind, underlying, run_program, Result.andThen_ok, mapT_eq hT, Sem.run_pure]
    simp [getObj, newObj, Sem.run, hb]
  refine ⟨?_⟩
  unfold Oper.wp
  rw [he]
  refine h _ _ w.heap.size ((hS.fresh (Chg.alloc _ _ _) (Y := itA w.heap.size m [] l.length) (it_ok (Go.World.alloc_heap_new w _)) ?_).put hn _)
  intro b hb2
  have : b = w.heap.size := hb2
  omega
theorem s_nextM {it m : Nat} {l : List (ByteArray × Value)} {seen : List Nat} {x : Operand} {Γ' : Nat → List Asn} (hS : St n F0 w0 a w L Γ) (hx : ev L x = some (.pointer (some ⟨it, 0, none⟩)))
    (hm : ∀ w, Hd Γ w → w.heap[m]? = some (.map (mkM 0 l).toArray l.length)) (hn : Nat.blt d n = true)
    (hr : ∀ i, Rep (itA it m seen l.length) (itA it m (seen ++ [i]) l.length) Γ (Γ' i))
    (h0 : (∀ i, i < l.length → i ∈ seen) → ∀ a', St n F0 w0 a' w ((d, .tuple [.bool false].toArray) :: L) Γ → K a' w)
    (h1 : ∀ i k v, l[i]? = some (k, v) → i ∉ seen → ∀ a' w', St n F0 w0 a' w' ((d, .tuple [.bool true, .string k, v].toArray) :: L) (Γ' i) → K a' w') :
    OW P ⟨some d, .next x false, ty, pos, af, g⟩ a w K Q := by
  have hb := hm w hS.hd
  have hi : w.heap[it]? = some (.mapIter (some m) l.length seen.toArray l.length) := hS.get (hr 0).mem
  have hlt := (Array.getElem?_eq_some_iff.1 hi).1
  refine ⟨?_⟩
  unfold Oper.wp
  have hop : (execOp a.eval (⟨some d, .next x false, ty, pos, af, g⟩ : Oper)).run P w = ((Instr.next (.pointer (some ⟨it, 0, none⟩)) false ty).run P w).andThen (fun v w' => .ok (.value v) w') := by
    simp only [execOp, hS.sl.ev hx, Sem.run_bind, Sem.run_pure]
  rw [hop]
  rcases run_next_at (P := P) w ty it m l.length l.length seen.toArray (mkM 0 l).toArray l.length hi hb (fun e he => by
      obtain ⟨i, k, v, h2, rfl⟩ := mkM_mem (j := 0) (by simpa using he)
      have := (List.getElem?_eq_some_iff.1 h2).1
      simp only; omega) (Nat.le_refl _) with ⟨hz, hrun⟩ | ⟨e, he, w1, hw1, hrun⟩
  · rw [hrun]
    refine h0 (fun i hil => ?_) _ (hS.put hn _)
    have hg := mkM_get (j := 0) (List.getElem?_eq_getElem hil : l[i]? = some (l[i].1, l[i].2))
    have hmem := List.mem_of_getElem? hg
    unfold leftOf at hz
    have hemp := Array.eq_empty_of_size_eq_zero hz
    rw [Array.filter_eq_empty_iff] at hemp
    have := hemp _ (by simpa using hmem)
    simpa using this
  · rw [hrun]
    unfold leftOf at he
    have he2 : e ∈ mkM 0 l ∧ e.born ∉ seen := by simpa using he
    obtain ⟨i, k, v, h2, h3⟩ := mkM_mem he2.1
    rw [Nat.zero_add] at h3
    have hns : i ∉ seen := by have := he2.2; rw [h3] at this; exact this
    rw [h3]
    have hch : Chg (itA it m seen l.length).F w (Go.ChangeMaps.setBlock w1 it (.mapIter (some m) l.length (seen.toArray.push i) l.length)) ∧ (Go.ChangeMaps.setBlock w1 it (.mapIter (some m) l.length (seen.toArray.push i) l.length)).heap[it]? = some (.mapIter (some m) l.length (seen ++ [i]).toArray l.length) := by
      have hpush : seen.toArray.push i = (seen ++ [i]).toArray := by simp
      have hq : w1.heap = w.heap ∧ w1.os = w.os ∧ w1.tape = w.tape ∧ w1.output = w.output := by
        rcases hw1 with rfl | rfl
        · exact ⟨rfl, rfl, rfl, rfl⟩
        · exact ⟨rfl, rfl, rfl, rfl⟩
      obtain ⟨q1, q2, q3, q4⟩ := hq
      refine ⟨⟨q2, q3, q4, by simp [Go.ChangeMaps.setBlock, q1], fun q hq hne => ?_⟩, ?_⟩
      · have : it ≠ q := fun e => hne e.symm
        simp [Go.ChangeMaps.setBlock, Array.getElem?_setIfInBounds_ne this, q1]
      · simp [Go.ChangeMaps.setBlock, hlt, q1]
    exact h1 i k v h2 hns _ _ ((hS.upd (hr i) hch.1 (it_ok hch.2) (fun q hq => .inl hq) rfl).put hn _)
theorem e_entryM {it m i : Nat} {l : List (ByteArray × Value)} {seen : List Nat} {x : Operand} {k : ByteArray} {v : Value} (hx : ev L x = some (.pointer (some ⟨it, 0, none⟩)))
    (hm : ∀ w, Hd Γ w → w.heap[m]? = some (.map (mkM 0 l).toArray l.length)) (hi : itA it m (seen ++ [i]) l.length ∈ Γ) (hl : l[i]? = some (k, v)) :
    Ex P n a L Γ ⟨dst, .entry x, ty, pos, af, g⟩ (.tuple [.string k, v].toArray) := fun hs w hh => by
  have hb := hm w hh
  have hit : w.heap[it]? = some (.mapIter (some m) l.length (seen.toArray.push i) l.length) := by
    have : w.heap[it]? = some (.mapIter (some m) l.length (seen ++ [i]).toArray l.length) := hh _ hi
    rw [this]; simp
  have hg := mkM_get (j := 0) hl
  rw [Nat.zero_add] at hg
  have hrun := run_entry_at (P := P) w it m l.length seen.toArray (mkM 0 l).toArray l.length ⟨.string k, v, i⟩ hit hb (by simpa using List.mem_of_getElem? hg) (by
    show (((mkM 0 l).toArray.toList).map (·.born)).Nodup
    rw [show (mkM 0 l).toArray.toList = mkM 0 l from rfl, mkM_born]
    exact List.nodup_range')
  simp only [execOp, hs.ev hx, Sem.run_bind, hrun, Result.andThen_ok, Sem.run_pure]
end

/-- what a step of a range may yield: nothing, or an entry. -/
def nxL : Option (Nat × ByteArray × Value) → List Value
  | none => [.bool false]
  | some (_, k, v) => [.bool true, .string k, v]
def nxS (seen : List Nat) : Option (Nat × ByteArray × Value) → List Nat
  | none => seen
  | some (i, _, _) => seen ++ [i]
def nxO (l : List (ByteArray × Value)) (seen : List Nat) : Option (Nat × ByteArray × Value) → Prop
  | none => ∀ i, i < l.length → i ∈ seen
  | some (i, k, v) => l[i]? = some (k, v) ∧ i ∉ seen
theorem nx0 (o : Option (Nat × ByteArray × Value)) : nth (nxL o) 0 = some (.bool o.isSome) := by
  rcases o with _ | ⟨i, k, v⟩ <;> rfl
section
variable {P : Program} {n : Nat} {F0 : Nat → Prop} {w0 : World} {a : Act} {w : World} {L : List (Nat × Value)} {Γ : List Asn}
variable {K : Act → World → Prop} {Q : Exit → Act → World → Prop} {d ty : Nat} {pos : String} {af : Array Edge} {g : Option (Nat × Bool)}
theorem s_nextO {it m : Nat} {l : List (ByteArray × Value)} {seen : List Nat} {x : Operand} {Γ' : List Nat → List Asn} (hS : St n F0 w0 a w L Γ) (hx : ev L x = some (.pointer (some ⟨it, 0, none⟩)))
    (hm : ∀ w, Hd Γ w → w.heap[m]? = some (.map (mkM 0 l).toArray l.length)) (hn : Nat.blt d n = true)
    (hr : ∀ s, Rep (itA it m seen l.length) (itA it m s l.length) Γ (Γ' s))
    (h : ∀ o, nxO l seen o → ∀ a' w', St n F0 w0 a' w' ((d, .tuple (nxL o).toArray) :: L) (Γ' (nxS seen o)) → K a' w') : OW P ⟨some d, .next x false, ty, pos, af, g⟩ a w K Q := by
  refine s_nextM hS hx hm hn (Γ' := fun i => Γ' (seen ++ [i])) (fun i => hr _) (fun h0 a' hS' => ?_) (fun i k v h1 h2 a' w' hS' => h (some (i, k, v)) ⟨h1, h2⟩ a' w' hS')
  refine h none h0 a' w ?_
  have hid : ∀ {Γ Γ' : List Asn} {X : Asn}, Rep X X Γ Γ' → Γ = Γ' := by
    intro Γ Γ' X hR
    induction hR with
    | head => rfl
    | tail _ ih => rw [ih]
  show St n F0 w0 a' w _ (Γ' seen)
  rw [← hid (hr seen)]; exact hS'
end
end Go.Proofs.Ytheofhegdjjfgaa
