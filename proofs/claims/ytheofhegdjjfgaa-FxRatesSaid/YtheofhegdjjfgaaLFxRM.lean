/- The law FxRates: for every argument it returns true, and each argument reads afterwards as it read before (the rates and the reference's list walked side by side; a map's keys, sorted). -/
import Derived.Test.YtheofhegdjjfgaaSe9
import Derived.Maps.RangeRun
import Derived.RangeFuncRecord
import Derived.Test.YtheofhegdjjfgaaSe11
import Derived.Test.YtheofhegdjjfgaaSeTz
import Derived.Test.YtheofhegdjjfgaaSe12
import Derived.Test.YtheofhegdjjfgaaShelf
import Derived.Sort.OwnSorted
import Derived.Sort.KeysCollected
import Derived.Test.YtheofhegdjjfgaaFx8
import Derived.Deep.Slices
import Derived.Deep.Fields
import Derived.ChangeSame
import Derived.SizedLaws
import Derived.OpenShut
import Derived.Lib.SmallJoins
import Derived.Sort.Walk0
import Derived.Test.YtheofhegdjjfgaaBig10
import Derived.Test.YtheofhegdjjfgaaBig12
import Derived.ProofKit
import Derived.ShutString
import Derived.ChangeOld
import Derived.Below
namespace Go.Proofs.Ytheofhegdjjfgaa
open Go.RowKit

/-- a range's own place: what it has seen. -/
def itA (it m : Nat) (seen : List Nat) (n : Nat) : Asn := .any (fun k => k = it) (fun w => w.heap[it]? = some (.mapIter (some m) n seen.toArray n)) true
theorem it_ok {it m n : Nat} {seen : List Nat} {w : World} (h : w.heap[it]? = some (.mapIter (some m) n seen.toArray n)) : (itA it m seen n).ok w :=
  ⟨fun k hk => by obtain rfl : k = it := hk; exact (Array.getElem?_eq_some_iff.1 h).1, fun w' hw => by show w'.heap[it]? = _; rw [hw it rfl]; exact h⟩
theorem mkM_mem {l : List (ByteArray × Value)} {e : MapEntry} : ∀ {j : Nat}, e ∈ mkM j l → ∃ i k v, l[i]? = some (k, v) ∧ e = ⟨.string k, v, j + i⟩ := by
  induction l with
  | nil => intro j h; cases h
  | cons p l ih =>
    obtain ⟨k, v⟩ := p
    intro j h
    rcases List.mem_cons.1 h with rfl | h
    · exact ⟨0, k, v, rfl, rfl⟩
    · obtain ⟨i, k2, v2, h1, h2⟩ := ih h
      exact ⟨i + 1, k2, v2, h1, by rw [h2]; congr 1; omega⟩
theorem mkM_born (l : List (ByteArray × Value)) : ∀ j, (mkM j l).map (·.born) = List.range' j l.length := by
  induction l with
  | nil => intro j; rfl
  | cons p l ih => intro j; simp only [mkM, List.map_cons, ih, List.length_cons, List.range'_succ]

section
variable {P : Program} {n : Nat} {F0 : Nat → Prop} {w0 : World} {a : Act} {w : World} {L : List (Nat × Value)} {Γ : List Asn}
variable {K : Act → World → Prop} {Q : Exit → Act → World → Prop} {d ty : Nat} {dst : Option Tmp} {pos : String} {af : Array Edge} {g : Option (Nat × Bool)}
theorem s_rangeM {T Kt Et m : Nat} {l : List (ByteArray × Value)} {x : Operand} (hS : St n F0 w0 a w L Γ) (hx : ev L x = some (.map (some m))) (hT : mapT P T = some (Kt, Et))
    (hm : ∀ w, Hd Γ w → w.heap[m]? = some (.map (mkM 0 l).toArray l.length)) (hn : Nat.blt d n = true)
    (h : ∀ a' w' b, St n F0 w0 a' w' ((d, .pointer (some ⟨b, 0, none⟩)) :: L) (itA b m [] l.length :: Γ) → K a' w') : OW P ⟨some d, .range T x, ty, pos, af, g⟩ a w K Q := by
  have hb := hm w hS.hd
  have he : (execOp a.eval (⟨some d, .range T x, ty, pos, af, g⟩ : Oper)).run P w = .ok (.value (.pointer (some ⟨w.heap.size, 0, none⟩))) (w.alloc (.mapIter (some m) l.length #[] l.length)) := by
    simp only [execOp, hS.sl.ev hx, Instr.range, Sem.run_bind, underlying, run_program, Result.andThen_ok, mapT_eq hT, Sem.run_pure]
    simp [getObj, newObj, Sem.run, hb]
  refine ⟨?_⟩
  unfold Oper.wp
  rw [he]
  refine h _ _ w.heap.size ((hS.fresh (Chg.alloc _ _ _) (Y := itA w.heap.size m [] l.length) (it_ok (Go.World.alloc_heap_new w _)) ?_).put hn _)
  intro b hb2
  have : b = w.heap.size := hb2
  omega
theorem s_nextM {it m : Nat} {l : List (ByteArray × Value)} {seen : List Nat} {x : Operand} {Γ' : Nat → List Asn} (hS : St n F0 w0 a w L Γ) (hx : ev L x = some (.pointer (some ⟨it, 0, none⟩)))
    (hm : ∀ w, Hd Γ w → w.heap[m]? = some (.map (mkM 0 l).toArray l.length)) (hn : Nat.blt d n = true)
    (hr : ∀ i, Rep (itA it m seen l.length) (itA it m (seen ++ [i]) l.length) Γ (Γ' i))
    (h0 : (∀ i, i < l.length → i ∈ seen) → ∀ a', St n F0 w0 a' w ((d, .tuple [.bool false].toArray) :: L) Γ → K a' w)
    (h1 : ∀ i k v, l[i]? = some (k, v) → i ∉ seen → ∀ a' w', St n F0 w0 a' w' ((d, .tuple [.bool true, .string k, v].toArray) :: L) (Γ' i) → K a' w') :
    OW P ⟨some d, .next x false, ty, pos, af, g⟩ a w K Q := by
  have hb := hm w hS.hd
  have hi : w.heap[it]? = some (.mapIter (some m) l.length seen.toArray l.length) := hS.get (hr 0).mem
  have hlt := (Array.getElem?_eq_some_iff.1 hi).1
  refine ⟨?_⟩
  unfold Oper.wp
  have hop : (execOp a.eval (⟨some d, .next x false, ty, pos, af, g⟩ : Oper)).run P w = ((Instr.next (.pointer (some ⟨it, 0, none⟩)) false ty).run P w).andThen (fun v w' => .ok (.value v) w') := by
    simp only [execOp, hS.sl.ev hx, Sem.run_bind, Sem.run_pure]
  rw [hop]
  rcases run_next_at (P := P) w ty it m l.length l.length seen.toArray (mkM 0 l).toArray l.length hi hb (fun e he => by
      obtain ⟨i, k, v, h2, rfl⟩ := mkM_mem (j := 0) (by simpa using he)
      have := (List.getElem?_eq_some_iff.1 h2).1
      simp only; omega) (Nat.le_refl _) with ⟨hz, hrun⟩ | ⟨e, he, w1, hw1, hrun⟩
  · rw [hrun]
    refine h0 (fun i hil => ?_) _ (hS.put hn _)
    have hg := mkM_get (j := 0) (List.getElem?_eq_getElem hil : l[i]? = some (l[i].1, l[i].2))
    have hmem := List.mem_of_getElem? hg
    unfold leftOf at hz
    have hemp := Array.eq_empty_of_size_eq_zero hz
    rw [Array.filter_eq_empty_iff] at hemp
    have := hemp _ (by simpa using hmem)
    simpa using this
  · rw [hrun]
    unfold leftOf at he
    have he2 : e ∈ mkM 0 l ∧ e.born ∉ seen := by simpa using he
    obtain ⟨i, k, v, h2, h3⟩ := mkM_mem he2.1
    rw [Nat.zero_add] at h3
    have hns : i ∉ seen := by have := he2.2; rw [h3] at this; exact this
    rw [h3]
    have hch : Chg (itA it m seen l.length).F w (Go.ChangeMaps.setBlock w1 it (.mapIter (some m) l.length (seen.toArray.push i) l.length)) ∧ (Go.ChangeMaps.setBlock w1 it (.mapIter (some m) l.length (seen.toArray.push i) l.length)).heap[it]? = some (.mapIter (some m) l.length (seen ++ [i]).toArray l.length) := by
      have hpush : seen.toArray.push i = (seen ++ [i]).toArray := by simp
      have hq : w1.heap = w.heap ∧ w1.os = w.os ∧ w1.tape = w.tape ∧ w1.output = w.output := by
        rcases hw1 with rfl | rfl
        · exact ⟨rfl, rfl, rfl, rfl⟩
        · exact ⟨rfl, rfl, rfl, rfl⟩
      obtain ⟨q1, q2, q3, q4⟩ := hq
      refine ⟨⟨q2, q3, q4, by simp [Go.ChangeMaps.setBlock, q1], fun q hq hne => ?_⟩, ?_⟩
      · have : it ≠ q := fun e => hne e.symm
        simp [Go.ChangeMaps.setBlock, Array.getElem?_setIfInBounds_ne this, q1]
      · simp [Go.ChangeMaps.setBlock, hlt, q1]
    exact h1 i k v h2 hns _ _ ((hS.upd (hr i) hch.1 (it_ok hch.2) (fun q hq => .inl hq) rfl).put hn _)
theorem e_entryM {it m i : Nat} {l : List (ByteArray × Value)} {seen : List Nat} {x : Operand} {k : ByteArray} {v : Value} (hx : ev L x = some (.pointer (some ⟨it, 0, none⟩)))
    (hm : ∀ w, Hd Γ w → w.heap[m]? = some (.map (mkM 0 l).toArray l.length)) (hi : itA it m (seen ++ [i]) l.length ∈ Γ) (hl : l[i]? = some (k, v)) :
    Ex P n a L Γ ⟨dst, .entry x, ty, pos, af, g⟩ (.tuple [.string k, v].toArray) := fun hs w hh => by
  have hb := hm w hh
  have hit : w.heap[it]? = some (.mapIter (some m) l.length (seen.toArray.push i) l.length) := by
    have : w.heap[it]? = some (.mapIter (some m) l.length (seen ++ [i]).toArray l.length) := hh _ hi
    rw [this]; simp
  have hg := mkM_get (j := 0) hl
  rw [Nat.zero_add] at hg
  have hrun := run_entry_at (P := P) w it m l.length seen.toArray (mkM 0 l).toArray l.length ⟨.string k, v, i⟩ hit hb (by simpa using List.mem_of_getElem? hg) (by
    show (((mkM 0 l).toArray.toList).map (·.born)).Nodup
    rw [show (mkM 0 l).toArray.toList = mkM 0 l from rfl, mkM_born]
    exact List.nodup_range')
  simp only [execOp, hs.ev hx, Sem.run_bind, hrun, Result.andThen_ok, Sem.run_pure]
end

/-- what a step of a range may yield: nothing, or an entry. -/
def nxL : Option (Nat × ByteArray × Value) → List Value
  | none => [.bool false]
  | some (_, k, v) => [.bool true, .string k, v]
def nxS (seen : List Nat) : Option (Nat × ByteArray × Value) → List Nat
  | none => seen
  | some (i, _, _) => seen ++ [i]
def nxO (l : List (ByteArray × Value)) (seen : List Nat) : Option (Nat × ByteArray × Value) → Prop
  | none => ∀ i, i < l.length → i ∈ seen
  | some (i, k, v) => l[i]? = some (k, v) ∧ i ∉ seen
theorem nx0 (o : Option (Nat × ByteArray × Value)) : nth (nxL o) 0 = some (.bool o.isSome) := by
  rcases o with _ | ⟨i, k, v⟩ <;> rfl
section
variable {P : Program} {n : Nat} {F0 : Nat → Prop} {w0 : World} {a : Act} {w : World} {L : List (Nat × Value)} {Γ : List Asn}
variable {K : Act → World → Prop} {Q : Exit → Act → World → Prop} {d ty : Nat} {pos : String} {af : Array Edge} {g : Option (Nat × Bool)}
theorem s_nextO {it m : Nat} {l : List (ByteArray × Value)} {seen : List Nat} {x : Operand} {Γ' : List Nat → List Asn} (hS : St n F0 w0 a w L Γ) (hx : ev L x = some (.pointer (some ⟨it, 0, none⟩)))
    (hm : ∀ w, Hd Γ w → w.heap[m]? = some (.map (mkM 0 l).toArray l.length)) (hn : Nat.blt d n = true)
    (hr : ∀ s, Rep (itA it m seen l.length) (itA it m s l.length) Γ (Γ' s))
    (h : ∀ o, nxO l seen o → ∀ a' w', St n F0 w0 a' w' ((d, .tuple (nxL o).toArray) :: L) (Γ' (nxS seen o)) → K a' w') : OW P ⟨some d, .next x false, ty, pos, af, g⟩ a w K Q := by
  refine s_nextM hS hx hm hn (Γ' := fun i => Γ' (seen ++ [i])) (fun i => hr _) (fun h0 a' hS' => ?_) (fun i k v h1 h2 a' w' hS' => h (some (i, k, v)) ⟨h1, h2⟩ a' w' hS')
  refine h none h0 a' w ?_
  have hid : ∀ {Γ Γ' : List Asn} {X : Asn}, Rep X X Γ Γ' → Γ = Γ' := by
    intro Γ Γ' X hR
    induction hR with
    | head => rfl
    | tail _ ih => rw [ih]
  show St n F0 w0 a' w _ (Γ' seen)
  rw [← hid (hr seen)]; exact hS'
end
end Go.Proofs.Ytheofhegdjjfgaa

namespace Go.Proofs.Ytheofhegdjjfgaa
open Go.RowKit

/-- what is said hangs on no block from B up to hi. -/
def AbR {β : Type} (B hi : Nat) (I : β → World → Prop) : Prop :=
  ∀ s W W', I s W → W'.os = W.os → W'.tape = W.tape → W'.output = W.output → W.heap.size ≤ W'.heap.size → (∀ k, k < W.heap.size → (k < B ∨ hi ≤ k) → W'.heap[k]? = W.heap[k]?) → I s W'
theorem AbR.alloc {β : Type} {B hi : Nat} {I : β → World → Prop} (h : AbR B hi I) {s : β} {W : World} (hs : I s W) (o : Obj) : I s (W.alloc o) :=
  h s W _ hs rfl rfl rfl (by simp) (fun k hk _ => Below.heap_alloc W o k hk)
theorem AbR.put {β : Type} {B hi : Nat} {I : β → World → Prop} (h : AbR B hi I) {s : β} {W : World} {l : Nat} (hl : B ≤ l) (hl2 : l < hi) (hs : I s W) (o : Obj) : I s (W.putObj l o) :=
  h s W _ hs rfl rfl rfl (by simp) (fun k _ hk => World.putObj_heap_other (by omega))
/-- what lay from B up to hi lies as it lay. -/
def Kp (B hi : Nat) (W W' : World) : Prop := W.heap.size ≤ W'.heap.size ∧ ∀ k, B ≤ k → k < hi → W'.heap[k]? = W.heap[k]?

/-- an iterator's contract: its own blocks lie from where it began up to hi. -/
def SeqD {α : Type} (P : Program) (gf : Nat) (lb : Array Value) (encs : α → Array Value) (S Sp : List α → Prop) (N : Nat) (K0 : World → Prop) : Prop :=
  ∀ (l : Nat) (J Jx : Nat → List α → World → Prop) (W : World), (∀ hi pre W', J hi pre W' → K0 W') → (∀ hi, W.heap.size ≤ hi → AbR W.heap.size hi (J hi)) → (∀ hi, W.heap.size ≤ hi → AbR W.heap.size hi (Jx hi)) →
    (∀ hi pre x W1, W.heap.size ≤ hi → hi ≤ W1.heap.size → J hi pre W1 → pre.length < N → YieldAt Fence.wide 0 P l (encs x) W1 fun e W' => Kp W.heap.size hi W1 W' ∧ ((e = .returned (.bool true) ∧ J hi (pre ++ [x]) W') ∨ (e = .returned (.bool false) ∧ Jx hi (pre ++ [x]) W'))) →
    (∀ hi, W.heap.size ≤ hi → J hi [] W) → CallsIn Fence.wide 0 P gf (#[.func (.yield l) #[] #[]] ++ lb) W fun e W' => (∃ v, e = .returned v) ∧ ∃ hi, W.heap.size ≤ hi ∧ ((∃ xs, S xs ∧ J hi xs W') ∨ ∃ pre, Sp pre ∧ Jx hi pre W')

/-- how a round's body may be left. -/
def postD {α : Type} (B hi : Nat) (I : List α → World → Prop) (Ix : Code → List α → World → Prop) (xs : List α) (W : World) : Exit → Act → World → Prop
  | .normal, _, W' => Kp B hi W W' ∧ I xs W'
  | .ret, _, W' => Kp B hi W W' ∧ Ix .ret xs W'
  | .exit id, _, W' => Kp B hi W W' ∧ Ix (.exit id) xs W'
  | .goto t, _, W' => Kp B hi W W' ∧ Ix (.goto t) xs W'
  | .panic _, _, _ => False
  | .outgrown, _, _ => False

theorem rangeFunc_D {P : Program} {α : Type} {g : Operand} {ps : Array Tmp} {assign body : Code} {Q : Exit → Act → World → Prop} {a : Act} {w : World}
    {gf : Nat} {lb : Array Value} (hg : a.eval g = .func (.func gf) #[] lb) (eg : CallsTo P gf) {encs : α → Array Value} {S Sp : List α → Prop} {N : Nat} {K0 : World → Prop}
    (hseq : SeqD P gf lb encs S Sp N K0) (hps : ∀ x, (encs x).size = ps.size) (I : Nat → List α → World → Prop) (Ix : Nat → Code → List α → World → Prop)
    (hI : ∀ hi, w.heap.size + 2 ≤ hi → AbR w.heap.size hi (I hi)) (hIx : ∀ hi c, w.heap.size + 2 ≤ hi → AbR w.heap.size hi (Ix hi c)) (hK : ∀ hi pre W', I hi pre W' → K0 W') (h0 : ∀ hi, w.heap.size + 2 ≤ hi → I hi [] w)
    (hround : ∀ (hi l : Nat) (pre : List α) (x : α) (W : World), w.heap.size + 2 ≤ hi → hi ≤ W.heap.size → I hi pre W → pre.length < N →
      assign.wpIn (Fence.wide.inRound l) 0 P (Exit.then (fun a1 W1 => Kp w.heap.size hi W W1 ∧ ∀ W2, Turn (w.heap.size + 1) W1 W2 → body.wpIn (Fence.wide.inRound l) 0 P (postD w.heap.size hi (I hi) (Ix hi) (pre ++ [x]) W2) a1 W2) (fun _ _ _ => False))
        { tmps := (ps.zip (encs x)).foldl (fun t (p, v) => t.setIfInBounds p v) a.tmps, defers := [] } W)
    (hdone : ∀ (hi D : Nat) (xs : List α) (W : World), w.heap.size + 2 ≤ hi → w.heap.size ≤ D → D < hi → S xs → I hi xs W → W.heap[D]? = some (.deferred (some [])) → Q .normal { a with defers := { target := .collected D, args := #[] } :: a.defers } W)
    (hstop : ∀ (hi D : Nat) (c : Code) (pre : List α) (W : World), w.heap.size + 2 ≤ hi → w.heap.size ≤ D → D < hi → Sp pre → Ix hi c pre W → W.heap[D]? = some (.deferred (some [])) → c.wpIn Fence.wide 0 P Q { a with defers := { target := .collected D, args := #[] } :: a.defers } W) :
    (Code.rangeFunc g ps assign body).wpIn Fence.wide 0 P Q a w := by
  refine wpIn_rangeFunc fun fn hfn => ?_
  obtain ⟨rec, hrec⟩ : ∃ rec : LoopState → Option Code → Loop, rec = fun st pe => { state := st, pending := pe, fn, tmps := a.tmps, params := ps, assign, body, defers := w.heap.size } := ⟨_, rfl⟩
  obtain ⟨W1, hW1⟩ : ∃ W1, (w.alloc (.deferred (some []))).alloc (.loop (rec .ready none)) = W1 := ⟨_, rfl⟩
  have hs1 : W1.heap.size = w.heap.size + 2 := by rw [← hW1]; simp
  have hL : W1.heap[w.heap.size + 1]? = some (.loop (rec .ready none)) := by
    rw [← hW1]; have := World.alloc_heap_new (w.alloc (.deferred (some []))) (.loop (rec .ready none)); rwa [World.size_alloc] at this
  have hD : W1.heap[w.heap.size]? = some (.deferred (some [])) := by
    rw [← hW1]; exact (Below.heap_alloc _ _ _ (by simp)).trans (World.alloc_heap_new w _)
  have hI1 : ∀ hi, w.heap.size + 2 ≤ hi → I hi [] W1 := fun hi hh => by rw [← hW1]; exact (hI hi hh).alloc ((hI hi hh).alloc (h0 hi hh) _) _
  refine ⟨w.heap.size + 1, [{ target := .collected w.heap.size, args := #[] }], W1, { target := .fn (.func gf) lb, args := #[.func (.yield (w.heap.size + 1)) #[] #[]] }, W1, gf,
    #[.func (.yield (w.heap.size + 1)) #[] #[]] ++ lb, W1, ?_, ?_, fun _ _ => trivial, ?_, fun h => (by cases h), ?_⟩
  · rw [← hW1, hrec]; exact run_enterLoop_outer _ _ _ _ _
  · simp only [resolve, hg]
    simp [go_sem]
  · have := eg (#[.func (.yield (w.heap.size + 1)) #[] #[]] ++ lb) W1
    exact this
  have key := hseq (w.heap.size + 1) (fun hi pre W => w.heap.size + 2 ≤ W.heap.size ∧ I hi pre W ∧ W.heap[w.heap.size + 1]? = some (.loop (rec .ready none)) ∧ W.heap[w.heap.size]? = some (.deferred (some [])))
    (fun hi pre W => w.heap.size + 2 ≤ W.heap.size ∧ ∃ c, Ix hi c pre W ∧ W.heap[w.heap.size + 1]? = some (.loop (rec .done (some c))) ∧ W.heap[w.heap.size]? = some (.deferred (some []))) W1
    (fun hi pre W' h => hK hi pre W' h.2.1)
    (fun hi hh s A B h e1 e2 e3 e4 e5 => by
      have h1 := h.1
      exact ⟨Nat.le_trans h.1 e4, hI hi (by omega) s A B h.2.1 e1 e2 e3 e4 (fun k hk hk2 => e5 k hk (by omega)), (e5 _ (by omega) (by omega)).trans h.2.2.1, (e5 _ (by omega) (by omega)).trans h.2.2.2⟩)
    (fun hi hh s A B h e1 e2 e3 e4 e5 => by
      obtain ⟨hz, c, h1, h2, h3⟩ := h
      exact ⟨Nat.le_trans hz e4, c, hIx hi c (by omega) s A B h1 e1 e2 e3 e4 (fun k hk hk2 => e5 k hk (by omega)), (e5 _ (by omega) (by omega)).trans h2, (e5 _ (by omega) (by omega)).trans h3⟩)
    ?_ (fun hi hh => ⟨by omega, hI1 hi (by omega), hL, hD⟩)
  · refine key.mono ?_
    rintro e W2 ⟨⟨v, rfl⟩, hh, hhl, (⟨xs, hS, hz, hi, hl, hk⟩ | ⟨pre, hSp, hz, c, hi, hl, hk⟩)⟩
    · exact ⟨none, _, by have := run_endLoop (P := P) hl (by rw [hrec]; simp); rw [hrec] at this; exact this, hdone hh _ xs _ (by omega) (Nat.le_refl _) (by omega) hS ((hI hh (by omega)).put (by omega) (by omega) hi _) ((World.putObj_heap_other (by omega)).trans hk)⟩
    · exact ⟨some c, _, by have := run_endLoop (P := P) hl (by rw [hrec]; simp); rw [hrec] at this; exact this, hstop hh _ c pre _ (by omega) (Nat.le_refl _) (by omega) hSp ((hIx hh c (by omega)).put (by omega) (by omega) hi _) ((World.putObj_heap_other (by omega)).trans hk)⟩
  · rintro hh pre x W hhl hhW ⟨hz, hi, hl, hk⟩ hlen
    have hy := run_yield (P := P) (args := encs x) hl (by rw [hrec]; exact hps x)
    rw [hrec] at hy
    refine ⟨fn, _, assign, body, hy, roundIn_of_wpIn hfn (wpIn_mono (hround hh _ pre x W (by omega) hhW hi hlen) ?_)⟩
    rintro e a1 W1' hp1
    cases e with
    | exit _ => exact hp1.elim
    | goto _ => exact hp1.elim
    | ret => exact hp1.elim
    | panic _ => exact hp1.elim
    | outgrown => exact hp1.elim
    | normal => ?_
    obtain ⟨⟨hzz, hkeep⟩, hbody⟩ := hp1
    have hl1 := (hkeep (w.heap.size + 1) (by omega) (by omega)).trans hl
    have hk1 := (hkeep w.heap.size (Nat.le_refl _) (by omega)).trans hk
    refine ⟨_, run_beginRound hl1 (by rw [hrec]), ?_⟩
    obtain ⟨W2, hW2⟩ : ∃ W2, W1'.putObj (w.heap.size + 1) (.loop { rec .ready none with state := .busy }) = W2 := ⟨_, rfl⟩
    have hl2 : W2.heap[w.heap.size + 1]? = some (.loop { rec .ready none with state := .busy }) := by rw [← hW2]; exact putObj_at hl1
    have hk2 : W2.heap[w.heap.size]? = some (.deferred (some [])) := by rw [← hW2]; exact (World.putObj_heap_other (by omega)).trans hk1
    have hz2 : w.heap.size + 2 ≤ W2.heap.size := by rw [← hW2]; simp; omega
    rw [hW2]
    refine wpIn_mono (hbody W2 (by rw [← hW2]; exact Turn.put _ _ _)) ?_
    have fin : ∀ (jump : Option Code) (W3 : World), Kp w.heap.size hh W2 W3 → w.heap.size + 2 ≤ W3.heap.size ∧
        (Instr.endRound (w.heap.size + 1) jump).run P W3 = .ok (.bool jump.isNone) (W3.putObj (w.heap.size + 1) (.loop (rec (if jump.isNone then .ready else .done) jump))) ∧
        (W3.putObj (w.heap.size + 1) (.loop (rec (if jump.isNone then .ready else .done) jump))).heap[w.heap.size + 1]? = some (.loop (rec (if jump.isNone then .ready else .done) jump)) ∧
        (W3.putObj (w.heap.size + 1) (.loop (rec (if jump.isNone then .ready else .done) jump))).heap[w.heap.size]? = some (.deferred (some [])) ∧
        Kp W1.heap.size hh W (W3.putObj (w.heap.size + 1) (.loop (rec (if jump.isNone then .ready else .done) jump))) := fun jump W3 ⟨hsz, hk3⟩ => by
      have hl3 := (hk3 _ (by omega) (by omega)).trans hl2
      have hd3 := (hk3 _ (Nat.le_refl _) (by omega)).trans hk2
      have hr := run_endRound (P := P) jump hl3
      rw [hrec] at hr ⊢
      have hw2 : W2.heap.size = W1'.heap.size := by rw [← hW2]; simp
      refine ⟨by have := (Array.getElem?_eq_some_iff.1 hl3).1; omega, hr, putObj_at hl3, (World.putObj_heap_other (by omega)).trans hd3, by simp; omega, fun k hk1 hk2' => ?_⟩
      rw [World.putObj_heap_other (by omega), hk3 k (by omega) (by omega), ← hW2, World.putObj_heap_other (by omega)]
      exact hkeep k (by omega) hk2'
    rintro e a3 W3 hp
    cases e with
    | normal =>
      obtain ⟨hk3, hi3⟩ := hp
      obtain ⟨hz3, hr, hl4, hk4, hkp⟩ := fin none W3 hk3
      exact ⟨_, _, hr, hkp, .inl ⟨rfl, by simpa using hz3, (hI hh (by omega)).put (by omega) (by omega) hi3 _, hl4, hk4⟩⟩
    | ret =>
      obtain ⟨hk3, hi3⟩ := hp
      obtain ⟨hz3, hr, hl4, hk4, hkp⟩ := fin (some .ret) W3 hk3
      exact ⟨_, _, hr, hkp, .inr ⟨rfl, by simpa using hz3, .ret, (hIx hh _ (by omega)).put (by omega) (by omega) hi3 _, hl4, hk4⟩⟩
    | exit id =>
      obtain ⟨hk3, hi3⟩ := hp
      obtain ⟨hz3, hr, hl4, hk4, hkp⟩ := fin (some (.exit id)) W3 hk3
      exact ⟨_, _, hr, hkp, .inr ⟨rfl, by simpa using hz3, .exit id, (hIx hh _ (by omega)).put (by omega) (by omega) hi3 _, hl4, hk4⟩⟩
    | goto t =>
      obtain ⟨hk3, hi3⟩ := hp
      obtain ⟨hz3, hr, hl4, hk4, hkp⟩ := fin (some (.goto t)) W3 hk3
      exact ⟨_, _, hr, hkp, .inr ⟨rfl, by simpa using hz3, .goto t, (hIx hh _ (by omega)).put (by omega) (by omega) hi3 _, hl4, hk4⟩⟩
    | panic ch => exact hp.elim
    | outgrown => exact hp.elim
theorem rangeFunc_D2 {B : Nat} {P : Program} {α : Type} {g : Operand} {ps : Array Tmp} {assign body : Code} {Q : Exit → Act → World → Prop} {a : Act} {w : World} (hB : w.heap.size = B)
    {gf : Nat} {lb : Array Value} (hg : a.eval g = .func (.func gf) #[] lb) (eg : CallsTo P gf) {encs : α → Array Value} {S Sp : List α → Prop} {N : Nat} {K0 : World → Prop}
    (hseq : SeqD P gf lb encs S Sp N K0) (hps : ∀ x, (encs x).size = ps.size) (I : Nat → List α → World → Prop) (Ix : Nat → Code → List α → World → Prop)
    (hI : ∀ hi, B + 2 ≤ hi → AbR B hi (I hi)) (hIx : ∀ hi c, B + 2 ≤ hi → AbR B hi (Ix hi c)) (hK : ∀ hi pre W', I hi pre W' → K0 W') (h0 : ∀ hi, B + 2 ≤ hi → I hi [] w)
    (hround : ∀ (hi l : Nat) (pre : List α) (x : α) (W : World), B + 2 ≤ hi → hi ≤ W.heap.size → I hi pre W → pre.length < N →
      assign.wpIn (Fence.wide.inRound l) 0 P (Exit.then (fun a1 W1 => Kp B hi W W1 ∧ ∀ W2, Turn (B + 1) W1 W2 → body.wpIn (Fence.wide.inRound l) 0 P (postD B hi (I hi) (Ix hi) (pre ++ [x]) W2) a1 W2) (fun _ _ _ => False))
        { tmps := (ps.zip (encs x)).foldl (fun t (p, v) => t.setIfInBounds p v) a.tmps, defers := [] } W)
    (hdone : ∀ (hi D : Nat) (xs : List α) (W : World), B + 2 ≤ hi → B ≤ D → D < hi → S xs → I hi xs W → W.heap[D]? = some (.deferred (some [])) → Q .normal { a with defers := { target := .collected D, args := #[] } :: a.defers } W)
    (hstop : ∀ (hi D : Nat) (c : Code) (pre : List α) (W : World), B + 2 ≤ hi → B ≤ D → D < hi → Sp pre → Ix hi c pre W → W.heap[D]? = some (.deferred (some [])) → c.wpIn Fence.wide 0 P Q { a with defers := { target := .collected D, args := #[] } :: a.defers } W) :
    (Code.rangeFunc g ps assign body).wpIn Fence.wide 0 P Q a w := by
  subst hB
  exact rangeFunc_D hg eg hseq hps I Ix hI hIx hK h0 hround hdone hstop
section
variable {P : Program} {n : Nat} {F0 : Nat → Prop} {w0 : World} {a : Act} {w : World} {L : List (Nat × Value)} {Γ : List Asn}
variable {K : Act → World → Prop} {Q : Exit → Act → World → Prop} {d ty : Nat} {pos : String} {af : Array Edge} {g : Option (Nat × Bool)}
/-- what an operation yields does not hang on the deferred calls. -/
theorem s_eD {op : Op} {v : Value} {ds : List Deferred} (hS : St n F0 w0 a w L Γ) (he : Ex P n a L Γ ⟨some d, op, ty, pos, af, g⟩ v) (hn : Nat.blt d n = true)
    (h : ∀ a', St n F0 w0 a' w ((d, v) :: L) Γ → K { a' with defers := ds } w) : OW P ⟨some d, op, ty, pos, af, g⟩ { a with defers := ds } w K Q := by
  refine ⟨?_⟩
  unfold Oper.wp
  have e : (execOp (Act.eval { a with defers := ds }) ⟨some d, op, ty, pos, af, g⟩) = execOp a.eval ⟨some d, op, ty, pos, af, g⟩ := rfl
  rw [e, he hS.sl w hS.hd]
  show K (Act.put { a with defers := ds } (some d) v) w
  rw [put_defers]
  exact h _ (hS.put hn v)
theorem end1 {fn : Func} {R : Ending → World → Prop} {D : Nat} {e : Exit} {rs : List ResultVar} {v : Value} (hS : St n F0 w0 a (w.putObj D (.deferred none)) L Γ) (he : e = .ret ∨ e = .normal) (hD : w.heap[D]? = some (.deferred (some [])))
    (hr : fn.results = rs.toArray) (hv : ResL P L Γ rs [v]) (h : R (.returned v) (w.putObj D (.deferred none))) :
    bodyPostM Fence.wide 0 P fn R e { a with defers := [{ target := .collected D, args := #[] }] } w := by
  refine endM he rfl hD ?_ h
  have h1 := ResL.run hS hv
  show (results fn a.tmps).run P _ = _
  rw [results_rvS, hr, List.mapM_toArray, Sem.run_bind, Sem.run_map, h1]
  simp [Result.andThen_ok]
end
end Go.Proofs.Ytheofhegdjjfgaa

namespace Go.Proofs.Ytheofhegdjjfgaa
open Go.RowKit

theorem nodup_le : ∀ (n : Nat) (s : List Nat), s.Nodup → (∀ i ∈ s, i < n) → s.length ≤ n
  | 0, s, _, h => by
    cases s with
    | nil => exact Nat.le_refl _
    | cons x r => exact absurd (h x (.head _)) (by omega)
  | n + 1, s, hd, h => by
    by_cases hm : n ∈ s
    · have h1 := nodup_le n (s.erase n) (hd.erase n) (fun i hi => by
        have h2 := (List.Nodup.mem_erase_iff hd).1 hi
        have := h i h2.2
        have := h2.1
        omega)
      rw [List.length_erase_of_mem hm] at h1
      omega
    · have h1 := nodup_le n s hd (fun i hi => by
        have := h i hi
        have : i ≠ n := fun e => hm (e ▸ hi)
        omega)
      omega
def keysM (l : List (ByteArray × Value)) : List ByteArray := l.map (·.1)
def keyAt (l : List (ByteArray × Value)) (i : Nat) : ByteArray := (keysM l).getD i ⟨#[]⟩
theorem keyAt_of {l : List (ByteArray × Value)} {i : Nat} {k : ByteArray} {v : Value} (h : l[i]? = some (k, v)) : keyAt l i = k := by
  unfold keyAt keysM; rw [List.getD_eq_getElem?_getD, List.getElem?_map, h]; rfl
theorem keys_all {l : List (ByteArray × Value)} {s : List Nat} (hd : s.Nodup) (h : ∀ i ∈ s, i < l.length) (ha : ∀ i, i < l.length → i ∈ s) : (s.map (keyAt l)).Perm (keysM l) := by
  have h1 : s.Perm (List.range l.length) := (List.perm_ext_iff_of_nodup hd List.nodup_range).2 (fun i => ⟨fun hi => List.mem_range.2 (h i hi), fun hi => ha i (List.mem_range.1 hi)⟩)
  refine (h1.map (keyAt l)).trans ?_
  have h2 : (List.range l.length).map (keyAt l) = keysM l := by
    apply List.ext_getElem
    · simp [keysM]
    · intro i h3 h4
      have h5 : i < l.length := by simpa using h3
      simp [keyAt, keysM, List.getD_eq_getElem?_getD, List.getElem?_eq_getElem h5]
  rw [h2]
/-- a map's own place, and the box that holds it, only read. -/
structure keysK (b m T : Nat) (l : List (ByteArray × Value)) (w : World) : Prop where
  box : w.heap[b]? = some (.cells [Value.map (some m)].toArray T (0, 0))
  mp : w.heap[m]? = some (.map (mkM 0 l).toArray l.length)
def keysA (b m T : Nat) (l : List (ByteArray × Value)) : Asn := .any (fun k => k = b ∨ k = m) (keysK b m T l) false
theorem keys_ok {b m T : Nat} {l : List (ByteArray × Value)} {w : World} (h : keysK b m T l w) : (keysA b m T l).ok w := by
  refine ⟨fun k hk => ?_, fun w' hw => ⟨?_, ?_⟩⟩
  · rcases hk with rfl | rfl
    · exact (Array.getElem?_eq_some_iff.1 h.box).1
    · exact (Array.getElem?_eq_some_iff.1 h.mp).1
  · rw [hw b (.inl rfl)]; exact h.box
  · rw [hw m (.inr rfl)]; exact h.mp
def keyV (k : ByteArray) : Array Value := [.string k].toArray
def itF (it : Nat) : Nat → Prop := fun k => k = it
theorem St.bareK {n : Nat} {a : Act} {w : World} {L : List (Nat × Value)} (h : Sl n a L) : St n noB w a w L [] := ⟨h, Chg.refl _ _, okN, disN, mineN⟩
theorem St.iter {n : Nat} {a : Act} {w : World} {L : List (Nat × Value)} (h : Sl n a L) {it m N : Nat} {s : List Nat} {Y : Asn} (hi : w.heap[it]? = some (.mapIter (some m) N s.toArray N)) (hY : Y.ok w) (hm : Y.mine = false) (hd : ¬ Y.F it) : St n (itF it) w a w L [itA it m s N, Y] :=
  ⟨h, Chg.refl _ _, okC (it_ok hi) (okC hY okN), disC (sepC (fun b e1 e2 => hd (by have e3 : b = it := e1; rw [← e3]; exact e2)) sepN) dis1, mineO (fun _ hb => hb) (mineC hm mineN)⟩
/-- what does not hang on this place stays while only it is written. -/
theorem ab_it {β : Type} {B it : Nat} {I : β → World → Prop} (h : AbR B (it + 1) I) (hit : B ≤ it) {s : β} {w w' : World} (hs : I s w) (hc : Chg (itF it) w w') : I s w' :=
  h s w w' hs hc.os hc.tape hc.output hc.size (fun k hk hk2 => hc.block k hk (fun e => by have e2 : k = it := e; omega))

set_option maxRecDepth 100000 in
theorem Keys_Fx_seq (b m : Nat) (l : List (ByteArray × Value)) : SeqD Try.prog 109 #[.pointer (some ⟨b, 0, none⟩)] keyV (fun xs => xs.Perm (keysM l)) (fun _ => True) l.length (keysK b m 112 l) := by
  intro ly J Jx W hK hJ hJx hY h0
  have hk0 := hK _ _ _ (h0 W.heap.size (Nat.le_refl _))
  have hbW : b < W.heap.size := (Array.getElem?_eq_some_iff.1 hk0.box).1
  have hmW : m < W.heap.size := (Array.getElem?_eq_some_iff.1 hk0.mp).1
  rw [show (#[Value.func (.yield ly) #[] #[]] ++ #[Value.pointer (some ⟨b, 0, none⟩)] : Array Value) = [Value.func (.yield ly) #[] #[], Value.pointer (some ⟨b, 0, none⟩)].toArray from rfl]
  refine callsIn_enter [(0, .func (.yield ly) #[] #[]), (1, .pointer (some ⟨b, 0, none⟩))] [keysA b m 112 l] noB Try.func109 rfl Try.ntmps109 ⟨rfl, rfl, trivial⟩ rfl (okC (keys_ok hk0) okN) dis1 (mineC (by rfl) mineN) ?_
  intro a hS
  refine R_seq ?_
  refine R_region ?_
  refine R_op rfl (s_e hS (e_loadC rfl ty_sc112 (fun w hh => cell_of_blk (cs := [.map (some m)]) (hh (keysA b m 112 l) (by repeat constructor)).box rfl)) rfl ?_); clear hS a; intro a hS
  refine R_op rfl (s_rangeM (l := l) hS rfl ty_mp112 (fun w hh => (hh (keysA b m 112 l) (by repeat constructor)).mp) (by rfl) ?_); clear hS a; (try clear w); intro a w it hS
  refine R_nil ?_
  refine n_then ?_
  refine R_block ?_
  have hitW : W.heap.size ≤ it := by
    have h1 := hS.mine (itA it m [] l.length) (by repeat constructor) rfl it rfl
    rcases h1 with h1 | h1
    · exact h1
    · exact h1.elim
  have hnF : ¬ (keysA b m 112 l).F it := fun e => by
    have e2 : it = b ∨ it = m := e
    omega
  have hJi := hJ (it + 1) (by omega)
  have hJ0 : J (it + 1) [] w := hJi _ _ _ (h0 (it + 1) (by omega)) hS.chg.os hS.chg.tape hS.chg.output hS.chg.size (fun k hk _ => hS.chg.block k hk (fun e => e))
  have hWw := hS.chg.size
  refine R_loop (γ := List Nat) (fun s a w => St 14 (itF it) w a w [(5, .pointer (some ⟨it, 0, none⟩)), (0, .func (.yield ly) #[] #[]), (1, .pointer (some ⟨b, 0, none⟩))] [itA it m s l.length, keysA b m 112 l] ∧ W.heap.size ≤ w.heap.size ∧ s.Nodup ∧ (∀ i ∈ s, i < l.length) ∧ J (it + 1) (s.map (keyAt l)) w) (fun s => l.length - s.length) [] ⟨St.iter (hS.sl.sub (by repeat (first | exact trivial | refine ⟨rfl, ?_⟩))) (hS.get (X := itA it m [] l.length) (by repeat constructor)) (hS.ok _ (by repeat constructor)) rfl hnF, hWw, .nil, fun i hi => (by cases hi), hJ0⟩ ?_
  clear hS a; (try clear w); intro s a w hI
  obtain ⟨hS, hWw, hnd, hlt, hj⟩ := hI
  refine R_seq ?_
  refine R_region ?_
  refine R_op rfl (s_nextO (l := l) hS rfl (fun w hh => (hh (keysA b m 112 l) (by repeat constructor)).mp) (by rfl) (fun _ => .head) ?_); intro o ho a1 w1 hS1; have hj1 := ab_it hJi hitW hj hS1.chg; have hW1 : W.heap.size ≤ w1.heap.size := Nat.le_trans hWw hS1.chg.size; clear hS a; revert a1; intro a hS
  refine R_op rfl (s_e hS (e_extract rfl (nx0 o)) rfl ?_); clear hS a; intro a hS
  refine R_nil ?_
  refine n_then ?_
  refine R_seq ?_
  first | refine R_ifD hS rfl (fun hc7 => ?_) (fun hc7 => ?_) | refine R_if hS rfl (fun hc7 => ?_) (fun hc7 => ?_)
  ·
    obtain ⟨⟨i, k, v⟩, rfl⟩ : ∃ q, o = some q := Option.isSome_iff_exists.1 hc7
    obtain ⟨hl, hns⟩ := ho
    simp only [nxS] at hS
    have hil := (List.getElem?_eq_some_iff.1 hl).1
    have hnd2 : (s ++ [i]).Nodup := List.nodup_append.2 ⟨hnd, by simp, fun x hx y hy => by obtain rfl := List.mem_singleton.1 hy; exact fun e => hns (e ▸ hx)⟩
    have hlt2 : ∀ j ∈ s ++ [i], j < l.length := fun j hj => by
      rcases List.mem_append.1 hj with hj | hj
      · exact hlt j hj
      · obtain rfl := List.mem_singleton.1 hj; exact hil
    have hsl := nodup_le _ _ hnd2 hlt2
    rw [List.length_append, List.length_singleton] at hsl
    have hka : s.map (keyAt l) ++ [k] = (s ++ [i]).map (keyAt l) := by rw [List.map_append, List.map_singleton, keyAt_of hl]
    have hiw : w1.heap[it]? = some (.mapIter (some m) l.length (s ++ [i]).toArray l.length) := hS.get (X := itA it m (s ++ [i]) l.length) (by repeat constructor)
    have hilt := (Array.getElem?_eq_some_iff.1 hiw).1
    have hy := hY (it + 1) _ k w1 (by omega) hilt hj1 (by rw [List.length_map]; omega)
    unfold keyV at hy
    rw [hka] at hy
    refine R_skip ?_
    refine n_then ?_
    refine R_block ?_
    refine R_seq ?_
    refine R_region ?_
    refine R_op rfl (s_e hS (e_entryM rfl (fun w hh => (hh (keysA b m 112 l) (by repeat constructor)).mp) (by repeat constructor) hl) rfl ?_); clear hS a; intro a hS
    refine R_op rfl (s_e hS (e_extract rfl rfl) rfl ?_); clear hS a; intro a hS
    refine R_op rfl (s_e hS (e_assign rfl) rfl ?_); clear hS a; intro a hS
    refine R_nil ?_
    refine n_then ?_
    refine R_seq ?_
    refine R_region ?_
    refine R_op rfl (s_e hS (e_move rfl) rfl ?_); clear hS a; intro a hS
    refine R_op rfl (s_e hS (e_move rfl) rfl ?_); clear hS a; intro a hS
    refine R_yield hS rfl (.cons rfl .nil) hy (fun e' w' hR => ?_)
    obtain ⟨hKp, hR⟩ := hR
    have hit2 := (hKp.2 it hitW (by omega)).trans hiw
    have hW2 : W.heap.size ≤ w'.heap.size := Nat.le_trans hW1 hKp.1
    obtain ⟨y, rfl, hR2⟩ : ∃ y : Bool, e' = .returned (.bool y) ∧ ((y = true ∧ J (it + 1) ((s ++ [i]).map (keyAt l)) w') ∨ (y = false ∧ Jx (it + 1) ((s ++ [i]).map (keyAt l)) w')) := by
      rcases hR with ⟨h1, h2⟩ | ⟨h1, h2⟩
      · exact ⟨true, h1, .inl ⟨rfl, h2⟩⟩
      · exact ⟨false, h1, .inr ⟨rfl, h2⟩⟩
    refine ⟨_, rfl, ?_⟩
    replace hS := St.bareK (w := w') (hS.sl.put (d := 12) rfl (.bool y))
    clear hj1 hy hj hKp
    generalize a.put (some 12) (Value.bool y) = a2 at hS ⊢
    clear a; revert a2; intro a hS
    refine R_op rfl (s_e hS (e_not rfl) rfl ?_); clear hS a; intro a hS
    refine R_nil ?_
    refine n_then ?_
    first | refine R_ifD hS rfl (fun hc13 => ?_) (fun hc13 => ?_) | refine R_if hS rfl (fun hc13 => ?_) (fun hc13 => ?_)
    ·
      refine R_ret ?_
      refine r_block (r_then (r_block ?_))
      refine c_retN hS Try.results109 .nil rfl ?_
      have hx2 : Jx (it + 1) ((s ++ [i]).map (keyAt l)) w' := by
        rcases hR2 with ⟨h1, _⟩ | ⟨_, h2⟩
        · rw [h1] at hc13; cases hc13
        · exact h2
      exact ⟨⟨_, rfl⟩, it + 1, by omega, .inr ⟨_, trivial, hx2⟩⟩
    ·
      refine R_skip ?_
      refine n_block ?_
      have hx2 : J (it + 1) ((s ++ [i]).map (keyAt l)) w' := by
        rcases hR2 with ⟨_, h2⟩ | ⟨h1, _⟩
        · exact h2
        · rw [h1] at hc13; cases hc13
      exact ⟨s ++ [i], by rw [List.length_append, List.length_singleton]; omega, St.iter (hS.sl.sub (by repeat (first | exact trivial | refine ⟨rfl, ?_⟩))) hit2 (keys_ok (hK _ _ _ hx2)) rfl hnF, hW2, hnd2, hlt2, hx2⟩
  ·
    refine R_exit ?_
    refine x_then (x_then (x_hit ?_))
    refine r_norm ?_
    refine c_retN hS Try.results109 .nil rfl ?_
    obtain rfl : o = none := by
      cases o with
      | none => rfl
      | some q => cases hc7
    exact ⟨⟨_, rfl⟩, it + 1, by omega, .inl ⟨_, keys_all hnd hlt ho, hj1⟩⟩
end Go.Proofs.Ytheofhegdjjfgaa

namespace Go.Proofs.Ytheofhegdjjfgaa
open Go.RowKit

def strA (v : Value) (xs : List ByteArray) : Asn := ownA 9 1 v xs.length (xs.map .string)
theorem owns_keepK {w w' : World} {E s : Nat} {v : Value} {m : Nat} {xs : List Value} (h : w.ownsRow 0 E s v m xs) (hw : ∀ b, v.ownBlock = some b → w'.heap[b]? = w.heap[b]?) : w'.ownsRow 0 E s v m xs :=
  (ok_own h).hold w' hw
/-- what holds between two rounds. -/
structure apI (w0 : World) (bx hi : Nat) (xs : List ByteArray) (W : World) : Prop where
  chg : Chg noB w0 W
  row : ∃ v, W.heap[bx]? = some (.cells [v].toArray 142 (0, 0)) ∧ W.ownsRow 0 9 1 v xs.length (xs.map .string) ∧ ∀ k, v.ownBlock = some k → hi ≤ k
theorem apI_ab {w0 : World} {bx B hi : Nat} (hB : w0.heap.size ≤ B) (h2 : bx < B) : AbR B hi (apI w0 bx hi) := fun _ _ _ h e1 e2 e3 e4 e5 => by
  obtain ⟨v, q1, q2, q3⟩ := h.row
  have hs := h.chg.size
  refine ⟨⟨e1.trans h.chg.os, e2.trans h.chg.tape, e3.trans h.chg.output, Nat.le_trans hs e4, fun k hk hn => (e5 k (by omega) (.inl (by omega))).trans (h.chg.block k hk hn)⟩, v, ?_, ?_, q3⟩
  · exact (e5 bx (Array.getElem?_eq_some_iff.1 q1).1 (.inl h2)).trans q1
  · exact owns_keepK q2 (fun k hk => e5 k (World.ownsRow.lt q2 k hk).2 (.inr (q3 k hk)))
theorem chg_roundK {w0 W W1 W2 W3 : World} {B : Nat} {F : Nat → Prop} (h : Chg noB w0 W) (hB : w0.heap.size ≤ B) (h1 : Chg noB W W1) (hT : Turn (B + 1) W1 W2) (h3 : Chg F W2 W3) (hF : ∀ k, F k → w0.heap.size ≤ k) : Chg noB w0 W3 := by
  refine ⟨h3.os.trans (hT.os.trans (h1.os.trans h.os)), h3.tape.trans (hT.tape.trans (h1.tape.trans h.tape)), h3.output.trans (hT.output.trans (h1.output.trans h.output)), ?_, fun k hk _ => ?_⟩
  · have := h.size; have := h1.size; have := hT.size; have := h3.size; omega
  · have e1 := h.block k hk (fun hf => hf)
    have e2 := h1.block k (by have := h.size; omega) (fun hf => hf)
    have e3 := hT.same k (by omega)
    have e4 := h3.block k (by have := h.size; have := h1.size; have := hT.size; omega) (fun hf => by have := hF k hf; omega)
    exact e4.trans (e3.trans (e2.trans e1))

set_option maxRecDepth 100000 in
theorem AppendSeq_P {gf : Nat} {lb : Array Value} (eg : CallsTo Try.prog gf) {S Sp : List ByteArray → Prop} {N : Nat} (hN : N ≤ 1000000) (X : Asn) (hXm : X.mine = false) (hseq : SeqD Try.prog gf lb keyV S Sp N X.φ) (w0 : World) (hX : X.ok w0) :
    NewC Try.prog 115 [.slice none 0 0, .func (.func gf) #[] lb] w0 (fun y : { y : Value × List ByteArray // S y.2 } => y.1.1) (fun y => strA y.1.1 y.1.2) := by
  refine callsM_enter [(0, .slice none 0 0), (1, .func (.func gf) #[] lb)] [X] noB Try.func115 rfl Try.ntmps115 ⟨rfl, rfl, trivial⟩ rfl (okC (hX) okN) dis1 (mineC hXm mineN) ?_
  intro a hS
  refine R_seq ?_
  refine R_region ?_
  refine R_op rfl (s_box1 hS rfl rfl rfl ?_); clear hS a; (try clear w); intro a w b2 hS
  refine R_op rfl (s_e hS (e_assign rfl) rfl ?_); clear hS a; intro a hS
  refine R_nil ?_
  refine n_then ?_
  refine R_seq ?_
  refine R_seq ?_
  refine R_region ?_
  refine R_op rfl (s_e hS (e_move rfl) rfl ?_); clear hS a; intro a hS
  refine R_nil ?_
  refine n_then ?_
  refine R_block ?_
  obtain ⟨B, hB⟩ : ∃ B, w.heap.size = B := ⟨_, rfl⟩
  have g2 := hS.get (X := .blk b2 [.slice none 0 0] 142) (by repeat constructor)
  have l2 : b2 < B := by rw [← hB]; exact (Array.getElem?_eq_some_iff.1 g2).1
  have m2 : w0.heap.size ≤ b2 := (hS.mine (.blk b2 [.slice none 0 0] 142) (by repeat constructor) rfl b2 rfl).resolve_right (fun h => h)
  have hB0 : w0.heap.size ≤ B := by rw [← hB]; exact hS.chg.size
  refine rangeFunc_D2 (α := ByteArray) hB (hS.sl.ev rfl) eg hseq (fun _ => rfl) (apI w0 b2) (fun _ _ _ _ => False) (fun hi hh => apI_ab hB0 l2) (fun _ _ _ _ _ _ h => h.elim)
    (fun hi pre W h => hX.hold W (fun b hb => h.chg.block b (hX.lt b hb) (fun e => e))) (fun hi hh => ⟨hS.chg, .slice none 0 0, g2, World.ownsRow_nil _ _ _ _, fun k hk => (by cases hk)⟩) ?_ ?_ ?_
  · intro hi l pre x W hh hhW hI hlen
    obtain ⟨v, q1, q2, q3⟩ := hI.row
    have hR : St 13 noB W (a.put (some 7) (.string x)) W [(7, .string x), (2, .pointer (some ⟨b2, 0, none⟩))] [] :=
      ⟨(hS.sl.put rfl _).sub (by repeat (first | exact trivial | refine ⟨rfl, ?_⟩)), Chg.refl _ _, okN, disN, mineN⟩
    have hact : ({ tmps := (#[7].zip (keyV x)).foldl (fun t (p, v) => t.setIfInBounds p v) a.tmps, defers := [] } : Act) = a.put (some 7) (.string x) := by
      simp [Act.put, hS.sl.defers, keyV]
    rw [hact]
    clear hS hact g2 hB
    generalize a.put (some 7) (.string x) = a2 at hR ⊢
    clear a; rename Act => a
    clear w
    have hS := hR
    clear hR
    refine R_region ?_
    refine R_op rfl (s_e hS (e_assign rfl) rfl ?_); clear hS a; intro a hS
    refine R_nil ?_
    refine n_then ?_
    have hCW := hS.chg
    have hC1 := hCW.size
    refine ⟨⟨hC1, fun k h1 h2 => hCW.block k (by omega) (fun h => h)⟩, fun W2 hT => ?_⟩
    have hT1 := hT.size
    have hlow : ∀ k, k < W.heap.size → (k < B ∨ hi ≤ k) → W2.heap[k]? = W.heap[k]? := fun k hk hk2 => (hT.same k (by omega)).trans (hCW.block k hk (fun h => h))
    have hR : St 13 (fun k => k = b2 ∨ v.ownBlock = some k) W2 a W2 [(5, .string x), (2, .pointer (some ⟨b2, 0, none⟩))] [.blk b2 [v] 142, ownA 9 1 v pre.length (pre.map .string)] :=
      ⟨hS.sl.sub (by repeat (first | exact trivial | refine ⟨rfl, ?_⟩)), Chg.refl _ _, okC (ok_blk ((hlow b2 (by omega) (.inl l2)).trans q1)) (okC (ok_own (owns_keepK q2 (fun k hk => hlow k (World.ownsRow.lt q2 k hk).2 (.inr (q3 k hk))))) okN),
       disC (sepC (fun b h1 h2 => by have h1 : b = b2 := h1; have := q3 b h2; omega) sepN) dis1, mineO (fun b hb => .inl hb) (mineO (fun b hb => .inr hb) mineN)⟩
    clear hS
    have hS := hR
    clear hR
    refine R_block ?_
    refine R_region ?_
    refine R_op rfl (s_e hS (e_load rfl (by repeat constructor) ty_sc142 (by rfl)) rfl ?_); clear hS a; intro a hS
    refine R_op rfl (s_e hS (e_move rfl) rfl ?_); clear hS a; intro a hS
    refine R_op rfl (s_bslice hS ty_sl142 ty_sz9 ty_z9 rfl rfl rfl rfl (.one rfl rfl rfl .nil) rfl ?_); clear hS a; (try clear w); intro a w b10 hS
    refine R_op rfl (s_append1 hS rfl rfl ty_sl142 ty_sz9 ty_by9 ty_z9 rfl rfl rfl (by repeat constructor) (by repeat constructor) (by rfl) (by rfl) (fun _ => (by repeat constructor)) (by omega) ?_); clear hS a; (try clear w); intro v11 a w hv11 hS
    obtain ⟨q11, c11, rfl⟩ := own_slice (hS.get (X := ownA 9 1 v11 (pre.length + 1) (pre.map .string ++ [.string x])) (by repeat constructor))
    refine R_op rfl (s_store hS rfl rfl rfl ty_sz142 (by repeat constructor) (by repeat constructor) ?_); clear hS; (try clear w); intro w hS
    refine R_nil ?_
    refine n_block ?_
    have hC2 := hS.chg
    have hnew : ∀ k, (Value.slice q11 (pre.length + 1) c11).ownBlock = some k → hi ≤ k := fun k hk => by
      rcases hS.mine (ownA 9 1 (.slice q11 (pre.length + 1) c11) (pre.length + 1) (pre.map Value.string ++ [Value.string x])) (by repeat constructor) rfl k hk with h | h | h
      · omega
      · exact absurd h.symm (fun e => hS.sep (X := ownA 9 1 (.slice q11 (pre.length + 1) c11) (pre.length + 1) (pre.map Value.string ++ [Value.string x])) (Y := .blk b2 [(.slice q11 (pre.length + 1) c11)] 142) (by repeat (first | exact Rem.head | apply Rem.tail)) (by repeat constructor) k hk e.symm)
      · exact q3 k h
    have hrow : World.ownsRow w 0 9 1 (.slice q11 (pre.length + 1) c11) (pre.length + 1) (pre.map Value.string ++ [Value.string x]) := hS.get (X := ownA 9 1 (.slice q11 (pre.length + 1) c11) (pre.length + 1) (pre.map Value.string ++ [Value.string x])) (by repeat constructor)
    refine ⟨⟨hC2.size, fun k h1 h2 => hC2.block k (by omega) (fun h => h.elim (fun h => by omega) (fun h => by have := q3 k h; omega))⟩, ⟨chg_roundK hI.chg hB0 hCW hT hC2 (fun k h => h.elim (fun h => by omega) (fun h => by have := q3 k h; omega)), (.slice q11 (pre.length + 1) c11), hS.get (X := .blk b2 [(.slice q11 (pre.length + 1) c11)] 142) (by repeat constructor), by simpa using hrow, hnew⟩⟩
  · intro hi D xs W hh hBD hDh hxs hI hDc
    obtain ⟨v, q1, q2, q3⟩ := hI.row
    have hd : St 13 noB w0 a W [(2, .pointer (some ⟨b2, 0, none⟩))] [.blk b2 [v] 142, strA v xs] :=
      ⟨hS.sl.sub (by repeat (first | exact trivial | refine ⟨rfl, ?_⟩)), hI.chg, okC (ok_blk q1) (okC (ok_own q2) okN), disC (sepC (fun b h1 h2 => by have h1 : b = b2 := h1; have := q3 b h2; omega) sepN) dis1, fun X hX _ k hk => .inl (by
        rcases List.mem_cons.1 hX with rfl | hX
        · have : k = b2 := hk; omega
        · obtain rfl := List.mem_singleton.1 hX; have := q3 k hk; omega)⟩
    clear hS
    refine n_block ?_
    refine n_then ?_
    refine R_seq ?_
    refine R_region ?_
    obtain ⟨p1, c1, rfl⟩ := own_slice q2
    rw [hd.sl.defers]
    refine R_op rfl (s_eD hd (e_loadC rfl ty_sc142 (fun w hh => cell_of_blk (cs := [.slice p1 xs.length c1]) (hh (.blk b2 [.slice p1 xs.length c1] 142) (by repeat constructor)) rfl)) rfl ?_); clear hd a; intro a hd
    refine R_op rfl (s_eD hd (e_assign rfl) rfl ?_); clear hd a; intro a hd
    refine R_nil ?_
    refine n_then ?_
    refine R_ret ?_
    have hd3 := hd.putD (D := D) (o := .deferred none) (by omega) (fun X hX k hk => by
      rcases List.mem_cons.1 hX with rfl | hX
      · have : k = b2 := hk; omega
      · obtain rfl := List.mem_singleton.1 hX; have := q3 k hk; omega)
    exact end1 hd3 (.inl rfl) hDc Try.results115 (.cons (.tmp rfl) .nil) ⟨⟨(.slice p1 xs.length c1, xs), hxs⟩, rfl, hd3.chg, hd3.new (X := strA (.slice p1 xs.length c1) xs) (by repeat constructor) rfl⟩
  · intro hi D c pre W _ _ _ _ hF; exact hF.elim
end Go.Proofs.Ytheofhegdjjfgaa

namespace Go.Proofs.Ytheofhegdjjfgaa
open Go.RowKit

def bytesL (xs : List ByteArray) : List (List UInt8) := xs.map (·.data.toList)
/-- texts in order. -/
def srt (xs : List ByteArray) : List ByteArray := ((bytesL xs).mergeSort fun x y => decide (x ≤ y)).map fun l => ⟨l.toArray⟩
theorem srt_len (xs : List ByteArray) : (srt xs).length = xs.length := by simp [srt, bytesL]
theorem srt_perm {xs ys : List ByteArray} (h : xs.Perm ys) : srt xs = srt ys := by
  unfold srt
  have h2 : (bytesL xs).Perm (bytesL ys) := h.map _
  have h3 := Go.mergeSort_of_perm h2
  exact congrArg (List.map fun l => (⟨l.toArray⟩ : ByteArray)) h3
theorem encStr_map (xs : List ByteArray) : (bytesL xs).map encStr = xs.map Value.string := by
  unfold bytesL
  rw [List.map_map]
  apply List.map_congr_left
  intro x _
  show Value.string ⟨x.data.toList.toArray⟩ = _
  simp
theorem SortS_P (v : Value) (xs : List ByteArray) (hx : xs.length ≤ 1000000) (w0 : World) (h : w0.ownsRow 0 9 1 v xs.length (xs.map .string)) :
    MutC Try.prog 100 [v] w0 (strA v xs) (fun _ : Unit => .tuple #[]) (fun _ => strA v (srt xs)) := by
  have hl : (bytesL xs).length = xs.length := by simp [bytesL]
  rcases h.2 with ⟨rfl, h0⟩ | ⟨g, cap, cur, rfl, hbase, hb, h1, h2, h3, h4⟩
  · obtain rfl : xs = [] := List.eq_nil_of_length_eq_zero h0
    refine (Try.slices_Sort_string_none none 0 w0).mono fun e w' ⟨he, hw⟩ => ?_
    subst hw
    exact ⟨(), he, Chg.refl _ _, (by have e : srt [] = [] := List.eq_nil_of_length_eq_zero (srt_len []); rw [e]; exact ok_own (World.ownsRow_nil _ _ _ _)), fun b hb => (by cases hb)⟩
  · have hH := Go.holds_of_block (ss := bytesL xs) hb (by rw [hl, encStr_map]; simpa using h4)
    have hc := Try.slices_Sort_string g 0 cap (bytesL xs) w0 hH (Array.getElem?_eq_some_iff.1 hb).1 (by omega)
    rw [hl] at hc
    refine hc.mono fun e w' ⟨he, n, os, hw⟩ => ?_
    have hgb : w0.grownBy w' (some g) := by rw [hw]; exact Go.grownBy_sorted _
    have hrow := Go.ownsRow_sorted (n := n) (os := os) (ss := bytesL xs) (ts := (bytesL xs).mergeSort fun x y => decide (x ≤ y)) (by simp) hbase hb (by omega) h2 h3
    rw [← hw, hl] at hrow
    have hsm : ((bytesL xs).mergeSort fun x y => decide (x ≤ y)).map encStr = (srt xs).map Value.string := by unfold srt; rw [List.map_map]; rfl
    rw [hsm] at hrow
    refine ⟨(), he, ?_, ?_, fun b hb2 => .inl hb2⟩
    · exact ⟨hgb.os, hgb.tape, hgb.output, hgb.size, fun k hk hn => hgb.block k hk (fun e => hn (congrArg some (Option.some.inj e).symm))⟩
    · have e1 := srt_len xs
      refine ok_own ?_
      rw [e1]; exact hrow

set_option maxRecDepth 100000 in
theorem CollectS_P {gf : Nat} {lb : Array Value} (eg : CallsTo Try.prog gf) {S Sp : List ByteArray → Prop} {N : Nat} (hN : N ≤ 1000000) (X : Asn) (hXm : X.mine = false) (hseq : SeqD Try.prog gf lb keyV S Sp N X.φ) (w0 : World) (hX : X.ok w0) :
    NewC Try.prog 99 [.func (.func gf) #[] lb] w0 (fun y : { y : Value × List ByteArray // S y.2 } => y.1.1) (fun y => strA y.1.1 y.1.2) := by
  refine c_enter [(0, .func (.func gf) #[] lb)] [X] noB Try.func99 rfl Try.ntmps99 ⟨rfl, trivial⟩ rfl (okC (hX) okN) dis1 (mineC hXm mineN) ?_
  intro a hS
  refine c_seq ?_
  refine c_region ?_
  refine L_op (s_e hS (e_assign rfl) rfl ?_); clear hS a; intro a hS
  refine L_nil ?_
  refine n_then ?_
  refine c_seq ?_
  refine c_region ?_
  refine L_op (s_e hS (e_move rfl) rfl ?_); clear hS a; intro a hS
  refine L_op (s_callN hS (.cons rfl (.cons rfl .nil)) cf115 rfl (AppendSeq_P eg hN X hXm hseq _ (hS.ok X (by repeat constructor))) ?_); clear hS a; (try clear w); intro x4 a w hS
  refine L_op (s_e hS (e_assign rfl) rfl ?_); clear hS a; intro a hS
  refine L_nil ?_
  refine n_then ?_
  refine wp_ret ?_
  refine c_ret1 hS Try.results99 (.tmp rfl) ?_
  exact ⟨x4, rfl, hS.chg, hS.new (X := strA x4.1.1 x4.1.2) (by repeat constructor) rfl⟩
set_option maxRecDepth 100000 in
/-- slices.Sorted over an iterator of texts. -/
theorem SortedS_P {gf : Nat} {lb : Array Value} (eg : CallsTo Try.prog gf) {S Sp : List ByteArray → Prop} {N : Nat} (hN : N ≤ 1000000) (hSN : ∀ xs, S xs → xs.length ≤ N) (X : Asn) (hXm : X.mine = false) (hseq : SeqD Try.prog gf lb keyV S Sp N X.φ) (w0 : World) (hX : X.ok w0) :
    NewC Try.prog 72 [.func (.func gf) #[] lb] w0 (fun y : { y : Value × List ByteArray // ∃ xs, S xs ∧ y.2 = srt xs } => y.1.1) (fun y => strA y.1.1 y.1.2) := by
  refine c_enter [(0, .func (.func gf) #[] lb)] [X] noB Try.func72 rfl Try.ntmps72 ⟨rfl, trivial⟩ rfl (okC (hX) okN) dis1 (mineC hXm mineN) ?_
  intro a hS
  refine c_seq ?_
  refine c_region ?_
  refine L_op (s_e hS (e_assign rfl) rfl ?_); clear hS a; intro a hS
  refine L_nil ?_
  refine n_then ?_
  refine c_seq ?_
  refine c_region ?_
  refine L_op (s_e hS (e_move rfl) rfl ?_); clear hS a; intro a hS
  refine L_op (s_callN hS (.cons rfl .nil) cf99 rfl (CollectS_P eg hN X hXm hseq _ (hS.ok X (by repeat constructor))) ?_); clear hS a; (try clear w); intro x5 a w hS
  obtain ⟨⟨v5, xs5⟩, hs5⟩ := x5
  simp only at hs5 hS
  have hn5 := hSN _ hs5
  refine L_op (s_e hS (e_assign rfl) rfl ?_); clear hS a; intro a hS
  refine L_nil ?_
  refine n_then ?_
  refine c_seq ?_
  refine c_region ?_
  refine L_op (s_e hS (e_move rfl) rfl ?_); clear hS a; intro a hS
  refine L_op (s_callM hS (.cons rfl .nil) cf100 rfl (SortS_P v5 xs5 (by omega) _ (hS.get (X := strA v5 xs5) (by repeat constructor))) (fun x => (by repeat constructor)) rfl ?_); clear hS a; (try clear w); intro x7 a w hS
  refine L_nil ?_
  refine n_then ?_
  refine c_seq ?_
  refine c_region ?_
  refine L_op (s_e hS (e_move rfl) rfl ?_); clear hS a; intro a hS
  refine L_op (s_e hS (e_assign rfl) rfl ?_); clear hS a; intro a hS
  refine L_nil ?_
  refine n_then ?_
  refine wp_ret ?_
  refine c_ret1 hS Try.results72 (.tmp rfl) ?_
  exact ⟨⟨(v5, srt xs5), xs5, hs5, rfl⟩, rfl, hS.chg, hS.new (X := strA v5 (srt xs5)) (by repeat constructor) rfl⟩
end Go.Proofs.Ytheofhegdjjfgaa

namespace Go.Proofs.Ytheofhegdjjfgaa
open Go.RowKit

def rrFits (x : RR) : Prop := x.1.size ≤ 4611686018427387904 ∧ (-9223372036854775808 ≤ x.2.1 ∧ x.2.1 ≤ 9223372036854775807) ∧ (-9223372036854775808 ≤ x.2.2 ∧ x.2.2 ≤ 9223372036854775807)
def fewS (l : List RR) : Prop := l.length ≤ 60 ∧ ∀ x ∈ l, x.1.size ≤ 300
instance (l : List RR) : Decidable (fewS l) := by unfold fewS; infer_instance
set_option maxRecDepth 100000 in
theorem fxfew_P (p : Option (Nat × Nat)) (c : Nat) (l : List RR) (hlen : l.length ≤ 4611686018427387904) (hfit : ∀ x ∈ l, rrFits x) (w0 : World) (h : RowP p 3 (l.map encR) w0) (hb : ∀ q, p = some q → q.1 < w0.heap.size) :
    PureC Try.prog 13 [sliceV p l.length c] w0 (.bool (decide (fewS l))) := by
  refine c_enter [(0, sliceV p l.length c)] [rowP p 3 (l.map encR)] noB Try.func13 rfl Try.ntmps13 ⟨rfl, trivial⟩ rfl (okC (ok_rowP h hb) okN) dis1 (mineC (by rfl) mineN) ?_
  intro a hS
  refine c_seq ?_
  refine c_region ?_
  refine L_op (s_e hS (e_assign rfl) rfl ?_); clear hS a; intro a hS
  refine L_nil ?_
  refine n_then ?_
  refine c_seq ?_
  refine c_seq ?_
  refine c_region ?_
  refine L_op (s_e hS (e_assign rfl) rfl ?_); clear hS a; intro a hS
  refine L_nil ?_
  refine n_then ?_
  refine wp_block ?_
  skip
  refine c_loop (γ := Nat) (fun k a w => St 24 noB w0 a w [(3, .int .i64 (k : Int)), (0, sliceV p l.length c)] [rowP p 3 (l.map encR)] ∧ k ≤ l.length ∧ ∀ j, j < k → ∀ y, l[j]? = some y → y.1.size ≤ 300) (fun k => l.length - k) 0 ⟨hS.slots (by repeat (first | exact trivial | refine ⟨rfl, ?_⟩)), Nat.zero_le _, fun j hj => by omega⟩ ?_
  clear hS a; (try clear w); intro k a w hI
  obtain ⟨hS, hk, hno⟩ := hI
  refine c_seq ?_
  refine c_seq ?_
  refine c_region ?_
  refine L_op (s_e hS (e_move rfl) rfl ?_); clear hS a; intro a hS
  refine L_op (s_e hS (e_move rfl) rfl ?_); clear hS a; intro a hS
  refine L_op (s_e hS (e_len rfl rfl ty_sl22) rfl ?_); clear hS a; intro a hS
  refine L_op (s_e hS (e_bin rfl rfl rfl) rfl ?_); clear hS a; intro a hS
  refine L_op (s_e hS (e_move rfl) rfl ?_); clear hS a; intro a hS
  refine L_merge 3 11 (.bool (decide (k < l.length ∧ k ≤ 60))) hS ?_ ?_
  · intro hcM11
    (first | refine g_splitD (t := 8) hS rfl ?_ ?_ | refine g_split (t := 8) hS rfl ?_ ?_) <;> (clear hS; intro hg8 hS)
    ·
      refine L_go hS rfl rfl (s_e hS (e_move rfl) rfl ?_); clear hS a; intro a hS
      refine L_go hS rfl rfl (s_e hS (e_bin rfl rfl rfl) rfl ?_); clear hS a; intro a hS
      first | (refine L_op (s_e hS (e_pick_t rfl rfl) rfl ?_); clear hS a; intro a hS) | (refine L_op (s_e hS (e_pick_f rfl rfl) rfl ?_); clear hS a; intro a hS)
      exact hcM11 _ _ (hS.ends 4 11 8 rfl (congrArg Value.bool (by rw [decide_eq_decide]; omega)) rfl rfl (by first | exact congrArg Value.bool (decide_eq_true hg8).symm | exact congrArg Value.bool hg8.symm | simp [hg8]) rfl)
    ·
      refine L_skip_t hS rfl rfl rfl ?_; clear hS a; intro a hS
      refine L_skip_t hS rfl rfl rfl ?_; clear hS a; intro a hS
      first | (refine L_op (s_e hS (e_pick_t rfl rfl) rfl ?_); clear hS a; intro a hS) | (refine L_op (s_e hS (e_pick_f rfl rfl) rfl ?_); clear hS a; intro a hS)
      exact hcM11 _ _ (hS.ends 4 11 8 rfl (congrArg Value.bool (by symm; rw [decide_eq_false_iff_not]; omega)) rfl rfl (by first | exact congrArg Value.bool (decide_eq_false hg8).symm | exact congrArg Value.bool hg8.symm | simp [hg8]) rfl)
  · clear hS a; (try clear w); intro a w hS
    simp only [List.drop_succ_cons, List.drop_zero]
    refine L_nil ?_
    refine n_then ?_
    first | refine c_ifD hS rfl (fun hc11 => ?_) (fun hc11 => ?_) | refine c_if hS rfl (fun hc11 => ?_) (fun hc11 => ?_)
    ·
      obtain ⟨x, hx⟩ : ∃ x, l[k]? = some x := ⟨l[k]'hc11.1, List.getElem?_eq_getElem hc11.1⟩
      have hx' : (l.map encR)[k]? = some (encR x) := by simp [hx]
      obtain ⟨b, off, rfl⟩ := rowP_some h hx'
      have hxf := hfit x (List.mem_of_getElem? hx)
      have hxs := hxf.1
      refine wp_skip ?_
      refine n_then ?_
      refine c_seq ?_
      refine wp_block ?_
      refine c_seq ?_
      refine c_region ?_
      refine L_op (s_e hS (e_move rfl) rfl ?_); clear hS a; intro a hS
      refine L_op (s_e hS (e_move rfl) rfl ?_); clear hS a; intro a hS
      refine L_op (s_e hS (e_ixN rfl rfl ty_sl22 ty_sz24 (by omega)) rfl ?_); clear hS a; intro a hS
      first | (refine L_op (s_e hS (e_fa0 rfl ty_fo24_0) rfl ?_); clear hS a; intro a hS) | (refine L_op (s_e hS (e_faK rfl ty_fo24_0) rfl ?_); clear hS a; intro a hS)
      refine L_op (s_e hS (e_loadC rfl ty_sc9 (fun w hh => rowP_get (by repeat constructor) hx' w hh 0 (.string x.1) rfl)) rfl ?_); clear hS a; intro a hS
      refine L_op (s_e hS (e_lenS rfl rfl ty_u9) rfl ?_); clear hS a; intro a hS
      refine L_op (s_e hS (e_bin rfl rfl rfl) rfl ?_); clear hS a; intro a hS
      refine L_nil ?_
      refine n_then ?_
      first | refine c_ifD hS rfl (fun hc20 => ?_) (fun hc20 => ?_) | refine c_if hS rfl (fun hc20 => ?_) (fun hc20 => ?_)
      ·
        refine c_seq ?_
        refine c_region ?_
        refine L_op (s_e hS (e_assign rfl) rfl ?_); clear hS a; intro a hS
        refine L_nil ?_
        refine n_then ?_
        refine wp_ret ?_
        refine r_block (r_then (r_then (r_block (r_then ?_))))
        refine c_ret1 hS Try.results13 (.tmp rfl) ?_
        have hn : ¬ fewS l := fun hf => by have := hf.2 x (List.mem_of_getElem? hx); omega
        exact ⟨by rw [decide_eq_false hn], hS.chg⟩
      ·
        refine wp_skip ?_
        refine n_block ?_
        refine n_then ?_
        refine c_region ?_
        refine L_op (s_e hS (e_move rfl) rfl ?_); clear hS a; intro a hS
        first | (refine L_op (s_e hS (e_binN rfl rfl rfl (by omega)) rfl ?_); clear hS a; intro a hS) | (refine L_op (s_e hS (e_bin rfl rfl rfl) rfl ?_); clear hS a; intro a hS)
        refine L_op (s_e hS (e_assign rfl) rfl ?_); clear hS a; intro a hS
        refine L_nil ?_
        exact ⟨k + 1, by omega, hS.slots (by repeat (first | exact trivial | refine ⟨rfl, ?_⟩)), by omega, fun j hj y hy => by
        by_cases e : j = k
        · subst e; rw [hx] at hy; cases hy; omega
        · exact hno j (by omega) y hy⟩
    ·
      refine wp_exit ?_
      refine x_then (x_then (x_hit ?_))
      refine n_then ?_
      refine c_seq ?_
      refine c_region ?_
      refine L_op (s_e hS (e_move rfl) rfl ?_); clear hS a; intro a hS
      refine L_op (s_e hS (e_len rfl rfl ty_sl22) rfl ?_); clear hS a; intro a hS
      refine L_op (s_e hS (e_bin rfl rfl rfl) rfl ?_); clear hS a; intro a hS
      refine L_op (s_e hS (e_assign rfl) rfl ?_); clear hS a; intro a hS
      refine L_nil ?_
      refine n_then ?_
      refine wp_ret ?_
      refine c_ret1 hS Try.results13 (.tmp rfl) ?_
      refine ⟨?_, hS.chg⟩
      have : (l.length : Int) ≤ 60 ↔ fewS l := ⟨fun h => ⟨by omega, fun x hx => by
        obtain ⟨j, hj, rfl⟩ := List.mem_iff_getElem.1 hx
        exact hno j (by omega) _ (List.getElem?_eq_getElem hj)⟩, fun h => by have := h.1; omega⟩
      rw [decide_eq_decide.2 this]

def usd : ByteArray := ⟨#[85, 83, 68]⟩
theorem usd_scale : (scaleR usd).2 = 0 := by decide +kernel
def stepS (own : ByteArray) (st : List (ByteArray × List (Int × Int)) × Int) (x : RR) : List (ByteArray × List (Int × Int)) × Int := setR own st.1 st.2 x.1 x.2.1 x.2.2
/-- what the sets make of no rates. -/
def madeF (own : ByteArray) (l : List RR) : List (ByteArray × List (Int × Int)) × Int := l.foldl (stepS own) ([], 0)
inductive RefsOf (own : ByteArray) : List RR → List RR → Prop
  | nil : RefsOf own [] []
  | snoc {l rows rows' : List RR} {x : RR} (h : RefsOf own l rows) (hs : refStep own rows x.1 x.2.1 x.2.2 rows') : RefsOf own (l ++ [x]) rows'
theorem step_len {own c : ByteArray} {rows rows' : List RR} {at_ nano : Int} (h : refStep own rows c at_ nano rows') (hl : rows.length ≤ 500) : rows'.length ≤ 500 := by
  rcases h with ⟨_, rfl⟩ | ⟨hE, k, hk, rfl⟩
  · exact hl
  · have h5 : ¬ 500 ≤ rows.length := fun h5 => by
      unfold refE at hE
      split at hE
      · cases hE
      · split at hE
        · cases hE
        · split at hE
          · cases hE
          · cases hE
    have := hk.1
    simp; omega
structure Both where
  bk : Nat
  mb : Nat
  bw : Nat
  es : List RA
  n : Int
  rows : List RR
  v : Value
def bothA (y : Both) : Asn := .any (fun k => ratesF y.bk y.mb y.es k ∨ refF y.bw y.v k) (fun w => ratesφ y.bk y.mb usd y.es y.n w ∧ refφ y.bw usd y.rows y.v w) true
theorem both_ok {y : Both} {w : World} (h1 : (ratesA y.bk y.mb usd y.es y.n true).ok w) (h2 : (refA y.bw usd y.rows y.v true).ok w) : (bothA y).ok w :=
  ⟨fun b hb => hb.elim (h1.lt b) (h2.lt b), fun w' hw => ⟨h1.hold w' (fun b hb => hw b (.inl hb)), h2.hold w' (fun b hb => hw b (.inr hb))⟩⟩
set_option maxRecDepth 100000 in
theorem fxmade_P (p : Option (Nat × Nat)) (c : Nat) (l : List RR) (hlen : l.length ≤ 4611686018427387904) (hfit : ∀ x ∈ l, rrFits x) (w0 : World) (h : RowP p 3 (l.map encR) w0) (hb : ∀ q, p = some q → q.1 < w0.heap.size) :
    NewC Try.prog 17 [sliceV p l.length c] w0 (fun y : { y : Both // (vsT y.es, y.n) = madeF usd l ∧ RefsOf usd l y.rows } => .tuple [.pointer (some ⟨y.1.bk, 0, none⟩), .pointer (some ⟨y.1.bw, 0, none⟩)].toArray) (fun y => bothA y.1) := by
  refine c_enter [(0, sliceV p l.length c)] [rowP p 3 (l.map encR)] noB Try.func17 rfl Try.ntmps17 ⟨rfl, trivial⟩ rfl (okC (ok_rowP h hb) okN) dis1 (mineC (by rfl) mineN) ?_
  intro a hS
  refine c_seq ?_
  refine c_region ?_
  refine L_op (s_e hS (e_assign rfl) rfl ?_); clear hS a; intro a hS
  refine L_op (s_e hS (e_assign rfl) rfl ?_); clear hS a; intro a hS
  refine L_nil ?_
  refine n_then ?_
  refine c_seq ?_
  refine c_region ?_
  refine L_op (s_callN hS (.cons rfl .nil) cf37 rfl (fxNew_P usd _ usd_scale) ?_); clear hS a; (try clear w); intro x9 a w hS
  refine L_op (s_e hS (e_move rfl) rfl ?_); clear hS a; intro a hS
  refine L_op (s_e hS (e_extract rfl rfl) rfl ?_); clear hS a; intro a hS
  refine L_op (s_e hS (e_extract rfl rfl) rfl ?_); clear hS a; intro a hS
  refine L_op (s_e hS (e_assign rfl) rfl ?_); clear hS a; intro a hS
  refine L_op (s_e hS (e_assign rfl) rfl ?_); clear hS a; intro a hS
  refine L_nil ?_
  refine n_then ?_
  refine c_seq ?_
  refine c_region ?_
  refine L_op (s_e hS (e_build ty_z86 ty_pl86 (.one rfl rfl rfl (by repeat constructor) .nil)) rfl ?_); clear hS a; intro a hS
  refine L_op (s_boxA hS rfl rfl ?_); clear hS a; (try clear w); intro a w b13 hS
  refine L_op (s_e hS (e_assign rfl) rfl ?_); clear hS a; intro a hS
  refine L_nil ?_
  refine n_then ?_
  refine c_seq ?_
  refine c_seq ?_
  refine c_region ?_
  replace hS := hS.swap (X := .blk b13 [.string usd, .slice none 0 0] 86) (Y := refA b13 usd [] (.slice none 0 0) true) (by repeat constructor) (ref_ok true ⟨hS.get (X := .blk b13 [.string usd, .slice none 0 0] 86) (by repeat constructor), World.ownsRow_nil _ _ _ _⟩) (fun b hb => by rcases hb with hb | hb; exact hb; cases hb) rfl
  refine L_op (s_e hS (e_assign rfl) rfl ?_); clear hS a; intro a hS
  refine L_nil ?_
  refine n_then ?_
  refine wp_block ?_
  skip
  refine c_loop (γ := Nat × (List RA × Int) × (List RR × Value)) (fun s a w => St 60 noB w0 a w [(7, .int .i64 (s.1 : Int)), (0, sliceV p l.length c), (4, .pointer (some ⟨x9.1, 0, none⟩)), (6, .pointer (some ⟨b13, 0, none⟩))] [rowP p 3 (l.map encR), ratesA x9.1 x9.2 usd s.2.1.1 s.2.1.2 true, refA b13 usd s.2.2.1 s.2.2.2 true] ∧ s.1 ≤ l.length ∧ (vsT s.2.1.1, s.2.1.2) = madeF usd (l.take s.1) ∧ RefsOf usd (l.take s.1) s.2.2.1 ∧ s.2.2.1.length ≤ 500) (fun s => l.length - s.1) (0, ([], 0), ([], .slice none 0 0)) ⟨(hS.slots (by repeat (first | exact trivial | refine ⟨rfl, ?_⟩))).pick (by repeat (first | exact Pick.nil | (refine Pick.cons (by repeat (first | exact Rem.head | apply Rem.tail)) ?_))), Nat.zero_le _, rfl, RefsOf.nil, Nat.zero_le _⟩ ?_
  clear hS a; (try clear w); intro s a w hI
  obtain ⟨hS, hk, hm, hr, hrl⟩ := hI
  obtain ⟨k, ⟨es, n⟩, rows, v⟩ := s
  simp only at hS hk hm hr hrl ⊢
  refine c_seq ?_
  refine c_seq ?_
  refine c_region ?_
  refine L_op (s_e hS (e_move rfl) rfl ?_); clear hS a; intro a hS
  refine L_op (s_e hS (e_move rfl) rfl ?_); clear hS a; intro a hS
  refine L_op (s_e hS (e_len rfl rfl ty_sl22) rfl ?_); clear hS a; intro a hS
  refine L_op (s_e hS (e_bin rfl rfl rfl) rfl ?_); clear hS a; intro a hS
  refine L_op (s_e hS (e_move rfl) rfl ?_); clear hS a; intro a hS
  refine L_merge 3 21 (.bool (decide (k < l.length))) hS ?_ ?_
  · intro hcM21
    (first | refine g_splitD (t := 18) hS rfl ?_ ?_ | refine g_split (t := 18) hS rfl ?_ ?_) <;> (clear hS; intro hg18 hS)
    ·
      refine L_go hS rfl rfl (s_e hS (e_move rfl) rfl ?_); clear hS a; intro a hS
      refine L_go hS rfl rfl (s_e hS (e_nnil rfl ty_u32) rfl ?_); clear hS a; intro a hS
      first | (refine L_op (s_e hS (e_pick_t rfl rfl) rfl ?_); clear hS a; intro a hS) | (refine L_op (s_e hS (e_pick_f rfl rfl) rfl ?_); clear hS a; intro a hS)
      exact hcM21 _ _ (hS.ends 4 21 18 rfl (congrArg Value.bool (by rw [decide_eq_true (by omega)]; simp)) rfl rfl (by first | exact congrArg Value.bool (decide_eq_true hg18).symm | exact congrArg Value.bool hg18.symm | simp [hg18]) rfl)
    ·
      refine L_skip_t hS rfl rfl rfl ?_; clear hS a; intro a hS
      refine L_skip_t hS rfl rfl rfl ?_; clear hS a; intro a hS
      first | (refine L_op (s_e hS (e_pick_t rfl rfl) rfl ?_); clear hS a; intro a hS) | (refine L_op (s_e hS (e_pick_f rfl rfl) rfl ?_); clear hS a; intro a hS)
      exact hcM21 _ _ (hS.ends 4 21 18 rfl (congrArg Value.bool (by symm; rw [decide_eq_false_iff_not]; omega)) rfl rfl (by first | exact congrArg Value.bool (decide_eq_false hg18).symm | exact congrArg Value.bool hg18.symm | simp [hg18]) rfl)
  · clear hS a; (try clear w); intro a w hS
    simp only [List.drop_succ_cons, List.drop_zero]
    refine L_nil ?_
    refine n_then ?_
    first | refine c_ifD hS rfl (fun hc21 => ?_) (fun hc21 => ?_) | refine c_if hS rfl (fun hc21 => ?_) (fun hc21 => ?_)
    ·
      obtain ⟨x, hx⟩ : ∃ x, l[k]? = some x := ⟨l[k]'hc21, List.getElem?_eq_getElem hc21⟩
      have hx' : (l.map encR)[k]? = some (encR x) := by simp [hx]
      obtain ⟨b, off, rfl⟩ := rowP_some h hx'
      have hxf := hfit x (List.mem_of_getElem? hx)
      refine wp_skip ?_
      refine n_then ?_
      refine c_seq ?_
      refine wp_block ?_
      refine c_seq ?_
      refine c_drawS [] (by kernel_rfl) hS (sub_cons (X := rowP (some (b, off)) 3 (l.map encR)) (by repeat constructor) sub_nil) ?_; clear hS; (try clear w); intro w hS
      simp only [List.length_cons, List.length_nil, Nat.zero_add, Nat.reduceAdd, List.replicate]
      refine Z_take0 (i := 0) hS rfl want_none (e_move rfl) (listed' := [true, false, false, false, false, false, false, false, false, false, false, false, false, false, false, false, false]) rfl (by kernel_rfl) (by kernel_rfl) (by kernel_rfl) (fun _ _ _ h => h) rfl ?_; clear hS a; intro a hS
      refine Z_take0 (i := 1) hS rfl want_none (e_move rfl) (listed' := [true, true, false, false, false, false, false, false, false, false, false, false, false, false, false, false, false]) rfl (by kernel_rfl) (by kernel_rfl) (by kernel_rfl) (fun _ _ _ h => h) rfl ?_; clear hS a; intro a hS
      refine Z_take0 (i := 2) hS rfl want_none (e_move rfl) (listed' := [true, true, true, false, false, false, false, false, false, false, false, false, false, false, false, false, false]) rfl (by kernel_rfl) (by kernel_rfl) (by kernel_rfl) (fun _ _ _ h => h) rfl ?_; clear hS a; intro a hS
      refine Z_take0 (i := 3) hS rfl want_none (e_ixN rfl rfl ty_sl22 ty_sz24 (by omega)) (listed' := [true, true, true, true, false, false, false, false, false, false, false, false, false, false, false, false, false]) rfl (by kernel_rfl) (by kernel_rfl) (by kernel_rfl) (fun _ _ _ h => h) rfl ?_; clear hS a; intro a hS
      first | (refine Z_take0 (i := 4) hS rfl want_none (e_fa0 rfl ty_fo24_0) (listed' := [true, true, true, true, true, false, false, false, false, false, false, false, false, false, false, false, false]) rfl (by kernel_rfl) (by kernel_rfl) (by kernel_rfl) (fun _ _ _ h => h) rfl ?_; clear hS a; intro a hS) | (refine Z_take0 (i := 4) hS rfl want_none (e_faK rfl ty_fo24_0) (listed' := [true, true, true, true, true, false, false, false, false, false, false, false, false, false, false, false, false]) rfl (by kernel_rfl) (by kernel_rfl) (by kernel_rfl) (fun _ _ _ h => h) rfl ?_; clear hS a; intro a hS)
      refine Z_take (i := 5) hS rfl want_none (e_loadC rfl ty_sc9 (fun w hh => rowP_get (by repeat constructor) hx' w hh 0 (.string x.1) rfl)) (listed' := [true, true, true, true, true, true, false, false, false, false, false, false, false, false, false, false, false]) rfl (by kernel_rfl) (by kernel_rfl) (by kernel_rfl) (by kernel_rfl) (by kernel_rfl) (sub_cons (by repeat constructor) sub_nil) (fun _ _ _ h => h) rfl ?_; clear hS a; intro a hS
      refine Z_take0 (i := 6) hS rfl want_none (e_move rfl) (listed' := [true, true, true, true, true, true, true, false, false, false, false, false, false, false, false, false, false]) rfl (by kernel_rfl) (by kernel_rfl) (by kernel_rfl) (fun _ _ _ h => h) rfl ?_; clear hS a; intro a hS
      refine Z_take0 (i := 7) hS rfl want_none (e_move rfl) (listed' := [true, true, true, true, true, true, true, true, false, false, false, false, false, false, false, false, false]) rfl (by kernel_rfl) (by kernel_rfl) (by kernel_rfl) (fun _ _ _ h => h) rfl ?_; clear hS a; intro a hS
      refine Z_take0 (i := 8) hS rfl want_none (e_ixN rfl rfl ty_sl22 ty_sz24 (by omega)) (listed' := [true, true, true, true, true, true, true, true, true, false, false, false, false, false, false, false, false]) rfl (by kernel_rfl) (by kernel_rfl) (by kernel_rfl) (fun _ _ _ h => h) rfl ?_; clear hS a; intro a hS
      first | (refine Z_take0 (i := 9) hS rfl want_none (e_fa0 rfl ty_fo24_1) (listed' := [true, true, true, true, true, true, true, true, true, true, false, false, false, false, false, false, false]) rfl (by kernel_rfl) (by kernel_rfl) (by kernel_rfl) (fun _ _ _ h => h) rfl ?_; clear hS a; intro a hS) | (refine Z_take0 (i := 9) hS rfl want_none (e_faK rfl ty_fo24_1) (listed' := [true, true, true, true, true, true, true, true, true, true, false, false, false, false, false, false, false]) rfl (by kernel_rfl) (by kernel_rfl) (by kernel_rfl) (fun _ _ _ h => h) rfl ?_; clear hS a; intro a hS)
      refine Z_take (i := 10) hS rfl want_none (e_loadC rfl ty_sc3 (fun w hh => rowP_get (by repeat constructor) hx' w hh 1 (.int .i64 x.2.1) rfl)) (listed' := [true, true, true, true, true, true, true, true, true, true, true, false, false, false, false, false, false]) rfl (by kernel_rfl) (by kernel_rfl) (by kernel_rfl) (by kernel_rfl) (by kernel_rfl) (sub_cons (by repeat constructor) sub_nil) (fun _ _ _ h => h) rfl ?_; clear hS a; intro a hS
      refine Z_take0 (i := 11) hS rfl want_none (e_move rfl) (listed' := [true, true, true, true, true, true, true, true, true, true, true, true, false, false, false, false, false]) rfl (by kernel_rfl) (by kernel_rfl) (by kernel_rfl) (fun _ _ _ h => h) rfl ?_; clear hS a; intro a hS
      refine Z_take0 (i := 12) hS rfl want_none (e_move rfl) (listed' := [true, true, true, true, true, true, true, true, true, true, true, true, true, false, false, false, false]) rfl (by kernel_rfl) (by kernel_rfl) (by kernel_rfl) (fun _ _ _ h => h) rfl ?_; clear hS a; intro a hS
      refine Z_take0 (i := 13) hS rfl want_none (e_ixN rfl rfl ty_sl22 ty_sz24 (by omega)) (listed' := [true, true, true, true, true, true, true, true, true, true, true, true, true, true, false, false, false]) rfl (by kernel_rfl) (by kernel_rfl) (by kernel_rfl) (fun _ _ _ h => h) rfl ?_; clear hS a; intro a hS
      first | (refine Z_take0 (i := 14) hS rfl want_none (e_fa0 rfl ty_fo24_2) (listed' := [true, true, true, true, true, true, true, true, true, true, true, true, true, true, true, false, false]) rfl (by kernel_rfl) (by kernel_rfl) (by kernel_rfl) (fun _ _ _ h => h) rfl ?_; clear hS a; intro a hS) | (refine Z_take0 (i := 14) hS rfl want_none (e_faK rfl ty_fo24_2) (listed' := [true, true, true, true, true, true, true, true, true, true, true, true, true, true, true, false, false]) rfl (by kernel_rfl) (by kernel_rfl) (by kernel_rfl) (fun _ _ _ h => h) rfl ?_; clear hS a; intro a hS)
      refine Z_take (i := 15) hS rfl want_none (e_loadC rfl ty_sc3 (fun w hh => rowP_get (by repeat constructor) hx' w hh 2 (.int .i64 x.2.2) rfl)) (listed' := [true, true, true, true, true, true, true, true, true, true, true, true, true, true, true, true, false]) rfl (by kernel_rfl) (by kernel_rfl) (by kernel_rfl) (by kernel_rfl) (by kernel_rfl) (sub_cons (by repeat constructor) sub_nil) (fun _ _ _ h => h) rfl ?_; clear hS a; intro a hS
      refine Z_one (i := 16) rfl (want_none a hS.sl) (listed' := [true, true, true, true, true, true, true, true, true, true, true, true, true, true, true, true, true]) rfl (by kernel_rfl) (s_callM hS (.cons rfl (.cons rfl (.cons rfl (.cons rfl .nil)))) cf19 rfl (fxSet_P x9.1 x9.2 usd x.1 es n x.2.1 x.2.2 hxf.2.1 _ (hS.get (X := ratesA x9.1 x9.2 usd es n true) (by repeat constructor))) (fun x => (by repeat constructor)) rfl ?_); clear hS a; (try clear w); intro x40 a w hS
      refine Z_and hS (sub_cons (by repeat constructor) sub_nil) ?_
      refine Z_done (by kernel_rfl) ?_
      refine n_then ?_
      refine c_drawS [] (by kernel_rfl) hS (sub_cons (X := rowP (some (b, off)) 3 (l.map encR)) (by repeat constructor) sub_nil) ?_; clear hS; (try clear w); intro w hS
      simp only [List.length_cons, List.length_nil, Nat.zero_add, Nat.reduceAdd, List.replicate]
      refine Z_take0 (i := 0) hS rfl want_none (e_move rfl) (listed' := [true, false, false, false, false, false, false, false, false, false, false, false, false, false, false, false, false]) rfl (by kernel_rfl) (by kernel_rfl) (by kernel_rfl) (fun _ _ _ h => h) rfl ?_; clear hS a; intro a hS
      refine Z_take0 (i := 1) hS rfl want_none (e_move rfl) (listed' := [true, true, false, false, false, false, false, false, false, false, false, false, false, false, false, false, false]) rfl (by kernel_rfl) (by kernel_rfl) (by kernel_rfl) (fun _ _ _ h => h) rfl ?_; clear hS a; intro a hS
      refine Z_take0 (i := 2) hS rfl want_none (e_move rfl) (listed' := [true, true, true, false, false, false, false, false, false, false, false, false, false, false, false, false, false]) rfl (by kernel_rfl) (by kernel_rfl) (by kernel_rfl) (fun _ _ _ h => h) rfl ?_; clear hS a; intro a hS
      refine Z_take0 (i := 3) hS rfl want_none (e_ixN rfl rfl ty_sl22 ty_sz24 (by omega)) (listed' := [true, true, true, true, false, false, false, false, false, false, false, false, false, false, false, false, false]) rfl (by kernel_rfl) (by kernel_rfl) (by kernel_rfl) (fun _ _ _ h => h) rfl ?_; clear hS a; intro a hS
      first | (refine Z_take0 (i := 4) hS rfl want_none (e_fa0 rfl ty_fo24_0) (listed' := [true, true, true, true, true, false, false, false, false, false, false, false, false, false, false, false, false]) rfl (by kernel_rfl) (by kernel_rfl) (by kernel_rfl) (fun _ _ _ h => h) rfl ?_; clear hS a; intro a hS) | (refine Z_take0 (i := 4) hS rfl want_none (e_faK rfl ty_fo24_0) (listed' := [true, true, true, true, true, false, false, false, false, false, false, false, false, false, false, false, false]) rfl (by kernel_rfl) (by kernel_rfl) (by kernel_rfl) (fun _ _ _ h => h) rfl ?_; clear hS a; intro a hS)
      refine Z_take (i := 5) hS rfl want_none (e_loadC rfl ty_sc9 (fun w hh => rowP_get (by repeat constructor) hx' w hh 0 (.string x.1) rfl)) (listed' := [true, true, true, true, true, true, false, false, false, false, false, false, false, false, false, false, false]) rfl (by kernel_rfl) (by kernel_rfl) (by kernel_rfl) (by kernel_rfl) (by kernel_rfl) (sub_cons (by repeat constructor) sub_nil) (fun _ _ _ h => h) rfl ?_; clear hS a; intro a hS
      refine Z_take0 (i := 6) hS rfl want_none (e_move rfl) (listed' := [true, true, true, true, true, true, true, false, false, false, false, false, false, false, false, false, false]) rfl (by kernel_rfl) (by kernel_rfl) (by kernel_rfl) (fun _ _ _ h => h) rfl ?_; clear hS a; intro a hS
      refine Z_take0 (i := 7) hS rfl want_none (e_move rfl) (listed' := [true, true, true, true, true, true, true, true, false, false, false, false, false, false, false, false, false]) rfl (by kernel_rfl) (by kernel_rfl) (by kernel_rfl) (fun _ _ _ h => h) rfl ?_; clear hS a; intro a hS
      refine Z_take0 (i := 8) hS rfl want_none (e_ixN rfl rfl ty_sl22 ty_sz24 (by omega)) (listed' := [true, true, true, true, true, true, true, true, true, false, false, false, false, false, false, false, false]) rfl (by kernel_rfl) (by kernel_rfl) (by kernel_rfl) (fun _ _ _ h => h) rfl ?_; clear hS a; intro a hS
      first | (refine Z_take0 (i := 9) hS rfl want_none (e_fa0 rfl ty_fo24_1) (listed' := [true, true, true, true, true, true, true, true, true, true, false, false, false, false, false, false, false]) rfl (by kernel_rfl) (by kernel_rfl) (by kernel_rfl) (fun _ _ _ h => h) rfl ?_; clear hS a; intro a hS) | (refine Z_take0 (i := 9) hS rfl want_none (e_faK rfl ty_fo24_1) (listed' := [true, true, true, true, true, true, true, true, true, true, false, false, false, false, false, false, false]) rfl (by kernel_rfl) (by kernel_rfl) (by kernel_rfl) (fun _ _ _ h => h) rfl ?_; clear hS a; intro a hS)
      refine Z_take (i := 10) hS rfl want_none (e_loadC rfl ty_sc3 (fun w hh => rowP_get (by repeat constructor) hx' w hh 1 (.int .i64 x.2.1) rfl)) (listed' := [true, true, true, true, true, true, true, true, true, true, true, false, false, false, false, false, false]) rfl (by kernel_rfl) (by kernel_rfl) (by kernel_rfl) (by kernel_rfl) (by kernel_rfl) (sub_cons (by repeat constructor) sub_nil) (fun _ _ _ h => h) rfl ?_; clear hS a; intro a hS
      refine Z_take0 (i := 11) hS rfl want_none (e_move rfl) (listed' := [true, true, true, true, true, true, true, true, true, true, true, true, false, false, false, false, false]) rfl (by kernel_rfl) (by kernel_rfl) (by kernel_rfl) (fun _ _ _ h => h) rfl ?_; clear hS a; intro a hS
      refine Z_take0 (i := 12) hS rfl want_none (e_move rfl) (listed' := [true, true, true, true, true, true, true, true, true, true, true, true, true, false, false, false, false]) rfl (by kernel_rfl) (by kernel_rfl) (by kernel_rfl) (fun _ _ _ h => h) rfl ?_; clear hS a; intro a hS
      refine Z_take0 (i := 13) hS rfl want_none (e_ixN rfl rfl ty_sl22 ty_sz24 (by omega)) (listed' := [true, true, true, true, true, true, true, true, true, true, true, true, true, true, false, false, false]) rfl (by kernel_rfl) (by kernel_rfl) (by kernel_rfl) (fun _ _ _ h => h) rfl ?_; clear hS a; intro a hS
      first | (refine Z_take0 (i := 14) hS rfl want_none (e_fa0 rfl ty_fo24_2) (listed' := [true, true, true, true, true, true, true, true, true, true, true, true, true, true, true, false, false]) rfl (by kernel_rfl) (by kernel_rfl) (by kernel_rfl) (fun _ _ _ h => h) rfl ?_; clear hS a; intro a hS) | (refine Z_take0 (i := 14) hS rfl want_none (e_faK rfl ty_fo24_2) (listed' := [true, true, true, true, true, true, true, true, true, true, true, true, true, true, true, false, false]) rfl (by kernel_rfl) (by kernel_rfl) (by kernel_rfl) (fun _ _ _ h => h) rfl ?_; clear hS a; intro a hS)
      refine Z_take (i := 15) hS rfl want_none (e_loadC rfl ty_sc3 (fun w hh => rowP_get (by repeat constructor) hx' w hh 2 (.int .i64 x.2.2) rfl)) (listed' := [true, true, true, true, true, true, true, true, true, true, true, true, true, true, true, true, false]) rfl (by kernel_rfl) (by kernel_rfl) (by kernel_rfl) (by kernel_rfl) (by kernel_rfl) (sub_cons (by repeat constructor) sub_nil) (fun _ _ _ h => h) rfl ?_; clear hS a; intro a hS
      refine Z_one (i := 16) rfl (want_none a hS.sl) (listed' := [true, true, true, true, true, true, true, true, true, true, true, true, true, true, true, true, true]) rfl (by kernel_rfl) (s_callM hS (.cons rfl (.cons rfl (.cons rfl (.cons rfl .nil)))) cf39 rfl (rSet_P b13 usd x.1 rows v x.2.1 x.2.2 hrl _ (hS.get (X := refA b13 usd rows v true) (by repeat constructor))) (fun x => (by repeat constructor)) rfl ?_); clear hS a; (try clear w); intro x57 a w hS
      refine Z_and hS (sub_cons (by repeat constructor) sub_nil) ?_
      refine Z_done (by kernel_rfl) ?_
      refine n_block ?_
      refine n_then ?_
      refine c_region ?_
      refine L_op (s_e hS (e_move rfl) rfl ?_); clear hS a; intro a hS
      first | (refine L_op (s_e hS (e_binN rfl rfl rfl (by omega)) rfl ?_); clear hS a; intro a hS) | (refine L_op (s_e hS (e_bin rfl rfl rfl) rfl ?_); clear hS a; intro a hS)
      refine L_op (s_e hS (e_assign rfl) rfl ?_); clear hS a; intro a hS
      refine L_nil ?_
      have ht : l.take (k + 1) = l.take k ++ [x] := by rw [List.take_add_one, hx]; rfl
      refine ⟨(k + 1, x40.1, x57.1), by simp only; omega, hS.slots (by repeat (first | exact trivial | refine ⟨rfl, ?_⟩)), by simp only; omega, ?_, ?_, step_len x57.2 hrl⟩
      · refine x40.2.trans ?_
        unfold madeF; simp only; rw [ht, List.foldl_append]
        show _ = stepS usd (madeF usd (l.take k)) x
        rw [← hm]; rfl
      · simp only; rw [ht]; exact RefsOf.snoc hr x57.2
    ·
      refine wp_exit ?_
      refine x_then (x_then (x_hit ?_))
      refine n_then ?_
      refine c_seq ?_
      refine c_region ?_
      refine L_op (s_e hS (e_move rfl) rfl ?_); clear hS a; intro a hS
      refine L_op (s_e hS (e_move rfl) rfl ?_); clear hS a; intro a hS
      refine L_op (s_e hS (e_assign rfl) rfl ?_); clear hS a; intro a hS
      refine L_op (s_e hS (e_assign rfl) rfl ?_); clear hS a; intro a hS
      refine L_nil ?_
      refine n_then ?_
      refine wp_ret ?_
      refine c_retN hS Try.results17 (.cons (.tmp rfl) (.cons (.tmp rfl) .nil)) rfl ?_
      obtain rfl : k = l.length := by omega
      rw [List.take_length] at hm hr
      refine ⟨⟨⟨x9.1, x9.2, b13, es, n, rows, v⟩, hm, hr⟩, rfl, hS.chg, both_ok (y := ⟨x9.1, x9.2, b13, es, n, rows, v⟩) (hS.ok (ratesA x9.1 x9.2 usd es n true) (by repeat constructor)) (hS.ok (refA b13 usd rows v true) (by repeat constructor)), fun b hb => ?_⟩
      rcases hb with hb | hb
      · exact (hS.mine (ratesA x9.1 x9.2 usd es n true) (by repeat constructor) rfl b hb).resolve_right (fun h => h)
      · exact (hS.mine (refA b13 usd rows v true) (by repeat constructor) rfl b hb).resolve_right (fun h => h)
end Go.Proofs.Ytheofhegdjjfgaa

namespace Go.Proofs.Ytheofhegdjjfgaa
open Go.RowKit

theorem setE_bd {own : ByteArray} {l : List (ByteArray × List (Int × Int))} {n : Int} {c : ByteArray} {at_ nano : Int} (h : setE own l n c at_ nano = 0) : 1 ≤ nano ∧ nano ≤ 1125899906842624 := by
  unfold setE at h
  split at h
  · cases h
  · split at h
    · contradiction
    · split at h
      · cases h
      · rename_i h3; omega
theorem rowsOf_put (l : List (ByteArray × List (Int × Int))) (c d : ByteArray) (r : List (Int × Int)) : rowsOf (putL l c r) d = if c = d then r else rowsOf l d := by
  induction l with
  | nil =>
    unfold putL rowsOf
    rw [List.find?_cons]
    by_cases e : c = d
    · subst e; simp
    · simp [e]
  | cons x l ih =>
    obtain ⟨k, u⟩ := x
    unfold putL
    by_cases hk : k = c
    · subst hk
      rw [if_pos rfl]
      unfold rowsOf
      rw [List.find?_cons, List.find?_cons]
      by_cases e : k = d
      · subst e; simp
      · simp [e]
    · rw [if_neg hk]
      by_cases e : k = d
      · subst e
        have h1 : rowsOf ((k, u) :: putL l c r) k = u := by unfold rowsOf; rw [List.find?_cons]; simp
        have h2 : rowsOf ((k, u) :: l) k = u := by unfold rowsOf; rw [List.find?_cons]; simp
        rw [h1, h2, if_neg (fun h => hk h.symm)]
      · have h1 : rowsOf ((k, u) :: putL l c r) d = rowsOf (putL l c r) d := by unfold rowsOf; rw [List.find?_cons]; simp [e]
        have h2 : rowsOf ((k, u) :: l) d = rowsOf l d := by unfold rowsOf; rw [List.find?_cons]; simp [e]
        rw [h1, h2, ih]
theorem nano_set {own : ByteArray} {l : List (ByteArray × List (Int × Int))} {n : Int} (h : nanoOK l) (c : ByteArray) (at_ nano : Int) : nanoOK (setR own l n c at_ nano).1 := by
  unfold setR
  split
  · rename_i hE
    have hb := setE_bd hE
    intro d x hx
    simp only [rowsOf_put] at hx
    split at hx
    · rcases List.mem_append.1 hx with hx | hx
      · exact h c x hx
      · obtain rfl := List.mem_singleton.1 hx; exact hb
    · exact h d x hx
  · exact h
theorem nano_made (own : ByteArray) (l : List RR) : nanoOK (madeF own l).1 := by
  unfold madeF
  have : ∀ (l : List RR) (st : List (ByteArray × List (Int × Int)) × Int), nanoOK st.1 → nanoOK (l.foldl (stepS own) st).1 := by
    intro l
    induction l with
    | nil => exact fun st h => h
    | cons x l ih => exact fun st h => ih _ (nano_set h _ _ _)
  exact this l _ (fun c x hx => by simp [rowsOf] at hx)

def eur : ByteArray := ⟨#[69, 85, 82]⟩
def one1 : List (ByteArray × List (Int × Int)) := [(eur, [(5, 1100000000)])]
theorem f_set1 : setE usd [] 0 eur 5 1100000000 = 0 := by decide +kernel
theorem f_setR1 : setR usd [] 0 eur 5 1100000000 = (one1, 1) := by decide +kernel
theorem f_set2 : setE usd one1 1 eur 5 1 = 34 := by decide +kernel
theorem f_setR2 : setR usd one1 1 eur 5 1 = (one1, 1) := by decide +kernel
theorem f_get1 : getF usd one1 eur 4 = (0, 28) := by decide +kernel
theorem f_get2 : getF usd one1 eur 9 = (1100000000, 0) := by decide +kernel
theorem f_conv : convF 5 500000000 = (2, 0) := by decide +kernel
set_option maxRecDepth 100000 in
theorem fxfirst_P (w0 : World) : PureC Try.prog 12 [] w0 (.bool true) := by
  refine c_enter [] [] noB Try.func12 rfl Try.ntmps12 trivial rfl (by simp) (by simp) (by simp) ?_
  intro a hS
  refine c_seq ?_
  refine c_region ?_
  refine L_op (s_e hS (e_assign rfl) rfl ?_); clear hS a; intro a hS
  refine L_nil ?_
  refine n_then ?_
  refine c_seq ?_
  refine c_region ?_
  refine L_op (s_callN hS (.cons rfl .nil) cf37 rfl (fxNew_P usd _ usd_scale) ?_); clear hS a; (try clear w); intro x12 a w hS
  refine L_op (s_e hS (e_move rfl) rfl ?_); clear hS a; intro a hS
  refine L_op (s_e hS (e_extract rfl rfl) rfl ?_); clear hS a; intro a hS
  refine L_op (s_e hS (e_extract rfl rfl) rfl ?_); clear hS a; intro a hS
  refine L_op (s_e hS (e_assign rfl) rfl ?_); clear hS a; intro a hS
  refine L_op (s_e hS (e_assign rfl) rfl ?_); clear hS a; intro a hS
  refine L_nil ?_
  refine n_then ?_
  refine c_seq ?_
  refine c_seq ?_
  refine c_region ?_
  refine L_op (s_e hS (e_move rfl) rfl ?_); clear hS a; intro a hS
  refine L_op (s_e hS (e_nil rfl ty_u32) rfl ?_); clear hS a; intro a hS
  refine L_op (s_e hS (e_move rfl) rfl ?_); clear hS a; intro a hS
  replace hS := hS.is (t := 17) (c := false) rfl (rfl)
  refine L_go hS rfl rfl (s_e hS (e_move rfl) rfl ?_); clear hS a; intro a hS
  refine L_go hS rfl rfl (s_callP hS (.cons rfl .nil) cf16 rfl (Num_w 0 _) ?_); clear hS a; (try clear w); intro a w hS
  refine L_go hS rfl rfl (s_e hS (e_bin rfl rfl rfl) rfl ?_); clear hS a; intro a hS
  first | (refine L_op (s_e hS (e_pick_t rfl rfl) rfl ?_); clear hS a; intro a hS) | (refine L_op (s_e hS (e_pick_f rfl rfl) rfl ?_); clear hS a; intro a hS)
  refine L_nil ?_
  refine n_then ?_
  replace hS := hS.is (t := 21) (c := false) rfl (rfl)
  refine c_if_f hS rfl ?_
  refine wp_skip ?_
  refine n_then ?_
  refine c_seq ?_
  refine c_region ?_
  refine L_op (s_e hS (e_move rfl) rfl ?_); clear hS a; intro a hS
  refine L_op (s_callM hS (.cons rfl (.cons rfl (.cons rfl (.cons rfl .nil)))) cf19 rfl (fxSet_P x12.1 x12.2 usd eur [] 0 5 1100000000 (by decide) _ (hS.get (X := ratesA x12.1 x12.2 usd [] 0 true) (by repeat constructor))) (fun x => (by repeat constructor)) rfl ?_); clear hS a; (try clear w); intro x23 a w hS
  obtain ⟨⟨es, n⟩, hes⟩ := x23
  have he1 := hes.trans f_setR1
  have hv : vsT es = one1 := congrArg Prod.fst he1
  have hn1 : n = 1 := congrArg Prod.snd he1
  subst hn1
  have e23 : setE usd (vsT []) 0 eur 5 1100000000 = 0 := f_set1
  rw [e23] at hS
  refine L_op (s_e hS (e_assign rfl) rfl ?_); clear hS a; intro a hS
  refine L_nil ?_
  refine n_then ?_
  refine c_seq ?_
  refine c_region ?_
  refine L_op (s_e hS (e_move rfl) rfl ?_); clear hS a; intro a hS
  refine L_op (s_callM hS (.cons rfl (.cons rfl (.cons rfl (.cons rfl .nil)))) cf19 rfl (fxSet_P x12.1 x12.2 usd eur es 1 5 1 (by decide) _ (hS.get (X := ratesA x12.1 x12.2 usd es 1 true) (by repeat constructor))) (fun x => (by repeat constructor)) rfl ?_); clear hS a; (try clear w); intro x25 a w hS
  obtain ⟨⟨es2, n2⟩, hes2⟩ := x25
  have he2 := hes2.trans ((congrArg (fun l => setR usd l 1 eur 5 1) hv).trans f_setR2)
  have hv2 : vsT es2 = one1 := congrArg Prod.fst he2
  have hn2 : n2 = 1 := congrArg Prod.snd he2
  subst hn2
  have e25 : setE usd (vsT es) 1 eur 5 1 = 34 := (congrArg (fun l => setE usd l 1 eur 5 1) hv).trans f_set2
  rw [e25] at hS
  refine L_op (s_e hS (e_assign rfl) rfl ?_); clear hS a; intro a hS
  refine L_nil ?_
  refine n_then ?_
  refine c_seq ?_
  refine c_region ?_
  refine L_op (s_e hS (e_move rfl) rfl ?_); clear hS a; intro a hS
  refine L_op (s_callP hS (.cons rfl (.cons rfl (.cons rfl .nil))) cf18 rfl (fxGet_P x12.1 x12.2 usd eur es2 1 4 _ (hS.get (X := ratesA x12.1 x12.2 usd es2 1 true) (by repeat constructor))) ?_); clear hS a; (try clear w); intro a w hS
  rw [hv2, f_get1] at hS
  refine L_op (s_e hS (e_move rfl) rfl ?_); clear hS a; intro a hS
  refine L_op (s_e hS (e_extract rfl rfl) rfl ?_); clear hS a; intro a hS
  refine L_op (s_e hS (e_extract rfl rfl) rfl ?_); clear hS a; intro a hS
  refine L_op (s_e hS (e_assign rfl) rfl ?_); clear hS a; intro a hS
  refine L_op (s_e hS (e_assign rfl) rfl ?_); clear hS a; intro a hS
  refine L_nil ?_
  refine n_then ?_
  refine c_seq ?_
  refine c_region ?_
  refine L_op (s_e hS (e_move rfl) rfl ?_); clear hS a; intro a hS
  refine L_op (s_callP hS (.cons rfl (.cons rfl (.cons rfl .nil))) cf18 rfl (fxGet_P x12.1 x12.2 usd eur es2 1 9 _ (hS.get (X := ratesA x12.1 x12.2 usd es2 1 true) (by repeat constructor))) ?_); clear hS a; (try clear w); intro a w hS
  rw [hv2, f_get2] at hS
  refine L_op (s_e hS (e_move rfl) rfl ?_); clear hS a; intro a hS
  refine L_op (s_e hS (e_extract rfl rfl) rfl ?_); clear hS a; intro a hS
  refine L_op (s_e hS (e_extract rfl rfl) rfl ?_); clear hS a; intro a hS
  refine L_op (s_e hS (e_assign rfl) rfl ?_); clear hS a; intro a hS
  refine L_op (s_e hS (e_assign rfl) rfl ?_); clear hS a; intro a hS
  refine L_nil ?_
  refine n_then ?_
  refine c_seq ?_
  refine c_region ?_
  refine L_op (s_callP hS (.cons rfl (.cons rfl .nil)) cf14 rfl (fxConvert_P 5 500000000 (by decide) (by decide) _) ?_); clear hS a; (try clear w); intro a w hS
  rw [f_conv] at hS
  refine L_op (s_e hS (e_move rfl) rfl ?_); clear hS a; intro a hS
  refine L_op (s_e hS (e_extract rfl rfl) rfl ?_); clear hS a; intro a hS
  refine L_op (s_e hS (e_extract rfl rfl) rfl ?_); clear hS a; intro a hS
  refine L_op (s_e hS (e_assign rfl) rfl ?_); clear hS a; intro a hS
  refine L_op (s_e hS (e_assign rfl) rfl ?_); clear hS a; intro a hS
  refine L_nil ?_
  refine n_then ?_
  refine c_seq ?_
  refine c_region ?_
  refine L_op (s_e hS (e_move rfl) rfl ?_); clear hS a; intro a hS
  refine L_op (s_callP hS (.cons rfl .nil) cf16 rfl (Num_w 0 _) ?_); clear hS a; (try clear w); intro a w hS
  refine L_op (s_e hS (e_bin rfl rfl rfl) rfl ?_); clear hS a; intro a hS
  refine L_op (s_e hS (e_move rfl) rfl ?_); clear hS a; intro a hS
  replace hS := hS.is (t := 43) (c := true) rfl (rfl)
  refine L_go hS rfl rfl (s_e hS (e_move rfl) rfl ?_); clear hS a; intro a hS
  refine L_go hS rfl rfl (s_callP hS (.cons rfl .nil) cf16 rfl (Num_w 34 _) ?_); clear hS a; (try clear w); intro a w hS
  refine L_go hS rfl rfl (s_e hS (e_bin rfl rfl rfl) rfl ?_); clear hS a; intro a hS
  first | (refine L_op (s_e hS (e_pick_t rfl rfl) rfl ?_); clear hS a; intro a hS) | (refine L_op (s_e hS (e_pick_f rfl rfl) rfl ?_); clear hS a; intro a hS)
  refine L_op (s_e hS (e_move rfl) rfl ?_); clear hS a; intro a hS
  replace hS := hS.is (t := 48) (c := true) rfl (rfl)
  refine L_go hS rfl rfl (s_e hS (e_move rfl) rfl ?_); clear hS a; intro a hS
  refine L_go hS rfl rfl (s_callP hS (.cons rfl .nil) cf16 rfl (Num_w 28 _) ?_); clear hS a; (try clear w); intro a w hS
  refine L_go hS rfl rfl (s_e hS (e_bin rfl rfl rfl) rfl ?_); clear hS a; intro a hS
  first | (refine L_op (s_e hS (e_pick_t rfl rfl) rfl ?_); clear hS a; intro a hS) | (refine L_op (s_e hS (e_pick_f rfl rfl) rfl ?_); clear hS a; intro a hS)
  refine L_op (s_e hS (e_move rfl) rfl ?_); clear hS a; intro a hS
  replace hS := hS.is (t := 53) (c := true) rfl (rfl)
  refine L_go hS rfl rfl (s_e hS (e_move rfl) rfl ?_); clear hS a; intro a hS
  refine L_go hS rfl rfl (s_e hS (e_bin rfl rfl rfl) rfl ?_); clear hS a; intro a hS
  first | (refine L_op (s_e hS (e_pick_t rfl rfl) rfl ?_); clear hS a; intro a hS) | (refine L_op (s_e hS (e_pick_f rfl rfl) rfl ?_); clear hS a; intro a hS)
  refine L_op (s_e hS (e_move rfl) rfl ?_); clear hS a; intro a hS
  replace hS := hS.is (t := 57) (c := true) rfl (rfl)
  refine L_go hS rfl rfl (s_e hS (e_move rfl) rfl ?_); clear hS a; intro a hS
  refine L_go hS rfl rfl (s_callP hS (.cons rfl .nil) cf16 rfl (Num_w 0 _) ?_); clear hS a; (try clear w); intro a w hS
  refine L_go hS rfl rfl (s_e hS (e_bin rfl rfl rfl) rfl ?_); clear hS a; intro a hS
  first | (refine L_op (s_e hS (e_pick_t rfl rfl) rfl ?_); clear hS a; intro a hS) | (refine L_op (s_e hS (e_pick_f rfl rfl) rfl ?_); clear hS a; intro a hS)
  refine L_op (s_e hS (e_move rfl) rfl ?_); clear hS a; intro a hS
  replace hS := hS.is (t := 62) (c := true) rfl (rfl)
  refine L_go hS rfl rfl (s_e hS (e_move rfl) rfl ?_); clear hS a; intro a hS
  refine L_go hS rfl rfl (s_e hS (e_bin rfl rfl rfl) rfl ?_); clear hS a; intro a hS
  first | (refine L_op (s_e hS (e_pick_t rfl rfl) rfl ?_); clear hS a; intro a hS) | (refine L_op (s_e hS (e_pick_f rfl rfl) rfl ?_); clear hS a; intro a hS)
  refine L_op (s_e hS (e_move rfl) rfl ?_); clear hS a; intro a hS
  replace hS := hS.is (t := 66) (c := true) rfl (rfl)
  refine L_go hS rfl rfl (s_e hS (e_move rfl) rfl ?_); clear hS a; intro a hS
  refine L_go hS rfl rfl (s_callP hS (.cons rfl .nil) cf16 rfl (Num_w 0 _) ?_); clear hS a; (try clear w); intro a w hS
  refine L_go hS rfl rfl (s_e hS (e_bin rfl rfl rfl) rfl ?_); clear hS a; intro a hS
  first | (refine L_op (s_e hS (e_pick_t rfl rfl) rfl ?_); clear hS a; intro a hS) | (refine L_op (s_e hS (e_pick_f rfl rfl) rfl ?_); clear hS a; intro a hS)
  refine L_op (s_e hS (e_assign rfl) rfl ?_); clear hS a; intro a hS
  refine L_nil ?_
  refine n_then ?_
  refine wp_ret ?_
  refine c_ret1 hS Try.results12 (.tmp rfl) ?_
  exact ⟨rfl, hS.chg⟩
end Go.Proofs.Ytheofhegdjjfgaa

namespace Go.Proofs.Ytheofhegdjjfgaa.Open
set_option maxRecDepth 100000
open Go.ChangeShapes Go.WideShapes Go.Deep
section
variable {H : Type} {enc : TypeId × Value → H} {P : Program} {w : World} {base : Nat} {spare : Nat → Bool} {held : Bool}
theorem open_slice_fields {t e : TypeId} {fs : Array Field} {fuel : Nat} {cs : List Value} {x : DataW H × List MemPlace} (ht : P.underlying t = some (.slice e)) (he : P.underlying e = some (.struct fs))
    (hone : oneCellFields P fs = true) (hC : P.cellsOf e = fs.size) (h : DataW.trod enc P w base spare held fuel t cs = some x) :
    (cs = [.slice none 0 0] ∧ x = (.nil, [])) ∨
    ∃ (a : Addr) (len cap m : Nat) (D : Nat → DataW H) (Pl : Nat → List MemPlace), cs = [.slice (some a) len cap] ∧ base ≤ a.block ∧ len ≤ cap ∧ cap ≤ maxLen ∧ m = (if spare a.block then cap else len) ∧
      x = (.slice ((List.range len).map D) ((List.range (m - len)).map fun j => D (len + j)), MemPlace.row a (m * fs.size) ++ (List.range m).flatMap Pl) ∧
      ∀ i, i < m → ∃ (ys : List (DataW H × List MemPlace)) (n : Nat), D i = .agg (ys.map (·.1)) ∧ Pl i = ys.flatMap (·.2) ∧ ys.length = fs.size ∧
        ∀ (j : Nat) (f : Field), fs[j]? = some f → ∃ (v : Value) (y : DataW H × List MemPlace), w.cell? (a.add (i * fs.size + j)) = some v ∧ ys[j]? = some y ∧ DataW.trod enc P w base spare held n f.type [v] = some y := by
  rcases open_slice ht h with h0 | ⟨a, len, cap, m, n, D, Pl, hcs, hb, hl, hm, hmm, hx, hi⟩
  · exact .inl h0
  · refine .inr ⟨a, len, cap, m, D, Pl, hcs, hb, hl, hm, hmm, by rw [hC] at hx; exact hx, fun i him => ?_⟩
    obtain ⟨cs', hc, ht'⟩ := hi i him
    rw [hC] at hc
    obtain ⟨ys, n', hn', hy, hlen, hyl, hf⟩ := DataW.trod_struct he ht'
    obtain ⟨_, hcl, hat⟩ := World.cells?_some hc
    simp only [Prod.mk.injEq] at hy
    refine ⟨ys, n', hy.1, hy.2, hyl, fun j f hj => ?_⟩
    obtain ⟨ho, hk⟩ := hone_of hone j f hj
    have hjl : j < fs.size := (Array.getElem?_eq_some_iff.1 hj).1
    have hcell := hat j hjl
    have hv : cs'[j]? = some (cs'[j]'(by omega)) := List.getElem?_eq_getElem (by omega)
    have h1 := hf j f hj
    rw [ho, hk] at h1
    have hone' : (cs'.drop j).take 1 = [cs'[j]'(by omega)] := by
      rw [List.drop_eq_getElem_cons (by omega)]
      rfl
    rw [hone'] at h1
    have hys : ys[j]? = some (ys[j]'(by omega)) := List.getElem?_eq_getElem (by omega)
    refine ⟨_, _, ?_, hys, h1.trans hys⟩
    rw [← Go.Deep.add_add, hcell, hv]
end

section
variable {H : Type} {enc : TypeId × Value → H}
theorem weights_all {P : Program} {e : TypeId} {d : DataW H} {n : Nat} (hn : n ∈ d.weights P e) : ∀ {l : List (DataW H)}, d ∈ l → n ∈ DataW.weightsAll P e l
  | x :: r, h => by
    simp only [DataW.weightsAll, List.mem_append]
    rcases List.mem_cons.1 h with rfl | h
    · exact .inl hn
    · exact .inr (weights_all hn h)

theorem shape_lt {w : World} {b : Nat} {x : TypeId × Nat} (h : w.shape? b = some x) : b < w.heap.size := by
  unfold World.shape? at h
  by_cases hb : b < w.heap.size
  · exact hb
  · rw [Array.getElem?_eq_none (by omega)] at h; cases h

theorem add_spot {a : Addr} (h : a.spot = none) (n : Nat) : a.add n = ⟨a.block, a.off + n, none⟩ := by
  unfold Addr.add
  split
  · next h0 => subst h0; cases a; simp_all
  · rfl


theorem bytesSet : Try.prog.bytesOf 24 = 32 := by kernel_rfl
/-- a slice's outer form, as it came in. -/
theorem slice_has {W : World} {base : Nat} {t e : TypeId} {a : Addr} {len cap : Nat} (hu : Try.prog.underlying t = some (.slice e)) (h : Value.okWide Try.prog W .any base t (.slice (some a) len cap)) : a.spot = none ∧ a.block < W.heap.size := by
  unfold Value.okWide at h
  rw [hu] at h
  simp only at h
  unfold Cell.okWide at h
  rw [hu] at h
  simp only at h
  unfold Cell.ok at h
  rw [hu] at h
  simp only at h
  obtain ⟨_, _, _, hs, row, cells, hsh, _⟩ := h
  exact ⟨hs, shape_lt hsh⟩

theorem open_sets {W : World} {base : Nat} {v : Value} {d : DataW H} {pl : List MemPlace} (hval : Value.okWide Try.prog W .any base 22 v) (h : DataW.Trod enc Try.prog W 0 (fun _ => true) true 22 v d pl) (hw : ∀ n ∈ d.weights Try.prog 22, n ≤ reachBytes) :
    ∃ (p : Option (Nat × Nat)) (l : List RR) (c : Nat), v = sliceV p l.length c ∧ (p = none → c = 0) ∧ (∀ x ∈ l, rrFits x) ∧ l.length ≤ 4611686018427387904 ∧ RowP p 3 (l.map encR) W ∧ ∀ r, p = some r → r.1 < W.heap.size := by
  obtain ⟨fuel, hf⟩ := h
  have hu := Try.underlying22
  have hsl : ∃ a len cap, v = .slice a len cap := okWide_slice hu hval
  obtain ⟨a0, len0, cap0, rfl⟩ := hsl
  rcases open_slice_fields hu Try.underlying24 (by kernel_rfl) (by kernel_rfl) hf with ⟨hc, _⟩ | ⟨a, len, cap, m, D, Pl, hc, _, hl, hm, hmm, hx, hi⟩
  · simp only [Value.cells, List.cons.injEq, and_true] at hc
    rw [hc]
    exact ⟨none, [], 0, rfl, fun _ => rfl, by simp, by simp, rfl, by simp⟩
  · simp only [Value.cells, List.cons.injEq, and_true] at hc
    rw [hc] at hval ⊢
    obtain ⟨hsp, hlt⟩ := slice_has hu hval
    simp only [Prod.mk.injEq] at hx
    simp only [if_true] at hmm
    rw [hmm] at hx hi
    have each : ∀ i, i < len → ∃ x : RR, rrFits x ∧ ∀ j u, (encR x)[j]? = some u → W.cell? (a.add (i * 3 + j)) = some u := by
      intro i hil
      obtain ⟨ys, n, hD, _, hys, hfl⟩ := hi i (by omega)
      obtain ⟨v0, y0, c0, g0, t0⟩ := hfl 0 _ rfl
      obtain ⟨v1, y1, c1, g1, t1⟩ := hfl 1 _ rfl
      obtain ⟨v2, y2, c2, g2, t2⟩ := hfl 2 _ rfl
      obtain ⟨s, e0, z0, w0⟩ := DataW.trod_string Try.underlying9 t0
      obtain ⟨n1, e1, z1, w1⟩ := DataW.trod_int Try.underlying3 t1
      obtain ⟨n2, e2, z2, w2⟩ := DataW.trod_int Try.underlying3 t2
      simp only [List.cons.injEq, and_true] at e0 e1 e2
      subst e0 e1 e2
      have hs : s.size ≤ reachBytes := by
        refine hw _ ?_
        rw [hx.1]
        have h1 : s.size ∈ (D i).weights Try.prog 24 := by
          rw [hD]
          simp only [DataW.weights, Try.underlying24]
          refine DataW.weights_mem_each (j := 0) rfl (d := .lit (.string s.data.toList)) (by rw [List.getElem?_map, g0, z0]; rfl) _ ?_
          simp only [DataW.weights, List.mem_singleton]
          rfl
        have h2 := weights_all h1 (l := (List.range len).map D) (List.mem_map.2 ⟨i, List.mem_range.2 hil, rfl⟩)
        simp only [DataW.weights, hu, List.mem_cons, List.mem_append]
        exact .inr (.inl h2)
      have b1 := bounds_i64 w1
      have b2 := bounds_i64 w2
      refine ⟨⟨s, n1, n2⟩, ⟨Nat.le_trans hs (by decide), b1, b2⟩, fun j u hj => ?_⟩
      match j, hj with
      | 0, hj => cases hj; exact c0
      | 1, hj => cases hj; exact c1
      | 2, hj => cases hj; exact c2
      | (k + 3), hj => simp [encR] at hj
    have hlen : (len + (cap - len)) * 32 ≤ reachBytes := by
      have := hw ((len + (cap - len)) * Try.prog.bytesOf 24) (by rw [hx.1]; simp [DataW.weights, hu])
      rwa [bytesSet] at this
    simp only [reachBytes] at hlen
    haveI : Inhabited RR := ⟨⟨ByteArray.empty, 0, 0⟩⟩
    obtain ⟨f, hfn⟩ := choose_lt each
    refine ⟨some (a.block, a.off), (List.range len).map f, cap, ?_, by simp, ?_, by simp only [List.length_map, List.length_range]; omega, ?_, ?_⟩
    · unfold sliceV
      cases a
      simp only at hsp
      subst hsp
      simp
    · intro x hx
      obtain ⟨i, hi', rfl⟩ := List.mem_map.1 hx
      exact (hfn i (List.mem_range.1 hi')).1
    · intro i x hx j u hj
      simp only [List.getElem?_map, Option.map_eq_some_iff] at hx
      obtain ⟨y, ⟨k, hk, rfl⟩, rfl⟩ := hx
      obtain ⟨hk1, hk2⟩ := List.getElem?_eq_some_iff.1 hk
      simp only [List.length_range] at hk1
      simp only [List.getElem_range] at hk2
      subst hk2
      have := (hfn i hk1).2 j u hj
      rw [add_spot hsp] at this
      rw [← this]
      simp only [Nat.add_assoc]
    · rintro r hr
      cases hr
      exact hlt

theorem open_set {W : World} {base : Nat} {v : Value} {d : DataW H} {pl : List MemPlace} (hval : Value.okWide Try.prog W .any base 24 v) (h : DataW.Trod enc Try.prog W 0 (fun _ => true) true 24 v d pl) (hw : ∀ n ∈ d.weights Try.prog 24, n ≤ reachBytes) :
    ∃ x : RR, v = .agg (encR x).toArray ∧ rrFits x := by
  obtain ⟨v0, v1, v2, y0, y1, y2, n, rfl, hd, _, t0, t1, t2⟩ := Go.Joins.open_agg3 Try.underlying24 (by kernel_rfl) (by kernel_rfl) hval h
  obtain ⟨s, e0, z0, w0⟩ := DataW.trod_string Try.underlying9 t0
  obtain ⟨n1, e1, z1, w1⟩ := DataW.trod_int Try.underlying3 t1
  obtain ⟨n2, e2, z2, w2⟩ := DataW.trod_int Try.underlying3 t2
  simp only [List.cons.injEq, and_true] at e0 e1 e2
  subst e0 e1 e2
  have hs : s.size ≤ reachBytes := by
    refine hw _ ?_
    rw [hd]
    simp only [DataW.weights, Try.underlying24]
    refine DataW.weights_mem_each (j := 0) rfl (d := .lit (.string s.data.toList)) (by rw [z0]; rfl) _ ?_
    simp only [DataW.weights, List.mem_singleton]
    rfl
  exact ⟨⟨s, n1, n2⟩, rfl, Nat.le_trans hs (by decide), bounds_i64 w1, bounds_i64 w2⟩
end
end Go.Proofs.Ytheofhegdjjfgaa.Open

namespace Go.Proofs.Ytheofhegdjjfgaa

theorem leS_iff (x y : ByteArray) : leS x y = true ↔ x.data.toList ≤ y.data.toList := by
  unfold leS
  rw [bytesLess_eq, Lib.toList_data, Lib.toList_data]
  simp only [Bool.or_eq_true, decide_eq_true_eq, beq_iff_eq]
  constructor
  · rintro (h | h)
    · exact List.le_of_lt h
    · rw [h]; exact List.le_refl _
  · intro h
    by_cases e : x.data.toList = y.data.toList
    · exact .inr e
    · left
      rcases Classical.em (x.data.toList < y.data.toList) with h1 | h1
      · exact h1
      · exact absurd (List.le_antisymm h h1) e
theorem leS_refl (x : ByteArray) : leS x x = true := (leS_iff x x).2 (List.le_refl _)
theorem leS_trans {x y z : ByteArray} (h1 : leS x y = true) (h2 : leS y z = true) : leS x z = true := (leS_iff x z).2 (List.le_trans ((leS_iff x y).1 h1) ((leS_iff y z).1 h2))
theorem leS_anti {x y : ByteArray} (h1 : leS x y = true) (h2 : leS y x = true) : x = y := by
  have := List.le_antisymm ((leS_iff x y).1 h1) ((leS_iff y x).1 h2)
  apply ByteArray.ext; apply Array.ext'; exact this
theorem leS_total {x y : ByteArray} (h : leS x y = false) : leS y x = true := by
  rcases List.le_total x.data.toList y.data.toList with h1 | h1
  · rw [(leS_iff x y).2 h1] at h; cases h
  · exact (leS_iff y x).2 h1
theorem srt_mem {xs : List ByteArray} {c : ByteArray} : c ∈ srt xs ↔ c ∈ xs := by
  unfold srt bytesL
  rw [List.mem_map]
  constructor
  · rintro ⟨l, hl, rfl⟩
    rw [List.mem_mergeSort] at hl
    obtain ⟨x, hx, rfl⟩ := List.mem_map.1 hl
    simpa using hx
  · intro h
    exact ⟨c.data.toList, by rw [List.mem_mergeSort]; exact List.mem_map.2 ⟨c, h, rfl⟩, by simp⟩
theorem srt_pw (xs : List ByteArray) (hn : xs.Nodup) : (srt xs).Pairwise fun x y => leS x y = true ∧ x ≠ y := by
  have hs : ((bytesL xs).mergeSort fun x y => decide (x ≤ y)).Pairwise fun a b => decide (a ≤ b) = true :=
    List.pairwise_mergeSort (fun a b c h1 h2 => by simp only [decide_eq_true_eq] at *; exact List.le_trans h1 h2) (fun a b => by simp only [Bool.or_eq_true, decide_eq_true_eq]; exact List.le_total a b) _
  have hb : (bytesL xs).Nodup := by
    unfold bytesL List.Nodup
    rw [List.pairwise_map]
    exact hn.imp fun h e => h (by apply ByteArray.ext; apply Array.ext'; exact e)
  have hd : ((bytesL xs).mergeSort fun x y => decide (x ≤ y)).Nodup := (List.mergeSort_perm _ _).nodup_iff.2 hb
  unfold srt
  rw [List.pairwise_map]
  refine (List.pairwise_and_iff.2 ⟨hs, hd⟩).imp ?_
  rintro a b ⟨h1, h2⟩
  refine ⟨(leS_iff _ _).2 (by simpa using h1), fun e => h2 ?_⟩
  have := congrArg (fun x : ByteArray => x.data.toList) e
  simpa using this

theorem flatMap_cong {α β : Type} {f g : α → List β} : ∀ {l : List α}, (∀ x ∈ l, f x = g x) → l.flatMap f = l.flatMap g
  | [], _ => rfl
  | a :: r, h => by rw [List.flatMap_cons, List.flatMap_cons, h a (.head _), flatMap_cong (fun x hx => h x (.tail _ hx))]

abbrev L2 := List (ByteArray × List (Int × Int))
def ofC (c : ByteArray) (rows : List RR) : List RR := rows.filter fun x => decide (x.1 = c)
/-- the rates and the reference's rows say the same. -/
structure relF (l : L2) (n : Int) (rows : List RR) : Prop where
  keys : (l.map (·.1)).Nodup
  same : ∀ c, (ofC c rows).map (·.2) = rowsOf l c
  sort : rows.Pairwise fun x y => leS x.1 y.1 = true
  rise : ∀ c, (rowsOf l c).Pairwise fun x y => x.1 < y.1
  num : n = rows.length
  few : (l.length : Int) ≤ n
theorem relF_nil : relF [] 0 [] := ⟨.nil, fun _ => rfl, .nil, fun _ => .nil, rfl, Int.le_refl _⟩
theorem putL_len (c : ByteArray) (r : List (Int × Int)) : ∀ l : L2, (putL l c r).length ≤ l.length + 1
  | [] => by simp [putL]
  | (k, u) :: l => by
    have := putL_len c r l
    unfold putL
    split
    · simp
    · simp; omega
theorem last_ge {α : Type} {R : α → α → Prop} {l : List α} (h : l.Pairwise R) {x z : α} (hx : x ∈ l) (hz : l.getLast? = some z) : x = z ∨ R x z := by
  obtain ⟨r, rfl⟩ := List.getLast?_eq_some_iff.1 hz
  rcases List.mem_append.1 hx with h1 | h1
  · exact .inr ((List.pairwise_append.1 h).2.2 x h1 z (.head _))
  · exact .inl (List.mem_singleton.1 h1)
theorem late_iff {l : L2} {n : Int} {rows : List RR} (h : relF l n rows) (c : ByteArray) (at_ : Int) : (∃ x, (rowsOf l c).getLast? = some x ∧ at_ ≤ x.1) ↔ late rows c at_ := by
  constructor
  · rintro ⟨x, hx, hle⟩
    have hm := List.mem_of_getLast? hx
    rw [← h.same c] at hm
    obtain ⟨y, hy, rfl⟩ := List.mem_map.1 hm
    have hy2 := List.mem_filter.1 hy
    exact ⟨y, hy2.1, by simpa using hy2.2, hle⟩
  · rintro ⟨y, hy, hc, hle⟩
    have hm : y.2 ∈ rowsOf l c := by rw [← h.same c]; exact List.mem_map.2 ⟨y, List.mem_filter.2 ⟨hy, by simpa using hc⟩, rfl⟩
    cases hz : (rowsOf l c).getLast? with
    | none => rw [List.getLast?_eq_none_iff.1 hz] at hm; cases hm
    | some z =>
      refine ⟨z, rfl, ?_⟩
      rcases last_ge (h.rise c) hm hz with e | hlt
      · rw [← e]; exact hle
      · omega
theorem setE_eq {l : L2} {n : Int} {rows : List RR} (h : relF l n rows) (own c : ByteArray) (at_ nano : Int) : setE own l n c at_ nano = refE own rows c at_ nano := by
  have hl := late_iff h c at_
  have hs := refS_neg c
  have hn := h.num
  unfold setE refE
  by_cases h1 : c = own
  · rw [if_pos h1, if_pos (.inr h1)]
  · rw [if_neg h1]
    by_cases h2 : (scaleR c).2 ≠ 0
    · have ha : askF c at_ = 18 := by unfold askF; rw [if_pos h2]
      rw [ha, if_pos (by decide), if_pos (.inl (hs.2 h2))]
    · have hc : ¬ (refS c < 0 ∨ c = own) := fun e => e.elim (fun e => h2 (hs.1 e)) h1
      rw [if_neg hc]
      by_cases h3 : inst at_
      · have ha : askF c at_ = 0 := by unfold askF; rw [if_neg h2, if_neg (fun e => e h3)]
        rw [ha, if_neg (show ¬ ((0 : Int) ≠ 0) from fun e => e rfl)]
        by_cases h4 : nano < 1 ∨ 1125899906842624 < nano
        · rw [if_pos h4, if_pos (.inr h4)]
        · have hc4 : ¬ (¬ inst at_ ∨ nano < 1 ∨ 1125899906842624 < nano) := fun e => e.elim (fun e => e h3) h4
          rw [if_neg h4, if_neg hc4]
          by_cases h5 : late rows c at_
          · rw [if_pos (hl.2 h5), if_pos h5]
          · rw [if_neg (fun e => h5 (hl.1 e)), if_neg h5]
            by_cases h6 : 500 ≤ n
            · rw [if_pos h6, if_pos (by omega)]
            · rw [if_neg h6, if_neg (by omega)]
      · have ha : askF c at_ = 6 := by unfold askF; rw [if_neg h2, if_pos h3]
        rw [ha, if_pos (by decide), if_pos (.inl h3)]
theorem putL_keys (l : L2) (c : ByteArray) (r : List (Int × Int)) (h : (l.map (·.1)).Nodup) : ((putL l c r).map (·.1)).Nodup ∧ ∀ k, k ∈ (putL l c r).map (·.1) ↔ k = c ∨ k ∈ l.map (·.1) := by
  induction l with
  | nil => exact ⟨by simp [putL], fun k => by simp [putL]⟩
  | cons p l ih =>
    obtain ⟨k0, u⟩ := p
    have h2 := List.nodup_cons.1 h
    obtain ⟨i1, i2⟩ := ih h2.2
    unfold putL
    by_cases e : k0 = c
    · rw [if_pos e]
      refine ⟨by rw [List.map_cons, ← e]; exact h, fun k => ?_⟩
      simp only [List.map_cons, List.mem_cons, e]
      constructor
      · intro q; rcases q with q | q
        · exact .inl q
        · exact .inr (.inr q)
      · intro q; rcases q with q | q | q
        · exact .inl q
        · exact .inl q
        · exact .inr q
    · rw [if_neg e]
      refine ⟨List.nodup_cons.2 ⟨fun hm => ?_, i1⟩, fun k => ?_⟩
      · rcases (i2 k0).1 hm with q | q
        · exact e q
        · exact h2.1 q
      · simp only [List.map_cons, List.mem_cons]
        have := i2 k
        simp only [List.mem_map] at this ⊢
        constructor
        · rintro (q | q)
          · exact .inr (.inl q)
          · rcases this.1 q with q | q
            · exact .inl q
            · exact .inr (.inr q)
        · rintro (q | q | q)
          · exact .inr (this.2 (.inl q))
          · exact .inl q
          · exact .inr (this.2 (.inr q))
theorem rel_step {l : L2} {n : Int} {rows rows' : List RR} (h : relF l n rows) {own c : ByteArray} {at_ nano : Int} (hs : refStep own rows c at_ nano rows') : relF (setR own l n c at_ nano).1 (setR own l n c at_ nano).2 rows' := by
  have hE := setE_eq h own c at_ nano
  unfold setR
  rcases hs with ⟨h1, rfl⟩ | ⟨h1, k, hk, rfl⟩
  · rw [if_neg (by rw [hE]; exact h1)]; exact h
  · rw [if_pos (by rw [hE]; exact h1)]
    have hnl : ¬ late rows c at_ := fun hl => by
      unfold refE at h1
      split at h1
      · cases h1
      · split at h1
        · cases h1
        · first | (rw [if_pos hl] at h1; cases h1) | cases h1 | exact absurd h1 (by decide)
    obtain ⟨hkl, hk1, hk2⟩ := hk
    have htd := List.take_append_drop k rows
    have hpw := h.sort
    rw [← htd] at hpw
    obtain ⟨hp1, hp2, hp3⟩ := List.pairwise_append.1 hpw
    have hdr : ∀ y ∈ rows.drop k, leS y.1 c = false := fun y hy => by
      obtain ⟨j, hj, rfl⟩ := List.mem_iff_getElem.1 hy
      rw [List.length_drop] at hj
      rw [List.getElem_drop]
      exact hk2 (k + j) (by omega) (by omega) _ (List.getElem?_eq_getElem (by omega))
    have htk : ∀ y ∈ rows.take k, leS y.1 c = true := fun y hy => by
      rcases hk1 with rfl | ⟨z, hz, hzc⟩
      · simp at hy
      · obtain ⟨j, hj, rfl⟩ := List.mem_iff_getElem.1 hy
        rw [List.length_take] at hj
        rw [List.getElem_take]
        obtain ⟨hz1, rfl⟩ := List.getElem?_eq_some_iff.1 hz
        by_cases e : j = k - 1
        · subst e; exact hzc
        · exact leS_trans (List.pairwise_iff_getElem.1 h.sort j (k - 1) (by omega) hz1 (by omega)) hzc
    have hof : ∀ d, ofC d rows = ofC d (rows.take k) ++ ofC d (rows.drop k) := fun d => by unfold ofC; rw [← List.filter_append, htd]
    have hcd : ofC c (rows.drop k) = [] := by
      unfold ofC
      rw [List.filter_eq_nil_iff]
      intro y hy e
      have h2 := hdr y hy
      rw [show y.1 = c by simpa using e, leS_refl] at h2; cases h2
    have hfirst : ∀ x ∈ rowsOf l c, x.1 < at_ := fun x hx => by
      rw [← h.same c] at hx
      obtain ⟨y, hy, rfl⟩ := List.mem_map.1 hx
      have hy2 := List.mem_filter.1 hy
      rcases Int.lt_or_le y.2.1 at_ with q | q
      · exact q
      · exact absurd ⟨y, hy2.1, by simpa using hy2.2, q⟩ hnl
    refine ⟨(putL_keys l c _ h.keys).1, fun d => ?_, ?_, fun d => ?_, ?_, by have := h.few; have := putL_len c (rowsOf l c ++ [(at_, nano)]) l; simp only; omega⟩
    · rw [rowsOf_put]
      have e1 : ofC d (rows.take k ++ (c, at_, nano) :: rows.drop k) = ofC d (rows.take k) ++ (if c = d then [(c, at_, nano)] else []) ++ ofC d (rows.drop k) := by
        unfold ofC
        rw [List.filter_append, List.filter_cons, List.append_assoc]
        by_cases e : c = d
        · simp [e]
        · simp [e]
      rw [e1]
      by_cases e : c = d
      · subst e
        rw [if_pos rfl, if_pos rfl, hcd, List.append_nil, List.map_append, ← h.same c, hof c, hcd, List.append_nil]; rfl
      · rw [if_neg e, if_neg e, List.append_nil, ← hof d, h.same d]
    · refine List.pairwise_append.2 ⟨hp1, List.pairwise_cons.2 ⟨fun y hy => leS_total (hdr y hy), hp2⟩, fun x hx y hy => ?_⟩
      rcases List.mem_cons.1 hy with rfl | hy
      · exact htk x hx
      · exact hp3 x hx y hy
    · rw [rowsOf_put]
      by_cases e : c = d
      · rw [if_pos e]
        exact List.pairwise_append.2 ⟨h.rise c, List.pairwise_singleton _ _, fun x hx y hy => by obtain rfl := List.mem_singleton.1 hy; exact hfirst x hx⟩
      · rw [if_neg e]; exact h.rise d
    · have := h.num
      simp only [List.length_append, List.length_cons, List.length_take, List.length_drop]
      omega

/-- the reference's rate. -/
def outF (rows : List RR) (c : ByteArray) (at_ : Int) : Int := rows.foldl (fun o x => if x.1 = c ∧ x.2.1 ≤ at_ then x.2.2 else o) 0
def rgetF (own : ByteArray) (rows : List RR) (c : ByteArray) (at_ : Int) : Int × Int :=
  if refS c < 0 then (0, 18) else if ¬ inst at_ then (0, 6) else if c = own then (1000000000, 0) else if outF rows c at_ = 0 then (0, 28) else (outF rows c at_, 0)
theorem fold_find {α : Type} (p : α → Bool) (f : α → Int) (l : List α) : ∀ o, l.foldl (fun o x => if p x = true then f x else o) o = match l.reverse.find? p with | some x => f x | none => o := by
  induction l with
  | nil => intro o; rfl
  | cons a r ih =>
    intro o
    rw [List.foldl_cons, ih, List.reverse_cons, List.find?_append]
    cases hr : r.reverse.find? p with
    | some x => rfl
    | none =>
      by_cases hp : p a = true
      · rw [if_pos hp]; simp [hp]
      · rw [if_neg hp]; simp [hp]
theorem outF_eq {l : L2} {n : Int} {rows : List RR} (h : relF l n rows) (c : ByteArray) (at_ : Int) : outF rows c at_ = match lastLe (rowsOf l c) at_ with | some x => x.2 | none => 0 := by
  unfold outF lastLe
  have e1 : ∀ (r : List RR) (o : Int), r.foldl (fun o x => if x.1 = c ∧ x.2.1 ≤ at_ then x.2.2 else o) o = ((ofC c r).map (·.2)).foldl (fun o x => if decide (x.1 ≤ at_) = true then x.2 else o) o := by
    intro r
    induction r with
    | nil => intro o; rfl
    | cons a r ih =>
      intro o
      unfold ofC at ih ⊢
      rw [List.foldl_cons, List.filter_cons]
      by_cases hc : a.1 = c
      · have e2 : decide (a.1 = c) = true := by simpa using hc
        rw [if_pos e2, List.map_cons, List.foldl_cons, ih]
        congr 1
        simp [hc]
      · have e2 : ¬ decide (a.1 = c) = true := by simpa using hc
        rw [if_neg e2, ih]
        congr 1
        simp [hc]
  rw [e1, h.same c, fold_find]
  cases List.find? (fun x => decide (x.1 ≤ at_)) (rowsOf l c).reverse <;> rfl
theorem get_eq {l : L2} {n : Int} {rows : List RR} (h : relF l n rows) (hb : nanoOK l) (own c : ByteArray) (at_ : Int) : getF own l c at_ = rgetF own rows c at_ := by
  have hs := refS_neg c
  have ho := outF_eq h c at_
  unfold getF rgetF
  by_cases h2 : (scaleR c).2 ≠ 0
  · have ha : askF c at_ = 18 := by unfold askF; rw [if_pos h2]
    rw [ha, if_pos (by decide), if_pos (hs.2 h2)]
  · rw [if_neg (fun e => h2 (hs.1 e)) (c := refS c < 0)]
    by_cases h3 : inst at_
    · have ha : askF c at_ = 0 := by unfold askF; rw [if_neg h2, if_neg (fun e => e h3)]
      rw [ha, if_neg (show ¬ ((0 : Int) ≠ 0) from fun e => e rfl), if_neg (fun e => e h3) (c := ¬ inst at_)]
      by_cases h4 : c = own
      · rw [if_pos h4, if_pos h4]
      · rw [if_neg h4, if_neg h4]
        cases hl : lastLe (rowsOf l c) at_ with
        | none => rw [hl] at ho; simp only at ho; rw [if_pos ho]
        | some x =>
          rw [hl] at ho
          simp only at ho
          have hm := List.mem_reverse.1 (List.mem_of_find?_eq_some hl)
          have := hb c x hm
          rw [if_neg (by omega), ho]
    · have ha : askF c at_ = 6 := by unfold askF; rw [if_neg h2, if_pos h3]
      rw [ha, if_pos (by decide), if_pos h3]

/-! ### the list of all rates -/
theorem part_first {k : ByteArray} : ∀ {rows : List RR}, rows.Pairwise (fun x y => leS x.1 y.1 = true) → (∀ x ∈ rows, leS k x.1 = true) → rows = ofC k rows ++ rows.filter fun x => !decide (x.1 = k)
  | [], _, _ => rfl
  | a :: r, hp, hk => by
    have hp2 := List.pairwise_cons.1 hp
    by_cases e : a.1 = k
    · have ih := part_first hp2.2 (fun x hx => hk x (.tail _ hx))
      unfold ofC at ih ⊢
      rw [List.filter_cons, if_pos (by simpa using e), List.filter_cons, if_neg (by simp [e]), List.cons_append, ← ih]
    · have hno : ∀ y ∈ a :: r, ¬ y.1 = k := fun y hy e2 => by
        rcases List.mem_cons.1 hy with rfl | hy
        · exact e e2
        · have h1 := hp2.1 y hy
          rw [e2] at h1
          exact e (leS_anti h1 (hk a (.head _)))
      have f1 : ofC k (a :: r) = [] := by
        unfold ofC; rw [List.filter_eq_nil_iff]; intro y hy e2; exact hno y hy (by simpa using e2)
      have f2 : (a :: r).filter (fun x => !decide (x.1 = k)) = a :: r := by
        rw [List.filter_eq_self]; intro y hy; simp [hno y hy]
      rw [f1, f2]; rfl
theorem by_codes : ∀ (ks : List ByteArray) (rows : List RR), ks.Pairwise (fun x y => leS x y = true ∧ x ≠ y) → rows.Pairwise (fun x y => leS x.1 y.1 = true) → (∀ x ∈ rows, x.1 ∈ ks) → rows = ks.flatMap fun c => ofC c rows
  | [], rows, _, _, hm => by
    cases rows with
    | nil => rfl
    | cons a r => exact absurd (hm a (.head _)) (by simp)
  | k :: ks, rows, hk, hp, hm => by
    have hk2 := List.pairwise_cons.1 hk
    have hle : ∀ x ∈ rows, leS k x.1 = true := fun x hx => by
      rcases List.mem_cons.1 (hm x hx) with e | e
      · rw [e]; exact leS_refl _
      · exact (hk2.1 _ e).1
    have h1 := part_first hp hle
    obtain ⟨r2, hr2⟩ : ∃ r2, r2 = rows.filter fun x => !decide (x.1 = k) := ⟨_, rfl⟩
    have hsub : r2.Sublist rows := by rw [hr2]; exact List.filter_sublist
    have ih := by_codes ks r2 hk2.2 (hp.sublist hsub) (fun x hx => by
      rw [hr2] at hx
      obtain ⟨h2, h3⟩ := List.mem_filter.1 hx
      rcases List.mem_cons.1 (hm x h2) with e | e
      · simp [e] at h3
      · exact e)
    rw [← hr2] at h1
    rw [List.flatMap_cons]
    have h4 : ks.flatMap (fun c => ofC c rows) = ks.flatMap fun c => ofC c r2 := by
      apply flatMap_cong
      intro c hc
      have hne := (hk2.1 c hc).2
      unfold ofC
      rw [hr2, List.filter_filter]
      apply List.filter_congr
      intro x _
      by_cases e : x.1 = c
      · have : x.1 ≠ k := fun e2 => hne (by rw [← e2, e])
        simp [e]; rw [← e]; exact this
      · simp [e]
    rw [h4, ← ih]; exact h1
theorem rowsOf_key {l : L2} {c : ByteArray} (h : rowsOf l c ≠ []) : c ∈ l.map (·.1) := by
  unfold rowsOf at h
  cases hf : l.find? (fun e => decide (e.1 = c)) with
  | none => rw [hf] at h; exact absurd rfl h
  | some e =>
    have h1 := List.find?_some hf
    have h2 := List.mem_of_find?_eq_some hf
    exact List.mem_map.2 ⟨e, h2, by simpa using h1⟩
def listF (l : L2) : List RR := (srt (l.map (·.1))).flatMap fun c => (rowsOf l c).map fun x => (c, x.1, x.2)
theorem list_eq {l : L2} {n : Int} {rows : List RR} (h : relF l n rows) : listF l = rows := by
  have h1 := by_codes (srt (l.map (·.1))) rows (srt_pw _ h.keys) h.sort (fun x hx => by
    rw [srt_mem]
    apply rowsOf_key
    rw [← h.same x.1]
    intro e
    have : x.2 ∈ (ofC x.1 rows).map (·.2) := List.mem_map.2 ⟨x, List.mem_filter.2 ⟨hx, by simp⟩, rfl⟩
    rw [e] at this; cases this)
  conv => rhs; rw [h1]
  unfold listF
  apply flatMap_cong
  intro c _
  rw [← h.same c, List.map_map]
  unfold ofC
  conv => rhs; rw [← List.map_id (rows.filter fun x => decide (x.1 = c))]
  apply List.map_congr_left
  intro x hx
  have h2 : x.1 = c := by simpa using (List.mem_filter.1 hx).2
  show (c, x.2.1, x.2.2) = x
  rw [← h2]
end Go.Proofs.Ytheofhegdjjfgaa

namespace Go.Proofs.Ytheofhegdjjfgaa
open Go.RowKit

theorem units_iffR (z : Int) : inU z ↔ ((i64R z).2 = true ∧ (i64R z).1 ≤ 4611686018427387904) ∧ -4611686018427387904 ≤ (i64R z).1 := by
  unfold inU i64R
  split
  · simp; omega
  · simp; omega
set_option maxRecDepth 100000 in
theorem unitsR_P (p : Option (Nat × Nat)) (c : Nat) (z : Int) (hz : (dgs z.natAbs).length ≤ 1000) (w0 : World) (h : (oneA p (dgs z.natAbs)).ok w0) :
    PureC Try.prog 103 [bigV z p c] w0 (.tuple [.int .i64 (i64R z).1, .bool (decide (inU z))].toArray) := by
  refine c_enter [(0, bigV z p c)] [oneA p (dgs z.natAbs)] noB Try.func103 rfl Try.ntmps103 ⟨rfl, trivial⟩ rfl (okC (h) okN) dis1 (mineC (by rfl) mineN) ?_
  intro a hS
  refine c_seq ?_
  refine c_region ?_
  refine L_op (s_boxA hS rfl rfl ?_); clear hS a; (try clear w); intro a w b1 hS
  refine L_op (s_e hS (e_assign rfl) rfl ?_); clear hS a; intro a hS
  refine L_op (s_e hS (e_assign rfl) rfl ?_); clear hS a; intro a hS
  refine L_nil ?_
  refine n_then ?_
  refine c_seq ?_
  refine c_region ?_
  refine L_op (s_e hS (e_loadA rfl (by repeat constructor) ty_st44 ty_sz44 (by rfl)) rfl ?_); clear hS a; intro a hS
  refine L_op (s_callP hS (.cons rfl .nil) cf118 rfl (BigInt_P p c z hz _ (hS.ok (oneA p (dgs z.natAbs)) (by repeat constructor))) ?_); clear hS a; (try clear w); intro a w hS
  refine L_op (s_e hS (e_move rfl) rfl ?_); clear hS a; intro a hS
  refine L_op (s_e hS (e_extract rfl rfl) rfl ?_); clear hS a; intro a hS
  refine L_op (s_e hS (e_extract rfl rfl) rfl ?_); clear hS a; intro a hS
  refine L_op (s_e hS (e_assign rfl) rfl ?_); clear hS a; intro a hS
  refine L_op (s_e hS (e_assign rfl) rfl ?_); clear hS a; intro a hS
  refine L_nil ?_
  refine n_then ?_
  refine c_seq ?_
  refine c_region ?_
  refine L_op (s_e hS (e_move rfl) rfl ?_); clear hS a; intro a hS
  refine L_op (s_e hS (e_move rfl) rfl ?_); clear hS a; intro a hS
  refine L_op (s_e hS (e_move rfl) rfl ?_); clear hS a; intro a hS
  refine L_merge 3 16 (.bool (decide ((i64R z).2 = true ∧ (i64R z).1 ≤ 4611686018427387904))) hS ?_ ?_
  · intro hcM16
    (first | refine g_splitD (t := 13) hS rfl ?_ ?_ | refine g_split (t := 13) hS rfl ?_ ?_) <;> (clear hS; intro hg13 hS)
    ·
      refine L_go hS rfl rfl (s_e hS (e_move rfl) rfl ?_); clear hS a; intro a hS
      refine L_go hS rfl rfl (s_e hS (e_bin rfl rfl rfl) rfl ?_); clear hS a; intro a hS
      first | (refine L_op (s_e hS (e_pick_t rfl rfl) rfl ?_); clear hS a; intro a hS) | (refine L_op (s_e hS (e_pick_f rfl rfl) rfl ?_); clear hS a; intro a hS)
      exact hcM16 _ _ (hS.ends 4 16 13 rfl (congrArg Value.bool (by first | rfl | (simp [hg13]; done) | (simp [hg13]; omega) | grind)) rfl rfl (by first | exact congrArg Value.bool (decide_eq_true hg13).symm | exact congrArg Value.bool hg13.symm | simp [hg13]) rfl)
    ·
      refine L_skip_t hS rfl rfl rfl ?_; clear hS a; intro a hS
      refine L_skip_t hS rfl rfl rfl ?_; clear hS a; intro a hS
      first | (refine L_op (s_e hS (e_pick_t rfl rfl) rfl ?_); clear hS a; intro a hS) | (refine L_op (s_e hS (e_pick_f rfl rfl) rfl ?_); clear hS a; intro a hS)
      exact hcM16 _ _ (hS.ends 4 16 13 rfl (congrArg Value.bool (by first | rfl | (simp [hg13]; done) | (simp [hg13]; omega) | grind)) rfl rfl (by first | exact congrArg Value.bool (decide_eq_false hg13).symm | exact congrArg Value.bool hg13.symm | simp [hg13]) rfl)
  · clear hS a; (try clear w); intro a w hS
    simp only [List.drop_succ_cons, List.drop_zero]
    refine L_op (s_e hS (e_move rfl) rfl ?_); clear hS a; intro a hS
    refine L_merge 3 20 (.bool (decide (inU z))) hS ?_ ?_
    · intro hcM20
      (first | refine g_splitD (t := 17) hS rfl ?_ ?_ | refine g_split (t := 17) hS rfl ?_ ?_) <;> (clear hS; intro hg17 hS)
      ·
        refine L_go hS rfl rfl (s_e hS (e_move rfl) rfl ?_); clear hS a; intro a hS
        refine L_go hS rfl rfl (s_e hS (e_bin rfl rfl rfl) rfl ?_); clear hS a; intro a hS
        first | (refine L_op (s_e hS (e_pick_t rfl rfl) rfl ?_); clear hS a; intro a hS) | (refine L_op (s_e hS (e_pick_f rfl rfl) rfl ?_); clear hS a; intro a hS)
        exact hcM20 _ _ (hS.ends 4 20 17 rfl (congrArg Value.bool (by exact decide_eq_decide.2 ⟨fun h => (units_iffR z).2 ⟨hg17, h⟩, fun h => ((units_iffR z).1 h).2⟩)) rfl rfl (by first | exact congrArg Value.bool (decide_eq_true hg17).symm | exact congrArg Value.bool hg17.symm | simp [hg17]) rfl)
      ·
        refine L_skip_t hS rfl rfl rfl ?_; clear hS a; intro a hS
        refine L_skip_t hS rfl rfl rfl ?_; clear hS a; intro a hS
        first | (refine L_op (s_e hS (e_pick_t rfl rfl) rfl ?_); clear hS a; intro a hS) | (refine L_op (s_e hS (e_pick_f rfl rfl) rfl ?_); clear hS a; intro a hS)
        exact hcM20 _ _ (hS.ends 4 20 17 rfl (congrArg Value.bool (by exact (decide_eq_false (fun h => hg17 ((units_iffR z).1 h).1)).symm)) rfl rfl (by first | exact congrArg Value.bool (decide_eq_false hg17).symm | exact congrArg Value.bool hg17.symm | simp [hg17]) rfl)
    · clear hS a; (try clear w); intro a w hS
      simp only [List.drop_succ_cons, List.drop_zero]
      refine L_op (s_e hS (e_assign rfl) rfl ?_); clear hS a; intro a hS
      refine L_op (s_e hS (e_assign rfl) rfl ?_); clear hS a; intro a hS
      refine L_nil ?_
      refine n_then ?_
      refine wp_ret ?_
      refine c_retN hS Try.results103 (.cons (.tmp rfl) (.cons (.tmp rfl) .nil)) rfl ?_
      exact ⟨rfl, hS.chg⟩
theorem i64R_inR {z : Int} (h : inU z) : (i64R z).1 = z := by unfold i64R; unfold inU at h; rw [if_pos (by omega)]
theorem dv_len {u n : Int} (hu : inU u) (hn : 0 ≤ n ∧ n ≤ 1125899906842624) : (dgs (Wd.dv (u * n) 1000000000).natAbs).length ≤ 20 := by
  have h1 := dv_bd (u * n) (prod_bd hu hn)
  unfold Wd.fit at h1
  exact len20 (by omega)
set_option maxRecDepth 100000 in
theorem xEven_P (u n : Int) (hu : inU u) (hn : 0 ≤ n ∧ n ≤ 1125899906842624) (w0 : World) :
    PureC Try.prog 78 [.int .i64 u, .int .i64 n, .int .i64 1000000000] w0 (.tuple [.int .i64 (i64R (Wd.dv (u * n) 1000000000)).1, .bool (decide (inU (Wd.dv (u * n) 1000000000)))].toArray) := by
  have hp := prod_bd hu hn
  have hdl := dv_len hu hn
  have hu2 := hu
  unfold inU at hu2
  refine c_enter [(0, .int .i64 u), (1, .int .i64 n), (2, .int .i64 1000000000)] [] noB Try.func78 rfl Try.ntmps78 ⟨rfl, rfl, rfl, trivial⟩ rfl (by simp) (by simp) (by simp) ?_
  intro a hS
  refine c_seq ?_
  refine c_region ?_
  refine L_op (s_e hS (e_assign rfl) rfl ?_); clear hS a; intro a hS
  refine L_op (s_e hS (e_assign rfl) rfl ?_); clear hS a; intro a hS
  refine L_nil ?_
  refine n_then ?_
  refine c_seq ?_
  refine c_region ?_
  refine L_op (s_e hS (e_move rfl) rfl ?_); clear hS a; intro a hS
  refine L_op (s_callN hS (.cons rfl .nil) cf22 rfl (BigOf_P u (by omega) _) ?_); clear hS a; (try clear w); intro x9 a w hS
  refine L_op (s_e hS (e_move rfl) rfl ?_); clear hS a; intro a hS
  refine L_op (s_callN hS (.cons rfl .nil) cf22 rfl (BigOf_P n (by omega) _) ?_); clear hS a; (try clear w); intro x11 a w hS
  refine L_op (s_callN hS (.cons rfl (.cons rfl .nil)) cf105 rfl (BigMul_P (some (x9.1.1, 0)) (some (x11.1.1, 0)) x9.1.2 x11.1.2 u n (by have := len20 (z := u) (by omega); omega) (by have := len20 (z := n) (by omega); omega) _ (two_bb hS (b := x9.1.1) (c := x11.1.1) (by repeat constructor) (by repeat constructor))) ?_); clear hS a; (try clear w); intro x12 a w hS
  refine L_op (s_e hS (e_move rfl) rfl ?_); clear hS a; intro a hS
  refine L_op (s_callN hS (.cons rfl .nil) cf22 rfl (BigOf_P 1000000000 (by decide) _) ?_); clear hS a; (try clear w); intro x14 a w hS
  refine L_op (s_callN hS (.cons rfl (.cons rfl .nil)) cf104 rfl (BigEven_P (some (x12.1.1, 0)) (some (x14.1.1, 0)) x12.1.2 x14.1.2 (u * n) 1000000000 (by decide) (by have := len20 (z := u * n) (by omega); omega) (by have := len20 (z := 1000000000) (by decide); omega) _ (two_bb hS (b := x12.1.1) (c := x14.1.1) (by repeat constructor) (by repeat constructor))) ?_); clear hS a; (try clear w); intro x15 a w hS
  refine L_op (s_callP hS (.cons rfl .nil) cf103 rfl (unitsR_P (some (x15.1.1, 0)) x15.1.2 (Wd.dv (u * n) 1000000000) (by omega) _ (ok_rowP (row_b hS (x := Wd.dv (u * n) 1000000000) (b := x15.1.1) (by repeat constructor)).1 (row_b hS (x := Wd.dv (u * n) 1000000000) (b := x15.1.1) (by repeat constructor)).2)) ?_); clear hS a; (try clear w); intro a w hS
  refine L_op (s_e hS (e_extract rfl rfl) rfl ?_); clear hS a; intro a hS
  refine L_op (s_e hS (e_extract rfl rfl) rfl ?_); clear hS a; intro a hS
  refine L_op (s_e hS (e_assign rfl) rfl ?_); clear hS a; intro a hS
  refine L_op (s_e hS (e_assign rfl) rfl ?_); clear hS a; intro a hS
  refine L_nil ?_
  refine n_then ?_
  refine wp_ret ?_
  refine c_retN hS Try.results78 (.cons (.tmp rfl) (.cons (.tmp rfl) .nil)) rfl ?_
  exact ⟨rfl, hS.chg⟩
set_option maxRecDepth 100000 in
theorem xConv_P (u n : Int) (w0 : World) : PureC Try.prog 36 [.int .i64 u, .int .i64 n] w0 (.tuple [.int .i64 (convF u n).1, .int .i64 (convF u n).2].toArray) := by
  refine c_enter [(0, .int .i64 u), (1, .int .i64 n)] [] noB Try.func36 rfl Try.ntmps36 ⟨rfl, rfl, trivial⟩ rfl (by simp) (by simp) (by simp) ?_
  intro a hS
  refine c_seq ?_
  refine c_region ?_
  refine L_op (s_e hS (e_assign rfl) rfl ?_); clear hS a; intro a hS
  refine L_op (s_e hS (e_assign rfl) rfl ?_); clear hS a; intro a hS
  refine L_nil ?_
  refine n_then ?_
  refine c_seq ?_
  refine c_seq ?_
  refine c_region ?_
  refine L_op (s_e hS (e_move rfl) rfl ?_); clear hS a; intro a hS
  refine L_op (s_callP hS (.cons rfl .nil) cf15 rfl (Within_P u _) ?_); clear hS a; (try clear w); intro a w hS
  refine L_op (s_e hS (e_not rfl) rfl ?_); clear hS a; intro a hS
  refine L_op (s_e hS (e_move rfl) rfl ?_); clear hS a; intro a hS
  refine L_merge 3 14 (.bool (decide (¬ inU u ∨ n < 0))) hS ?_ ?_
  · intro hcM14
    (first | refine g_splitD (t := 11) hS rfl ?_ ?_ | refine g_split (t := 11) hS rfl ?_ ?_) <;> (clear hS; intro hg11 hS)
    ·
      refine L_skip_f hS rfl rfl rfl ?_; clear hS a; intro a hS
      refine L_skip_f hS rfl rfl rfl ?_; clear hS a; intro a hS
      first | (refine L_op (s_e hS (e_pick_t rfl rfl) rfl ?_); clear hS a; intro a hS) | (refine L_op (s_e hS (e_pick_f rfl rfl) rfl ?_); clear hS a; intro a hS)
      exact hcM14 _ _ (hS.ends 4 14 11 rfl (congrArg Value.bool (by simp at hg11; simp [hg11])) rfl rfl (by first | exact congrArg Value.bool (decide_eq_true hg11).symm | exact congrArg Value.bool hg11.symm | simp [hg11]) rfl)
    ·
      refine L_go hS rfl rfl (s_e hS (e_move rfl) rfl ?_); clear hS a; intro a hS
      refine L_go hS rfl rfl (s_e hS (e_bin rfl rfl rfl) rfl ?_); clear hS a; intro a hS
      first | (refine L_op (s_e hS (e_pick_t rfl rfl) rfl ?_); clear hS a; intro a hS) | (refine L_op (s_e hS (e_pick_f rfl rfl) rfl ?_); clear hS a; intro a hS)
      exact hcM14 _ _ (hS.ends 4 14 11 rfl (congrArg Value.bool (by simp at hg11; rw [decide_eq_decide]; simp [hg11])) rfl rfl (by first | exact congrArg Value.bool (decide_eq_false hg11).symm | exact congrArg Value.bool hg11.symm | simp [hg11]) rfl)
  · clear hS a; (try clear w); intro a w hS
    simp only [List.drop_succ_cons, List.drop_zero]
    refine L_op (s_e hS (e_move rfl) rfl ?_); clear hS a; intro a hS
    refine L_merge 3 18 (.bool (decide (¬ inU u ∨ n < 0 ∨ 1125899906842624 < n))) hS ?_ ?_
    · intro hcM18
      (first | refine g_splitD (t := 15) hS rfl ?_ ?_ | refine g_split (t := 15) hS rfl ?_ ?_) <;> (clear hS; intro hg15 hS)
      ·
        refine L_skip_f hS rfl rfl rfl ?_; clear hS a; intro a hS
        refine L_skip_f hS rfl rfl rfl ?_; clear hS a; intro a hS
        first | (refine L_op (s_e hS (e_pick_t rfl rfl) rfl ?_); clear hS a; intro a hS) | (refine L_op (s_e hS (e_pick_f rfl rfl) rfl ?_); clear hS a; intro a hS)
        exact hcM18 _ _ (hS.ends 4 18 15 rfl (congrArg Value.bool (by symm; rw [decide_eq_true_eq]; rcases hg15 with h | h; exact .inl h; exact .inr (.inl h))) rfl rfl (by first | exact congrArg Value.bool (decide_eq_true hg15).symm | exact congrArg Value.bool hg15.symm | simp [hg15]) rfl)
      ·
        refine L_go hS rfl rfl (s_e hS (e_move rfl) rfl ?_); clear hS a; intro a hS
        refine L_go hS rfl rfl (s_e hS (e_bin rfl rfl rfl) rfl ?_); clear hS a; intro a hS
        first | (refine L_op (s_e hS (e_pick_t rfl rfl) rfl ?_); clear hS a; intro a hS) | (refine L_op (s_e hS (e_pick_f rfl rfl) rfl ?_); clear hS a; intro a hS)
        exact hcM18 _ _ (hS.ends 4 18 15 rfl (congrArg Value.bool (by rw [decide_eq_decide]; constructor; exact fun h => .inr (.inr h); exact fun h => by (rcases h with h | h | h; exact absurd (.inl h) hg15; exact absurd (.inr h) hg15; exact h))) rfl rfl (by first | exact congrArg Value.bool (decide_eq_false hg15).symm | exact congrArg Value.bool hg15.symm | simp [hg15]) rfl)
    · clear hS a; (try clear w); intro a w hS
      simp only [List.drop_succ_cons, List.drop_zero]
      refine L_nil ?_
      refine n_then ?_
      first | refine c_ifD hS rfl (fun hc18 => ?_) (fun hc18 => ?_) | refine c_if hS rfl (fun hc18 => ?_) (fun hc18 => ?_)
      ·
        refine c_seq ?_
        refine c_region ?_
        refine L_op (s_e hS (e_assign rfl) rfl ?_); clear hS a; intro a hS
        refine L_op (s_e hS (e_assign rfl) rfl ?_); clear hS a; intro a hS
        refine L_nil ?_
        refine n_then ?_
        refine wp_ret ?_
        refine r_then ?_
        refine c_retN hS Try.results36 (.cons (.tmp rfl) (.cons (.tmp rfl) .nil)) rfl ?_
        exact ⟨by rw [show convF u n = (0, 6) from if_pos hc18], hS.chg⟩
      ·
        have hu : inU u := Classical.byContradiction fun h => hc18 (.inl h)
        have hn : 0 ≤ n ∧ n ≤ 1125899906842624 := by omega
        refine wp_skip ?_
        refine n_then ?_
        refine c_seq ?_
        refine c_region ?_
        refine L_op (s_e hS (e_move rfl) rfl ?_); clear hS a; intro a hS
        refine L_op (s_e hS (e_move rfl) rfl ?_); clear hS a; intro a hS
        refine L_op (s_callP hS (.cons rfl (.cons rfl (.cons rfl .nil))) cf78 rfl (xEven_P u n hu hn _) ?_); clear hS a; (try clear w); intro a w hS
        refine L_op (s_e hS (e_move rfl) rfl ?_); clear hS a; intro a hS
        refine L_op (s_e hS (e_extract rfl rfl) rfl ?_); clear hS a; intro a hS
        refine L_op (s_e hS (e_extract rfl rfl) rfl ?_); clear hS a; intro a hS
        refine L_op (s_e hS (e_assign rfl) rfl ?_); clear hS a; intro a hS
        refine L_op (s_e hS (e_assign rfl) rfl ?_); clear hS a; intro a hS
        refine L_nil ?_
        refine n_then ?_
        refine c_seq ?_
        refine c_seq ?_
        refine c_region ?_
        refine L_op (s_e hS (e_move rfl) rfl ?_); clear hS a; intro a hS
        refine L_op (s_e hS (e_not rfl) rfl ?_); clear hS a; intro a hS
        refine L_nil ?_
        refine n_then ?_
        first | refine c_ifD hS rfl (fun hc26 => ?_) (fun hc26 => ?_) | refine c_if hS rfl (fun hc26 => ?_) (fun hc26 => ?_)
        ·
          refine c_seq ?_
          refine c_region ?_
          refine L_op (s_e hS (e_assign rfl) rfl ?_); clear hS a; intro a hS
          refine L_op (s_e hS (e_assign rfl) rfl ?_); clear hS a; intro a hS
          refine L_nil ?_
          refine n_then ?_
          refine wp_ret ?_
          refine r_then ?_
          refine c_retN hS Try.results36 (.cons (.tmp rfl) (.cons (.tmp rfl) .nil)) rfl ?_
          exact ⟨by rw [show convF u n = (0, 16) by unfold convF; rw [if_neg hc18, if_neg (by simpa using hc26)]], hS.chg⟩
        ·
          refine wp_skip ?_
          refine n_then ?_
          refine c_seq ?_
          refine c_region ?_
          refine L_op (s_e hS (e_move rfl) rfl ?_); clear hS a; intro a hS
          refine L_op (s_e hS (e_assign rfl) rfl ?_); clear hS a; intro a hS
          refine L_op (s_e hS (e_assign rfl) rfl ?_); clear hS a; intro a hS
          refine L_nil ?_
          refine n_then ?_
          refine wp_ret ?_
          refine c_retN hS Try.results36 (.cons (.tmp rfl) (.cons (.tmp rfl) .nil)) rfl ?_
          have hr : inU (Wd.dv (u * n) 1000000000) := by simpa using hc26
          exact ⟨by rw [show convF u n = (Wd.dv (u * n) 1000000000, 0) by unfold convF; rw [if_neg hc18, if_pos hr], i64R_inR hr], hS.chg⟩
set_option maxRecDepth 100000 in
theorem xCheck6_P (u : Int) (c : ByteArray) (w0 : World) : PureC Try.prog 82 [.agg [.int .i64 u, .string c].toArray] w0 (.int .i64 (checkF u c)) := by
  have hs := refS_neg c
  refine c_enter [(0, .agg [.int .i64 u, .string c].toArray)] [] noB Try.func82 rfl Try.ntmps82 ⟨rfl, trivial⟩ rfl (by simp) (by simp) (by simp) ?_
  intro a hS
  refine c_seq ?_
  refine c_region ?_
  refine L_op (s_boxA hS rfl rfl ?_); clear hS a; (try clear w); intro a w b1 hS
  refine L_op (s_e hS (e_assign rfl) rfl ?_); clear hS a; intro a hS
  refine L_nil ?_
  refine n_then ?_
  refine c_seq ?_
  refine c_seq ?_
  refine c_region ?_
  first | (refine L_op (s_e hS (e_fa0 rfl ty_fo90_1) rfl ?_); clear hS a; intro a hS) | (refine L_op (s_e hS (e_faK rfl ty_fo90_1) rfl ?_); clear hS a; intro a hS)
  refine L_op (s_e hS (e_load rfl (by repeat constructor) ty_sc9 (by rfl)) rfl ?_); clear hS a; intro a hS
  refine L_op (s_callP hS (.cons rfl .nil) cf38 rfl (xScale_P c _) ?_); clear hS a; (try clear w); intro a w hS
  refine L_op (s_e hS (e_bin rfl rfl rfl) rfl ?_); clear hS a; intro a hS
  refine L_nil ?_
  refine n_then ?_
  first | refine c_ifD hS rfl (fun hc6 => ?_) (fun hc6 => ?_) | refine c_if hS rfl (fun hc6 => ?_) (fun hc6 => ?_)
  ·
    refine c_seq ?_
    refine c_region ?_
    refine L_op (s_e hS (e_assign rfl) rfl ?_); clear hS a; intro a hS
    refine L_nil ?_
    refine n_then ?_
    refine wp_ret ?_
    refine r_then ?_
    refine c_ret1 hS Try.results82 (.tmp rfl) ?_
    exact ⟨by unfold checkF; rw [if_pos (hs.1 hc6)], hS.chg⟩
  ·
    refine wp_skip ?_
    refine n_then ?_
    refine c_seq ?_
    refine c_seq ?_
    refine c_region ?_
    first | (refine L_op (s_e hS (e_fa0 rfl ty_fo90_0) rfl ?_); clear hS a; intro a hS) | (refine L_op (s_e hS (e_faK rfl ty_fo90_0) rfl ?_); clear hS a; intro a hS)
    refine L_op (s_e hS (e_load rfl (by repeat constructor) ty_sc3 (by rfl)) rfl ?_); clear hS a; intro a hS
    refine L_op (s_callP hS (.cons rfl .nil) cf15 rfl (Within_P u _) ?_); clear hS a; (try clear w); intro a w hS
    refine L_op (s_e hS (e_not rfl) rfl ?_); clear hS a; intro a hS
    refine L_nil ?_
    refine n_then ?_
    first | refine c_ifD hS rfl (fun hc10 => ?_) (fun hc10 => ?_) | refine c_if hS rfl (fun hc10 => ?_) (fun hc10 => ?_)
    ·
      refine c_seq ?_
      refine c_region ?_
      refine L_op (s_e hS (e_assign rfl) rfl ?_); clear hS a; intro a hS
      refine L_nil ?_
      refine n_then ?_
      refine wp_ret ?_
      refine r_then ?_
      refine c_ret1 hS Try.results82 (.tmp rfl) ?_
      exact ⟨by unfold checkF; rw [if_neg (fun e => hc6 (hs.2 e)), if_pos (by simpa using hc10)], hS.chg⟩
    ·
      refine wp_skip ?_
      refine n_then ?_
      refine c_seq ?_
      refine c_region ?_
      refine L_op (s_e hS (e_assign rfl) rfl ?_); clear hS a; intro a hS
      refine L_nil ?_
      refine n_then ?_
      refine wp_ret ?_
      refine c_ret1 hS Try.results82 (.tmp rfl) ?_
      exact ⟨by unfold checkF; rw [if_neg (fun e => hc6 (hs.2 e)), if_neg (by simpa using hc10)], hS.chg⟩
end Go.Proofs.Ytheofhegdjjfgaa

namespace Go.Proofs.Ytheofhegdjjfgaa
open Go.RowKit

theorem outF_take {rows : List RR} {c : ByteArray} {at_ : Int} {i : Nat} {x : RR} (hx : rows[i]? = some x) : outF (rows.take (i + 1)) c at_ = if x.1 = c ∧ x.2.1 ≤ at_ then x.2.2 else outF (rows.take i) c at_ := by
  unfold outF
  rw [List.take_add_one, hx]
  simp [List.foldl_append]
set_option maxRecDepth 100000 in
theorem rGet_P (bw : Nat) (own c : ByteArray) (rows : List RR) (v : Value) (at_ : Int) (hlen : rows.length ≤ 1000000) (w0 : World) (h : refφ bw own rows v w0) :
    PureC Try.prog 40 [.pointer (some ⟨bw, 0, none⟩), .string c, .int .i64 at_] w0 (.tuple [.int .i64 (rgetF own rows c at_).1, .int .i64 (rgetF own rows c at_).2].toArray) := by
  obtain ⟨q, cq, rfl⟩ := own_slice h.rows
  have hsh : rows.length = 0 ∨ ∃ g, q = some ⟨g, 0, none⟩ := by
    rcases h.rows.2 with ⟨e1, e2⟩ | ⟨g, cap, cur, e1, _⟩
    · exact .inl e2
    · injection e1 with e3; exact .inr ⟨g, e3⟩
  refine c_enter [(0, .pointer (some ⟨bw, 0, none⟩)), (1, .string c), (2, .int .i64 at_)] [refA bw own rows (.slice q rows.length cq) false] noB Try.func40 rfl Try.ntmps40 ⟨rfl, rfl, rfl, trivial⟩ rfl (okC (ref_ok false h) okN) dis1 (mineC (by rfl) mineN) ?_
  intro a hS
  refine c_seq ?_
  refine c_region ?_
  refine L_op (s_e hS (e_assign rfl) rfl ?_); clear hS a; intro a hS
  refine L_op (s_e hS (e_assign rfl) rfl ?_); clear hS a; intro a hS
  refine L_nil ?_
  refine n_then ?_
  refine c_seq ?_
  refine c_seq ?_
  refine c_region ?_
  refine L_op (s_e hS (e_move rfl) rfl ?_); clear hS a; intro a hS
  refine L_op (s_callP hS (.cons rfl .nil) cf38 rfl (xScale_P c _) ?_); clear hS a; (try clear w); intro a w hS
  refine L_op (s_e hS (e_bin rfl rfl rfl) rfl ?_); clear hS a; intro a hS
  refine L_nil ?_
  refine n_then ?_
  first | refine c_ifD hS rfl (fun hc12 => ?_) (fun hc12 => ?_) | refine c_if hS rfl (fun hc12 => ?_) (fun hc12 => ?_)
  ·
    refine c_seq ?_
    refine c_region ?_
    refine L_op (s_e hS (e_assign rfl) rfl ?_); clear hS a; intro a hS
    refine L_op (s_e hS (e_assign rfl) rfl ?_); clear hS a; intro a hS
    refine L_nil ?_
    refine n_then ?_
    refine wp_ret ?_
    refine r_then ?_
    refine c_retN hS Try.results40 (.cons (.tmp rfl) (.cons (.tmp rfl) .nil)) rfl ?_
    exact ⟨by rw [show rgetF own rows c at_ = (0, 18) from if_pos hc12], hS.chg⟩
  ·
    refine wp_skip ?_
    refine n_then ?_
    refine c_seq ?_
    refine c_seq ?_
    refine c_region ?_
    refine L_op (s_e hS (e_move rfl) rfl ?_); clear hS a; intro a hS
    refine L_op (s_callP hS (.cons rfl .nil) cf81 rfl (xInstant_P at_ _) ?_); clear hS a; (try clear w); intro a w hS
    refine L_op (s_e hS (e_not rfl) rfl ?_); clear hS a; intro a hS
    refine L_nil ?_
    refine n_then ?_
    first | refine c_ifD hS rfl (fun hc15 => ?_) (fun hc15 => ?_) | refine c_if hS rfl (fun hc15 => ?_) (fun hc15 => ?_)
    ·
      refine c_seq ?_
      refine c_region ?_
      refine L_op (s_e hS (e_assign rfl) rfl ?_); clear hS a; intro a hS
      refine L_op (s_e hS (e_assign rfl) rfl ?_); clear hS a; intro a hS
      refine L_nil ?_
      refine n_then ?_
      refine wp_ret ?_
      refine r_then ?_
      refine c_retN hS Try.results40 (.cons (.tmp rfl) (.cons (.tmp rfl) .nil)) rfl ?_
      exact ⟨by rw [show rgetF own rows c at_ = (0, 6) by unfold rgetF; rw [if_neg hc12, if_pos (by simpa using hc15)]], hS.chg⟩
    ·
      have hin : ¬ ¬ inst at_ := by simpa using hc15
      refine wp_skip ?_
      refine n_then ?_
      refine c_seq ?_
      refine c_seq ?_
      refine c_region ?_
      refine L_op (s_e hS (e_move rfl) rfl ?_); clear hS a; intro a hS
      refine L_op (s_e hS (e_move rfl) rfl ?_); clear hS a; intro a hS
      refine L_op (s_e hS (e_nilCheck rfl) rfl ?_); clear hS a; intro a hS
      first | (refine L_op (s_e hS (e_fa0 rfl ty_fo86_0) rfl ?_); clear hS a; intro a hS) | (refine L_op (s_e hS (e_faK rfl ty_fo86_0) rfl ?_); clear hS a; intro a hS)
      refine L_op (s_e hS (e_loadC rfl ty_sc9 (fun w hh => cell_of_blk (cs := [.string own, .slice q rows.length cq]) (hh (refA bw own rows (.slice q rows.length cq) false) (by repeat constructor)).bk rfl)) rfl ?_); clear hS a; intro a hS
      refine L_op (s_e hS (e_binS rfl rfl rfl) rfl ?_); clear hS a; intro a hS
      refine L_nil ?_
      refine n_then ?_
      first | refine c_ifD hS rfl (fun hc21 => ?_) (fun hc21 => ?_) | refine c_if hS rfl (fun hc21 => ?_) (fun hc21 => ?_)
      ·
        refine c_seq ?_
        refine c_region ?_
        refine L_op (s_e hS (e_assign rfl) rfl ?_); clear hS a; intro a hS
        refine L_op (s_e hS (e_assign rfl) rfl ?_); clear hS a; intro a hS
        refine L_nil ?_
        refine n_then ?_
        refine wp_ret ?_
        refine r_then ?_
        refine c_retN hS Try.results40 (.cons (.tmp rfl) (.cons (.tmp rfl) .nil)) rfl ?_
        exact ⟨by rw [show rgetF own rows c at_ = (1000000000, 0) by unfold rgetF; rw [if_neg hc12, if_neg hin, if_pos hc21]], hS.chg⟩
      ·
        refine wp_skip ?_
        refine n_then ?_
        refine c_seq ?_
        refine c_region ?_
        refine L_op (s_e hS (e_assign rfl) rfl ?_); clear hS a; intro a hS
        refine L_nil ?_
        refine n_then ?_
        refine c_seq ?_
        refine c_seq ?_
        refine c_region ?_
        refine L_op (s_e hS (e_assign rfl) rfl ?_); clear hS a; intro a hS
        refine L_nil ?_
        refine n_then ?_
        refine wp_block ?_
        skip
        refine c_loop (γ := Nat) (fun i a w => St 64 noB w0 a w [(9, .int .i64 (i : Int)), (8, .int .i64 (outF (rows.take i) c at_)), (0, .pointer (some ⟨bw, 0, none⟩)), (1, .string c), (2, .int .i64 at_)] [refA bw own rows (.slice q rows.length cq) false] ∧ i ≤ rows.length) (fun i => rows.length - i) 0 ⟨hS.slots (by repeat (first | exact trivial | refine ⟨rfl, ?_⟩)), Nat.zero_le _⟩ ?_
        clear hS a; (try clear w); intro i a w hI
        obtain ⟨hS, hi⟩ := hI
        refine c_seq ?_
        refine c_seq ?_
        refine c_region ?_
        refine L_op (s_e hS (e_move rfl) rfl ?_); clear hS a; intro a hS
        refine L_op (s_e hS (e_move rfl) rfl ?_); clear hS a; intro a hS
        refine L_op (s_e hS (e_nilCheck rfl) rfl ?_); clear hS a; intro a hS
        first | (refine L_op (s_e hS (e_fa0 rfl ty_fo86_1) rfl ?_); clear hS a; intro a hS) | (refine L_op (s_e hS (e_faK rfl ty_fo86_1) rfl ?_); clear hS a; intro a hS)
        refine L_op (s_e hS (e_loadC rfl ty_sc84 (fun w hh => cell_of_blk (cs := [.string own, .slice q rows.length cq]) (hh (refA bw own rows (.slice q rows.length cq) false) (by repeat constructor)).bk rfl)) rfl ?_); clear hS a; intro a hS
        refine L_op (s_e hS (e_len rfl rfl ty_sl84) rfl ?_); clear hS a; intro a hS
        refine L_op (s_e hS (e_bin rfl rfl rfl) rfl ?_); clear hS a; intro a hS
        refine L_nil ?_
        refine n_then ?_
        first | refine c_ifD hS rfl (fun hc28 => ?_) (fun hc28 => ?_) | refine c_if hS rfl (fun hc28 => ?_) (fun hc28 => ?_)
        ·
          have hil : i < rows.length := by omega
          obtain ⟨x, hx⟩ : ∃ x, rows[i]? = some x := ⟨rows[i], List.getElem?_eq_getElem hil⟩
          obtain ⟨g, rfl⟩ : ∃ g, q = some ⟨g, 0, none⟩ := hsh.resolve_left (by omega)
          have hrr : ∀ w, Hd [refA bw own rows (.slice (some ⟨g, 0, none⟩) rows.length cq) false] w → ∀ j v, (encR x)[j]? = some v → w.cell? ⟨g, 0 + i * 3 + j, none⟩ = some v := fun w hh j v hj => by
            have h1 : w.ownsRow 0 94 3 (.slice (some ⟨g, 0, none⟩) rows.length cq) rows.length (rows.flatMap encR) := (hh _ (.head _)).rows
            have h2 := flat_get encR 3 (fun _ => rfl) rows i x hx j v hj
            have h3 := World.ownsRow.cells h1 (g := g) rfl _ _ h2
            rw [addr_add] at h3
            rw [← h3]; congr 2; omega
          have hot := outF_take (c := c) (at_ := at_) hx
          refine wp_skip ?_
          refine n_then ?_
          refine c_seq ?_
          refine wp_block ?_
          refine c_seq ?_
          refine c_region ?_
          refine L_op (s_e hS (e_move rfl) rfl ?_); clear hS a; intro a hS
          refine L_op (s_e hS (e_nilCheck rfl) rfl ?_); clear hS a; intro a hS
          first | (refine L_op (s_e hS (e_fa0 rfl ty_fo86_1) rfl ?_); clear hS a; intro a hS) | (refine L_op (s_e hS (e_faK rfl ty_fo86_1) rfl ?_); clear hS a; intro a hS)
          refine L_op (s_e hS (e_loadC rfl ty_sc84 (fun w hh => cell_of_blk (cs := [.string own, .slice (some ⟨g, 0, none⟩) rows.length cq]) (hh (refA bw own rows (.slice (some ⟨g, 0, none⟩) rows.length cq) false) (by repeat constructor)).bk rfl)) rfl ?_); clear hS a; intro a hS
          refine L_op (s_e hS (e_move rfl) rfl ?_); clear hS a; intro a hS
          refine L_op (s_e hS (e_ixN rfl rfl ty_sl84 ty_sz94 (by omega)) rfl ?_); clear hS a; intro a hS
          first | (refine L_op (s_e hS (e_fa0 rfl ty_fo94_0) rfl ?_); clear hS a; intro a hS) | (refine L_op (s_e hS (e_faK rfl ty_fo94_0) rfl ?_); clear hS a; intro a hS)
          refine L_op (s_e hS (e_loadC rfl ty_sc9 (fun w hh => hrr w hh 0 (.string x.1) rfl)) rfl ?_); clear hS a; intro a hS
          refine L_op (s_e hS (e_move rfl) rfl ?_); clear hS a; intro a hS
          refine L_op (s_e hS (e_binS rfl rfl rfl) rfl ?_); clear hS a; intro a hS
          refine L_op (s_e hS (e_move rfl) rfl ?_); clear hS a; intro a hS
          refine L_merge 11 52 (.bool (decide (x.1 = c ∧ x.2.1 ≤ at_))) hS ?_ ?_
          · intro hcM52
            (first | refine g_splitD (t := 41) hS rfl ?_ ?_ | refine g_split (t := 41) hS rfl ?_ ?_) <;> (clear hS; intro hg41 hS)
            ·
              refine L_go hS rfl rfl (s_e hS (e_move rfl) rfl ?_); clear hS a; intro a hS
              refine L_go hS rfl rfl (s_e hS (e_nilCheck rfl) rfl ?_); clear hS a; intro a hS
              first | (refine L_go hS rfl rfl (s_e hS (e_fa0 rfl ty_fo86_1) rfl ?_); clear hS a; intro a hS) | (refine L_go hS rfl rfl (s_e hS (e_faK rfl ty_fo86_1) rfl ?_); clear hS a; intro a hS)
              refine L_go hS rfl rfl (s_e hS (e_loadC rfl ty_sc84 (fun w hh => cell_of_blk (cs := [.string own, .slice (some ⟨g, 0, none⟩) rows.length cq]) (hh (refA bw own rows (.slice (some ⟨g, 0, none⟩) rows.length cq) false) (by repeat constructor)).bk rfl)) rfl ?_); clear hS a; intro a hS
              refine L_go hS rfl rfl (s_e hS (e_move rfl) rfl ?_); clear hS a; intro a hS
              refine L_go hS rfl rfl (s_e hS (e_ixN rfl rfl ty_sl84 ty_sz94 (by omega)) rfl ?_); clear hS a; intro a hS
              first | (refine L_go hS rfl rfl (s_e hS (e_fa0 rfl ty_fo94_1) rfl ?_); clear hS a; intro a hS) | (refine L_go hS rfl rfl (s_e hS (e_faK rfl ty_fo94_1) rfl ?_); clear hS a; intro a hS)
              refine L_go hS rfl rfl (s_e hS (e_loadC rfl ty_sc3 (fun w hh => hrr w hh 1 (.int .i64 x.2.1) rfl)) rfl ?_); clear hS a; intro a hS
              refine L_go hS rfl rfl (s_e hS (e_move rfl) rfl ?_); clear hS a; intro a hS
              refine L_go hS rfl rfl (s_e hS (e_bin rfl rfl rfl) rfl ?_); clear hS a; intro a hS
              first | (refine L_op (s_e hS (e_pick_t rfl rfl) rfl ?_); clear hS a; intro a hS) | (refine L_op (s_e hS (e_pick_f rfl rfl) rfl ?_); clear hS a; intro a hS)
              exact hcM52 _ _ (hS.ends 12 52 41 rfl (congrArg Value.bool (by first | rfl | (simp [hg41]; done) | (simp [hg41]; omega) | grind)) rfl rfl (by first | exact congrArg Value.bool (decide_eq_true hg41).symm | exact congrArg Value.bool hg41.symm | simp [hg41]) rfl)
            ·
              refine L_skip_t hS rfl rfl rfl ?_; clear hS a; intro a hS
              refine L_skip_t hS rfl rfl rfl ?_; clear hS a; intro a hS
              refine L_skip_t hS rfl rfl rfl ?_; clear hS a; intro a hS
              refine L_skip_t hS rfl rfl rfl ?_; clear hS a; intro a hS
              refine L_skip_t hS rfl rfl rfl ?_; clear hS a; intro a hS
              refine L_skip_t hS rfl rfl rfl ?_; clear hS a; intro a hS
              refine L_skip_t hS rfl rfl rfl ?_; clear hS a; intro a hS
              refine L_skip_t hS rfl rfl rfl ?_; clear hS a; intro a hS
              refine L_skip_t hS rfl rfl rfl ?_; clear hS a; intro a hS
              refine L_skip_t hS rfl rfl rfl ?_; clear hS a; intro a hS
              first | (refine L_op (s_e hS (e_pick_t rfl rfl) rfl ?_); clear hS a; intro a hS) | (refine L_op (s_e hS (e_pick_f rfl rfl) rfl ?_); clear hS a; intro a hS)
              exact hcM52 _ _ (hS.ends 12 52 41 rfl (congrArg Value.bool (by first | rfl | (simp [hg41]; done) | (simp [hg41]; omega) | grind)) rfl rfl (by first | exact congrArg Value.bool (decide_eq_false hg41).symm | exact congrArg Value.bool hg41.symm | simp [hg41]) rfl)
          · clear hS a; (try clear w); intro a w hS
            simp only [List.drop_succ_cons, List.drop_zero]
            refine L_nil ?_
            refine n_then ?_
            first | refine c_ifD hS rfl (fun hc52 => ?_) (fun hc52 => ?_) | refine c_if hS rfl (fun hc52 => ?_) (fun hc52 => ?_)
            ·
              refine c_region ?_
              refine L_op (s_e hS (e_move rfl) rfl ?_); clear hS a; intro a hS
              refine L_op (s_e hS (e_nilCheck rfl) rfl ?_); clear hS a; intro a hS
              first | (refine L_op (s_e hS (e_fa0 rfl ty_fo86_1) rfl ?_); clear hS a; intro a hS) | (refine L_op (s_e hS (e_faK rfl ty_fo86_1) rfl ?_); clear hS a; intro a hS)
              refine L_op (s_e hS (e_loadC rfl ty_sc84 (fun w hh => cell_of_blk (cs := [.string own, .slice (some ⟨g, 0, none⟩) rows.length cq]) (hh (refA bw own rows (.slice (some ⟨g, 0, none⟩) rows.length cq) false) (by repeat constructor)).bk rfl)) rfl ?_); clear hS a; intro a hS
              refine L_op (s_e hS (e_move rfl) rfl ?_); clear hS a; intro a hS
              refine L_op (s_e hS (e_ixN rfl rfl ty_sl84 ty_sz94 (by omega)) rfl ?_); clear hS a; intro a hS
              first | (refine L_op (s_e hS (e_fa0 rfl ty_fo94_2) rfl ?_); clear hS a; intro a hS) | (refine L_op (s_e hS (e_faK rfl ty_fo94_2) rfl ?_); clear hS a; intro a hS)
              refine L_op (s_e hS (e_loadC rfl ty_sc3 (fun w hh => hrr w hh 2 (.int .i64 x.2.2) rfl)) rfl ?_); clear hS a; intro a hS
              refine L_op (s_e hS (e_assign rfl) rfl ?_); clear hS a; intro a hS
              refine L_nil ?_
              refine n_block ?_
              refine n_then ?_
              refine c_region ?_
              refine L_op (s_e hS (e_move rfl) rfl ?_); clear hS a; intro a hS
              first | (refine L_op (s_e hS (e_binN rfl rfl rfl (by omega)) rfl ?_); clear hS a; intro a hS) | (refine L_op (s_e hS (e_bin rfl rfl rfl) rfl ?_); clear hS a; intro a hS)
              refine L_op (s_e hS (e_assign rfl) rfl ?_); clear hS a; intro a hS
              refine L_nil ?_
              first
              | (rw [if_pos hc52] at hot; exact ⟨i + 1, by omega, by rw [hot]; exact hS.slots (by repeat (first | exact trivial | refine ⟨rfl, ?_⟩)), by omega⟩)
              | (rw [if_neg hc52] at hot; exact ⟨i + 1, by omega, by rw [hot]; exact hS.slots (by repeat (first | exact trivial | refine ⟨rfl, ?_⟩)), by omega⟩)
            ·
              refine wp_skip ?_
              refine n_block ?_
              refine n_then ?_
              refine c_region ?_
              refine L_op (s_e hS (e_move rfl) rfl ?_); clear hS a; intro a hS
              first | (refine L_op (s_e hS (e_binN rfl rfl rfl (by omega)) rfl ?_); clear hS a; intro a hS) | (refine L_op (s_e hS (e_bin rfl rfl rfl) rfl ?_); clear hS a; intro a hS)
              refine L_op (s_e hS (e_assign rfl) rfl ?_); clear hS a; intro a hS
              refine L_nil ?_
              first
              | (rw [if_pos hc52] at hot; exact ⟨i + 1, by omega, by rw [hot]; exact hS.slots (by repeat (first | exact trivial | refine ⟨rfl, ?_⟩)), by omega⟩)
              | (rw [if_neg hc52] at hot; exact ⟨i + 1, by omega, by rw [hot]; exact hS.slots (by repeat (first | exact trivial | refine ⟨rfl, ?_⟩)), by omega⟩)
        ·
          obtain rfl : i = rows.length := by omega
          rw [List.take_length] at hS
          refine wp_exit ?_
          refine x_then (x_then (x_hit ?_))
          refine n_then ?_
          refine c_seq ?_
          refine c_seq ?_
          refine c_region ?_
          refine L_op (s_e hS (e_move rfl) rfl ?_); clear hS a; intro a hS
          refine L_op (s_e hS (e_bin rfl rfl rfl) rfl ?_); clear hS a; intro a hS
          refine L_nil ?_
          refine n_then ?_
          first | refine c_ifD hS rfl (fun hc62 => ?_) (fun hc62 => ?_) | refine c_if hS rfl (fun hc62 => ?_) (fun hc62 => ?_)
          ·
            refine c_seq ?_
            refine c_region ?_
            refine L_op (s_e hS (e_assign rfl) rfl ?_); clear hS a; intro a hS
            refine L_op (s_e hS (e_assign rfl) rfl ?_); clear hS a; intro a hS
            refine L_nil ?_
            refine n_then ?_
            refine wp_ret ?_
            refine r_then ?_
            refine c_retN hS Try.results40 (.cons (.tmp rfl) (.cons (.tmp rfl) .nil)) rfl ?_
            exact ⟨by rw [show rgetF own rows c at_ = (0, 28) by unfold rgetF; rw [if_neg hc12, if_neg hin, if_neg hc21, if_pos hc62]], hS.chg⟩
          ·
            refine wp_skip ?_
            refine n_then ?_
            refine c_seq ?_
            refine c_region ?_
            refine L_op (s_e hS (e_move rfl) rfl ?_); clear hS a; intro a hS
            refine L_op (s_e hS (e_assign rfl) rfl ?_); clear hS a; intro a hS
            refine L_op (s_e hS (e_assign rfl) rfl ?_); clear hS a; intro a hS
            refine L_nil ?_
            refine n_then ?_
            refine wp_ret ?_
            refine c_retN hS Try.results40 (.cons (.tmp rfl) (.cons (.tmp rfl) .nil)) rfl ?_
            exact ⟨by rw [show rgetF own rows c at_ = (outF rows c at_, 0) by unfold rgetF; rw [if_neg hc12, if_neg hin, if_neg hc21, if_neg hc62]], hS.chg⟩
def rworthF (own : ByteArray) (rows : List RR) (u : Int) (c : ByteArray) (at_ : Int) : Int × Int :=
  if checkF u c ≠ 0 then (0, checkF u c) else if (rgetF own rows c at_).2 ≠ 0 then (0, (rgetF own rows c at_).2) else convF u (rgetF own rows c at_).1
theorem worth_eq {l : L2} {n : Int} {rows : List RR} (h : relF l n rows) (hb : nanoOK l) (own : ByteArray) (u : Int) (c : ByteArray) (at_ : Int) : worthF own l u c at_ = rworthF own rows u c at_ := by
  unfold worthF rworthF
  rw [get_eq h hb own c at_]
set_option maxRecDepth 100000 in
theorem rWorth_P (bw : Nat) (own c : ByteArray) (rows : List RR) (v : Value) (u at_ : Int) (hlen : rows.length ≤ 1000000) (w0 : World) (h : refφ bw own rows v w0) :
    PureC Try.prog 41 [.pointer (some ⟨bw, 0, none⟩), .agg [.int .i64 u, .string c].toArray, .int .i64 at_] w0 (.tuple [.int .i64 (rworthF own rows u c at_).1, .int .i64 (rworthF own rows u c at_).2].toArray) := by
  refine c_enter [(0, .pointer (some ⟨bw, 0, none⟩)), (1, .agg [.int .i64 u, .string c].toArray), (2, .int .i64 at_)] [refA bw own rows v false] noB Try.func41 rfl Try.ntmps41 ⟨rfl, rfl, rfl, trivial⟩ rfl (okC (ref_ok false h) okN) dis1 (mineC (by rfl) mineN) ?_
  intro a hS
  refine c_seq ?_
  refine c_region ?_
  refine L_op (s_boxA hS rfl rfl ?_); clear hS a; (try clear w); intro a w b4 hS
  refine L_op (s_e hS (e_assign rfl) rfl ?_); clear hS a; intro a hS
  refine L_op (s_e hS (e_assign rfl) rfl ?_); clear hS a; intro a hS
  refine L_nil ?_
  refine n_then ?_
  refine c_seq ?_
  refine c_region ?_
  refine L_op (s_e hS (e_loadA rfl (by repeat constructor) ty_st90 ty_sz90 (by rfl)) rfl ?_); clear hS a; intro a hS
  refine L_op (s_callP hS (.cons rfl .nil) cf82 rfl (xCheck6_P u c _) ?_); clear hS a; (try clear w); intro a w hS
  refine L_op (s_e hS (e_assign rfl) rfl ?_); clear hS a; intro a hS
  refine L_nil ?_
  refine n_then ?_
  refine c_seq ?_
  refine c_seq ?_
  refine c_region ?_
  refine L_op (s_e hS (e_move rfl) rfl ?_); clear hS a; intro a hS
  refine L_op (s_e hS (e_bin rfl rfl rfl) rfl ?_); clear hS a; intro a hS
  refine L_nil ?_
  refine n_then ?_
  first | refine c_ifD hS rfl (fun hc14 => ?_) (fun hc14 => ?_) | refine c_if hS rfl (fun hc14 => ?_) (fun hc14 => ?_)
  ·
    refine c_seq ?_
    refine c_region ?_
    refine L_op (s_e hS (e_move rfl) rfl ?_); clear hS a; intro a hS
    refine L_op (s_e hS (e_assign rfl) rfl ?_); clear hS a; intro a hS
    refine L_op (s_e hS (e_assign rfl) rfl ?_); clear hS a; intro a hS
    refine L_nil ?_
    refine n_then ?_
    refine wp_ret ?_
    refine r_then ?_
    refine c_retN hS Try.results41 (.cons (.tmp rfl) (.cons (.tmp rfl) .nil)) rfl ?_
    exact ⟨by rw [show rworthF own rows u c at_ = (0, checkF u c) from if_pos hc14], hS.chg⟩
  ·
    refine wp_skip ?_
    refine n_then ?_
    refine c_seq ?_
    refine c_region ?_
    refine L_op (s_e hS (e_move rfl) rfl ?_); clear hS a; intro a hS
    first | (refine L_op (s_e hS (e_fa0 rfl ty_fo90_1) rfl ?_); clear hS a; intro a hS) | (refine L_op (s_e hS (e_faK rfl ty_fo90_1) rfl ?_); clear hS a; intro a hS)
    refine L_op (s_e hS (e_load rfl (by repeat constructor) ty_sc9 (by rfl)) rfl ?_); clear hS a; intro a hS
    refine L_op (s_e hS (e_move rfl) rfl ?_); clear hS a; intro a hS
    refine L_op (s_callP hS (.cons rfl (.cons rfl (.cons rfl .nil))) cf40 rfl (rGet_P bw own c rows v at_ hlen _ (hS.get (X := refA bw own rows v false) (by repeat constructor))) ?_); clear hS a; (try clear w); intro a w hS
    refine L_op (s_e hS (e_move rfl) rfl ?_); clear hS a; intro a hS
    refine L_op (s_e hS (e_extract rfl rfl) rfl ?_); clear hS a; intro a hS
    refine L_op (s_e hS (e_extract rfl rfl) rfl ?_); clear hS a; intro a hS
    refine L_op (s_e hS (e_assign rfl) rfl ?_); clear hS a; intro a hS
    refine L_op (s_e hS (e_assign rfl) rfl ?_); clear hS a; intro a hS
    refine L_nil ?_
    refine n_then ?_
    refine c_seq ?_
    refine c_seq ?_
    refine c_region ?_
    refine L_op (s_e hS (e_move rfl) rfl ?_); clear hS a; intro a hS
    refine L_op (s_e hS (e_bin rfl rfl rfl) rfl ?_); clear hS a; intro a hS
    refine L_nil ?_
    refine n_then ?_
    first | refine c_ifD hS rfl (fun hc25 => ?_) (fun hc25 => ?_) | refine c_if hS rfl (fun hc25 => ?_) (fun hc25 => ?_)
    ·
      refine c_seq ?_
      refine c_region ?_
      refine L_op (s_e hS (e_move rfl) rfl ?_); clear hS a; intro a hS
      refine L_op (s_e hS (e_assign rfl) rfl ?_); clear hS a; intro a hS
      refine L_op (s_e hS (e_assign rfl) rfl ?_); clear hS a; intro a hS
      refine L_nil ?_
      refine n_then ?_
      refine wp_ret ?_
      refine r_then ?_
      refine c_retN hS Try.results41 (.cons (.tmp rfl) (.cons (.tmp rfl) .nil)) rfl ?_
      exact ⟨by rw [show rworthF own rows u c at_ = (0, (rgetF own rows c at_).2) by unfold rworthF; rw [if_neg hc14, if_pos hc25]], hS.chg⟩
    ·
      refine wp_skip ?_
      refine n_then ?_
      refine c_seq ?_
      refine c_region ?_
      first | (refine L_op (s_e hS (e_fa0 rfl ty_fo90_0) rfl ?_); clear hS a; intro a hS) | (refine L_op (s_e hS (e_faK rfl ty_fo90_0) rfl ?_); clear hS a; intro a hS)
      refine L_op (s_e hS (e_load rfl (by repeat constructor) ty_sc3 (by rfl)) rfl ?_); clear hS a; intro a hS
      refine L_op (s_e hS (e_move rfl) rfl ?_); clear hS a; intro a hS
      refine L_op (s_callP hS (.cons rfl (.cons rfl .nil)) cf36 rfl (xConv_P u (rgetF own rows c at_).1 _) ?_); clear hS a; (try clear w); intro a w hS
      refine L_op (s_e hS (e_extract rfl rfl) rfl ?_); clear hS a; intro a hS
      refine L_op (s_e hS (e_extract rfl rfl) rfl ?_); clear hS a; intro a hS
      refine L_op (s_e hS (e_assign rfl) rfl ?_); clear hS a; intro a hS
      refine L_op (s_e hS (e_assign rfl) rfl ?_); clear hS a; intro a hS
      refine L_nil ?_
      refine n_then ?_
      refine wp_ret ?_
      refine c_retN hS Try.results41 (.cons (.tmp rfl) (.cons (.tmp rfl) .nil)) rfl ?_
      exact ⟨by rw [show rworthF own rows u c at_ = convF u (rgetF own rows c at_).1 by unfold rworthF; rw [if_neg hc14, if_neg hc25]], hS.chg⟩
end Go.Proofs.Ytheofhegdjjfgaa

namespace Go.Proofs.Ytheofhegdjjfgaa
open Go.RowKit

set_option maxRecDepth 100000 in
theorem KeysFx_P (m : Nat) (w0 : World) : NewC Try.prog 83 [.map (some m)] w0 (fun b : Nat => .func (.func 109) #[] [.pointer (some ⟨b, 0, none⟩)].toArray) (fun b => .blk b [.map (some m)] 112) := by
  refine c_enter [(0, .map (some m))] [] noB Try.func83 rfl Try.ntmps83 ⟨rfl, trivial⟩ rfl (by simp) (by simp) (by simp) ?_
  intro a hS
  refine c_seq ?_
  refine c_region ?_
  obtain ⟨b1, hb1⟩ : ∃ b, b = w0.heap.size := ⟨_, rfl⟩
  refine L_op (s_box1 hS rfl rfl rfl ?_); clear hS a; intro a w b1 hS
  refine L_op (s_e hS (e_assign rfl) rfl ?_); clear hS a; intro a hS
  refine L_nil ?_
  refine n_then ?_
  refine c_seq ?_
  refine c_region ?_
  refine L_op (s_e hS (e_makeFunc .nil (.cons rfl .nil)) rfl ?_); clear hS a; intro a hS
  refine L_op (s_e hS (e_assign rfl) rfl ?_); clear hS a; intro a hS
  refine L_nil ?_
  refine n_then ?_
  refine wp_ret ?_
  refine c_ret1 hS Try.results83 (.tmp rfl) ?_
  exact ⟨b1, rfl, hS.chg, hS.new (.head _) rfl⟩
theorem str_get {Γ : List Asn} {g c m : Nat} {xs : List ByteArray} (hm : strA (.slice (some ⟨g, 0, none⟩) m c) xs ∈ Γ) {i : Nat} {x : ByteArray} (hx : xs[i]? = some x) : ∀ w, Hd Γ w → w.cell? ⟨g, 0 + i * 1, none⟩ = some (.string x) := fun w hh => by
  have h : w.ownsRow 0 9 1 (.slice (some ⟨g, 0, none⟩) m c) xs.length (xs.map .string) := hh _ hm
  have h1 : (xs.map Value.string)[i]? = some (.string x) := by rw [List.getElem?_map, hx]; rfl
  have h2 := World.ownsRow.cells h (g := g) rfl _ _ h1
  rw [addr_add] at h2
  rw [← h2]; congr 2; omega
def pieceF (l : L2) (c : ByteArray) : List RR := (rowsOf l c).map fun x => (c, x.1, x.2)
def preF (l : L2) (ks : List ByteArray) (i : Nat) : List RR := (ks.take i).flatMap (pieceF l)
theorem preF_succ {l : L2} {ks : List ByteArray} {i : Nat} {c : ByteArray} (h : ks[i]? = some c) : preF l ks (i + 1) = preF l ks i ++ pieceF l c := by
  unfold preF; rw [List.take_add_one, h, List.flatMap_append]; simp
theorem piece_enc (l : L2) (c : ByteArray) : (pieceF l c).flatMap encR = (rowsOf l c).flatMap (encT c) := by
  unfold pieceF; rw [List.flatMap_map]; rfl
set_option maxRecDepth 100000 in
theorem fxList_P (bk mb : Nat) (own : ByteArray) (es : List RA) (n : Int) (hes : es.length ≤ 500) (w0 : World) (h : ratesφ bk mb own es n w0) :
     NewC Try.prog 42 [.pointer (some ⟨bk, 0, none⟩)] w0 (fun v : Value => v) (fun v => ownA 93 3 v (listF (vsT es)).length ((listF (vsT es)).flatMap encR)) := by
   have hkm : keysM (entT es) = (vsT es).map (·.1) := by simp [keysM, entT, vsT, Function.comp_def]
   have hel : (entT es).length = es.length := entT_len es
   refine c_enter [(0, .pointer (some ⟨bk, 0, none⟩))] [ratesA bk mb own es n false] noB Try.func42 rfl Try.ntmps42 ⟨rfl, trivial⟩ rfl (okC (rates_ok false h) okN) dis1 (mineC (by rfl) mineN) ?_
   intro a hS
   refine c_seq ?_
   refine c_region ?_
   refine L_op (s_e hS (e_assign rfl) rfl ?_); clear hS a; intro a hS
   refine L_nil ?_
   refine n_then ?_
   refine c_seq ?_
   refine c_region ?_
   refine L_op (s_e hS (e_assign rfl) rfl ?_); clear hS a; intro a hS
   refine L_nil ?_
   refine n_then ?_
   refine c_seq ?_
   refine c_seq ?_
   refine c_region ?_
   refine L_op (s_e hS (e_move rfl) rfl ?_); clear hS a; intro a hS
   refine L_op (s_e hS (e_nilCheck rfl) rfl ?_); clear hS a; intro a hS
   first | (refine L_op (s_e hS (e_fa0 rfl ty_fo114_1) rfl ?_); clear hS a; intro a hS) | (refine L_op (s_e hS (e_faK rfl ty_fo114_1) rfl ?_); clear hS a; intro a hS)
   refine L_op (s_e hS (e_loadC rfl ty_sc112 (fun w hh => cell_of_blk (cs := [.string own, .map (some mb), .int .i64 n]) (hh (ratesA bk mb own es n false) (by repeat constructor)).bk rfl)) rfl ?_); clear hS a; intro a hS
   refine L_op (s_callN hS (.cons rfl .nil) cf83 rfl (KeysFx_P mb _) ?_); clear hS a; (try clear w); intro x10 a w hS
   refine L_op (s_callN hS (.cons rfl .nil) cf72 rfl (SortedS_P cf109 (N := (entT es).length) (by omega) (fun xs hx => by rw [hx.length_eq]; simp [keysM]) (keysA x10 mb 112 (entT es)) rfl (Keys_Fx_seq x10 mb (entT es)) _ (keys_ok ⟨hS.get (X := .blk x10 [.map (some mb)] 112) (by repeat constructor), (hS.get (X := ratesA bk mb own es n false) (by repeat constructor)).mp⟩)) ?_); clear hS a; (try clear w); intro x11 a w hS
   obtain ⟨⟨v11, ks⟩, xs, hxs, hks⟩ := x11
   simp only at hks hS
   have hk2 : ks = srt (keysM (entT es)) := by rw [hks]; exact srt_perm hxs
   have hkl : ks.length = es.length := by rw [hk2, srt_len]; simp [keysM, hel]
   obtain ⟨q11, c11, rfl⟩ := own_slice (hS.get (X := strA v11 ks) (by repeat constructor))
   have hsh : ks.length = 0 ∨ ∃ g, q11 = some ⟨g, 0, none⟩ := by
     have h0 : World.ownsRow w 0 9 1 (.slice q11 ks.length c11) ks.length (ks.map .string) := hS.get (X := strA (.slice q11 ks.length c11) ks) (by repeat constructor)
     rcases h0.2 with ⟨e1, e2⟩ | ⟨g, cap, cur, e1, _⟩
     · exact .inl e2
     · injection e1 with e3; exact .inr ⟨g, e3⟩
   refine L_op (s_e hS (e_len rfl rfl ty_sl142) rfl ?_); clear hS a; intro a hS
   refine L_op (s_e hS (e_move rfl) rfl ?_); clear hS a; intro a hS
   refine L_nil ?_
   refine n_then ?_
   refine wp_block ?_
   replace hS := hS.own_nil 93 3
   refine c_loop (γ := Nat × Value) (fun G a w => St 27 noB w0 a w [(13, .int .i64 (G.1 : Int)), (12, .int .i64 (ks.length : Int)), (11, .slice q11 ks.length c11), (3, G.2), (0, .pointer (some ⟨bk, 0, none⟩))] [ownA 93 3 G.2 (preF (vsT es) ks G.1).length ((preF (vsT es) ks G.1).flatMap encR), strA (.slice q11 ks.length c11) ks, ratesA bk mb own es n false] ∧ G.1 ≤ ks.length ∧ (preF (vsT es) ks G.1).length ≤ G.1 * 500) (fun G => ks.length - G.1) (0, .slice none 0 0) ⟨(hS.slots (by repeat (first | exact trivial | refine ⟨rfl, ?_⟩))).pick (by repeat (first | exact Pick.nil | (refine Pick.cons (by repeat (first | exact Rem.head | apply Rem.tail)) ?_))), Nat.zero_le _, Nat.le_refl _⟩ ?_
   clear hS a; (try clear w); intro G a w hI
   obtain ⟨i, out⟩ := G
   obtain ⟨hS, hi, hpl⟩ := hI
   simp only at hS hi hpl
   refine c_seq ?_
   refine c_region ?_
   refine L_op (s_e hS (e_bin rfl rfl rfl) rfl ?_); clear hS a; intro a hS
   refine L_nil ?_
   refine n_then ?_
   refine c_seq ?_
   first | refine c_ifD hS rfl (fun hc14 => ?_) (fun hc14 => ?_) | refine c_if hS rfl (fun hc14 => ?_) (fun hc14 => ?_)
   ·
     have hik : i < ks.length := by omega
     obtain ⟨c, hx⟩ : ∃ c, ks[i]? = some c := ⟨ks[i], List.getElem?_eq_getElem hik⟩
     obtain ⟨g, rfl⟩ : ∃ g, q11 = some ⟨g, 0, none⟩ := hsh.resolve_left (by omega)
     have hps := preF_succ (l := vsT es) hx
     obtain ⟨e, hec, hlk, hro, hrow, heF, hel2⟩ := cur_at (c := c) (hS.get (X := ratesA bk mb own es n false) (by repeat constructor))
     obtain ⟨q23, c23, hev⟩ := own_slice hrow
     have hpe := piece_enc (vsT es) c
     have hpc : (pieceF (vsT es) c).length = e.rows.length := by unfold pieceF; rw [List.length_map, hro]
     have hi500 : i ≤ 500 := by omega
     refine wp_skip ?_
     refine n_then ?_
     refine c_seq ?_
     refine wp_block ?_
     refine c_seq ?_
     refine c_region ?_
     refine L_op (s_e hS (e_ixN rfl rfl ty_sl142 ty_sz9 (by omega)) rfl ?_); clear hS a; intro a hS
     refine L_op (s_e hS (e_loadC rfl ty_sc9 (str_get (by repeat constructor) hx)) rfl ?_); clear hS a; intro a hS
     refine L_op (s_e hS (e_assign rfl) rfl ?_); clear hS a; intro a hS
     refine L_nil ?_
     refine n_then ?_
     refine c_region ?_
     refine L_op (s_e hS (e_move rfl) rfl ?_); clear hS a; intro a hS
     refine L_op (s_e hS (e_move rfl) rfl ?_); clear hS a; intro a hS
     refine L_op (s_e hS (e_nilCheck rfl) rfl ?_); clear hS a; intro a hS
     first | (refine L_op (s_e hS (e_fa0 rfl ty_fo114_1) rfl ?_); clear hS a; intro a hS) | (refine L_op (s_e hS (e_faK rfl ty_fo114_1) rfl ?_); clear hS a; intro a hS)
     refine L_op (s_e hS (e_loadC rfl ty_sc112 (fun w hh => cell_of_blk (cs := [.string own, .map (some mb), .int .i64 n]) (hh (ratesA bk mb own es n false) (by repeat constructor)).bk rfl)) rfl ?_); clear hS a; intro a hS
     refine L_op (s_e hS (e_move rfl) rfl ?_); clear hS a; intro a hS
     refine L_op (s_e hS (e_lookupC rfl rfl ty_mp112 ty_u9 ty_zv91 (fun w hh => (hh (ratesA bk mb own es n false) (by repeat constructor)).mp)) rfl ?_); clear hS a; intro a hS
     rw [hlk, hev] at hS
     refine L_op (s_appendQ hS rfl rfl ty_sl91 ty_sz93 ty_by93 ty_z93 rfl rfl rfl (by repeat constructor) (ys := (pieceF (vsT es) c).flatMap encR) (by rw [hpe, hro, flat_len (encT c) 3 (fun _ => rfl)]) (by
 have hrr : w.ownsRow 0 93 3 (.slice q23 e.rows.length c23) e.rows.length (e.rows.flatMap (encT c)) := by
   have h1 : w.ownsRow 0 93 3 e.v e.rows.length (e.rows.flatMap (encT e.cur)) := hrow
   rw [hev, hec] at h1
   exact h1
 have h2 := own_head (k := e.rows.length) hrr (fun _ => rfl) (Nat.le_refl _)
 rw [List.take_length] at h2
 rw [hpe, hro]; exact h2) (fun u hu => by
 rw [hpe] at hu
 obtain ⟨y, _, hy⟩ := List.mem_flatMap.1 hu
 simp [encT] at hy
 rcases hy with rfl | rfl | rfl <;> rfl) (by omega) (fun _ => (by repeat constructor)) ?_); clear hS a; (try clear w); intro v24 a w hv24 hS
     refine L_op (s_e hS (e_assign rfl) rfl ?_); clear hS a; intro a hS
     refine L_nil ?_
     refine n_block ?_
     refine n_then ?_
     refine c_region ?_
     first | (refine L_op (s_e hS (e_binN rfl rfl rfl (by omega)) rfl ?_); clear hS a; intro a hS) | (refine L_op (s_e hS (e_bin rfl rfl rfl) rfl ?_); clear hS a; intro a hS)
     refine L_op (s_e hS (e_move rfl) rfl ?_); clear hS a; intro a hS
     refine L_nil ?_
     have e1 : (preF (vsT es) ks (i + 1)).length = (preF (vsT es) ks i).length + e.rows.length := by rw [hps, List.length_append, hpc]
     have e2 : (preF (vsT es) ks (i + 1)).flatMap encR = (preF (vsT es) ks i).flatMap encR ++ (pieceF (vsT es) c).flatMap encR := by rw [hps, List.flatMap_append]
     refine ⟨(i + 1, v24), by simp only; omega, ?_, by simp only; omega, by simp only; omega⟩
     simp only
     rw [e1, e2]
     exact (hS.slots (by repeat (first | exact trivial | refine ⟨rfl, ?_⟩))).pick (by repeat (first | exact Pick.nil | (refine Pick.cons (by repeat (first | exact Rem.head | apply Rem.tail)) ?_)))
   ·
     obtain rfl : i = ks.length := by omega
     have hall : preF (vsT es) ks ks.length = listF (vsT es) := by
       unfold preF listF pieceF
       rw [List.take_length, hk2, hkm]
     rw [hall] at hS
     refine wp_exit ?_
     refine x_then (x_then (x_hit ?_))
     refine n_then ?_
     refine c_seq ?_
     refine c_region ?_
     refine L_op (s_e hS (e_move rfl) rfl ?_); clear hS a; intro a hS
     refine L_op (s_e hS (e_assign rfl) rfl ?_); clear hS a; intro a hS
     refine L_nil ?_
     refine n_then ?_
     refine wp_ret ?_
     refine c_ret1 hS Try.results42 (.tmp rfl) ?_
     exact ⟨out, rfl, hS.chg, hS.new (X := ownA 93 3 out (listF (vsT es)).length ((listF (vsT es)).flatMap encR)) (by repeat constructor) rfl⟩
end Go.Proofs.Ytheofhegdjjfgaa

namespace Go.Proofs.Ytheofhegdjjfgaa
open Go.RowKit

set_option maxHeartbeats 1000000 in
set_option maxRecDepth 100000 in
theorem FxRates_no (own : ByteArray) (p : Option (Nat × Nat)) (c : Nat) (l : List RR) (hlen : l.length ≤ 4611686018427387904) (hfit : ∀ x ∈ l, rrFits x) (u : Int) (ac : ByteArray) (at_ units nano : Int) (hun : -9223372036854775808 ≤ units ∧ units ≤ 9223372036854775807) (hna : -9223372036854775808 ≤ nano ∧ nano ≤ 9223372036854775807)
    (w0 : World) (h : RowP p 3 (l.map encR) w0) (hb : ∀ q, p = some q → q.1 < w0.heap.size) (hsc : (scaleR own).2 ≠ 0) :
    PureC Try.prog 10 [.string own, sliceV p l.length c, .agg [.int .i64 u, .string ac].toArray, .int .i64 at_, .int .i64 units, .int .i64 nano] w0 (.bool true) := by
  have hrs := (refS_neg own).2 hsc
  refine c_enter [(0, .string own), (1, sliceV p l.length c), (2, .agg [.int .i64 u, .string ac].toArray), (3, .int .i64 at_), (4, .int .i64 units), (5, .int .i64 nano)] [rowP p 3 (l.map encR)] noB Try.func10 rfl Try.ntmps10 ⟨rfl, rfl, rfl, rfl, rfl, rfl, trivial⟩ rfl (okC (ok_rowP h hb) okN) dis1 (mineC (by rfl) mineN) ?_
  intro a hS
  refine c_seq ?_
  refine c_region ?_
  refine L_op (s_boxA hS rfl rfl ?_); clear hS a; (try clear w); intro a w b8 hS
  refine L_op (s_e hS (e_assign rfl) rfl ?_); clear hS a; intro a hS
  refine L_nil ?_
  refine n_then ?_
  refine c_seq ?_
  refine c_region ?_
  refine L_op (s_callP hS .nil cf12 rfl (fxfirst_P _) ?_); clear hS a; (try clear w); intro a w hS
  refine L_op (s_e hS (e_assign rfl) rfl ?_); clear hS a; intro a hS
  refine L_nil ?_
  refine n_then ?_
  refine c_seq ?_
  refine c_region ?_
  refine L_op (s_e hS (e_move rfl) rfl ?_); clear hS a; intro a hS
  refine L_op (s_callP hS (.cons rfl .nil) cf13 rfl (fxfew_P p c l hlen hfit _ (hS.get (X := rowP p 3 (l.map encR)) (by repeat constructor)) (fun q hq => (hS.ok (rowP p 3 (l.map encR)) (by repeat constructor)).lt q.1 ⟨q.2, hq⟩)) ?_); clear hS a; (try clear w); intro a w hS
  refine L_op (s_e hS (e_assign rfl) rfl ?_); clear hS a; intro a hS
  refine L_nil ?_
  refine n_then ?_
  refine c_seq ?_
  refine c_seq ?_
  refine c_region ?_
  refine L_op (s_e hS (e_move rfl) rfl ?_); clear hS a; intro a hS
  refine L_op (s_e hS (e_not rfl) rfl ?_); clear hS a; intro a hS
  refine L_op (s_e hS (e_move rfl) rfl ?_); clear hS a; intro a hS
  replace hS := hS.is (t := 38) (c := false) rfl (rfl)
  refine L_go hS rfl rfl (s_e hS (e_move rfl) rfl ?_); clear hS a; intro a hS
  refine L_go hS rfl rfl (s_e hS (e_not rfl) rfl ?_); clear hS a; intro a hS
  first | (refine L_op (s_e hS (e_pick_t rfl rfl) rfl ?_); clear hS a; intro a hS) | (refine L_op (s_e hS (e_pick_f rfl rfl) rfl ?_); clear hS a; intro a hS)
  refine L_op (s_e hS (e_move rfl) rfl ?_); clear hS a; intro a hS
  (first | refine g_splitD (t := 42) hS rfl ?_ ?_ | refine g_split (t := 42) hS rfl ?_ ?_) <;> (clear hS; intro hg42 hS)
  ·
    refine L_skip_f hS rfl rfl rfl ?_; clear hS a; intro a hS
    refine L_skip_f hS rfl rfl rfl ?_; clear hS a; intro a hS
    refine L_skip_f hS rfl rfl rfl ?_; clear hS a; intro a hS
    first | (refine L_op (s_e hS (e_pick_t rfl rfl) rfl ?_); clear hS a; intro a hS) | (refine L_op (s_e hS (e_pick_f rfl rfl) rfl ?_); clear hS a; intro a hS)
    refine L_op (s_e hS (e_move rfl) rfl ?_); clear hS a; intro a hS
    refine L_skip_f hS rfl rfl rfl ?_; clear hS a; intro a hS
    refine L_skip_f hS rfl rfl rfl ?_; clear hS a; intro a hS
    refine L_skip_f hS rfl rfl rfl ?_; clear hS a; intro a hS
    refine L_skip_f hS rfl rfl rfl ?_; clear hS a; intro a hS
    first | (refine L_op (s_e hS (e_pick_t rfl rfl) rfl ?_); clear hS a; intro a hS) | (refine L_op (s_e hS (e_pick_f rfl rfl) rfl ?_); clear hS a; intro a hS)
    refine L_nil ?_
    refine n_then ?_
    refine c_if_t hS rfl ?_
    refine c_seq ?_
    refine c_region ?_
    refine L_op (s_e hS (e_move rfl) rfl ?_); clear hS a; intro a hS
    refine L_op (s_e hS (e_assign rfl) rfl ?_); clear hS a; intro a hS
    refine L_nil ?_
    refine n_then ?_
    refine wp_ret ?_
    refine r_then ?_
    refine c_ret1 hS Try.results10 (.tmp rfl) ?_
    exact ⟨rfl, hS.chg⟩
  ·
    refine L_go hS rfl rfl (s_e hS (e_move rfl) rfl ?_); clear hS a; intro a hS
    refine L_go hS rfl rfl (s_e hS (e_lenS rfl rfl ty_u9) rfl ?_); clear hS a; intro a hS
    refine L_go hS rfl rfl (s_e hS (e_bin rfl rfl rfl) rfl ?_); clear hS a; intro a hS
    first | (refine L_op (s_e hS (e_pick_t rfl rfl) rfl ?_); clear hS a; intro a hS) | (refine L_op (s_e hS (e_pick_f rfl rfl) rfl ?_); clear hS a; intro a hS)
    refine L_op (s_e hS (e_move rfl) rfl ?_); clear hS a; intro a hS
    (first | refine g_splitD (t := 47) hS rfl ?_ ?_ | refine g_split (t := 47) hS rfl ?_ ?_) <;> (clear hS; intro hg47 hS)
    ·
      refine L_skip_f hS rfl rfl rfl ?_; clear hS a; intro a hS
      refine L_skip_f hS rfl rfl rfl ?_; clear hS a; intro a hS
      refine L_skip_f hS rfl rfl rfl ?_; clear hS a; intro a hS
      refine L_skip_f hS rfl rfl rfl ?_; clear hS a; intro a hS
      first | (refine L_op (s_e hS (e_pick_t rfl rfl) rfl ?_); clear hS a; intro a hS) | (refine L_op (s_e hS (e_pick_f rfl rfl) rfl ?_); clear hS a; intro a hS)
      refine L_nil ?_
      refine n_then ?_
      refine c_if_t hS rfl ?_
      refine c_seq ?_
      refine c_region ?_
      refine L_op (s_e hS (e_move rfl) rfl ?_); clear hS a; intro a hS
      refine L_op (s_e hS (e_assign rfl) rfl ?_); clear hS a; intro a hS
      refine L_nil ?_
      refine n_then ?_
      refine wp_ret ?_
      refine r_then ?_
      refine c_ret1 hS Try.results10 (.tmp rfl) ?_
      exact ⟨rfl, hS.chg⟩
    ·
      first | (refine L_go hS rfl rfl (s_e hS (e_fa0 rfl ty_fo41_1) rfl ?_); clear hS a; intro a hS) | (refine L_go hS rfl rfl (s_e hS (e_faK rfl ty_fo41_1) rfl ?_); clear hS a; intro a hS)
      refine L_go hS rfl rfl (s_e hS (e_load rfl (by repeat constructor) ty_sc9 (by rfl)) rfl ?_); clear hS a; intro a hS
      refine L_go hS rfl rfl (s_e hS (e_lenS rfl rfl ty_u9) rfl ?_); clear hS a; intro a hS
      refine L_go hS rfl rfl (s_e hS (e_bin rfl rfl rfl) rfl ?_); clear hS a; intro a hS
      first | (refine L_op (s_e hS (e_pick_t rfl rfl) rfl ?_); clear hS a; intro a hS) | (refine L_op (s_e hS (e_pick_f rfl rfl) rfl ?_); clear hS a; intro a hS)
      refine L_nil ?_
      refine n_then ?_
      first | refine c_ifD hS rfl (fun hc52 => ?_) (fun hc52 => ?_) | refine c_if hS rfl (fun hc52 => ?_) (fun hc52 => ?_)
      ·
        refine c_seq ?_
        refine c_region ?_
        refine L_op (s_e hS (e_move rfl) rfl ?_); clear hS a; intro a hS
        refine L_op (s_e hS (e_assign rfl) rfl ?_); clear hS a; intro a hS
        refine L_nil ?_
        refine n_then ?_
        refine wp_ret ?_
        refine r_then ?_
        refine c_ret1 hS Try.results10 (.tmp rfl) ?_
        exact ⟨rfl, hS.chg⟩
      ·
        refine wp_skip ?_
        refine n_then ?_
        refine c_seq ?_
        refine c_region ?_
        refine L_op (s_e hS (e_move rfl) rfl ?_); clear hS a; intro a hS
        refine L_op (s_e hS (e_move rfl) rfl ?_); clear hS a; intro a hS
        refine L_op (s_callP hS (.cons rfl (.cons rfl .nil)) cf14 rfl (fxConvert_P units nano hun hna _) ?_); clear hS a; (try clear w); intro a w hS
        refine L_op (s_e hS (e_move rfl) rfl ?_); clear hS a; intro a hS
        refine L_op (s_e hS (e_extract rfl rfl) rfl ?_); clear hS a; intro a hS
        refine L_op (s_e hS (e_extract rfl rfl) rfl ?_); clear hS a; intro a hS
        refine L_op (s_e hS (e_assign rfl) rfl ?_); clear hS a; intro a hS
        refine L_op (s_e hS (e_assign rfl) rfl ?_); clear hS a; intro a hS
        refine L_nil ?_
        refine n_then ?_
        refine c_seq ?_
        refine c_region ?_
        refine L_op (s_e hS (e_move rfl) rfl ?_); clear hS a; intro a hS
        refine L_op (s_e hS (e_move rfl) rfl ?_); clear hS a; intro a hS
        refine L_op (s_callP hS (.cons rfl (.cons rfl .nil)) cf36 rfl (xConv_P units nano _) ?_); clear hS a; (try clear w); intro a w hS
        refine L_op (s_e hS (e_move rfl) rfl ?_); clear hS a; intro a hS
        refine L_op (s_e hS (e_extract rfl rfl) rfl ?_); clear hS a; intro a hS
        refine L_op (s_e hS (e_extract rfl rfl) rfl ?_); clear hS a; intro a hS
        refine L_op (s_e hS (e_assign rfl) rfl ?_); clear hS a; intro a hS
        refine L_op (s_e hS (e_assign rfl) rfl ?_); clear hS a; intro a hS
        refine L_nil ?_
        refine n_then ?_
        refine c_seq ?_
        refine c_region ?_
        refine L_op (s_e hS (e_move rfl) rfl ?_); clear hS a; intro a hS
        refine L_op (s_callP hS (.cons rfl .nil) cf37 rfl (fxNew_no own _ hsc) ?_); clear hS a; (try clear w); intro a w hS
        refine L_op (s_e hS (e_move rfl) rfl ?_); clear hS a; intro a hS
        refine L_op (s_e hS (e_extract rfl rfl) rfl ?_); clear hS a; intro a hS
        refine L_op (s_e hS (e_extract rfl rfl) rfl ?_); clear hS a; intro a hS
        refine L_op (s_e hS (e_assign rfl) rfl ?_); clear hS a; intro a hS
        refine L_op (s_e hS (e_assign rfl) rfl ?_); clear hS a; intro a hS
        refine L_nil ?_
        refine n_then ?_
        refine c_seq ?_
        refine c_seq ?_
        refine c_region ?_
        refine L_op (s_e hS (e_move rfl) rfl ?_); clear hS a; intro a hS
        refine L_op (s_e hS (e_move rfl) rfl ?_); clear hS a; intro a hS
        refine L_op (s_e hS (e_bin rfl rfl rfl) rfl ?_); clear hS a; intro a hS
        refine L_op (s_e hS (e_move rfl) rfl ?_); clear hS a; intro a hS
        replace hS := hS.is (t := 74) (c := false) rfl ((decide_eq_false (fun h => h rfl)))
        refine L_go hS rfl rfl (s_e hS (e_move rfl) rfl ?_); clear hS a; intro a hS
        refine L_go hS rfl rfl (s_callP hS (.cons rfl .nil) cf16 rfl (Num_w _ _) ?_); clear hS a; (try clear w); intro a w hS
        refine L_go hS rfl rfl (s_e hS (e_move rfl) rfl ?_); clear hS a; intro a hS
        refine L_go hS rfl rfl (s_e hS (e_bin rfl rfl rfl) rfl ?_); clear hS a; intro a hS
        first | (refine L_op (s_e hS (e_pick_t rfl rfl) rfl ?_); clear hS a; intro a hS) | (refine L_op (s_e hS (e_pick_f rfl rfl) rfl ?_); clear hS a; intro a hS)
        refine L_op (s_e hS (e_move rfl) rfl ?_); clear hS a; intro a hS
        replace hS := hS.is (t := 80) (c := false) rfl ((decide_eq_false (fun h => h rfl)))
        refine L_go hS rfl rfl (s_e hS (e_move rfl) rfl ?_); clear hS a; intro a hS
        refine L_go hS rfl rfl (s_e hS (e_nil rfl ty_u32) rfl ?_); clear hS a; intro a hS
        refine L_go hS rfl rfl (s_e hS (e_move rfl) rfl ?_); clear hS a; intro a hS
        refine L_go hS rfl rfl (s_callP hS (.cons rfl .nil) cf38 rfl (xScale_P own _) ?_); clear hS a; (try clear w); intro a w hS
        refine L_go hS rfl rfl (s_e hS (e_bin rfl rfl rfl) rfl ?_); clear hS a; intro a hS
        refine L_go hS rfl rfl (s_e hS (e_binBn rfl rfl ty_u4) rfl ?_); clear hS a; intro a hS
        first | (refine L_op (s_e hS (e_pick_t rfl rfl) rfl ?_); clear hS a; intro a hS) | (refine L_op (s_e hS (e_pick_f rfl rfl) rfl ?_); clear hS a; intro a hS)
        refine L_op (s_e hS (e_move rfl) rfl ?_); clear hS a; intro a hS
        replace hS := hS.is (t := 88) (c := false) rfl ((by rw [decide_eq_true hrs]; rfl))
        refine L_go hS rfl rfl (s_e hS (e_move rfl) rfl ?_); clear hS a; intro a hS
        refine L_go hS rfl rfl (s_e hS (e_nil rfl ty_u32) rfl ?_); clear hS a; intro a hS
        refine L_go hS rfl rfl (s_e hS (e_move rfl) rfl ?_); clear hS a; intro a hS
        replace hS := hS.is (t := 91) (c := true) rfl (rfl)
        refine L_go hS rfl rfl (s_e hS (e_move rfl) rfl ?_); clear hS a; intro a hS
        refine L_go hS rfl rfl (s_callP hS (.cons rfl .nil) cf16 rfl (Num_w _ _) ?_); clear hS a; (try clear w); intro a w hS
        refine L_go hS rfl rfl (s_e hS (e_bin rfl rfl rfl) rfl ?_); clear hS a; intro a hS
        first | (refine L_go hS rfl rfl (s_e hS (e_pick_t rfl rfl) rfl ?_); clear hS a; intro a hS) | (refine L_go hS rfl rfl (s_e hS (e_pick_f rfl rfl) rfl ?_); clear hS a; intro a hS)
        first | (refine L_op (s_e hS (e_pick_t rfl rfl) rfl ?_); clear hS a; intro a hS) | (refine L_op (s_e hS (e_pick_f rfl rfl) rfl ?_); clear hS a; intro a hS)
        refine L_nil ?_
        refine n_then ?_
        replace hS := hS.is (t := 96) (c := false) rfl (rfl)
        refine c_if_f hS rfl ?_
        refine wp_skip ?_
        refine n_then ?_
        refine c_seq ?_
        refine c_seq ?_
        refine c_region ?_
        refine L_op (s_e hS (e_move rfl) rfl ?_); clear hS a; intro a hS
        refine L_op (s_e hS (e_nil rfl ty_u32) rfl ?_); clear hS a; intro a hS
        refine L_nil ?_
        refine n_then ?_
        replace hS := hS.is (t := 98) (c := true) rfl (rfl)
        refine c_if_t hS rfl ?_
        refine c_seq ?_
        refine c_region ?_
        refine L_op (s_e hS (e_assign rfl) rfl ?_); clear hS a; intro a hS
        refine L_nil ?_
        refine n_then ?_
        refine wp_ret ?_
        refine r_then ?_
        refine c_ret1 hS Try.results10 (.tmp rfl) ?_
        exact ⟨rfl, hS.chg⟩
theorem ref_row {bw : Nat} {own : ByteArray} {rows : List RR} {g c : Nat} {w : World} (h : refφ bw own rows (.slice (some ⟨g, 0, none⟩) rows.length c) w) {i : Nat} {x : RR} (hx : rows[i]? = some x) (j : Nat) (v : Value) (hj : (encR x)[j]? = some v) : w.cell? ⟨g, 0 + i * 3 + j, none⟩ = some v := by
  have h1 := h.rows
  have h2 := flat_get encR 3 (fun _ => rfl) rows i x hx j v hj
  have h3 := World.ownsRow.cells h1 (g := g) rfl _ _ h2
  rw [addr_add] at h3
  rw [← h3]; congr 2; omega
set_option maxHeartbeats 2000000 in
set_option maxRecDepth 100000 in
theorem FxRates_yes (own : ByteArray) (p : Option (Nat × Nat)) (c : Nat) (l : List RR) (hlen : l.length ≤ 4611686018427387904) (hfit : ∀ x ∈ l, rrFits x) (u : Int) (ac : ByteArray) (at_ units nano : Int) (hu : -9223372036854775808 ≤ u ∧ u ≤ 9223372036854775807) (hun : -9223372036854775808 ≤ units ∧ units ≤ 9223372036854775807) (hna : -9223372036854775808 ≤ nano ∧ nano ≤ 9223372036854775807)
    (w0 : World) (h : RowP p 3 (l.map encR) w0) (hb : ∀ q, p = some q → q.1 < w0.heap.size) (hsc : (scaleR own).2 = 0) :
    PureC Try.prog 10 [.string own, sliceV p l.length c, .agg [.int .i64 u, .string ac].toArray, .int .i64 at_, .int .i64 units, .int .i64 nano] w0 (.bool true) := by
  have hrs : ¬ refS own < 0 := fun e => (refS_neg own).1 e hsc
  refine c_enter [(0, .string own), (1, sliceV p l.length c), (2, .agg [.int .i64 u, .string ac].toArray), (3, .int .i64 at_), (4, .int .i64 units), (5, .int .i64 nano)] [rowP p 3 (l.map encR)] noB Try.func10 rfl Try.ntmps10 ⟨rfl, rfl, rfl, rfl, rfl, rfl, trivial⟩ rfl (okC (ok_rowP h hb) okN) dis1 (mineC (by rfl) mineN) ?_
  intro a hS
  refine c_seq ?_
  refine c_region ?_
  refine L_op (s_boxA hS rfl rfl ?_); clear hS a; (try clear w); intro a w b8 hS
  refine L_op (s_e hS (e_assign rfl) rfl ?_); clear hS a; intro a hS
  refine L_nil ?_
  refine n_then ?_
  refine c_seq ?_
  refine c_region ?_
  refine L_op (s_callP hS .nil cf12 rfl (fxfirst_P _) ?_); clear hS a; (try clear w); intro a w hS
  refine L_op (s_e hS (e_assign rfl) rfl ?_); clear hS a; intro a hS
  refine L_nil ?_
  refine n_then ?_
  refine c_seq ?_
  refine c_region ?_
  refine L_op (s_e hS (e_move rfl) rfl ?_); clear hS a; intro a hS
  refine L_op (s_callP hS (.cons rfl .nil) cf13 rfl (fxfew_P p c l hlen hfit _ (hS.get (X := rowP p 3 (l.map encR)) (by repeat constructor)) (fun q hq => (hS.ok (rowP p 3 (l.map encR)) (by repeat constructor)).lt q.1 ⟨q.2, hq⟩)) ?_); clear hS a; (try clear w); intro a w hS
  refine L_op (s_e hS (e_assign rfl) rfl ?_); clear hS a; intro a hS
  refine L_nil ?_
  refine n_then ?_
  refine c_seq ?_
  refine c_seq ?_
  refine c_region ?_
  refine L_op (s_e hS (e_move rfl) rfl ?_); clear hS a; intro a hS
  refine L_op (s_e hS (e_not rfl) rfl ?_); clear hS a; intro a hS
  refine L_op (s_e hS (e_move rfl) rfl ?_); clear hS a; intro a hS
  replace hS := hS.is (t := 38) (c := false) rfl (rfl)
  refine L_go hS rfl rfl (s_e hS (e_move rfl) rfl ?_); clear hS a; intro a hS
  refine L_go hS rfl rfl (s_e hS (e_not rfl) rfl ?_); clear hS a; intro a hS
  first | (refine L_op (s_e hS (e_pick_t rfl rfl) rfl ?_); clear hS a; intro a hS) | (refine L_op (s_e hS (e_pick_f rfl rfl) rfl ?_); clear hS a; intro a hS)
  refine L_op (s_e hS (e_move rfl) rfl ?_); clear hS a; intro a hS
  (first | refine g_splitD (t := 42) hS rfl ?_ ?_ | refine g_split (t := 42) hS rfl ?_ ?_) <;> (clear hS; intro hg42 hS)
  ·
    refine L_skip_f hS rfl rfl rfl ?_; clear hS a; intro a hS
    refine L_skip_f hS rfl rfl rfl ?_; clear hS a; intro a hS
    refine L_skip_f hS rfl rfl rfl ?_; clear hS a; intro a hS
    first | (refine L_op (s_e hS (e_pick_t rfl rfl) rfl ?_); clear hS a; intro a hS) | (refine L_op (s_e hS (e_pick_f rfl rfl) rfl ?_); clear hS a; intro a hS)
    refine L_op (s_e hS (e_move rfl) rfl ?_); clear hS a; intro a hS
    refine L_skip_f hS rfl rfl rfl ?_; clear hS a; intro a hS
    refine L_skip_f hS rfl rfl rfl ?_; clear hS a; intro a hS
    refine L_skip_f hS rfl rfl rfl ?_; clear hS a; intro a hS
    refine L_skip_f hS rfl rfl rfl ?_; clear hS a; intro a hS
    first | (refine L_op (s_e hS (e_pick_t rfl rfl) rfl ?_); clear hS a; intro a hS) | (refine L_op (s_e hS (e_pick_f rfl rfl) rfl ?_); clear hS a; intro a hS)
    refine L_nil ?_
    refine n_then ?_
    refine c_if_t hS rfl ?_
    refine c_seq ?_
    refine c_region ?_
    refine L_op (s_e hS (e_move rfl) rfl ?_); clear hS a; intro a hS
    refine L_op (s_e hS (e_assign rfl) rfl ?_); clear hS a; intro a hS
    refine L_nil ?_
    refine n_then ?_
    refine wp_ret ?_
    refine r_then ?_
    refine c_ret1 hS Try.results10 (.tmp rfl) ?_
    exact ⟨rfl, hS.chg⟩
  ·
    have hfew : fewS l := by simpa using hg42
    have hl60 := hfew.1
    refine L_go hS rfl rfl (s_e hS (e_move rfl) rfl ?_); clear hS a; intro a hS
    refine L_go hS rfl rfl (s_e hS (e_lenS rfl rfl ty_u9) rfl ?_); clear hS a; intro a hS
    refine L_go hS rfl rfl (s_e hS (e_bin rfl rfl rfl) rfl ?_); clear hS a; intro a hS
    first | (refine L_op (s_e hS (e_pick_t rfl rfl) rfl ?_); clear hS a; intro a hS) | (refine L_op (s_e hS (e_pick_f rfl rfl) rfl ?_); clear hS a; intro a hS)
    refine L_op (s_e hS (e_move rfl) rfl ?_); clear hS a; intro a hS
    (first | refine g_splitD (t := 47) hS rfl ?_ ?_ | refine g_split (t := 47) hS rfl ?_ ?_) <;> (clear hS; intro hg47 hS)
    ·
      refine L_skip_f hS rfl rfl rfl ?_; clear hS a; intro a hS
      refine L_skip_f hS rfl rfl rfl ?_; clear hS a; intro a hS
      refine L_skip_f hS rfl rfl rfl ?_; clear hS a; intro a hS
      refine L_skip_f hS rfl rfl rfl ?_; clear hS a; intro a hS
      first | (refine L_op (s_e hS (e_pick_t rfl rfl) rfl ?_); clear hS a; intro a hS) | (refine L_op (s_e hS (e_pick_f rfl rfl) rfl ?_); clear hS a; intro a hS)
      refine L_nil ?_
      refine n_then ?_
      refine c_if_t hS rfl ?_
      refine c_seq ?_
      refine c_region ?_
      refine L_op (s_e hS (e_move rfl) rfl ?_); clear hS a; intro a hS
      refine L_op (s_e hS (e_assign rfl) rfl ?_); clear hS a; intro a hS
      refine L_nil ?_
      refine n_then ?_
      refine wp_ret ?_
      refine r_then ?_
      refine c_ret1 hS Try.results10 (.tmp rfl) ?_
      exact ⟨rfl, hS.chg⟩
    ·
      first | (refine L_go hS rfl rfl (s_e hS (e_fa0 rfl ty_fo41_1) rfl ?_); clear hS a; intro a hS) | (refine L_go hS rfl rfl (s_e hS (e_faK rfl ty_fo41_1) rfl ?_); clear hS a; intro a hS)
      refine L_go hS rfl rfl (s_e hS (e_load rfl (by repeat constructor) ty_sc9 (by rfl)) rfl ?_); clear hS a; intro a hS
      refine L_go hS rfl rfl (s_e hS (e_lenS rfl rfl ty_u9) rfl ?_); clear hS a; intro a hS
      refine L_go hS rfl rfl (s_e hS (e_bin rfl rfl rfl) rfl ?_); clear hS a; intro a hS
      first | (refine L_op (s_e hS (e_pick_t rfl rfl) rfl ?_); clear hS a; intro a hS) | (refine L_op (s_e hS (e_pick_f rfl rfl) rfl ?_); clear hS a; intro a hS)
      refine L_nil ?_
      refine n_then ?_
      first | refine c_ifD hS rfl (fun hc52 => ?_) (fun hc52 => ?_) | refine c_if hS rfl (fun hc52 => ?_) (fun hc52 => ?_)
      ·
        refine c_seq ?_
        refine c_region ?_
        refine L_op (s_e hS (e_move rfl) rfl ?_); clear hS a; intro a hS
        refine L_op (s_e hS (e_assign rfl) rfl ?_); clear hS a; intro a hS
        refine L_nil ?_
        refine n_then ?_
        refine wp_ret ?_
        refine r_then ?_
        refine c_ret1 hS Try.results10 (.tmp rfl) ?_
        exact ⟨rfl, hS.chg⟩
      ·
        refine wp_skip ?_
        refine n_then ?_
        refine c_seq ?_
        refine c_region ?_
        refine L_op (s_e hS (e_move rfl) rfl ?_); clear hS a; intro a hS
        refine L_op (s_e hS (e_move rfl) rfl ?_); clear hS a; intro a hS
        refine L_op (s_callP hS (.cons rfl (.cons rfl .nil)) cf14 rfl (fxConvert_P units nano hun hna _) ?_); clear hS a; (try clear w); intro a w hS
        refine L_op (s_e hS (e_move rfl) rfl ?_); clear hS a; intro a hS
        refine L_op (s_e hS (e_extract rfl rfl) rfl ?_); clear hS a; intro a hS
        refine L_op (s_e hS (e_extract rfl rfl) rfl ?_); clear hS a; intro a hS
        refine L_op (s_e hS (e_assign rfl) rfl ?_); clear hS a; intro a hS
        refine L_op (s_e hS (e_assign rfl) rfl ?_); clear hS a; intro a hS
        refine L_nil ?_
        refine n_then ?_
        refine c_seq ?_
        refine c_region ?_
        refine L_op (s_e hS (e_move rfl) rfl ?_); clear hS a; intro a hS
        refine L_op (s_e hS (e_move rfl) rfl ?_); clear hS a; intro a hS
        refine L_op (s_callP hS (.cons rfl (.cons rfl .nil)) cf36 rfl (xConv_P units nano _) ?_); clear hS a; (try clear w); intro a w hS
        refine L_op (s_e hS (e_move rfl) rfl ?_); clear hS a; intro a hS
        refine L_op (s_e hS (e_extract rfl rfl) rfl ?_); clear hS a; intro a hS
        refine L_op (s_e hS (e_extract rfl rfl) rfl ?_); clear hS a; intro a hS
        refine L_op (s_e hS (e_assign rfl) rfl ?_); clear hS a; intro a hS
        refine L_op (s_e hS (e_assign rfl) rfl ?_); clear hS a; intro a hS
        refine L_nil ?_
        refine n_then ?_
        refine c_seq ?_
        refine c_region ?_
        refine L_op (s_e hS (e_move rfl) rfl ?_); clear hS a; intro a hS
        refine L_op (s_callN hS (.cons rfl .nil) cf37 rfl (fxNew_P own _ hsc) ?_); clear hS a; (try clear w); intro x68 a w hS
        refine L_op (s_e hS (e_move rfl) rfl ?_); clear hS a; intro a hS
        refine L_op (s_e hS (e_extract rfl rfl) rfl ?_); clear hS a; intro a hS
        refine L_op (s_e hS (e_extract rfl rfl) rfl ?_); clear hS a; intro a hS
        refine L_op (s_e hS (e_assign rfl) rfl ?_); clear hS a; intro a hS
        refine L_op (s_e hS (e_assign rfl) rfl ?_); clear hS a; intro a hS
        refine L_nil ?_
        refine n_then ?_
        refine c_seq ?_
        refine c_seq ?_
        refine c_region ?_
        refine L_op (s_e hS (e_move rfl) rfl ?_); clear hS a; intro a hS
        refine L_op (s_e hS (e_move rfl) rfl ?_); clear hS a; intro a hS
        refine L_op (s_e hS (e_bin rfl rfl rfl) rfl ?_); clear hS a; intro a hS
        refine L_op (s_e hS (e_move rfl) rfl ?_); clear hS a; intro a hS
        replace hS := hS.is (t := 74) (c := false) rfl ((decide_eq_false (fun h => h rfl)))
        refine L_go hS rfl rfl (s_e hS (e_move rfl) rfl ?_); clear hS a; intro a hS
        refine L_go hS rfl rfl (s_callP hS (.cons rfl .nil) cf16 rfl (Num_w _ _) ?_); clear hS a; (try clear w); intro a w hS
        refine L_go hS rfl rfl (s_e hS (e_move rfl) rfl ?_); clear hS a; intro a hS
        refine L_go hS rfl rfl (s_e hS (e_bin rfl rfl rfl) rfl ?_); clear hS a; intro a hS
        first | (refine L_op (s_e hS (e_pick_t rfl rfl) rfl ?_); clear hS a; intro a hS) | (refine L_op (s_e hS (e_pick_f rfl rfl) rfl ?_); clear hS a; intro a hS)
        refine L_op (s_e hS (e_move rfl) rfl ?_); clear hS a; intro a hS
        replace hS := hS.is (t := 80) (c := false) rfl ((decide_eq_false (fun h => h rfl)))
        refine L_go hS rfl rfl (s_e hS (e_move rfl) rfl ?_); clear hS a; intro a hS
        refine L_go hS rfl rfl (s_e hS (e_nil rfl ty_u32) rfl ?_); clear hS a; intro a hS
        refine L_go hS rfl rfl (s_e hS (e_move rfl) rfl ?_); clear hS a; intro a hS
        refine L_go hS rfl rfl (s_callP hS (.cons rfl .nil) cf38 rfl (xScale_P own _) ?_); clear hS a; (try clear w); intro a w hS
        refine L_go hS rfl rfl (s_e hS (e_bin rfl rfl rfl) rfl ?_); clear hS a; intro a hS
        refine L_go hS rfl rfl (s_e hS (e_binBn rfl rfl ty_u4) rfl ?_); clear hS a; intro a hS
        first | (refine L_op (s_e hS (e_pick_t rfl rfl) rfl ?_); clear hS a; intro a hS) | (refine L_op (s_e hS (e_pick_f rfl rfl) rfl ?_); clear hS a; intro a hS)
        refine L_op (s_e hS (e_move rfl) rfl ?_); clear hS a; intro a hS
        replace hS := hS.is (t := 88) (c := false) rfl ((by rw [decide_eq_false hrs]; rfl))
        refine L_go hS rfl rfl (s_e hS (e_move rfl) rfl ?_); clear hS a; intro a hS
        refine L_go hS rfl rfl (s_e hS (e_nil rfl ty_u32) rfl ?_); clear hS a; intro a hS
        refine L_go hS rfl rfl (s_e hS (e_move rfl) rfl ?_); clear hS a; intro a hS
        replace hS := hS.is (t := 91) (c := false) rfl (rfl)
        refine L_skip_t hS rfl rfl rfl ?_; clear hS a; intro a hS
        refine L_skip_t hS rfl rfl rfl ?_; clear hS a; intro a hS
        refine L_skip_t hS rfl rfl rfl ?_; clear hS a; intro a hS
        first | (refine L_go hS rfl rfl (s_e hS (e_pick_t rfl rfl) rfl ?_); clear hS a; intro a hS) | (refine L_go hS rfl rfl (s_e hS (e_pick_f rfl rfl) rfl ?_); clear hS a; intro a hS)
        first | (refine L_op (s_e hS (e_pick_t rfl rfl) rfl ?_); clear hS a; intro a hS) | (refine L_op (s_e hS (e_pick_f rfl rfl) rfl ?_); clear hS a; intro a hS)
        refine L_nil ?_
        refine n_then ?_
        refine c_if_f hS rfl ?_
        refine wp_skip ?_
        refine n_then ?_
        refine c_seq ?_
        refine c_seq ?_
        refine c_region ?_
        refine L_op (s_e hS (e_move rfl) rfl ?_); clear hS a; intro a hS
        refine L_op (s_e hS (e_nil rfl ty_u32) rfl ?_); clear hS a; intro a hS
        refine L_nil ?_
        refine n_then ?_
        replace hS := hS.is (t := 98) (c := false) rfl (rfl)
        refine c_if_f hS rfl ?_
        refine wp_skip ?_
        refine n_then ?_
        refine c_seq ?_
        refine c_region ?_
        refine L_op (s_e hS (e_move rfl) rfl ?_); clear hS a; intro a hS
        refine L_op (s_e hS (e_build ty_z86 ty_pl86 (.one rfl rfl rfl (by repeat constructor) .nil)) rfl ?_); clear hS a; intro a hS
        refine L_op (s_boxA hS rfl rfl ?_); clear hS a; (try clear w); intro a w b101 hS
        refine L_op (s_e hS (e_assign rfl) rfl ?_); clear hS a; intro a hS
        refine L_nil ?_
        refine n_then ?_
        refine c_seq ?_
        refine c_seq ?_
        refine c_region ?_
        refine L_op (s_e hS (e_assign rfl) rfl ?_); clear hS a; intro a hS
        refine L_nil ?_
        refine n_then ?_
        refine wp_block ?_
        replace hS := hS.swap (X := .blk b101 [.string own, .slice none 0 0] 86) (Y := refA b101 own [] (.slice none 0 0) true) (by repeat constructor) (ref_ok true ⟨hS.get (X := .blk b101 [.string own, .slice none 0 0] 86) (by repeat constructor), World.ownsRow_nil _ _ _ _⟩) (fun b hb => by rcases hb with hb | hb; exact hb; cases hb) rfl
        refine c_loop (γ := Nat × (List RA × Int) × (List RR × Value)) (fun s a w => St 266 noB w0 a w [(22, .int .i64 (s.1 : Int)), (1, sliceV p l.length c), (3, .int .i64 at_), (8, .pointer (some ⟨b8, 0, none⟩)), (19, .pointer (some ⟨x68.1, 0, none⟩)), (21, .pointer (some ⟨b101, 0, none⟩))] [rowP p 3 (l.map encR), ratesA x68.1 x68.2 own s.2.1.1 s.2.1.2 true, refA b101 own s.2.2.1 s.2.2.2 true, .blk b8 [.int .i64 u, .string ac] 41] ∧ s.1 ≤ l.length ∧ relF (vsT s.2.1.1) s.2.1.2 s.2.2.1 ∧ nanoOK (vsT s.2.1.1)) (fun s => l.length - s.1) (0, ([], 0), ([], .slice none 0 0)) ⟨(hS.slots (by repeat (first | exact trivial | refine ⟨rfl, ?_⟩))).pick (by repeat (first | exact Pick.nil | (refine Pick.cons (by repeat (first | exact Rem.head | apply Rem.tail)) ?_))), Nat.zero_le _, relF_nil, fun c x hx => (by cases hx)⟩ ?_
        clear hS a; (try clear w); intro s a w hI
        obtain ⟨hS, hk, hrel, hno⟩ := hI
        obtain ⟨k, ⟨es, n⟩, rows, v⟩ := s
        simp only at hS hk hrel hno ⊢
        have hn5 := (hS.get (X := ratesA x68.1 x68.2 own es n true) (by repeat constructor)).wf.n
        have hnr := hrel.num
        have hrl : rows.length ≤ 500 := by omega
        refine c_seq ?_
        refine c_seq ?_
        refine c_region ?_
        refine L_op (s_e hS (e_move rfl) rfl ?_); clear hS a; intro a hS
        refine L_op (s_e hS (e_move rfl) rfl ?_); clear hS a; intro a hS
        refine L_op (s_e hS (e_len rfl rfl ty_sl22) rfl ?_); clear hS a; intro a hS
        refine L_op (s_e hS (e_bin rfl rfl rfl) rfl ?_); clear hS a; intro a hS
        refine L_nil ?_
        refine n_then ?_
        first | refine c_ifD hS rfl (fun hc105 => ?_) (fun hc105 => ?_) | refine c_if hS rfl (fun hc105 => ?_) (fun hc105 => ?_)
        ·
          obtain ⟨x, hx⟩ : ∃ x, l[k]? = some x := ⟨l[k]'(by omega), List.getElem?_eq_getElem (by omega)⟩
          have hx' : (l.map encR)[k]? = some (encR x) := by simp [hx]
          obtain ⟨b, off, rfl⟩ := rowP_some h hx'
          have hxf := hfit x (List.mem_of_getElem? hx)
          have hEq := setE_eq hrel own x.1 x.2.1 x.2.2
          refine wp_skip ?_
          refine n_then ?_
          refine c_seq ?_
          refine wp_block ?_
          refine c_seq ?_
          refine c_seq ?_
          refine c_drawS [] (by kernel_rfl) hS (sub_cons (X := rowP (some (b, off)) 3 (l.map encR)) (by repeat constructor) sub_nil) ?_; clear hS; (try clear w); intro w hS
          simp only [List.length_cons, List.length_nil, Nat.zero_add, Nat.reduceAdd, List.replicate]
          refine Z_take0 (i := 0) hS rfl want_none (e_move rfl) (listed' := [true, false, false, false, false, false, false, false, false, false, false, false, false, false, false, false, false, false, false, false, false, false, false, false, false, false, false, false, false, false, false, false, false, false, false, false]) rfl (by kernel_rfl) (by kernel_rfl) (by kernel_rfl) (fun _ _ _ h => h) rfl ?_; clear hS a; intro a hS
          refine Z_take0 (i := 1) hS rfl want_none (e_move rfl) (listed' := [true, true, false, false, false, false, false, false, false, false, false, false, false, false, false, false, false, false, false, false, false, false, false, false, false, false, false, false, false, false, false, false, false, false, false, false]) rfl (by kernel_rfl) (by kernel_rfl) (by kernel_rfl) (fun _ _ _ h => h) rfl ?_; clear hS a; intro a hS
          refine Z_take0 (i := 2) hS rfl want_none (e_move rfl) (listed' := [true, true, true, false, false, false, false, false, false, false, false, false, false, false, false, false, false, false, false, false, false, false, false, false, false, false, false, false, false, false, false, false, false, false, false, false]) rfl (by kernel_rfl) (by kernel_rfl) (by kernel_rfl) (fun _ _ _ h => h) rfl ?_; clear hS a; intro a hS
          refine Z_take0 (i := 3) hS rfl want_none (e_ixN rfl rfl ty_sl22 ty_sz24 (by omega)) (listed' := [true, true, true, true, false, false, false, false, false, false, false, false, false, false, false, false, false, false, false, false, false, false, false, false, false, false, false, false, false, false, false, false, false, false, false, false]) rfl (by kernel_rfl) (by kernel_rfl) (by kernel_rfl) (fun _ _ _ h => h) rfl ?_; clear hS a; intro a hS
          first | (refine Z_take0 (i := 4) hS rfl want_none (e_fa0 rfl ty_fo24_0) (listed' := [true, true, true, true, true, false, false, false, false, false, false, false, false, false, false, false, false, false, false, false, false, false, false, false, false, false, false, false, false, false, false, false, false, false, false, false]) rfl (by kernel_rfl) (by kernel_rfl) (by kernel_rfl) (fun _ _ _ h => h) rfl ?_; clear hS a; intro a hS) | (refine Z_take0 (i := 4) hS rfl want_none (e_faK rfl ty_fo24_0) (listed' := [true, true, true, true, true, false, false, false, false, false, false, false, false, false, false, false, false, false, false, false, false, false, false, false, false, false, false, false, false, false, false, false, false, false, false, false]) rfl (by kernel_rfl) (by kernel_rfl) (by kernel_rfl) (fun _ _ _ h => h) rfl ?_; clear hS a; intro a hS)
          refine Z_take (i := 5) hS rfl want_none (e_loadC rfl ty_sc9 (fun w hh => rowP_get (by repeat constructor) hx' w hh 0 (.string x.1) rfl)) (listed' := [true, true, true, true, true, true, false, false, false, false, false, false, false, false, false, false, false, false, false, false, false, false, false, false, false, false, false, false, false, false, false, false, false, false, false, false]) rfl (by kernel_rfl) (by kernel_rfl) (by kernel_rfl) (by kernel_rfl) (by kernel_rfl) (sub_cons (by repeat constructor) sub_nil) (fun _ _ _ h => h) rfl ?_; clear hS a; intro a hS
          refine Z_take0 (i := 6) hS rfl want_none (e_move rfl) (listed' := [true, true, true, true, true, true, true, false, false, false, false, false, false, false, false, false, false, false, false, false, false, false, false, false, false, false, false, false, false, false, false, false, false, false, false, false]) rfl (by kernel_rfl) (by kernel_rfl) (by kernel_rfl) (fun _ _ _ h => h) rfl ?_; clear hS a; intro a hS
          refine Z_take0 (i := 7) hS rfl want_none (e_move rfl) (listed' := [true, true, true, true, true, true, true, true, false, false, false, false, false, false, false, false, false, false, false, false, false, false, false, false, false, false, false, false, false, false, false, false, false, false, false, false]) rfl (by kernel_rfl) (by kernel_rfl) (by kernel_rfl) (fun _ _ _ h => h) rfl ?_; clear hS a; intro a hS
          refine Z_take0 (i := 8) hS rfl want_none (e_ixN rfl rfl ty_sl22 ty_sz24 (by omega)) (listed' := [true, true, true, true, true, true, true, true, true, false, false, false, false, false, false, false, false, false, false, false, false, false, false, false, false, false, false, false, false, false, false, false, false, false, false, false]) rfl (by kernel_rfl) (by kernel_rfl) (by kernel_rfl) (fun _ _ _ h => h) rfl ?_; clear hS a; intro a hS
          first | (refine Z_take0 (i := 9) hS rfl want_none (e_fa0 rfl ty_fo24_1) (listed' := [true, true, true, true, true, true, true, true, true, true, false, false, false, false, false, false, false, false, false, false, false, false, false, false, false, false, false, false, false, false, false, false, false, false, false, false]) rfl (by kernel_rfl) (by kernel_rfl) (by kernel_rfl) (fun _ _ _ h => h) rfl ?_; clear hS a; intro a hS) | (refine Z_take0 (i := 9) hS rfl want_none (e_faK rfl ty_fo24_1) (listed' := [true, true, true, true, true, true, true, true, true, true, false, false, false, false, false, false, false, false, false, false, false, false, false, false, false, false, false, false, false, false, false, false, false, false, false, false]) rfl (by kernel_rfl) (by kernel_rfl) (by kernel_rfl) (fun _ _ _ h => h) rfl ?_; clear hS a; intro a hS)
          refine Z_take (i := 10) hS rfl want_none (e_loadC rfl ty_sc3 (fun w hh => rowP_get (by repeat constructor) hx' w hh 1 (.int .i64 x.2.1) rfl)) (listed' := [true, true, true, true, true, true, true, true, true, true, true, false, false, false, false, false, false, false, false, false, false, false, false, false, false, false, false, false, false, false, false, false, false, false, false, false]) rfl (by kernel_rfl) (by kernel_rfl) (by kernel_rfl) (by kernel_rfl) (by kernel_rfl) (sub_cons (by repeat constructor) sub_nil) (fun _ _ _ h => h) rfl ?_; clear hS a; intro a hS
          refine Z_take0 (i := 11) hS rfl want_none (e_move rfl) (listed' := [true, true, true, true, true, true, true, true, true, true, true, true, false, false, false, false, false, false, false, false, false, false, false, false, false, false, false, false, false, false, false, false, false, false, false, false]) rfl (by kernel_rfl) (by kernel_rfl) (by kernel_rfl) (fun _ _ _ h => h) rfl ?_; clear hS a; intro a hS
          refine Z_take0 (i := 12) hS rfl want_none (e_move rfl) (listed' := [true, true, true, true, true, true, true, true, true, true, true, true, true, false, false, false, false, false, false, false, false, false, false, false, false, false, false, false, false, false, false, false, false, false, false, false]) rfl (by kernel_rfl) (by kernel_rfl) (by kernel_rfl) (fun _ _ _ h => h) rfl ?_; clear hS a; intro a hS
          refine Z_take0 (i := 13) hS rfl want_none (e_ixN rfl rfl ty_sl22 ty_sz24 (by omega)) (listed' := [true, true, true, true, true, true, true, true, true, true, true, true, true, true, false, false, false, false, false, false, false, false, false, false, false, false, false, false, false, false, false, false, false, false, false, false]) rfl (by kernel_rfl) (by kernel_rfl) (by kernel_rfl) (fun _ _ _ h => h) rfl ?_; clear hS a; intro a hS
          first | (refine Z_take0 (i := 14) hS rfl want_none (e_fa0 rfl ty_fo24_2) (listed' := [true, true, true, true, true, true, true, true, true, true, true, true, true, true, true, false, false, false, false, false, false, false, false, false, false, false, false, false, false, false, false, false, false, false, false, false]) rfl (by kernel_rfl) (by kernel_rfl) (by kernel_rfl) (fun _ _ _ h => h) rfl ?_; clear hS a; intro a hS) | (refine Z_take0 (i := 14) hS rfl want_none (e_faK rfl ty_fo24_2) (listed' := [true, true, true, true, true, true, true, true, true, true, true, true, true, true, true, false, false, false, false, false, false, false, false, false, false, false, false, false, false, false, false, false, false, false, false, false]) rfl (by kernel_rfl) (by kernel_rfl) (by kernel_rfl) (fun _ _ _ h => h) rfl ?_; clear hS a; intro a hS)
          refine Z_take (i := 15) hS rfl want_none (e_loadC rfl ty_sc3 (fun w hh => rowP_get (by repeat constructor) hx' w hh 2 (.int .i64 x.2.2) rfl)) (listed' := [true, true, true, true, true, true, true, true, true, true, true, true, true, true, true, true, false, false, false, false, false, false, false, false, false, false, false, false, false, false, false, false, false, false, false, false]) rfl (by kernel_rfl) (by kernel_rfl) (by kernel_rfl) (by kernel_rfl) (by kernel_rfl) (sub_cons (by repeat constructor) sub_nil) (fun _ _ _ h => h) rfl ?_; clear hS a; intro a hS
          refine Z_take0 (i := 18) hS rfl want_none (e_move rfl) (listed' := [true, true, true, true, true, true, true, true, true, true, true, true, true, true, true, true, false, false, true, false, false, false, false, false, false, false, false, false, false, false, false, false, false, false, false, false]) rfl (by kernel_rfl) (by kernel_rfl) (by kernel_rfl) (fun _ _ _ h => h) rfl ?_; clear hS a; intro a hS
          refine Z_take0 (i := 19) hS rfl want_none (e_move rfl) (listed' := [true, true, true, true, true, true, true, true, true, true, true, true, true, true, true, true, false, false, true, true, false, false, false, false, false, false, false, false, false, false, false, false, false, false, false, false]) rfl (by kernel_rfl) (by kernel_rfl) (by kernel_rfl) (fun _ _ _ h => h) rfl ?_; clear hS a; intro a hS
          refine Z_take0 (i := 20) hS rfl want_none (e_move rfl) (listed' := [true, true, true, true, true, true, true, true, true, true, true, true, true, true, true, true, false, false, true, true, true, false, false, false, false, false, false, false, false, false, false, false, false, false, false, false]) rfl (by kernel_rfl) (by kernel_rfl) (by kernel_rfl) (fun _ _ _ h => h) rfl ?_; clear hS a; intro a hS
          refine Z_take0 (i := 21) hS rfl want_none (e_ixN rfl rfl ty_sl22 ty_sz24 (by omega)) (listed' := [true, true, true, true, true, true, true, true, true, true, true, true, true, true, true, true, false, false, true, true, true, true, false, false, false, false, false, false, false, false, false, false, false, false, false, false]) rfl (by kernel_rfl) (by kernel_rfl) (by kernel_rfl) (fun _ _ _ h => h) rfl ?_; clear hS a; intro a hS
          first | (refine Z_take0 (i := 22) hS rfl want_none (e_fa0 rfl ty_fo24_0) (listed' := [true, true, true, true, true, true, true, true, true, true, true, true, true, true, true, true, false, false, true, true, true, true, true, false, false, false, false, false, false, false, false, false, false, false, false, false]) rfl (by kernel_rfl) (by kernel_rfl) (by kernel_rfl) (fun _ _ _ h => h) rfl ?_; clear hS a; intro a hS) | (refine Z_take0 (i := 22) hS rfl want_none (e_faK rfl ty_fo24_0) (listed' := [true, true, true, true, true, true, true, true, true, true, true, true, true, true, true, true, false, false, true, true, true, true, true, false, false, false, false, false, false, false, false, false, false, false, false, false]) rfl (by kernel_rfl) (by kernel_rfl) (by kernel_rfl) (fun _ _ _ h => h) rfl ?_; clear hS a; intro a hS)
          refine Z_take (i := 23) hS rfl want_none (e_loadC rfl ty_sc9 (fun w hh => rowP_get (by repeat constructor) hx' w hh 0 (.string x.1) rfl)) (listed' := [true, true, true, true, true, true, true, true, true, true, true, true, true, true, true, true, false, false, true, true, true, true, true, true, false, false, false, false, false, false, false, false, false, false, false, false]) rfl (by kernel_rfl) (by kernel_rfl) (by kernel_rfl) (by kernel_rfl) (by kernel_rfl) (sub_cons (by repeat constructor) sub_nil) (fun _ _ _ h => h) rfl ?_; clear hS a; intro a hS
          refine Z_take0 (i := 24) hS rfl want_none (e_move rfl) (listed' := [true, true, true, true, true, true, true, true, true, true, true, true, true, true, true, true, false, false, true, true, true, true, true, true, true, false, false, false, false, false, false, false, false, false, false, false]) rfl (by kernel_rfl) (by kernel_rfl) (by kernel_rfl) (fun _ _ _ h => h) rfl ?_; clear hS a; intro a hS
          refine Z_take0 (i := 25) hS rfl want_none (e_move rfl) (listed' := [true, true, true, true, true, true, true, true, true, true, true, true, true, true, true, true, false, false, true, true, true, true, true, true, true, true, false, false, false, false, false, false, false, false, false, false]) rfl (by kernel_rfl) (by kernel_rfl) (by kernel_rfl) (fun _ _ _ h => h) rfl ?_; clear hS a; intro a hS
          refine Z_take0 (i := 26) hS rfl want_none (e_ixN rfl rfl ty_sl22 ty_sz24 (by omega)) (listed' := [true, true, true, true, true, true, true, true, true, true, true, true, true, true, true, true, false, false, true, true, true, true, true, true, true, true, true, false, false, false, false, false, false, false, false, false]) rfl (by kernel_rfl) (by kernel_rfl) (by kernel_rfl) (fun _ _ _ h => h) rfl ?_; clear hS a; intro a hS
          first | (refine Z_take0 (i := 27) hS rfl want_none (e_fa0 rfl ty_fo24_1) (listed' := [true, true, true, true, true, true, true, true, true, true, true, true, true, true, true, true, false, false, true, true, true, true, true, true, true, true, true, true, false, false, false, false, false, false, false, false]) rfl (by kernel_rfl) (by kernel_rfl) (by kernel_rfl) (fun _ _ _ h => h) rfl ?_; clear hS a; intro a hS) | (refine Z_take0 (i := 27) hS rfl want_none (e_faK rfl ty_fo24_1) (listed' := [true, true, true, true, true, true, true, true, true, true, true, true, true, true, true, true, false, false, true, true, true, true, true, true, true, true, true, true, false, false, false, false, false, false, false, false]) rfl (by kernel_rfl) (by kernel_rfl) (by kernel_rfl) (fun _ _ _ h => h) rfl ?_; clear hS a; intro a hS)
          refine Z_take (i := 28) hS rfl want_none (e_loadC rfl ty_sc3 (fun w hh => rowP_get (by repeat constructor) hx' w hh 1 (.int .i64 x.2.1) rfl)) (listed' := [true, true, true, true, true, true, true, true, true, true, true, true, true, true, true, true, false, false, true, true, true, true, true, true, true, true, true, true, true, false, false, false, false, false, false, false]) rfl (by kernel_rfl) (by kernel_rfl) (by kernel_rfl) (by kernel_rfl) (by kernel_rfl) (sub_cons (by repeat constructor) sub_nil) (fun _ _ _ h => h) rfl ?_; clear hS a; intro a hS
          refine Z_take0 (i := 29) hS rfl want_none (e_move rfl) (listed' := [true, true, true, true, true, true, true, true, true, true, true, true, true, true, true, true, false, false, true, true, true, true, true, true, true, true, true, true, true, true, false, false, false, false, false, false]) rfl (by kernel_rfl) (by kernel_rfl) (by kernel_rfl) (fun _ _ _ h => h) rfl ?_; clear hS a; intro a hS
          refine Z_take0 (i := 30) hS rfl want_none (e_move rfl) (listed' := [true, true, true, true, true, true, true, true, true, true, true, true, true, true, true, true, false, false, true, true, true, true, true, true, true, true, true, true, true, true, true, false, false, false, false, false]) rfl (by kernel_rfl) (by kernel_rfl) (by kernel_rfl) (fun _ _ _ h => h) rfl ?_; clear hS a; intro a hS
          refine Z_take0 (i := 31) hS rfl want_none (e_ixN rfl rfl ty_sl22 ty_sz24 (by omega)) (listed' := [true, true, true, true, true, true, true, true, true, true, true, true, true, true, true, true, false, false, true, true, true, true, true, true, true, true, true, true, true, true, true, true, false, false, false, false]) rfl (by kernel_rfl) (by kernel_rfl) (by kernel_rfl) (fun _ _ _ h => h) rfl ?_; clear hS a; intro a hS
          first | (refine Z_take0 (i := 32) hS rfl want_none (e_fa0 rfl ty_fo24_2) (listed' := [true, true, true, true, true, true, true, true, true, true, true, true, true, true, true, true, false, false, true, true, true, true, true, true, true, true, true, true, true, true, true, true, true, false, false, false]) rfl (by kernel_rfl) (by kernel_rfl) (by kernel_rfl) (fun _ _ _ h => h) rfl ?_; clear hS a; intro a hS) | (refine Z_take0 (i := 32) hS rfl want_none (e_faK rfl ty_fo24_2) (listed' := [true, true, true, true, true, true, true, true, true, true, true, true, true, true, true, true, false, false, true, true, true, true, true, true, true, true, true, true, true, true, true, true, true, false, false, false]) rfl (by kernel_rfl) (by kernel_rfl) (by kernel_rfl) (fun _ _ _ h => h) rfl ?_; clear hS a; intro a hS)
          refine Z_take (i := 33) hS rfl want_none (e_loadC rfl ty_sc3 (fun w hh => rowP_get (by repeat constructor) hx' w hh 2 (.int .i64 x.2.2) rfl)) (listed' := [true, true, true, true, true, true, true, true, true, true, true, true, true, true, true, true, false, false, true, true, true, true, true, true, true, true, true, true, true, true, true, true, true, true, false, false]) rfl (by kernel_rfl) (by kernel_rfl) (by kernel_rfl) (by kernel_rfl) (by kernel_rfl) (sub_cons (by repeat constructor) sub_nil) (fun _ _ _ h => h) rfl ?_; clear hS a; intro a hS
          refine Z_one (i := 16) rfl (want_none a hS.sl) (listed' := [true, true, true, true, true, true, true, true, true, true, true, true, true, true, true, true, true, false, true, true, true, true, true, true, true, true, true, true, true, true, true, true, true, true, false, false]) rfl (by kernel_rfl) (s_callM hS (.cons rfl (.cons rfl (.cons rfl (.cons rfl .nil)))) cf19 rfl (fxSet_P x68.1 x68.2 own x.1 es n x.2.1 x.2.2 hxf.2.1 _ (hS.get (X := ratesA x68.1 x68.2 own es n true) (by repeat constructor))) (fun x => (by repeat constructor)) rfl ?_); clear hS a; (try clear w); intro x124 a w hS
          refine Z_and hS (sub_cons (by repeat constructor) sub_nil) ?_
          refine Z_one (i := 17) rfl (want_none a hS.sl) (listed' := [true, true, true, true, true, true, true, true, true, true, true, true, true, true, true, true, true, true, true, true, true, true, true, true, true, true, true, true, true, true, true, true, true, true, false, false]) rfl (by kernel_rfl) (s_callP hS (.cons rfl .nil) cf16 rfl (Num_w _ _) ?_); clear hS a; (try clear w); intro a w hS
          refine Z_and hS (sub_cons (by repeat constructor) sub_nil) ?_
          refine Z_one (i := 34) rfl (want_none a hS.sl) (listed' := [true, true, true, true, true, true, true, true, true, true, true, true, true, true, true, true, true, true, true, true, true, true, true, true, true, true, true, true, true, true, true, true, true, true, true, false]) rfl (by kernel_rfl) (s_callM hS (.cons rfl (.cons rfl (.cons rfl (.cons rfl .nil)))) cf39 rfl (rSet_P b101 own x.1 rows v x.2.1 x.2.2 hrl _ (hS.get (X := refA b101 own rows v true) (by repeat constructor))) (fun x => (by repeat constructor)) rfl ?_); clear hS a; (try clear w); intro x142 a w hS
          refine Z_and hS (sub_cons (by repeat constructor) sub_nil) ?_
          refine Z_take0 (i := 35) hS rfl want_none (e_bin rfl rfl rfl) (listed' := [true, true, true, true, true, true, true, true, true, true, true, true, true, true, true, true, true, true, true, true, true, true, true, true, true, true, true, true, true, true, true, true, true, true, true, true]) rfl (by kernel_rfl) (by kernel_rfl) (by kernel_rfl) (fun _ _ _ h => h) rfl ?_; clear hS a; intro a hS
          refine Z_done (by kernel_rfl) ?_
          refine n_then ?_
          replace hS := hS.is (t := 143) (c := false) rfl ((decide_eq_false (fun e => e hEq)))
          refine c_if_f hS rfl ?_
          refine wp_skip ?_
          refine n_then ?_
          refine c_seq ?_
          obtain ⟨⟨es2, n2⟩, hx124⟩ := x124
          obtain ⟨⟨rows2, vv2⟩, hx142⟩ := x142
          simp only at hS hx124 hx142
          have hrel2 := rel_step hrel hx142
          have hno2 := nano_set (own := own) (n := n) hno x.1 x.2.1 x.2.2
          rw [← hx124] at hrel2 hno2
          simp only at hrel2 hno2
          have hn52 := (hS.get (X := ratesA x68.1 x68.2 own es2 n2 true) (by repeat constructor)).wf.n
          have hnr2 := hrel2.num
          have hge := get_eq hrel2 hno2 own x.1 at_
          refine c_region ?_
          refine L_op (s_e hS (e_move rfl) rfl ?_); clear hS a; intro a hS
          refine L_op (s_e hS (e_move rfl) rfl ?_); clear hS a; intro a hS
          refine L_op (s_e hS (e_move rfl) rfl ?_); clear hS a; intro a hS
          refine L_op (s_e hS (e_ixN rfl rfl ty_sl22 ty_sz24 (by omega)) rfl ?_); clear hS a; intro a hS
          first | (refine L_op (s_e hS (e_fa0 rfl ty_fo24_0) rfl ?_); clear hS a; intro a hS) | (refine L_op (s_e hS (e_faK rfl ty_fo24_0) rfl ?_); clear hS a; intro a hS)
          refine L_op (s_e hS (e_loadC rfl ty_sc9 (fun w hh => rowP_get (by repeat constructor) hx' w hh 0 (.string x.1) rfl)) rfl ?_); clear hS a; intro a hS
          refine L_op (s_e hS (e_move rfl) rfl ?_); clear hS a; intro a hS
          refine L_op (s_callP hS (.cons rfl (.cons rfl (.cons rfl .nil))) cf18 rfl (fxGet_P x68.1 x68.2 own x.1 es2 n2 at_ _ (hS.get (X := ratesA x68.1 x68.2 own es2 n2 true) (by repeat constructor))) ?_); clear hS a; (try clear w); intro a w hS
          refine L_op (s_e hS (e_move rfl) rfl ?_); clear hS a; intro a hS
          refine L_op (s_e hS (e_extract rfl rfl) rfl ?_); clear hS a; intro a hS
          refine L_op (s_e hS (e_extract rfl rfl) rfl ?_); clear hS a; intro a hS
          refine L_op (s_e hS (e_assign rfl) rfl ?_); clear hS a; intro a hS
          refine L_op (s_e hS (e_assign rfl) rfl ?_); clear hS a; intro a hS
          refine L_nil ?_
          refine n_then ?_
          refine c_seq ?_
          refine c_region ?_
          refine L_op (s_e hS (e_move rfl) rfl ?_); clear hS a; intro a hS
          refine L_op (s_e hS (e_move rfl) rfl ?_); clear hS a; intro a hS
          refine L_op (s_e hS (e_move rfl) rfl ?_); clear hS a; intro a hS
          refine L_op (s_e hS (e_ixN rfl rfl ty_sl22 ty_sz24 (by omega)) rfl ?_); clear hS a; intro a hS
          first | (refine L_op (s_e hS (e_fa0 rfl ty_fo24_0) rfl ?_); clear hS a; intro a hS) | (refine L_op (s_e hS (e_faK rfl ty_fo24_0) rfl ?_); clear hS a; intro a hS)
          refine L_op (s_e hS (e_loadC rfl ty_sc9 (fun w hh => rowP_get (by repeat constructor) hx' w hh 0 (.string x.1) rfl)) rfl ?_); clear hS a; intro a hS
          refine L_op (s_e hS (e_move rfl) rfl ?_); clear hS a; intro a hS
          refine L_op (s_callP hS (.cons rfl (.cons rfl (.cons rfl .nil))) cf40 rfl (rGet_P b101 own x.1 rows2 vv2 at_ (by omega) _ (hS.get (X := refA b101 own rows2 vv2 true) (by repeat constructor))) ?_); clear hS a; (try clear w); intro a w hS
          refine L_op (s_e hS (e_move rfl) rfl ?_); clear hS a; intro a hS
          refine L_op (s_e hS (e_extract rfl rfl) rfl ?_); clear hS a; intro a hS
          refine L_op (s_e hS (e_extract rfl rfl) rfl ?_); clear hS a; intro a hS
          refine L_op (s_e hS (e_assign rfl) rfl ?_); clear hS a; intro a hS
          refine L_op (s_e hS (e_assign rfl) rfl ?_); clear hS a; intro a hS
          refine L_nil ?_
          refine n_then ?_
          refine c_seq ?_
          refine c_region ?_
          refine L_op (s_e hS (e_move rfl) rfl ?_); clear hS a; intro a hS
          refine L_op (s_e hS (e_move rfl) rfl ?_); clear hS a; intro a hS
          refine L_op (s_e hS (e_bin rfl rfl rfl) rfl ?_); clear hS a; intro a hS
          refine L_op (s_e hS (e_move rfl) rfl ?_); clear hS a; intro a hS
          replace hS := hS.is (t := 169) (c := false) rfl ((decide_eq_false (fun e => e (by rw [hge]))))
          refine L_go hS rfl rfl (s_e hS (e_move rfl) rfl ?_); clear hS a; intro a hS
          refine L_go hS rfl rfl (s_callP hS (.cons rfl .nil) cf16 rfl (Num_w _ _) ?_); clear hS a; (try clear w); intro a w hS
          refine L_go hS rfl rfl (s_e hS (e_move rfl) rfl ?_); clear hS a; intro a hS
          refine L_go hS rfl rfl (s_e hS (e_bin rfl rfl rfl) rfl ?_); clear hS a; intro a hS
          first | (refine L_op (s_e hS (e_pick_t rfl rfl) rfl ?_); clear hS a; intro a hS) | (refine L_op (s_e hS (e_pick_f rfl rfl) rfl ?_); clear hS a; intro a hS)
          refine L_nil ?_
          refine n_then ?_
          replace hS := hS.is (t := 174) (c := false) rfl ((decide_eq_false (fun e => e (by rw [hge]))))
          refine c_if_f hS rfl ?_
          refine wp_skip ?_
          refine n_block ?_
          refine n_then ?_
          refine c_region ?_
          refine L_op (s_e hS (e_move rfl) rfl ?_); clear hS a; intro a hS
          first | (refine L_op (s_e hS (e_binN rfl rfl rfl (by omega)) rfl ?_); clear hS a; intro a hS) | (refine L_op (s_e hS (e_bin rfl rfl rfl) rfl ?_); clear hS a; intro a hS)
          refine L_op (s_e hS (e_assign rfl) rfl ?_); clear hS a; intro a hS
          refine L_nil ?_
          exact ⟨(k + 1, (es2, n2), (rows2, vv2)), by simp only; omega, (hS.slots (by repeat (first | exact trivial | refine ⟨rfl, ?_⟩))).pick (by repeat (first | exact Pick.nil | (refine Pick.cons (by repeat (first | exact Rem.head | apply Rem.tail)) ?_))), by simp only; omega, hrel2, hno2⟩
        ·
          have hwe := worth_eq hrel hno own u ac at_
          have hle := list_eq hrel
          have hes : es.length ≤ 500 := by have h1 := hrel.few; simp [vsT] at h1; omega
          refine wp_exit ?_
          refine x_then (x_then (x_hit ?_))
          refine n_then ?_
          refine c_seq ?_
          refine c_region ?_
          refine L_op (s_e hS (e_move rfl) rfl ?_); clear hS a; intro a hS
          refine L_op (s_e hS (e_loadA rfl (by repeat constructor) ty_st41 ty_sz41 (by rfl)) rfl ?_); clear hS a; intro a hS
          refine L_op (s_e hS (e_move rfl) rfl ?_); clear hS a; intro a hS
          refine L_op (s_callP hS (.cons rfl (.cons rfl (.cons rfl .nil))) cf20 rfl (fxWorth_P x68.1 x68.2 own ac es n u at_ hu _ (hS.get (X := ratesA x68.1 x68.2 own es n true) (by repeat constructor)) hno) ?_); clear hS a; (try clear w); intro a w hS
          refine L_op (s_e hS (e_move rfl) rfl ?_); clear hS a; intro a hS
          refine L_op (s_e hS (e_extract rfl rfl) rfl ?_); clear hS a; intro a hS
          refine L_op (s_e hS (e_extract rfl rfl) rfl ?_); clear hS a; intro a hS
          refine L_op (s_e hS (e_assign rfl) rfl ?_); clear hS a; intro a hS
          refine L_op (s_e hS (e_assign rfl) rfl ?_); clear hS a; intro a hS
          refine L_nil ?_
          refine n_then ?_
          refine c_seq ?_
          refine c_region ?_
          refine L_op (s_e hS (e_move rfl) rfl ?_); clear hS a; intro a hS
          first | (refine L_op (s_e hS (e_fa0 rfl ty_fo41_0) rfl ?_); clear hS a; intro a hS) | (refine L_op (s_e hS (e_faK rfl ty_fo41_0) rfl ?_); clear hS a; intro a hS)
          refine L_op (s_e hS (e_load rfl (by repeat constructor) ty_sc3 (by rfl)) rfl ?_); clear hS a; intro a hS
          first | (refine L_op (s_e hS (e_fa0 rfl ty_fo41_1) rfl ?_); clear hS a; intro a hS) | (refine L_op (s_e hS (e_faK rfl ty_fo41_1) rfl ?_); clear hS a; intro a hS)
          refine L_op (s_e hS (e_load rfl (by repeat constructor) ty_sc9 (by rfl)) rfl ?_); clear hS a; intro a hS
          refine L_op (s_e hS (e_build ty_z90 ty_pl90 (.one rfl rfl rfl (by repeat constructor) (.one rfl rfl rfl (by repeat constructor) .nil))) rfl ?_); clear hS a; intro a hS
          refine L_op (s_e hS (e_move rfl) rfl ?_); clear hS a; intro a hS
          refine L_op (s_callP hS (.cons rfl (.cons rfl (.cons rfl .nil))) cf41 rfl (rWorth_P b101 own ac rows v u at_ (by omega) _ (hS.get (X := refA b101 own rows v true) (by repeat constructor))) ?_); clear hS a; (try clear w); intro a w hS
          refine L_op (s_e hS (e_move rfl) rfl ?_); clear hS a; intro a hS
          refine L_op (s_e hS (e_extract rfl rfl) rfl ?_); clear hS a; intro a hS
          refine L_op (s_e hS (e_extract rfl rfl) rfl ?_); clear hS a; intro a hS
          refine L_op (s_e hS (e_assign rfl) rfl ?_); clear hS a; intro a hS
          refine L_op (s_e hS (e_assign rfl) rfl ?_); clear hS a; intro a hS
          refine L_nil ?_
          refine n_then ?_
          refine c_seq ?_
          refine c_region ?_
          refine L_op (s_e hS (e_move rfl) rfl ?_); clear hS a; intro a hS
          refine L_op (s_callN hS (.cons rfl .nil) cf42 rfl (fxList_P x68.1 x68.2 own es n hes _ (hS.get (X := ratesA x68.1 x68.2 own es n true) (by repeat constructor))) ?_); clear hS a; (try clear w); intro x194 a w hS
          rw [hle] at hS
          obtain ⟨ql, cl, rfl⟩ := own_slice (hS.get (X := ownA 93 3 x194 rows.length (rows.flatMap encR)) (by repeat constructor))
          obtain ⟨qr, cr, rfl⟩ := own_slice (hS.get (X := refA b101 own rows v true) (by repeat constructor)).rows
          have hshl : rows.length = 0 ∨ ∃ g, ql = some ⟨g, 0, none⟩ := by
            have h0 : World.ownsRow w 0 93 3 (.slice ql rows.length cl) rows.length (rows.flatMap encR) := hS.get (X := ownA 93 3 (.slice ql rows.length cl) rows.length (rows.flatMap encR)) (by repeat constructor)
            rcases h0.2 with ⟨e1, e2⟩ | ⟨g, cap, cur, e1, _⟩
            · exact .inl e2
            · injection e1 with e3; exact .inr ⟨g, e3⟩
          have hshr : rows.length = 0 ∨ ∃ g, qr = some ⟨g, 0, none⟩ := by
            have h0 := (hS.get (X := refA b101 own rows (.slice qr rows.length cr) true) (by repeat constructor)).rows
            rcases h0.2 with ⟨e1, e2⟩ | ⟨g, cap, cur, e1, _⟩
            · exact .inl e2
            · injection e1 with e3; exact .inr ⟨g, e3⟩
          refine L_op (s_e hS (e_assign rfl) rfl ?_); clear hS a; intro a hS
          refine L_nil ?_
          refine n_then ?_
          refine c_seq ?_
          refine c_seq ?_
          refine c_region ?_
          refine L_op (s_e hS (e_move rfl) rfl ?_); clear hS a; intro a hS
          refine L_op (s_e hS (e_move rfl) rfl ?_); clear hS a; intro a hS
          refine L_op (s_e hS (e_bin rfl rfl rfl) rfl ?_); clear hS a; intro a hS
          refine L_op (s_e hS (e_move rfl) rfl ?_); clear hS a; intro a hS
          replace hS := hS.is (t := 198) (c := false) rfl ((decide_eq_false (fun e => e (by rw [hwe]))))
          refine L_go hS rfl rfl (s_e hS (e_move rfl) rfl ?_); clear hS a; intro a hS
          refine L_go hS rfl rfl (s_callP hS (.cons rfl .nil) cf16 rfl (Num_w _ _) ?_); clear hS a; (try clear w); intro a w hS
          refine L_go hS rfl rfl (s_e hS (e_move rfl) rfl ?_); clear hS a; intro a hS
          refine L_go hS rfl rfl (s_e hS (e_bin rfl rfl rfl) rfl ?_); clear hS a; intro a hS
          first | (refine L_op (s_e hS (e_pick_t rfl rfl) rfl ?_); clear hS a; intro a hS) | (refine L_op (s_e hS (e_pick_f rfl rfl) rfl ?_); clear hS a; intro a hS)
          refine L_op (s_e hS (e_move rfl) rfl ?_); clear hS a; intro a hS
          replace hS := hS.is (t := 204) (c := false) rfl ((decide_eq_false (fun e => e (by rw [hwe]))))
          refine L_go hS rfl rfl (s_e hS (e_move rfl) rfl ?_); clear hS a; intro a hS
          refine L_go hS rfl rfl (s_e hS (e_len rfl rfl ty_sl91) rfl ?_); clear hS a; intro a hS
          refine L_go hS rfl rfl (s_e hS (e_move rfl) rfl ?_); clear hS a; intro a hS
          refine L_go hS rfl rfl (s_e hS (e_nilCheck rfl) rfl ?_); clear hS a; intro a hS
          first | (refine L_go hS rfl rfl (s_e hS (e_fa0 rfl ty_fo86_1) rfl ?_); clear hS a; intro a hS) | (refine L_go hS rfl rfl (s_e hS (e_faK rfl ty_fo86_1) rfl ?_); clear hS a; intro a hS)
          refine L_go hS rfl rfl (s_e hS (e_loadC rfl ty_sc84 (fun w hh => cell_of_blk (cs := [.string own, .slice qr rows.length cr]) (hh (refA b101 own rows (.slice qr rows.length cr) true) (by repeat constructor)).bk rfl)) rfl ?_); clear hS a; intro a hS
          refine L_go hS rfl rfl (s_e hS (e_len rfl rfl ty_sl84) rfl ?_); clear hS a; intro a hS
          refine L_go hS rfl rfl (s_e hS (e_bin rfl rfl rfl) rfl ?_); clear hS a; intro a hS
          first | (refine L_op (s_e hS (e_pick_t rfl rfl) rfl ?_); clear hS a; intro a hS) | (refine L_op (s_e hS (e_pick_f rfl rfl) rfl ?_); clear hS a; intro a hS)
          refine L_nil ?_
          refine n_then ?_
          replace hS := hS.is (t := 213) (c := false) rfl ((decide_eq_false (fun e => e rfl)))
          refine c_if_f hS rfl ?_
          refine wp_skip ?_
          refine n_then ?_
          refine c_seq ?_
          refine c_seq ?_
          refine c_region ?_
          refine L_op (s_e hS (e_assign rfl) rfl ?_); clear hS a; intro a hS
          refine L_nil ?_
          refine n_then ?_
          refine wp_block ?_
          skip
          refine c_loop (γ := Nat) (fun i a w => St 266 noB w0 a w [(32, .int .i64 (i : Int)), (31, .slice ql rows.length cl), (21, .pointer (some ⟨b101, 0, none⟩))] [ownA 93 3 (.slice ql rows.length cl) rows.length (rows.flatMap encR), refA b101 own rows (.slice qr rows.length cr) true] ∧ i ≤ rows.length) (fun i => rows.length - i) 0 ⟨(hS.slots (by repeat (first | exact trivial | refine ⟨rfl, ?_⟩))).pick (by repeat (first | exact Pick.nil | (refine Pick.cons (by repeat (first | exact Rem.head | apply Rem.tail)) ?_))), Nat.zero_le _⟩ ?_
          clear hS a; (try clear w); intro i a w hI
          obtain ⟨hS, hi⟩ := hI
          refine c_seq ?_
          refine c_seq ?_
          refine c_region ?_
          refine L_op (s_e hS (e_move rfl) rfl ?_); clear hS a; intro a hS
          refine L_op (s_e hS (e_move rfl) rfl ?_); clear hS a; intro a hS
          refine L_op (s_e hS (e_len rfl rfl ty_sl91) rfl ?_); clear hS a; intro a hS
          refine L_op (s_e hS (e_bin rfl rfl rfl) rfl ?_); clear hS a; intro a hS
          refine L_nil ?_
          refine n_then ?_
          first | refine c_ifD hS rfl (fun hc217 => ?_) (fun hc217 => ?_) | refine c_if hS rfl (fun hc217 => ?_) (fun hc217 => ?_)
          ·
            have hil : i < rows.length := by omega
            obtain ⟨x, hx⟩ : ∃ x, rows[i]? = some x := ⟨rows[i], List.getElem?_eq_getElem hil⟩
            obtain ⟨gl, rfl⟩ : ∃ g, ql = some ⟨g, 0, none⟩ := hshl.resolve_left (by omega)
            obtain ⟨gr, rfl⟩ : ∃ g, qr = some ⟨g, 0, none⟩ := hshr.resolve_left (by omega)
            refine wp_skip ?_
            refine n_then ?_
            refine c_seq ?_
            refine wp_block ?_
            refine c_seq ?_
            refine c_drawS [] (by kernel_rfl) hS (sub_cons (X := ownA 93 3 (.slice (some ⟨gl, 0, none⟩) rows.length cl) rows.length (rows.flatMap encR)) (by repeat constructor) (sub_cons (X := refA b101 own rows (.slice (some ⟨gr, 0, none⟩) rows.length cr) true) (by repeat constructor) sub_nil)) ?_; clear hS; (try clear w); intro w hS
            simp only [List.length_cons, List.length_nil, Nat.zero_add, Nat.reduceAdd, List.replicate]
            refine Z_take0 (i := 0) hS rfl want_none (e_move rfl) (listed' := [true, false, false, false, false, false, false, false, false, false, false, false, false, false, false, false, false, false, false, false, false, false, false, false, false, false, false, false, false, false, false, false, false, false, false, false, false, false, false, false, false, false, false, false, false, false]) rfl (by kernel_rfl) (by kernel_rfl) (by kernel_rfl) (fun _ _ _ h => h) rfl ?_; clear hS a; intro a hS
            refine Z_take0 (i := 1) hS rfl want_none (e_move rfl) (listed' := [true, true, false, false, false, false, false, false, false, false, false, false, false, false, false, false, false, false, false, false, false, false, false, false, false, false, false, false, false, false, false, false, false, false, false, false, false, false, false, false, false, false, false, false, false, false]) rfl (by kernel_rfl) (by kernel_rfl) (by kernel_rfl) (fun _ _ _ h => h) rfl ?_; clear hS a; intro a hS
            refine Z_take0 (i := 2) hS rfl want_none (e_ixN rfl rfl ty_sl91 ty_sz93 (by omega)) (listed' := [true, true, true, false, false, false, false, false, false, false, false, false, false, false, false, false, false, false, false, false, false, false, false, false, false, false, false, false, false, false, false, false, false, false, false, false, false, false, false, false, false, false, false, false, false, false]) rfl (by kernel_rfl) (by kernel_rfl) (by kernel_rfl) (fun _ _ _ h => h) rfl ?_; clear hS a; intro a hS
            first | (refine Z_take0 (i := 3) hS rfl want_none (e_fa0 rfl ty_fo93_0) (listed' := [true, true, true, true, false, false, false, false, false, false, false, false, false, false, false, false, false, false, false, false, false, false, false, false, false, false, false, false, false, false, false, false, false, false, false, false, false, false, false, false, false, false, false, false, false, false]) rfl (by kernel_rfl) (by kernel_rfl) (by kernel_rfl) (fun _ _ _ h => h) rfl ?_; clear hS a; intro a hS) | (refine Z_take0 (i := 3) hS rfl want_none (e_faK rfl ty_fo93_0) (listed' := [true, true, true, true, false, false, false, false, false, false, false, false, false, false, false, false, false, false, false, false, false, false, false, false, false, false, false, false, false, false, false, false, false, false, false, false, false, false, false, false, false, false, false, false, false, false]) rfl (by kernel_rfl) (by kernel_rfl) (by kernel_rfl) (fun _ _ _ h => h) rfl ?_; clear hS a; intro a hS)
            refine Z_take (i := 4) hS rfl want_none (e_loadC rfl ty_sc9 (fun w hh => own_get (enc := encR) (fun _ => rfl) (by repeat constructor) hx w hh 0 (.string x.1) rfl)) (listed' := [true, true, true, true, true, false, false, false, false, false, false, false, false, false, false, false, false, false, false, false, false, false, false, false, false, false, false, false, false, false, false, false, false, false, false, false, false, false, false, false, false, false, false, false, false, false]) rfl (by kernel_rfl) (by kernel_rfl) (by kernel_rfl) (by kernel_rfl) (by kernel_rfl) (sub_cons (by repeat constructor) (sub_cons (by repeat constructor) sub_nil)) (fun _ _ _ h => h) rfl ?_; clear hS a; intro a hS
            refine Z_take0 (i := 5) hS rfl want_none (e_move rfl) (listed' := [true, true, true, true, true, true, false, false, false, false, false, false, false, false, false, false, false, false, false, false, false, false, false, false, false, false, false, false, false, false, false, false, false, false, false, false, false, false, false, false, false, false, false, false, false, false]) rfl (by kernel_rfl) (by kernel_rfl) (by kernel_rfl) (fun _ _ _ h => h) rfl ?_; clear hS a; intro a hS
            refine Z_take0 (i := 6) hS rfl want_none (e_nilCheck rfl) (listed' := [true, true, true, true, true, true, true, false, false, false, false, false, false, false, false, false, false, false, false, false, false, false, false, false, false, false, false, false, false, false, false, false, false, false, false, false, false, false, false, false, false, false, false, false, false, false]) rfl (by kernel_rfl) (by kernel_rfl) (by kernel_rfl) (fun _ _ _ h => h) rfl ?_; clear hS a; intro a hS
            first | (refine Z_take0 (i := 7) hS rfl want_none (e_fa0 rfl ty_fo86_1) (listed' := [true, true, true, true, true, true, true, true, false, false, false, false, false, false, false, false, false, false, false, false, false, false, false, false, false, false, false, false, false, false, false, false, false, false, false, false, false, false, false, false, false, false, false, false, false, false]) rfl (by kernel_rfl) (by kernel_rfl) (by kernel_rfl) (fun _ _ _ h => h) rfl ?_; clear hS a; intro a hS) | (refine Z_take0 (i := 7) hS rfl want_none (e_faK rfl ty_fo86_1) (listed' := [true, true, true, true, true, true, true, true, false, false, false, false, false, false, false, false, false, false, false, false, false, false, false, false, false, false, false, false, false, false, false, false, false, false, false, false, false, false, false, false, false, false, false, false, false, false]) rfl (by kernel_rfl) (by kernel_rfl) (by kernel_rfl) (fun _ _ _ h => h) rfl ?_; clear hS a; intro a hS)
            refine Z_take (i := 8) hS rfl want_none (e_loadC rfl ty_sc84 (fun w hh => cell_of_blk (cs := [.string own, .slice (some ⟨gr, 0, none⟩) rows.length cr]) (hh (refA b101 own rows (.slice (some ⟨gr, 0, none⟩) rows.length cr) true) (by repeat constructor)).bk rfl)) (listed' := [true, true, true, true, true, true, true, true, true, false, false, false, false, false, false, false, false, false, false, false, false, false, false, false, false, false, false, false, false, false, false, false, false, false, false, false, false, false, false, false, false, false, false, false, false, false]) rfl (by kernel_rfl) (by kernel_rfl) (by kernel_rfl) (by kernel_rfl) (by kernel_rfl) (sub_cons (by repeat constructor) (sub_cons (by repeat constructor) sub_nil)) (fun _ _ _ h => h) rfl ?_; clear hS a; intro a hS
            refine Z_take0 (i := 9) hS rfl want_none (e_move rfl) (listed' := [true, true, true, true, true, true, true, true, true, true, false, false, false, false, false, false, false, false, false, false, false, false, false, false, false, false, false, false, false, false, false, false, false, false, false, false, false, false, false, false, false, false, false, false, false, false]) rfl (by kernel_rfl) (by kernel_rfl) (by kernel_rfl) (fun _ _ _ h => h) rfl ?_; clear hS a; intro a hS
            refine Z_take0 (i := 10) hS rfl want_none (e_ixN rfl rfl ty_sl84 ty_sz94 (by omega)) (listed' := [true, true, true, true, true, true, true, true, true, true, true, false, false, false, false, false, false, false, false, false, false, false, false, false, false, false, false, false, false, false, false, false, false, false, false, false, false, false, false, false, false, false, false, false, false, false]) rfl (by kernel_rfl) (by kernel_rfl) (by kernel_rfl) (fun _ _ _ h => h) rfl ?_; clear hS a; intro a hS
            first | (refine Z_take0 (i := 11) hS rfl want_none (e_fa0 rfl ty_fo94_0) (listed' := [true, true, true, true, true, true, true, true, true, true, true, true, false, false, false, false, false, false, false, false, false, false, false, false, false, false, false, false, false, false, false, false, false, false, false, false, false, false, false, false, false, false, false, false, false, false]) rfl (by kernel_rfl) (by kernel_rfl) (by kernel_rfl) (fun _ _ _ h => h) rfl ?_; clear hS a; intro a hS) | (refine Z_take0 (i := 11) hS rfl want_none (e_faK rfl ty_fo94_0) (listed' := [true, true, true, true, true, true, true, true, true, true, true, true, false, false, false, false, false, false, false, false, false, false, false, false, false, false, false, false, false, false, false, false, false, false, false, false, false, false, false, false, false, false, false, false, false, false]) rfl (by kernel_rfl) (by kernel_rfl) (by kernel_rfl) (fun _ _ _ h => h) rfl ?_; clear hS a; intro a hS)
            refine Z_take (i := 12) hS rfl want_none (e_loadC rfl ty_sc9 (fun w hh => ref_row (hh (refA b101 own rows (.slice (some ⟨gr, 0, none⟩) rows.length cr) true) (by repeat constructor)) hx 0 (.string x.1) rfl)) (listed' := [true, true, true, true, true, true, true, true, true, true, true, true, true, false, false, false, false, false, false, false, false, false, false, false, false, false, false, false, false, false, false, false, false, false, false, false, false, false, false, false, false, false, false, false, false, false]) rfl (by kernel_rfl) (by kernel_rfl) (by kernel_rfl) (by kernel_rfl) (by kernel_rfl) (sub_cons (by repeat constructor) (sub_cons (by repeat constructor) sub_nil)) (fun _ _ _ h => h) rfl ?_; clear hS a; intro a hS
            refine Z_take0 (i := 13) hS rfl want_none (e_binS rfl rfl rfl) (listed' := [true, true, true, true, true, true, true, true, true, true, true, true, true, true, false, false, false, false, false, false, false, false, false, false, false, false, false, false, false, false, false, false, false, false, false, false, false, false, false, false, false, false, false, false, false, false]) rfl (by kernel_rfl) (by kernel_rfl) (by kernel_rfl) (fun _ _ _ h => h) rfl ?_; clear hS a; intro a hS
            refine Z_take0 (i := 14) hS rfl want_none (e_move rfl) (listed' := [true, true, true, true, true, true, true, true, true, true, true, true, true, true, true, false, false, false, false, false, false, false, false, false, false, false, false, false, false, false, false, false, false, false, false, false, false, false, false, false, false, false, false, false, false, false]) rfl (by kernel_rfl) (by kernel_rfl) (by kernel_rfl) (fun _ _ _ h => h) rfl ?_; clear hS a; intro a hS
            replace hS := hS.is (t := 234) (c := false) rfl ((decide_eq_false (fun e => e rfl)))
            refine Z_take0 (i := 15) hS rfl (want_go rfl rfl) (e_move rfl) (listed' := [true, true, true, true, true, true, true, true, true, true, true, true, true, true, true, true, false, false, false, false, false, false, false, false, false, false, false, false, false, false, false, false, false, false, false, false, false, false, false, false, false, false, false, false, false, false]) rfl (by kernel_rfl) (by kernel_rfl) (by kernel_rfl) (fun _ _ _ h => h) rfl ?_; clear hS a; intro a hS
            refine Z_take0 (i := 16) hS rfl (want_go rfl rfl) (e_move rfl) (listed' := [true, true, true, true, true, true, true, true, true, true, true, true, true, true, true, true, true, false, false, false, false, false, false, false, false, false, false, false, false, false, false, false, false, false, false, false, false, false, false, false, false, false, false, false, false, false]) rfl (by kernel_rfl) (by kernel_rfl) (by kernel_rfl) (fun _ _ _ h => h) rfl ?_; clear hS a; intro a hS
            refine Z_take0 (i := 17) hS rfl (want_go rfl rfl) (e_ixN rfl rfl ty_sl91 ty_sz93 (by omega)) (listed' := [true, true, true, true, true, true, true, true, true, true, true, true, true, true, true, true, true, true, false, false, false, false, false, false, false, false, false, false, false, false, false, false, false, false, false, false, false, false, false, false, false, false, false, false, false, false]) rfl (by kernel_rfl) (by kernel_rfl) (by kernel_rfl) (fun _ _ _ h => h) rfl ?_; clear hS a; intro a hS
            first | (refine Z_take0 (i := 18) hS rfl (want_go rfl rfl) (e_fa0 rfl ty_fo93_1) (listed' := [true, true, true, true, true, true, true, true, true, true, true, true, true, true, true, true, true, true, true, false, false, false, false, false, false, false, false, false, false, false, false, false, false, false, false, false, false, false, false, false, false, false, false, false, false, false]) rfl (by kernel_rfl) (by kernel_rfl) (by kernel_rfl) (fun _ _ _ h => h) rfl ?_; clear hS a; intro a hS) | (refine Z_take0 (i := 18) hS rfl (want_go rfl rfl) (e_faK rfl ty_fo93_1) (listed' := [true, true, true, true, true, true, true, true, true, true, true, true, true, true, true, true, true, true, true, false, false, false, false, false, false, false, false, false, false, false, false, false, false, false, false, false, false, false, false, false, false, false, false, false, false, false]) rfl (by kernel_rfl) (by kernel_rfl) (by kernel_rfl) (fun _ _ _ h => h) rfl ?_; clear hS a; intro a hS)
            refine Z_take (i := 19) hS rfl (want_go rfl rfl) (e_loadC rfl ty_sc3 (fun w hh => own_get (enc := encR) (fun _ => rfl) (by repeat constructor) hx w hh 1 (.int .i64 x.2.1) rfl)) (listed' := [true, true, true, true, true, true, true, true, true, true, true, true, true, true, true, true, true, true, true, true, false, false, false, false, false, false, false, false, false, false, false, false, false, false, false, false, false, false, false, false, false, false, false, false, false, false]) rfl (by kernel_rfl) (by kernel_rfl) (by kernel_rfl) (by kernel_rfl) (by kernel_rfl) (sub_cons (by repeat constructor) (sub_cons (by repeat constructor) sub_nil)) (fun _ _ _ h => h) rfl ?_; clear hS a; intro a hS
            refine Z_take0 (i := 20) hS rfl (want_go rfl rfl) (e_move rfl) (listed' := [true, true, true, true, true, true, true, true, true, true, true, true, true, true, true, true, true, true, true, true, true, false, false, false, false, false, false, false, false, false, false, false, false, false, false, false, false, false, false, false, false, false, false, false, false, false]) rfl (by kernel_rfl) (by kernel_rfl) (by kernel_rfl) (fun _ _ _ h => h) rfl ?_; clear hS a; intro a hS
            refine Z_take0 (i := 21) hS rfl (want_go rfl rfl) (e_nilCheck rfl) (listed' := [true, true, true, true, true, true, true, true, true, true, true, true, true, true, true, true, true, true, true, true, true, true, false, false, false, false, false, false, false, false, false, false, false, false, false, false, false, false, false, false, false, false, false, false, false, false]) rfl (by kernel_rfl) (by kernel_rfl) (by kernel_rfl) (fun _ _ _ h => h) rfl ?_; clear hS a; intro a hS
            first | (refine Z_take0 (i := 22) hS rfl (want_go rfl rfl) (e_fa0 rfl ty_fo86_1) (listed' := [true, true, true, true, true, true, true, true, true, true, true, true, true, true, true, true, true, true, true, true, true, true, true, false, false, false, false, false, false, false, false, false, false, false, false, false, false, false, false, false, false, false, false, false, false, false]) rfl (by kernel_rfl) (by kernel_rfl) (by kernel_rfl) (fun _ _ _ h => h) rfl ?_; clear hS a; intro a hS) | (refine Z_take0 (i := 22) hS rfl (want_go rfl rfl) (e_faK rfl ty_fo86_1) (listed' := [true, true, true, true, true, true, true, true, true, true, true, true, true, true, true, true, true, true, true, true, true, true, true, false, false, false, false, false, false, false, false, false, false, false, false, false, false, false, false, false, false, false, false, false, false, false]) rfl (by kernel_rfl) (by kernel_rfl) (by kernel_rfl) (fun _ _ _ h => h) rfl ?_; clear hS a; intro a hS)
            refine Z_take (i := 23) hS rfl (want_go rfl rfl) (e_loadC rfl ty_sc84 (fun w hh => cell_of_blk (cs := [.string own, .slice (some ⟨gr, 0, none⟩) rows.length cr]) (hh (refA b101 own rows (.slice (some ⟨gr, 0, none⟩) rows.length cr) true) (by repeat constructor)).bk rfl)) (listed' := [true, true, true, true, true, true, true, true, true, true, true, true, true, true, true, true, true, true, true, true, true, true, true, true, false, false, false, false, false, false, false, false, false, false, false, false, false, false, false, false, false, false, false, false, false, false]) rfl (by kernel_rfl) (by kernel_rfl) (by kernel_rfl) (by kernel_rfl) (by kernel_rfl) (sub_cons (by repeat constructor) (sub_cons (by repeat constructor) sub_nil)) (fun _ _ _ h => h) rfl ?_; clear hS a; intro a hS
            refine Z_take0 (i := 24) hS rfl (want_go rfl rfl) (e_move rfl) (listed' := [true, true, true, true, true, true, true, true, true, true, true, true, true, true, true, true, true, true, true, true, true, true, true, true, true, false, false, false, false, false, false, false, false, false, false, false, false, false, false, false, false, false, false, false, false, false]) rfl (by kernel_rfl) (by kernel_rfl) (by kernel_rfl) (fun _ _ _ h => h) rfl ?_; clear hS a; intro a hS
            refine Z_take0 (i := 25) hS rfl (want_go rfl rfl) (e_ixN rfl rfl ty_sl84 ty_sz94 (by omega)) (listed' := [true, true, true, true, true, true, true, true, true, true, true, true, true, true, true, true, true, true, true, true, true, true, true, true, true, true, false, false, false, false, false, false, false, false, false, false, false, false, false, false, false, false, false, false, false, false]) rfl (by kernel_rfl) (by kernel_rfl) (by kernel_rfl) (fun _ _ _ h => h) rfl ?_; clear hS a; intro a hS
            first | (refine Z_take0 (i := 26) hS rfl (want_go rfl rfl) (e_fa0 rfl ty_fo94_1) (listed' := [true, true, true, true, true, true, true, true, true, true, true, true, true, true, true, true, true, true, true, true, true, true, true, true, true, true, true, false, false, false, false, false, false, false, false, false, false, false, false, false, false, false, false, false, false, false]) rfl (by kernel_rfl) (by kernel_rfl) (by kernel_rfl) (fun _ _ _ h => h) rfl ?_; clear hS a; intro a hS) | (refine Z_take0 (i := 26) hS rfl (want_go rfl rfl) (e_faK rfl ty_fo94_1) (listed' := [true, true, true, true, true, true, true, true, true, true, true, true, true, true, true, true, true, true, true, true, true, true, true, true, true, true, true, false, false, false, false, false, false, false, false, false, false, false, false, false, false, false, false, false, false, false]) rfl (by kernel_rfl) (by kernel_rfl) (by kernel_rfl) (fun _ _ _ h => h) rfl ?_; clear hS a; intro a hS)
            refine Z_take (i := 27) hS rfl (want_go rfl rfl) (e_loadC rfl ty_sc3 (fun w hh => ref_row (hh (refA b101 own rows (.slice (some ⟨gr, 0, none⟩) rows.length cr) true) (by repeat constructor)) hx 1 (.int .i64 x.2.1) rfl)) (listed' := [true, true, true, true, true, true, true, true, true, true, true, true, true, true, true, true, true, true, true, true, true, true, true, true, true, true, true, true, false, false, false, false, false, false, false, false, false, false, false, false, false, false, false, false, false, false]) rfl (by kernel_rfl) (by kernel_rfl) (by kernel_rfl) (by kernel_rfl) (by kernel_rfl) (sub_cons (by repeat constructor) (sub_cons (by repeat constructor) sub_nil)) (fun _ _ _ h => h) rfl ?_; clear hS a; intro a hS
            refine Z_take0 (i := 28) hS rfl (want_go rfl rfl) (e_bin rfl rfl rfl) (listed' := [true, true, true, true, true, true, true, true, true, true, true, true, true, true, true, true, true, true, true, true, true, true, true, true, true, true, true, true, true, false, false, false, false, false, false, false, false, false, false, false, false, false, false, false, false, false]) rfl (by kernel_rfl) (by kernel_rfl) (by kernel_rfl) (fun _ _ _ h => h) rfl ?_; clear hS a; intro a hS
            first | (refine Z_take0 (i := 29) hS rfl want_none (e_pick_t rfl rfl) (listed' := [true, true, true, true, true, true, true, true, true, true, true, true, true, true, true, true, true, true, true, true, true, true, true, true, true, true, true, true, true, true, false, false, false, false, false, false, false, false, false, false, false, false, false, false, false, false]) rfl (by kernel_rfl) (by kernel_rfl) (by kernel_rfl) (fun _ _ _ h => h) rfl ?_; clear hS a; intro a hS) | (refine Z_take0 (i := 29) hS rfl want_none (e_pick_f rfl rfl) (listed' := [true, true, true, true, true, true, true, true, true, true, true, true, true, true, true, true, true, true, true, true, true, true, true, true, true, true, true, true, true, true, false, false, false, false, false, false, false, false, false, false, false, false, false, false, false, false]) rfl (by kernel_rfl) (by kernel_rfl) (by kernel_rfl) (fun _ _ _ h => h) rfl ?_; clear hS a; intro a hS)
            refine Z_take0 (i := 30) hS rfl want_none (e_move rfl) (listed' := [true, true, true, true, true, true, true, true, true, true, true, true, true, true, true, true, true, true, true, true, true, true, true, true, true, true, true, true, true, true, true, false, false, false, false, false, false, false, false, false, false, false, false, false, false, false]) rfl (by kernel_rfl) (by kernel_rfl) (by kernel_rfl) (fun _ _ _ h => h) rfl ?_; clear hS a; intro a hS
            replace hS := hS.is (t := 250) (c := false) rfl ((decide_eq_false (fun e => e rfl)))
            refine Z_take0 (i := 31) hS rfl (want_go rfl rfl) (e_move rfl) (listed' := [true, true, true, true, true, true, true, true, true, true, true, true, true, true, true, true, true, true, true, true, true, true, true, true, true, true, true, true, true, true, true, true, false, false, false, false, false, false, false, false, false, false, false, false, false, false]) rfl (by kernel_rfl) (by kernel_rfl) (by kernel_rfl) (fun _ _ _ h => h) rfl ?_; clear hS a; intro a hS
            refine Z_take0 (i := 32) hS rfl (want_go rfl rfl) (e_move rfl) (listed' := [true, true, true, true, true, true, true, true, true, true, true, true, true, true, true, true, true, true, true, true, true, true, true, true, true, true, true, true, true, true, true, true, true, false, false, false, false, false, false, false, false, false, false, false, false, false]) rfl (by kernel_rfl) (by kernel_rfl) (by kernel_rfl) (fun _ _ _ h => h) rfl ?_; clear hS a; intro a hS
            refine Z_take0 (i := 33) hS rfl (want_go rfl rfl) (e_ixN rfl rfl ty_sl91 ty_sz93 (by omega)) (listed' := [true, true, true, true, true, true, true, true, true, true, true, true, true, true, true, true, true, true, true, true, true, true, true, true, true, true, true, true, true, true, true, true, true, true, false, false, false, false, false, false, false, false, false, false, false, false]) rfl (by kernel_rfl) (by kernel_rfl) (by kernel_rfl) (fun _ _ _ h => h) rfl ?_; clear hS a; intro a hS
            first | (refine Z_take0 (i := 34) hS rfl (want_go rfl rfl) (e_fa0 rfl ty_fo93_2) (listed' := [true, true, true, true, true, true, true, true, true, true, true, true, true, true, true, true, true, true, true, true, true, true, true, true, true, true, true, true, true, true, true, true, true, true, true, false, false, false, false, false, false, false, false, false, false, false]) rfl (by kernel_rfl) (by kernel_rfl) (by kernel_rfl) (fun _ _ _ h => h) rfl ?_; clear hS a; intro a hS) | (refine Z_take0 (i := 34) hS rfl (want_go rfl rfl) (e_faK rfl ty_fo93_2) (listed' := [true, true, true, true, true, true, true, true, true, true, true, true, true, true, true, true, true, true, true, true, true, true, true, true, true, true, true, true, true, true, true, true, true, true, true, false, false, false, false, false, false, false, false, false, false, false]) rfl (by kernel_rfl) (by kernel_rfl) (by kernel_rfl) (fun _ _ _ h => h) rfl ?_; clear hS a; intro a hS)
            refine Z_take (i := 35) hS rfl (want_go rfl rfl) (e_loadC rfl ty_sc3 (fun w hh => own_get (enc := encR) (fun _ => rfl) (by repeat constructor) hx w hh 2 (.int .i64 x.2.2) rfl)) (listed' := [true, true, true, true, true, true, true, true, true, true, true, true, true, true, true, true, true, true, true, true, true, true, true, true, true, true, true, true, true, true, true, true, true, true, true, true, false, false, false, false, false, false, false, false, false, false]) rfl (by kernel_rfl) (by kernel_rfl) (by kernel_rfl) (by kernel_rfl) (by kernel_rfl) (sub_cons (by repeat constructor) (sub_cons (by repeat constructor) sub_nil)) (fun _ _ _ h => h) rfl ?_; clear hS a; intro a hS
            refine Z_take0 (i := 36) hS rfl (want_go rfl rfl) (e_move rfl) (listed' := [true, true, true, true, true, true, true, true, true, true, true, true, true, true, true, true, true, true, true, true, true, true, true, true, true, true, true, true, true, true, true, true, true, true, true, true, true, false, false, false, false, false, false, false, false, false]) rfl (by kernel_rfl) (by kernel_rfl) (by kernel_rfl) (fun _ _ _ h => h) rfl ?_; clear hS a; intro a hS
            refine Z_take0 (i := 37) hS rfl (want_go rfl rfl) (e_nilCheck rfl) (listed' := [true, true, true, true, true, true, true, true, true, true, true, true, true, true, true, true, true, true, true, true, true, true, true, true, true, true, true, true, true, true, true, true, true, true, true, true, true, true, false, false, false, false, false, false, false, false]) rfl (by kernel_rfl) (by kernel_rfl) (by kernel_rfl) (fun _ _ _ h => h) rfl ?_; clear hS a; intro a hS
            first | (refine Z_take0 (i := 38) hS rfl (want_go rfl rfl) (e_fa0 rfl ty_fo86_1) (listed' := [true, true, true, true, true, true, true, true, true, true, true, true, true, true, true, true, true, true, true, true, true, true, true, true, true, true, true, true, true, true, true, true, true, true, true, true, true, true, true, false, false, false, false, false, false, false]) rfl (by kernel_rfl) (by kernel_rfl) (by kernel_rfl) (fun _ _ _ h => h) rfl ?_; clear hS a; intro a hS) | (refine Z_take0 (i := 38) hS rfl (want_go rfl rfl) (e_faK rfl ty_fo86_1) (listed' := [true, true, true, true, true, true, true, true, true, true, true, true, true, true, true, true, true, true, true, true, true, true, true, true, true, true, true, true, true, true, true, true, true, true, true, true, true, true, true, false, false, false, false, false, false, false]) rfl (by kernel_rfl) (by kernel_rfl) (by kernel_rfl) (fun _ _ _ h => h) rfl ?_; clear hS a; intro a hS)
            refine Z_take (i := 39) hS rfl (want_go rfl rfl) (e_loadC rfl ty_sc84 (fun w hh => cell_of_blk (cs := [.string own, .slice (some ⟨gr, 0, none⟩) rows.length cr]) (hh (refA b101 own rows (.slice (some ⟨gr, 0, none⟩) rows.length cr) true) (by repeat constructor)).bk rfl)) (listed' := [true, true, true, true, true, true, true, true, true, true, true, true, true, true, true, true, true, true, true, true, true, true, true, true, true, true, true, true, true, true, true, true, true, true, true, true, true, true, true, true, false, false, false, false, false, false]) rfl (by kernel_rfl) (by kernel_rfl) (by kernel_rfl) (by kernel_rfl) (by kernel_rfl) (sub_cons (by repeat constructor) (sub_cons (by repeat constructor) sub_nil)) (fun _ _ _ h => h) rfl ?_; clear hS a; intro a hS
            refine Z_take0 (i := 40) hS rfl (want_go rfl rfl) (e_move rfl) (listed' := [true, true, true, true, true, true, true, true, true, true, true, true, true, true, true, true, true, true, true, true, true, true, true, true, true, true, true, true, true, true, true, true, true, true, true, true, true, true, true, true, true, false, false, false, false, false]) rfl (by kernel_rfl) (by kernel_rfl) (by kernel_rfl) (fun _ _ _ h => h) rfl ?_; clear hS a; intro a hS
            refine Z_take0 (i := 41) hS rfl (want_go rfl rfl) (e_ixN rfl rfl ty_sl84 ty_sz94 (by omega)) (listed' := [true, true, true, true, true, true, true, true, true, true, true, true, true, true, true, true, true, true, true, true, true, true, true, true, true, true, true, true, true, true, true, true, true, true, true, true, true, true, true, true, true, true, false, false, false, false]) rfl (by kernel_rfl) (by kernel_rfl) (by kernel_rfl) (fun _ _ _ h => h) rfl ?_; clear hS a; intro a hS
            first | (refine Z_take0 (i := 42) hS rfl (want_go rfl rfl) (e_fa0 rfl ty_fo94_2) (listed' := [true, true, true, true, true, true, true, true, true, true, true, true, true, true, true, true, true, true, true, true, true, true, true, true, true, true, true, true, true, true, true, true, true, true, true, true, true, true, true, true, true, true, true, false, false, false]) rfl (by kernel_rfl) (by kernel_rfl) (by kernel_rfl) (fun _ _ _ h => h) rfl ?_; clear hS a; intro a hS) | (refine Z_take0 (i := 42) hS rfl (want_go rfl rfl) (e_faK rfl ty_fo94_2) (listed' := [true, true, true, true, true, true, true, true, true, true, true, true, true, true, true, true, true, true, true, true, true, true, true, true, true, true, true, true, true, true, true, true, true, true, true, true, true, true, true, true, true, true, true, false, false, false]) rfl (by kernel_rfl) (by kernel_rfl) (by kernel_rfl) (fun _ _ _ h => h) rfl ?_; clear hS a; intro a hS)
            refine Z_take (i := 43) hS rfl (want_go rfl rfl) (e_loadC rfl ty_sc3 (fun w hh => ref_row (hh (refA b101 own rows (.slice (some ⟨gr, 0, none⟩) rows.length cr) true) (by repeat constructor)) hx 2 (.int .i64 x.2.2) rfl)) (listed' := [true, true, true, true, true, true, true, true, true, true, true, true, true, true, true, true, true, true, true, true, true, true, true, true, true, true, true, true, true, true, true, true, true, true, true, true, true, true, true, true, true, true, true, true, false, false]) rfl (by kernel_rfl) (by kernel_rfl) (by kernel_rfl) (by kernel_rfl) (by kernel_rfl) (sub_cons (by repeat constructor) (sub_cons (by repeat constructor) sub_nil)) (fun _ _ _ h => h) rfl ?_; clear hS a; intro a hS
            refine Z_take0 (i := 44) hS rfl (want_go rfl rfl) (e_bin rfl rfl rfl) (listed' := [true, true, true, true, true, true, true, true, true, true, true, true, true, true, true, true, true, true, true, true, true, true, true, true, true, true, true, true, true, true, true, true, true, true, true, true, true, true, true, true, true, true, true, true, true, false]) rfl (by kernel_rfl) (by kernel_rfl) (by kernel_rfl) (fun _ _ _ h => h) rfl ?_; clear hS a; intro a hS
            first | (refine Z_take0 (i := 45) hS rfl want_none (e_pick_t rfl rfl) (listed' := [true, true, true, true, true, true, true, true, true, true, true, true, true, true, true, true, true, true, true, true, true, true, true, true, true, true, true, true, true, true, true, true, true, true, true, true, true, true, true, true, true, true, true, true, true, true]) rfl (by kernel_rfl) (by kernel_rfl) (by kernel_rfl) (fun _ _ _ h => h) rfl ?_; clear hS a; intro a hS) | (refine Z_take0 (i := 45) hS rfl want_none (e_pick_f rfl rfl) (listed' := [true, true, true, true, true, true, true, true, true, true, true, true, true, true, true, true, true, true, true, true, true, true, true, true, true, true, true, true, true, true, true, true, true, true, true, true, true, true, true, true, true, true, true, true, true, true]) rfl (by kernel_rfl) (by kernel_rfl) (by kernel_rfl) (fun _ _ _ h => h) rfl ?_; clear hS a; intro a hS)
            refine Z_done (by kernel_rfl) ?_
            refine n_then ?_
            replace hS := hS.is (t := 265) (c := false) rfl ((decide_eq_false (fun e => e rfl)))
            refine c_if_f hS rfl ?_
            refine wp_skip ?_
            refine n_block ?_
            refine n_then ?_
            refine c_region ?_
            refine L_op (s_e hS (e_move rfl) rfl ?_); clear hS a; intro a hS
            first | (refine L_op (s_e hS (e_binN rfl rfl rfl (by omega)) rfl ?_); clear hS a; intro a hS) | (refine L_op (s_e hS (e_bin rfl rfl rfl) rfl ?_); clear hS a; intro a hS)
            refine L_op (s_e hS (e_assign rfl) rfl ?_); clear hS a; intro a hS
            refine L_nil ?_
            exact ⟨i + 1, by omega, hS.slots (by repeat (first | exact trivial | refine ⟨rfl, ?_⟩)), by omega⟩
          ·
            refine wp_exit ?_
            refine x_then (x_then (x_hit ?_))
            refine n_then ?_
            refine c_seq ?_
            refine c_region ?_
            refine L_op (s_e hS (e_assign rfl) rfl ?_); clear hS a; intro a hS
            refine L_nil ?_
            refine n_then ?_
            refine wp_ret ?_
            refine c_ret1 hS Try.results10 (.tmp rfl) ?_
            exact ⟨rfl, hS.chg⟩
theorem FxRates_P (own : ByteArray) (p : Option (Nat × Nat)) (c : Nat) (l : List RR) (hlen : l.length ≤ 4611686018427387904) (hfit : ∀ x ∈ l, rrFits x) (u : Int) (ac : ByteArray) (at_ units nano : Int) (hu : -9223372036854775808 ≤ u ∧ u ≤ 9223372036854775807) (hun : -9223372036854775808 ≤ units ∧ units ≤ 9223372036854775807) (hna : -9223372036854775808 ≤ nano ∧ nano ≤ 9223372036854775807)
    (w0 : World) (h : RowP p 3 (l.map encR) w0) (hb : ∀ q, p = some q → q.1 < w0.heap.size) :
    PureC Try.prog 10 [.string own, sliceV p l.length c, .agg [.int .i64 u, .string ac].toArray, .int .i64 at_, .int .i64 units, .int .i64 nano] w0 (.bool true) := by
  by_cases hsc : (scaleR own).2 = 0
  · exact FxRates_yes own p c l hlen hfit u ac at_ units nano hu hun hna w0 h hb hsc
  · exact FxRates_no own p c l hlen hfit u ac at_ units nano hun hna w0 h hb hsc
end Go.Proofs.Ytheofhegdjjfgaa

namespace Go.Proofs.Ytheofhegdjjfgaa.Open
set_option maxRecDepth 100000
open Go.ChangeShapes Go.WideShapes Go.Deep
theorem open_amt {H : Type} {enc : TypeId × Value → H} {W : World} {base : Nat} {v : Value} {d : DataW H} {pl : List MemPlace} (hval : Value.okWide Try.prog W .any base 41 v) (h : DataW.Trod enc Try.prog W 0 (fun _ => true) true 41 v d pl) :
    ∃ (u : Int) (s : ByteArray), v = .agg [.int .i64 u, .string s].toArray ∧ (-9223372036854775808 ≤ u ∧ u ≤ 9223372036854775807) := by
  obtain ⟨v0, v1, y0, y1, n, rfl, hd, _, t0, t1⟩ := Go.Joins.open_agg2 Try.underlying41 (by kernel_rfl) (by kernel_rfl) hval h
  obtain ⟨n1, e1, z1, w1⟩ := DataW.trod_int Try.underlying3 t0
  obtain ⟨s, e0, z0, w0⟩ := DataW.trod_string Try.underlying9 t1
  simp only [List.cons.injEq, and_true] at e0 e1
  subst e0 e1
  exact ⟨n1, s, rfl, bounds_i64 w1⟩
end Go.Proofs.Ytheofhegdjjfgaa.Open

namespace Go.Proofs.Ytheofhegdjjfgaa.fxRates
open Go.ChangeShapes Go.WideShapes Go.ChangeAt Go.RowKit Go.Joins
open Go.ChangeMaps (open_string shut_string)

theorem own : ownKnob Try.prog.godebug = none := by kernel_rfl
theorem laidOut : laidOutB Try.prog = true := by kernel_rfl

set_option maxRecDepth 100000 in
theorem lifted (os : Os) (started : os.Started) (H : Type) (enc : TypeId × Value → H) :
    ReturnsInHanded {} Try.checked os 10 .any (Rows.fxRatesSpec.pre6 enc Try.prog Try.f10 Rows.fxRatesRow.domain false) (Rows.fxRatesSpec.post enc Try.prog Try.f10 false true false false) := by
  refine returnsInHanded_of_change_sized (C := Try.checked) own started (by kernel_rfl) Try.func10
    (ChangeSpec.witness6 (enc := enc) (C := Try.checked) false ⟨#[], #[.string ByteArray.empty, .slice none 0 0, .agg #[.int .i64 0, .string ByteArray.empty], .int .i64 0, .int .i64 0, .int .i64 0], []⟩ 8 (by kernel_rfl) (by kernel_rfl) (by kernel_rfl) (by kernel_rfl)) ?_
  intro W base args ds gs before hval0 hW hcnd hsz0 _
  have hval : ∀ (j : Nat) t v, Try.f10.params[j]? = some t → args[j]? = some v → Value.okWide Try.prog W .any base t v := hval0
  have hW' := hW
  obtain ⟨p, q, hA0, hV, rfl, hfz, hnd⟩ := hW
  have hsz : (DataW.weightsEach Try.prog (Try.f10.params.toList ++ Rows.fxRatesSpec.plain.varTypes Try.prog) (ds ++ gs)).all (· ≤ reachBytes) = true := hsz0
  have hA : DataW.TrodAll enc Try.prog W 0 (fun _ => true) true Try.f10.params.toList args.toList ds p := hA0
  rw [Try.params10] at hA hval hsz
  obtain ⟨v0, vs0, d0, ds0, p0, q0, hargs, rfl, rfl, h0, r0⟩ := trodAll_cons hA
  obtain ⟨v1, vs1, d1, ds1, p1, q1, rfl, rfl, rfl, h1, r1⟩ := trodAll_cons r0
  obtain ⟨v2, vs2, d2, ds2, p2, q2, rfl, rfl, rfl, h2, r2⟩ := trodAll_cons r1
  obtain ⟨v3, vs3, d3, ds3, p3, q3, rfl, rfl, rfl, h3, r3⟩ := trodAll_cons r2
  obtain ⟨v4, vs4, d4, ds4, p4, q4, rfl, rfl, rfl, h4, r4⟩ := trodAll_cons r3
  obtain ⟨v5, vs5, d5, ds5, p5, q5, rfl, rfl, rfl, h5, r5⟩ := trodAll_cons r4
  obtain ⟨rfl, rfl, rfl⟩ := trodAll_nil r5
  obtain rfl : args = #[v0, v1, v2, v3, v4, v5] := by cases args; simp_all
  obtain ⟨rfl, rfl⟩ := trodVars_none hV
  have k0 := h0
  have lt0 : ∀ x ∈ p0, x.block < W.heap.size := by obtain ⟨m, hm⟩ := k0; exact DataW.trod_lt m _ _ _ hm
  obtain ⟨a0, rfl, rfl, rfl, w0⟩ := open_string Try.underlying9 (hval 0 9 v0 rfl rfl) h0
  have k1 := h1
  have lt1 : ∀ x ∈ p1, x.block < W.heap.size := by obtain ⟨m, hm⟩ := k1; exact DataW.trod_lt m _ _ _ hm
  have z1 : ∀ n ∈ d1.weights Try.prog 22, n ≤ reachBytes := fun n hn => by simpa using List.all_eq_true.1 hsz n (DataW.weights_mem_each (j := 1) (t := 22) (d := d1) rfl rfl n hn)
  obtain ⟨s1, l1, c1, rfl, y1, f1, m1, e1, g1⟩ := Open.open_sets (hval 1 22 v1 rfl rfl) h1 z1
  have k2 := h2
  have lt2 : ∀ x ∈ p2, x.block < W.heap.size := by obtain ⟨m, hm⟩ := k2; exact DataW.trod_lt m _ _ _ hm
  obtain ⟨x2, c2, rfl, f2⟩ := Open.open_amt (hval 2 41 v2 rfl rfl) h2
  have k3 := h3
  have lt3 : ∀ x ∈ p3, x.block < W.heap.size := by obtain ⟨m, hm⟩ := k3; exact DataW.trod_lt m _ _ _ hm
  obtain ⟨a3, rfl, rfl, rfl, w3⟩ := open_int Try.underlying3 (hval 3 3 v3 rfl rfl) h3
  have b3 := bounds_i64 w3
  have k4 := h4
  have lt4 : ∀ x ∈ p4, x.block < W.heap.size := by obtain ⟨m, hm⟩ := k4; exact DataW.trod_lt m _ _ _ hm
  obtain ⟨a4, rfl, rfl, rfl, w4⟩ := open_int Try.underlying3 (hval 4 3 v4 rfl rfl) h4
  have b4 := bounds_i64 w4
  have k5 := h5
  have lt5 : ∀ x ∈ p5, x.block < W.heap.size := by obtain ⟨m, hm⟩ := k5; exact DataW.trod_lt m _ _ _ hm
  obtain ⟨a5, rfl, rfl, rfl, w5⟩ := open_int Try.underlying3 (hval 5 3 v5 rfl rfl) h5
  have b5 := bounds_i64 w5
  have hw := FxRates_P a0 s1 c1 l1 m1 f1 x2 c2 a3 a4 a5 f2 b4 b5 W e1 g1
  clear hA0 hval0
  refine hw.mono fun e W' ⟨he, hchg⟩ => ?_
  have bel := hchg.below
  subst he
  exact ⟨_, rfl, _, _, _, [], _, [], hW', trodAll_mk1 (shut_bool Try.underlying4 _), (trodAll_cons_mk (Below.trod laidOut (by kernel_rfl) (of_decide_eq_true (by kernel_rfl)) k0 bel lt0) (trodAll_cons_mk (Below.trod laidOut (by kernel_rfl) (of_decide_eq_true (by kernel_rfl)) k1 bel lt1) (trodAll_cons_mk (Below.trod laidOut (by kernel_rfl) (of_decide_eq_true (by kernel_rfl)) k2 bel lt2) (trodAll_cons_mk (Below.trod laidOut (by kernel_rfl) (of_decide_eq_true (by kernel_rfl)) k3 bel lt3) (trodAll_cons_mk (Below.trod laidOut (by kernel_rfl) (of_decide_eq_true (by kernel_rfl)) k4 bel lt4) (trodAll_cons_mk (Below.trod laidOut (by kernel_rfl) (of_decide_eq_true (by kernel_rfl)) k5 bel lt5) trodAll_mk0)))))), rfl, bel.frame _, fun h => by cases h⟩

theorem over : Rows.fxRatesRow.holds Try.pinned (OpenSpec.ofChange Rows.fxRatesSpec) :=
  OpenClaim.holds_of_wide 10 Try.f10 rfl rfl rfl rfl rfl rfl rfl ⟨rfl, rfl, rfl, rfl, rfl⟩ rfl rfl rfl rfl rfl (by kernel_rfl) Try.func10 (by kernel_rfl)
    (of_decide_eq_true (by kernel_rfl)) (by unfold Func.isWrapper; first | (rw [if_pos (by decide +kernel)]; kernel_rfl) | (rw [if_neg (by decide +kernel)]; exact ⟨rfl, rfl⟩))
    (fun os started H enc _ => lifted os started H enc)

theorem proved : Rows.FxRatesSaid := over
end Go.Proofs.Ytheofhegdjjfgaa.fxRates
