/- The law LedgerSums, for every argument: it returns true; with all walks that it needs. (text 3 of 5) -/
import Derived.Test.YtheofhegdjjfgaaLSumsC2
import Derived.Maps.RangeRun
import Derived.RangeFuncRecord
import Derived.RangeFuncOne
import Derived.RangeFuncLeaves
import Derived.Sort.OwnSorted
import Derived.Sort.KeysCollected
namespace Go.Proofs.Ytheofhegdjjfgaa
open Go.RowKit

/-- a range's own place: what it has seen. -/
def itA (it m : Nat) (seen : List Nat) (n : Nat) : Asn := .any (fun k => k = it) (fun w => w.heap[it]? = some (.mapIter (some m) n seen.toArray n)) true
theorem it_ok {it m n : Nat} {seen : List Nat} {w : World} (h : w.heap[it]? = some (.mapIter (some m) n seen.toArray n)) : (itA it m seen n).ok w :=
  ⟨fun k hk => by obtain rfl : k = it := hk; exact (Array.getElem?_eq_some_iff.1 h).1, fun w' hw => by show w'.heap[it]? = _; rw [hw it rfl]; exact h⟩
theorem mkM_mem {l : List (ByteArray × Value)} {e : MapEntry} : ∀ {j : Nat}, e ∈ mkM j l → ∃ i k v, l[i]? = some (k, v) ∧ e = ⟨.string k, v, j + i⟩ := by
  induction l with
  | nil => intro j h; cases h
  | cons p l ih =>
    obtain ⟨k, v⟩ := p
    intro j h
    rcases List.mem_cons.1 h with rfl | h
    · exact ⟨0, k, v, rfl, rfl⟩
    · obtain ⟨i, k2, v2, h1, h2⟩ := ih h
      exact ⟨i + 1, k2, v2, h1, by rw [h2]; congr 1; omega⟩
theorem mkM_born (l : List (ByteArray × Value)) : ∀ j, (mkM j l).map (·.born) = List.range' j l.length := by
  induction l with
  | nil => intro j; rfl
  | cons p l ih => intro j; simp only [mkM, List.map_cons, ih, List.length_cons, List.range'_succ]

section
variable {P : Program} {n : Nat} {F0 : Nat → Prop} {w0 : World} {a : Act} {w : World} {L : List (Nat × Value)} {Γ : List Asn}
variable {K : Act → World → Prop} {Q : Exit → Act → World → Prop} {d ty : Nat} {dst : Option Tmp} {pos : String} {af : Array Edge} {g : Option (Nat × Bool)}
theorem s_rangeM {T Kt Et m : Nat} {l : List (ByteArray × Value)} {x : Operand} (hS : St n F0 w0 a w L Γ) (hx : ev L x = some (.map (some m))) (hT : mapT P T = some (Kt, Et))
    (hm : ∀ w, Hd Γ w → w.heap[m]? = some (.map (mkM 0 l).toArray l.length)) (hn : Nat.blt d n = true)
    (h : ∀ a' w' b, St n F0 w0 a' w' ((d, .pointer (some ⟨b, 0, none⟩)) :: L) (itA b m [] l.length :: Γ) → K a' w') : OW P ⟨some d, .range T x, ty, pos, af, g⟩ a w K Q := by
  have hb := hm w hS.hd
  have he : (execOp a.eval (⟨some d, .range T x, ty, pos, af, g⟩ : Oper)).run P w = .ok (.value (.pointer (some ⟨w.heap.size, 0, none⟩))) (w.alloc (.mapIter (some m) l.length #[] l.length)) := by
    simp only [execOp, hS.sl.ev hx, Instr.range, Sem.run_bind, underlying, run_program, Result.andThen_ok, mapT_eq hT, Sem.run_pure]
    simp [getObj, newObj, Sem.run, hb]
  refine ⟨?_⟩
  unfold Oper.wp
  rw [he]
  refine h _ _ w.heap.size ((hS.fresh (Chg.alloc _ _ _) (Y := itA w.heap.size m [] l.length) (it_ok (Go.World.alloc_heap_new w _)) ?_).put hn _)
  intro b hb2
  have : b = w.heap.size := hb2
  omega
theorem s_nextM {it m : Nat} {l : List (ByteArray × Value)} {seen : List Nat} {x : Operand} {Γ' : Nat → List Asn} (hS : St n F0 w0 a w L Γ) (hx : ev L x = some (.pointer (some ⟨it, 0, none⟩)))
    (hm : ∀ w, Hd Γ w → w.heap[m]? = some (.map (mkM 0 l).toArray l.length)) (hn : Nat.blt d n = true)
    (hr : ∀ i, Rep (itA it m seen l.length) (itA it m (seen ++ [i]) l.length) Γ (Γ' i))
    (h0 : (∀ i, i < l.length → i ∈ seen) → ∀ a', St n F0 w0 a' w ((d, .tuple [.bool false].toArray) :: L) Γ → K a' w)
    (h1 : ∀ i k v, l[i]? = some (k, v) → i ∉ seen → ∀ a' w', St n F0 w0 a' w' ((d, .tuple [.bool true, .string k, v].toArray) :: L) (Γ' i) → K a' w') :
    OW P ⟨some d, .next x false, ty, pos, af, g⟩ a w K Q := by
  have hb := hm w hS.hd
  have hi : w.heap[it]? = some (.mapIter (some m) l.length seen.toArray l.length) := hS.get (hr 0).mem
  have hlt := (Array.getElem?_eq_some_iff.1 hi).1
  refine ⟨?_⟩
  unfold Oper.wp
  have hop : (execOp a.eval (⟨some d, .next x false, ty, pos, af, g⟩ : Oper)).run P w = ((Instr.next (.pointer (some ⟨it, 0, none⟩)) false ty).run P w).andThen (fun v w' => .ok (.value v) w') := by
    simp only [execOp, hS.sl.ev hx, Sem.run_bind, Sem.run_pure]
  rw [hop]
  rcases run_next_at (P := P) w ty it m l.length l.length seen.toArray (mkM 0 l).toArray l.length hi hb (fun e he => by
      obtain ⟨i, k, v, h2, rfl⟩ := mkM_mem (j := 0) (by simpa using he)
      have := (List.getElem?_eq_some_iff.1 h2).1
      simp only; omega) (Nat.le_refl _) with ⟨hz, hrun⟩ | ⟨e, he, w1, hw1, hrun⟩
  · rw [hrun]
    refine h0 (fun i hil => ?_) _ (hS.put hn _)
    have hg := mkM_get (j := 0) (List.getElem?_eq_getElem hil : l[i]? = some (l[i].1, l[i].2))
    have hmem := List.mem_of_getElem? hg
    unfold leftOf at hz
    have hemp := Array.eq_empty_of_size_eq_zero hz
    rw [Array.filter_eq_empty_iff] at hemp
    have := hemp _ (by simpa using hmem)
    simpa using this
  · rw [hrun]
    unfold leftOf at he
    have he2 : e ∈ mkM 0 l ∧ e.born ∉ seen := by simpa using he
    obtain ⟨i, k, v, h2, h3⟩ := mkM_mem he2.1
    rw [Nat.zero_add] at h3
    have hns : i ∉ seen := by have := he2.2; rw [h3] at this; exact this
    rw [h3]
    have hch : Chg (itA it m seen l.length).F w (Go.ChangeMaps.setBlock w1 it (.mapIter (some m) l.length (seen.toArray.push i) l.length)) ∧ (Go.ChangeMaps.setBlock w1 it (.mapIter (some m) l.length (seen.toArray.push i) l.length)).heap[it]? = some (.mapIter (some m) l.length (seen ++ [i]).toArray l.length) := by
      have hpush : seen.toArray.push i = (seen ++ [i]).toArray := by simp
      have hq : w1.heap = w.heap ∧ w1.os = w.os ∧ w1.tape = w.tape ∧ w1.output = w.output := by
        rcases hw1 with rfl | rfl
        · exact ⟨rfl, rfl, rfl, rfl⟩
        · exact ⟨rfl, rfl, rfl, rfl⟩
      obtain ⟨q1, q2, q3, q4⟩ := hq
      refine ⟨⟨q2, q3, q4, by simp [Go.ChangeMaps.setBlock, q1], fun q hq hne => ?_⟩, ?_⟩
      · have : it ≠ q := fun e => hne e.symm
        simp [Go.ChangeMaps.setBlock, Array.getElem?_setIfInBounds_ne this, q1]
      · simp [Go.ChangeMaps.setBlock, hlt, q1]
    exact h1 i k v h2 hns _ _ ((hS.upd (hr i) hch.1 (it_ok hch.2) (fun q hq => .inl hq) rfl).put hn _)
theorem e_entryM {it m i : Nat} {l : List (ByteArray × Value)} {seen : List Nat} {x : Operand} {k : ByteArray} {v : Value} (hx : ev L x = some (.pointer (some ⟨it, 0, none⟩)))
    (hm : ∀ w, Hd Γ w → w.heap[m]? = some (.map (mkM 0 l).toArray l.length)) (hi : itA it m (seen ++ [i]) l.length ∈ Γ) (hl : l[i]? = some (k, v)) :
    Ex P n a L Γ ⟨dst, .entry x, ty, pos, af, g⟩ (.tuple [.string k, v].toArray) := fun hs w hh => by
  have hb := hm w hh
  have hit : w.heap[it]? = some (.mapIter (some m) l.length (seen.toArray.push i) l.length) := by
    have : w.heap[it]? = some (.mapIter (some m) l.length (seen ++ [i]).toArray l.length) := hh _ hi
    rw [this]; simp
  have hg := mkM_get (j := 0) hl
  rw [Nat.zero_add] at hg
  have hrun := run_entry_at (P := P) w it m l.length seen.toArray (mkM 0 l).toArray l.length ⟨.string k, v, i⟩ hit hb (by simpa using List.mem_of_getElem? hg) (by
    show (((mkM 0 l).toArray.toList).map (·.born)).Nodup
    rw [show (mkM 0 l).toArray.toList = mkM 0 l from rfl, mkM_born]
    exact List.nodup_range')
  simp only [execOp, hs.ev hx, Sem.run_bind, hrun, Result.andThen_ok, Sem.run_pure]
end

/-- what a step of a range may yield: nothing, or an entry. -/
def nxL : Option (Nat × ByteArray × Value) → List Value
  | none => [.bool false]
  | some (_, k, v) => [.bool true, .string k, v]
def nxS (seen : List Nat) : Option (Nat × ByteArray × Value) → List Nat
  | none => seen
  | some (i, _, _) => seen ++ [i]
def nxO (l : List (ByteArray × Value)) (seen : List Nat) : Option (Nat × ByteArray × Value) → Prop
  | none => ∀ i, i < l.length → i ∈ seen
  | some (i, k, v) => l[i]? = some (k, v) ∧ i ∉ seen
theorem nx0 (o : Option (Nat × ByteArray × Value)) : nth (nxL o) 0 = some (.bool o.isSome) := by
  rcases o with _ | ⟨i, k, v⟩ <;> rfl
section
variable {P : Program} {n : Nat} {F0 : Nat → Prop} {w0 : World} {a : Act} {w : World} {L : List (Nat × Value)} {Γ : List Asn}
variable {K : Act → World → Prop} {Q : Exit → Act → World → Prop} {d ty : Nat} {pos : String} {af : Array Edge} {g : Option (Nat × Bool)}
theorem s_nextO {it m : Nat} {l : List (ByteArray × Value)} {seen : List Nat} {x : Operand} {Γ' : List Nat → List Asn} (hS : St n F0 w0 a w L Γ) (hx : ev L x = some (.pointer (some ⟨it, 0, none⟩)))
    (hm : ∀ w, Hd Γ w → w.heap[m]? = some (.map (mkM 0 l).toArray l.length)) (hn : Nat.blt d n = true)
    (hr : ∀ s, Rep (itA it m seen l.length) (itA it m s l.length) Γ (Γ' s))
    (h : ∀ o, nxO l seen o → ∀ a' w', St n F0 w0 a' w' ((d, .tuple (nxL o).toArray) :: L) (Γ' (nxS seen o)) → K a' w') : OW P ⟨some d, .next x false, ty, pos, af, g⟩ a w K Q := by
  refine s_nextM hS hx hm hn (Γ' := fun i => Γ' (seen ++ [i])) (fun i => hr _) (fun h0 a' hS' => ?_) (fun i k v h1 h2 a' w' hS' => h (some (i, k, v)) ⟨h1, h2⟩ a' w' hS')
  refine h none h0 a' w ?_
  have hid : ∀ {Γ Γ' : List Asn} {X : Asn}, Rep X X Γ Γ' → Γ = Γ' := by
    intro Γ Γ' X hR
    induction hR with
    | head => rfl
    | tail _ ih => rw [ih]
  show St n F0 w0 a' w _ (Γ' seen)
  rw [← hid (hr seen)]; exact hS'
end
end Go.Proofs.Ytheofhegdjjfgaa

namespace Go.Proofs.Ytheofhegdjjfgaa
open Go.RowKit

/-- what is said hangs on the blocks below B alone. -/
def AbB {β : Type} (B : Nat) (I : β → World → Prop) : Prop :=
  ∀ s W W', I s W → W'.os = W.os → W'.tape = W.tape → W'.output = W.output → W.heap.size ≤ W'.heap.size → (∀ k, k < B → W'.heap[k]? = W.heap[k]?) → I s W'
theorem AbB.alloc {β : Type} {B : Nat} {I : β → World → Prop} (h : AbB B I) {s : β} {W : World} (hB : B ≤ W.heap.size) (hs : I s W) (o : Obj) : I s (W.alloc o) :=
  h s W _ hs rfl rfl rfl (by simp) (fun k hk => Below.heap_alloc W o k (by omega))
theorem AbB.put {β : Type} {B : Nat} {I : β → World → Prop} (h : AbB B I) {s : β} {W : World} {l : Nat} (hl : B ≤ l) (hs : I s W) (o : Obj) : I s (W.putObj l o) :=
  h s W _ hs rfl rfl rfl (by simp) (fun k hk => World.putObj_heap_other (by omega))

/-- an iterator's contract: what it needs of memory between two rounds is K0. -/
def SeqB {α : Type} (P : Program) (gf : Nat) (lb : Array Value) (encs : α → Array Value) (S Sp : List α → Prop) (N : Nat) (K0 : World → Prop) : Prop :=
  ∀ (l : Nat) (J Jx : List α → World → Prop) (W : World), (∀ pre W', J pre W' → K0 W') → AbB W.heap.size J → AbB W.heap.size Jx →
    (∀ pre x W1, J pre W1 → pre.length < N → YieldAt Fence.wide 0 P l (encs x) W1 fun e W' => (e = .returned (.bool true) ∧ J (pre ++ [x]) W') ∨ (e = .returned (.bool false) ∧ Jx (pre ++ [x]) W')) →
    J [] W → CallsIn Fence.wide 0 P gf (#[.func (.yield l) #[] #[]] ++ lb) W fun e W' => (∃ v, e = .returned v) ∧ ((∃ xs, S xs ∧ J xs W') ∨ ∃ pre, Sp pre ∧ Jx pre W')

/-- how a round's body may be left: what lay above B lies as it lay. -/
def postB {α : Type} (B : Nat) (I : List α → World → Prop) (Ix : Code → List α → World → Prop) (xs : List α) (W : World) : Exit → Act → World → Prop
  | .normal, _, W' => (∀ k, B ≤ k → k < W.heap.size → W'.heap[k]? = W.heap[k]?) ∧ I xs W'
  | .ret, _, W' => (∀ k, B ≤ k → k < W.heap.size → W'.heap[k]? = W.heap[k]?) ∧ Ix .ret xs W'
  | .exit id, _, W' => (∀ k, B ≤ k → k < W.heap.size → W'.heap[k]? = W.heap[k]?) ∧ Ix (.exit id) xs W'
  | .goto t, _, W' => (∀ k, B ≤ k → k < W.heap.size → W'.heap[k]? = W.heap[k]?) ∧ Ix (.goto t) xs W'
  | .panic _, _, _ => False
  | .outgrown, _, _ => False

theorem putObj_at {W : World} {l : Nat} {o : Obj} {o' : Obj} (h : W.heap[l]? = some o) : (W.putObj l o').heap[l]? = some o' := World.putObj_heap_same (Array.getElem?_eq_some_iff.1 h).1

/-- one block turned, of those that were. -/
structure Turn (l : Nat) (W W' : World) : Prop where
  os : W'.os = W.os
  tape : W'.tape = W.tape
  output : W'.output = W.output
  size : W'.heap.size = W.heap.size
  same : ∀ k, k ≠ l → W'.heap[k]? = W.heap[k]?
theorem Turn.put (W : World) (l : Nat) (o : Obj) : Turn l W (W.putObj l o) := ⟨rfl, rfl, rfl, by simp, fun _ hk => World.putObj_heap_other hk⟩
theorem rangeFunc_B {P : Program} {α : Type} {g : Operand} {ps : Array Tmp} {assign body : Code} {Q : Exit → Act → World → Prop} {a : Act} {w : World}
    {gf : Nat} {lb : Array Value} (hg : a.eval g = .func (.func gf) #[] lb) (eg : CallsTo P gf) {encs : α → Array Value} {S Sp : List α → Prop} {N : Nat} {K0 : World → Prop}
    (hseq : SeqB P gf lb encs S Sp N K0) (hps : ∀ x, (encs x).size = ps.size) (I : List α → World → Prop) (Ix : Code → List α → World → Prop)
    (hI : AbB w.heap.size I) (hIx : ∀ c, AbB w.heap.size (Ix c)) (hK : ∀ pre W', I pre W' → K0 W') (h0 : I [] w)
    (hround : ∀ (l : Nat) (pre : List α) (x : α) (W : World), w.heap.size + 2 ≤ W.heap.size → I pre W → pre.length < N →
      assign.wpIn (Fence.wide.inRound l) 0 P (Exit.then (fun a1 W1 => ((∀ k, w.heap.size ≤ k → k < W.heap.size → W1.heap[k]? = W.heap[k]?) ∧ W.heap.size ≤ W1.heap.size) ∧ ∀ W2, Turn (w.heap.size + 1) W1 W2 → body.wpIn (Fence.wide.inRound l) 0 P (postB w.heap.size I Ix (pre ++ [x]) W2) a1 W2) (fun _ _ _ => False))
        { tmps := (ps.zip (encs x)).foldl (fun t (p, v) => t.setIfInBounds p v) a.tmps, defers := [] } W)
    (hdone : ∀ (D : Nat) (xs : List α) (W : World), w.heap.size ≤ D → S xs → I xs W → W.heap[D]? = some (.deferred (some [])) → Q .normal { a with defers := { target := .collected D, args := #[] } :: a.defers } W)
    (hstop : ∀ (D : Nat) (c : Code) (pre : List α) (W : World), w.heap.size ≤ D → Sp pre → Ix c pre W → W.heap[D]? = some (.deferred (some [])) → c.wpIn Fence.wide 0 P Q { a with defers := { target := .collected D, args := #[] } :: a.defers } W) :
    (Code.rangeFunc g ps assign body).wpIn Fence.wide 0 P Q a w := by
  refine wpIn_rangeFunc fun fn hfn => ?_
  obtain ⟨rec, hrec⟩ : ∃ rec : LoopState → Option Code → Loop, rec = fun st pe => { state := st, pending := pe, fn, tmps := a.tmps, params := ps, assign, body, defers := w.heap.size } := ⟨_, rfl⟩
  obtain ⟨W1, hW1⟩ : ∃ W1, (w.alloc (.deferred (some []))).alloc (.loop (rec .ready none)) = W1 := ⟨_, rfl⟩
  have hs1 : W1.heap.size = w.heap.size + 2 := by rw [← hW1]; simp
  have hL : W1.heap[w.heap.size + 1]? = some (.loop (rec .ready none)) := by
    rw [← hW1]; have := World.alloc_heap_new (w.alloc (.deferred (some []))) (.loop (rec .ready none)); rwa [World.size_alloc] at this
  have hD : W1.heap[w.heap.size]? = some (.deferred (some [])) := by
    rw [← hW1]; exact (Below.heap_alloc _ _ _ (by simp)).trans (World.alloc_heap_new w _)
  have hI1 : I [] W1 := by rw [← hW1]; exact hI.alloc (by simp) (hI.alloc (Nat.le_refl _) h0 _) _
  refine ⟨w.heap.size + 1, [{ target := .collected w.heap.size, args := #[] }], W1, { target := .fn (.func gf) lb, args := #[.func (.yield (w.heap.size + 1)) #[] #[]] }, W1, gf,
    #[.func (.yield (w.heap.size + 1)) #[] #[]] ++ lb, W1, ?_, ?_, fun _ _ => trivial, ?_, fun h => (by cases h), ?_⟩
  · rw [← hW1, hrec]; exact run_enterLoop_outer _ _ _ _ _
  · simp only [resolve, hg]
    simp [go_sem]
  · have := eg (#[.func (.yield (w.heap.size + 1)) #[] #[]] ++ lb) W1
    exact this
  have key := hseq (w.heap.size + 1) (fun pre W => w.heap.size + 2 ≤ W.heap.size ∧ I pre W ∧ W.heap[w.heap.size + 1]? = some (.loop (rec .ready none)) ∧ W.heap[w.heap.size]? = some (.deferred (some [])))
    (fun pre W => w.heap.size + 2 ≤ W.heap.size ∧ ∃ c, Ix c pre W ∧ W.heap[w.heap.size + 1]? = some (.loop (rec .done (some c))) ∧ W.heap[w.heap.size]? = some (.deferred (some []))) W1
    (fun pre W' h => hK pre W' h.2.1)
    (fun s A B h e1 e2 e3 e4 e5 => ⟨Nat.le_trans h.1 e4, hI s A B h.2.1 e1 e2 e3 e4 (fun k hk => e5 k (by omega)), (e5 _ (by omega)).trans h.2.2.1, (e5 _ (by omega)).trans h.2.2.2⟩)
    (fun s A B h e1 e2 e3 e4 e5 => by
      obtain ⟨hz, c, h1, h2, h3⟩ := h
      exact ⟨Nat.le_trans hz e4, c, hIx c s A B h1 e1 e2 e3 e4 (fun k hk => e5 k (by omega)), (e5 _ (by omega)).trans h2, (e5 _ (by omega)).trans h3⟩)
    ?_ ⟨by omega, hI1, hL, hD⟩
  · refine key.mono ?_
    rintro e W2 ⟨⟨v, rfl⟩, (⟨xs, hS, hz, hi, hl, hk⟩ | ⟨pre, hSp, hz, c, hi, hl, hk⟩)⟩
    · exact ⟨none, _, by have := run_endLoop (P := P) hl (by rw [hrec]; simp); rw [hrec] at this; exact this, hdone _ xs _ (Nat.le_refl _) hS (hI.put (by omega) hi _) ((World.putObj_heap_other (by omega)).trans hk)⟩
    · exact ⟨some c, _, by have := run_endLoop (P := P) hl (by rw [hrec]; simp); rw [hrec] at this; exact this, hstop _ c pre _ (Nat.le_refl _) hSp ((hIx c).put (by omega) hi _) ((World.putObj_heap_other (by omega)).trans hk)⟩
  · rintro pre x W ⟨hz, hi, hl, hk⟩ hlen
    have hy := run_yield (P := P) (args := encs x) hl (by rw [hrec]; exact hps x)
    rw [hrec] at hy
    refine ⟨fn, _, assign, body, hy, roundIn_of_wpIn hfn (wpIn_mono (hround _ pre x W hz hi hlen) ?_)⟩
    rintro e a1 W1' hp1
    cases e with
    | exit _ => exact hp1.elim
    | goto _ => exact hp1.elim
    | ret => exact hp1.elim
    | panic _ => exact hp1.elim
    | outgrown => exact hp1.elim
    | normal => ?_
    obtain ⟨⟨hkeep, hzz⟩, hbody⟩ := hp1
    have hl1 := (hkeep (w.heap.size + 1) (by omega) (by omega)).trans hl
    have hk1 := (hkeep w.heap.size (Nat.le_refl _) (by omega)).trans hk
    refine ⟨_, run_beginRound hl1 (by rw [hrec]), ?_⟩
    obtain ⟨W2, hW2⟩ : ∃ W2, W1'.putObj (w.heap.size + 1) (.loop { rec .ready none with state := .busy }) = W2 := ⟨_, rfl⟩
    have hl2 : W2.heap[w.heap.size + 1]? = some (.loop { rec .ready none with state := .busy }) := by rw [← hW2]; exact putObj_at hl1
    have hk2 : W2.heap[w.heap.size]? = some (.deferred (some [])) := by rw [← hW2]; exact (World.putObj_heap_other (by omega)).trans hk1
    have hz2 : w.heap.size + 2 ≤ W2.heap.size := by rw [← hW2]; simp; omega
    rw [hW2]
    refine wpIn_mono (hbody W2 (by rw [← hW2]; exact Turn.put _ _ _)) ?_
    have fin : ∀ (jump : Option Code) (W3 : World), (∀ k, w.heap.size ≤ k → k < W2.heap.size → W3.heap[k]? = W2.heap[k]?) → w.heap.size + 2 ≤ W3.heap.size ∧
        (Instr.endRound (w.heap.size + 1) jump).run P W3 = .ok (.bool jump.isNone) (W3.putObj (w.heap.size + 1) (.loop (rec (if jump.isNone then .ready else .done) jump))) ∧
        (W3.putObj (w.heap.size + 1) (.loop (rec (if jump.isNone then .ready else .done) jump))).heap[w.heap.size + 1]? = some (.loop (rec (if jump.isNone then .ready else .done) jump)) ∧
        (W3.putObj (w.heap.size + 1) (.loop (rec (if jump.isNone then .ready else .done) jump))).heap[w.heap.size]? = some (.deferred (some [])) := fun jump W3 hk3 => by
      have hl3 := (hk3 _ (by omega) (by omega)).trans hl2
      have hd3 := (hk3 _ (Nat.le_refl _) (by omega)).trans hk2
      have hr := run_endRound (P := P) jump hl3
      rw [hrec] at hr ⊢
      exact ⟨by have := (Array.getElem?_eq_some_iff.1 hl3).1; omega, hr, putObj_at hl3, (World.putObj_heap_other (by omega)).trans hd3⟩
    rintro e a3 W3 hp
    cases e with
    | normal =>
      obtain ⟨hk3, hi3⟩ := hp
      obtain ⟨hz3, hr, hl4, hk4⟩ := fin none W3 hk3
      exact ⟨_, _, hr, .inl ⟨rfl, by simpa using hz3, hI.put (by omega) hi3 _, hl4, hk4⟩⟩
    | ret =>
      obtain ⟨hk3, hi3⟩ := hp
      obtain ⟨hz3, hr, hl4, hk4⟩ := fin (some .ret) W3 hk3
      exact ⟨_, _, hr, .inr ⟨rfl, by simpa using hz3, .ret, (hIx _).put (by omega) hi3 _, hl4, hk4⟩⟩
    | exit id =>
      obtain ⟨hk3, hi3⟩ := hp
      obtain ⟨hz3, hr, hl4, hk4⟩ := fin (some (.exit id)) W3 hk3
      exact ⟨_, _, hr, .inr ⟨rfl, by simpa using hz3, .exit id, (hIx _).put (by omega) hi3 _, hl4, hk4⟩⟩
    | goto t =>
      obtain ⟨hk3, hi3⟩ := hp
      obtain ⟨hz3, hr, hl4, hk4⟩ := fin (some (.goto t)) W3 hk3
      exact ⟨_, _, hr, .inr ⟨rfl, by simpa using hz3, .goto t, (hIx _).put (by omega) hi3 _, hl4, hk4⟩⟩
    | panic ch => exact hp.elim
    | outgrown => exact hp.elim
end Go.Proofs.Ytheofhegdjjfgaa

namespace Go.Proofs.Ytheofhegdjjfgaa
open Go.RowKit

def FW (r : Option Nat) : Fence := { Fence.wide with round := r }
section
variable {P : Program} {n : Nat} {F0 : Nat → Prop} {w0 : World} {a : Act} {w : World} {L : List (Nat × Value)} {Γ : List Asn} {r : Option Nat} {N : Nat}
variable {K : Act → World → Prop} {Q : Exit → Act → World → Prop} {d ty : Nat} {dst : Option Tmp} {pos : String} {af : Array Edge} {g : Option (Nat × Bool)} {op : Op} {rest l : List Oper}

theorem oper_in {o : Oper} (hd : ∀ c, o.op ≠ .defer c) (h : o.wp P a w K Q) : o.wpIn (FW r) N P a w K Q := by
  refine ⟨fun _ _ => trivial, ?_⟩
  rw [Oper.semAt_eq _ _ _ hd]
  unfold Oper.wp at h
  generalize (execOp a.eval o).run P w = res at h
  cases res with
  | ok nx w' =>
    cases nx with
    | value v => exact h
    | skip => exact h
    | defer d => exact h
    | enter f args => exact ⟨fun hh => (by cases hh), CallsIn.mono (F := Fence.wide) (callsIn_wide.2 h) (fun e w2 hr => by cases e <;> exact hr)⟩
    | row nm args => exact ⟨fun hh => (by cases hh), fun c cs _ => let ⟨v, w2, hr, s⟩ := h c cs; ⟨v, w2, hr, stepsIn_wide.2 s⟩⟩
    | _ => exact h.elim
  | halt s w' => cases s <;> first | exact h | exact h.elim

def notDefer : Op → Bool
  | .defer _ => false
  | _ => true
theorem notDefer_ne {o : Op} (h : notDefer o = true) : ∀ c, o ≠ .defer c := fun c e => by subst e; cases h

theorem R_nil {ops : Array Oper} (h : Q .normal a w) : wpListIn (FW r) N P ops Q [] a w := h
theorem R_op {ops : Array Oper} (hd : notDefer op = true) (h : OW P ⟨dst, op, ty, pos, af, none⟩ a w (wpListIn (FW r) N P ops Q rest) Q) : wpListIn (FW r) N P ops Q (⟨dst, op, ty, pos, af, none⟩ :: rest) a w := by
  unfold wpListIn
  rw [if_pos (by simp [Region.wanted])]
  exact oper_in (notDefer_ne hd) h.h
theorem R_go {j t : Nat} {b : Bool} (hd : notDefer op = true) (hS : St n F0 w0 a w L Γ) (hj : opDst l j = some t) (hv : lk L t = some (.bool b))
    (h : OW P ⟨dst, op, ty, pos, af, some (j, b)⟩ a w (wpListIn (FW r) N P l.toArray Q rest) Q) : wpListIn (FW r) N P l.toArray Q (⟨dst, op, ty, pos, af, some (j, b)⟩ :: rest) a w := by
  unfold wpListIn
  rw [if_pos (by simp [Region.wanted, yielded_of hS.sl hj hv])]
  exact oper_in (notDefer_ne hd) h.h
theorem R_skip_t {j t : Nat} (hS : St n F0 w0 a w L Γ) (hj : opDst l j = some t) (hv : lk L t = some (.bool false)) (hn : Nat.blt d n = true)
    (h : ∀ a', St n F0 w0 a' w ((d, undef) :: L) Γ → wpListIn (FW r) N P l.toArray Q rest a' w) : wpListIn (FW r) N P l.toArray Q (⟨some d, op, ty, pos, af, some (j, true)⟩ :: rest) a w := by
  unfold wpListIn
  rw [if_neg (by simp [Region.wanted, yielded_of hS.sl hj hv])]
  exact ⟨fun _ _ => trivial, h _ (hS.put hn _)⟩
theorem R_skip_f {j t : Nat} (hS : St n F0 w0 a w L Γ) (hj : opDst l j = some t) (hv : lk L t = some (.bool true)) (hn : Nat.blt d n = true)
    (h : ∀ a', St n F0 w0 a' w ((d, undef) :: L) Γ → wpListIn (FW r) N P l.toArray Q rest a' w) : wpListIn (FW r) N P l.toArray Q (⟨some d, op, ty, pos, af, some (j, false)⟩ :: rest) a w := by
  unfold wpListIn
  rw [if_neg (by simp [Region.wanted, yielded_of hS.sl hj hv])]
  exact ⟨fun _ _ => trivial, h _ (hS.put hn _)⟩
theorem R_skip_u {j t : Nat} {b : Bool} (hS : St n F0 w0 a w L Γ) (hj : opDst l j = some t) (hv : lk L t = some undef) (hn : Nat.blt d n = true)
    (h : ∀ a', St n F0 w0 a' w ((d, undef) :: L) Γ → wpListIn (FW r) N P l.toArray Q rest a' w) : wpListIn (FW r) N P l.toArray Q (⟨some d, op, ty, pos, af, some (j, b)⟩ :: rest) a w := by
  unfold wpListIn
  rw [if_neg (by simp [Region.wanted, yielded_undef hS.sl hj hv])]
  exact ⟨fun _ _ => trivial, h _ (hS.put hn _)⟩
theorem R_merge {ops : Array Oper} (m t : Nat) (v : Value) (_hS : St n F0 w0 a w L Γ) (hseg : (∀ a w, St n F0 w0 a w ((t, v) :: L) Γ → wpListIn (FW r) N P ops Q (l.drop m) a w) → wpListIn (FW r) N P ops Q l a w) (hcont : ∀ a w, St n F0 w0 a w ((t, v) :: L) Γ → wpListIn (FW r) N P ops Q (l.drop m) a w) : wpListIn (FW r) N P ops Q l a w := hseg hcont
/-- a call of yield. -/
theorem R_yield {ops : Array Oper} {x : Operand} {xs : List Operand} {vs : List Value} {ts : Array TypeId} {y : Nat} {R : Ending → World → Prop} (hS : St n F0 w0 a w L Γ) (hx : ev L x = some (.func (.yield y) #[] #[])) (hxs : Evs L xs vs)
    (hy : YieldAt Fence.wide 0 P y vs.toArray w R) (h : ∀ e w', R e w' → ∃ v, e = .returned v ∧ wpListIn (FW none) 0 P ops Q rest (a.put dst v) w') :
    wpListIn (FW none) 0 P ops Q (⟨dst, .call ⟨.value x, xs.toArray, ts⟩, ty, pos, af, none⟩ :: rest) a w := by
  unfold wpListIn
  rw [if_pos (by simp [Region.wanted])]
  obtain ⟨fn, tmps, assign, body, hrun, hround⟩ := hy
  refine ⟨fun _ _ => trivial, ?_⟩
  have he : (execOp a.eval (⟨dst, .call ⟨.value x, xs.toArray, ts⟩, ty, pos, af, none⟩ : Oper)).run P w = .ok (.round y fn tmps assign body) w := by
    have h1 := hS.sl.evs hxs
    have hr : (resolve a.eval ⟨.value x, xs.toArray, ts⟩ ty).run P w = .ok ⟨.fn (.yield y) #[], #[] ++ vs.toArray⟩ w := by
      simp only [resolve, hS.sl.ev hx, h1, Deferred.ofValue]; rfl
    show ((resolve a.eval ⟨.value x, xs.toArray, ts⟩ ty) >>= fun d => invoke d.target d.args).run P w = _
    rw [Sem.run_bind, hr]
    show (invoke (.fn (.yield y) #[]) (#[] ++ vs.toArray)).run P w = _
    have e1 : (#[] ++ vs.toArray : Array Value) = vs.toArray := by simp
    rw [e1]
    simpa [invoke] using hrun
  rw [Oper.semAt_eq _ _ _ (fun c e => by cases e), he]
  refine ⟨fun hh => (by cases hh), hround.mono fun e w' hR => ?_⟩
  obtain ⟨v, rfl, hK⟩ := h e w' hR
  exact hK

theorem R_region {id : Nat} {l : List Oper} (h : wpListIn (FW r) N P l.toArray Q l a w) : (Code.region id l.toArray false).wpIn (FW r) N P Q a w := wpIn_region_lit h
theorem R_seq {x y : Code} (h : x.wpIn (FW r) N P (Exit.then (y.wpIn (FW r) N P Q) Q) a w) : (Code.seq x y).wpIn (FW r) N P Q a w := wpIn_seq h
theorem R_skip (h : Q .normal a w) : Code.skip.wpIn (FW r) N P Q a w := wpIn_skip h
theorem R_block {id : Nat} {c : Code} (h : c.wpIn (FW r) N P (Exit.inBlock id Q) a w) : (Code.block id c).wpIn (FW r) N P Q a w := wpIn_block h
theorem R_ret (h : Q .ret a w) : Code.ret.wpIn (FW r) N P Q a w := wpIn_ret h
theorem R_exit {id : Nat} (h : Q (.exit id) a w) : (Code.exit id).wpIn (FW r) N P Q a w := wpIn_exit h
theorem R_if_t {c : Operand} {x y : Code} (hS : St n F0 w0 a w L Γ) (hc : ev L c = some (.bool true)) (h : x.wpIn (FW r) N P Q a w) : (Code.cond c x y).wpIn (FW r) N P Q a w := wpIn_cond_true (hS.sl.ev hc) h
theorem R_if_f {c : Operand} {x y : Code} (hS : St n F0 w0 a w L Γ) (hc : ev L c = some (.bool false)) (h : y.wpIn (FW r) N P Q a w) : (Code.cond c x y).wpIn (FW r) N P Q a w := wpIn_cond_false (hS.sl.ev hc) h
theorem R_if {c : Operand} {x y : Code} {b : Bool} (hS : St n F0 w0 a w L Γ) (hc : ev L c = some (.bool b)) (h1 : b = true → x.wpIn (FW r) N P Q a w) (h2 : b = false → y.wpIn (FW r) N P Q a w) : (Code.cond c x y).wpIn (FW r) N P Q a w :=
  wpIn_cond_split (hS.sl.ev hc) h1 h2
theorem R_ifD {c : Operand} {x y : Code} {p : Prop} [hp : Decidable p] (hS : St n F0 w0 a w L Γ) (hc : ev L c = some (.bool (decide p))) (h1 : p → x.wpIn (FW r) N P Q a w) (h2 : ¬ p → y.wpIn (FW r) N P Q a w) : (Code.cond c x y).wpIn (FW r) N P Q a w :=
  wpIn_cond_split (hS.sl.ev hc) (fun h => h1 (of_decide_eq_true h)) (fun h => h2 (of_decide_eq_false h))
/-- a loop, by a measure on what it goes through. -/
theorem R_loop {γ : Type} {c : Code} (I : γ → Act → World → Prop) (μ : γ → Nat) (g0 : γ) (h0 : I g0 a w)
    (round : ∀ g a w, I g a w → c.wpIn (FW r) N P (Exit.then (fun a' w' => ∃ g', μ g' < μ g ∧ I g' a' w') Q) a w) : (Code.loop c).wpIn (FW r) N P Q a w := by
  intro b k cs hro hb hr
  have key : ∀ m g a w, μ g = m → I g a w → ∃ e a' w', Q e a' w' ∧ ArrivesIn (Machine.fenced P (FW r)) P (lone (b.atR a (.code c :: .inLoop c :: k)) cs w) b k cs e a' w' := by
    intro m
    induction m using Nat.strongRecOn with
    | _ m ih =>
      intro g a w hm hI
      obtain ⟨e, a1, w1, hq, harr⟩ := round g a w hI b (.inLoop c :: k) cs hro hb hr
      cases e with
      | normal =>
        obtain ⟨g', hlt, hI'⟩ := hq
        obtain ⟨e2, a2, w2, hq2, harr2⟩ := ih (μ g') (hm ▸ hlt) g' a1 w1 rfl hI'
        exact ⟨e2, a2, w2, hq2, .of_steps (StepsIn.trans harr (.one (fenced_calm hb hr rfl) stepR_inLoop)) harr2⟩
      | exit id => exact ⟨_, a1, w1, hq, .pass (x := .inLoop c) rfl (fun _ _ => .inl (by simp)) harr⟩
      | goto l => exact ⟨_, a1, w1, hq, .pass (x := .inLoop c) rfl (fun _ _ => .inl (by simp)) harr⟩
      | ret => exact ⟨_, a1, w1, hq, .pass (x := .inLoop c) rfl (fun _ _ => .inl (by simp)) harr⟩
      | panic ch => exact ⟨_, a1, w1, hq, .pass (x := .inLoop c) rfl (fun _ _ => .inl (by simp)) harr⟩
      | outgrown => exact ⟨_, a1, w1, hq, .pass (x := .inLoop c) rfl (fun _ _ => .inl (by simp)) harr⟩
  obtain ⟨e, a', w', hq, harr⟩ := key _ g0 a w rfl h0
  exact ⟨e, a', w', hq, .of_steps (.one (fenced_calm hb hr rfl) stepR_loop) harr⟩
theorem retM {fn : Func} {R : Ending → World → Prop} (hd : a.defers = []) (h : bodyPost P fn R .ret a w) : bodyPostM Fence.wide 0 P fn R .ret a w := by
  obtain ⟨_, v, h1, h2⟩ := h
  show LeavesInM Fence.wide 0 P fn a.tmps R a.defers .returning w
  rw [hd]
  exact ⟨v, h1, h2⟩
theorem callsM_enter {f : FuncId} {fn : Func} {c : Code} {args : List Value} {R : Ending → World → Prop} {m : Nat} (L : List (Nat × Value)) (Γ : List Asn) (F0 : Nat → Prop) (hf : P.funcs[f]? = some fn) (hb : fn.body = some c) (hm : fn.ntmps = m)
    (hA : SubA args L) (hn : Nat.ble args.length m = true) (ok : ∀ X ∈ Γ, X.ok w) (dis : Γ.Pairwise (fun X Y => ∀ b, X.F b → ¬ Y.F b)) (mine : ∀ X ∈ Γ, X.mine = true → ∀ b, X.F b → w.heap.size ≤ b ∨ F0 b)
    (h : ∀ a, St m F0 w a w L Γ → c.wpIn (FW none) 0 P (bodyPostM Fence.wide 0 P fn R) a w) : Calls P f args.toArray w R := by
  refine callsIn_wide.1 (callsIn_of_wp_marks (n := 0) hf hb trivial (h _ ⟨?_, Chg.refl _ _, ok, dis, mine⟩))
  have hle : args.length ≤ m := Nat.le_of_ble_eq_true hn
  have := Sl.start (l := args) (L := L) (n := m) (m := m - args.length) hA (by omega)
  simpa [hm] using this
/-- the end of a function behind a range over a function. -/
theorem endM {fn : Func} {R : Ending → World → Prop} {D : Nat} {v : Value} {e : Exit} (he : e = .ret ∨ e = .normal) (hd : a.defers = [{ target := .collected D, args := #[] }]) (hD : w.heap[D]? = some (.deferred (some [])))
    (hr : (results fn a.tmps).run P (w.putObj D (.deferred none)) = .ok v (w.putObj D (.deferred none))) (h : R (.returned v) (w.putObj D (.deferred none))) : bodyPostM Fence.wide 0 P fn R e a w := by
  have key : LeavesInM Fence.wide 0 P fn a.tmps R a.defers .returning w := by
    rw [hd]
    exact ⟨by simp, .inl ⟨_, _, rfl, run_takeDeferred hD, v, hr, h⟩⟩
  rcases he with rfl | rfl <;> exact key
theorem callsIn_enter {f : FuncId} {fn : Func} {c : Code} {args : List Value} {R : Ending → World → Prop} {m : Nat} (L : List (Nat × Value)) (Γ : List Asn) (F0 : Nat → Prop) (hf : P.funcs[f]? = some fn) (hb : fn.body = some c) (hm : fn.ntmps = m)
    (hA : SubA args L) (hn : Nat.ble args.length m = true) (ok : ∀ X ∈ Γ, X.ok w) (dis : Γ.Pairwise (fun X Y => ∀ b, X.F b → ¬ Y.F b)) (mine : ∀ X ∈ Γ, X.mine = true → ∀ b, X.F b → w.heap.size ≤ b ∨ F0 b)
    (h : ∀ a, St m F0 w a w L Γ → c.wpIn (FW none) 0 P (bodyPost P fn R) a w) : CallsIn Fence.wide 0 P f args.toArray w R := by
  refine callsIn_of_wp hf hb trivial (h _ ⟨?_, Chg.refl _ _, ok, dis, mine⟩)
  have hle : args.length ≤ m := Nat.le_of_ble_eq_true hn
  have := Sl.start (l := args) (L := L) (n := m) (m := m - args.length) hA (by omega)
  simpa [hm] using this
theorem rangeFunc_B2 {α : Type} {B : Nat} (hB : w.heap.size = B) {x : Operand} {ps : Array Tmp} {assign body : Code} 
    {gf : Nat} {lb : Array Value} (hg : a.eval x = .func (.func gf) #[] lb) (eg : CallsTo P gf) {encs : α → Array Value} {S Sp : List α → Prop} {M : Nat} {K0 : World → Prop}
    (hseq : SeqB P gf lb encs S Sp M K0) (hps : ∀ x, (encs x).size = ps.size) (I : List α → World → Prop) (Ix : Code → List α → World → Prop)
    (hI : AbB B I) (hIx : ∀ c, AbB B (Ix c)) (hK : ∀ pre W', I pre W' → K0 W') (h0 : I [] w)
    (hround : ∀ (l : Nat) (pre : List α) (x : α) (W : World), B + 2 ≤ W.heap.size → I pre W → pre.length < M →
      assign.wpIn (FW (some l)) 0 P (Exit.then (fun a1 W1 => ((∀ k, B ≤ k → k < W.heap.size → W1.heap[k]? = W.heap[k]?) ∧ W.heap.size ≤ W1.heap.size) ∧ ∀ W2, Turn (B + 1) W1 W2 → body.wpIn (FW (some l)) 0 P (postB B I Ix (pre ++ [x]) W2) a1 W2) (fun _ _ _ => False))
        { tmps := (ps.zip (encs x)).foldl (fun t (p, v) => t.setIfInBounds p v) a.tmps, defers := [] } W)
    (hdone : ∀ (D : Nat) (xs : List α) (W : World), B ≤ D → S xs → I xs W → W.heap[D]? = some (.deferred (some [])) → Q .normal { a with defers := { target := .collected D, args := #[] } :: a.defers } W)
    (hstop : ∀ (D : Nat) (c : Code) (pre : List α) (W : World), B ≤ D → Sp pre → Ix c pre W → W.heap[D]? = some (.deferred (some [])) → c.wpIn (FW none) 0 P Q { a with defers := { target := .collected D, args := #[] } :: a.defers } W) :
    (Code.rangeFunc x ps assign body).wpIn (FW none) 0 P Q a w := by
  subst hB
  exact rangeFunc_B hg eg hseq hps I Ix hI hIx hK h0 hround hdone hstop
/-- the mark of a loop is shut: what is known of other blocks stays. -/
theorem St.putD (hS : St n F0 w0 a w L Γ) {D : Nat} {o : Obj} (hD : w0.heap.size ≤ D) (hn : ∀ X ∈ Γ, ∀ b, X.F b → b ≠ D) : St n F0 w0 a (w.putObj D o) L Γ := by
  have hc : Chg (fun k => k = D) w (w.putObj D o) := ⟨rfl, rfl, rfl, by simp, fun k _ hk => World.putObj_heap_other hk⟩
  exact ⟨hS.sl, hS.chg.trans hc (fun i hi hlt => by omega), fun X hX => (hS.ok X hX).keep hc (fun b hb e => hn X hX b hb e), hS.dis, hS.mine⟩
/-- the end of a function behind a range over a function, by the state. -/
theorem endN {fn : Func} {R : Ending → World → Prop} {D : Nat} {e : Exit} {rs : List ResultVar} {vs : List Value} (hS : St n F0 w0 a (w.putObj D (.deferred none)) L Γ) (he : e = .ret ∨ e = .normal) (hD : w.heap[D]? = some (.deferred (some [])))
    (hr : fn.results = rs.toArray) (hv : ResL P L Γ rs vs) (hne : Nat.beq vs.length 1 = false) (h : R (.returned (.tuple vs.toArray)) (w.putObj D (.deferred none))) :
    bodyPostM Fence.wide 0 P fn R e { a with defers := { target := .collected D, args := #[] } :: a.defers } w := by
  refine endM he (by show _ :: a.defers = _; rw [hS.sl.defers]) hD ?_ h
  have h1 := ResL.run hS hv
  have h2 : ¬ vs.toArray.size = 1 := by simpa using nbeq_ne hne
  show (results fn a.tmps).run P _ = _
  rw [results_rvS, hr, List.mapM_toArray, Sem.run_bind, Sem.run_map, h1]
  simp only [Result.andThen_ok, h2, dite_false]
  rfl
theorem put_defers {ds : List Deferred} {v : Value} : Act.put { a with defers := ds } dst v = { a.put dst v with defers := ds } := by cases dst <;> rfl
/-- what a store does does not hang on the deferred calls. -/
theorem OW.stores {T : Nat} {x y : Operand} {ds : List Deferred} (h : OW P ⟨none, .store T x y, ty, pos, af, g⟩ a w (fun a w => K { a with defers := ds } w) (fun e a w => Q e { a with defers := ds } w)) : OW P ⟨none, .store T x y, ty, pos, af, g⟩ { a with defers := ds } w K Q := by
  refine ⟨?_⟩
  have h := h.h
  unfold Oper.wp at h ⊢
  have e : (execOp (Act.eval { a with defers := ds }) ⟨none, .store T x y, ty, pos, af, g⟩) = execOp a.eval ⟨none, .store T x y, ty, pos, af, g⟩ := rfl
  rw [e]
  have hnd : ∀ nx w', (execOp a.eval ⟨none, .store T x y, ty, pos, af, g⟩).run P w = .ok nx w' → nx = .skip := by
    intro nx w' he
    simp only [execOp, Sem.run_bind] at he
    generalize Sem.run P (Instr.storeAt T (a.eval x) (a.eval y)) w = r at he
    cases r with
    | ok u w1 => injection he with e1 e2; exact e1.symm
    | halt s w1 => cases he
  generalize (execOp a.eval ⟨none, .store T x y, ty, pos, af, g⟩).run P w = res at h hnd
  cases res with
  | ok nx w' =>
    obtain rfl := hnd nx w' rfl
    exact h
  | halt s w' => cases s <;> exact h
end
end Go.Proofs.Ytheofhegdjjfgaa

namespace Go.Proofs.Ytheofhegdjjfgaa
open Go.RowKit

/-- what is said hangs on no block from B up to hi. -/
def AbR {β : Type} (B hi : Nat) (I : β → World → Prop) : Prop :=
  ∀ s W W', I s W → W'.os = W.os → W'.tape = W.tape → W'.output = W.output → W.heap.size ≤ W'.heap.size → (∀ k, k < W.heap.size → (k < B ∨ hi ≤ k) → W'.heap[k]? = W.heap[k]?) → I s W'
theorem AbR.alloc {β : Type} {B hi : Nat} {I : β → World → Prop} (h : AbR B hi I) {s : β} {W : World} (hs : I s W) (o : Obj) : I s (W.alloc o) :=
  h s W _ hs rfl rfl rfl (by simp) (fun k hk _ => Below.heap_alloc W o k hk)
theorem AbR.put {β : Type} {B hi : Nat} {I : β → World → Prop} (h : AbR B hi I) {s : β} {W : World} {l : Nat} (hl : B ≤ l) (hl2 : l < hi) (hs : I s W) (o : Obj) : I s (W.putObj l o) :=
  h s W _ hs rfl rfl rfl (by simp) (fun k _ hk => World.putObj_heap_other (by omega))
/-- what lay from B up to hi lies as it lay. -/
def Kp (B hi : Nat) (W W' : World) : Prop := W.heap.size ≤ W'.heap.size ∧ ∀ k, B ≤ k → k < hi → W'.heap[k]? = W.heap[k]?

/-- an iterator's contract: its own blocks lie from where it began up to hi. -/
def SeqD {α : Type} (P : Program) (gf : Nat) (lb : Array Value) (encs : α → Array Value) (S Sp : List α → Prop) (N : Nat) (K0 : World → Prop) : Prop :=
  ∀ (l : Nat) (J Jx : Nat → List α → World → Prop) (W : World), (∀ hi pre W', J hi pre W' → K0 W') → (∀ hi, W.heap.size ≤ hi → AbR W.heap.size hi (J hi)) → (∀ hi, W.heap.size ≤ hi → AbR W.heap.size hi (Jx hi)) →
    (∀ hi pre x W1, W.heap.size ≤ hi → hi ≤ W1.heap.size → J hi pre W1 → pre.length < N → YieldAt Fence.wide 0 P l (encs x) W1 fun e W' => Kp W.heap.size hi W1 W' ∧ ((e = .returned (.bool true) ∧ J hi (pre ++ [x]) W') ∨ (e = .returned (.bool false) ∧ Jx hi (pre ++ [x]) W'))) →
    (∀ hi, W.heap.size ≤ hi → J hi [] W) → CallsIn Fence.wide 0 P gf (#[.func (.yield l) #[] #[]] ++ lb) W fun e W' => (∃ v, e = .returned v) ∧ ∃ hi, W.heap.size ≤ hi ∧ ((∃ xs, S xs ∧ J hi xs W') ∨ ∃ pre, Sp pre ∧ Jx hi pre W')

/-- how a round's body may be left. -/
def postD {α : Type} (B hi : Nat) (I : List α → World → Prop) (Ix : Code → List α → World → Prop) (xs : List α) (W : World) : Exit → Act → World → Prop
  | .normal, _, W' => Kp B hi W W' ∧ I xs W'
  | .ret, _, W' => Kp B hi W W' ∧ Ix .ret xs W'
  | .exit id, _, W' => Kp B hi W W' ∧ Ix (.exit id) xs W'
  | .goto t, _, W' => Kp B hi W W' ∧ Ix (.goto t) xs W'
  | .panic _, _, _ => False
  | .outgrown, _, _ => False

theorem rangeFunc_D {P : Program} {α : Type} {g : Operand} {ps : Array Tmp} {assign body : Code} {Q : Exit → Act → World → Prop} {a : Act} {w : World}
    {gf : Nat} {lb : Array Value} (hg : a.eval g = .func (.func gf) #[] lb) (eg : CallsTo P gf) {encs : α → Array Value} {S Sp : List α → Prop} {N : Nat} {K0 : World → Prop}
    (hseq : SeqD P gf lb encs S Sp N K0) (hps : ∀ x, (encs x).size = ps.size) (I : Nat → List α → World → Prop) (Ix : Nat → Code → List α → World → Prop)
    (hI : ∀ hi, w.heap.size + 2 ≤ hi → AbR w.heap.size hi (I hi)) (hIx : ∀ hi c, w.heap.size + 2 ≤ hi → AbR w.heap.size hi (Ix hi c)) (hK : ∀ hi pre W', I hi pre W' → K0 W') (h0 : ∀ hi, w.heap.size + 2 ≤ hi → I hi [] w)
    (hround : ∀ (hi l : Nat) (pre : List α) (x : α) (W : World), w.heap.size + 2 ≤ hi → hi ≤ W.heap.size → I hi pre W → pre.length < N →
      assign.wpIn (Fence.wide.inRound l) 0 P (Exit.then (fun a1 W1 => Kp w.heap.size hi W W1 ∧ ∀ W2, Turn (w.heap.size + 1) W1 W2 → body.wpIn (Fence.wide.inRound l) 0 P (postD w.heap.size hi (I hi) (Ix hi) (pre ++ [x]) W2) a1 W2) (fun _ _ _ => False))
        { tmps := (ps.zip (encs x)).foldl (fun t (p, v) => t.setIfInBounds p v) a.tmps, defers := [] } W)
    (hdone : ∀ (hi D : Nat) (xs : List α) (W : World), w.heap.size + 2 ≤ hi → w.heap.size ≤ D → D < hi → S xs → I hi xs W → W.heap[D]? = some (.deferred (some [])) → Q .normal { a with defers := { target := .collected D, args := #[] } :: a.defers } W)
    (hstop : ∀ (hi D : Nat) (c : Code) (pre : List α) (W : World), w.heap.size + 2 ≤ hi → w.heap.size ≤ D → D < hi → Sp pre → Ix hi c pre W → W.heap[D]? = some (.deferred (some [])) → c.wpIn Fence.wide 0 P Q { a with defers := { target := .collected D, args := #[] } :: a.defers } W) :
    (Code.rangeFunc g ps assign body).wpIn Fence.wide 0 P Q a w := by
  refine wpIn_rangeFunc fun fn hfn => ?_
  obtain ⟨rec, hrec⟩ : ∃ rec : LoopState → Option Code → Loop, rec = fun st pe => { state := st, pending := pe, fn, tmps := a.tmps, params := ps, assign, body, defers := w.heap.size } := ⟨_, rfl⟩
  obtain ⟨W1, hW1⟩ : ∃ W1, (w.alloc (.deferred (some []))).alloc (.loop (rec .ready none)) = W1 := ⟨_, rfl⟩
  have hs1 : W1.heap.size = w.heap.size + 2 := by rw [← hW1]; simp
  have hL : W1.heap[w.heap.size + 1]? = some (.loop (rec .ready none)) := by
    rw [← hW1]; have := World.alloc_heap_new (w.alloc (.deferred (some []))) (.loop (rec .ready none)); rwa [World.size_alloc] at this
  have hD : W1.heap[w.heap.size]? = some (.deferred (some [])) := by
    rw [← hW1]; exact (Below.heap_alloc _ _ _ (by simp)).trans (World.alloc_heap_new w _)
  have hI1 : ∀ hi, w.heap.size + 2 ≤ hi → I hi [] W1 := fun hi hh => by rw [← hW1]; exact (hI hi hh).alloc ((hI hi hh).alloc (h0 hi hh) _) _
  refine ⟨w.heap.size + 1, [{ target := .collected w.heap.size, args := #[] }], W1, { target := .fn (.func gf) lb, args := #[.func (.yield (w.heap.size + 1)) #[] #[]] }, W1, gf,
    #[.func (.yield (w.heap.size + 1)) #[] #[]] ++ lb, W1, ?_, ?_, fun _ _ => trivial, ?_, fun h => (by cases h), ?_⟩
  · rw [← hW1, hrec]; exact run_enterLoop_outer _ _ _ _ _
  · simp only [resolve, hg]
    simp [go_sem]
  · have := eg (#[.func (.yield (w.heap.size + 1)) #[] #[]] ++ lb) W1
    exact this
  have key := hseq (w.heap.size + 1) (fun hi pre W => w.heap.size + 2 ≤ W.heap.size ∧ I hi pre W ∧ W.heap[w.heap.size + 1]? = some (.loop (rec .ready none)) ∧ W.heap[w.heap.size]? = some (.deferred (some [])))
    (fun hi pre W => w.heap.size + 2 ≤ W.heap.size ∧ ∃ c, Ix hi c pre W ∧ W.heap[w.heap.size + 1]? = some (.loop (rec .done (some c))) ∧ W.heap[w.heap.size]? = some (.deferred (some []))) W1
    (fun hi pre W' h => hK hi pre W' h.2.1)
    (fun hi hh s A B h e1 e2 e3 e4 e5 => by
      have h1 := h.1
      exact ⟨Nat.le_trans h.1 e4, hI hi (by omega) s A B h.2.1 e1 e2 e3 e4 (fun k hk hk2 => e5 k hk (by omega)), (e5 _ (by omega) (by omega)).trans h.2.2.1, (e5 _ (by omega) (by omega)).trans h.2.2.2⟩)
    (fun hi hh s A B h e1 e2 e3 e4 e5 => by
      obtain ⟨hz, c, h1, h2, h3⟩ := h
      exact ⟨Nat.le_trans hz e4, c, hIx hi c (by omega) s A B h1 e1 e2 e3 e4 (fun k hk hk2 => e5 k hk (by omega)), (e5 _ (by omega) (by omega)).trans h2, (e5 _ (by omega) (by omega)).trans h3⟩)
    ?_ (fun hi hh => ⟨by omega, hI1 hi (by omega), hL, hD⟩)
  · refine key.mono ?_
    rintro e W2 ⟨⟨v, rfl⟩, hh, hhl, (⟨xs, hS, hz, hi, hl, hk⟩ | ⟨pre, hSp, hz, c, hi, hl, hk⟩)⟩
    · exact ⟨none, _, by have := run_endLoop (P := P) hl (by rw [hrec]; simp); rw [hrec] at this; exact this, hdone hh _ xs _ (by omega) (Nat.le_refl _) (by omega) hS ((hI hh (by omega)).put (by omega) (by omega) hi _) ((World.putObj_heap_other (by omega)).trans hk)⟩
    · exact ⟨some c, _, by have := run_endLoop (P := P) hl (by rw [hrec]; simp); rw [hrec] at this; exact this, hstop hh _ c pre _ (by omega) (Nat.le_refl _) (by omega) hSp ((hIx hh c (by omega)).put (by omega) (by omega) hi _) ((World.putObj_heap_other (by omega)).trans hk)⟩
  · rintro hh pre x W hhl hhW ⟨hz, hi, hl, hk⟩ hlen
    have hy := run_yield (P := P) (args := encs x) hl (by rw [hrec]; exact hps x)
    rw [hrec] at hy
    refine ⟨fn, _, assign, body, hy, roundIn_of_wpIn hfn (wpIn_mono (hround hh _ pre x W (by omega) hhW hi hlen) ?_)⟩
    rintro e a1 W1' hp1
    cases e with
    | exit _ => exact hp1.elim
    | goto _ => exact hp1.elim
    | ret => exact hp1.elim
    | panic _ => exact hp1.elim
    | outgrown => exact hp1.elim
    | normal => ?_
    obtain ⟨⟨hzz, hkeep⟩, hbody⟩ := hp1
    have hl1 := (hkeep (w.heap.size + 1) (by omega) (by omega)).trans hl
    have hk1 := (hkeep w.heap.size (Nat.le_refl _) (by omega)).trans hk
    refine ⟨_, run_beginRound hl1 (by rw [hrec]), ?_⟩
    obtain ⟨W2, hW2⟩ : ∃ W2, W1'.putObj (w.heap.size + 1) (.loop { rec .ready none with state := .busy }) = W2 := ⟨_, rfl⟩
    have hl2 : W2.heap[w.heap.size + 1]? = some (.loop { rec .ready none with state := .busy }) := by rw [← hW2]; exact putObj_at hl1
    have hk2 : W2.heap[w.heap.size]? = some (.deferred (some [])) := by rw [← hW2]; exact (World.putObj_heap_other (by omega)).trans hk1
    have hz2 : w.heap.size + 2 ≤ W2.heap.size := by rw [← hW2]; simp; omega
    rw [hW2]
    refine wpIn_mono (hbody W2 (by rw [← hW2]; exact Turn.put _ _ _)) ?_
    have fin : ∀ (jump : Option Code) (W3 : World), Kp w.heap.size hh W2 W3 → w.heap.size + 2 ≤ W3.heap.size ∧
        (Instr.endRound (w.heap.size + 1) jump).run P W3 = .ok (.bool jump.isNone) (W3.putObj (w.heap.size + 1) (.loop (rec (if jump.isNone then .ready else .done) jump))) ∧
        (W3.putObj (w.heap.size + 1) (.loop (rec (if jump.isNone then .ready else .done) jump))).heap[w.heap.size + 1]? = some (.loop (rec (if jump.isNone then .ready else .done) jump)) ∧
        (W3.putObj (w.heap.size + 1) (.loop (rec (if jump.isNone then .ready else .done) jump))).heap[w.heap.size]? = some (.deferred (some [])) ∧
        Kp W1.heap.size hh W (W3.putObj (w.heap.size + 1) (.loop (rec (if jump.isNone then .ready else .done) jump))) := fun jump W3 ⟨hsz, hk3⟩ => by
      have hl3 := (hk3 _ (by omega) (by omega)).trans hl2
      have hd3 := (hk3 _ (Nat.le_refl _) (by omega)).trans hk2
      have hr := run_endRound (P := P) jump hl3
      rw [hrec] at hr ⊢
      have hw2 : W2.heap.size = W1'.heap.size := by rw [← hW2]; simp
      refine ⟨by have := (Array.getElem?_eq_some_iff.1 hl3).1; omega, hr, putObj_at hl3, (World.putObj_heap_other (by omega)).trans hd3, by simp; omega, fun k hk1 hk2' => ?_⟩
      rw [World.putObj_heap_other (by omega), hk3 k (by omega) (by omega), ← hW2, World.putObj_heap_other (by omega)]
      exact hkeep k (by omega) hk2'
    rintro e a3 W3 hp
    cases e with
    | normal =>
      obtain ⟨hk3, hi3⟩ := hp
      obtain ⟨hz3, hr, hl4, hk4, hkp⟩ := fin none W3 hk3
      exact ⟨_, _, hr, hkp, .inl ⟨rfl, by simpa using hz3, (hI hh (by omega)).put (by omega) (by omega) hi3 _, hl4, hk4⟩⟩
    | ret =>
      obtain ⟨hk3, hi3⟩ := hp
      obtain ⟨hz3, hr, hl4, hk4, hkp⟩ := fin (some .ret) W3 hk3
      exact ⟨_, _, hr, hkp, .inr ⟨rfl, by simpa using hz3, .ret, (hIx hh _ (by omega)).put (by omega) (by omega) hi3 _, hl4, hk4⟩⟩
    | exit id =>
      obtain ⟨hk3, hi3⟩ := hp
      obtain ⟨hz3, hr, hl4, hk4, hkp⟩ := fin (some (.exit id)) W3 hk3
      exact ⟨_, _, hr, hkp, .inr ⟨rfl, by simpa using hz3, .exit id, (hIx hh _ (by omega)).put (by omega) (by omega) hi3 _, hl4, hk4⟩⟩
    | goto t =>
      obtain ⟨hk3, hi3⟩ := hp
      obtain ⟨hz3, hr, hl4, hk4, hkp⟩ := fin (some (.goto t)) W3 hk3
      exact ⟨_, _, hr, hkp, .inr ⟨rfl, by simpa using hz3, .goto t, (hIx hh _ (by omega)).put (by omega) (by omega) hi3 _, hl4, hk4⟩⟩
    | panic ch => exact hp.elim
    | outgrown => exact hp.elim
theorem rangeFunc_D2 {B : Nat} {P : Program} {α : Type} {g : Operand} {ps : Array Tmp} {assign body : Code} {Q : Exit → Act → World → Prop} {a : Act} {w : World} (hB : w.heap.size = B)
    {gf : Nat} {lb : Array Value} (hg : a.eval g = .func (.func gf) #[] lb) (eg : CallsTo P gf) {encs : α → Array Value} {S Sp : List α → Prop} {N : Nat} {K0 : World → Prop}
    (hseq : SeqD P gf lb encs S Sp N K0) (hps : ∀ x, (encs x).size = ps.size) (I : Nat → List α → World → Prop) (Ix : Nat → Code → List α → World → Prop)
    (hI : ∀ hi, B + 2 ≤ hi → AbR B hi (I hi)) (hIx : ∀ hi c, B + 2 ≤ hi → AbR B hi (Ix hi c)) (hK : ∀ hi pre W', I hi pre W' → K0 W') (h0 : ∀ hi, B + 2 ≤ hi → I hi [] w)
    (hround : ∀ (hi l : Nat) (pre : List α) (x : α) (W : World), B + 2 ≤ hi → hi ≤ W.heap.size → I hi pre W → pre.length < N →
      assign.wpIn (Fence.wide.inRound l) 0 P (Exit.then (fun a1 W1 => Kp B hi W W1 ∧ ∀ W2, Turn (B + 1) W1 W2 → body.wpIn (Fence.wide.inRound l) 0 P (postD B hi (I hi) (Ix hi) (pre ++ [x]) W2) a1 W2) (fun _ _ _ => False))
        { tmps := (ps.zip (encs x)).foldl (fun t (p, v) => t.setIfInBounds p v) a.tmps, defers := [] } W)
    (hdone : ∀ (hi D : Nat) (xs : List α) (W : World), B + 2 ≤ hi → B ≤ D → D < hi → S xs → I hi xs W → W.heap[D]? = some (.deferred (some [])) → Q .normal { a with defers := { target := .collected D, args := #[] } :: a.defers } W)
    (hstop : ∀ (hi D : Nat) (c : Code) (pre : List α) (W : World), B + 2 ≤ hi → B ≤ D → D < hi → Sp pre → Ix hi c pre W → W.heap[D]? = some (.deferred (some [])) → c.wpIn Fence.wide 0 P Q { a with defers := { target := .collected D, args := #[] } :: a.defers } W) :
    (Code.rangeFunc g ps assign body).wpIn Fence.wide 0 P Q a w := by
  subst hB
  exact rangeFunc_D hg eg hseq hps I Ix hI hIx hK h0 hround hdone hstop
section
variable {P : Program} {n : Nat} {F0 : Nat → Prop} {w0 : World} {a : Act} {w : World} {L : List (Nat × Value)} {Γ : List Asn}
variable {K : Act → World → Prop} {Q : Exit → Act → World → Prop} {d ty : Nat} {pos : String} {af : Array Edge} {g : Option (Nat × Bool)}
/-- what an operation yields does not hang on the deferred calls. -/
theorem s_eD {op : Op} {v : Value} {ds : List Deferred} (hS : St n F0 w0 a w L Γ) (he : Ex P n a L Γ ⟨some d, op, ty, pos, af, g⟩ v) (hn : Nat.blt d n = true)
    (h : ∀ a', St n F0 w0 a' w ((d, v) :: L) Γ → K { a' with defers := ds } w) : OW P ⟨some d, op, ty, pos, af, g⟩ { a with defers := ds } w K Q := by
  refine ⟨?_⟩
  unfold Oper.wp
  have e : (execOp (Act.eval { a with defers := ds }) ⟨some d, op, ty, pos, af, g⟩) = execOp a.eval ⟨some d, op, ty, pos, af, g⟩ := rfl
  rw [e, he hS.sl w hS.hd]
  show K (Act.put { a with defers := ds } (some d) v) w
  rw [put_defers]
  exact h _ (hS.put hn v)
theorem end1 {fn : Func} {R : Ending → World → Prop} {D : Nat} {e : Exit} {rs : List ResultVar} {v : Value} (hS : St n F0 w0 a (w.putObj D (.deferred none)) L Γ) (he : e = .ret ∨ e = .normal) (hD : w.heap[D]? = some (.deferred (some [])))
    (hr : fn.results = rs.toArray) (hv : ResL P L Γ rs [v]) (h : R (.returned v) (w.putObj D (.deferred none))) :
    bodyPostM Fence.wide 0 P fn R e { a with defers := [{ target := .collected D, args := #[] }] } w := by
  refine endM he rfl hD ?_ h
  have h1 := ResL.run hS hv
  show (results fn a.tmps).run P _ = _
  rw [results_rvS, hr, List.mapM_toArray, Sem.run_bind, Sem.run_map, h1]
  simp [Result.andThen_ok]
end
end Go.Proofs.Ytheofhegdjjfgaa

namespace Go.Proofs.Ytheofhegdjjfgaa
open Go.RowKit

theorem nodup_le : ∀ (n : Nat) (s : List Nat), s.Nodup → (∀ i ∈ s, i < n) → s.length ≤ n
  | 0, s, _, h => by
    cases s with
    | nil => exact Nat.le_refl _
    | cons x r => exact absurd (h x (.head _)) (by omega)
  | n + 1, s, hd, h => by
    by_cases hm : n ∈ s
    · have h1 := nodup_le n (s.erase n) (hd.erase n) (fun i hi => by
        have h2 := (List.Nodup.mem_erase_iff hd).1 hi
        have := h i h2.2
        have := h2.1
        omega)
      rw [List.length_erase_of_mem hm] at h1
      omega
    · have h1 := nodup_le n s hd (fun i hi => by
        have := h i hi
        have : i ≠ n := fun e => hm (e ▸ hi)
        omega)
      omega
def keysM (l : List (ByteArray × Value)) : List ByteArray := l.map (·.1)
def keyAt (l : List (ByteArray × Value)) (i : Nat) : ByteArray := (keysM l).getD i ⟨#[]⟩
theorem keyAt_of {l : List (ByteArray × Value)} {i : Nat} {k : ByteArray} {v : Value} (h : l[i]? = some (k, v)) : keyAt l i = k := by
  unfold keyAt keysM; rw [List.getD_eq_getElem?_getD, List.getElem?_map, h]; rfl
theorem keys_all {l : List (ByteArray × Value)} {s : List Nat} (hd : s.Nodup) (h : ∀ i ∈ s, i < l.length) (ha : ∀ i, i < l.length → i ∈ s) : (s.map (keyAt l)).Perm (keysM l) := by
  have h1 : s.Perm (List.range l.length) := (List.perm_ext_iff_of_nodup hd List.nodup_range).2 (fun i => ⟨fun hi => List.mem_range.2 (h i hi), fun hi => ha i (List.mem_range.1 hi)⟩)
  refine (h1.map (keyAt l)).trans ?_
  have h2 : (List.range l.length).map (keyAt l) = keysM l := by
    apply List.ext_getElem
    · simp [keysM]
    · intro i h3 h4
      have h5 : i < l.length := by simpa using h3
      simp [keyAt, keysM, List.getD_eq_getElem?_getD, List.getElem?_eq_getElem h5]
  rw [h2]
/-- a map's own place, and the box that holds it, only read. -/
structure keysK (b m T : Nat) (l : List (ByteArray × Value)) (w : World) : Prop where
  box : w.heap[b]? = some (.cells [Value.map (some m)].toArray T (0, 0))
  mp : w.heap[m]? = some (.map (mkM 0 l).toArray l.length)
def keysA (b m T : Nat) (l : List (ByteArray × Value)) : Asn := .any (fun k => k = b ∨ k = m) (keysK b m T l) false
theorem keys_ok {b m T : Nat} {l : List (ByteArray × Value)} {w : World} (h : keysK b m T l w) : (keysA b m T l).ok w := by
  refine ⟨fun k hk => ?_, fun w' hw => ⟨?_, ?_⟩⟩
  · rcases hk with rfl | rfl
    · exact (Array.getElem?_eq_some_iff.1 h.box).1
    · exact (Array.getElem?_eq_some_iff.1 h.mp).1
  · rw [hw b (.inl rfl)]; exact h.box
  · rw [hw m (.inr rfl)]; exact h.mp
def keyV (k : ByteArray) : Array Value := [.string k].toArray
def itF (it : Nat) : Nat → Prop := fun k => k = it
theorem St.bareK {n : Nat} {a : Act} {w : World} {L : List (Nat × Value)} (h : Sl n a L) : St n noB w a w L [] := ⟨h, Chg.refl _ _, okN, disN, mineN⟩
theorem St.iter {n : Nat} {a : Act} {w : World} {L : List (Nat × Value)} (h : Sl n a L) {it m N : Nat} {s : List Nat} {Y : Asn} (hi : w.heap[it]? = some (.mapIter (some m) N s.toArray N)) (hY : Y.ok w) (hm : Y.mine = false) (hd : ¬ Y.F it) : St n (itF it) w a w L [itA it m s N, Y] :=
  ⟨h, Chg.refl _ _, okC (it_ok hi) (okC hY okN), disC (sepC (fun b e1 e2 => hd (by have e3 : b = it := e1; rw [← e3]; exact e2)) sepN) dis1, mineO (fun _ hb => hb) (mineC hm mineN)⟩
/-- what does not hang on this place stays while only it is written. -/
theorem ab_it {β : Type} {B it : Nat} {I : β → World → Prop} (h : AbR B (it + 1) I) (hit : B ≤ it) {s : β} {w w' : World} (hs : I s w) (hc : Chg (itF it) w w') : I s w' :=
  h s w w' hs hc.os hc.tape hc.output hc.size (fun k hk hk2 => hc.block k hk (fun e => by have e2 : k = it := e; omega))

set_option maxRecDepth 100000 in
theorem Keys_Fx_seq (b m : Nat) (l : List (ByteArray × Value)) : SeqD Try.prog 109 #[.pointer (some ⟨b, 0, none⟩)] keyV (fun xs => xs.Perm (keysM l)) (fun _ => True) l.length (keysK b m 112 l) := by
  intro ly J Jx W hK hJ hJx hY h0
  have hk0 := hK _ _ _ (h0 W.heap.size (Nat.le_refl _))
  have hbW : b < W.heap.size := (Array.getElem?_eq_some_iff.1 hk0.box).1
  have hmW : m < W.heap.size := (Array.getElem?_eq_some_iff.1 hk0.mp).1
  rw [show (#[Value.func (.yield ly) #[] #[]] ++ #[Value.pointer (some ⟨b, 0, none⟩)] : Array Value) = [Value.func (.yield ly) #[] #[], Value.pointer (some ⟨b, 0, none⟩)].toArray from rfl]
  refine callsIn_enter [(0, .func (.yield ly) #[] #[]), (1, .pointer (some ⟨b, 0, none⟩))] [keysA b m 112 l] noB Try.func109 rfl Try.ntmps109 ⟨rfl, rfl, trivial⟩ rfl (okC (keys_ok hk0) okN) dis1 (mineC (by rfl) mineN) ?_
  intro a hS
  refine R_seq ?_
  refine R_region ?_
  refine R_op rfl (s_e hS (e_loadC rfl ty_sc112 (fun w hh => cell_of_blk (cs := [.map (some m)]) (hh (keysA b m 112 l) (by repeat constructor)).box rfl)) rfl ?_); clear hS a; intro a hS
  refine R_op rfl (s_rangeM (l := l) hS rfl ty_mp112 (fun w hh => (hh (keysA b m 112 l) (by repeat constructor)).mp) (by rfl) ?_); clear hS a; (try clear w); intro a w it hS
  refine R_nil ?_
  refine n_then ?_
  refine R_block ?_
  have hitW : W.heap.size ≤ it := by
    have h1 := hS.mine (itA it m [] l.length) (by repeat constructor) rfl it rfl
    rcases h1 with h1 | h1
    · exact h1
    · exact h1.elim
  have hnF : ¬ (keysA b m 112 l).F it := fun e => by
    have e2 : it = b ∨ it = m := e
    omega
  have hJi := hJ (it + 1) (by omega)
  have hJ0 : J (it + 1) [] w := hJi _ _ _ (h0 (it + 1) (by omega)) hS.chg.os hS.chg.tape hS.chg.output hS.chg.size (fun k hk _ => hS.chg.block k hk (fun e => e))
  have hWw := hS.chg.size
  refine R_loop (γ := List Nat) (fun s a w => St 14 (itF it) w a w [(5, .pointer (some ⟨it, 0, none⟩)), (0, .func (.yield ly) #[] #[]), (1, .pointer (some ⟨b, 0, none⟩))] [itA it m s l.length, keysA b m 112 l] ∧ W.heap.size ≤ w.heap.size ∧ s.Nodup ∧ (∀ i ∈ s, i < l.length) ∧ J (it + 1) (s.map (keyAt l)) w) (fun s => l.length - s.length) [] ⟨St.iter (hS.sl.sub (by repeat (first | exact trivial | refine ⟨rfl, ?_⟩))) (hS.get (X := itA it m [] l.length) (by repeat constructor)) (hS.ok _ (by repeat constructor)) rfl hnF, hWw, .nil, fun i hi => (by cases hi), hJ0⟩ ?_
  clear hS a; (try clear w); intro s a w hI
  obtain ⟨hS, hWw, hnd, hlt, hj⟩ := hI
  refine R_seq ?_
  refine R_region ?_
  refine R_op rfl (s_nextO (l := l) hS rfl (fun w hh => (hh (keysA b m 112 l) (by repeat constructor)).mp) (by rfl) (fun _ => .head) ?_); intro o ho a1 w1 hS1; have hj1 := ab_it hJi hitW hj hS1.chg; have hW1 : W.heap.size ≤ w1.heap.size := Nat.le_trans hWw hS1.chg.size; clear hS a; revert a1; intro a hS
  refine R_op rfl (s_e hS (e_extract rfl (nx0 o)) rfl ?_); clear hS a; intro a hS
  refine R_nil ?_
  refine n_then ?_
  refine R_seq ?_
  first | refine R_ifD hS rfl (fun hc7 => ?_) (fun hc7 => ?_) | refine R_if hS rfl (fun hc7 => ?_) (fun hc7 => ?_)
  ·
    obtain ⟨⟨i, k, v⟩, rfl⟩ : ∃ q, o = some q := Option.isSome_iff_exists.1 hc7
    obtain ⟨hl, hns⟩ := ho
    simp only [nxS] at hS
    have hil := (List.getElem?_eq_some_iff.1 hl).1
    have hnd2 : (s ++ [i]).Nodup := List.nodup_append.2 ⟨hnd, by simp, fun x hx y hy => by obtain rfl := List.mem_singleton.1 hy; exact fun e => hns (e ▸ hx)⟩
    have hlt2 : ∀ j ∈ s ++ [i], j < l.length := fun j hj => by
      rcases List.mem_append.1 hj with hj | hj
      · exact hlt j hj
      · obtain rfl := List.mem_singleton.1 hj; exact hil
    have hsl := nodup_le _ _ hnd2 hlt2
    rw [List.length_append, List.length_singleton] at hsl
    have hka : s.map (keyAt l) ++ [k] = (s ++ [i]).map (keyAt l) := by rw [List.map_append, List.map_singleton, keyAt_of hl]
    have hiw : w1.heap[it]? = some (.mapIter (some m) l.length (s ++ [i]).toArray l.length) := hS.get (X := itA it m (s ++ [i]) l.length) (by repeat constructor)
    have hilt := (Array.getElem?_eq_some_iff.1 hiw).1
    have hy := hY (it + 1) _ k w1 (by omega) hilt hj1 (by rw [List.length_map]; omega)
    unfold keyV at hy
    rw [hka] at hy
    refine R_skip ?_
    refine n_then ?_
    refine R_block ?_
    refine R_seq ?_
    refine R_region ?_
    refine R_op rfl (s_e hS (e_entryM rfl (fun w hh => (hh (keysA b m 112 l) (by repeat constructor)).mp) (by repeat constructor) hl) rfl ?_); clear hS a; intro a hS
    refine R_op rfl (s_e hS (e_extract rfl rfl) rfl ?_); clear hS a; intro a hS
    refine R_op rfl (s_e hS (e_assign rfl) rfl ?_); clear hS a; intro a hS
    refine R_nil ?_
    refine n_then ?_
    refine R_seq ?_
    refine R_region ?_
    refine R_op rfl (s_e hS (e_move rfl) rfl ?_); clear hS a; intro a hS
    refine R_op rfl (s_e hS (e_move rfl) rfl ?_); clear hS a; intro a hS
    refine R_yield hS rfl (.cons rfl .nil) hy (fun e' w' hR => ?_)
    obtain ⟨hKp, hR⟩ := hR
    have hit2 := (hKp.2 it hitW (by omega)).trans hiw
    have hW2 : W.heap.size ≤ w'.heap.size := Nat.le_trans hW1 hKp.1
    obtain ⟨y, rfl, hR2⟩ : ∃ y : Bool, e' = .returned (.bool y) ∧ ((y = true ∧ J (it + 1) ((s ++ [i]).map (keyAt l)) w') ∨ (y = false ∧ Jx (it + 1) ((s ++ [i]).map (keyAt l)) w')) := by
      rcases hR with ⟨h1, h2⟩ | ⟨h1, h2⟩
      · exact ⟨true, h1, .inl ⟨rfl, h2⟩⟩
      · exact ⟨false, h1, .inr ⟨rfl, h2⟩⟩
    refine ⟨_, rfl, ?_⟩
    replace hS := St.bareK (w := w') (hS.sl.put (d := 12) rfl (.bool y))
    clear hj1 hy hj hKp
    generalize a.put (some 12) (Value.bool y) = a2 at hS ⊢
    clear a; revert a2; intro a hS
    refine R_op rfl (s_e hS (e_not rfl) rfl ?_); clear hS a; intro a hS
    refine R_nil ?_
    refine n_then ?_
    first | refine R_ifD hS rfl (fun hc13 => ?_) (fun hc13 => ?_) | refine R_if hS rfl (fun hc13 => ?_) (fun hc13 => ?_)
    ·
      refine R_ret ?_
      refine r_block (r_then (r_block ?_))
      refine c_retN hS Try.results109 .nil rfl ?_
      have hx2 : Jx (it + 1) ((s ++ [i]).map (keyAt l)) w' := by
        rcases hR2 with ⟨h1, _⟩ | ⟨_, h2⟩
        · rw [h1] at hc13; cases hc13
        · exact h2
      exact ⟨⟨_, rfl⟩, it + 1, by omega, .inr ⟨_, trivial, hx2⟩⟩
    ·
      refine R_skip ?_
      refine n_block ?_
      have hx2 : J (it + 1) ((s ++ [i]).map (keyAt l)) w' := by
        rcases hR2 with ⟨_, h2⟩ | ⟨h1, _⟩
        · exact h2
        · rw [h1] at hc13; cases hc13
      exact ⟨s ++ [i], by rw [List.length_append, List.length_singleton]; omega, St.iter (hS.sl.sub (by repeat (first | exact trivial | refine ⟨rfl, ?_⟩))) hit2 (keys_ok (hK _ _ _ hx2)) rfl hnF, hW2, hnd2, hlt2, hx2⟩
  ·
    refine R_exit ?_
    refine x_then (x_then (x_hit ?_))
    refine r_norm ?_
    refine c_retN hS Try.results109 .nil rfl ?_
    obtain rfl : o = none := by
      cases o with
      | none => rfl
      | some q => cases hc7
    exact ⟨⟨_, rfl⟩, it + 1, by omega, .inl ⟨_, keys_all hnd hlt ho, hj1⟩⟩
end Go.Proofs.Ytheofhegdjjfgaa

namespace Go.Proofs.Ytheofhegdjjfgaa
open Go.RowKit

def curOf (acs : List Acc) (c : ByteArray) : ByteArray := (accOf acs c).cur
def byStep (acs : List Acc) (t : List (ByteArray × SM)) (p : Pst) : List (ByteArray × SM) := putT t (curOf acs p.acc) (addS (totOf t (curOf acs p.acc)) p)
/-- sums by currency. -/
def byF (acs : List Acc) (ps : List Pst) : List (ByteArray × SM) := ps.foldl (byStep acs) []
def sumFn (ps : List Pst) : Int := ps.foldl (fun a p => a + p.f) 0
def evenF (acs : List Acc) (ps : List Pst) : Prop := (∀ t ∈ byF acs ps, t.2.1 = 0) ∧ sumFn ps = 0
instance (acs : List Acc) (ps : List Pst) : Decidable (evenF acs ps) := by unfold evenF; infer_instance
theorem byF_take {acs : List Acc} {ps : List Pst} {i : Nat} {x : Pst} (hx : ps[i]? = some x) : byF acs (ps.take (i + 1)) = byStep acs (byF acs (ps.take i)) x := by
  unfold byF; rw [List.take_add_one, hx, List.foldl_append]; rfl
theorem sumFn_take {ps : List Pst} {i : Nat} {x : Pst} (hx : ps[i]? = some x) : sumFn (ps.take (i + 1)) = sumFn (ps.take i) + x.f := by
  unfold sumFn; rw [List.take_add_one, hx, List.foldl_append]; rfl
theorem wv_nil : wv 0 = [.int .u64 0, .int .u64 0] := by unfold wv; rw [show Wd.hi 0 = 0 from by decide, show Wd.lo 0 = 0 from by decide]
/-- no total grows beyond what so many postings may say. -/
def bdT (t : List (ByteArray × SM)) (i : Nat) : Prop := ∀ e ∈ t, (-(i * 9223372036854775808 : Int) ≤ e.2.1 ∧ e.2.1 ≤ i * 9223372036854775808) ∧ (-(i * 9223372036854775808 : Int) ≤ e.2.2 ∧ e.2.2 ≤ i * 9223372036854775808)
theorem totOf_mem (t : List (ByteArray × SM)) (c : ByteArray) : totOf t c = (0, 0) ∨ ∃ e ∈ t, e.1 = c ∧ e.2 = totOf t c := by
  unfold totOf
  cases h : t.find? fun e => decide (e.1 = c) with
  | none => exact .inl rfl
  | some e => exact .inr ⟨e, List.mem_of_find?_eq_some h, by simpa using List.find?_some h, rfl⟩
theorem bdT_of {t : List (ByteArray × SM)} {i : Nat} (h : bdT t i) (c : ByteArray) : (-(i * 9223372036854775808 : Int) ≤ (totOf t c).1 ∧ (totOf t c).1 ≤ i * 9223372036854775808) ∧ (-(i * 9223372036854775808 : Int) ≤ (totOf t c).2 ∧ (totOf t c).2 ≤ i * 9223372036854775808) := by
  rcases totOf_mem t c with e | ⟨e, he, _, e2⟩
  · rw [e]; simp only; omega
  · rw [← e2]; exact h e he
theorem putT_mem {c : ByteArray} {s : SM} {e : ByteArray × SM} : ∀ {t : List (ByteArray × SM)}, e ∈ putT t c s → e = (c, s) ∨ e ∈ t
  | [], h => .inl (by simpa [putT] using h)
  | (k, u) :: l, h => by
    unfold putT at h
    by_cases e1 : k = c
    · rw [if_pos e1] at h
      rcases List.mem_cons.1 h with h | h
      · exact .inl h
      · exact .inr (.tail _ h)
    · rw [if_neg e1] at h
      rcases List.mem_cons.1 h with h | h
      · exact .inr (by rw [h]; exact .head _)
      · rcases putT_mem h with h | h
        · exact .inl h
        · exact .inr (.tail _ h)
theorem bdT_step {t : List (ByteArray × SM)} {i : Nat} (h : bdT t i) {acs : List Acc} {p : Pst} (hp : p.fits) : bdT (byStep acs t p) (i + 1) := by
  intro e he
  have hu := hp.u
  have hf := hp.f
  rcases putT_mem he with rfl | he
  · have h2 := bdT_of h (curOf acs p.acc)
    unfold addS; simp only; omega
  · have h1 := h e he
    omega
theorem sg_zero {v : Int} : Wd.sg v = 0 ↔ v = 0 := by unfold Wd.sg; split <;> (try split) <;> omega

set_option maxHeartbeats 1000000 in
set_option maxRecDepth 100000 in
theorem leven_P (B : LB) (s : LS) (p : Option (Nat × Nat)) (c : Nat) (ps : List Pst) (hlen : ps.length ≤ 60) (hfit : ∀ x ∈ ps, x.fits) (w0 : World) (h : ledφ B s w0) (hrow : RowP p 3 (ps.map encP) w0) (hb : ∀ q, p = some q → q.1 < w0.heap.size) (hd : ∀ q, p = some q → ¬ ledF B s q.1) :
    PureC Try.prog 76 [.pointer (some ⟨B.lb, 0, none⟩), sliceV p ps.length c] w0 (.bool (decide (evenF s.acs ps))) := by
  refine c_enter [(0, .pointer (some ⟨B.lb, 0, none⟩)), (1, sliceV p ps.length c)] [ledA B s false, rowP p 3 (ps.map encP)] noB Try.func76 rfl Try.ntmps76 ⟨rfl, rfl, trivial⟩ rfl (okC (led_ok false h) (okC (ok_rowP hrow hb) okN)) (disC (sepC (fun b h1 h2 => by obtain ⟨off, e⟩ := h2; exact hd _ e h1) sepN) dis1) (mineC (by rfl) (mineC (by rfl) mineN)) ?_
  intro a hS
  refine c_seq ?_
  refine c_region ?_
  refine L_op (s_e hS (e_assign rfl) rfl ?_); clear hS a; intro a hS
  refine L_nil ?_
  refine n_then ?_
  refine c_seq ?_
  refine c_region ?_
  refine L_op (s_makeMapS hS rfl ?_); clear hS a; (try clear w); intro a w b12 hS
  refine L_op (s_e hS (e_assign rfl) rfl ?_); clear hS a; intro a hS
  refine L_nil ?_
  refine n_then ?_
  refine c_seq ?_
  refine c_region ?_
  refine L_op (s_e hS (e_build ty_z106 ty_pl106 .nil) rfl ?_); clear hS a; intro a hS
  refine L_op (s_alloc hS ty_z106 rfl ?_); clear hS a; (try clear w); intro a w b6 hS
  refine L_op (s_storeA hS rfl rfl ty_sz106 (by repeat constructor) (by rfl) (by rfl) (by rfl) ?_); clear hS; (try clear w); intro w hS
  refine L_nil ?_
  refine n_then ?_
  refine c_seq ?_
  refine c_seq ?_
  refine c_region ?_
  refine L_op (s_e hS (e_move rfl) rfl ?_); clear hS a; intro a hS
  refine L_op (s_e hS (e_len rfl rfl ty_sl56) rfl ?_); clear hS a; intro a hS
  refine L_op (s_e hS (e_move rfl) rfl ?_); clear hS a; intro a hS
  refine L_nil ?_
  refine n_then ?_
  refine wp_block ?_
  rw [show ([.int .u64 0, .int .u64 0] : List Value) = wv (sumFn (ps.take 0)) from wv_nil.symm] at hS
  refine c_loop (γ := Nat) (fun i a w => St 57 noB w0 a w [(16, .int .i64 (i : Int)), (15, .int .i64 (ps.length : Int)), (14, sliceV p ps.length c), (5, .map (some b12)), (6, .pointer (some ⟨b6, 0, none⟩)), (0, .pointer (some ⟨B.lb, 0, none⟩))] [.blk b6 (wv (sumFn (ps.take i))) 106, smapA b12 (entSm (byF s.acs (ps.take i))), ledA B s false, rowP p 3 (ps.map encP)] ∧ i ≤ ps.length ∧ bdT (byF s.acs (ps.take i)) i ∧ (-(i * 9223372036854775808 : Int) ≤ sumFn (ps.take i) ∧ sumFn (ps.take i) ≤ i * 9223372036854775808)) (fun i => ps.length - i) 0 ⟨(hS.slots (by repeat (first | exact trivial | refine ⟨rfl, ?_⟩))).pick (by repeat (first | exact Pick.nil | (refine Pick.cons (by repeat (first | exact Rem.head | apply Rem.tail)) ?_))), Nat.zero_le _, fun e he => (by cases he), by simp [sumFn]⟩ ?_
  clear hS a; (try clear w); intro i a w hI
  obtain ⟨hS, hi, hbd, hfn⟩ := hI
  refine c_seq ?_
  refine c_region ?_
  refine L_op (s_e hS (e_bin rfl rfl rfl) rfl ?_); clear hS a; intro a hS
  refine L_nil ?_
  refine n_then ?_
  refine c_seq ?_
  first | refine c_ifD hS rfl (fun hc17 => ?_) (fun hc17 => ?_) | refine c_if hS rfl (fun hc17 => ?_) (fun hc17 => ?_)
  ·
    have hil : i < ps.length := by omega
    obtain ⟨x, hx⟩ : ∃ x, ps[i]? = some x := ⟨ps[i], List.getElem?_eq_getElem hil⟩
    have hxf := hfit x (List.mem_of_getElem? hx)
    have hx' : (ps.map encP)[i]? = some (encP x) := by simp [hx]
    obtain ⟨b, off, rfl⟩ := rowP_some (hS.get (X := rowP p 3 (ps.map encP)) (by repeat constructor)) hx'
    have hby := byF_take (acs := s.acs) hx
    have hsf := sumFn_take hx
    have hb1 := bdT_of hbd (curOf s.acs x.acc)
    have hu := hxf.u
    have hf := hxf.f
    have f1 : fitS (totOf (byF s.acs (ps.take i)) (curOf s.acs x.acc)) := by unfold fitS Wd.fit; omega
    have f2 : fitS (addS (totOf (byF s.acs (ps.take i)) (curOf s.acs x.acc)) x) := by unfold fitS addS Wd.fit; simp only; omega
    have f3 : Wd.fit (sumFn (ps.take i)) := by unfold Wd.fit; omega
    have f4 : Wd.fit x.f := by unfold Wd.fit; omega
    have f5 : Wd.fit (sumFn (ps.take i) + x.f) := by unfold Wd.fit; omega
    refine wp_skip ?_
    refine n_then ?_
    refine c_seq ?_
    refine wp_block ?_
    refine c_seq ?_
    refine c_region ?_
    refine L_op (s_e hS (e_ixN rfl rfl ty_sl56 ty_sz63 (by omega)) rfl ?_); clear hS a; intro a hS
    refine L_op (s_e hS (e_loadAC (l := encP x) rfl ty_st63 ty_sz63 (fun w hh => rowP_get (by repeat constructor) hx' w hh)) rfl ?_); clear hS a; intro a hS
    refine L_op (s_alloc hS ty_z63 rfl ?_); clear hS a; (try clear w); intro a w b8 hS
    refine L_op (s_storeA hS rfl rfl ty_sz63 (by repeat constructor) (by rfl) (by rfl) (by rfl) ?_); clear hS; (try clear w); intro w hS
    refine L_nil ?_
    refine n_then ?_
    refine c_seq ?_
    refine c_drawS [] (by kernel_rfl) hS (sub_cons (X := .blk b8 _ _) (by repeat constructor) (sub_cons (X := ledA B s false) (by repeat constructor) sub_nil)) ?_; clear hS; (try clear w); intro w hS
    simp only [List.length_cons, List.length_nil, Nat.zero_add, Nat.reduceAdd, List.replicate]
    refine Z_take0 (i := 0) hS rfl want_none (e_move rfl) (listed' := [true, false, false, false, false, false, false, false, false]) rfl (by kernel_rfl) (by kernel_rfl) (by kernel_rfl) (fun _ _ _ h => h) rfl ?_; clear hS a; intro a hS
    refine Z_take0 (i := 1) hS rfl want_none (e_nilCheck rfl) (listed' := [true, true, false, false, false, false, false, false, false]) rfl (by kernel_rfl) (by kernel_rfl) (by kernel_rfl) (fun _ _ _ h => h) rfl ?_; clear hS a; intro a hS
    first | (refine Z_take0 (i := 2) hS rfl want_none (e_fa0 rfl ty_fo129_1) (listed' := [true, true, true, false, false, false, false, false, false]) rfl (by kernel_rfl) (by kernel_rfl) (by kernel_rfl) (fun _ _ _ h => h) rfl ?_; clear hS a; intro a hS) | (refine Z_take0 (i := 2) hS rfl want_none (e_faK rfl ty_fo129_1) (listed' := [true, true, true, false, false, false, false, false, false]) rfl (by kernel_rfl) (by kernel_rfl) (by kernel_rfl) (fun _ _ _ h => h) rfl ?_; clear hS a; intro a hS)
    refine Z_take (i := 3) hS rfl want_none (e_loadC rfl ty_sc126 (led_cell (k := 1) (by repeat constructor) rfl)) (listed' := [true, true, true, true, false, false, false, false, false]) rfl (by kernel_rfl) (by kernel_rfl) (by kernel_rfl) (by kernel_rfl) (by kernel_rfl) (sub_cons (by repeat constructor) (sub_cons (by repeat constructor) sub_nil)) (fun _ _ _ h => h) rfl ?_; clear hS a; intro a hS
    first | (refine Z_take0 (i := 4) hS rfl want_none (e_fa0 rfl ty_fo63_0) (listed' := [true, true, true, true, true, false, false, false, false]) rfl (by kernel_rfl) (by kernel_rfl) (by kernel_rfl) (fun _ _ _ h => h) rfl ?_; clear hS a; intro a hS) | (refine Z_take0 (i := 4) hS rfl want_none (e_faK rfl ty_fo63_0) (listed' := [true, true, true, true, true, false, false, false, false]) rfl (by kernel_rfl) (by kernel_rfl) (by kernel_rfl) (fun _ _ _ h => h) rfl ?_; clear hS a; intro a hS)
    refine Z_take (i := 5) hS rfl want_none (e_load rfl (by repeat constructor) ty_sc9 (by rfl)) (listed' := [true, true, true, true, true, true, false, false, false]) rfl (by kernel_rfl) (by kernel_rfl) (by kernel_rfl) (by kernel_rfl) (by kernel_rfl) (sub_cons (by repeat constructor) (sub_cons (by repeat constructor) sub_nil)) (fun _ _ _ h => h) rfl ?_; clear hS a; intro a hS
    refine Z_take (i := 6) hS rfl want_none (e_lookupC rfl rfl ty_mp126 ty_u9 ty_zv68 (fun w hh => (hh (ledA B s false) (by repeat constructor)).am)) (listed' := [true, true, true, true, true, true, true, false, false]) rfl (by kernel_rfl) (by kernel_rfl) (by kernel_rfl) (by kernel_rfl) (by kernel_rfl) (sub_cons (by repeat constructor) (sub_cons (by repeat constructor) sub_nil)) (fun _ _ _ h => h) rfl ?_; clear hS a; intro a hS
    rw [lk_acc] at hS
    refine Z_take0 (i := 7) hS rfl want_none (e_field rfl ty_fo68_1 ty_ft68_1 ty_sc9 rfl) (listed' := [true, true, true, true, true, true, true, true, false]) rfl (by kernel_rfl) (by kernel_rfl) (by kernel_rfl) (fun _ _ _ h => h) rfl ?_; clear hS a; intro a hS
    refine Z_take0 (i := 8) hS rfl want_none (e_assign rfl) (listed' := [true, true, true, true, true, true, true, true, true]) rfl (by kernel_rfl) (by kernel_rfl) (by kernel_rfl) (fun _ _ _ h => h) rfl ?_; clear hS a; intro a hS
    refine Z_done (by kernel_rfl) ?_
    refine n_then ?_
    refine c_seq ?_
    refine c_region ?_
    refine L_op (s_e hS (e_move rfl) rfl ?_); clear hS a; intro a hS
    refine L_op (s_e hS (e_move rfl) rfl ?_); clear hS a; intro a hS
    refine L_op (s_e hS (e_move rfl) rfl ?_); clear hS a; intro a hS
    refine L_op (s_e hS (e_move rfl) rfl ?_); clear hS a; intro a hS
    refine L_op (s_e hS (e_lookupS rfl rfl ty_mp127 ty_u9 ty_zv136 (by repeat constructor)) rfl ?_); clear hS a; intro a hS
    rw [show accOf s.acs x.acc = accOf s.acs x.acc from rfl, lk_tot] at hS
    refine L_op (s_e hS (e_loadA rfl (by repeat constructor) ty_st63 ty_sz63 (by rfl)) rfl ?_); clear hS a; intro a hS
    refine L_op (s_callP hS (.cons rfl (.cons rfl .nil)) cf70 rfl (sadd_P (totOf (byF s.acs (ps.take i)) (curOf s.acs x.acc)) x f1 hxf f2 _) ?_); clear hS a; (try clear w); intro a w hS
    refine L_op (s_mapUp hS rfl rfl rfl ty_mp127 ty_u9 (by repeat constructor) ?_); clear hS; (try clear w); intro w hS
    refine L_nil ?_
    refine n_then ?_
    rw [show setM (entSm (byF s.acs (ps.take i))) (accOf s.acs x.acc).cur (.agg (encSm (addS (totOf (byF s.acs (ps.take i)) (curOf s.acs x.acc)) x)).toArray) = entSm (byF s.acs (ps.take (i + 1))) by rw [putT_set, hby]; rfl] at hS
    refine c_drawS [8] (by kernel_rfl) hS (sub_cons (X := .blk b8 _ _) (by repeat constructor) (sub_cons (X := .blk b6 _ _) (by repeat constructor) sub_nil)) ?_; clear hS; (try clear w); intro w hS
    simp only [List.length_cons, List.length_nil, Nat.zero_add, Nat.reduceAdd, List.replicate]
    refine Z_take (i := 0) hS rfl want_none (e_loadA rfl (by repeat constructor) ty_st106 ty_sz106 (by rfl)) (listed' := [true, false, false, false, false, false, false, false, false]) rfl (by kernel_rfl) (by kernel_rfl) (by kernel_rfl) (by kernel_rfl) (by kernel_rfl) (sub_cons (by repeat constructor) (sub_cons (by repeat constructor) sub_nil)) (fun _ _ _ h => h) rfl ?_; clear hS a; intro a hS
    first | (refine Z_take0 (i := 1) hS rfl want_none (e_fa0 rfl ty_fo63_2) (listed' := [true, true, false, false, false, false, false, false, false]) rfl (by kernel_rfl) (by kernel_rfl) (by kernel_rfl) (fun _ _ _ h => h) rfl ?_; clear hS a; intro a hS) | (refine Z_take0 (i := 1) hS rfl want_none (e_faK rfl ty_fo63_2) (listed' := [true, true, false, false, false, false, false, false, false]) rfl (by kernel_rfl) (by kernel_rfl) (by kernel_rfl) (fun _ _ _ h => h) rfl ?_; clear hS a; intro a hS)
    refine Z_take (i := 2) hS rfl want_none (e_load rfl (by repeat constructor) ty_sc3 (by rfl)) (listed' := [true, true, true, false, false, false, false, false, false]) rfl (by kernel_rfl) (by kernel_rfl) (by kernel_rfl) (by kernel_rfl) (by kernel_rfl) (sub_cons (by repeat constructor) (sub_cons (by repeat constructor) sub_nil)) (fun _ _ _ h => h) rfl ?_; clear hS a; intro a hS
    refine Z_one (i := 3) rfl (want_none a hS.sl) (listed' := [true, true, true, true, false, false, false, false, false]) rfl (by kernel_rfl) (s_callP hS (.cons rfl .nil) cf92 rfl (FromInt_P x.f (by omega) (by omega) _) ?_); clear hS a; (try clear w); intro a w hS
    refine Z_and hS (sub_cons (by repeat constructor) (sub_cons (by repeat constructor) sub_nil)) ?_
    refine Z_one (i := 4) rfl (want_none a hS.sl) (listed' := [true, true, true, true, true, false, false, false, false]) rfl (by kernel_rfl) (s_callP hS (.cons rfl (.cons rfl .nil)) cf97 rfl (Add_P (sumFn (ps.take i)) x.f f3 f4 f5 _) ?_); clear hS a; (try clear w); intro a w hS
    refine Z_and hS (sub_cons (by repeat constructor) (sub_cons (by repeat constructor) sub_nil)) ?_
    refine Z_take0 (i := 5) hS rfl want_none (e_move rfl) (listed' := [true, true, true, true, true, true, false, false, false]) rfl (by kernel_rfl) (by kernel_rfl) (by kernel_rfl) (fun _ _ _ h => h) rfl ?_; clear hS a; intro a hS
    refine Z_take0 (i := 6) hS rfl want_none (e_extract rfl rfl) (listed' := [true, true, true, true, true, true, true, false, false]) rfl (by kernel_rfl) (by kernel_rfl) (by kernel_rfl) (fun _ _ _ h => h) rfl ?_; clear hS a; intro a hS
    refine Z_take0 (i := 7) hS rfl want_none (e_extract rfl rfl) (listed' := [true, true, true, true, true, true, true, true, false]) rfl (by kernel_rfl) (by kernel_rfl) (by kernel_rfl) (fun _ _ _ h => h) rfl ?_; clear hS a; intro a hS
    refine Z_one (i := 8) rfl (want_none a hS.sl) (listed' := [true, true, true, true, true, true, true, true, true]) rfl (by kernel_rfl) (s_storeA hS rfl rfl ty_sz106 (by repeat constructor) (by rfl) (by rfl) (by rfl) ?_); clear hS; (try clear w); intro w hS
    refine Z_last (by simp) ?_
    refine Z_done (by kernel_rfl) ?_
    refine n_block ?_
    refine n_then ?_
    refine c_region ?_
    first | (refine L_op (s_e hS (e_binN rfl rfl rfl (by omega)) rfl ?_); clear hS a; intro a hS) | (refine L_op (s_e hS (e_bin rfl rfl rfl) rfl ?_); clear hS a; intro a hS)
    refine L_op (s_e hS (e_move rfl) rfl ?_); clear hS a; intro a hS
    refine L_nil ?_
    rw [← hsf] at hS
    exact ⟨i + 1, by omega, (hS.slots (by repeat (first | exact trivial | refine ⟨rfl, ?_⟩))).pick (by repeat (first | exact Pick.nil | (refine Pick.cons (by repeat (first | exact Rem.head | apply Rem.tail)) ?_))), by omega, by rw [hby]; exact bdT_step hbd hxf, by rw [hsf]; omega⟩
  ·
    obtain rfl : i = ps.length := by omega
    rw [List.take_length] at hS hbd hfn
    have hln : (entSm (byF s.acs ps)).length = (byF s.acs ps).length := by simp [entSm]
    refine wp_exit ?_
    refine x_then (x_then (x_hit ?_))
    refine n_then ?_
    refine c_seq ?_
    refine c_seq ?_
    refine c_region ?_
    refine L_op (s_e hS (e_move rfl) rfl ?_); clear hS a; intro a hS
    refine L_op (s_rangeM (l := entSm (byF s.acs ps)) hS rfl ty_mp127 (fun w hh => hh (smapA b12 (entSm (byF s.acs ps))) (by repeat constructor)) (by rfl) ?_); clear hS a; (try clear w); intro a w it hS
    refine L_nil ?_
    refine n_then ?_
    refine wp_block ?_
    skip
    refine c_loop (γ := List Nat) (fun sn a w => St 57 noB w0 a w [(45, .pointer (some ⟨it, 0, none⟩)), (6, .pointer (some ⟨b6, 0, none⟩))] [itA it b12 sn (entSm (byF s.acs ps)).length, .blk b6 (wv (sumFn ps)) 106, smapA b12 (entSm (byF s.acs ps))] ∧ sn.Nodup ∧ ∀ i ∈ sn, ∃ t, (byF s.acs ps)[i]? = some t ∧ t.2.1 = 0) (fun sn => (byF s.acs ps).length - sn.length) [] ⟨(hS.slots (by repeat (first | exact trivial | refine ⟨rfl, ?_⟩))).pick (by repeat (first | exact Pick.nil | (refine Pick.cons (by repeat (first | exact Rem.head | apply Rem.tail)) ?_))), .nil, fun i hi => by cases hi⟩ ?_
    clear hS a; (try clear w); intro sn a w hI
    obtain ⟨hS, hnd, hz⟩ := hI
    refine c_seq ?_
    refine c_region ?_
    refine L_op (s_nextO (l := entSm (byF s.acs ps)) hS rfl (fun w hh => hh (smapA b12 (entSm (byF s.acs ps))) (by repeat constructor)) (by rfl) (fun _ => .head) ?_); intro o ho a1 w1 hS1; clear hS a; revert a1; intro a hS
    refine L_op (s_e hS (e_extract rfl (nx0 o)) rfl ?_); clear hS a; intro a hS
    refine L_nil ?_
    refine n_then ?_
    refine c_seq ?_
    first | refine c_ifD hS rfl (fun hc47 => ?_) (fun hc47 => ?_) | refine c_if hS rfl (fun hc47 => ?_) (fun hc47 => ?_)
    ·
      obtain ⟨⟨i, k, v⟩, rfl⟩ : ∃ q, o = some q := Option.isSome_iff_exists.1 hc47
      obtain ⟨hl, hns⟩ := ho
      simp only [nxS] at hS
      obtain ⟨t, ht, hv⟩ : ∃ t, (byF s.acs ps)[i]? = some t ∧ v = .agg (encSm t.2).toArray := by
        unfold entSm at hl
        rw [List.getElem?_map] at hl
        cases e : (byF s.acs ps)[i]? with
        | none => rw [e] at hl; cases hl
        | some t => rw [e] at hl; injection hl with hl; injection hl with _ h2; exact ⟨t, rfl, h2.symm⟩
      subst hv
      have hnd2 : (sn ++ [i]).Nodup := List.nodup_append.2 ⟨hnd, by simp, fun x hx y hy => by obtain rfl := List.mem_singleton.1 hy; exact fun e => hns (e ▸ hx)⟩
      have hlt2 : ∀ j ∈ sn ++ [i], j < (byF s.acs ps).length := fun j hj => by
        rcases List.mem_append.1 hj with hj | hj
        · obtain ⟨t', ht', _⟩ := hz j hj; exact (List.getElem?_eq_some_iff.1 ht').1
        · obtain rfl := List.mem_singleton.1 hj; exact (List.getElem?_eq_some_iff.1 ht).1
      have hsl := nodup_le _ _ hnd2 hlt2
      rw [List.length_append, List.length_singleton] at hsl
      have htm := List.mem_of_getElem? ht
      have ftt : Wd.fit t.2.1 := by have := hbd t htm; unfold Wd.fit; omega
      refine wp_skip ?_
      refine n_then ?_
      refine wp_block ?_
      refine c_seq ?_
      refine c_region ?_
      refine L_op (s_e hS (e_entryM rfl (fun w hh => hh (smapA b12 (entSm (byF s.acs ps))) (by repeat constructor)) (by repeat constructor) hl) rfl ?_); clear hS a; intro a hS
      refine L_op (s_e hS (e_extract rfl rfl) rfl ?_); clear hS a; intro a hS
      refine L_op (s_alloc hS ty_z136 rfl ?_); clear hS a; (try clear w); intro a w b11 hS
      refine L_op (s_storeA hS rfl rfl ty_sz136 (by repeat constructor) (by rfl) (by rfl) (by rfl) ?_); clear hS; (try clear w); intro w hS
      refine L_nil ?_
      refine n_then ?_
      refine c_seq ?_
      refine c_region ?_
      first | (refine L_op (s_e hS (e_fa0 rfl ty_fo136_0) rfl ?_); clear hS a; intro a hS) | (refine L_op (s_e hS (e_faK rfl ty_fo136_0) rfl ?_); clear hS a; intro a hS)
      refine L_op (s_e hS (e_loadSub (l := wv t.2.1) rfl (by repeat constructor) ty_st106 ty_sz106 rfl) rfl ?_); clear hS a; intro a hS
      refine L_op (s_callP hS (.cons rfl .nil) cf102 rfl (PureC.of_below (Sign_w t.2.1 ftt _)) ?_); clear hS a; (try clear w); intro a w hS
      refine L_op (s_e hS (e_bin rfl rfl rfl) rfl ?_); clear hS a; intro a hS
      refine L_nil ?_
      refine n_then ?_
      first | refine c_ifD hS rfl (fun hc53 => ?_) (fun hc53 => ?_) | refine c_if hS rfl (fun hc53 => ?_) (fun hc53 => ?_)
      ·
        refine c_seq ?_
        refine c_region ?_
        refine L_op (s_e hS (e_assign rfl) rfl ?_); clear hS a; intro a hS
        refine L_nil ?_
        refine n_then ?_
        refine wp_ret ?_
        refine r_block (r_then (r_block (r_then ?_)))
        refine c_ret1 hS Try.results76 (.tmp rfl) ?_
        exact ⟨by rw [decide_eq_false (fun hE : evenF s.acs ps => hc53 (sg_zero.2 (hE.1 t htm)))], hS.chg⟩
      ·
        refine wp_skip ?_
        refine n_block ?_
        have ht0 : t.2.1 = 0 := sg_zero.1 (Classical.byContradiction fun e => hc53 e)
        exact ⟨sn ++ [i], by rw [List.length_append, List.length_singleton]; omega, (hS.slots (by repeat (first | exact trivial | refine ⟨rfl, ?_⟩))).pick (by repeat (first | exact Pick.nil | (refine Pick.cons (by repeat (first | exact Rem.head | apply Rem.tail)) ?_))), hnd2, fun j hj => by
          rcases List.mem_append.1 hj with hj | hj
          · exact hz j hj
          · obtain rfl := List.mem_singleton.1 hj; exact ⟨t, ht, ht0⟩⟩
    ·
      obtain rfl : o = none := by
        cases o with
        | none => rfl
        | some q => cases hc47
      have ffn : Wd.fit (sumFn ps) := by unfold Wd.fit; omega
      refine wp_exit ?_
      refine x_then (x_then (x_hit ?_))
      refine n_then ?_
      refine c_seq ?_
      refine c_region ?_
      refine L_op (s_e hS (e_loadA rfl (by repeat constructor) ty_st106 ty_sz106 (by rfl)) rfl ?_); clear hS a; intro a hS
      refine L_op (s_callP hS (.cons rfl .nil) cf102 rfl (PureC.of_below (Sign_w (sumFn ps) ffn _)) ?_); clear hS a; (try clear w); intro a w hS
      refine L_op (s_e hS (e_bin rfl rfl rfl) rfl ?_); clear hS a; intro a hS
      refine L_op (s_e hS (e_assign rfl) rfl ?_); clear hS a; intro a hS
      refine L_nil ?_
      refine n_then ?_
      refine wp_ret ?_
      refine c_ret1 hS Try.results76 (.tmp rfl) ?_
      have hall : ∀ t ∈ byF s.acs ps, t.2.1 = 0 := fun t ht => by
        obtain ⟨j, hj, rfl⟩ := List.mem_iff_getElem.1 ht
        obtain ⟨t', ht', h0⟩ := hz j (ho j (by rw [hln]; exact hj))
        rw [List.getElem?_eq_getElem hj] at ht'
        cases ht'; exact h0
      exact ⟨congrArg (fun b => Ending.returned (Value.bool b)) (decide_eq_decide.2 ⟨fun e => ⟨hall, sg_zero.1 e⟩, fun e => sg_zero.2 e.2⟩), hS.chg⟩
end Go.Proofs.Ytheofhegdjjfgaa

namespace Go.Proofs.Ytheofhegdjjfgaa
open Go.RowKit

/-- a ledger in plain data. -/
structure PL where
  cur : ByteArray
  acs : List Acc
  es : List Ent
  tot : List (ByteArray × SM)
  closed : Int
def pl (s : LS) : PL := ⟨s.cur, s.acs, s.es.map (·.v), s.tot, s.closed⟩
def okS (s : SM) : Prop := inU s.1 ∧ inU s.2
instance (s : SM) : Decidable (okS s) := by unfold okS; infer_instance
def checkE (P : PL) (at_ : Int) (memo : ByteArray) (ps : List Pst) : Int :=
  if ¬ inst at_ then 6 else if at_ ≤ P.closed then 27 else if 100 < memo.size then 8 else if (ps.length < 2 ∨ 50 < ps.length) ∨ 2000 ≤ P.es.length then 9
  else if postE P.acs ps [] ≠ 0 then postE P.acs ps [] else if ¬ evenF P.acs ps then 26 else if ∃ x ∈ ps, ¬ okS (addS (totOf P.tot x.acc) x) then 16 else 0
/-- every total is one that may be. -/
def balT (t : List (ByteArray × SM)) : Prop := ∀ e ∈ t, okS e.2
theorem balT_of {t : List (ByteArray × SM)} (h : balT t) (c : ByteArray) : okS (totOf t c) := by
  rcases totOf_mem t c with e | ⟨e, he, _, e2⟩
  · rw [e]; unfold okS inU; simp
  · rw [← e2]; exact h e he
theorem add_fit {s : SM} {p : Pst} (h : okS s) (hp : p.fits) : fitS s ∧ fitS (addS s p) := by
  have hu := hp.u
  have hf := hp.f
  unfold okS inU at h
  unfold fitS addS Wd.fit
  simp only
  omega

set_option maxRecDepth 100000 in
theorem lCheck_P (B : LB) (s : LS) (p : Option (Nat × Nat)) (c : Nat) (at_ : Int) (memo : ByteArray) (ps : List Pst) (hlen : ps.length ≤ 4611686018427387904) (hfit : ∀ x ∈ ps, x.fits) (hbt : balT s.tot) (w0 : World) (h : ledφ B s w0) (hrow : RowP p 3 (ps.map encP) w0) (hb : ∀ q, p = some q → q.1 < w0.heap.size) (hd : ∀ q, p = some q → ¬ ledF B s q.1) :
    PureC Try.prog 33 [.pointer (some ⟨B.lb, 0, none⟩), .int .i64 at_, .string memo, sliceV p ps.length c] w0 (.int .i64 (checkE (pl s) at_ memo ps)) := by
  obtain ⟨qs, cs, hsv⟩ := own_slice h.row
  have hel : (pl s).es.length = s.es.length := by simp [pl]
  refine c_enter [(0, .pointer (some ⟨B.lb, 0, none⟩)), (1, .int .i64 at_), (2, .string memo), (3, sliceV p ps.length c)] [ledA B s false, rowP p 3 (ps.map encP)] noB Try.func33 rfl Try.ntmps33 ⟨rfl, rfl, rfl, rfl, trivial⟩ rfl (okC (led_ok false h) (okC (ok_rowP hrow hb) okN)) (disC (sepC (fun b h1 h2 => by obtain ⟨off, e⟩ := h2; exact hd _ e h1) sepN) dis1) (mineC (by rfl) (mineC (by rfl) mineN)) ?_
  intro a hS
  refine c_seq ?_
  refine c_region ?_
  refine L_op (s_e hS (e_assign rfl) rfl ?_); clear hS a; intro a hS
  refine L_nil ?_
  refine n_then ?_
  refine c_seq ?_
  refine wp_block ?_
  refine c_seq ?_
  refine c_region ?_
  refine L_op (s_e hS (e_move rfl) rfl ?_); clear hS a; intro a hS
  refine L_op (s_callP hS (.cons rfl .nil) cf67 rfl (linst_P at_ _) ?_); clear hS a; (try clear w); intro a w hS
  refine L_op (s_e hS (e_not rfl) rfl ?_); clear hS a; intro a hS
  refine L_op (s_e hS (e_assign rfl) rfl ?_); clear hS a; intro a hS
  refine L_nil ?_
  refine n_then ?_
  first | refine c_ifD hS rfl (fun hc14 => ?_) (fun hc14 => ?_) | refine c_if hS rfl (fun hc14 => ?_) (fun hc14 => ?_)
  ·
    refine c_seq ?_
    refine c_region ?_
    refine L_op (s_e hS (e_assign rfl) rfl ?_); clear hS a; intro a hS
    refine L_nil ?_
    refine n_then ?_
    refine wp_ret ?_
    refine r_block (r_then ?_)
    refine c_ret1 hS Try.results33 (.tmp rfl) ?_
    exact ⟨by rw [show checkE (pl s) at_ memo ps = 6 from if_pos (by simpa using hc14)], hS.chg⟩
  ·
    have h1 : ¬ ¬ inst at_ := by simpa using hc14
    refine c_seq ?_
    refine c_region ?_
    refine L_op (s_e hS (e_move rfl) rfl ?_); clear hS a; intro a hS
    refine L_op (s_e hS (e_move rfl) rfl ?_); clear hS a; intro a hS
    refine L_op (s_e hS (e_nilCheck rfl) rfl ?_); clear hS a; intro a hS
    first | (refine L_op (s_e hS (e_fa0 rfl ty_fo129_4) rfl ?_); clear hS a; intro a hS) | (refine L_op (s_e hS (e_faK rfl ty_fo129_4) rfl ?_); clear hS a; intro a hS)
    refine L_op (s_e hS (e_loadC rfl ty_sc3 (led_cell (k := 4) (by repeat constructor) rfl)) rfl ?_); clear hS a; intro a hS
    refine L_op (s_e hS (e_bin rfl rfl rfl) rfl ?_); clear hS a; intro a hS
    refine L_op (s_e hS (e_assign rfl) rfl ?_); clear hS a; intro a hS
    refine L_nil ?_
    refine n_then ?_
    first | refine c_ifD hS rfl (fun hc18 => ?_) (fun hc18 => ?_) | refine c_if hS rfl (fun hc18 => ?_) (fun hc18 => ?_)
    ·
      refine c_seq ?_
      refine c_region ?_
      refine L_op (s_e hS (e_assign rfl) rfl ?_); clear hS a; intro a hS
      refine L_nil ?_
      refine n_then ?_
      refine wp_ret ?_
      refine r_block (r_then ?_)
      refine c_ret1 hS Try.results33 (.tmp rfl) ?_
      exact ⟨by rw [show checkE (pl s) at_ memo ps = 27 by unfold checkE; rw [if_neg h1, if_pos (show at_ ≤ (pl s).closed from hc18)]], hS.chg⟩
    ·
      have h2 : ¬ at_ ≤ (pl s).closed := hc18
      refine c_seq ?_
      refine c_region ?_
      refine L_op (s_e hS (e_move rfl) rfl ?_); clear hS a; intro a hS
      refine L_op (s_e hS (e_lenS rfl rfl ty_u9) rfl ?_); clear hS a; intro a hS
      refine L_op (s_e hS (e_bin rfl rfl rfl) rfl ?_); clear hS a; intro a hS
      refine L_op (s_e hS (e_assign rfl) rfl ?_); clear hS a; intro a hS
      refine L_nil ?_
      refine n_then ?_
      first | refine c_ifD hS rfl (fun hc25 => ?_) (fun hc25 => ?_) | refine c_if hS rfl (fun hc25 => ?_) (fun hc25 => ?_)
      ·
        refine c_seq ?_
        refine c_region ?_
        refine L_op (s_e hS (e_assign rfl) rfl ?_); clear hS a; intro a hS
        refine L_nil ?_
        refine n_then ?_
        refine wp_ret ?_
        refine r_block (r_then ?_)
        refine c_ret1 hS Try.results33 (.tmp rfl) ?_
        exact ⟨by rw [show checkE (pl s) at_ memo ps = 8 by unfold checkE; rw [if_neg h1, if_neg h2, if_pos (by omega)]], hS.chg⟩
      ·
        have h3 : ¬ 100 < memo.size := by omega
        refine c_seq ?_
        refine c_region ?_
        refine L_op (s_e hS (e_move rfl) rfl ?_); clear hS a; intro a hS
        refine L_op (s_e hS (e_len rfl rfl ty_sl56) rfl ?_); clear hS a; intro a hS
        refine L_op (s_e hS (e_bin rfl rfl rfl) rfl ?_); clear hS a; intro a hS
        refine L_op (s_e hS (e_move rfl) rfl ?_); clear hS a; intro a hS
        refine L_merge 4 37 (.bool (decide (ps.length < 2 ∨ 50 < ps.length))) hS ?_ ?_
        · intro hcM37
          (first | refine g_splitD (t := 33) hS rfl ?_ ?_ | refine g_split (t := 33) hS rfl ?_ ?_) <;> (clear hS; intro hg33 hS)
          ·
            refine L_skip_f hS rfl rfl rfl ?_; clear hS a; intro a hS
            refine L_skip_f hS rfl rfl rfl ?_; clear hS a; intro a hS
            refine L_skip_f hS rfl rfl rfl ?_; clear hS a; intro a hS
            first | (refine L_op (s_e hS (e_pick_t rfl rfl) rfl ?_); clear hS a; intro a hS) | (refine L_op (s_e hS (e_pick_f rfl rfl) rfl ?_); clear hS a; intro a hS)
            exact hcM37 _ _ (hS.ends 5 37 33 rfl (congrArg Value.bool (by rw [decide_eq_true (.inl (by omega))])) rfl rfl (by first | exact congrArg Value.bool (decide_eq_true hg33).symm | exact congrArg Value.bool hg33.symm | simp [hg33]) rfl)
          ·
            refine L_go hS rfl rfl (s_e hS (e_move rfl) rfl ?_); clear hS a; intro a hS
            refine L_go hS rfl rfl (s_e hS (e_len rfl rfl ty_sl56) rfl ?_); clear hS a; intro a hS
            refine L_go hS rfl rfl (s_e hS (e_bin rfl rfl rfl) rfl ?_); clear hS a; intro a hS
            first | (refine L_op (s_e hS (e_pick_t rfl rfl) rfl ?_); clear hS a; intro a hS) | (refine L_op (s_e hS (e_pick_f rfl rfl) rfl ?_); clear hS a; intro a hS)
            exact hcM37 _ _ (hS.ends 5 37 33 rfl (congrArg Value.bool (by rw [decide_eq_decide]; omega)) rfl rfl (by first | exact congrArg Value.bool (decide_eq_false hg33).symm | exact congrArg Value.bool hg33.symm | simp [hg33]) rfl)
        · clear hS a; (try clear w); intro a w hS
          simp only [List.drop_succ_cons, List.drop_zero]
          refine L_op (s_e hS (e_move rfl) rfl ?_); clear hS a; intro a hS
          refine L_merge 7 45 (.bool (decide ((ps.length < 2 ∨ 50 < ps.length) ∨ 2000 ≤ s.es.length))) hS ?_ ?_
          · intro hcM45
            (first | refine g_splitD (t := 38) hS rfl ?_ ?_ | refine g_split (t := 38) hS rfl ?_ ?_) <;> (clear hS; intro hg38 hS)
            ·
              refine L_skip_f hS rfl rfl rfl ?_; clear hS a; intro a hS
              refine L_skip_f hS rfl rfl rfl ?_; clear hS a; intro a hS
              refine L_skip_f hS rfl rfl rfl ?_; clear hS a; intro a hS
              refine L_skip_f hS rfl rfl rfl ?_; clear hS a; intro a hS
              refine L_skip_f hS rfl rfl rfl ?_; clear hS a; intro a hS
              refine L_skip_f hS rfl rfl rfl ?_; clear hS a; intro a hS
              first | (refine L_op (s_e hS (e_pick_t rfl rfl) rfl ?_); clear hS a; intro a hS) | (refine L_op (s_e hS (e_pick_f rfl rfl) rfl ?_); clear hS a; intro a hS)
              exact hcM45 _ _ (hS.ends 8 45 38 rfl (congrArg Value.bool (by exact (decide_eq_true (.inl hg38)).symm)) rfl rfl (by first | exact congrArg Value.bool (decide_eq_true hg38).symm | exact congrArg Value.bool hg38.symm | simp [hg38]) rfl)
            ·
              refine L_go hS rfl rfl (s_e hS (e_move rfl) rfl ?_); clear hS a; intro a hS
              refine L_go hS rfl rfl (s_e hS (e_nilCheck rfl) rfl ?_); clear hS a; intro a hS
              first | (refine L_go hS rfl rfl (s_e hS (e_fa0 rfl ty_fo129_2) rfl ?_); clear hS a; intro a hS) | (refine L_go hS rfl rfl (s_e hS (e_faK rfl ty_fo129_2) rfl ?_); clear hS a; intro a hS)
              refine L_go hS rfl rfl (s_e hS (e_loadC rfl ty_sc54 (led_cell (k := 2) (by repeat constructor) rfl)) rfl ?_); clear hS a; intro a hS
              rw [hsv] at hS
              refine L_go hS rfl rfl (s_e hS (e_len rfl rfl ty_sl54) rfl ?_); clear hS a; intro a hS
              refine L_go hS rfl rfl (s_e hS (e_bin rfl rfl rfl) rfl ?_); clear hS a; intro a hS
              first | (refine L_op (s_e hS (e_pick_t rfl rfl) rfl ?_); clear hS a; intro a hS) | (refine L_op (s_e hS (e_pick_f rfl rfl) rfl ?_); clear hS a; intro a hS)
              exact hcM45 _ _ (hS.ends 8 45 38 rfl (congrArg Value.bool (by rw [decide_eq_decide]; omega)) rfl rfl (by first | exact congrArg Value.bool (decide_eq_false hg38).symm | exact congrArg Value.bool hg38.symm | simp [hg38]) rfl)
          · clear hS a; (try clear w); intro a w hS
            simp only [List.drop_succ_cons, List.drop_zero]
            refine L_op (s_e hS (e_assign rfl) rfl ?_); clear hS a; intro a hS
            refine L_nil ?_
            refine n_then ?_
            first | refine c_ifD hS rfl (fun hc29 => ?_) (fun hc29 => ?_) | refine c_if hS rfl (fun hc29 => ?_) (fun hc29 => ?_)
            ·
              refine c_seq ?_
              refine c_region ?_
              refine L_op (s_e hS (e_assign rfl) rfl ?_); clear hS a; intro a hS
              refine L_nil ?_
              refine n_then ?_
              refine wp_ret ?_
              refine r_block (r_then ?_)
              refine c_ret1 hS Try.results33 (.tmp rfl) ?_
              exact ⟨by rw [show checkE (pl s) at_ memo ps = 9 by unfold checkE; rw [if_neg h1, if_neg h2, if_neg h3, if_pos (by rw [hel]; exact hc29)]], hS.chg⟩
            ·
              have h4 : ¬ ((ps.length < 2 ∨ 50 < ps.length) ∨ 2000 ≤ (pl s).es.length) := by rw [hel]; exact hc29
              have hl50 : ps.length ≤ 60 := by omega
              refine wp_skip ?_
              refine n_block ?_
              refine n_then ?_
              refine c_seq ?_
              refine c_seq ?_
              refine c_region ?_
              refine L_op (s_e hS (e_move rfl) rfl ?_); clear hS a; intro a hS
              refine L_op (s_e hS (e_move rfl) rfl ?_); clear hS a; intro a hS
              refine L_op (s_callP hS (.cons rfl (.cons rfl .nil)) cf75 rfl (lpost_P B s p c ps (by omega) _ (hS.get (X := ledA B s false) (by repeat constructor)) (hS.get (X := rowP p 3 (ps.map encP)) (by repeat constructor)) (fun q hq => (hS.ok (rowP p 3 (ps.map encP)) (by repeat constructor)).lt q.1 ⟨q.2, hq⟩) hd) ?_); clear hS a; (try clear w); intro a w hS
              refine L_op (s_e hS (e_assign rfl) rfl ?_); clear hS a; intro a hS
              refine L_nil ?_
              refine n_then ?_
              refine c_seq ?_
              refine c_region ?_
              refine L_op (s_e hS (e_move rfl) rfl ?_); clear hS a; intro a hS
              refine L_op (s_e hS (e_bin rfl rfl rfl) rfl ?_); clear hS a; intro a hS
              refine L_nil ?_
              refine n_then ?_
              first | refine c_ifD hS rfl (fun hc50 => ?_) (fun hc50 => ?_) | refine c_if hS rfl (fun hc50 => ?_) (fun hc50 => ?_)
              ·
                refine c_seq ?_
                refine c_region ?_
                refine L_op (s_e hS (e_move rfl) rfl ?_); clear hS a; intro a hS
                refine L_op (s_e hS (e_assign rfl) rfl ?_); clear hS a; intro a hS
                refine L_nil ?_
                refine n_then ?_
                refine wp_ret ?_
                refine r_then ?_
                refine c_ret1 hS Try.results33 (.tmp rfl) ?_
                exact ⟨by rw [show checkE (pl s) at_ memo ps = postE s.acs ps [] by unfold checkE; rw [if_neg h1, if_neg h2, if_neg h3, if_neg h4, if_pos (show postE (pl s).acs ps [] ≠ 0 from hc50)]; rfl], hS.chg⟩
              ·
                have h5 : ¬ postE (pl s).acs ps [] ≠ 0 := hc50
                refine wp_skip ?_
                refine n_then ?_
                refine c_seq ?_
                refine c_seq ?_
                refine c_region ?_
                refine L_op (s_e hS (e_move rfl) rfl ?_); clear hS a; intro a hS
                refine L_op (s_e hS (e_move rfl) rfl ?_); clear hS a; intro a hS
                refine L_op (s_callP hS (.cons rfl (.cons rfl .nil)) cf76 rfl (leven_P B s p c ps hl50 hfit _ (hS.get (X := ledA B s false) (by repeat constructor)) (hS.get (X := rowP p 3 (ps.map encP)) (by repeat constructor)) (fun q hq => (hS.ok (rowP p 3 (ps.map encP)) (by repeat constructor)).lt q.1 ⟨q.2, hq⟩) hd) ?_); clear hS a; (try clear w); intro a w hS
                refine L_op (s_e hS (e_not rfl) rfl ?_); clear hS a; intro a hS
                refine L_nil ?_
                refine n_then ?_
                first | refine c_ifD hS rfl (fun hc55 => ?_) (fun hc55 => ?_) | refine c_if hS rfl (fun hc55 => ?_) (fun hc55 => ?_)
                ·
                  refine c_seq ?_
                  refine c_region ?_
                  refine L_op (s_e hS (e_assign rfl) rfl ?_); clear hS a; intro a hS
                  refine L_nil ?_
                  refine n_then ?_
                  refine wp_ret ?_
                  refine r_then ?_
                  refine c_ret1 hS Try.results33 (.tmp rfl) ?_
                  exact ⟨by rw [show checkE (pl s) at_ memo ps = 26 by unfold checkE; rw [if_neg h1, if_neg h2, if_neg h3, if_neg h4, if_neg h5, if_pos (show ¬ evenF (pl s).acs ps from (by simpa using hc55 : ¬ evenF s.acs ps))]], hS.chg⟩
                ·
                  have h60 : ¬ ¬ evenF s.acs ps := by simpa using hc55
                  have h6 : ¬ ¬ evenF (pl s).acs ps := h60
                  refine wp_skip ?_
                  refine n_then ?_
                  refine c_seq ?_
                  refine c_seq ?_
                  refine c_region ?_
                  refine L_op (s_e hS (e_move rfl) rfl ?_); clear hS a; intro a hS
                  refine L_op (s_e hS (e_len rfl rfl ty_sl56) rfl ?_); clear hS a; intro a hS
                  refine L_op (s_e hS (e_move rfl) rfl ?_); clear hS a; intro a hS
                  refine L_nil ?_
                  refine n_then ?_
                  refine wp_block ?_
                  skip
                  refine c_loop (γ := Nat) (fun i a w => St 80 noB w0 a w [(58, .int .i64 (i : Int)), (57, .int .i64 (ps.length : Int)), (56, sliceV p ps.length c), (0, .pointer (some ⟨B.lb, 0, none⟩))] [ledA B s false, rowP p 3 (ps.map encP)] ∧ i ≤ ps.length ∧ ∀ j, j < i → ∀ x, ps[j]? = some x → okS (addS (totOf s.tot x.acc) x)) (fun i => ps.length - i) 0 ⟨(hS.slots (by repeat (first | exact trivial | refine ⟨rfl, ?_⟩))).pick (by repeat (first | exact Pick.nil | (refine Pick.cons (by repeat (first | exact Rem.head | apply Rem.tail)) ?_))), Nat.zero_le _, fun j hj => by omega⟩ ?_
                  clear hS a; (try clear w); intro i a w hI
                  obtain ⟨hS, hi, hno⟩ := hI
                  refine c_seq ?_
                  refine c_region ?_
                  refine L_op (s_e hS (e_bin rfl rfl rfl) rfl ?_); clear hS a; intro a hS
                  refine L_nil ?_
                  refine n_then ?_
                  refine c_seq ?_
                  first | refine c_ifD hS rfl (fun hc59 => ?_) (fun hc59 => ?_) | refine c_if hS rfl (fun hc59 => ?_) (fun hc59 => ?_)
                  ·
                    have hil : i < ps.length := by omega
                    obtain ⟨x, hx⟩ : ∃ x, ps[i]? = some x := ⟨ps[i], List.getElem?_eq_getElem hil⟩
                    have hxm := List.mem_of_getElem? hx
                    have hxf := hfit x hxm
                    have hx' : (ps.map encP)[i]? = some (encP x) := by simp [hx]
                    obtain ⟨b, off, rfl⟩ := rowP_some (hS.get (X := rowP p 3 (ps.map encP)) (by repeat constructor)) hx'
                    obtain ⟨f1, f2⟩ := add_fit (balT_of hbt x.acc) hxf
                    refine wp_skip ?_
                    refine n_then ?_
                    refine c_seq ?_
                    refine wp_block ?_
                    refine c_seq ?_
                    refine c_region ?_
                    refine L_op (s_e hS (e_ixN rfl rfl ty_sl56 ty_sz63 (by omega)) rfl ?_); clear hS a; intro a hS
                    refine L_op (s_e hS (e_loadAC (l := encP x) rfl ty_st63 ty_sz63 (fun w hh => rowP_get (by repeat constructor) hx' w hh)) rfl ?_); clear hS a; intro a hS
                    refine L_op (s_alloc hS ty_z63 rfl ?_); clear hS a; (try clear w); intro a w b11 hS
                    refine L_op (s_storeA hS rfl rfl ty_sz63 (by repeat constructor) (by rfl) (by rfl) (by rfl) ?_); clear hS; (try clear w); intro w hS
                    refine L_nil ?_
                    refine n_then ?_
                    refine c_seq ?_
                    refine c_drawS [] (by kernel_rfl) hS (sub_cons (X := .blk b11 _ _) (by repeat constructor) (sub_cons (X := ledA B s false) (by repeat constructor) sub_nil)) ?_; clear hS; (try clear w); intro w hS
                    simp only [List.length_cons, List.length_nil, Nat.zero_add, Nat.reduceAdd, List.replicate]
                    refine Z_take0 (i := 0) hS rfl want_none (e_move rfl) (listed' := [true, false, false, false, false, false, false, false, false, false, false, false, false, false, false, false, false, false]) rfl (by kernel_rfl) (by kernel_rfl) (by kernel_rfl) (fun _ _ _ h => h) rfl ?_; clear hS a; intro a hS
                    refine Z_take0 (i := 1) hS rfl want_none (e_nilCheck rfl) (listed' := [true, true, false, false, false, false, false, false, false, false, false, false, false, false, false, false, false, false]) rfl (by kernel_rfl) (by kernel_rfl) (by kernel_rfl) (fun _ _ _ h => h) rfl ?_; clear hS a; intro a hS
                    first | (refine Z_take0 (i := 2) hS rfl want_none (e_fa0 rfl ty_fo129_3) (listed' := [true, true, true, false, false, false, false, false, false, false, false, false, false, false, false, false, false, false]) rfl (by kernel_rfl) (by kernel_rfl) (by kernel_rfl) (fun _ _ _ h => h) rfl ?_; clear hS a; intro a hS) | (refine Z_take0 (i := 2) hS rfl want_none (e_faK rfl ty_fo129_3) (listed' := [true, true, true, false, false, false, false, false, false, false, false, false, false, false, false, false, false, false]) rfl (by kernel_rfl) (by kernel_rfl) (by kernel_rfl) (fun _ _ _ h => h) rfl ?_; clear hS a; intro a hS)
                    refine Z_take (i := 3) hS rfl want_none (e_loadC rfl ty_sc127 (led_cell (k := 3) (by repeat constructor) rfl)) (listed' := [true, true, true, true, false, false, false, false, false, false, false, false, false, false, false, false, false, false]) rfl (by kernel_rfl) (by kernel_rfl) (by kernel_rfl) (by kernel_rfl) (by kernel_rfl) (sub_cons (by repeat constructor) (sub_cons (by repeat constructor) sub_nil)) (fun _ _ _ h => h) rfl ?_; clear hS a; intro a hS
                    first | (refine Z_take0 (i := 4) hS rfl want_none (e_fa0 rfl ty_fo63_0) (listed' := [true, true, true, true, true, false, false, false, false, false, false, false, false, false, false, false, false, false]) rfl (by kernel_rfl) (by kernel_rfl) (by kernel_rfl) (fun _ _ _ h => h) rfl ?_; clear hS a; intro a hS) | (refine Z_take0 (i := 4) hS rfl want_none (e_faK rfl ty_fo63_0) (listed' := [true, true, true, true, true, false, false, false, false, false, false, false, false, false, false, false, false, false]) rfl (by kernel_rfl) (by kernel_rfl) (by kernel_rfl) (fun _ _ _ h => h) rfl ?_; clear hS a; intro a hS)
                    refine Z_take (i := 5) hS rfl want_none (e_load rfl (by repeat constructor) ty_sc9 (by rfl)) (listed' := [true, true, true, true, true, true, false, false, false, false, false, false, false, false, false, false, false, false]) rfl (by kernel_rfl) (by kernel_rfl) (by kernel_rfl) (by kernel_rfl) (by kernel_rfl) (sub_cons (by repeat constructor) (sub_cons (by repeat constructor) sub_nil)) (fun _ _ _ h => h) rfl ?_; clear hS a; intro a hS
                    refine Z_take (i := 6) hS rfl want_none (e_lookupC rfl rfl ty_mp127 ty_u9 ty_zv136 (fun w hh => (hh (ledA B s false) (by repeat constructor)).tm)) (listed' := [true, true, true, true, true, true, true, false, false, false, false, false, false, false, false, false, false, false]) rfl (by kernel_rfl) (by kernel_rfl) (by kernel_rfl) (by kernel_rfl) (by kernel_rfl) (sub_cons (by repeat constructor) (sub_cons (by repeat constructor) sub_nil)) (fun _ _ _ h => h) rfl ?_; clear hS a; intro a hS
                    rw [lk_tot] at hS
                    refine Z_take (i := 7) hS rfl want_none (e_loadA rfl (by repeat constructor) ty_st63 ty_sz63 (by rfl)) (listed' := [true, true, true, true, true, true, true, true, false, false, false, false, false, false, false, false, false, false]) rfl (by kernel_rfl) (by kernel_rfl) (by kernel_rfl) (by kernel_rfl) (by kernel_rfl) (sub_cons (by repeat constructor) (sub_cons (by repeat constructor) sub_nil)) (fun _ _ _ h => h) rfl ?_; clear hS a; intro a hS
                    first | (refine Z_take0 (i := 9) hS rfl want_none (e_fa0 rfl ty_fo63_0) (listed' := [true, true, true, true, true, true, true, true, false, true, false, false, false, false, false, false, false, false]) rfl (by kernel_rfl) (by kernel_rfl) (by kernel_rfl) (fun _ _ _ h => h) rfl ?_; clear hS a; intro a hS) | (refine Z_take0 (i := 9) hS rfl want_none (e_faK rfl ty_fo63_0) (listed' := [true, true, true, true, true, true, true, true, false, true, false, false, false, false, false, false, false, false]) rfl (by kernel_rfl) (by kernel_rfl) (by kernel_rfl) (fun _ _ _ h => h) rfl ?_; clear hS a; intro a hS)
                    refine Z_take (i := 10) hS rfl want_none (e_load rfl (by repeat constructor) ty_sc9 (by rfl)) (listed' := [true, true, true, true, true, true, true, true, false, true, true, false, false, false, false, false, false, false]) rfl (by kernel_rfl) (by kernel_rfl) (by kernel_rfl) (by kernel_rfl) (by kernel_rfl) (sub_cons (by repeat constructor) (sub_cons (by repeat constructor) sub_nil)) (fun _ _ _ h => h) rfl ?_; clear hS a; intro a hS
                    refine Z_many (j := 8) (js := [15]) (by kernel_rfl) ⟨?_, ?_, trivial⟩
                    ·
                      refine Z_op (i := 8) rfl (want_none a hS.sl) (listed' := [true, true, true, true, true, true, true, true, true, true, true, false, false, false, false, false, false, false]) rfl (s_callP hS (.cons rfl (.cons rfl .nil)) cf70 rfl (sadd_P (totOf s.tot x.acc) x f1 hxf f2 _) ?_); clear hS a; (try clear w); intro a w hS
                      refine Z_and hS (sub_cons (by repeat constructor) (sub_cons (by repeat constructor) sub_nil)) ?_
                      refine Z_many (j := 11) (js := [15]) (by kernel_rfl) ⟨?_, ?_, trivial⟩
                      ·
                        refine Z_op (i := 11) rfl (want_none a hS.sl) (listed' := [true, true, true, true, true, true, true, true, true, true, true, true, false, false, false, false, false, false]) rfl (s_callP hS (.cons rfl (.cons rfl .nil)) cf71 rfl (sbal_P (addS (totOf s.tot x.acc) x) x.acc f2 _) ?_); clear hS a; (try clear w); intro a w hS
                        refine Z_and hS (sub_cons (by repeat constructor) (sub_cons (by repeat constructor) sub_nil)) ?_
                        refine Z_take0 (i := 12) hS rfl want_none (e_move rfl) (listed' := [true, true, true, true, true, true, true, true, true, true, true, true, true, false, false, false, false, false]) rfl (by kernel_rfl) (by kernel_rfl) (by kernel_rfl) (fun _ _ _ h => h) rfl ?_; clear hS a; intro a hS
                        refine Z_take0 (i := 13) hS rfl want_none (e_extract rfl rfl) (listed' := [true, true, true, true, true, true, true, true, true, true, true, true, true, true, false, false, false, false]) rfl (by kernel_rfl) (by kernel_rfl) (by kernel_rfl) (fun _ _ _ h => h) rfl ?_; clear hS a; intro a hS
                        refine Z_take0 (i := 14) hS rfl want_none (e_extract rfl rfl) (listed' := [true, true, true, true, true, true, true, true, true, true, true, true, true, true, true, false, false, false]) rfl (by kernel_rfl) (by kernel_rfl) (by kernel_rfl) (fun _ _ _ h => h) rfl ?_; clear hS a; intro a hS
                        refine Z_one (i := 15) rfl (want_none a hS.sl) (listed' := [true, true, true, true, true, true, true, true, true, true, true, true, true, true, true, true, false, false]) rfl (by kernel_rfl) (s_alloc hS ty_z60 rfl ?_); clear hS a; (try clear w); intro a w b12 hS
                        refine Z_and hS (sub_cons (by repeat constructor) (sub_cons (by repeat constructor) sub_nil)) ?_
                        refine Z_one (i := 16) rfl (want_none a hS.sl) (listed' := [true, true, true, true, true, true, true, true, true, true, true, true, true, true, true, true, true, false]) rfl (by kernel_rfl) (s_storeA hS rfl rfl ty_sz60 (by repeat constructor) (by rfl) (by rfl) (by rfl) ?_); clear hS; (try clear w); intro w hS
                        refine Z_and hS (sub_cons (by repeat constructor) (sub_cons (by repeat constructor) sub_nil)) ?_
                        refine Z_take0 (i := 17) hS rfl want_none (e_assign rfl) (listed' := [true, true, true, true, true, true, true, true, true, true, true, true, true, true, true, true, true, true]) rfl (by kernel_rfl) (by kernel_rfl) (by kernel_rfl) (fun _ _ _ h => h) rfl ?_; clear hS a; intro a hS
                        refine Z_done (by kernel_rfl) ?_
                        refine n_then ?_
                        refine c_seq ?_
                        refine c_region ?_
                        refine L_op (s_e hS (e_move rfl) rfl ?_); clear hS a; intro a hS
                        refine L_op (s_e hS (e_not rfl) rfl ?_); clear hS a; intro a hS
                        refine L_nil ?_
                        refine n_then ?_
                        first | refine c_ifD hS rfl (fun hc78 => ?_) (fun hc78 => ?_) | refine c_if hS rfl (fun hc78 => ?_) (fun hc78 => ?_)
                        ·
                          refine c_seq ?_
                          refine c_region ?_
                          refine L_op (s_e hS (e_assign rfl) rfl ?_); clear hS a; intro a hS
                          refine L_nil ?_
                          refine n_then ?_
                          refine wp_ret ?_
                          refine r_block (r_then (r_then (r_block (r_then ?_))))
                          refine c_ret1 hS Try.results33 (.tmp rfl) ?_
                          have hn : ¬ okS (addS (totOf s.tot x.acc) x) := fun e => by
                            have e2 : decide (inU (addS (totOf s.tot x.acc) x).1 ∧ inU (addS (totOf s.tot x.acc) x).2) = true := decide_eq_true e
                            rw [e2] at hc78; cases hc78
                          exact ⟨by rw [show checkE (pl s) at_ memo ps = 16 by unfold checkE; rw [if_neg h1, if_neg h2, if_neg h3, if_neg h4, if_neg h5, if_neg h6, if_pos (show ∃ x ∈ ps, ¬ okS (addS (totOf (pl s).tot x.acc) x) from ⟨x, hxm, hn⟩)]], hS.chg⟩
                        ·
                          refine wp_skip ?_
                          refine n_block ?_
                          refine n_then ?_
                          refine c_region ?_
                          first | (refine L_op (s_e hS (e_binN rfl rfl rfl (by omega)) rfl ?_); clear hS a; intro a hS) | (refine L_op (s_e hS (e_bin rfl rfl rfl) rfl ?_); clear hS a; intro a hS)
                          refine L_op (s_e hS (e_move rfl) rfl ?_); clear hS a; intro a hS
                          refine L_nil ?_
                          have hy : okS (addS (totOf s.tot x.acc) x) := by
                            have e2 : decide (inU (addS (totOf s.tot x.acc) x).1 ∧ inU (addS (totOf s.tot x.acc) x).2) = true := by simpa using hc78
                            exact of_decide_eq_true e2
                          exact ⟨i + 1, by omega, (hS.slots (by repeat (first | exact trivial | refine ⟨rfl, ?_⟩))).pick (by repeat (first | exact Pick.nil | (refine Pick.cons (by repeat (first | exact Rem.head | apply Rem.tail)) ?_))), by omega, fun j hj y hyj => by
                            by_cases e : j = i
                            · subst e; rw [hx] at hyj; cases hyj; exact hy
                            · exact hno j (by omega) y hyj⟩
                      ·
                        refine Z_op (i := 15) rfl (want_none a hS.sl) (listed' := [true, true, true, true, true, true, true, true, true, true, true, false, false, false, false, true, false, false]) rfl (s_alloc hS ty_z60 rfl ?_); clear hS a; (try clear w); intro a w b12 hS
                        refine Z_and hS (sub_cons (by repeat constructor) (sub_cons (by repeat constructor) sub_nil)) ?_
                        refine Z_one (i := 11) rfl (want_none a hS.sl) (listed' := [true, true, true, true, true, true, true, true, true, true, true, true, false, false, false, true, false, false]) rfl (by kernel_rfl) (s_callP hS (.cons rfl (.cons rfl .nil)) cf71 rfl (sbal_P (addS (totOf s.tot x.acc) x) x.acc f2 _) ?_); clear hS a; (try clear w); intro a w hS
                        refine Z_and hS (sub_cons (by repeat constructor) (sub_cons (by repeat constructor) sub_nil)) ?_
                        refine Z_take0 (i := 12) hS rfl want_none (e_move rfl) (listed' := [true, true, true, true, true, true, true, true, true, true, true, true, true, false, false, true, false, false]) rfl (by kernel_rfl) (by kernel_rfl) (by kernel_rfl) (fun _ _ _ h => h) rfl ?_; clear hS a; intro a hS
                        refine Z_take0 (i := 13) hS rfl want_none (e_extract rfl rfl) (listed' := [true, true, true, true, true, true, true, true, true, true, true, true, true, true, false, true, false, false]) rfl (by kernel_rfl) (by kernel_rfl) (by kernel_rfl) (fun _ _ _ h => h) rfl ?_; clear hS a; intro a hS
                        refine Z_take0 (i := 14) hS rfl want_none (e_extract rfl rfl) (listed' := [true, true, true, true, true, true, true, true, true, true, true, true, true, true, true, true, false, false]) rfl (by kernel_rfl) (by kernel_rfl) (by kernel_rfl) (fun _ _ _ h => h) rfl ?_; clear hS a; intro a hS
                        refine Z_one (i := 16) rfl (want_none a hS.sl) (listed' := [true, true, true, true, true, true, true, true, true, true, true, true, true, true, true, true, true, false]) rfl (by kernel_rfl) (s_storeA hS rfl rfl ty_sz60 (by repeat constructor) (by rfl) (by rfl) (by rfl) ?_); clear hS; (try clear w); intro w hS
                        refine Z_and hS (sub_cons (by repeat constructor) (sub_cons (by repeat constructor) sub_nil)) ?_
                        refine Z_take0 (i := 17) hS rfl want_none (e_assign rfl) (listed' := [true, true, true, true, true, true, true, true, true, true, true, true, true, true, true, true, true, true]) rfl (by kernel_rfl) (by kernel_rfl) (by kernel_rfl) (fun _ _ _ h => h) rfl ?_; clear hS a; intro a hS
                        refine Z_done (by kernel_rfl) ?_
                        refine n_then ?_
                        refine c_seq ?_
                        refine c_region ?_
                        refine L_op (s_e hS (e_move rfl) rfl ?_); clear hS a; intro a hS
                        refine L_op (s_e hS (e_not rfl) rfl ?_); clear hS a; intro a hS
                        refine L_nil ?_
                        refine n_then ?_
                        first | refine c_ifD hS rfl (fun hc78 => ?_) (fun hc78 => ?_) | refine c_if hS rfl (fun hc78 => ?_) (fun hc78 => ?_)
                        ·
                          refine c_seq ?_
                          refine c_region ?_
                          refine L_op (s_e hS (e_assign rfl) rfl ?_); clear hS a; intro a hS
                          refine L_nil ?_
                          refine n_then ?_
                          refine wp_ret ?_
                          refine r_block (r_then (r_then (r_block (r_then ?_))))
                          refine c_ret1 hS Try.results33 (.tmp rfl) ?_
                          have hn : ¬ okS (addS (totOf s.tot x.acc) x) := fun e => by
                            have e2 : decide (inU (addS (totOf s.tot x.acc) x).1 ∧ inU (addS (totOf s.tot x.acc) x).2) = true := decide_eq_true e
                            rw [e2] at hc78; cases hc78
                          exact ⟨by rw [show checkE (pl s) at_ memo ps = 16 by unfold checkE; rw [if_neg h1, if_neg h2, if_neg h3, if_neg h4, if_neg h5, if_neg h6, if_pos (show ∃ x ∈ ps, ¬ okS (addS (totOf (pl s).tot x.acc) x) from ⟨x, hxm, hn⟩)]], hS.chg⟩
                        ·
                          refine wp_skip ?_
                          refine n_block ?_
                          refine n_then ?_
                          refine c_region ?_
                          first | (refine L_op (s_e hS (e_binN rfl rfl rfl (by omega)) rfl ?_); clear hS a; intro a hS) | (refine L_op (s_e hS (e_bin rfl rfl rfl) rfl ?_); clear hS a; intro a hS)
                          refine L_op (s_e hS (e_move rfl) rfl ?_); clear hS a; intro a hS
                          refine L_nil ?_
                          have hy : okS (addS (totOf s.tot x.acc) x) := by
                            have e2 : decide (inU (addS (totOf s.tot x.acc) x).1 ∧ inU (addS (totOf s.tot x.acc) x).2) = true := by simpa using hc78
                            exact of_decide_eq_true e2
                          exact ⟨i + 1, by omega, (hS.slots (by repeat (first | exact trivial | refine ⟨rfl, ?_⟩))).pick (by repeat (first | exact Pick.nil | (refine Pick.cons (by repeat (first | exact Rem.head | apply Rem.tail)) ?_))), by omega, fun j hj y hyj => by
                            by_cases e : j = i
                            · subst e; rw [hx] at hyj; cases hyj; exact hy
                            · exact hno j (by omega) y hyj⟩
                    ·
                      refine Z_op (i := 15) rfl (want_none a hS.sl) (listed' := [true, true, true, true, true, true, true, true, false, true, true, false, false, false, false, true, false, false]) rfl (s_alloc hS ty_z60 rfl ?_); clear hS a; (try clear w); intro a w b12 hS
                      refine Z_and hS (sub_cons (by repeat constructor) (sub_cons (by repeat constructor) sub_nil)) ?_
                      refine Z_one (i := 8) rfl (want_none a hS.sl) (listed' := [true, true, true, true, true, true, true, true, true, true, true, false, false, false, false, true, false, false]) rfl (by kernel_rfl) (s_callP hS (.cons rfl (.cons rfl .nil)) cf70 rfl (sadd_P (totOf s.tot x.acc) x f1 hxf f2 _) ?_); clear hS a; (try clear w); intro a w hS
                      refine Z_and hS (sub_cons (by repeat constructor) (sub_cons (by repeat constructor) sub_nil)) ?_
                      refine Z_one (i := 11) rfl (want_none a hS.sl) (listed' := [true, true, true, true, true, true, true, true, true, true, true, true, false, false, false, true, false, false]) rfl (by kernel_rfl) (s_callP hS (.cons rfl (.cons rfl .nil)) cf71 rfl (sbal_P (addS (totOf s.tot x.acc) x) x.acc f2 _) ?_); clear hS a; (try clear w); intro a w hS
                      refine Z_and hS (sub_cons (by repeat constructor) (sub_cons (by repeat constructor) sub_nil)) ?_
                      refine Z_take0 (i := 12) hS rfl want_none (e_move rfl) (listed' := [true, true, true, true, true, true, true, true, true, true, true, true, true, false, false, true, false, false]) rfl (by kernel_rfl) (by kernel_rfl) (by kernel_rfl) (fun _ _ _ h => h) rfl ?_; clear hS a; intro a hS
                      refine Z_take0 (i := 13) hS rfl want_none (e_extract rfl rfl) (listed' := [true, true, true, true, true, true, true, true, true, true, true, true, true, true, false, true, false, false]) rfl (by kernel_rfl) (by kernel_rfl) (by kernel_rfl) (fun _ _ _ h => h) rfl ?_; clear hS a; intro a hS
                      refine Z_take0 (i := 14) hS rfl want_none (e_extract rfl rfl) (listed' := [true, true, true, true, true, true, true, true, true, true, true, true, true, true, true, true, false, false]) rfl (by kernel_rfl) (by kernel_rfl) (by kernel_rfl) (fun _ _ _ h => h) rfl ?_; clear hS a; intro a hS
                      refine Z_one (i := 16) rfl (want_none a hS.sl) (listed' := [true, true, true, true, true, true, true, true, true, true, true, true, true, true, true, true, true, false]) rfl (by kernel_rfl) (s_storeA hS rfl rfl ty_sz60 (by repeat constructor) (by rfl) (by rfl) (by rfl) ?_); clear hS; (try clear w); intro w hS
                      refine Z_and hS (sub_cons (by repeat constructor) (sub_cons (by repeat constructor) sub_nil)) ?_
                      refine Z_take0 (i := 17) hS rfl want_none (e_assign rfl) (listed' := [true, true, true, true, true, true, true, true, true, true, true, true, true, true, true, true, true, true]) rfl (by kernel_rfl) (by kernel_rfl) (by kernel_rfl) (fun _ _ _ h => h) rfl ?_; clear hS a; intro a hS
                      refine Z_done (by kernel_rfl) ?_
                      refine n_then ?_
                      refine c_seq ?_
                      refine c_region ?_
                      refine L_op (s_e hS (e_move rfl) rfl ?_); clear hS a; intro a hS
                      refine L_op (s_e hS (e_not rfl) rfl ?_); clear hS a; intro a hS
                      refine L_nil ?_
                      refine n_then ?_
                      first | refine c_ifD hS rfl (fun hc78 => ?_) (fun hc78 => ?_) | refine c_if hS rfl (fun hc78 => ?_) (fun hc78 => ?_)
                      ·
                        refine c_seq ?_
                        refine c_region ?_
                        refine L_op (s_e hS (e_assign rfl) rfl ?_); clear hS a; intro a hS
                        refine L_nil ?_
                        refine n_then ?_
                        refine wp_ret ?_
                        refine r_block (r_then (r_then (r_block (r_then ?_))))
                        refine c_ret1 hS Try.results33 (.tmp rfl) ?_
                        have hn : ¬ okS (addS (totOf s.tot x.acc) x) := fun e => by
                          have e2 : decide (inU (addS (totOf s.tot x.acc) x).1 ∧ inU (addS (totOf s.tot x.acc) x).2) = true := decide_eq_true e
                          rw [e2] at hc78; cases hc78
                        exact ⟨by rw [show checkE (pl s) at_ memo ps = 16 by unfold checkE; rw [if_neg h1, if_neg h2, if_neg h3, if_neg h4, if_neg h5, if_neg h6, if_pos (show ∃ x ∈ ps, ¬ okS (addS (totOf (pl s).tot x.acc) x) from ⟨x, hxm, hn⟩)]], hS.chg⟩
                      ·
                        refine wp_skip ?_
                        refine n_block ?_
                        refine n_then ?_
                        refine c_region ?_
                        first | (refine L_op (s_e hS (e_binN rfl rfl rfl (by omega)) rfl ?_); clear hS a; intro a hS) | (refine L_op (s_e hS (e_bin rfl rfl rfl) rfl ?_); clear hS a; intro a hS)
                        refine L_op (s_e hS (e_move rfl) rfl ?_); clear hS a; intro a hS
                        refine L_nil ?_
                        have hy : okS (addS (totOf s.tot x.acc) x) := by
                          have e2 : decide (inU (addS (totOf s.tot x.acc) x).1 ∧ inU (addS (totOf s.tot x.acc) x).2) = true := by simpa using hc78
                          exact of_decide_eq_true e2
                        exact ⟨i + 1, by omega, (hS.slots (by repeat (first | exact trivial | refine ⟨rfl, ?_⟩))).pick (by repeat (first | exact Pick.nil | (refine Pick.cons (by repeat (first | exact Rem.head | apply Rem.tail)) ?_))), by omega, fun j hj y hyj => by
                          by_cases e : j = i
                          · subst e; rw [hx] at hyj; cases hyj; exact hy
                          · exact hno j (by omega) y hyj⟩
                  ·
                    refine wp_exit ?_
                    refine x_then (x_then (x_hit ?_))
                    refine n_then ?_
                    refine c_seq ?_
                    refine c_region ?_
                    refine L_op (s_e hS (e_assign rfl) rfl ?_); clear hS a; intro a hS
                    refine L_nil ?_
                    refine n_then ?_
                    refine wp_ret ?_
                    refine c_ret1 hS Try.results33 (.tmp rfl) ?_
                    obtain rfl : i = ps.length := by omega
                    have h7 : ¬ ∃ x ∈ ps, ¬ okS (addS (totOf (pl s).tot x.acc) x) := fun ⟨x, hx, hn⟩ => by
                      obtain ⟨j, hj, rfl⟩ := List.mem_iff_getElem.1 hx
                      exact hn (hno j hj _ (List.getElem?_eq_getElem hj))
                    exact ⟨by rw [show checkE (pl s) at_ memo ps = 0 by unfold checkE; rw [if_neg h1, if_neg h2, if_neg h3, if_neg h4, if_neg h5, if_neg h6, if_neg h7]], hS.chg⟩
end Go.Proofs.Ytheofhegdjjfgaa

namespace Go.Proofs.Ytheofhegdjjfgaa
open Go.RowKit

/-- the totals behind postings. -/
def totS (t : List (ByteArray × SM)) (ps : List Pst) : List (ByteArray × SM) := ps.foldl (fun t p => putT t p.acc (addS (totOf t p.acc) p)) t
theorem totS_take {t : List (ByteArray × SM)} {ps : List Pst} {i : Nat} {x : Pst} (hx : ps[i]? = some x) : totS t (ps.take (i + 1)) = putT (totS t (ps.take i)) x.acc (addS (totOf (totS t (ps.take i)) x.acc) x) := by
  unfold totS; rw [List.take_add_one, hx, List.foldl_append]; rfl
theorem bdT_put {t : List (ByteArray × SM)} {i : Nat} (h : bdT t i) {p : Pst} (hp : p.fits) : bdT (putT t p.acc (addS (totOf t p.acc) p)) (i + 1) := by
  intro e he
  have hu := hp.u
  have hf := hp.f
  rcases putT_mem he with rfl | he
  · have h2 := bdT_of h p.acc
    unfold addS; simp only; omega
  · have h1 := h e he
    omega
theorem bal_bd {t : List (ByteArray × SM)} (h : balT t) : bdT t 1 := fun e he => by
  have := h e he
  unfold okS inU at this
  omega
/-- what Post answers and leaves. -/
def postP (P : PL) (at_ : Int) (memo : ByteArray) (ps : List Pst) : PL :=
  if checkE P at_ memo ps = 0 then { P with es := P.es ++ [⟨(P.es.length : Int) + 1, at_, memo, ps⟩], tot := totS P.tot ps } else P
def postI (P : PL) (at_ : Int) (memo : ByteArray) (ps : List Pst) : Int := if checkE P at_ memo ps = 0 then (P.es.length : Int) + 1 else 0

theorem led_okQ {B : LB} {s : LS} {p : Option (Nat × Nat)} {ps : List Pst} {w : World} (h : ledφ B s w) (hr : RowP p 3 (ps.map encP) w) (hb : ∀ q, p = some q → q.1 < w.heap.size) : ∀ X ∈ [.blk B.lb (ledC B s) 129, smapA B.ma (entAc s.acs), smapA B.ml (entSm s.tot), rowE s, psAll s.es, rowP p 3 (ps.map encP)], X.ok w := by
  intro X hX
  rcases List.mem_append.1 (show X ∈ [.blk B.lb (ledC B s) 129, smapA B.ma (entAc s.acs), smapA B.ml (entSm s.tot), rowE s, psAll s.es] ++ [rowP p 3 (ps.map encP)] from hX) with hX | hX
  · exact led_okP h X hX
  · obtain rfl := List.mem_singleton.1 hX; exact ok_rowP hr hb
theorem led_disQ {B : LB} {s : LS} {p : Option (Nat × Nat)} {ps : List Pst} {w : World} (h : ledφ B s w) (hd : ∀ q, p = some q → ¬ ledF B s q.1) : [.blk B.lb (ledC B s) 129, smapA B.ma (entAc s.acs), smapA B.ml (entSm s.tot), rowE s, psAll s.es, rowP p 3 (ps.map encP)].Pairwise (fun X Y => ∀ b, X.F b → ¬ Y.F b) := by
  show ([.blk B.lb (ledC B s) 129, smapA B.ma (entAc s.acs), smapA B.ml (entSm s.tot), rowE s, psAll s.es] ++ [rowP p 3 (ps.map encP)]).Pairwise _
  refine List.pairwise_append.2 ⟨led_dis h, List.pairwise_singleton _ _, fun X hX Y hY b h1 h2 => ?_⟩
  obtain rfl := List.mem_singleton.1 hY
  obtain ⟨off, e⟩ := h2
  refine hd _ e ?_
  have key : ∀ X ∈ [.blk B.lb (ledC B s) 129, smapA B.ma (entAc s.acs), smapA B.ml (entSm s.tot), rowE s, psAll s.es], X.mine = true := fun X hX => by
    simp only [List.mem_cons, List.not_mem_nil, or_false] at hX
    rcases hX with rfl | rfl | rfl | rfl | rfl <;> rfl
  have h3 := led_mine (w := { w with heap := #[] }) X hX (key X hX) b h1
  rcases X with ⟨c, cs, E⟩ | ⟨F, φ, m⟩ | ⟨c, es, ck⟩
  all_goals
    simp only [List.mem_cons, List.not_mem_nil, or_false] at hX
    rcases hX with hX | hX | hX | hX | hX
  all_goals first
    | (cases hX; exact .inl h1)
    | (cases hX; exact .inr (.inl h1))
    | (cases hX; exact .inr (.inr (.inl h1)))
    | (cases hX; exact .inr (.inr (.inr (.inl h1))))
    | (cases hX; exact .inr (.inr (.inr (.inr h1))))
    | cases hX
theorem led_mineQ {B : LB} {s : LS} {p : Option (Nat × Nat)} {ps : List Pst} {w : World} : ∀ X ∈ [.blk B.lb (ledC B s) 129, smapA B.ma (entAc s.acs), smapA B.ml (entSm s.tot), rowE s, psAll s.es, rowP p 3 (ps.map encP)], X.mine = true → ∀ b, X.F b → w.heap.size ≤ b ∨ ledF B s b := by
  intro X hX hm
  rcases List.mem_append.1 (show X ∈ [.blk B.lb (ledC B s) 129, smapA B.ma (entAc s.acs), smapA B.ml (entSm s.tot), rowE s, psAll s.es] ++ [rowP p 3 (ps.map encP)] from hX) with hX | hX
  · exact led_mine X hX hm
  · obtain rfl := List.mem_singleton.1 hX; cases hm

set_option maxHeartbeats 1000000 in
set_option maxRecDepth 100000 in
theorem lPost_P (B : LB) (s : LS) (p : Option (Nat × Nat)) (c : Nat) (at_ : Int) (memo : ByteArray) (ps : List Pst) (hlen : ps.length ≤ 4611686018427387904) (hfit : ∀ x ∈ ps, x.fits) (hbt : balT s.tot) (hes : s.es.length ≤ 100000) (w0 : World) (h : ledφ B s w0) (hrow : RowP p 3 (ps.map encP) w0) (hb : ∀ q, p = some q → q.1 < w0.heap.size) (hd : ∀ q, p = some q → ¬ ledF B s q.1) :
    MutC Try.prog 32 [.pointer (some ⟨B.lb, 0, none⟩), .int .i64 at_, .string memo, sliceV p ps.length c] w0 (ledA B s true) (fun _ : { y : LS // pl y = postP (pl s) at_ memo ps } => .tuple [.int .i64 (postI (pl s) at_ memo ps), .int .i64 (checkE (pl s) at_ memo ps)].toArray) (fun y => ledA B y.1 true) := by
  obtain ⟨qs, cs, hsv⟩ := own_slice h.row
  have hel : (pl s).es.length = s.es.length := by simp [pl]
  refine c_enter [(0, .pointer (some ⟨B.lb, 0, none⟩)), (1, .int .i64 at_), (2, .string memo), (3, sliceV p ps.length c)] [.blk B.lb (ledC B s) 129, smapA B.ma (entAc s.acs), smapA B.ml (entSm s.tot), rowE s, psAll s.es, rowP p 3 (ps.map encP)] (ledF B s) Try.func32 rfl Try.ntmps32 ⟨rfl, rfl, rfl, rfl, trivial⟩ rfl (led_okQ h hrow hb) (led_disQ h hd) led_mineQ ?_
  intro a hS
  refine c_seq ?_
  refine c_region ?_
  refine L_op (s_e hS (e_assign rfl) rfl ?_); clear hS a; intro a hS
  refine L_op (s_e hS (e_assign rfl) rfl ?_); clear hS a; intro a hS
  refine L_nil ?_
  refine n_then ?_
  refine c_seq ?_
  refine c_seq ?_
  refine c_region ?_
  refine L_op (s_e hS (e_move rfl) rfl ?_); clear hS a; intro a hS
  refine L_op (s_e hS (e_move rfl) rfl ?_); clear hS a; intro a hS
  refine L_op (s_e hS (e_move rfl) rfl ?_); clear hS a; intro a hS
  refine L_op (s_e hS (e_move rfl) rfl ?_); clear hS a; intro a hS
  refine L_op (s_callP hS (.cons rfl (.cons rfl (.cons rfl (.cons rfl .nil)))) cf33 rfl (lCheck_P B s p c at_ memo ps hlen hfit hbt _ ⟨hS.get (X := .blk B.lb (ledC B s) 129) (by repeat constructor), hS.get (X := smapA B.ma (entAc s.acs)) (by repeat constructor), hS.get (X := smapA B.ml (entSm s.tot)) (by repeat constructor), hS.get (X := rowE s) (by repeat constructor), hS.get (X := psAll s.es) (by repeat constructor), h.ne⟩ (hS.get (X := rowP p 3 (ps.map encP)) (by repeat constructor)) (fun q hq => (hS.ok (rowP p 3 (ps.map encP)) (by repeat constructor)).lt q.1 ⟨q.2, hq⟩) hd) ?_); clear hS a; (try clear w); intro a w hS
  refine L_op (s_e hS (e_assign rfl) rfl ?_); clear hS a; intro a hS
  refine L_nil ?_
  refine n_then ?_
  refine c_seq ?_
  refine c_region ?_
  refine L_op (s_e hS (e_move rfl) rfl ?_); clear hS a; intro a hS
  refine L_op (s_e hS (e_bin rfl rfl rfl) rfl ?_); clear hS a; intro a hS
  refine L_nil ?_
  refine n_then ?_
  first | refine c_ifD hS rfl (fun hc20 => ?_) (fun hc20 => ?_) | refine c_if hS rfl (fun hc20 => ?_) (fun hc20 => ?_)
  ·
    refine c_seq ?_
    refine c_region ?_
    refine L_op (s_e hS (e_move rfl) rfl ?_); clear hS a; intro a hS
    refine L_op (s_e hS (e_assign rfl) rfl ?_); clear hS a; intro a hS
    refine L_op (s_e hS (e_assign rfl) rfl ?_); clear hS a; intro a hS
    refine L_nil ?_
    refine n_then ?_
    refine wp_ret ?_
    refine r_then ?_
    refine c_retN hS Try.results32 (.cons (.tmp rfl) (.cons (.tmp rfl) .nil)) rfl ?_
    have hI : postI (pl s) at_ memo ps = 0 := if_neg hc20
    have hP : postP (pl s) at_ memo ps = pl s := if_neg hc20
    exact ⟨⟨s, hP.symm⟩, by rw [hI], hS.chg, led_end hS (by repeat constructor) (by repeat constructor) (by repeat constructor) (by repeat constructor) (by repeat constructor) h.ne⟩
  ·
    have hE : checkE (pl s) at_ memo ps = 0 := Classical.byContradiction fun e => hc20 e
    have hl50 : ps.length ≤ 50 := by
      unfold checkE at hE
      split at hE
      · cases hE
      · split at hE
        · cases hE
        · split at hE
          · cases hE
          · split at hE
            · cases hE
            · omega
    refine wp_skip ?_
    refine n_then ?_
    refine c_seq ?_
    refine c_seq ?_
    refine c_region ?_
    refine L_op (s_e hS (e_move rfl) rfl ?_); clear hS a; intro a hS
    refine L_op (s_e hS (e_len rfl rfl ty_sl56) rfl ?_); clear hS a; intro a hS
    refine L_op (s_e hS (e_move rfl) rfl ?_); clear hS a; intro a hS
    refine L_nil ?_
    refine n_then ?_
    refine wp_block ?_
    skip
    refine c_loop (γ := Nat) (fun i a w => St 66 (ledF B s) w0 a w [(24, .int .i64 (i : Int)), (23, .int .i64 (ps.length : Int)), (22, sliceV p ps.length c), (0, .pointer (some ⟨B.lb, 0, none⟩)), (1, .int .i64 at_), (2, .string memo), (3, sliceV p ps.length c)] [.blk B.lb (ledC B s) 129, smapA B.ma (entAc s.acs), smapA B.ml (entSm (totS s.tot (ps.take i))), rowE s, psAll s.es, rowP p 3 (ps.map encP)] ∧ i ≤ ps.length ∧ bdT (totS s.tot (ps.take i)) (1 + i)) (fun i => ps.length - i) 0 ⟨(hS.slots (by repeat (first | exact trivial | refine ⟨rfl, ?_⟩))).pick (by repeat (first | exact Pick.nil | (refine Pick.cons (by repeat (first | exact Rem.head | apply Rem.tail)) ?_))), Nat.zero_le _, bal_bd hbt⟩ ?_
    clear hS a; (try clear w); intro i a w hI
    obtain ⟨hS, hi, hbd⟩ := hI
    refine c_seq ?_
    refine c_region ?_
    refine L_op (s_e hS (e_bin rfl rfl rfl) rfl ?_); clear hS a; intro a hS
    refine L_nil ?_
    refine n_then ?_
    refine c_seq ?_
    first | refine c_ifD hS rfl (fun hc25 => ?_) (fun hc25 => ?_) | refine c_if hS rfl (fun hc25 => ?_) (fun hc25 => ?_)
    ·
      have hil : i < ps.length := by omega
      obtain ⟨x, hx⟩ : ∃ x, ps[i]? = some x := ⟨ps[i], List.getElem?_eq_getElem hil⟩
      have hxf := hfit x (List.mem_of_getElem? hx)
      have hx' : (ps.map encP)[i]? = some (encP x) := by simp [hx]
      obtain ⟨b, off, rfl⟩ := rowP_some (hS.get (X := rowP p 3 (ps.map encP)) (by repeat constructor)) hx'
      have htt := totS_take (t := s.tot) hx
      have hb1 := bdT_of hbd x.acc
      have hu := hxf.u
      have hf := hxf.f
      have f1 : fitS (totOf (totS s.tot (ps.take i)) x.acc) := by unfold fitS Wd.fit; omega
      have f2 : fitS (addS (totOf (totS s.tot (ps.take i)) x.acc) x) := by unfold fitS addS Wd.fit; simp only; omega
      refine wp_skip ?_
      refine n_then ?_
      refine c_seq ?_
      refine wp_block ?_
      refine c_seq ?_
      refine c_region ?_
      refine L_op (s_e hS (e_ixN rfl rfl ty_sl56 ty_sz63 (by omega)) rfl ?_); clear hS a; intro a hS
      refine L_op (s_e hS (e_loadAC (l := encP x) rfl ty_st63 ty_sz63 (fun w hh => rowP_get (by repeat constructor) hx' w hh)) rfl ?_); clear hS a; intro a hS
      refine L_op (s_alloc hS ty_z63 rfl ?_); clear hS a; (try clear w); intro a w b12 hS
      refine L_op (s_storeA hS rfl rfl ty_sz63 (by repeat constructor) (by rfl) (by rfl) (by rfl) ?_); clear hS; (try clear w); intro w hS
      refine L_nil ?_
      refine n_then ?_
      refine c_drawS [15] (by kernel_rfl) hS (sub_cons (X := .blk b12 _ _) (by repeat constructor) (sub_cons (X := .blk B.lb (ledC B s) 129) (by repeat constructor) (sub_cons (X := smapA B.ml (entSm (totS s.tot (ps.take i)))) (by repeat constructor) sub_nil))) ?_; clear hS; (try clear w); intro w hS
      simp only [List.length_cons, List.length_nil, Nat.zero_add, Nat.reduceAdd, List.replicate]
      refine Z_take0 (i := 0) hS rfl want_none (e_move rfl) (listed' := [true, false, false, false, false, false, false, false, false, false, false, false, false, false, false, false]) rfl (by kernel_rfl) (by kernel_rfl) (by kernel_rfl) (fun _ _ _ h => h) rfl ?_; clear hS a; intro a hS
      refine Z_take0 (i := 1) hS rfl want_none (e_nilCheck rfl) (listed' := [true, true, false, false, false, false, false, false, false, false, false, false, false, false, false, false]) rfl (by kernel_rfl) (by kernel_rfl) (by kernel_rfl) (fun _ _ _ h => h) rfl ?_; clear hS a; intro a hS
      first | (refine Z_take0 (i := 2) hS rfl want_none (e_fa0 rfl ty_fo129_3) (listed' := [true, true, true, false, false, false, false, false, false, false, false, false, false, false, false, false]) rfl (by kernel_rfl) (by kernel_rfl) (by kernel_rfl) (fun _ _ _ h => h) rfl ?_; clear hS a; intro a hS) | (refine Z_take0 (i := 2) hS rfl want_none (e_faK rfl ty_fo129_3) (listed' := [true, true, true, false, false, false, false, false, false, false, false, false, false, false, false, false]) rfl (by kernel_rfl) (by kernel_rfl) (by kernel_rfl) (fun _ _ _ h => h) rfl ?_; clear hS a; intro a hS)
      refine Z_take (i := 3) hS rfl want_none (e_load rfl (by repeat constructor) ty_sc127 (by rfl)) (listed' := [true, true, true, true, false, false, false, false, false, false, false, false, false, false, false, false]) rfl (by kernel_rfl) (by kernel_rfl) (by kernel_rfl) (by kernel_rfl) (by kernel_rfl) (sub_cons (by repeat constructor) (sub_cons (by repeat constructor) (sub_cons (by repeat constructor) sub_nil))) (fun _ _ _ h => h) rfl ?_; clear hS a; intro a hS
      first | (refine Z_take0 (i := 4) hS rfl want_none (e_fa0 rfl ty_fo63_0) (listed' := [true, true, true, true, true, false, false, false, false, false, false, false, false, false, false, false]) rfl (by kernel_rfl) (by kernel_rfl) (by kernel_rfl) (fun _ _ _ h => h) rfl ?_; clear hS a; intro a hS) | (refine Z_take0 (i := 4) hS rfl want_none (e_faK rfl ty_fo63_0) (listed' := [true, true, true, true, true, false, false, false, false, false, false, false, false, false, false, false]) rfl (by kernel_rfl) (by kernel_rfl) (by kernel_rfl) (fun _ _ _ h => h) rfl ?_; clear hS a; intro a hS)
      refine Z_take (i := 5) hS rfl want_none (e_load rfl (by repeat constructor) ty_sc9 (by rfl)) (listed' := [true, true, true, true, true, true, false, false, false, false, false, false, false, false, false, false]) rfl (by kernel_rfl) (by kernel_rfl) (by kernel_rfl) (by kernel_rfl) (by kernel_rfl) (sub_cons (by repeat constructor) (sub_cons (by repeat constructor) (sub_cons (by repeat constructor) sub_nil))) (fun _ _ _ h => h) rfl ?_; clear hS a; intro a hS
      refine Z_take0 (i := 6) hS rfl want_none (e_move rfl) (listed' := [true, true, true, true, true, true, true, false, false, false, false, false, false, false, false, false]) rfl (by kernel_rfl) (by kernel_rfl) (by kernel_rfl) (fun _ _ _ h => h) rfl ?_; clear hS a; intro a hS
      refine Z_take0 (i := 7) hS rfl want_none (e_nilCheck rfl) (listed' := [true, true, true, true, true, true, true, true, false, false, false, false, false, false, false, false]) rfl (by kernel_rfl) (by kernel_rfl) (by kernel_rfl) (fun _ _ _ h => h) rfl ?_; clear hS a; intro a hS
      first | (refine Z_take0 (i := 8) hS rfl want_none (e_fa0 rfl ty_fo129_3) (listed' := [true, true, true, true, true, true, true, true, true, false, false, false, false, false, false, false]) rfl (by kernel_rfl) (by kernel_rfl) (by kernel_rfl) (fun _ _ _ h => h) rfl ?_; clear hS a; intro a hS) | (refine Z_take0 (i := 8) hS rfl want_none (e_faK rfl ty_fo129_3) (listed' := [true, true, true, true, true, true, true, true, true, false, false, false, false, false, false, false]) rfl (by kernel_rfl) (by kernel_rfl) (by kernel_rfl) (fun _ _ _ h => h) rfl ?_; clear hS a; intro a hS)
      refine Z_take (i := 9) hS rfl want_none (e_load rfl (by repeat constructor) ty_sc127 (by rfl)) (listed' := [true, true, true, true, true, true, true, true, true, true, false, false, false, false, false, false]) rfl (by kernel_rfl) (by kernel_rfl) (by kernel_rfl) (by kernel_rfl) (by kernel_rfl) (sub_cons (by repeat constructor) (sub_cons (by repeat constructor) (sub_cons (by repeat constructor) sub_nil))) (fun _ _ _ h => h) rfl ?_; clear hS a; intro a hS
      first | (refine Z_take0 (i := 10) hS rfl want_none (e_fa0 rfl ty_fo63_0) (listed' := [true, true, true, true, true, true, true, true, true, true, true, false, false, false, false, false]) rfl (by kernel_rfl) (by kernel_rfl) (by kernel_rfl) (fun _ _ _ h => h) rfl ?_; clear hS a; intro a hS) | (refine Z_take0 (i := 10) hS rfl want_none (e_faK rfl ty_fo63_0) (listed' := [true, true, true, true, true, true, true, true, true, true, true, false, false, false, false, false]) rfl (by kernel_rfl) (by kernel_rfl) (by kernel_rfl) (fun _ _ _ h => h) rfl ?_; clear hS a; intro a hS)
      refine Z_take (i := 11) hS rfl want_none (e_load rfl (by repeat constructor) ty_sc9 (by rfl)) (listed' := [true, true, true, true, true, true, true, true, true, true, true, true, false, false, false, false]) rfl (by kernel_rfl) (by kernel_rfl) (by kernel_rfl) (by kernel_rfl) (by kernel_rfl) (sub_cons (by repeat constructor) (sub_cons (by repeat constructor) (sub_cons (by repeat constructor) sub_nil))) (fun _ _ _ h => h) rfl ?_; clear hS a; intro a hS
      refine Z_take (i := 12) hS rfl want_none (e_lookupS rfl rfl ty_mp127 ty_u9 ty_zv136 (by repeat constructor)) (listed' := [true, true, true, true, true, true, true, true, true, true, true, true, true, false, false, false]) rfl (by kernel_rfl) (by kernel_rfl) (by kernel_rfl) (by kernel_rfl) (by kernel_rfl) (sub_cons (by repeat constructor) (sub_cons (by repeat constructor) (sub_cons (by repeat constructor) sub_nil))) (fun _ _ _ h => h) rfl ?_; clear hS a; intro a hS
      rw [lk_tot] at hS
      refine Z_take (i := 13) hS rfl want_none (e_loadA rfl (by repeat constructor) ty_st63 ty_sz63 (by rfl)) (listed' := [true, true, true, true, true, true, true, true, true, true, true, true, true, true, false, false]) rfl (by kernel_rfl) (by kernel_rfl) (by kernel_rfl) (by kernel_rfl) (by kernel_rfl) (sub_cons (by repeat constructor) (sub_cons (by repeat constructor) (sub_cons (by repeat constructor) sub_nil))) (fun _ _ _ h => h) rfl ?_; clear hS a; intro a hS
      refine Z_one (i := 14) rfl (want_none a hS.sl) (listed' := [true, true, true, true, true, true, true, true, true, true, true, true, true, true, true, false]) rfl (by kernel_rfl) (s_callP hS (.cons rfl (.cons rfl .nil)) cf70 rfl (sadd_P (totOf (totS s.tot (ps.take i)) x.acc) x f1 hxf f2 _) ?_); clear hS a; (try clear w); intro a w hS
      refine Z_and hS (sub_cons (by repeat constructor) (sub_cons (by repeat constructor) (sub_cons (by repeat constructor) sub_nil))) ?_
      refine Z_one (i := 15) rfl (want_none a hS.sl) (listed' := [true, true, true, true, true, true, true, true, true, true, true, true, true, true, true, true]) rfl (by kernel_rfl) (s_mapUp hS rfl rfl rfl ty_mp127 ty_u9 (by repeat constructor) ?_); clear hS; (try clear w); intro w hS
      refine Z_last (by simp) ?_
      refine Z_done (by kernel_rfl) ?_
      refine n_block ?_
      refine n_then ?_
      refine c_region ?_
      first | (refine L_op (s_e hS (e_binN rfl rfl rfl (by omega)) rfl ?_); clear hS a; intro a hS) | (refine L_op (s_e hS (e_bin rfl rfl rfl) rfl ?_); clear hS a; intro a hS)
      refine L_op (s_e hS (e_move rfl) rfl ?_); clear hS a; intro a hS
      refine L_nil ?_
      rw [show setM (entSm (totS s.tot (ps.take i))) x.acc (.agg (encSm (addS (totOf (totS s.tot (ps.take i)) x.acc) x)).toArray) = entSm (totS s.tot (ps.take (i + 1))) by rw [putT_set, htt]] at hS
      exact ⟨i + 1, by omega, (hS.slots (by repeat (first | exact trivial | refine ⟨rfl, ?_⟩))).pick (by repeat (first | exact Pick.nil | (refine Pick.cons (by repeat (first | exact Rem.head | apply Rem.tail)) ?_))), by omega, by rw [htt]; exact bdT_put hbd hxf⟩
    ·
      obtain rfl : i = ps.length := by omega
      rw [List.take_length] at hS
      have hro : rowE s = ownA 58 4 (.slice qs s.es.length cs) s.es.length (s.es.flatMap encE) := by unfold rowE; rw [hsv]
      rw [hro] at hS
      refine wp_exit ?_
      refine x_then (x_then (x_hit ?_))
      refine n_then ?_
      refine c_seq ?_
      refine c_region ?_
      refine L_op (s_e hS (e_move rfl) rfl ?_); clear hS a; intro a hS
      refine L_op (s_e hS (e_nilCheck rfl) rfl ?_); clear hS a; intro a hS
      first | (refine L_op (s_e hS (e_fa0 rfl ty_fo129_2) rfl ?_); clear hS a; intro a hS) | (refine L_op (s_e hS (e_faK rfl ty_fo129_2) rfl ?_); clear hS a; intro a hS)
      refine L_op (s_e hS (e_load rfl (by repeat constructor) ty_sc54 (by rfl)) rfl ?_); clear hS a; intro a hS
      rw [hsv] at hS
      refine L_op (s_e hS (e_len rfl rfl ty_sl54) rfl ?_); clear hS a; intro a hS
      first | (refine L_op (s_e hS (e_binN rfl rfl rfl (by omega)) rfl ?_); clear hS a; intro a hS) | (refine L_op (s_e hS (e_bin rfl rfl rfl) rfl ?_); clear hS a; intro a hS)
      refine L_op (s_e hS (e_assign rfl) rfl ?_); clear hS a; intro a hS
      refine L_nil ?_
      refine n_then ?_
      refine c_seq ?_
      refine c_drawS [15] (by kernel_rfl) hS (sub_cons (X := .blk B.lb (ledC B s) 129) (by repeat constructor) sub_nil) ?_; clear hS; (try clear w); intro w hS
      simp only [List.length_cons, List.length_nil, Nat.zero_add, Nat.reduceAdd, List.replicate]
      refine Z_take0 (i := 0) hS rfl want_none (e_move rfl) (listed' := [true, false, false, false, false, false, false, false, false, false, false, false, false, false, false, false]) rfl (by kernel_rfl) (by kernel_rfl) (by kernel_rfl) (fun _ _ _ h => h) rfl ?_; clear hS a; intro a hS
      refine Z_take0 (i := 1) hS rfl want_none (e_move rfl) (listed' := [true, true, false, false, false, false, false, false, false, false, false, false, false, false, false, false]) rfl (by kernel_rfl) (by kernel_rfl) (by kernel_rfl) (fun _ _ _ h => h) rfl ?_; clear hS a; intro a hS
      refine Z_take0 (i := 2) hS rfl want_none (e_nilCheck rfl) (listed' := [true, true, true, false, false, false, false, false, false, false, false, false, false, false, false, false]) rfl (by kernel_rfl) (by kernel_rfl) (by kernel_rfl) (fun _ _ _ h => h) rfl ?_; clear hS a; intro a hS
      first | (refine Z_take0 (i := 3) hS rfl want_none (e_fa0 rfl ty_fo129_2) (listed' := [true, true, true, true, false, false, false, false, false, false, false, false, false, false, false, false]) rfl (by kernel_rfl) (by kernel_rfl) (by kernel_rfl) (fun _ _ _ h => h) rfl ?_; clear hS a; intro a hS) | (refine Z_take0 (i := 3) hS rfl want_none (e_faK rfl ty_fo129_2) (listed' := [true, true, true, true, false, false, false, false, false, false, false, false, false, false, false, false]) rfl (by kernel_rfl) (by kernel_rfl) (by kernel_rfl) (fun _ _ _ h => h) rfl ?_; clear hS a; intro a hS)
      refine Z_take (i := 4) hS rfl want_none (e_load rfl (by repeat constructor) ty_sc54 (by rfl)) (listed' := [true, true, true, true, true, false, false, false, false, false, false, false, false, false, false, false]) rfl (by kernel_rfl) (by kernel_rfl) (by kernel_rfl) (by kernel_rfl) (by kernel_rfl) (sub_cons (by repeat constructor) sub_nil) (fun _ _ _ h => h) rfl ?_; clear hS a; intro a hS
      rw [hsv] at hS
      refine Z_take0 (i := 5) hS rfl want_none (e_move rfl) (listed' := [true, true, true, true, true, true, false, false, false, false, false, false, false, false, false, false]) rfl (by kernel_rfl) (by kernel_rfl) (by kernel_rfl) (fun _ _ _ h => h) rfl ?_; clear hS a; intro a hS
      refine Z_take0 (i := 6) hS rfl want_none (e_move rfl) (listed' := [true, true, true, true, true, true, true, false, false, false, false, false, false, false, false, false]) rfl (by kernel_rfl) (by kernel_rfl) (by kernel_rfl) (fun _ _ _ h => h) rfl ?_; clear hS a; intro a hS
      refine Z_take0 (i := 7) hS rfl want_none (e_move rfl) (listed' := [true, true, true, true, true, true, true, true, false, false, false, false, false, false, false, false]) rfl (by kernel_rfl) (by kernel_rfl) (by kernel_rfl) (fun _ _ _ h => h) rfl ?_; clear hS a; intro a hS
      refine Z_take0 (i := 8) hS rfl want_none (e_move rfl) (listed' := [true, true, true, true, true, true, true, true, true, false, false, false, false, false, false, false]) rfl (by kernel_rfl) (by kernel_rfl) (by kernel_rfl) (fun _ _ _ h => h) rfl ?_; clear hS a; intro a hS
      refine Z_one (i := 9) rfl (want_none a hS.sl) (listed' := [true, true, true, true, true, true, true, true, true, true, false, false, false, false, false, false]) rfl (by kernel_rfl) (s_callN hS (.cons rfl .nil) cf74 rfl (lfresh_P p c ps (by omega) _ (hS.get (X := rowP p 3 (ps.map encP)) (by repeat constructor)) (fun q hq => (hS.ok (rowP p 3 (ps.map encP)) (by repeat constructor)).lt q.1 ⟨q.2, hq⟩)) ?_); clear hS a; (try clear w); intro x59 a w hS
      refine Z_and hS (sub_cons (by repeat constructor) sub_nil) ?_
      refine Z_take0 (i := 10) hS rfl want_none (e_build ty_z58 ty_pl58 (.one rfl rfl rfl (by repeat constructor) (.one rfl rfl rfl (by repeat constructor) (.one rfl rfl rfl (by repeat constructor) (.one rfl rfl rfl (by repeat constructor) .nil))))) (listed' := [true, true, true, true, true, true, true, true, true, true, true, false, false, false, false, false]) rfl (by kernel_rfl) (by kernel_rfl) (by kernel_rfl) (fun _ _ _ h => h) rfl ?_; clear hS a; intro a hS
      refine Z_one (i := 11) rfl (want_none a hS.sl) (listed' := [true, true, true, true, true, true, true, true, true, true, true, true, false, false, false, false]) rfl (by kernel_rfl) (s_bslice hS ty_sl54 ty_sz58 ty_z58 rfl rfl rfl rfl (.agg rfl rfl .nil) rfl ?_); clear hS a; (try clear w); intro a w b61 hS
      refine Z_and hS (sub_cons (by repeat constructor) sub_nil) ?_
      refine Z_one (i := 12) rfl (want_none a hS.sl) (listed' := [true, true, true, true, true, true, true, true, true, true, true, true, true, false, false, false]) rfl (by kernel_rfl) (s_append1 hS rfl rfl ty_sl54 ty_sz58 ty_by58 ty_z58 rfl rfl rfl (by repeat constructor) (by repeat constructor) (by rfl) (by rfl) (fun _ => (by repeat constructor)) (by omega) ?_); clear hS a; (try clear w); intro v62 a w hv62 hS
      obtain ⟨q62, c62, rfl⟩ := own_slice (hS.get (X := ownA 58 4 v62 (s.es.length + 1) (s.es.flatMap encE ++ [.int .i64 ((s.es.length : Int) + 1), .int .i64 at_, .string memo, psO ps x59])) (by repeat constructor))
      refine Z_and hS (sub_cons (by repeat constructor) sub_nil) ?_
      refine Z_take0 (i := 13) hS rfl want_none (e_nilCheck rfl) (listed' := [true, true, true, true, true, true, true, true, true, true, true, true, true, true, false, false]) rfl (by kernel_rfl) (by kernel_rfl) (by kernel_rfl) (fun _ _ _ h => h) rfl ?_; clear hS a; intro a hS
      first | (refine Z_take0 (i := 14) hS rfl want_none (e_fa0 rfl ty_fo129_2) (listed' := [true, true, true, true, true, true, true, true, true, true, true, true, true, true, true, false]) rfl (by kernel_rfl) (by kernel_rfl) (by kernel_rfl) (fun _ _ _ h => h) rfl ?_; clear hS a; intro a hS) | (refine Z_take0 (i := 14) hS rfl want_none (e_faK rfl ty_fo129_2) (listed' := [true, true, true, true, true, true, true, true, true, true, true, true, true, true, true, false]) rfl (by kernel_rfl) (by kernel_rfl) (by kernel_rfl) (fun _ _ _ h => h) rfl ?_; clear hS a; intro a hS)
      refine Z_one (i := 15) rfl (want_none a hS.sl) (listed' := [true, true, true, true, true, true, true, true, true, true, true, true, true, true, true, true]) rfl (by kernel_rfl) (s_store hS rfl rfl rfl ty_sz54 (by repeat constructor) (by repeat constructor) ?_); clear hS; (try clear w); intro w hS
      refine Z_last (by simp) ?_
      refine Z_done (by kernel_rfl) ?_
      refine n_then ?_
      refine c_seq ?_
      refine c_region ?_
      refine L_op (s_e hS (e_move rfl) rfl ?_); clear hS a; intro a hS
      refine L_op (s_e hS (e_assign rfl) rfl ?_); clear hS a; intro a hS
      refine L_op (s_e hS (e_assign rfl) rfl ?_); clear hS a; intro a hS
      refine L_nil ?_
      refine n_then ?_
      refine wp_ret ?_
      refine c_retN hS Try.results32 (.cons (.tmp rfl) (.cons (.tmp rfl) .nil)) rfl ?_
      have hI : postI (pl s) at_ memo ps = (s.es.length : Int) + 1 := by unfold postI; rw [if_pos hE, hel]
      have hP : postP (pl s) at_ memo ps = { pl s with es := (pl s).es ++ [⟨((pl s).es.length : Int) + 1, at_, memo, ps⟩], tot := totS (pl s).tot ps } := if_pos hE
      have hr1 : w.ownsRow 0 58 4 (.slice q62 (s.es.length + 1) c62) (s.es.length + 1) (s.es.flatMap encE ++ [.int .i64 ((s.es.length : Int) + 1), .int .i64 at_, .string memo, psO ps x59]) := hS.get (X := ownA 58 4 (.slice q62 (s.es.length + 1) c62) (s.es.length + 1) (s.es.flatMap encE ++ [.int .i64 ((s.es.length : Int) + 1), .int .i64 at_, .string memo, psO ps x59])) (by repeat constructor)
      refine ⟨⟨⟨s.cur, s.acs, s.es ++ [⟨⟨(s.es.length : Int) + 1, at_, memo, ps⟩, x59.1, x59.2⟩], totS s.tot ps, s.closed, .slice q62 (s.es.length + 1) c62⟩, by rw [hP, hel]; simp [pl]⟩, by rw [hI, hE], hS.chg, led_ok true ⟨hS.get (X := .blk B.lb [.string s.cur, .map (some B.ma), .slice q62 (s.es.length + 1) c62, .map (some B.ml), .int .i64 s.closed] 129) (by repeat constructor), hS.get (X := smapA B.ma (entAc s.acs)) (by repeat constructor), hS.get (X := smapA B.ml (entSm (totS s.tot ps))) (by repeat constructor), by simpa [encE, psV, psO] using hr1, fun y hy => ?_, h.ne⟩, fun b hb => ?_⟩
      · rcases List.mem_append.1 hy with hy | hy
        · exact hS.get (X := psAll s.es) (by repeat constructor) y hy
        · obtain rfl := List.mem_singleton.1 hy
          exact hS.get (X := ownA 63 3 (psO ps x59) ps.length (ps.flatMap encP)) (by repeat constructor)
      · rcases hb with hb | hb | hb | hb | ⟨y, hy, hb⟩
        · exact .inl (.inl hb)
        · exact .inl (.inr (.inl hb))
        · exact .inl (.inr (.inr (.inl hb)))
        · exact (hS.mine (ownA 58 4 (.slice q62 (s.es.length + 1) c62) (s.es.length + 1) (s.es.flatMap encE ++ [.int .i64 ((s.es.length : Int) + 1), .int .i64 at_, .string memo, psO ps x59])) (by repeat constructor) rfl b hb).symm
        · rcases List.mem_append.1 hy with hy | hy
          · exact .inl (.inr (.inr (.inr (.inr ⟨y, hy, hb⟩))))
          · obtain rfl := List.mem_singleton.1 hy
            exact (hS.mine (ownA 63 3 (psO ps x59) ps.length (ps.flatMap encP)) (by repeat constructor) rfl b (by rw [hb]; rfl)).symm
end Go.Proofs.Ytheofhegdjjfgaa

namespace Go.Proofs.Ytheofhegdjjfgaa
open Go.RowKit

def upTo (at_ : Int) (es : List Ent) : List Ent := es.filter fun x => decide (x.at_ ≤ at_)
/-- the postings up to an instant. -/
def postsAt (es : List Ent) (at_ : Int) : List Pst := (upTo at_ es).flatMap (·.ps)
theorem upTo_take {es : List Ent} {at_ : Int} {i : Nat} {x : Ent} (hx : es[i]? = some x) : postsAt (es.take (i + 1)) at_ = postsAt (es.take i) at_ ++ if x.at_ ≤ at_ then x.ps else [] := by
  unfold postsAt upTo
  rw [List.take_add_one, hx, List.filter_append, List.flatMap_append]
  by_cases h : x.at_ ≤ at_
  · simp [h]
  · simp [h]
theorem posts_split {es : List Ent} {at_ : Int} {i j : Nat} {x : Ent} {p : Pst} (hx : es[i]? = some x) (hle : x.at_ ≤ at_) (hp : x.ps[j]? = some p) : ∃ post, postsAt es at_ = (postsAt (es.take i) at_ ++ x.ps.take j) ++ p :: post := by
  obtain ⟨h1, h2⟩ := List.getElem?_eq_some_iff.1 hx
  obtain ⟨h3, h4⟩ := List.getElem?_eq_some_iff.1 hp
  have e1 : es = es.take i ++ x :: es.drop (i + 1) := by rw [← h2, List.getElem_cons_drop, List.take_append_drop]
  have e2 : x.ps = x.ps.take j ++ p :: x.ps.drop (j + 1) := by rw [← h4, List.getElem_cons_drop, List.take_append_drop]
  refine ⟨x.ps.drop (j + 1) ++ postsAt (es.drop (i + 1)) at_, ?_⟩
  conv => lhs; rw [e1]
  unfold postsAt upTo
  rw [List.filter_append, List.filter_cons, if_pos (by simpa using hle), List.flatMap_append, List.flatMap_cons]
  conv => lhs; rw [e2]
  simp
theorem row_getE {Γ : List Asn} {B : LB} {s : LS} {m : Bool} {g c : Nat} (hsv : s.sv = .slice (some ⟨g, 0, none⟩) s.es.length c) (hm : ledA B s m ∈ Γ) {i : Nat} {x : EA} (hx : s.es[i]? = some x) : ∀ w, Hd Γ w → ∀ j v, (encE x)[j]? = some v → w.cell? ⟨g, 0 + i * 4 + j, none⟩ = some v := fun w hh j v hj => by
  have h1 : w.ownsRow 0 58 4 s.sv s.es.length (s.es.flatMap encE) := (hh _ hm).row
  rw [hsv] at h1
  have h2 := flat_get encE 4 (fun _ => rfl) s.es i x hx j v hj
  have h3 := World.ownsRow.cells h1 (g := g) rfl _ _ h2
  rw [addr_add] at h3
  rw [← h3]; congr 2; omega
theorem ps_getE {Γ : List Asn} {B : LB} {s : LS} {m : Bool} (hm : ledA B s m ∈ Γ) {x : EA} (hx : x ∈ s.es) {j : Nat} {p : Pst} (hp : x.v.ps[j]? = some p) : ∀ w, Hd Γ w → ∀ k v, (encP p)[k]? = some v → w.cell? ⟨x.b, 0 + j * 3 + k, none⟩ = some v := fun w hh k v hk => by
  have h1 : w.ownsRow 0 63 3 (psV x) x.v.ps.length (x.v.ps.flatMap encP) := (hh _ hm).ps x hx
  have h2 := flat_get encP 3 (fun _ => rfl) x.v.ps j p hp k v hk
  have h3 := World.ownsRow.cells h1 (g := x.b) rfl _ _ h2
  rw [addr_add] at h3
  rw [← h3]; congr 2; omega

set_option maxHeartbeats 1000000 in
set_option maxRecDepth 100000 in
theorem leach_P {γ : Type} (B : LB) (s : LS) (at_ : Int) (f : FuncId) (caps : List Value) (Z : γ → Asn) (hZm : ∀ g, (Z g).mine = true) (step : γ → Pst → γ) (g0 : γ) (hf : CallsTo Try.prog f) (hes : s.es.length ≤ 1000000) (hps : ∀ x ∈ s.es, x.v.ps.length ≤ 1000000)
    (hcall : ∀ pre p post, postsAt (pl s).es at_ = pre ++ p :: post → ∀ w, (Z (pre.foldl step g0)).ok w → MutC Try.prog f ([.agg (encP p).toArray] ++ caps) w (Z (pre.foldl step g0)) (fun _ : Unit => .tuple #[]) (fun _ => Z ((pre ++ [p]).foldl step g0)))
    (w0 : World) (h : ledφ B s w0) (hz : (Z g0).ok w0) (hd : ∀ b, (Z g0).F b → ¬ ledF B s b) :
    MutC Try.prog 68 [.pointer (some ⟨B.lb, 0, none⟩), .int .i64 at_, .func (.func f) #[] caps.toArray] w0 (Z g0) (fun _ : Unit => .tuple #[]) (fun _ => Z ((postsAt (pl s).es at_).foldl step g0)) := by
  obtain ⟨qs, cs, hsv⟩ := own_slice h.row
  have hsh : s.es.length = 0 ∨ ∃ g, qs = some ⟨g, 0, none⟩ := by
    have h1 := h.row
    rw [hsv] at h1
    rcases h1.2 with ⟨e1, e2⟩ | ⟨g, cap, cur, e1, _⟩
    · exact .inl e2
    · injection e1 with e3; exact .inr ⟨g, e3⟩
  have hel : (pl s).es.length = s.es.length := by simp [pl]
  refine c_enter [(0, .pointer (some ⟨B.lb, 0, none⟩)), (1, .int .i64 at_), (2, .func (.func f) #[] caps.toArray)] [Z g0, ledA B s false] (Z g0).F Try.func68 rfl Try.ntmps68 ⟨rfl, rfl, rfl, trivial⟩ rfl (okC hz (okC (led_ok false h) okN)) (disC (sepC hd sepN) dis1) (mineO (fun _ hb => hb) (mineC rfl mineN)) ?_
  intro a hS
  refine c_seq ?_
  refine c_region ?_
  refine L_op (s_e hS (e_move rfl) rfl ?_); clear hS a; intro a hS
  refine L_op (s_e hS (e_nilCheck rfl) rfl ?_); clear hS a; intro a hS
  first | (refine L_op (s_e hS (e_fa0 rfl ty_fo129_2) rfl ?_); clear hS a; intro a hS) | (refine L_op (s_e hS (e_faK rfl ty_fo129_2) rfl ?_); clear hS a; intro a hS)
  refine L_op (s_e hS (e_loadC rfl ty_sc54 (led_cell (k := 2) (by repeat constructor) rfl)) rfl ?_); clear hS a; intro a hS
  rw [hsv] at hS
  refine L_op (s_e hS (e_len rfl rfl ty_sl54) rfl ?_); clear hS a; intro a hS
  refine L_op (s_e hS (e_move rfl) rfl ?_); clear hS a; intro a hS
  refine L_nil ?_
  refine n_then ?_
  refine wp_block ?_
  skip
  refine c_loop (γ := Nat) (fun i a w => St 35 (Z g0).F w0 a w [(15, .int .i64 (i : Int)), (14, .int .i64 (s.es.length : Int)), (13, .slice qs s.es.length cs), (1, .int .i64 at_), (2, .func (.func f) #[] caps.toArray)] [Z ((postsAt ((pl s).es.take i) at_).foldl step g0), ledA B s false] ∧ i ≤ s.es.length) (fun i => s.es.length - i) 0 ⟨(hS.slots (by repeat (first | exact trivial | refine ⟨rfl, ?_⟩))).pick (by repeat (first | exact Pick.nil | (refine Pick.cons (by repeat (first | exact Rem.head | apply Rem.tail)) ?_))), Nat.zero_le _⟩ ?_
  clear hS a; (try clear w); intro i a w hI
  obtain ⟨hS, hi⟩ := hI
  refine c_seq ?_
  refine c_region ?_
  refine L_op (s_e hS (e_bin rfl rfl rfl) rfl ?_); clear hS a; intro a hS
  refine L_nil ?_
  refine n_then ?_
  refine c_seq ?_
  first | refine c_ifD hS rfl (fun hc16 => ?_) (fun hc16 => ?_) | refine c_if hS rfl (fun hc16 => ?_) (fun hc16 => ?_)
  ·
    have hil : i < s.es.length := by omega
    obtain ⟨x, hx⟩ : ∃ x, s.es[i]? = some x := ⟨s.es[i], List.getElem?_eq_getElem hil⟩
    have hxm := List.mem_of_getElem? hx
    have hxp : (pl s).es[i]? = some x.v := by unfold pl; simp [hx]
    obtain ⟨gs, rfl⟩ : ∃ g, qs = some ⟨g, 0, none⟩ := hsh.resolve_left (by omega)
    have hpt := upTo_take (at_ := at_) hxp
    have hpl := hps x hxm
    refine wp_skip ?_
    refine n_then ?_
    refine c_seq ?_
    refine wp_block ?_
    refine c_seq ?_
    refine c_region ?_
    refine L_op (s_e hS (e_ixN rfl rfl ty_sl54 ty_sz58 (by omega)) rfl ?_); clear hS a; intro a hS
    refine L_op (s_e hS (e_loadAC (l := encE x) rfl ty_st58 ty_sz58 (row_getE hsv (by repeat constructor) hx)) rfl ?_); clear hS a; intro a hS
    refine L_op (s_alloc hS ty_z58 rfl ?_); clear hS a; (try clear w); intro a w b7 hS
    refine L_op (s_storeA hS rfl rfl ty_sz58 (by repeat constructor) (by rfl) (by rfl) (by rfl) ?_); clear hS; (try clear w); intro w hS
    refine L_nil ?_
    refine n_then ?_
    refine c_seq ?_
    refine c_seq ?_
    refine c_region ?_
    first | (refine L_op (s_e hS (e_fa0 rfl ty_fo58_1) rfl ?_); clear hS a; intro a hS) | (refine L_op (s_e hS (e_faK rfl ty_fo58_1) rfl ?_); clear hS a; intro a hS)
    refine L_op (s_e hS (e_load rfl (by repeat constructor) ty_sc3 (by rfl)) rfl ?_); clear hS a; intro a hS
    refine L_op (s_e hS (e_move rfl) rfl ?_); clear hS a; intro a hS
    refine L_op (s_e hS (e_bin rfl rfl rfl) rfl ?_); clear hS a; intro a hS
    refine L_nil ?_
    refine n_then ?_
    first | refine c_ifD hS rfl (fun hc22 => ?_) (fun hc22 => ?_) | refine c_if hS rfl (fun hc22 => ?_) (fun hc22 => ?_)
    ·
      refine wp_exit ?_
      refine x_then (x_hit ?_)
      refine n_then ?_
      refine c_region ?_
      first | (refine L_op (s_e hS (e_binN rfl rfl rfl (by omega)) rfl ?_); clear hS a; intro a hS) | (refine L_op (s_e hS (e_bin rfl rfl rfl) rfl ?_); clear hS a; intro a hS)
      refine L_op (s_e hS (e_move rfl) rfl ?_); clear hS a; intro a hS
      refine L_nil ?_
      first
      | (rw [if_neg (by omega), List.append_nil] at hpt
         rw [← hpt] at hS
         exact ⟨i + 1, by omega, (hS.slots (by repeat (first | exact trivial | refine ⟨rfl, ?_⟩))).pick (by repeat (first | exact Pick.nil | (refine Pick.cons (by repeat (first | exact Rem.head | apply Rem.tail)) ?_))), by omega⟩)
      | (rw [if_pos (by omega)] at hpt
         rw [← hpt] at hS
         exact ⟨i + 1, by omega, (hS.slots (by repeat (first | exact trivial | refine ⟨rfl, ?_⟩))).pick (by repeat (first | exact Pick.nil | (refine Pick.cons (by repeat (first | exact Rem.head | apply Rem.tail)) ?_))), by omega⟩)
    ·
      refine wp_skip ?_
      refine n_then ?_
      refine c_seq ?_
      refine c_region ?_
      first | (refine L_op (s_e hS (e_fa0 rfl ty_fo58_3) rfl ?_); clear hS a; intro a hS) | (refine L_op (s_e hS (e_faK rfl ty_fo58_3) rfl ?_); clear hS a; intro a hS)
      refine L_op (s_e hS (e_load rfl (by repeat constructor) ty_sc56 (by rfl)) rfl ?_); clear hS a; intro a hS
      refine L_op (s_e hS (e_len rfl rfl ty_sl56) rfl ?_); clear hS a; intro a hS
      refine L_op (s_e hS (e_move rfl) rfl ?_); clear hS a; intro a hS
      refine L_nil ?_
      refine n_then ?_
      refine wp_block ?_
      skip
      refine c_loop (γ := Nat) (fun j a w => St 35 (Z g0).F w0 a w [(26, .int .i64 (j : Int)), (25, .int .i64 (x.v.ps.length : Int)), (24, psV x), (15, .int .i64 (i : Int)), (14, .int .i64 (s.es.length : Int)), (13, .slice (some ⟨gs, 0, none⟩) s.es.length cs), (1, .int .i64 at_), (2, .func (.func f) #[] caps.toArray)] [Z ((postsAt ((pl s).es.take i) at_ ++ x.v.ps.take j).foldl step g0), ledA B s false] ∧ j ≤ x.v.ps.length) (fun j => x.v.ps.length - j) 0 ⟨by rw [List.take_zero, List.append_nil]; exact (hS.slots (by repeat (first | exact trivial | refine ⟨rfl, ?_⟩))).pick (by repeat (first | exact Pick.nil | (refine Pick.cons (by repeat (first | exact Rem.head | apply Rem.tail)) ?_))), Nat.zero_le _⟩ ?_
      clear hS a; (try clear w); intro j a w hI
      obtain ⟨hS, hj⟩ := hI
      refine c_seq ?_
      refine c_region ?_
      refine L_op (s_e hS (e_bin rfl rfl rfl) rfl ?_); clear hS a; intro a hS
      refine L_nil ?_
      refine n_then ?_
      refine c_seq ?_
      first | refine c_ifD hS rfl (fun hc27 => ?_) (fun hc27 => ?_) | refine c_if hS rfl (fun hc27 => ?_) (fun hc27 => ?_)
      ·
        have hjl : j < x.v.ps.length := by omega
        obtain ⟨p, hp⟩ : ∃ p, x.v.ps[j]? = some p := ⟨x.v.ps[j], List.getElem?_eq_getElem hjl⟩
        obtain ⟨post, hsp⟩ := posts_split hxp (show x.v.at_ ≤ at_ by omega) hp
        have htk : x.v.ps.take (j + 1) = x.v.ps.take j ++ [p] := by rw [List.take_add_one, hp]; rfl
        refine wp_skip ?_
        refine n_then ?_
        refine c_seq ?_
        refine wp_block ?_
        refine c_seq ?_
        refine c_region ?_
        refine L_op (s_e hS (e_ixN rfl rfl ty_sl56 ty_sz63 (by omega)) rfl ?_); clear hS a; intro a hS
        refine L_op (s_e hS (e_loadAC (l := encP p) rfl ty_st63 ty_sz63 (ps_getE (by repeat constructor) hxm hp)) rfl ?_); clear hS a; intro a hS
        refine L_op (s_alloc hS ty_z63 rfl ?_); clear hS a; (try clear w); intro a w b9 hS
        refine L_op (s_storeA hS rfl rfl ty_sz63 (by repeat constructor) (by rfl) (by rfl) (by rfl) ?_); clear hS; (try clear w); intro w hS
        refine L_nil ?_
        refine n_then ?_
        refine c_region ?_
        refine L_op (s_e hS (e_move rfl) rfl ?_); clear hS a; intro a hS
        refine L_op (s_e hS (e_loadA rfl (by repeat constructor) ty_st63 ty_sz63 (by rfl)) rfl ?_); clear hS a; intro a hS
        refine L_op (s_callvM hS rfl (.cons rfl .nil) hf rfl (hcall _ p post hsp _ (hS.ok (Z ((postsAt ((pl s).es.take i) at_ ++ x.v.ps.take j).foldl step g0)) (by repeat constructor))) (fun _ => (by repeat constructor)) (hZm _) ?_); intro x32; clear hS a; (try clear w); intro a w hS
        refine L_nil ?_
        refine n_block ?_
        refine n_then ?_
        refine c_region ?_
        first | (refine L_op (s_e hS (e_binN rfl rfl rfl (by omega)) rfl ?_); clear hS a; intro a hS) | (refine L_op (s_e hS (e_bin rfl rfl rfl) rfl ?_); clear hS a; intro a hS)
        refine L_op (s_e hS (e_move rfl) rfl ?_); clear hS a; intro a hS
        refine L_nil ?_
        exact ⟨j + 1, by omega, by rw [htk, ← List.append_assoc]; exact (hS.slots (by repeat (first | exact trivial | refine ⟨rfl, ?_⟩))).pick (by repeat (first | exact Pick.nil | (refine Pick.cons (by repeat (first | exact Rem.head | apply Rem.tail)) ?_))), by omega⟩
      ·
        obtain rfl : j = x.v.ps.length := by omega
        rw [List.take_length] at hS
        refine wp_exit ?_
        refine x_then (x_then (x_hit ?_))
        refine n_block ?_
        refine n_then ?_
        refine c_region ?_
        first | (refine L_op (s_e hS (e_binN rfl rfl rfl (by omega)) rfl ?_); clear hS a; intro a hS) | (refine L_op (s_e hS (e_bin rfl rfl rfl) rfl ?_); clear hS a; intro a hS)
        refine L_op (s_e hS (e_move rfl) rfl ?_); clear hS a; intro a hS
        refine L_nil ?_
        first
        | (rw [if_neg (by omega), List.append_nil] at hpt
           rw [← hpt] at hS
           exact ⟨i + 1, by omega, (hS.slots (by repeat (first | exact trivial | refine ⟨rfl, ?_⟩))).pick (by repeat (first | exact Pick.nil | (refine Pick.cons (by repeat (first | exact Rem.head | apply Rem.tail)) ?_))), by omega⟩)
        | (rw [if_pos (by omega)] at hpt
           rw [← hpt] at hS
           exact ⟨i + 1, by omega, (hS.slots (by repeat (first | exact trivial | refine ⟨rfl, ?_⟩))).pick (by repeat (first | exact Pick.nil | (refine Pick.cons (by repeat (first | exact Rem.head | apply Rem.tail)) ?_))), by omega⟩)
  ·
    refine wp_exit ?_
    refine x_then (x_then (x_hit ?_))
    refine r_norm ?_
    refine c_retN hS Try.results68 .nil rfl ?_
    obtain rfl : i = s.es.length := by omega
    rw [← hel, List.take_length] at hS
    exact ⟨(), rfl, hS.chg, hS.ok (Z ((postsAt (pl s).es at_).foldl step g0)) (by repeat constructor), fun b hb => (hS.mine (Z ((postsAt (pl s).es at_).foldl step g0)) (by repeat constructor) (hZm _) b hb).symm⟩
end Go.Proofs.Ytheofhegdjjfgaa

namespace Go.Proofs.Ytheofhegdjjfgaa
open Go.RowKit

def balStep (code : ByteArray) (g : SM) (p : Pst) : SM := if p.acc = code then addS g p else g
def balZ (bc bs : Nat) (code : ByteArray) (g : SM) : Asn := .any (fun k => k = bc ∨ k = bs) (fun w => w.heap[bc]? = some (.cells [Value.string code].toArray 9 (0, 0)) ∧ w.heap[bs]? = some (.cells (encSm g).toArray 136 (0, 0))) true
theorem balZ_ok {bc bs : Nat} {code : ByteArray} {g : SM} {w : World} (h1 : w.heap[bc]? = some (.cells [Value.string code].toArray 9 (0, 0))) (h2 : w.heap[bs]? = some (.cells (encSm g).toArray 136 (0, 0))) : (balZ bc bs code g).ok w := by
  refine ⟨fun k hk => ?_, fun w' hw => ⟨?_, ?_⟩⟩
  · rcases hk with rfl | rfl
    · exact (Array.getElem?_eq_some_iff.1 h1).1
    · exact (Array.getElem?_eq_some_iff.1 h2).1
  · rw [hw bc (.inl rfl)]; exact h1
  · rw [hw bs (.inr rfl)]; exact h2
set_option maxRecDepth 100000 in
theorem lBal1_P (bc bs : Nat) (code : ByteArray) (g : SM) (p : Pst) (hg : fitS g) (hp : p.fits) (hr : fitS (addS g p)) (hne : bc ≠ bs) (w0 : World) (h : (balZ bc bs code g).ok w0) :
    MutC Try.prog 69 [.agg (encP p).toArray, .pointer (some ⟨bc, 0, none⟩), .pointer (some ⟨bs, 0, none⟩)] w0 (balZ bc bs code g) (fun _ : Unit => .tuple #[]) (fun _ => balZ bc bs code (balStep code g p)) := by
  have h1 := h.now.1
  have h2 := h.now.2
  refine c_enter [(0, .agg (encP p).toArray), (1, .pointer (some ⟨bc, 0, none⟩)), (2, .pointer (some ⟨bs, 0, none⟩))] [.blk bc [.string code] 9, .blk bs (encSm g) 136] (balZ bc bs code g).F Try.func69 rfl Try.ntmps69 ⟨rfl, rfl, rfl, trivial⟩ rfl (okC (ok_blk h1) (okC (ok_blk h2) okN)) (disC (sepC (fun b e1 e2 => hne (Eq.trans (Eq.symm e1) e2)) sepN) dis1) (mineO (fun _ hb => .inl hb) (mineO (fun _ hb => .inr hb) mineN)) ?_
  intro a hS
  refine c_seq ?_
  refine c_region ?_
  refine L_op (s_boxA hS rfl rfl ?_); clear hS a; (try clear w); intro a w b3 hS
  refine L_nil ?_
  refine n_then ?_
  refine c_seq ?_
  refine c_region ?_
  first | (refine L_op (s_e hS (e_fa0 rfl ty_fo63_0) rfl ?_); clear hS a; intro a hS) | (refine L_op (s_e hS (e_faK rfl ty_fo63_0) rfl ?_); clear hS a; intro a hS)
  refine L_op (s_e hS (e_load rfl (by repeat constructor) ty_sc9 (by rfl)) rfl ?_); clear hS a; intro a hS
  refine L_op (s_e hS (e_load rfl (by repeat constructor) ty_sc9 (by rfl)) rfl ?_); clear hS a; intro a hS
  refine L_op (s_e hS (e_binS rfl rfl rfl) rfl ?_); clear hS a; intro a hS
  refine L_nil ?_
  refine n_then ?_
  first | refine c_ifD hS rfl (fun hc7 => ?_) (fun hc7 => ?_) | refine c_if hS rfl (fun hc7 => ?_) (fun hc7 => ?_)
  ·
    refine c_region ?_
    refine L_op (s_e hS (e_loadA rfl (by repeat constructor) ty_st136 ty_sz136 (by rfl)) rfl ?_); clear hS a; intro a hS
    refine L_op (s_e hS (e_loadA rfl (by repeat constructor) ty_st63 ty_sz63 (by rfl)) rfl ?_); clear hS a; intro a hS
    refine L_op (s_callP hS (.cons rfl (.cons rfl .nil)) cf70 rfl (sadd_P g p hg hp hr _) ?_); clear hS a; (try clear w); intro a w hS
    refine L_op (s_storeA hS rfl rfl ty_sz136 (by repeat constructor) (by rfl) (by rfl) (by rfl) ?_); clear hS; (try clear w); intro w hS
    refine L_nil ?_
    refine r_norm ?_
    refine c_retN hS Try.results69 .nil rfl ?_
    first
    | exact ⟨(), rfl, hS.chg, by rw [show balStep code g p = addS g p from if_pos hc7]; exact balZ_ok (hS.get (X := .blk bc [.string code] 9) (by repeat constructor)) (hS.get (X := .blk bs (encSm (addS g p)) 136) (by repeat constructor)), fun b hb => .inl hb⟩
    | exact ⟨(), rfl, hS.chg, by rw [show balStep code g p = g from if_neg hc7]; exact balZ_ok (hS.get (X := .blk bc [.string code] 9) (by repeat constructor)) (hS.get (X := .blk bs (encSm g) 136) (by repeat constructor)), fun b hb => .inl hb⟩
  ·
    refine wp_skip ?_
    refine r_norm ?_
    refine c_retN hS Try.results69 .nil rfl ?_
    first
    | exact ⟨(), rfl, hS.chg, by rw [show balStep code g p = addS g p from if_pos hc7]; exact balZ_ok (hS.get (X := .blk bc [.string code] 9) (by repeat constructor)) (hS.get (X := .blk bs (encSm (addS g p)) 136) (by repeat constructor)), fun b hb => .inl hb⟩
    | exact ⟨(), rfl, hS.chg, by rw [show balStep code g p = g from if_neg hc7]; exact balZ_ok (hS.get (X := .blk bc [.string code] 9) (by repeat constructor)) (hS.get (X := .blk bs (encSm g) 136) (by repeat constructor)), fun b hb => .inl hb⟩
structure bdS (s : SM) (n : Nat) : Prop where
  u : -(n * 9223372036854775808 : Int) ≤ s.1 ∧ s.1 ≤ n * 9223372036854775808
  f : -(n * 9223372036854775808 : Int) ≤ s.2 ∧ s.2 ≤ n * 9223372036854775808
theorem bdS_step {code : ByteArray} {g : SM} {n : Nat} {p : Pst} (h : bdS g n) (hp : p.fits) : bdS (balStep code g p) (n + 1) := by
  have hu := hp.u
  have hff := hp.f
  have h1 := h.u
  have h2 := h.f
  unfold balStep
  split
  · unfold addS; exact ⟨by simp only; omega, by simp only; omega⟩
  · exact ⟨by omega, by omega⟩
theorem bal_fold {code : ByteArray} (l : List Pst) : ∀ (g : SM) (n : Nat), (∀ p ∈ l, p.fits) → bdS g n → bdS (l.foldl (balStep code) g) (n + l.length) := by
  induction l with
  | nil => intro g n _ h; exact h
  | cons p r ih =>
    intro g n hf h
    have h2 := ih (balStep code g p) (n + 1) (fun q hq => hf q (.tail _ hq)) (bdS_step h (hf p (.head _)))
    rw [List.foldl_cons, List.length_cons, show n + (r.length + 1) = n + 1 + r.length by omega]; exact h2
theorem bdS_zero : bdS (0, 0) 0 := ⟨by simp, by simp⟩
/-- what stands in an account at an instant, however much. -/
def sumAt (P : PL) (code : ByteArray) (at_ : Int) : SM := (postsAt P.es at_).foldl (balStep code) (0, 0)
abbrev BL := ByteArray × Int × Int
def encBl (b : BL) : List Value := [.string b.1, .int .i64 b.2.1, .int .i64 b.2.2]
def noBl : BL := (⟨#[]⟩, 0, 0)
def balF (P : PL) (code : ByteArray) (at_ : Int) : BL × Int :=
  if (findA P.acs code).isSome = false then (noBl, 2) else if ¬ inst at_ then (noBl, 6) else if okS (sumAt P code at_) then ((code, (sumAt P code at_).1, (sumAt P code at_).2), 0) else (noBl, 16)
/-- every posting of a ledger's entries is one that may be. -/
structure fitL (P : PL) : Prop where
  fits : ∀ x ∈ P.es, ∀ p ∈ x.ps, p.fits
  few : P.es.length ≤ 100000
  ps : ∀ x ∈ P.es, x.ps.length ≤ 50
theorem posts_fit {P : PL} (h : fitL P) (at_ : Int) : ∀ p ∈ postsAt P.es at_, p.fits := fun p hp => by
  unfold postsAt upTo at hp
  obtain ⟨x, hx, hpx⟩ := List.mem_flatMap.1 hp
  exact h.fits x (List.mem_filter.1 hx).1 p hpx
theorem posts_len : ∀ (es : List Ent) (at_ : Int), (∀ x ∈ es, x.ps.length ≤ 50) → (postsAt es at_).length ≤ es.length * 50
  | [], _, _ => Nat.le_refl _
  | x :: r, at_, h => by
    have ih := posts_len r at_ (fun y hy => h y (.tail _ hy))
    have hx := h x (.head _)
    unfold postsAt upTo at ih ⊢
    rw [List.filter_cons]
    by_cases e : x.at_ ≤ at_
    · rw [if_pos (by simpa using e), List.flatMap_cons, List.length_append, List.length_cons]; omega
    · rw [if_neg (by simpa using e), List.length_cons]; omega
theorem sum_bd {P : PL} (h : fitL P) (code : ByteArray) (at_ : Int) : bdS (sumAt P code at_) 5000000 := by
  have h1 := bal_fold (code := code) (postsAt P.es at_) (0, 0) 0 (posts_fit h at_) bdS_zero
  have h2 := posts_len P.es at_ h.ps
  have h3 := h.few
  have h4 := h1.u
  have h5 := h1.f
  unfold sumAt
  exact ⟨by omega, by omega⟩
set_option maxHeartbeats 1000000 in
set_option maxRecDepth 100000 in
theorem lBal_P (B : LB) (s : LS) (code : ByteArray) (at_ : Int) (hfl : fitL (pl s)) (w0 : World) (h : ledφ B s w0) :
     PureC Try.prog 29 [.pointer (some ⟨B.lb, 0, none⟩), .string code, .int .i64 at_] w0 (.tuple [.agg (encBl (balF (pl s) code at_).1).toArray, .int .i64 (balF (pl s) code at_).2].toArray) := by
   have hsb := sum_bd hfl code at_
   have hes : s.es.length ≤ 100000 := by have := hfl.few; simpa [pl] using this
   have hps : ∀ x ∈ s.es, x.v.ps.length ≤ 50 := fun x hx => hfl.ps x.v (by unfold pl; exact List.mem_map.2 ⟨x, hx, rfl⟩)
   refine c_enter [(0, .pointer (some ⟨B.lb, 0, none⟩)), (1, .string code), (2, .int .i64 at_)] [ledA B s false] noB Try.func29 rfl Try.ntmps29 ⟨rfl, rfl, rfl, trivial⟩ rfl (okC (led_ok false h) okN) dis1 (mineC (by rfl) mineN) ?_
   intro a hS
   refine c_seq ?_
   refine c_region ?_
   refine L_op (s_box1 hS rfl rfl rfl ?_); clear hS a; (try clear w); intro a w b4 hS
   refine L_op (s_alloc hS ty_z60 rfl ?_); clear hS a; (try clear w); intro a w b6 hS
   refine L_op (s_e hS (e_assign rfl) rfl ?_); clear hS a; intro a hS
   refine L_nil ?_
   refine n_then ?_
   refine c_seq ?_
   refine c_seq ?_
   refine c_drawS [] (by kernel_rfl) hS (sub_cons (X := .blk b4 _ _) (by repeat constructor) (sub_cons (X := ledA B s false) (by repeat constructor) sub_nil)) ?_; clear hS; (try clear w); intro w hS
   simp only [List.length_cons, List.length_nil, Nat.zero_add, Nat.reduceAdd, List.replicate]
   refine Z_take0 (i := 0) hS rfl want_none (e_move rfl) (listed' := [true, false, false, false, false, false, false, false, false, false, false, false]) rfl (by kernel_rfl) (by kernel_rfl) (by kernel_rfl) (fun _ _ _ h => h) rfl ?_; clear hS a; intro a hS
   refine Z_take0 (i := 1) hS rfl want_none (e_nilCheck rfl) (listed' := [true, true, false, false, false, false, false, false, false, false, false, false]) rfl (by kernel_rfl) (by kernel_rfl) (by kernel_rfl) (fun _ _ _ h => h) rfl ?_; clear hS a; intro a hS
   first | (refine Z_take0 (i := 2) hS rfl want_none (e_fa0 rfl ty_fo129_1) (listed' := [true, true, true, false, false, false, false, false, false, false, false, false]) rfl (by kernel_rfl) (by kernel_rfl) (by kernel_rfl) (fun _ _ _ h => h) rfl ?_; clear hS a; intro a hS) | (refine Z_take0 (i := 2) hS rfl want_none (e_faK rfl ty_fo129_1) (listed' := [true, true, true, false, false, false, false, false, false, false, false, false]) rfl (by kernel_rfl) (by kernel_rfl) (by kernel_rfl) (fun _ _ _ h => h) rfl ?_; clear hS a; intro a hS)
   refine Z_take (i := 3) hS rfl want_none (e_loadC rfl ty_sc126 (led_cell (k := 1) (by repeat constructor) rfl)) (listed' := [true, true, true, true, false, false, false, false, false, false, false, false]) rfl (by kernel_rfl) (by kernel_rfl) (by kernel_rfl) (by kernel_rfl) (by kernel_rfl) (sub_cons (by repeat constructor) (sub_cons (by repeat constructor) sub_nil)) (fun _ _ _ h => h) rfl ?_; clear hS a; intro a hS
   refine Z_take (i := 4) hS rfl want_none (e_load rfl (by repeat constructor) ty_sc9 (by rfl)) (listed' := [true, true, true, true, true, false, false, false, false, false, false, false]) rfl (by kernel_rfl) (by kernel_rfl) (by kernel_rfl) (by kernel_rfl) (by kernel_rfl) (sub_cons (by repeat constructor) (sub_cons (by repeat constructor) sub_nil)) (fun _ _ _ h => h) rfl ?_; clear hS a; intro a hS
   refine Z_take (i := 5) hS rfl want_none (e_lookupTC rfl rfl ty_mp126 ty_u9 ty_zv68 (fun w hh => (hh (ledA B s false) (by repeat constructor)).am)) (listed' := [true, true, true, true, true, true, false, false, false, false, false, false]) rfl (by kernel_rfl) (by kernel_rfl) (by kernel_rfl) (by kernel_rfl) (by kernel_rfl) (sub_cons (by repeat constructor) (sub_cons (by repeat constructor) sub_nil)) (fun _ _ _ h => h) rfl ?_; clear hS a; intro a hS
   rw [lk_acc, has_acc] at hS
   refine Z_take0 (i := 6) hS rfl want_none (e_move rfl) (listed' := [true, true, true, true, true, true, true, false, false, false, false, false]) rfl (by kernel_rfl) (by kernel_rfl) (by kernel_rfl) (fun _ _ _ h => h) rfl ?_; clear hS a; intro a hS
   refine Z_take0 (i := 7) hS rfl want_none (e_extract rfl rfl) (listed' := [true, true, true, true, true, true, true, true, false, false, false, false]) rfl (by kernel_rfl) (by kernel_rfl) (by kernel_rfl) (fun _ _ _ h => h) rfl ?_; clear hS a; intro a hS
   refine Z_take0 (i := 8) hS rfl want_none (e_extract rfl rfl) (listed' := [true, true, true, true, true, true, true, true, true, false, false, false]) rfl (by kernel_rfl) (by kernel_rfl) (by kernel_rfl) (fun _ _ _ h => h) rfl ?_; clear hS a; intro a hS
   refine Z_one (i := 9) rfl (want_none a hS.sl) (listed' := [true, true, true, true, true, true, true, true, true, true, false, false]) rfl (by kernel_rfl) (s_alloc hS ty_z68 rfl ?_); clear hS a; (try clear w); intro a w b8 hS
   refine Z_and hS (sub_cons (by repeat constructor) (sub_cons (by repeat constructor) sub_nil)) ?_
   refine Z_one (i := 10) rfl (want_none a hS.sl) (listed' := [true, true, true, true, true, true, true, true, true, true, true, false]) rfl (by kernel_rfl) (s_storeA hS rfl rfl ty_sz68 (by repeat constructor) (by rfl) (by rfl) (by rfl) ?_); clear hS; (try clear w); intro w hS
   refine Z_and hS (sub_cons (by repeat constructor) (sub_cons (by repeat constructor) sub_nil)) ?_
   refine Z_take0 (i := 11) hS rfl want_none (e_assign rfl) (listed' := [true, true, true, true, true, true, true, true, true, true, true, true]) rfl (by kernel_rfl) (by kernel_rfl) (by kernel_rfl) (fun _ _ _ h => h) rfl ?_; clear hS a; intro a hS
   refine Z_done (by kernel_rfl) ?_
   refine n_then ?_
   refine c_seq ?_
   refine c_region ?_
   refine L_op (s_e hS (e_move rfl) rfl ?_); clear hS a; intro a hS
   refine L_op (s_e hS (e_not rfl) rfl ?_); clear hS a; intro a hS
   refine L_nil ?_
   refine n_then ?_
   first | refine c_ifD hS rfl (fun hc23 => ?_) (fun hc23 => ?_) | refine c_if hS rfl (fun hc23 => ?_) (fun hc23 => ?_)
   ·
     refine c_seq ?_
     refine c_region ?_
     refine L_op (s_e hS (e_build ty_z60 ty_pl60 .nil) rfl ?_); clear hS a; intro a hS
     refine L_op (s_storeA hS rfl rfl ty_sz60 (by repeat constructor) (by rfl) (by rfl) (by rfl) ?_); clear hS; (try clear w); intro w hS
     refine L_op (s_e hS (e_assign rfl) rfl ?_); clear hS a; intro a hS
     refine L_nil ?_
     refine n_then ?_
     refine wp_ret ?_
     refine r_then ?_
     refine c_retN hS Try.results29 (.cons (.cellA rfl (by repeat constructor) ty_st60 ty_sz60 (by rfl)) (.cons (.tmp rfl) .nil)) rfl ?_
     have hE : balF (pl s) code at_ = (noBl, 2) := if_pos (by simpa using hc23 : (findA s.acs code).isSome = false)
     exact ⟨by rw [hE]; rfl, hS.chg⟩
   ·
     have h1 : ¬ (findA (pl s).acs code).isSome = false := by
       have : (findA s.acs code).isSome = true := by simpa using hc23
       show ¬ (findA s.acs code).isSome = false
       rw [this]; decide
     refine wp_skip ?_
     refine n_then ?_
     refine c_seq ?_
     refine c_seq ?_
     refine c_region ?_
     refine L_op (s_e hS (e_move rfl) rfl ?_); clear hS a; intro a hS
     refine L_op (s_callP hS (.cons rfl .nil) cf67 rfl (linst_P at_ _) ?_); clear hS a; (try clear w); intro a w hS
     refine L_op (s_e hS (e_not rfl) rfl ?_); clear hS a; intro a hS
     refine L_nil ?_
     refine n_then ?_
     first | refine c_ifD hS rfl (fun hc27 => ?_) (fun hc27 => ?_) | refine c_if hS rfl (fun hc27 => ?_) (fun hc27 => ?_)
     ·
       refine c_seq ?_
       refine c_region ?_
       refine L_op (s_e hS (e_build ty_z60 ty_pl60 .nil) rfl ?_); clear hS a; intro a hS
       refine L_op (s_storeA hS rfl rfl ty_sz60 (by repeat constructor) (by rfl) (by rfl) (by rfl) ?_); clear hS; (try clear w); intro w hS
       refine L_op (s_e hS (e_assign rfl) rfl ?_); clear hS a; intro a hS
       refine L_nil ?_
       refine n_then ?_
       refine wp_ret ?_
       refine r_then ?_
       refine c_retN hS Try.results29 (.cons (.cellA rfl (by repeat constructor) ty_st60 ty_sz60 (by rfl)) (.cons (.tmp rfl) .nil)) rfl ?_
       have hE : balF (pl s) code at_ = (noBl, 6) := by unfold balF; rw [if_neg h1, if_pos (by simpa using hc27)]
       exact ⟨by rw [hE]; rfl, hS.chg⟩
     ·
       have h2 : ¬ ¬ inst at_ := by simpa using hc27
       refine wp_skip ?_
       refine n_then ?_
       refine c_seq ?_
       refine c_region ?_
       refine L_op (s_alloc hS ty_z136 rfl ?_); clear hS a; (try clear w); intro a w b10 hS
       refine L_nil ?_
       refine n_then ?_
       refine c_seq ?_
       have hne : b4 ≠ b10 := fun e => hS.sep (X := .blk b10 [.int .u64 0, .int .u64 0, .int .u64 0, .int .u64 0] 136) (Y := .blk b4 [.string code] 9) (by repeat (first | exact Rem.head | apply Rem.tail)) (by repeat constructor) b10 rfl e.symm
       replace hS := hS.join (Y := .blk b4 [.string code] 9) (Z := balZ b4 b10 code (0, 0)) (by repeat constructor) (balZ_ok (hS.get (X := .blk b4 [.string code] 9) (by repeat constructor)) (by rw [encSm_zero]; exact hS.get (X := .blk b10 [.int .u64 0, .int .u64 0, .int .u64 0, .int .u64 0] 136) (by repeat constructor))) (fun b hb => hb.symm) (fun _ => ⟨rfl, rfl⟩)
       refine c_region ?_
       refine L_op (s_e hS (e_move rfl) rfl ?_); clear hS a; intro a hS
       refine L_op (s_e hS (e_move rfl) rfl ?_); clear hS a; intro a hS
       refine L_op (s_e hS (e_makeFunc .nil (.cons rfl (.cons rfl .nil))) rfl ?_); clear hS a; intro a hS
       refine L_op (s_callM hS (.cons rfl (.cons rfl (.cons rfl .nil))) cf68 rfl (leach_P B s at_ 69 [.pointer (some ⟨b4, 0, none⟩), .pointer (some ⟨b10, 0, none⟩)] (balZ b4 b10 code) (fun _ => rfl) (balStep code) (0, 0) cf69 (by omega) (fun x hx => by have := hps x hx; omega) (fun pre p post hsp w hok => by
 have hm : p ∈ postsAt (pl s).es at_ := by rw [hsp]; simp
 have hpf := posts_fit hfl at_ p hm
 have hpre : ∀ q ∈ pre, q.fits := fun q hq => posts_fit hfl at_ q (by rw [hsp]; simp [hq])
 have hb := bal_fold (code := code) pre (0, 0) 0 hpre bdS_zero
 have hl := posts_len (pl s).es at_ hfl.ps
 have hfw := hfl.few
 rw [hsp, List.length_append, List.length_cons] at hl
 have hu := hpf.u
 have hff := hpf.f
 have hb1 := hb.u
 have hb2 := hb.f
 have e : (pre ++ [p]).foldl (balStep code) (0, 0) = balStep code (pre.foldl (balStep code) (0, 0)) p := by rw [List.foldl_append]; rfl
 rw [e]
 exact lBal1_P b4 b10 code _ p (by unfold fitS Wd.fit; omega) hpf (by unfold fitS addS Wd.fit; simp only; omega) hne w hok) _ (hS.get (X := ledA B s false) (by repeat constructor)) (hS.ok (balZ b4 b10 code (0, 0)) (by repeat constructor)) (fun b hb hl => hS.sep (X := balZ b4 b10 code (0, 0)) (Y := ledA B s false) (by repeat (first | exact Rem.head | apply Rem.tail)) (by repeat constructor) b hb hl)) (fun x => (by repeat constructor)) rfl ?_); clear hS a; (try clear w); intro x32 a w hS
       refine L_nil ?_
       refine n_then ?_
       refine c_seq ?_
       refine c_region ?_
       refine L_op (s_e hS (e_loadAC (l := encSm (sumAt (pl s) code at_)) rfl ty_st136 ty_sz136 (fun w hh j v hj => cell_of_blk (hh (balZ b4 b10 code (sumAt (pl s) code at_)) (by repeat constructor)).2 (by rw [Nat.zero_add]; exact hj))) rfl ?_); clear hS a; intro a hS
       refine L_op (s_e hS (e_loadC rfl ty_sc9 (fun w hh => cell_of_blk (cs := [.string code]) (hh (balZ b4 b10 code (sumAt (pl s) code at_)) (by repeat constructor)).1 rfl)) rfl ?_); clear hS a; intro a hS
       refine L_op (s_callP hS (.cons rfl (.cons rfl .nil)) cf71 rfl (sbal_P (sumAt (pl s) code at_) code (by have a1 := hsb.u; have a2 := hsb.f; unfold fitS Wd.fit; omega) _) ?_); clear hS a; (try clear w); intro a w hS
       refine L_op (s_e hS (e_move rfl) rfl ?_); clear hS a; intro a hS
       refine L_op (s_e hS (e_extract rfl rfl) rfl ?_); clear hS a; intro a hS
       refine L_op (s_e hS (e_extract rfl rfl) rfl ?_); clear hS a; intro a hS
       refine L_op (s_alloc hS ty_z60 rfl ?_); clear hS a; (try clear w); intro a w b11 hS
       refine L_op (s_storeA hS rfl rfl ty_sz60 (by repeat constructor) (by rfl) (by rfl) (by rfl) ?_); clear hS; (try clear w); intro w hS
       refine L_op (s_e hS (e_assign rfl) rfl ?_); clear hS a; intro a hS
       refine L_nil ?_
       refine n_then ?_
       refine c_seq ?_
       refine c_seq ?_
       refine c_region ?_
       refine L_op (s_e hS (e_move rfl) rfl ?_); clear hS a; intro a hS
       refine L_op (s_e hS (e_not rfl) rfl ?_); clear hS a; intro a hS
       refine L_nil ?_
       refine n_then ?_
       first | refine c_ifD hS rfl (fun hc40 => ?_) (fun hc40 => ?_) | refine c_if hS rfl (fun hc40 => ?_) (fun hc40 => ?_)
       ·
         refine c_seq ?_
         refine c_region ?_
         refine L_op (s_e hS (e_build ty_z60 ty_pl60 .nil) rfl ?_); clear hS a; intro a hS
         refine L_op (s_storeA hS rfl rfl ty_sz60 (by repeat constructor) (by rfl) (by rfl) (by rfl) ?_); clear hS; (try clear w); intro w hS
         refine L_op (s_e hS (e_assign rfl) rfl ?_); clear hS a; intro a hS
         refine L_nil ?_
         refine n_then ?_
         refine wp_ret ?_
         refine r_then ?_
         refine c_retN hS Try.results29 (.cons (.cellA rfl (by repeat constructor) ty_st60 ty_sz60 (by rfl)) (.cons (.tmp rfl) .nil)) rfl ?_
         have hn : ¬ okS (sumAt (pl s) code at_) := fun e => by
           have e2 : decide (inU (sumAt (pl s) code at_).1 ∧ inU (sumAt (pl s) code at_).2) = true := decide_eq_true e
           rw [e2] at hc40; cases hc40
         have hE : balF (pl s) code at_ = (noBl, 16) := by unfold balF; rw [if_neg h1, if_neg h2, if_neg hn]
         exact ⟨by rw [hE]; rfl, hS.chg⟩
       ·
         refine wp_skip ?_
         refine n_then ?_
         refine c_seq ?_
         refine c_region ?_
         refine L_op (s_e hS (e_loadA rfl (by repeat constructor) ty_st60 ty_sz60 (by rfl)) rfl ?_); clear hS a; intro a hS
         refine L_op (s_storeA hS rfl rfl ty_sz60 (by repeat constructor) (by rfl) (by rfl) (by rfl) ?_); clear hS; (try clear w); intro w hS
         refine L_op (s_e hS (e_assign rfl) rfl ?_); clear hS a; intro a hS
         refine L_nil ?_
         refine n_then ?_
         refine wp_ret ?_
         refine c_retN hS Try.results29 (.cons (.cellA rfl (by repeat constructor) ty_st60 ty_sz60 (by rfl)) (.cons (.tmp rfl) .nil)) rfl ?_
         have hy : okS (sumAt (pl s) code at_) := by
           have e2 : decide (inU (sumAt (pl s) code at_).1 ∧ inU (sumAt (pl s) code at_).2) = true := by simpa using hc40
           exact of_decide_eq_true e2
         have hE : balF (pl s) code at_ = ((code, (sumAt (pl s) code at_).1, (sumAt (pl s) code at_).2), 0) := by unfold balF; rw [if_neg h1, if_neg h2, if_pos hy]
         exact ⟨by rw [hE, show balV (sumAt (pl s) code at_) = sumAt (pl s) code at_ from if_pos hy]; rfl, hS.chg⟩
end Go.Proofs.Ytheofhegdjjfgaa

namespace Go.Proofs.Ytheofhegdjjfgaa
open Go.RowKit

def strA (v : Value) (xs : List ByteArray) : Asn := ownA 9 1 v xs.length (xs.map .string)
theorem owns_keepK {w w' : World} {E s : Nat} {v : Value} {m : Nat} {xs : List Value} (h : w.ownsRow 0 E s v m xs) (hw : ∀ b, v.ownBlock = some b → w'.heap[b]? = w.heap[b]?) : w'.ownsRow 0 E s v m xs :=
  (ok_own h).hold w' hw
/-- what holds between two rounds. -/
structure apI (w0 : World) (bx hi : Nat) (xs : List ByteArray) (W : World) : Prop where
  chg : Chg noB w0 W
  row : ∃ v, W.heap[bx]? = some (.cells [v].toArray 142 (0, 0)) ∧ W.ownsRow 0 9 1 v xs.length (xs.map .string) ∧ ∀ k, v.ownBlock = some k → hi ≤ k
theorem apI_ab {w0 : World} {bx B hi : Nat} (hB : w0.heap.size ≤ B) (h2 : bx < B) : AbR B hi (apI w0 bx hi) := fun _ _ _ h e1 e2 e3 e4 e5 => by
  obtain ⟨v, q1, q2, q3⟩ := h.row
  have hs := h.chg.size
  refine ⟨⟨e1.trans h.chg.os, e2.trans h.chg.tape, e3.trans h.chg.output, Nat.le_trans hs e4, fun k hk hn => (e5 k (by omega) (.inl (by omega))).trans (h.chg.block k hk hn)⟩, v, ?_, ?_, q3⟩
  · exact (e5 bx (Array.getElem?_eq_some_iff.1 q1).1 (.inl h2)).trans q1
  · exact owns_keepK q2 (fun k hk => e5 k (World.ownsRow.lt q2 k hk).2 (.inr (q3 k hk)))
theorem chg_roundK {w0 W W1 W2 W3 : World} {B : Nat} {F : Nat → Prop} (h : Chg noB w0 W) (hB : w0.heap.size ≤ B) (h1 : Chg noB W W1) (hT : Turn (B + 1) W1 W2) (h3 : Chg F W2 W3) (hF : ∀ k, F k → w0.heap.size ≤ k) : Chg noB w0 W3 := by
  refine ⟨h3.os.trans (hT.os.trans (h1.os.trans h.os)), h3.tape.trans (hT.tape.trans (h1.tape.trans h.tape)), h3.output.trans (hT.output.trans (h1.output.trans h.output)), ?_, fun k hk _ => ?_⟩
  · have := h.size; have := h1.size; have := hT.size; have := h3.size; omega
  · have e1 := h.block k hk (fun hf => hf)
    have e2 := h1.block k (by have := h.size; omega) (fun hf => hf)
    have e3 := hT.same k (by omega)
    have e4 := h3.block k (by have := h.size; have := h1.size; have := hT.size; omega) (fun hf => by have := hF k hf; omega)
    exact e4.trans (e3.trans (e2.trans e1))

set_option maxRecDepth 100000 in
theorem AppendSeq_P {gf : Nat} {lb : Array Value} (eg : CallsTo Try.prog gf) {S Sp : List ByteArray → Prop} {N : Nat} (hN : N ≤ 1000000) (X : Asn) (hXm : X.mine = false) (hseq : SeqD Try.prog gf lb keyV S Sp N X.φ) (w0 : World) (hX : X.ok w0) :
    NewC Try.prog 115 [.slice none 0 0, .func (.func gf) #[] lb] w0 (fun y : { y : Value × List ByteArray // S y.2 } => y.1.1) (fun y => strA y.1.1 y.1.2) := by
  refine callsM_enter [(0, .slice none 0 0), (1, .func (.func gf) #[] lb)] [X] noB Try.func115 rfl Try.ntmps115 ⟨rfl, rfl, trivial⟩ rfl (okC (hX) okN) dis1 (mineC hXm mineN) ?_
  intro a hS
  refine R_seq ?_
  refine R_region ?_
  refine R_op rfl (s_box1 hS rfl rfl rfl ?_); clear hS a; (try clear w); intro a w b2 hS
  refine R_op rfl (s_e hS (e_assign rfl) rfl ?_); clear hS a; intro a hS
  refine R_nil ?_
  refine n_then ?_
  refine R_seq ?_
  refine R_seq ?_
  refine R_region ?_
  refine R_op rfl (s_e hS (e_move rfl) rfl ?_); clear hS a; intro a hS
  refine R_nil ?_
  refine n_then ?_
  refine R_block ?_
  obtain ⟨B, hB⟩ : ∃ B, w.heap.size = B := ⟨_, rfl⟩
  have g2 := hS.get (X := .blk b2 [.slice none 0 0] 142) (by repeat constructor)
  have l2 : b2 < B := by rw [← hB]; exact (Array.getElem?_eq_some_iff.1 g2).1
  have m2 : w0.heap.size ≤ b2 := (hS.mine (.blk b2 [.slice none 0 0] 142) (by repeat constructor) rfl b2 rfl).resolve_right (fun h => h)
  have hB0 : w0.heap.size ≤ B := by rw [← hB]; exact hS.chg.size
  refine rangeFunc_D2 (α := ByteArray) hB (hS.sl.ev rfl) eg hseq (fun _ => rfl) (apI w0 b2) (fun _ _ _ _ => False) (fun hi hh => apI_ab hB0 l2) (fun _ _ _ _ _ _ h => h.elim)
    (fun hi pre W h => hX.hold W (fun b hb => h.chg.block b (hX.lt b hb) (fun e => e))) (fun hi hh => ⟨hS.chg, .slice none 0 0, g2, World.ownsRow_nil _ _ _ _, fun k hk => (by cases hk)⟩) ?_ ?_ ?_
  · intro hi l pre x W hh hhW hI hlen
    obtain ⟨v, q1, q2, q3⟩ := hI.row
    have hR : St 13 noB W (a.put (some 7) (.string x)) W [(7, .string x), (2, .pointer (some ⟨b2, 0, none⟩))] [] :=
      ⟨(hS.sl.put rfl _).sub (by repeat (first | exact trivial | refine ⟨rfl, ?_⟩)), Chg.refl _ _, okN, disN, mineN⟩
    have hact : ({ tmps := (#[7].zip (keyV x)).foldl (fun t (p, v) => t.setIfInBounds p v) a.tmps, defers := [] } : Act) = a.put (some 7) (.string x) := by
      simp [Act.put, hS.sl.defers, keyV]
    rw [hact]
    clear hS hact g2 hB
    generalize a.put (some 7) (.string x) = a2 at hR ⊢
    clear a; rename Act => a
    clear w
    have hS := hR
    clear hR
    refine R_region ?_
    refine R_op rfl (s_e hS (e_assign rfl) rfl ?_); clear hS a; intro a hS
    refine R_nil ?_
    refine n_then ?_
    have hCW := hS.chg
    have hC1 := hCW.size
    refine ⟨⟨hC1, fun k h1 h2 => hCW.block k (by omega) (fun h => h)⟩, fun W2 hT => ?_⟩
    have hT1 := hT.size
    have hlow : ∀ k, k < W.heap.size → (k < B ∨ hi ≤ k) → W2.heap[k]? = W.heap[k]? := fun k hk hk2 => (hT.same k (by omega)).trans (hCW.block k hk (fun h => h))
    have hR : St 13 (fun k => k = b2 ∨ v.ownBlock = some k) W2 a W2 [(5, .string x), (2, .pointer (some ⟨b2, 0, none⟩))] [.blk b2 [v] 142, ownA 9 1 v pre.length (pre.map .string)] :=
      ⟨hS.sl.sub (by repeat (first | exact trivial | refine ⟨rfl, ?_⟩)), Chg.refl _ _, okC (ok_blk ((hlow b2 (by omega) (.inl l2)).trans q1)) (okC (ok_own (owns_keepK q2 (fun k hk => hlow k (World.ownsRow.lt q2 k hk).2 (.inr (q3 k hk))))) okN),
       disC (sepC (fun b h1 h2 => by have h1 : b = b2 := h1; have := q3 b h2; omega) sepN) dis1, mineO (fun b hb => .inl hb) (mineO (fun b hb => .inr hb) mineN)⟩
    clear hS
    have hS := hR
    clear hR
    refine R_block ?_
    refine R_region ?_
    refine R_op rfl (s_e hS (e_load rfl (by repeat constructor) ty_sc142 (by rfl)) rfl ?_); clear hS a; intro a hS
    refine R_op rfl (s_e hS (e_move rfl) rfl ?_); clear hS a; intro a hS
    refine R_op rfl (s_bslice hS ty_sl142 ty_sz9 ty_z9 rfl rfl rfl rfl (.one rfl rfl rfl .nil) rfl ?_); clear hS a; (try clear w); intro a w b10 hS
    refine R_op rfl (s_append1 hS rfl rfl ty_sl142 ty_sz9 ty_by9 ty_z9 rfl rfl rfl (by repeat constructor) (by repeat constructor) (by rfl) (by rfl) (fun _ => (by repeat constructor)) (by omega) ?_); clear hS a; (try clear w); intro v11 a w hv11 hS
    obtain ⟨q11, c11, rfl⟩ := own_slice (hS.get (X := ownA 9 1 v11 (pre.length + 1) (pre.map .string ++ [.string x])) (by repeat constructor))
    refine R_op rfl (s_store hS rfl rfl rfl ty_sz142 (by repeat constructor) (by repeat constructor) ?_); clear hS; (try clear w); intro w hS
    refine R_nil ?_
    refine n_block ?_
    have hC2 := hS.chg
    have hnew : ∀ k, (Value.slice q11 (pre.length + 1) c11).ownBlock = some k → hi ≤ k := fun k hk => by
      rcases hS.mine (ownA 9 1 (.slice q11 (pre.length + 1) c11) (pre.length + 1) (pre.map Value.string ++ [Value.string x])) (by repeat constructor) rfl k hk with h | h | h
      · omega
      · exact absurd h.symm (fun e => hS.sep (X := ownA 9 1 (.slice q11 (pre.length + 1) c11) (pre.length + 1) (pre.map Value.string ++ [Value.string x])) (Y := .blk b2 [(.slice q11 (pre.length + 1) c11)] 142) (by repeat (first | exact Rem.head | apply Rem.tail)) (by repeat constructor) k hk e.symm)
      · exact q3 k h
    have hrow : World.ownsRow w 0 9 1 (.slice q11 (pre.length + 1) c11) (pre.length + 1) (pre.map Value.string ++ [Value.string x]) := hS.get (X := ownA 9 1 (.slice q11 (pre.length + 1) c11) (pre.length + 1) (pre.map Value.string ++ [Value.string x])) (by repeat constructor)
    refine ⟨⟨hC2.size, fun k h1 h2 => hC2.block k (by omega) (fun h => h.elim (fun h => by omega) (fun h => by have := q3 k h; omega))⟩, ⟨chg_roundK hI.chg hB0 hCW hT hC2 (fun k h => h.elim (fun h => by omega) (fun h => by have := q3 k h; omega)), (.slice q11 (pre.length + 1) c11), hS.get (X := .blk b2 [(.slice q11 (pre.length + 1) c11)] 142) (by repeat constructor), by simpa using hrow, hnew⟩⟩
  · intro hi D xs W hh hBD hDh hxs hI hDc
    obtain ⟨v, q1, q2, q3⟩ := hI.row
    have hd : St 13 noB w0 a W [(2, .pointer (some ⟨b2, 0, none⟩))] [.blk b2 [v] 142, strA v xs] :=
      ⟨hS.sl.sub (by repeat (first | exact trivial | refine ⟨rfl, ?_⟩)), hI.chg, okC (ok_blk q1) (okC (ok_own q2) okN), disC (sepC (fun b h1 h2 => by have h1 : b = b2 := h1; have := q3 b h2; omega) sepN) dis1, fun X hX _ k hk => .inl (by
        rcases List.mem_cons.1 hX with rfl | hX
        · have : k = b2 := hk; omega
        · obtain rfl := List.mem_singleton.1 hX; have := q3 k hk; omega)⟩
    clear hS
    refine n_block ?_
    refine n_then ?_
    refine R_seq ?_
    refine R_region ?_
    obtain ⟨p1, c1, rfl⟩ := own_slice q2
    rw [hd.sl.defers]
    refine R_op rfl (s_eD hd (e_loadC rfl ty_sc142 (fun w hh => cell_of_blk (cs := [.slice p1 xs.length c1]) (hh (.blk b2 [.slice p1 xs.length c1] 142) (by repeat constructor)) rfl)) rfl ?_); clear hd a; intro a hd
    refine R_op rfl (s_eD hd (e_assign rfl) rfl ?_); clear hd a; intro a hd
    refine R_nil ?_
    refine n_then ?_
    refine R_ret ?_
    have hd3 := hd.putD (D := D) (o := .deferred none) (by omega) (fun X hX k hk => by
      rcases List.mem_cons.1 hX with rfl | hX
      · have : k = b2 := hk; omega
      · obtain rfl := List.mem_singleton.1 hX; have := q3 k hk; omega)
    exact end1 hd3 (.inl rfl) hDc Try.results115 (.cons (.tmp rfl) .nil) ⟨⟨(.slice p1 xs.length c1, xs), hxs⟩, rfl, hd3.chg, hd3.new (X := strA (.slice p1 xs.length c1) xs) (by repeat constructor) rfl⟩
  · intro hi D c pre W _ _ _ _ hF; exact hF.elim
end Go.Proofs.Ytheofhegdjjfgaa

namespace Go.Proofs.Ytheofhegdjjfgaa
open Go.RowKit

def bytesL (xs : List ByteArray) : List (List UInt8) := xs.map (·.data.toList)
/-- texts in order. -/
def srt (xs : List ByteArray) : List ByteArray := ((bytesL xs).mergeSort fun x y => decide (x ≤ y)).map fun l => ⟨l.toArray⟩
theorem srt_len (xs : List ByteArray) : (srt xs).length = xs.length := by simp [srt, bytesL]
theorem srt_perm {xs ys : List ByteArray} (h : xs.Perm ys) : srt xs = srt ys := by
  unfold srt
  have h2 : (bytesL xs).Perm (bytesL ys) := h.map _
  have h3 := Go.mergeSort_of_perm h2
  exact congrArg (List.map fun l => (⟨l.toArray⟩ : ByteArray)) h3
theorem encStr_map (xs : List ByteArray) : (bytesL xs).map encStr = xs.map Value.string := by
  unfold bytesL
  rw [List.map_map]
  apply List.map_congr_left
  intro x _
  show Value.string ⟨x.data.toList.toArray⟩ = _
  simp
theorem SortS_P (v : Value) (xs : List ByteArray) (hx : xs.length ≤ 1000000) (w0 : World) (h : w0.ownsRow 0 9 1 v xs.length (xs.map .string)) :
    MutC Try.prog 100 [v] w0 (strA v xs) (fun _ : Unit => .tuple #[]) (fun _ => strA v (srt xs)) := by
  have hl : (bytesL xs).length = xs.length := by simp [bytesL]
  rcases h.2 with ⟨rfl, h0⟩ | ⟨g, cap, cur, rfl, hbase, hb, h1, h2, h3, h4⟩
  · obtain rfl : xs = [] := List.eq_nil_of_length_eq_zero h0
    refine (Try.slices_Sort_string_none none 0 w0).mono fun e w' ⟨he, hw⟩ => ?_
    subst hw
    exact ⟨(), he, Chg.refl _ _, (by have e : srt [] = [] := List.eq_nil_of_length_eq_zero (srt_len []); rw [e]; exact ok_own (World.ownsRow_nil _ _ _ _)), fun b hb => (by cases hb)⟩
  · have hH := Go.holds_of_block (ss := bytesL xs) hb (by rw [hl, encStr_map]; simpa using h4)
    have hc := Try.slices_Sort_string g 0 cap (bytesL xs) w0 hH (Array.getElem?_eq_some_iff.1 hb).1 (by omega)
    rw [hl] at hc
    refine hc.mono fun e w' ⟨he, n, os, hw⟩ => ?_
    have hgb : w0.grownBy w' (some g) := by rw [hw]; exact Go.grownBy_sorted _
    have hrow := Go.ownsRow_sorted (n := n) (os := os) (ss := bytesL xs) (ts := (bytesL xs).mergeSort fun x y => decide (x ≤ y)) (by simp) hbase hb (by omega) h2 h3
    rw [← hw, hl] at hrow
    have hsm : ((bytesL xs).mergeSort fun x y => decide (x ≤ y)).map encStr = (srt xs).map Value.string := by unfold srt; rw [List.map_map]; rfl
    rw [hsm] at hrow
    refine ⟨(), he, ?_, ?_, fun b hb2 => .inl hb2⟩
    · exact ⟨hgb.os, hgb.tape, hgb.output, hgb.size, fun k hk hn => hgb.block k hk (fun e => hn (congrArg some (Option.some.inj e).symm))⟩
    · have e1 := srt_len xs
      refine ok_own ?_
      rw [e1]; exact hrow

set_option maxRecDepth 100000 in
theorem CollectS_P {gf : Nat} {lb : Array Value} (eg : CallsTo Try.prog gf) {S Sp : List ByteArray → Prop} {N : Nat} (hN : N ≤ 1000000) (X : Asn) (hXm : X.mine = false) (hseq : SeqD Try.prog gf lb keyV S Sp N X.φ) (w0 : World) (hX : X.ok w0) :
    NewC Try.prog 99 [.func (.func gf) #[] lb] w0 (fun y : { y : Value × List ByteArray // S y.2 } => y.1.1) (fun y => strA y.1.1 y.1.2) := by
  refine c_enter [(0, .func (.func gf) #[] lb)] [X] noB Try.func99 rfl Try.ntmps99 ⟨rfl, trivial⟩ rfl (okC (hX) okN) dis1 (mineC hXm mineN) ?_
  intro a hS
  refine c_seq ?_
  refine c_region ?_
  refine L_op (s_e hS (e_assign rfl) rfl ?_); clear hS a; intro a hS
  refine L_nil ?_
  refine n_then ?_
  refine c_seq ?_
  refine c_region ?_
  refine L_op (s_e hS (e_move rfl) rfl ?_); clear hS a; intro a hS
  refine L_op (s_callN hS (.cons rfl (.cons rfl .nil)) cf115 rfl (AppendSeq_P eg hN X hXm hseq _ (hS.ok X (by repeat constructor))) ?_); clear hS a; (try clear w); intro x4 a w hS
  refine L_op (s_e hS (e_assign rfl) rfl ?_); clear hS a; intro a hS
  refine L_nil ?_
  refine n_then ?_
  refine wp_ret ?_
  refine c_ret1 hS Try.results99 (.tmp rfl) ?_
  exact ⟨x4, rfl, hS.chg, hS.new (X := strA x4.1.1 x4.1.2) (by repeat constructor) rfl⟩
set_option maxRecDepth 100000 in
/-- slices.Sorted over an iterator of texts. -/
theorem SortedS_P {gf : Nat} {lb : Array Value} (eg : CallsTo Try.prog gf) {S Sp : List ByteArray → Prop} {N : Nat} (hN : N ≤ 1000000) (hSN : ∀ xs, S xs → xs.length ≤ N) (X : Asn) (hXm : X.mine = false) (hseq : SeqD Try.prog gf lb keyV S Sp N X.φ) (w0 : World) (hX : X.ok w0) :
    NewC Try.prog 72 [.func (.func gf) #[] lb] w0 (fun y : { y : Value × List ByteArray // ∃ xs, S xs ∧ y.2 = srt xs } => y.1.1) (fun y => strA y.1.1 y.1.2) := by
  refine c_enter [(0, .func (.func gf) #[] lb)] [X] noB Try.func72 rfl Try.ntmps72 ⟨rfl, trivial⟩ rfl (okC (hX) okN) dis1 (mineC hXm mineN) ?_
  intro a hS
  refine c_seq ?_
  refine c_region ?_
  refine L_op (s_e hS (e_assign rfl) rfl ?_); clear hS a; intro a hS
  refine L_nil ?_
  refine n_then ?_
  refine c_seq ?_
  refine c_region ?_
  refine L_op (s_e hS (e_move rfl) rfl ?_); clear hS a; intro a hS
  refine L_op (s_callN hS (.cons rfl .nil) cf99 rfl (CollectS_P eg hN X hXm hseq _ (hS.ok X (by repeat constructor))) ?_); clear hS a; (try clear w); intro x5 a w hS
  obtain ⟨⟨v5, xs5⟩, hs5⟩ := x5
  simp only at hs5 hS
  have hn5 := hSN _ hs5
  refine L_op (s_e hS (e_assign rfl) rfl ?_); clear hS a; intro a hS
  refine L_nil ?_
  refine n_then ?_
  refine c_seq ?_
  refine c_region ?_
  refine L_op (s_e hS (e_move rfl) rfl ?_); clear hS a; intro a hS
  refine L_op (s_callM hS (.cons rfl .nil) cf100 rfl (SortS_P v5 xs5 (by omega) _ (hS.get (X := strA v5 xs5) (by repeat constructor))) (fun x => (by repeat constructor)) rfl ?_); clear hS a; (try clear w); intro x7 a w hS
  refine L_nil ?_
  refine n_then ?_
  refine c_seq ?_
  refine c_region ?_
  refine L_op (s_e hS (e_move rfl) rfl ?_); clear hS a; intro a hS
  refine L_op (s_e hS (e_assign rfl) rfl ?_); clear hS a; intro a hS
  refine L_nil ?_
  refine n_then ?_
  refine wp_ret ?_
  refine c_ret1 hS Try.results72 (.tmp rfl) ?_
  exact ⟨⟨(v5, srt xs5), xs5, hs5, rfl⟩, rfl, hS.chg, hS.new (X := strA v5 (srt xs5)) (by repeat constructor) rfl⟩
end Go.Proofs.Ytheofhegdjjfgaa

namespace Go.Proofs.Ytheofhegdjjfgaa
open Go.RowKit

set_option maxRecDepth 100000 in
theorem Keys_Led_seq (b m : Nat) (l : List (ByteArray × Value)) : SeqD Try.prog 101 #[.pointer (some ⟨b, 0, none⟩)] keyV (fun xs => xs.Perm (keysM l)) (fun _ => True) l.length (keysK b m 126 l) := by
  intro ly J Jx W hK hJ hJx hY h0
  have hk0 := hK _ _ _ (h0 W.heap.size (Nat.le_refl _))
  have hbW : b < W.heap.size := (Array.getElem?_eq_some_iff.1 hk0.box).1
  have hmW : m < W.heap.size := (Array.getElem?_eq_some_iff.1 hk0.mp).1
  rw [show (#[Value.func (.yield ly) #[] #[]] ++ #[Value.pointer (some ⟨b, 0, none⟩)] : Array Value) = [Value.func (.yield ly) #[] #[], Value.pointer (some ⟨b, 0, none⟩)].toArray from rfl]
  refine callsIn_enter [(0, .func (.yield ly) #[] #[]), (1, .pointer (some ⟨b, 0, none⟩))] [keysA b m 126 l] noB Try.func101 rfl Try.ntmps101 ⟨rfl, rfl, trivial⟩ rfl (okC (keys_ok hk0) okN) dis1 (mineC (by rfl) mineN) ?_
  intro a hS
  refine R_seq ?_
  refine R_region ?_
  refine R_op rfl (s_e hS (e_loadC rfl ty_sc126 (fun w hh => cell_of_blk (cs := [.map (some m)]) (hh (keysA b m 126 l) (by repeat constructor)).box rfl)) rfl ?_); clear hS a; intro a hS
  refine R_op rfl (s_rangeM (l := l) hS rfl ty_mp126 (fun w hh => (hh (keysA b m 126 l) (by repeat constructor)).mp) (by rfl) ?_); clear hS a; (try clear w); intro a w it hS
  refine R_nil ?_
  refine n_then ?_
  refine R_block ?_
  have hitW : W.heap.size ≤ it := by
    have h1 := hS.mine (itA it m [] l.length) (by repeat constructor) rfl it rfl
    rcases h1 with h1 | h1
    · exact h1
    · exact h1.elim
  have hnF : ¬ (keysA b m 126 l).F it := fun e => by
    have e2 : it = b ∨ it = m := e
    omega
  have hJi := hJ (it + 1) (by omega)
  have hJ0 : J (it + 1) [] w := hJi _ _ _ (h0 (it + 1) (by omega)) hS.chg.os hS.chg.tape hS.chg.output hS.chg.size (fun k hk _ => hS.chg.block k hk (fun e => e))
  have hWw := hS.chg.size
  refine R_loop (γ := List Nat) (fun s a w => St 14 (itF it) w a w [(5, .pointer (some ⟨it, 0, none⟩)), (0, .func (.yield ly) #[] #[]), (1, .pointer (some ⟨b, 0, none⟩))] [itA it m s l.length, keysA b m 126 l] ∧ W.heap.size ≤ w.heap.size ∧ s.Nodup ∧ (∀ i ∈ s, i < l.length) ∧ J (it + 1) (s.map (keyAt l)) w) (fun s => l.length - s.length) [] ⟨St.iter (hS.sl.sub (by repeat (first | exact trivial | refine ⟨rfl, ?_⟩))) (hS.get (X := itA it m [] l.length) (by repeat constructor)) (hS.ok _ (by repeat constructor)) rfl hnF, hWw, .nil, fun i hi => (by cases hi), hJ0⟩ ?_
  clear hS a; (try clear w); intro s a w hI
  obtain ⟨hS, hWw, hnd, hlt, hj⟩ := hI
  refine R_seq ?_
  refine R_region ?_
  refine R_op rfl (s_nextO (l := l) hS rfl (fun w hh => (hh (keysA b m 126 l) (by repeat constructor)).mp) (by rfl) (fun _ => .head) ?_); intro o ho a1 w1 hS1; have hj1 := ab_it hJi hitW hj hS1.chg; have hW1 : W.heap.size ≤ w1.heap.size := Nat.le_trans hWw hS1.chg.size; clear hS a; revert a1; intro a hS
  refine R_op rfl (s_e hS (e_extract rfl (nx0 o)) rfl ?_); clear hS a; intro a hS
  refine R_nil ?_
  refine n_then ?_
  refine R_seq ?_
  first | refine R_ifD hS rfl (fun hc7 => ?_) (fun hc7 => ?_) | refine R_if hS rfl (fun hc7 => ?_) (fun hc7 => ?_)
  ·
    obtain ⟨⟨i, k, v⟩, rfl⟩ : ∃ q, o = some q := Option.isSome_iff_exists.1 hc7
    obtain ⟨hl, hns⟩ := ho
    simp only [nxS] at hS
    have hil := (List.getElem?_eq_some_iff.1 hl).1
    have hnd2 : (s ++ [i]).Nodup := List.nodup_append.2 ⟨hnd, by simp, fun x hx y hy => by obtain rfl := List.mem_singleton.1 hy; exact fun e => hns (e ▸ hx)⟩
    have hlt2 : ∀ j ∈ s ++ [i], j < l.length := fun j hj => by
      rcases List.mem_append.1 hj with hj | hj
      · exact hlt j hj
      · obtain rfl := List.mem_singleton.1 hj; exact hil
    have hsl := nodup_le _ _ hnd2 hlt2
    rw [List.length_append, List.length_singleton] at hsl
    have hka : s.map (keyAt l) ++ [k] = (s ++ [i]).map (keyAt l) := by rw [List.map_append, List.map_singleton, keyAt_of hl]
    have hiw : w1.heap[it]? = some (.mapIter (some m) l.length (s ++ [i]).toArray l.length) := hS.get (X := itA it m (s ++ [i]) l.length) (by repeat constructor)
    have hilt := (Array.getElem?_eq_some_iff.1 hiw).1
    have hy := hY (it + 1) _ k w1 (by omega) hilt hj1 (by rw [List.length_map]; omega)
    unfold keyV at hy
    rw [hka] at hy
    refine R_skip ?_
    refine n_then ?_
    refine R_block ?_
    refine R_seq ?_
    refine R_region ?_
    refine R_op rfl (s_e hS (e_entryM rfl (fun w hh => (hh (keysA b m 126 l) (by repeat constructor)).mp) (by repeat constructor) hl) rfl ?_); clear hS a; intro a hS
    refine R_op rfl (s_e hS (e_extract rfl rfl) rfl ?_); clear hS a; intro a hS
    refine R_op rfl (s_e hS (e_assign rfl) rfl ?_); clear hS a; intro a hS
    refine R_nil ?_
    refine n_then ?_
    refine R_seq ?_
    refine R_region ?_
    refine R_op rfl (s_e hS (e_move rfl) rfl ?_); clear hS a; intro a hS
    refine R_op rfl (s_e hS (e_move rfl) rfl ?_); clear hS a; intro a hS
    refine R_yield hS rfl (.cons rfl .nil) hy (fun e' w' hR => ?_)
    obtain ⟨hKp, hR⟩ := hR
    have hit2 := (hKp.2 it hitW (by omega)).trans hiw
    have hW2 : W.heap.size ≤ w'.heap.size := Nat.le_trans hW1 hKp.1
    obtain ⟨y, rfl, hR2⟩ : ∃ y : Bool, e' = .returned (.bool y) ∧ ((y = true ∧ J (it + 1) ((s ++ [i]).map (keyAt l)) w') ∨ (y = false ∧ Jx (it + 1) ((s ++ [i]).map (keyAt l)) w')) := by
      rcases hR with ⟨h1, h2⟩ | ⟨h1, h2⟩
      · exact ⟨true, h1, .inl ⟨rfl, h2⟩⟩
      · exact ⟨false, h1, .inr ⟨rfl, h2⟩⟩
    refine ⟨_, rfl, ?_⟩
    replace hS := St.bareK (w := w') (hS.sl.put (d := 12) rfl (.bool y))
    clear hj1 hy hj hKp
    generalize a.put (some 12) (Value.bool y) = a2 at hS ⊢
    clear a; revert a2; intro a hS
    refine R_op rfl (s_e hS (e_not rfl) rfl ?_); clear hS a; intro a hS
    refine R_nil ?_
    refine n_then ?_
    first | refine R_ifD hS rfl (fun hc13 => ?_) (fun hc13 => ?_) | refine R_if hS rfl (fun hc13 => ?_) (fun hc13 => ?_)
    ·
      refine R_ret ?_
      refine r_block (r_then (r_block ?_))
      refine c_retN hS Try.results101 .nil rfl ?_
      have hx2 : Jx (it + 1) ((s ++ [i]).map (keyAt l)) w' := by
        rcases hR2 with ⟨h1, _⟩ | ⟨_, h2⟩
        · rw [h1] at hc13; cases hc13
        · exact h2
      exact ⟨⟨_, rfl⟩, it + 1, by omega, .inr ⟨_, trivial, hx2⟩⟩
    ·
      refine R_skip ?_
      refine n_block ?_
      have hx2 : J (it + 1) ((s ++ [i]).map (keyAt l)) w' := by
        rcases hR2 with ⟨_, h2⟩ | ⟨h1, _⟩
        · exact h2
        · rw [h1] at hc13; cases hc13
      exact ⟨s ++ [i], by rw [List.length_append, List.length_singleton]; omega, St.iter (hS.sl.sub (by repeat (first | exact trivial | refine ⟨rfl, ?_⟩))) hit2 (keys_ok (hK _ _ _ hx2)) rfl hnF, hW2, hnd2, hlt2, hx2⟩
  ·
    refine R_exit ?_
    refine x_then (x_then (x_hit ?_))
    refine r_norm ?_
    refine c_retN hS Try.results101 .nil rfl ?_
    obtain rfl : o = none := by
      cases o with
      | none => rfl
      | some q => cases hc7
    exact ⟨⟨_, rfl⟩, it + 1, by omega, .inl ⟨_, keys_all hnd hlt ho, hj1⟩⟩
set_option maxRecDepth 100000 in
theorem KeysLed_P (m : Nat) (w0 : World) : NewC Try.prog 73 [.map (some m)] w0 (fun b : Nat => .func (.func 101) #[] [.pointer (some ⟨b, 0, none⟩)].toArray) (fun b => .blk b [.map (some m)] 126) := by
  refine c_enter [(0, .map (some m))] [] noB Try.func73 rfl Try.ntmps73 ⟨rfl, trivial⟩ rfl (by simp) (by simp) (by simp) ?_
  intro a hS
  refine c_seq ?_
  refine c_region ?_
  obtain ⟨b1, hb1⟩ : ∃ b, b = w0.heap.size := ⟨_, rfl⟩
  refine L_op (s_box1 hS rfl rfl rfl ?_); clear hS a; intro a w b1 hS
  refine L_op (s_e hS (e_assign rfl) rfl ?_); clear hS a; intro a hS
  refine L_nil ?_
  refine n_then ?_
  refine c_seq ?_
  refine c_region ?_
  refine L_op (s_e hS (e_makeFunc .nil (.cons rfl .nil)) rfl ?_); clear hS a; intro a hS
  refine L_op (s_e hS (e_assign rfl) rfl ?_); clear hS a; intro a hS
  refine L_nil ?_
  refine n_then ?_
  refine wp_ret ?_
  refine c_ret1 hS Try.results73 (.tmp rfl) ?_
  exact ⟨b1, rfl, hS.chg, hS.new (.head _) rfl⟩
theorem str_getL {Γ : List Asn} {g c m : Nat} {xs : List ByteArray} (hm : strA (.slice (some ⟨g, 0, none⟩) m c) xs ∈ Γ) {i : Nat} {x : ByteArray} (hx : xs[i]? = some x) : ∀ w, Hd Γ w → w.cell? ⟨g, 0 + i * 1, none⟩ = some (.string x) := fun w hh => by
  have h : w.ownsRow 0 9 1 (.slice (some ⟨g, 0, none⟩) m c) xs.length (xs.map .string) := hh _ hm
  have h1 : (xs.map Value.string)[i]? = some (.string x) := by rw [List.getElem?_map, hx]; rfl
  have h2 := World.ownsRow.cells h (g := g) rfl _ _ h1
  rw [addr_add] at h2
  rw [← h2]; congr 2; omega
end Go.Proofs.Ytheofhegdjjfgaa

namespace Go.Proofs.Ytheofhegdjjfgaa
open Go.RowKit

theorem own_getL {Γ : List Asn} {α : Type} {enc : α → List Value} {s E g c m : Nat} {xs : List α} (hl : ∀ x, (enc x).length = s) (hm : ownA E s (.slice (some ⟨g, 0, none⟩) m c) m (xs.flatMap enc) ∈ Γ) {i : Nat} {x : α} (hx : xs[i]? = some x) : ∀ w, Hd Γ w → ∀ j v, (enc x)[j]? = some v → w.cell? ⟨g, 0 + i * s + j, none⟩ = some v := by
  intro w hh j v hj
  have h : w.ownsRow 0 E s (.slice (some ⟨g, 0, none⟩) m c) m (xs.flatMap enc) := hh _ hm
  have h1 := flat_get enc s hl xs i x hx j v hj
  have h2 := World.ownsRow.cells h (g := g) rfl _ _ h1
  rw [addr_add] at h2
  rw [← h2]; congr 2; omega
def codesA (acs : List Acc) : List ByteArray := acs.map (·.code)
/-- the accounts by their codes. -/
def accsL (acs : List Acc) : List Acc := (srt (codesA acs)).map (accOf acs)
theorem accs_len (acs : List Acc) : (accsL acs).length = acs.length := by simp [accsL, srt_len, codesA]
set_option maxRecDepth 100000 in
theorem lAccs_P (B : LB) (s : LS) (hacs : s.acs.length ≤ 1000) (w0 : World) (h : ledφ B s w0) :
    NewC Try.prog 30 [.pointer (some ⟨B.lb, 0, none⟩)] w0 (fun v : Value => v) (fun v => ownA 68 4 v (accsL s.acs).length ((accsL s.acs).flatMap encAc)) := by
  have hkm : keysM (entAc s.acs) = codesA s.acs := by simp [keysM, entAc, codesA, Function.comp_def]
  have hel : (entAc s.acs).length = s.acs.length := by simp [entAc]
  refine c_enter [(0, .pointer (some ⟨B.lb, 0, none⟩))] [ledA B s false] noB Try.func30 rfl Try.ntmps30 ⟨rfl, trivial⟩ rfl (okC (led_ok false h) okN) dis1 (mineC (by rfl) mineN) ?_
  intro a hS
  refine c_seq ?_
  refine c_region ?_
  refine L_op (s_e hS (e_assign rfl) rfl ?_); clear hS a; intro a hS
  refine L_nil ?_
  refine n_then ?_
  refine c_seq ?_
  refine c_region ?_
  refine L_op (s_e hS (e_assign rfl) rfl ?_); clear hS a; intro a hS
  refine L_nil ?_
  refine n_then ?_
  refine c_seq ?_
  refine c_seq ?_
  refine c_region ?_
  refine L_op (s_e hS (e_move rfl) rfl ?_); clear hS a; intro a hS
  refine L_op (s_e hS (e_nilCheck rfl) rfl ?_); clear hS a; intro a hS
  first | (refine L_op (s_e hS (e_fa0 rfl ty_fo129_1) rfl ?_); clear hS a; intro a hS) | (refine L_op (s_e hS (e_faK rfl ty_fo129_1) rfl ?_); clear hS a; intro a hS)
  refine L_op (s_e hS (e_loadC rfl ty_sc126 (led_cell (k := 1) (by repeat constructor) rfl)) rfl ?_); clear hS a; intro a hS
  refine L_op (s_callN hS (.cons rfl .nil) cf73 rfl (KeysLed_P B.ma _) ?_); clear hS a; (try clear w); intro x10 a w hS
  refine L_op (s_callN hS (.cons rfl .nil) cf72 rfl (SortedS_P cf101 (N := (entAc s.acs).length) (by omega) (fun xs hx => by rw [hx.length_eq]; simp [keysM]) (keysA x10 B.ma 126 (entAc s.acs)) rfl (Keys_Led_seq x10 B.ma (entAc s.acs)) _ (keys_ok ⟨hS.get (X := .blk x10 [.map (some B.ma)] 126) (by repeat constructor), (hS.get (X := ledA B s false) (by repeat constructor)).am⟩)) ?_); clear hS a; (try clear w); intro x11 a w hS
  obtain ⟨⟨v11, ks⟩, xs, hxs, hks⟩ := x11
  simp only at hks hS
  have hk2 : ks = srt (codesA s.acs) := by rw [hks, ← hkm]; exact srt_perm hxs
  have hkl : ks.length = s.acs.length := by rw [hk2, srt_len]; simp [codesA]
  obtain ⟨q11, c11, rfl⟩ := own_slice (hS.get (X := strA v11 ks) (by repeat constructor))
  have hsh : ks.length = 0 ∨ ∃ g, q11 = some ⟨g, 0, none⟩ := by
    have h0 : World.ownsRow w 0 9 1 (.slice q11 ks.length c11) ks.length (ks.map .string) := hS.get (X := strA (.slice q11 ks.length c11) ks) (by repeat constructor)
    rcases h0.2 with ⟨e1, e2⟩ | ⟨g, cap, cur, e1, _⟩
    · exact .inl e2
    · injection e1 with e3; exact .inr ⟨g, e3⟩
  refine L_op (s_e hS (e_len rfl rfl ty_sl142) rfl ?_); clear hS a; intro a hS
  refine L_op (s_e hS (e_move rfl) rfl ?_); clear hS a; intro a hS
  refine L_nil ?_
  refine n_then ?_
  refine wp_block ?_
  replace hS := hS.own_nil 68 4
  refine c_loop (γ := Nat × Value) (fun G a w => St 28 noB w0 a w [(13, .int .i64 (G.1 : Int)), (12, .int .i64 (ks.length : Int)), (11, .slice q11 ks.length c11), (3, G.2), (0, .pointer (some ⟨B.lb, 0, none⟩))] [ownA 68 4 G.2 ((ks.take G.1).map (accOf s.acs)).length (((ks.take G.1).map (accOf s.acs)).flatMap encAc), strA (.slice q11 ks.length c11) ks, ledA B s false] ∧ G.1 ≤ ks.length) (fun G => ks.length - G.1) (0, .slice none 0 0) ⟨(hS.slots (by repeat (first | exact trivial | refine ⟨rfl, ?_⟩))).pick (by repeat (first | exact Pick.nil | (refine Pick.cons (by repeat (first | exact Rem.head | apply Rem.tail)) ?_))), Nat.zero_le _⟩ ?_
  clear hS a; (try clear w); intro G a w hI
  obtain ⟨i, out⟩ := G
  obtain ⟨hS, hi⟩ := hI
  simp only at hS hi
  refine c_seq ?_
  refine c_region ?_
  refine L_op (s_e hS (e_bin rfl rfl rfl) rfl ?_); clear hS a; intro a hS
  refine L_nil ?_
  refine n_then ?_
  refine c_seq ?_
  first | refine c_ifD hS rfl (fun hc14 => ?_) (fun hc14 => ?_) | refine c_if hS rfl (fun hc14 => ?_) (fun hc14 => ?_)
  ·
    have hik : i < ks.length := by omega
    obtain ⟨c, hx⟩ : ∃ c, ks[i]? = some c := ⟨ks[i], List.getElem?_eq_getElem hik⟩
    obtain ⟨g, rfl⟩ : ∃ g, q11 = some ⟨g, 0, none⟩ := hsh.resolve_left (by omega)
    have htk : (ks.take (i + 1)).map (accOf s.acs) = (ks.take i).map (accOf s.acs) ++ [accOf s.acs c] := by rw [List.take_add_one, hx]; simp
    have hml : ((ks.take i).map (accOf s.acs)).length = i := by rw [List.length_map, List.length_take]; omega
    refine wp_skip ?_
    refine n_then ?_
    refine c_seq ?_
    refine wp_block ?_
    refine c_seq ?_
    refine c_region ?_
    refine L_op (s_e hS (e_ixN rfl rfl ty_sl142 ty_sz9 (by omega)) rfl ?_); clear hS a; intro a hS
    refine L_op (s_e hS (e_loadC rfl ty_sc9 (str_getL (by repeat constructor) hx)) rfl ?_); clear hS a; intro a hS
    refine L_op (s_e hS (e_assign rfl) rfl ?_); clear hS a; intro a hS
    refine L_nil ?_
    refine n_then ?_
    refine c_region ?_
    refine L_op (s_e hS (e_move rfl) rfl ?_); clear hS a; intro a hS
    refine L_op (s_e hS (e_move rfl) rfl ?_); clear hS a; intro a hS
    refine L_op (s_e hS (e_nilCheck rfl) rfl ?_); clear hS a; intro a hS
    first | (refine L_op (s_e hS (e_fa0 rfl ty_fo129_1) rfl ?_); clear hS a; intro a hS) | (refine L_op (s_e hS (e_faK rfl ty_fo129_1) rfl ?_); clear hS a; intro a hS)
    refine L_op (s_e hS (e_loadC rfl ty_sc126 (led_cell (k := 1) (by repeat constructor) rfl)) rfl ?_); clear hS a; intro a hS
    refine L_op (s_e hS (e_move rfl) rfl ?_); clear hS a; intro a hS
    refine L_op (s_e hS (e_lookupC rfl rfl ty_mp126 ty_u9 ty_zv68 (fun w hh => (hh (ledA B s false) (by repeat constructor)).am)) rfl ?_); clear hS a; intro a hS
    rw [lk_acc] at hS
    refine L_op (s_bslice hS ty_sl65 ty_sz68 ty_z68 rfl rfl rfl rfl (.agg rfl rfl .nil) rfl ?_); clear hS a; (try clear w); intro a w b24 hS
    refine L_op (s_append1 hS rfl rfl ty_sl65 ty_sz68 ty_by68 ty_z68 rfl rfl rfl (by repeat constructor) (by repeat constructor) (by rfl) (by rfl) (fun _ => (by repeat constructor)) (by omega) ?_); clear hS a; (try clear w); intro v25 a w hv25 hS
    refine L_op (s_e hS (e_assign rfl) rfl ?_); clear hS a; intro a hS
    refine L_nil ?_
    refine n_block ?_
    refine n_then ?_
    refine c_region ?_
    first | (refine L_op (s_e hS (e_binN rfl rfl rfl (by omega)) rfl ?_); clear hS a; intro a hS) | (refine L_op (s_e hS (e_bin rfl rfl rfl) rfl ?_); clear hS a; intro a hS)
    refine L_op (s_e hS (e_move rfl) rfl ?_); clear hS a; intro a hS
    refine L_nil ?_
    have e1 : ((ks.take (i + 1)).map (accOf s.acs)).length = ((ks.take i).map (accOf s.acs)).length + 1 := by rw [htk]; simp
    have e2 : ((ks.take (i + 1)).map (accOf s.acs)).flatMap encAc = ((ks.take i).map (accOf s.acs)).flatMap encAc ++ encAc (accOf s.acs c) := by rw [htk, List.flatMap_append]; simp
    refine ⟨(i + 1, v25), by simp only; omega, ?_, by simp only; omega⟩
    simp only
    rw [e1, e2]
    exact (hS.slots (by repeat (first | exact trivial | refine ⟨rfl, ?_⟩))).pick (by repeat (first | exact Pick.nil | (refine Pick.cons (by repeat (first | exact Rem.head | apply Rem.tail)) ?_)))
  ·
    obtain rfl : i = ks.length := by omega
    have hall : (ks.take ks.length).map (accOf s.acs) = accsL s.acs := by rw [List.take_length, hk2]; rfl
    rw [hall] at hS
    refine wp_exit ?_
    refine x_then (x_then (x_hit ?_))
    refine n_then ?_
    refine c_seq ?_
    refine c_region ?_
    refine L_op (s_e hS (e_move rfl) rfl ?_); clear hS a; intro a hS
    refine L_op (s_e hS (e_assign rfl) rfl ?_); clear hS a; intro a hS
    refine L_nil ?_
    refine n_then ?_
    refine wp_ret ?_
    refine c_ret1 hS Try.results30 (.tmp rfl) ?_
    exact ⟨out, rfl, hS.chg, hS.new (X := ownA 68 4 out (accsL s.acs).length ((accsL s.acs).flatMap encAc)) (by repeat constructor) rfl⟩

/-! ### what stands in all accounts -/
def triZ (bx m : Nat) (t : List (ByteArray × SM)) : Asn := .any (fun k => k = bx ∨ k = m) (fun w => w.heap[bx]? = some (.cells [Value.map (some m)].toArray 127 (0, 0)) ∧ w.heap[m]? = some (.map (mkM 0 (entSm t)).toArray (entSm t).length)) true
theorem triZ_ok {bx m : Nat} {t : List (ByteArray × SM)} {w : World} (h1 : w.heap[bx]? = some (.cells [Value.map (some m)].toArray 127 (0, 0))) (h2 : w.heap[m]? = some (.map (mkM 0 (entSm t)).toArray (entSm t).length)) : (triZ bx m t).ok w := by
  refine ⟨fun k hk => ?_, fun w' hw => ⟨?_, ?_⟩⟩
  · rcases hk with rfl | rfl
    · exact (Array.getElem?_eq_some_iff.1 h1).1
    · exact (Array.getElem?_eq_some_iff.1 h2).1
  · rw [hw bx (.inl rfl)]; exact h1
  · rw [hw m (.inr rfl)]; exact h2
def triStep (t : List (ByteArray × SM)) (p : Pst) : List (ByteArray × SM) := putT t p.acc (addS (totOf t p.acc) p)
theorem map_ok {b : Nat} {l : List (ByteArray × Value)} {w : World} (hb : w.heap[b]? = some (.map (mkM 0 l).toArray l.length)) : (smapA b l).ok w :=
  ⟨fun k hk => by obtain rfl : k = b := hk; exact (Array.getElem?_eq_some_iff.1 hb).1, fun w' hw => by show w'.heap[b]? = _; rw [hw b rfl]; exact hb⟩
set_option maxRecDepth 100000 in
theorem lTrial1_P (bx m : Nat) (t : List (ByteArray × SM)) (p : Pst) (hg : fitS (totOf t p.acc)) (hp : p.fits) (hr : fitS (addS (totOf t p.acc) p)) (hne : bx ≠ m) (w0 : World) (h : (triZ bx m t).ok w0) :
    MutC Try.prog 77 [.agg (encP p).toArray, .pointer (some ⟨bx, 0, none⟩)] w0 (triZ bx m t) (fun _ : Unit => .tuple #[]) (fun _ => triZ bx m (triStep t p)) := by
  have h1 := h.now.1
  have h2 := h.now.2
  refine c_enter [(0, .agg (encP p).toArray), (1, .pointer (some ⟨bx, 0, none⟩))] [.blk bx [.map (some m)] 127, smapA m (entSm t)] (triZ bx m t).F Try.func77 rfl Try.ntmps77 ⟨rfl, rfl, trivial⟩ rfl (okC (ok_blk h1) (okC (map_ok h2) okN)) (disC (sepC (fun b e1 e2 => hne (Eq.trans (Eq.symm e1) e2)) sepN) dis1) (mineO (fun _ hb => .inl hb) (mineO (fun _ hb => .inr hb) mineN)) ?_
  intro a hS
  refine c_seq ?_
  refine c_region ?_
  refine L_op (s_boxA hS rfl rfl ?_); clear hS a; (try clear w); intro a w b2 hS
  refine L_nil ?_
  refine n_then ?_
  refine c_drawS [9] (by kernel_rfl) hS (sub_cons (X := .blk b2 _ _) (by repeat constructor) (sub_cons (X := .blk bx [.map (some m)] 127) (by repeat constructor) (sub_cons (X := smapA m (entSm t)) (by repeat constructor) sub_nil))) ?_; clear hS; (try clear w); intro w hS
  simp only [List.length_cons, List.length_nil, Nat.zero_add, Nat.reduceAdd, List.replicate]
  refine Z_take (i := 0) hS rfl want_none (e_load rfl (by repeat constructor) ty_sc127 (by rfl)) (listed' := [true, false, false, false, false, false, false, false, false, false]) rfl (by kernel_rfl) (by kernel_rfl) (by kernel_rfl) (by kernel_rfl) (by kernel_rfl) (sub_cons (by repeat constructor) (sub_cons (by repeat constructor) (sub_cons (by repeat constructor) sub_nil))) (fun _ _ _ h => h) rfl ?_; clear hS a; intro a hS
  first | (refine Z_take0 (i := 1) hS rfl want_none (e_fa0 rfl ty_fo63_0) (listed' := [true, true, false, false, false, false, false, false, false, false]) rfl (by kernel_rfl) (by kernel_rfl) (by kernel_rfl) (fun _ _ _ h => h) rfl ?_; clear hS a; intro a hS) | (refine Z_take0 (i := 1) hS rfl want_none (e_faK rfl ty_fo63_0) (listed' := [true, true, false, false, false, false, false, false, false, false]) rfl (by kernel_rfl) (by kernel_rfl) (by kernel_rfl) (fun _ _ _ h => h) rfl ?_; clear hS a; intro a hS)
  refine Z_take (i := 2) hS rfl want_none (e_load rfl (by repeat constructor) ty_sc9 (by rfl)) (listed' := [true, true, true, false, false, false, false, false, false, false]) rfl (by kernel_rfl) (by kernel_rfl) (by kernel_rfl) (by kernel_rfl) (by kernel_rfl) (sub_cons (by repeat constructor) (sub_cons (by repeat constructor) (sub_cons (by repeat constructor) sub_nil))) (fun _ _ _ h => h) rfl ?_; clear hS a; intro a hS
  refine Z_take (i := 3) hS rfl want_none (e_load rfl (by repeat constructor) ty_sc127 (by rfl)) (listed' := [true, true, true, true, false, false, false, false, false, false]) rfl (by kernel_rfl) (by kernel_rfl) (by kernel_rfl) (by kernel_rfl) (by kernel_rfl) (sub_cons (by repeat constructor) (sub_cons (by repeat constructor) (sub_cons (by repeat constructor) sub_nil))) (fun _ _ _ h => h) rfl ?_; clear hS a; intro a hS
  first | (refine Z_take0 (i := 4) hS rfl want_none (e_fa0 rfl ty_fo63_0) (listed' := [true, true, true, true, true, false, false, false, false, false]) rfl (by kernel_rfl) (by kernel_rfl) (by kernel_rfl) (fun _ _ _ h => h) rfl ?_; clear hS a; intro a hS) | (refine Z_take0 (i := 4) hS rfl want_none (e_faK rfl ty_fo63_0) (listed' := [true, true, true, true, true, false, false, false, false, false]) rfl (by kernel_rfl) (by kernel_rfl) (by kernel_rfl) (fun _ _ _ h => h) rfl ?_; clear hS a; intro a hS)
  refine Z_take (i := 5) hS rfl want_none (e_load rfl (by repeat constructor) ty_sc9 (by rfl)) (listed' := [true, true, true, true, true, true, false, false, false, false]) rfl (by kernel_rfl) (by kernel_rfl) (by kernel_rfl) (by kernel_rfl) (by kernel_rfl) (sub_cons (by repeat constructor) (sub_cons (by repeat constructor) (sub_cons (by repeat constructor) sub_nil))) (fun _ _ _ h => h) rfl ?_; clear hS a; intro a hS
  refine Z_take (i := 6) hS rfl want_none (e_lookupS rfl rfl ty_mp127 ty_u9 ty_zv136 (by repeat constructor)) (listed' := [true, true, true, true, true, true, true, false, false, false]) rfl (by kernel_rfl) (by kernel_rfl) (by kernel_rfl) (by kernel_rfl) (by kernel_rfl) (sub_cons (by repeat constructor) (sub_cons (by repeat constructor) (sub_cons (by repeat constructor) sub_nil))) (fun _ _ _ h => h) rfl ?_; clear hS a; intro a hS
  rw [lk_tot] at hS
  refine Z_take (i := 7) hS rfl want_none (e_loadA rfl (by repeat constructor) ty_st63 ty_sz63 (by rfl)) (listed' := [true, true, true, true, true, true, true, true, false, false]) rfl (by kernel_rfl) (by kernel_rfl) (by kernel_rfl) (by kernel_rfl) (by kernel_rfl) (sub_cons (by repeat constructor) (sub_cons (by repeat constructor) (sub_cons (by repeat constructor) sub_nil))) (fun _ _ _ h => h) rfl ?_; clear hS a; intro a hS
  refine Z_one (i := 8) rfl (want_none a hS.sl) (listed' := [true, true, true, true, true, true, true, true, true, false]) rfl (by kernel_rfl) (s_callP hS (.cons rfl (.cons rfl .nil)) cf70 rfl (sadd_P (totOf t p.acc) p hg hp hr _) ?_); clear hS a; (try clear w); intro a w hS
  refine Z_and hS (sub_cons (by repeat constructor) (sub_cons (by repeat constructor) (sub_cons (by repeat constructor) sub_nil))) ?_
  refine Z_one (i := 9) rfl (want_none a hS.sl) (listed' := [true, true, true, true, true, true, true, true, true, true]) rfl (by kernel_rfl) (s_mapUp hS rfl rfl rfl ty_mp127 ty_u9 (by repeat constructor) ?_); clear hS; (try clear w); intro w hS
  refine Z_last (by simp) ?_
  refine Z_done (by kernel_rfl) ?_
  refine r_norm ?_
  refine c_retN hS Try.results77 .nil rfl ?_
  rw [putT_set] at hS
  exact ⟨(), rfl, hS.chg, triZ_ok (hS.get (X := .blk bx [.map (some m)] 127) (by repeat constructor)) (hS.get (X := smapA m (entSm (triStep t p))) (by repeat constructor)), fun b hb => .inl hb⟩
theorem tri_fold (l : List Pst) : ∀ (t : List (ByteArray × SM)) (n : Nat), (∀ p ∈ l, p.fits) → bdT t n → bdT (l.foldl triStep t) (n + l.length) := by
  induction l with
  | nil => intro t n _ h; exact h
  | cons p r ih =>
    intro t n hf h
    have h2 := ih (triStep t p) (n + 1) (fun q hq => hf q (.tail _ hq)) (bdT_put h (hf p (.head _)))
    rw [List.foldl_cons, List.length_cons, show n + (r.length + 1) = n + 1 + r.length by omega]; exact h2
theorem tri_sum (code : ByteArray) (l : List Pst) : ∀ (t : List (ByteArray × SM)), totOf (l.foldl triStep t) code = l.foldl (balStep code) (totOf t code) := by
  induction l with
  | nil => intro t; rfl
  | cons p r ih =>
    intro t
    rw [List.foldl_cons, List.foldl_cons, ih]
    congr 1
    unfold triStep balStep
    rw [totOf_put]
    by_cases e : p.acc = code
    · rw [if_pos e, if_pos e, e]
    · rw [if_neg e, if_neg e]
def triT (P : PL) (at_ : Int) : List (ByteArray × SM) := if inst at_ then (postsAt P.es at_).foldl triStep [] else []
def triB (P : PL) (at_ : Int) (a : Acc) : BL := (a.code, balV (totOf (triT P at_) a.code))
/-- what stands in all accounts at an instant. -/
def trialF (P : PL) (at_ : Int) : List BL := (accsL P.acs).map (triB P at_)
theorem tri_bd {P : PL} (h : fitL P) (at_ : Int) : bdT (triT P at_) 5000000 := by
  unfold triT
  split
  · have h1 := tri_fold (postsAt P.es at_) [] 0 (posts_fit h at_) (fun e he => (by cases he))
    have h2 := posts_len P.es at_ h.ps
    have h3 := h.few
    intro e he
    have h4 := h1 e he
    omega
  · intro e he; cases he
set_option maxHeartbeats 1000000 in
set_option maxRecDepth 100000 in
theorem lTrial_P (B : LB) (s : LS) (at_ : Int) (hacs : s.acs.length ≤ 1000) (hfl : fitL (pl s)) (w0 : World) (h : ledφ B s w0) :
     NewC Try.prog 35 [.pointer (some ⟨B.lb, 0, none⟩), .int .i64 at_] w0 (fun v : Value => v) (fun v => ownA 60 3 v (trialF (pl s) at_).length ((trialF (pl s) at_).flatMap encBl)) := by
   have hes : s.es.length ≤ 100000 := by have := hfl.few; simpa [pl] using this
   have hps : ∀ x ∈ s.es, x.v.ps.length ≤ 50 := fun x hx => hfl.ps x.v (by unfold pl; exact List.mem_map.2 ⟨x, hx, rfl⟩)
   have htb := tri_bd hfl at_
   have hal := accs_len s.acs
   refine c_enter [(0, .pointer (some ⟨B.lb, 0, none⟩)), (1, .int .i64 at_)] [ledA B s false] noB Try.func35 rfl Try.ntmps35 ⟨rfl, rfl, trivial⟩ rfl (okC (led_ok false h) okN) dis1 (mineC (by rfl) mineN) ?_
   intro a hS
   refine c_seq ?_
   refine c_region ?_
   refine L_op (s_e hS (e_assign rfl) rfl ?_); clear hS a; intro a hS
   refine L_nil ?_
   refine n_then ?_
   refine c_seq ?_
   refine c_region ?_
   refine L_op (s_makeMapS hS rfl ?_); clear hS a; (try clear w); intro a w b11 hS
   refine L_op (s_alloc hS ty_z127 rfl ?_); clear hS a; (try clear w); intro a w b5 hS
   refine L_op (s_store hS rfl rfl rfl ty_sz127 (by repeat constructor) (by repeat constructor) ?_); clear hS; (try clear w); intro w hS
   refine L_nil ?_
   refine n_then ?_
   refine c_cut (fun a w => St 41 noB w0 a w [(5, .pointer (some ⟨b5, 0, none⟩)), (0, .pointer (some ⟨B.lb, 0, none⟩))] [triZ b5 b11 (triT (pl s) at_), ledA B s false]) ?_ ?_
   ·
     refine c_seq ?_
     have hne : b5 ≠ b11 := fun e => hS.sep (X := .blk b5 [.map (some b11)] 127) (Y := smapA b11 []) (by repeat (first | exact Rem.head | apply Rem.tail)) (by repeat constructor) b5 rfl e
     replace hS := hS.join (Y := smapA b11 []) (Z := triZ b5 b11 []) (by repeat constructor) (triZ_ok (hS.get (X := .blk b5 [.map (some b11)] 127) (by repeat constructor)) (hS.get (X := smapA b11 []) (by repeat constructor))) (fun b hb => hb) (fun _ => ⟨rfl, rfl⟩)
     refine c_region ?_
     refine L_op (s_e hS (e_move rfl) rfl ?_); clear hS a; intro a hS
     refine L_op (s_callP hS (.cons rfl .nil) cf67 rfl (linst_P at_ _) ?_); clear hS a; (try clear w); intro a w hS
     refine L_nil ?_
     refine n_then ?_
     first | refine c_ifD hS rfl (fun hc13 => ?_) (fun hc13 => ?_) | refine c_if hS rfl (fun hc13 => ?_) (fun hc13 => ?_)
     ·
       refine c_region ?_
       refine L_op (s_e hS (e_move rfl) rfl ?_); clear hS a; intro a hS
       refine L_op (s_e hS (e_move rfl) rfl ?_); clear hS a; intro a hS
       refine L_op (s_e hS (e_makeFunc .nil (.cons rfl .nil)) rfl ?_); clear hS a; intro a hS
       refine L_op (s_callM hS (.cons rfl (.cons rfl (.cons rfl .nil))) cf68 rfl (leach_P B s at_ 77 [.pointer (some ⟨b5, 0, none⟩)] (triZ b5 b11) (fun _ => rfl) triStep [] cf77 (by omega) (fun x hx => by have := hps x hx; omega) (fun pre p post hsp w hok => by
 have hm : p ∈ postsAt (pl s).es at_ := by rw [hsp]; simp
 have hpf := posts_fit hfl at_ p hm
 have hpre : ∀ q ∈ pre, q.fits := fun q hq => posts_fit hfl at_ q (by rw [hsp]; simp [hq])
 have hb := bdT_of (tri_fold pre [] 0 hpre (fun e he => (by cases he))) p.acc
 have hl := posts_len (pl s).es at_ hfl.ps
 have hfw := hfl.few
 rw [hsp, List.length_append, List.length_cons] at hl
 have hu := hpf.u
 have hff := hpf.f
 have e : (pre ++ [p]).foldl triStep [] = triStep (pre.foldl triStep []) p := by rw [List.foldl_append]; rfl
 rw [e]
 exact lTrial1_P b5 b11 _ p (by unfold fitS Wd.fit; omega) hpf (by unfold fitS addS Wd.fit; simp only; omega) hne w hok) _ (hS.get (X := ledA B s false) (by repeat constructor)) (hS.ok (triZ b5 b11 []) (by repeat constructor)) (fun b hb hl => hS.sep (X := triZ b5 b11 []) (Y := ledA B s false) (by repeat (first | exact Rem.head | apply Rem.tail)) (by repeat constructor) b hb hl)) (fun x => (by repeat constructor)) rfl ?_); clear hS a; (try clear w); intro x17 a w hS
       refine L_nil ?_
       first
       | (rw [show triT (pl s) at_ = (postsAt (pl s).es at_).foldl triStep [] from if_pos hc13]; exact (hS.slots (by repeat (first | exact trivial | refine ⟨rfl, ?_⟩))).pick (by repeat (first | exact Pick.nil | (refine Pick.cons (by repeat (first | exact Rem.head | apply Rem.tail)) ?_))))
       | (rw [show triT (pl s) at_ = [] from if_neg hc13]; exact (hS.slots (by repeat (first | exact trivial | refine ⟨rfl, ?_⟩))).pick (by repeat (first | exact Pick.nil | (refine Pick.cons (by repeat (first | exact Rem.head | apply Rem.tail)) ?_))))
     ·
       refine wp_skip ?_
       first
       | (rw [show triT (pl s) at_ = (postsAt (pl s).es at_).foldl triStep [] from if_pos hc13]; exact (hS.slots (by repeat (first | exact trivial | refine ⟨rfl, ?_⟩))).pick (by repeat (first | exact Pick.nil | (refine Pick.cons (by repeat (first | exact Rem.head | apply Rem.tail)) ?_))))
       | (rw [show triT (pl s) at_ = [] from if_neg hc13]; exact (hS.slots (by repeat (first | exact trivial | refine ⟨rfl, ?_⟩))).pick (by repeat (first | exact Pick.nil | (refine Pick.cons (by repeat (first | exact Rem.head | apply Rem.tail)) ?_))))
   ·
     clear hS a; (try clear w); intro a w hS
     skip
     refine c_seq ?_
     refine c_region ?_
     refine L_op (s_e hS (e_assign rfl) rfl ?_); clear hS a; intro a hS
     refine L_nil ?_
     refine n_then ?_
     refine c_seq ?_
     refine c_seq ?_
     refine c_region ?_
     refine L_op (s_e hS (e_move rfl) rfl ?_); clear hS a; intro a hS
     refine L_op (s_callN hS (.cons rfl .nil) cf30 rfl (lAccs_P B s hacs _ (hS.get (X := ledA B s false) (by repeat constructor))) ?_); clear hS a; (try clear w); intro x19 a w hS
     obtain ⟨q19, c19, rfl⟩ := own_slice (hS.get (X := ownA 68 4 x19 (accsL s.acs).length ((accsL s.acs).flatMap encAc)) (by repeat constructor))
     have hsh : (accsL s.acs).length = 0 ∨ ∃ g, q19 = some ⟨g, 0, none⟩ := by
       have h0 : World.ownsRow w 0 68 4 (.slice q19 (accsL s.acs).length c19) (accsL s.acs).length ((accsL s.acs).flatMap encAc) := hS.get (X := ownA 68 4 (.slice q19 (accsL s.acs).length c19) (accsL s.acs).length ((accsL s.acs).flatMap encAc)) (by repeat constructor)
       rcases h0.2 with ⟨e1, e2⟩ | ⟨g, cap, cur, e1, _⟩
       · exact .inl e2
       · injection e1 with e3; exact .inr ⟨g, e3⟩
     refine L_op (s_e hS (e_len rfl rfl ty_sl65) rfl ?_); clear hS a; intro a hS
     refine L_op (s_e hS (e_move rfl) rfl ?_); clear hS a; intro a hS
     refine L_nil ?_
     refine n_then ?_
     refine wp_block ?_
     replace hS := hS.own_nil 60 3
     refine c_loop (γ := Nat × Value) (fun G a w => St 41 noB w0 a w [(21, .int .i64 (G.1 : Int)), (20, .int .i64 ((accsL s.acs).length : Int)), (19, .slice q19 (accsL s.acs).length c19), (6, G.2), (5, .pointer (some ⟨b5, 0, none⟩))] [ownA 60 3 G.2 (((accsL s.acs).take G.1).map (triB (pl s) at_)).length ((((accsL s.acs).take G.1).map (triB (pl s) at_)).flatMap encBl), ownA 68 4 (.slice q19 (accsL s.acs).length c19) (accsL s.acs).length ((accsL s.acs).flatMap encAc), triZ b5 b11 (triT (pl s) at_)] ∧ G.1 ≤ (accsL s.acs).length) (fun G => (accsL s.acs).length - G.1) (0, .slice none 0 0) ⟨(hS.slots (by repeat (first | exact trivial | refine ⟨rfl, ?_⟩))).pick (by repeat (first | exact Pick.nil | (refine Pick.cons (by repeat (first | exact Rem.head | apply Rem.tail)) ?_))), Nat.zero_le _⟩ ?_
     clear hS a; (try clear w); intro G a w hI
     obtain ⟨i, out⟩ := G
     obtain ⟨hS, hi⟩ := hI
     simp only at hS hi
     refine c_seq ?_
     refine c_region ?_
     refine L_op (s_e hS (e_bin rfl rfl rfl) rfl ?_); clear hS a; intro a hS
     refine L_nil ?_
     refine n_then ?_
     refine c_seq ?_
     first | refine c_ifD hS rfl (fun hc22 => ?_) (fun hc22 => ?_) | refine c_if hS rfl (fun hc22 => ?_) (fun hc22 => ?_)
     ·
       have hik : i < (accsL s.acs).length := by omega
       obtain ⟨x, hx⟩ : ∃ x, (accsL s.acs)[i]? = some x := ⟨(accsL s.acs)[i], List.getElem?_eq_getElem hik⟩
       obtain ⟨g, rfl⟩ : ∃ g, q19 = some ⟨g, 0, none⟩ := hsh.resolve_left (by omega)
       have htk : ((accsL s.acs).take (i + 1)).map (triB (pl s) at_) = ((accsL s.acs).take i).map (triB (pl s) at_) ++ [triB (pl s) at_ x] := by rw [List.take_add_one, hx]; simp
       have hml : (((accsL s.acs).take i).map (triB (pl s) at_)).length = i := by rw [List.length_map, List.length_take]; omega
       have hb1 := bdT_of htb x.code
       have ft : fitS (totOf (triT (pl s) at_) x.code) := by unfold fitS Wd.fit; omega
       refine wp_skip ?_
       refine n_then ?_
       refine c_seq ?_
       refine wp_block ?_
       refine c_seq ?_
       refine c_region ?_
       refine L_op (s_e hS (e_ixN rfl rfl ty_sl65 ty_sz68 (by omega)) rfl ?_); clear hS a; intro a hS
       refine L_op (s_e hS (e_loadAC (l := encAc x) rfl ty_st68 ty_sz68 (own_getL (enc := encAc) (s := 4) (fun _ => rfl) (by repeat constructor) hx)) rfl ?_); clear hS a; intro a hS
       refine L_op (s_alloc hS ty_z68 rfl ?_); clear hS a; (try clear w); intro a w b8 hS
       refine L_op (s_storeA hS rfl rfl ty_sz68 (by repeat constructor) (by rfl) (by rfl) (by rfl) ?_); clear hS; (try clear w); intro w hS
       refine L_nil ?_
       refine n_then ?_
       refine c_seq ?_
       refine c_region ?_
       refine L_op (s_e hS (e_loadC rfl ty_sc127 (fun w hh => cell_of_blk (cs := [.map (some b11)]) (hh (triZ b5 b11 (triT (pl s) at_)) (by repeat constructor)).1 rfl)) rfl ?_); clear hS a; intro a hS
       first | (refine L_op (s_e hS (e_fa0 rfl ty_fo68_0) rfl ?_); clear hS a; intro a hS) | (refine L_op (s_e hS (e_faK rfl ty_fo68_0) rfl ?_); clear hS a; intro a hS)
       refine L_op (s_e hS (e_load rfl (by repeat constructor) ty_sc9 (by rfl)) rfl ?_); clear hS a; intro a hS
       refine L_op (s_e hS (e_lookupC rfl rfl ty_mp127 ty_u9 ty_zv136 (fun w hh => (hh (triZ b5 b11 (triT (pl s) at_)) (by repeat constructor)).2)) rfl ?_); clear hS a; intro a hS
       rw [lk_tot] at hS
       first | (refine L_op (s_e hS (e_fa0 rfl ty_fo68_0) rfl ?_); clear hS a; intro a hS) | (refine L_op (s_e hS (e_faK rfl ty_fo68_0) rfl ?_); clear hS a; intro a hS)
       refine L_op (s_e hS (e_load rfl (by repeat constructor) ty_sc9 (by rfl)) rfl ?_); clear hS a; intro a hS
       refine L_op (s_callP hS (.cons rfl (.cons rfl .nil)) cf71 rfl (sbal_P (totOf (triT (pl s) at_) x.code) x.code ft _) ?_); clear hS a; (try clear w); intro a w hS
       refine L_op (s_e hS (e_move rfl) rfl ?_); clear hS a; intro a hS
       refine L_op (s_e hS (e_extract rfl rfl) rfl ?_); clear hS a; intro a hS
       refine L_op (s_e hS (e_extract rfl rfl) rfl ?_); clear hS a; intro a hS
       refine L_op (s_alloc hS ty_z60 rfl ?_); clear hS a; (try clear w); intro a w b9 hS
       refine L_op (s_storeA hS rfl rfl ty_sz60 (by repeat constructor) (by rfl) (by rfl) (by rfl) ?_); clear hS; (try clear w); intro w hS
       refine L_op (s_e hS (e_assign rfl) rfl ?_); clear hS a; intro a hS
       refine L_nil ?_
       refine n_then ?_
       refine c_region ?_
       refine L_op (s_e hS (e_move rfl) rfl ?_); clear hS a; intro a hS
       refine L_op (s_e hS (e_loadA rfl (by repeat constructor) ty_st60 ty_sz60 (by rfl)) rfl ?_); clear hS a; intro a hS
       refine L_op (s_bslice hS ty_sl76 ty_sz60 ty_z60 rfl rfl rfl rfl (.agg rfl rfl .nil) rfl ?_); clear hS a; (try clear w); intro a w b37 hS
       refine L_op (s_append1 hS rfl rfl ty_sl76 ty_sz60 ty_by60 ty_z60 rfl rfl rfl (by repeat constructor) (by repeat constructor) (by rfl) (by rfl) (fun _ => (by repeat constructor)) (by omega) ?_); clear hS a; (try clear w); intro v38 a w hv38 hS
       refine L_op (s_e hS (e_assign rfl) rfl ?_); clear hS a; intro a hS
       refine L_nil ?_
       refine n_block ?_
       refine n_then ?_
       refine c_region ?_
       first | (refine L_op (s_e hS (e_binN rfl rfl rfl (by omega)) rfl ?_); clear hS a; intro a hS) | (refine L_op (s_e hS (e_bin rfl rfl rfl) rfl ?_); clear hS a; intro a hS)
       refine L_op (s_e hS (e_move rfl) rfl ?_); clear hS a; intro a hS
       refine L_nil ?_
       have e1 : (((accsL s.acs).take (i + 1)).map (triB (pl s) at_)).length = (((accsL s.acs).take i).map (triB (pl s) at_)).length + 1 := by rw [htk]; simp
       have e2 : (((accsL s.acs).take (i + 1)).map (triB (pl s) at_)).flatMap encBl = (((accsL s.acs).take i).map (triB (pl s) at_)).flatMap encBl ++ encBl (triB (pl s) at_ x) := by rw [htk, List.flatMap_append]; simp
       refine ⟨(i + 1, v38), by simp only; omega, ?_, by simp only; omega⟩
       simp only
       rw [e1, e2]
       exact (hS.slots (by repeat (first | exact trivial | refine ⟨rfl, ?_⟩))).pick (by repeat (first | exact Pick.nil | (refine Pick.cons (by repeat (first | exact Rem.head | apply Rem.tail)) ?_)))
     ·
       obtain rfl : i = (accsL s.acs).length := by omega
       have hall : ((accsL s.acs).take (accsL s.acs).length).map (triB (pl s) at_) = trialF (pl s) at_ := by rw [List.take_length]; rfl
       rw [hall] at hS
       refine wp_exit ?_
       refine x_then (x_then (x_hit ?_))
       refine n_then ?_
       refine c_seq ?_
       refine c_region ?_
       refine L_op (s_e hS (e_move rfl) rfl ?_); clear hS a; intro a hS
       refine L_op (s_e hS (e_assign rfl) rfl ?_); clear hS a; intro a hS
       refine L_nil ?_
       refine n_then ?_
       refine wp_ret ?_
       refine c_ret1 hS Try.results35 (.tmp rfl) ?_
       exact ⟨out, rfl, hS.chg, hS.new (X := ownA 60 3 out (trialF (pl s) at_).length ((trialF (pl s) at_).flatMap encBl)) (by repeat constructor) rfl⟩
end Go.Proofs.Ytheofhegdjjfgaa
