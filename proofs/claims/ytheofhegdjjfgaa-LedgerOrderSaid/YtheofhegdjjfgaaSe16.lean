/- Ranges over functions, where the iterator and the rounds lay blocks of their own. -/
import Derived.Test.YtheofhegdjjfgaaSe11
import Derived.Test.YtheofhegdjjfgaaSe15
namespace Go.Proofs.Ytheofhegdjjfgaa
open Go.RowKit

/-- what is said hangs on no block from B up to hi. -/
def AbR {β : Type} (B hi : Nat) (I : β → World → Prop) : Prop :=
  ∀ s W W', I s W → W'.os = W.os → W'.tape = W.tape → W'.output = W.output → W.heap.size ≤ W'.heap.size → (∀ k, k < W.heap.size → (k < B ∨ hi ≤ k) → W'.heap[k]? = W.heap[k]?) → I s W'
theorem AbR.alloc {β : Type} {B hi : Nat} {I : β → World → Prop} (h : AbR B hi I) {s : β} {W : World} (hs : I s W) (o : Obj) : I s (W.alloc o) :=
  h s W _ hs rfl rfl rfl (by simp) (fun k hk _ => Below.heap_alloc W o k hk)
theorem AbR.put {β : Type} {B hi : Nat} {I : β → World → Prop} (h : AbR B hi I) {s : β} {W : World} {l : Nat} (hl : B ≤ l) (hl2 : l < hi) (hs : I s W) (o : Obj) : I s (W.putObj l o) :=
  h s W _ hs rfl rfl rfl (by simp) (fun k _ hk => World.putObj_heap_other (by omega))
/-- what lay from B up to hi lies as it lay. -/
def Kp (B hi : Nat) (W W' : World) : Prop := W.heap.size ≤ W'.heap.size ∧ ∀ k, B ≤ k → k < hi → W'.heap[k]? = W.heap[k]?

/-- an iterator's contract: its own blocks lie from where it began up to hi. -/
def SeqD {α : Type} (P : Program) (gf : Nat) (lb : Array Value) (encs : α → Array Value) (S Sp : List α → Prop) (N : Nat) (K0 : World → Prop) : Prop :=
  ∀ (l : Nat) (J Jx : Nat → List α → World → Prop) (W : World), (∀ hi pre W', J hi pre W' → K0 W') → (∀ hi, W.heap.size ≤ hi → AbR W.heap.size hi (J hi)) → (∀ hi, W.heap.size ≤ hi → AbR W.heap.size hi (Jx hi)) →
    (∀ hi pre x W1, W.heap.size ≤ hi → hi ≤ W1.heap.size → J hi pre W1 → pre.length < N → YieldAt Fence.wide 0 P l (encs x) W1 fun e W' => Kp W.heap.size hi W1 W' ∧ ((e = .returned (.bool true) ∧ J hi (pre ++ [x]) W') ∨ (e = .returned (.bool false) ∧ Jx hi (pre ++ [x]) W'))) →
    (∀ hi, W.heap.size ≤ hi → J hi [] W) → CallsIn Fence.wide 0 P gf (#[.func (.yield l) #[] #[]] ++ lb) W fun e W' => (∃ v, e = .returned v) ∧ ∃ hi, W.heap.size ≤ hi ∧ ((∃ xs, S xs ∧ J hi xs W') ∨ ∃ pre, Sp pre ∧ Jx hi pre W')

/-- how a round's body may be left. -/
def postD {α : Type} (B hi : Nat) (I : List α → World → Prop) (Ix : Code → List α → World → Prop) (xs : List α) (W : World) : Exit → Act → World → Prop
  | .normal, _, W' => Kp B hi W W' ∧ I xs W'
  | .ret, _, W' => Kp B hi W W' ∧ Ix .ret xs W'
  | .exit id, _, W' => Kp B hi W W' ∧ Ix (.exit id) xs W'
  | .goto t, _, W' => Kp B hi W W' ∧ Ix (.goto t) xs W'
  | .panic _, _, _ => False
  | .outgrown, _, _ => False

theorem rangeFunc_D {P : Program} {α : Type} {g : Operand} {ps : Array Tmp} {assign body : Code} {Q : Exit → Act → World → Prop} {a : Act} {w : World}
    {gf : Nat} {lb : Array Value} (hg : a.eval g = .func (.func gf) #[] lb) (eg : CallsTo P gf) {encs : α → Array Value} {S Sp : List α → Prop} {N : Nat} {K0 : World → Prop}
    (hseq : SeqD P gf lb encs S Sp N K0) (hps : ∀ x, (encs x).size = ps.size) (I : Nat → List α → World → Prop) (Ix : Nat → Code → List α → World → Prop)
    (hI : ∀ hi, w.heap.size + 2 ≤ hi → AbR w.heap.size hi (I hi)) (hIx : ∀ hi c, w.heap.size + 2 ≤ hi → AbR w.heap.size hi (Ix hi c)) (hK : ∀ hi pre W', I hi pre W' → K0 W') (h0 : ∀ hi, w.heap.size + 2 ≤ hi → I hi [] w)
    (hround : ∀ (hi l : Nat) (pre : List α) (x : α) (W : World), w.heap.size + 2 ≤ hi → hi ≤ W.heap.size → I hi pre W → pre.length < N →
      assign.wpIn (Fence.wide.inRound l) 0 P (Exit.then (fun a1 W1 => Kp w.heap.size hi W W1 ∧ ∀ W2, Turn (w.heap.size + 1) W1 W2 → body.wpIn (Fence.wide.inRound l) 0 P (postD w.heap.size hi (I hi) (Ix hi) (pre ++ [x]) W2) a1 W2) (fun _ _ _ => False))
        { tmps := (ps.zip (encs x)).foldl (fun t (p, v) => t.setIfInBounds p v) a.tmps, defers := [] } W)
    (hdone : ∀ (hi D : Nat) (xs : List α) (W : World), w.heap.size + 2 ≤ hi → w.heap.size ≤ D → D < hi → S xs → I hi xs W → W.heap[D]? = some (.deferred (some [])) → Q .normal { a with defers := { target := .collected D, args := #[] } :: a.defers } W)
    (hstop : ∀ (hi D : Nat) (c : Code) (pre : List α) (W : World), w.heap.size + 2 ≤ hi → w.heap.size ≤ D → D < hi → Sp pre → Ix hi c pre W → W.heap[D]? = some (.deferred (some [])) → c.wpIn Fence.wide 0 P Q { a with defers := { target := .collected D, args := #[] } :: a.defers } W) :
    (Code.rangeFunc g ps assign body).wpIn Fence.wide 0 P Q a w := by
  refine wpIn_rangeFunc fun fn hfn => ?_
  obtain ⟨rec, hrec⟩ : ∃ rec : LoopState → Option Code → Loop, rec = fun st pe => { state := st, pending := pe, fn, tmps := a.tmps, params := ps, assign, body, defers := w.heap.size } := ⟨_, rfl⟩
  obtain ⟨W1, hW1⟩ : ∃ W1, (w.alloc (.deferred (some []))).alloc (.loop (rec .ready none)) = W1 := ⟨_, rfl⟩
  have hs1 : W1.heap.size = w.heap.size + 2 := by rw [← hW1]; simp
  have hL : W1.heap[w.heap.size + 1]? = some (.loop (rec .ready none)) := by
    rw [← hW1]; have := World.alloc_heap_new (w.alloc (.deferred (some []))) (.loop (rec .ready none)); rwa [World.size_alloc] at this
  have hD : W1.heap[w.heap.size]? = some (.deferred (some [])) := by
    rw [← hW1]; exact (Below.heap_alloc _ _ _ (by simp)).trans (World.alloc_heap_new w _)
  have hI1 : ∀ hi, w.heap.size + 2 ≤ hi → I hi [] W1 := fun hi hh => by rw [← hW1]; exact (hI hi hh).alloc ((hI hi hh).alloc (h0 hi hh) _) _
  refine ⟨w.heap.size + 1, [{ target := .collected w.heap.size, args := #[] }], W1, { target := .fn (.func gf) lb, args := #[.func (.yield (w.heap.size + 1)) #[] #[]] }, W1, gf,
    #[.func (.yield (w.heap.size + 1)) #[] #[]] ++ lb, W1, ?_, ?_, fun _ _ => trivial, ?_, fun h => (by cases h), ?_⟩
  · rw [← hW1, hrec]; exact run_enterLoop_outer _ _ _ _ _
  · simp only [resolve, hg]
    simp [go_sem]
  · have := eg (#[.func (.yield (w.heap.size + 1)) #[] #[]] ++ lb) W1
    exact this
  have key := hseq (w.heap.size + 1) (fun hi pre W => w.heap.size + 2 ≤ W.heap.size ∧ I hi pre W ∧ W.heap[w.heap.size + 1]? = some (.loop (rec .ready none)) ∧ W.heap[w.heap.size]? = some (.deferred (some [])))
    (fun hi pre W => w.heap.size + 2 ≤ W.heap.size ∧ ∃ c, Ix hi c pre W ∧ W.heap[w.heap.size + 1]? = some (.loop (rec .done (some c))) ∧ W.heap[w.heap.size]? = some (.deferred (some []))) W1
    (fun hi pre W' h => hK hi pre W' h.2.1)
    (fun hi hh s A B h e1 e2 e3 e4 e5 => by
      have h1 := h.1
      exact ⟨Nat.le_trans h.1 e4, hI hi (by omega) s A B h.2.1 e1 e2 e3 e4 (fun k hk hk2 => e5 k hk (by omega)), (e5 _ (by omega) (by omega)).trans h.2.2.1, (e5 _ (by omega) (by omega)).trans h.2.2.2⟩)
    (fun hi hh s A B h e1 e2 e3 e4 e5 => by
      obtain ⟨hz, c, h1, h2, h3⟩ := h
      exact ⟨Nat.le_trans hz e4, c, hIx hi c (by omega) s A B h1 e1 e2 e3 e4 (fun k hk hk2 => e5 k hk (by omega)), (e5 _ (by omega) (by omega)).trans h2, (e5 _ (by omega) (by omega)).trans h3⟩)
    ?_ (fun hi hh => ⟨by omega, hI1 hi (by omega), hL, hD⟩)
  · refine key.mono ?_
    rintro e W2 ⟨⟨v, rfl⟩, hh, hhl, (⟨xs, hS, hz, hi, hl, hk⟩ | ⟨pre, hSp, hz, c, hi, hl, hk⟩)⟩
    · exact ⟨none, _, by have := run_endLoop (P := P) hl (by rw [hrec]; simp); rw [hrec] at this; exact this, hdone hh _ xs _ (by omega) (Nat.le_refl _) (by omega) hS ((hI hh (by omega)).put (by omega) (by omega) hi _) ((World.putObj_heap_other (by omega)).trans hk)⟩
    · exact ⟨some c, _, by have := run_endLoop (P := P) hl (by rw [hrec]; simp); rw [hrec] at this; exact this, hstop hh _ c pre _ (by omega) (Nat.le_refl _) (by omega) hSp ((hIx hh c (by omega)).put (by omega) (by omega) hi _) ((World.putObj_heap_other (by omega)).trans hk)⟩
  · rintro hh pre x W hhl hhW ⟨hz, hi, hl, hk⟩ hlen
    have hy := run_yield (P := P) (args := encs x) hl (by rw [hrec]; exact hps x)
    rw [hrec] at hy
    refine ⟨fn, _, assign, body, hy, roundIn_of_wpIn hfn (wpIn_mono (hround hh _ pre x W (by omega) hhW hi hlen) ?_)⟩
    rintro e a1 W1' hp1
    cases e with
    | exit _ => exact hp1.elim
    | goto _ => exact hp1.elim
    | ret => exact hp1.elim
    | panic _ => exact hp1.elim
    | outgrown => exact hp1.elim
    | normal => ?_
    obtain ⟨⟨hzz, hkeep⟩, hbody⟩ := hp1
    have hl1 := (hkeep (w.heap.size + 1) (by omega) (by omega)).trans hl
    have hk1 := (hkeep w.heap.size (Nat.le_refl _) (by omega)).trans hk
    refine ⟨_, run_beginRound hl1 (by rw [hrec]), ?_⟩
    obtain ⟨W2, hW2⟩ : ∃ W2, W1'.putObj (w.heap.size + 1) (.loop { rec .ready none with state := .busy }) = W2 := ⟨_, rfl⟩
    have hl2 : W2.heap[w.heap.size + 1]? = some (.loop { rec .ready none with state := .busy }) := by rw [← hW2]; exact putObj_at hl1
    have hk2 : W2.heap[w.heap.size]? = some (.deferred (some [])) := by rw [← hW2]; exact (World.putObj_heap_other (by omega)).trans hk1
    have hz2 : w.heap.size + 2 ≤ W2.heap.size := by rw [← hW2]; simp; omega
    rw [hW2]
    refine wpIn_mono (hbody W2 (by rw [← hW2]; exact Turn.put _ _ _)) ?_
    have fin : ∀ (jump : Option Code) (W3 : World), Kp w.heap.size hh W2 W3 → w.heap.size + 2 ≤ W3.heap.size ∧
        (Instr.endRound (w.heap.size + 1) jump).run P W3 = .ok (.bool jump.isNone) (W3.putObj (w.heap.size + 1) (.loop (rec (if jump.isNone then .ready else .done) jump))) ∧
        (W3.putObj (w.heap.size + 1) (.loop (rec (if jump.isNone then .ready else .done) jump))).heap[w.heap.size + 1]? = some (.loop (rec (if jump.isNone then .ready else .done) jump)) ∧
        (W3.putObj (w.heap.size + 1) (.loop (rec (if jump.isNone then .ready else .done) jump))).heap[w.heap.size]? = some (.deferred (some [])) ∧
        Kp W1.heap.size hh W (W3.putObj (w.heap.size + 1) (.loop (rec (if jump.isNone then .ready else .done) jump))) := fun jump W3 ⟨hsz, hk3⟩ => by
      have hl3 := (hk3 _ (by omega) (by omega)).trans hl2
      have hd3 := (hk3 _ (Nat.le_refl _) (by omega)).trans hk2
      have hr := run_endRound (P := P) jump hl3
      rw [hrec] at hr ⊢
      have hw2 : W2.heap.size = W1'.heap.size := by rw [← hW2]; simp
      refine ⟨by have := (Array.getElem?_eq_some_iff.1 hl3).1; omega, hr, putObj_at hl3, (World.putObj_heap_other (by omega)).trans hd3, by simp; omega, fun k hk1 hk2' => ?_⟩
      rw [World.putObj_heap_other (by omega), hk3 k (by omega) (by omega), ← hW2, World.putObj_heap_other (by omega)]
      exact hkeep k (by omega) hk2'
    rintro e a3 W3 hp
    cases e with
    | normal =>
      obtain ⟨hk3, hi3⟩ := hp
      obtain ⟨hz3, hr, hl4, hk4, hkp⟩ := fin none W3 hk3
      exact ⟨_, _, hr, hkp, .inl ⟨rfl, by simpa using hz3, (hI hh (by omega)).put (by omega) (by omega) hi3 _, hl4, hk4⟩⟩
    | ret =>
      obtain ⟨hk3, hi3⟩ := hp
      obtain ⟨hz3, hr, hl4, hk4, hkp⟩ := fin (some .ret) W3 hk3
      exact ⟨_, _, hr, hkp, .inr ⟨rfl, by simpa using hz3, .ret, (hIx hh _ (by omega)).put (by omega) (by omega) hi3 _, hl4, hk4⟩⟩
    | exit id =>
      obtain ⟨hk3, hi3⟩ := hp
      obtain ⟨hz3, hr, hl4, hk4, hkp⟩ := fin (some (.exit id)) W3 hk3
      exact ⟨_, _, hr, hkp, .inr ⟨rfl, by simpa using hz3, .exit id, (hIx hh _ (by omega)).put (by omega) (by omega) hi3 _, hl4, hk4⟩⟩
    | goto t =>
      obtain ⟨hk3, hi3⟩ := hp
      obtain ⟨hz3, hr, hl4, hk4, hkp⟩ := fin (some (.goto t)) W3 hk3
      exact ⟨_, _, hr, hkp, .inr ⟨rfl, by simpa using hz3, .goto t, (hIx hh _ (by omega)).put (by omega) (by omega) hi3 _, hl4, hk4⟩⟩
    | panic ch => exact hp.elim
    | outgrown => exact hp.elim
theorem rangeFunc_D2 {B : Nat} {P : Program} {α : Type} {g : Operand} {ps : Array Tmp} {assign body : Code} {Q : Exit → Act → World → Prop} {a : Act} {w : World} (hB : w.heap.size = B)
    {gf : Nat} {lb : Array Value} (hg : a.eval g = .func (.func gf) #[] lb) (eg : CallsTo P gf) {encs : α → Array Value} {S Sp : List α → Prop} {N : Nat} {K0 : World → Prop}
    (hseq : SeqD P gf lb encs S Sp N K0) (hps : ∀ x, (encs x).size = ps.size) (I : Nat → List α → World → Prop) (Ix : Nat → Code → List α → World → Prop)
    (hI : ∀ hi, B + 2 ≤ hi → AbR B hi (I hi)) (hIx : ∀ hi c, B + 2 ≤ hi → AbR B hi (Ix hi c)) (hK : ∀ hi pre W', I hi pre W' → K0 W') (h0 : ∀ hi, B + 2 ≤ hi → I hi [] w)
    (hround : ∀ (hi l : Nat) (pre : List α) (x : α) (W : World), B + 2 ≤ hi → hi ≤ W.heap.size → I hi pre W → pre.length < N →
      assign.wpIn (Fence.wide.inRound l) 0 P (Exit.then (fun a1 W1 => Kp B hi W W1 ∧ ∀ W2, Turn (B + 1) W1 W2 → body.wpIn (Fence.wide.inRound l) 0 P (postD B hi (I hi) (Ix hi) (pre ++ [x]) W2) a1 W2) (fun _ _ _ => False))
        { tmps := (ps.zip (encs x)).foldl (fun t (p, v) => t.setIfInBounds p v) a.tmps, defers := [] } W)
    (hdone : ∀ (hi D : Nat) (xs : List α) (W : World), B + 2 ≤ hi → B ≤ D → D < hi → S xs → I hi xs W → W.heap[D]? = some (.deferred (some [])) → Q .normal { a with defers := { target := .collected D, args := #[] } :: a.defers } W)
    (hstop : ∀ (hi D : Nat) (c : Code) (pre : List α) (W : World), B + 2 ≤ hi → B ≤ D → D < hi → Sp pre → Ix hi c pre W → W.heap[D]? = some (.deferred (some [])) → c.wpIn Fence.wide 0 P Q { a with defers := { target := .collected D, args := #[] } :: a.defers } W) :
    (Code.rangeFunc g ps assign body).wpIn Fence.wide 0 P Q a w := by
  subst hB
  exact rangeFunc_D hg eg hseq hps I Ix hI hIx hK h0 hround hdone hstop
section
variable {P : Program} {n : Nat} {F0 : Nat → Prop} {w0 : World} {a : Act} {w : World} {L : List (Nat × Value)} {Γ : List Asn}
variable {K : Act → World → Prop} {Q : Exit → Act → World → Prop} {d ty : Nat} {pos : String} {af : Array Edge} {g : Option (Nat × Bool)}
/-- what an operation yields does not hang on the deferred calls. -/
theorem s_eD {op : Op} {v : Value} {ds : List Deferred} (hS : St n F0 w0 a w L Γ) (he : Ex P n a L Γ ⟨some d, op, ty, pos, af, g⟩ v) (hn : Nat.blt d n = true)
    (h : ∀ a', St n F0 w0 a' w ((d, v) :: L) Γ → K { a' with defers := ds } w) : OW P ⟨some d, op, ty, pos, af, g⟩ { a with defers := ds } w K Q := by
  refine ⟨?_⟩
  unfold Oper.wp
  have e : (execOp (Act.eval { a with defers := ds }) ⟨some d, op, ty, pos, af, g⟩) = execOp a.eval ⟨some d, op, ty, pos, af, g⟩ := rfl
  rw [e, he hS.sl w hS.hd]
  show K (Act.put { a with defers := ds } (some d) v) w
  rw [put_defers]
  exact h _ (hS.put hn v)
theorem end1 {fn : Func} {R : Ending → World → Prop} {D : Nat} {e : Exit} {rs : List ResultVar} {v : Value} (hS : St n F0 w0 a (w.putObj D (.deferred none)) L Γ) (he : e = .ret ∨ e = .normal) (hD : w.heap[D]? = some (.deferred (some [])))
    (hr : fn.results = rs.toArray) (hv : ResL P L Γ rs [v]) (h : R (.returned v) (w.putObj D (.deferred none))) :
    bodyPostM Fence.wide 0 P fn R e { a with defers := [{ target := .collected D, args := #[] }] } w := by
  refine endM he rfl hD ?_ h
  have h1 := ResL.run hS hv
  show (results fn a.tmps).run P _ = _
  rw [results_rvS, hr, List.mapM_toArray, Sem.run_bind, Sem.run_map, h1]
  simp [Result.andThen_ok]
end
end Go.Proofs.Ytheofhegdjjfgaa
