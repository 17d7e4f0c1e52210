/- FrontRequests: for every argument the law returns true, and each argument reads afterwards as it read before. No conditions. (text 2 of 6) -/
import Derived.Test.YtlccmgeclhdegaaGreatDoorLFqC1
import Derived.OrdersIn
import Derived.Laws.BytesArg
import Derived.Lib.SlBytesConst
import Derived.Test.YtlccmgeclhdegaaGreatDoorShelf
import Derived.Lib.IndexLaws
import Derived.Shelf.Lays7
import Derived.Ground.Names7Prog
import Derived.Shelf.Spec.DecodeRune
import Derived.Test.YtlccmgeclhdegaaGreatDoorProg
import Derived.Sort.OwnSorted
import Derived.Sort.KeysCollected
import Derived.Recover
import Derived.WideLaws
set_option maxRecDepth 100000
set_option maxHeartbeats 16000000
namespace Go.Proofs.YtlccmgeclhdegaaGreatDoor
open Go.RowKit
section
def FW (r : Option Nat) : Fence := { Fence.wide with round := r }
section
variable {P : Program} {n : NN} {F0 : Nat → Prop} {w0 : World} {a : Act} {w : World} {L : List (Nat × Value)} {Γ : List AT} {r : Option Nat} {N : Nat}
variable {K : Act → World → Prop} {Q : Exit → Act → World → Prop} {d ty : Nat} {dst : Option Tmp} {pos : String} {af : Array Edge} {g : Option (Nat × Bool)} {op : Op} {rest l : List Oper}
theorem WH {o : Oper} (hd : ∀ c, o.op ≠ .defer c) (h : o.wp P a w K Q) : o.wpIn (FW r) N P a w K Q := by
 refine ⟨fun _ _ => trivial, ?_⟩
 rw [Oper.semAt_eq _ _ _ hd]
 unfold Oper.wp at h
 generalize (execOp a.eval o).run P w = res at h
 cases res with
 | ok nx w' =>
   cases nx with
   | value v => exact h
   | skip => exact h
   | defer d => exact h
   | enter f args => exact ⟨fun hh => (by cases hh), CallsIn.mono (F := Fence.wide) (callsIn_wide.2 h) (fun e w2 hr => by cases e <;> exact hr)⟩
   | row nm args => exact ⟨fun hh => (by cases hh), fun c cs _ => let ⟨v, w2, hr, s⟩ := h c cs; ⟨v, w2, hr, stepsIn_wide.2 s⟩⟩
   | _ => exact h.elim
 | halt s w' => cases s <;> first | exact h | exact h.elim
def MW : Op → Bool
 | .defer _ => false
 | _ => true
theorem MX {o : Op} (h : MW o = true) : ∀ c, o ≠ .defer c := fun c e => by subst e; cases h
theorem GD {ops : Array Oper} (h : Q .normal a w) : wpListIn (FW r) N P ops Q [] a w := h
theorem EL {ops : Array Oper} (hd : MW op = true) (h : OW P ⟨dst, op, ty, pos, af, none⟩ a w (wpListIn (FW r) N P ops Q rest) Q) : wpListIn (FW r) N P ops Q (⟨dst, op, ty, pos, af, none⟩ :: rest) a w := by
 unfold wpListIn
 rw [if_pos (by simp [Region.wanted])]
 exact WH (MX hd) h.h
theorem WI {ops : Array Oper} {x : Operand} {xs : List Operand} {vs : List Value} {ts : Array TypeId} {y : Nat} {R : Ending → World → Prop} (hS : St n F0 w0 a w L Γ) (hx : ev L x = some (.func (.yield y) #[] #[])) (hxs : FR L xs vs)
 (hy : YieldAt Fence.wide 0 P y vs.toArray w R) (h : ∀ e w', R e w' → ∃ v, e = .returned v ∧ wpListIn (FW none) 0 P ops Q rest (a.put dst v) w') :
 wpListIn (FW none) 0 P ops Q (⟨dst, .call ⟨.value x, xs.toArray, ts⟩, ty, pos, af, none⟩ :: rest) a w := by
 unfold wpListIn
 rw [if_pos (by simp [Region.wanted])]
 obtain ⟨fn, tmps, assign, body, hrun, hround⟩ := hy
 refine ⟨fun _ _ => trivial, ?_⟩
 have he : (execOp a.eval (⟨dst, .call ⟨.value x, xs.toArray, ts⟩, ty, pos, af, none⟩ : Oper)).run P w = .ok (.round y fn tmps assign body) w := by
  have h1 := hS.sl.evs hxs
  have hr : (resolve a.eval ⟨.value x, xs.toArray, ts⟩ ty).run P w = .ok ⟨.fn (.yield y) #[], #[] ++ vs.toArray⟩ w := by
   simp only [resolve, hS.sl.ev hx, h1, Deferred.ofValue]; rfl
  show ((resolve a.eval ⟨.value x, xs.toArray, ts⟩ ty) >>= fun d => invoke d.target d.args).run P w = _
  rw [Sem.run_bind, hr]
  show (invoke (.fn (.yield y) #[]) (#[] ++ vs.toArray)).run P w = _
  have e1 : (#[] ++ vs.toArray : Array Value) = vs.toArray := by simp
  rw [e1]
  simpa [invoke] using hrun
 rw [Oper.semAt_eq _ _ _ (fun c e => by cases e), he]
 refine ⟨fun hh => (by cases hh), hround.mono fun e w' hR => ?_⟩
 obtain ⟨v, rfl, hK⟩ := h e w' hR
 exact hK
theorem C8 {id : Nat} {l : List Oper} (h : wpListIn (FW r) N P l.toArray Q l a w) : (Code.region id l.toArray false).wpIn (FW r) N P Q a w := wpIn_region_lit h
theorem GE {x y : Code} (h : x.wpIn (FW r) N P (Exit.then (y.wpIn (FW r) N P Q) Q) a w) : (Code.seq x y).wpIn (FW r) N P Q a w := wpIn_seq h
theorem TL (h : Q .normal a w) : Code.skip.wpIn (FW r) N P Q a w := wpIn_skip h
theorem IQ {id : Nat} {c : Code} (h : c.wpIn (FW r) N P (Exit.inBlock id Q) a w) : (Code.block id c).wpIn (FW r) N P Q a w := wpIn_block h
theorem Yi (h : Q .ret a w) : Code.ret.wpIn (FW r) N P Q a w := wpIn_ret h
theorem aJ {id : Nat} (h : Q (.exit id) a w) : (Code.exit id).wpIn (FW r) N P Q a w := wpIn_exit h
theorem jL {c : Operand} {x y : Code} {b : Bool} (hS : St n F0 w0 a w L Γ) (hc : ev L c = some (.bool b)) (h1 : b = true → x.wpIn (FW r) N P Q a w) (h2 : b = false → y.wpIn (FW r) N P Q a w) : (Code.cond c x y).wpIn (FW r) N P Q a w :=
 wpIn_cond_split (hS.sl.ev hc) h1 h2
theorem Yj {c : Operand} {x y : Code} {p : Prop} [hp : Decidable p] (hS : St n F0 w0 a w L Γ) (hc : ev L c = some (.bool (decide p))) (h1 : p → x.wpIn (FW r) N P Q a w) (h2 : ¬ p → y.wpIn (FW r) N P Q a w) : (Code.cond c x y).wpIn (FW r) N P Q a w :=
 wpIn_cond_split (hS.sl.ev hc) (fun h => h1 (of_decide_eq_true h)) (fun h => h2 (of_decide_eq_false h))
theorem aK {γ : Type} {c : Code} (I : γ → Act → World → Prop) (μ : γ → Nat) (g0 : γ) (h0 : I g0 a w)
 (round : ∀ g a w, I g a w → c.wpIn (FW r) N P (Exit.then (fun a' w' => ∃ g', μ g' < μ g ∧ I g' a' w') Q) a w) : (Code.loop c).wpIn (FW r) N P Q a w := by
 intro b k cs hro hb hr
 have key : ∀ m g a w, μ g = m → I g a w → ∃ e a' w', Q e a' w' ∧ ArrivesIn (Machine.fenced P (FW r)) P (lone (b.atR a (.code c :: .inLoop c :: k)) cs w) b k cs e a' w' := by
  intro m
  induction m using Nat.strongRecOn with
  | _ m ih =>
    intro g a w hm hI
    obtain ⟨e, a1, w1, hq, harr⟩ := round g a w hI b (.inLoop c :: k) cs hro hb hr
    cases e with
    | normal =>
      obtain ⟨g', hlt, hI'⟩ := hq
      obtain ⟨e2, a2, w2, hq2, harr2⟩ := ih (μ g') (hm ▸ hlt) g' a1 w1 rfl hI'
      exact ⟨e2, a2, w2, hq2, .of_steps (StepsIn.trans harr (.one (fenced_calm hb hr rfl) stepR_inLoop)) harr2⟩
    | exit id => exact ⟨_, a1, w1, hq, .pass (x := .inLoop c) rfl (fun _ _ => .inl (by simp)) harr⟩
    | goto l => exact ⟨_, a1, w1, hq, .pass (x := .inLoop c) rfl (fun _ _ => .inl (by simp)) harr⟩
    | ret => exact ⟨_, a1, w1, hq, .pass (x := .inLoop c) rfl (fun _ _ => .inl (by simp)) harr⟩
    | panic ch => exact ⟨_, a1, w1, hq, .pass (x := .inLoop c) rfl (fun _ _ => .inl (by simp)) harr⟩
    | outgrown => exact ⟨_, a1, w1, hq, .pass (x := .inLoop c) rfl (fun _ _ => .inl (by simp)) harr⟩
 obtain ⟨e, a', w', hq, harr⟩ := key _ g0 a w rfl h0
 exact ⟨e, a', w', hq, .of_steps (.one (fenced_calm hb hr rfl) stepR_loop) harr⟩
theorem LI {f : FuncId} {fn : Func} {c : Code} {args : List Value} {R : Ending → World → Prop} {m : Nat} (L : List (Nat × Value)) (Γ : List AT) (F0 : Nat → Prop) (hf : P.funcs[f]? = some fn) (hb : fn.body = some c) (hm : fn.ntmps = m)
 (hA : MC args L) (hn : Nat.ble args.length m = true) (ok : ∀ X ∈ Γ, X.ok w) (dis : Γ.Pairwise (fun X Y => ∀ b, X.F b → ¬ Y.F b)) (mine : ∀ X ∈ Γ, X.mine = true → ∀ b, X.F b → w.heap.size ≤ b ∨ F0 b)
 (h : ∀ a, St ⟨m, []⟩ F0 w a w L Γ → c.wpIn (FW none) 0 P (bodyPostM Fence.wide 0 P fn R) a w) : Calls P f args.toArray w R := by
 refine callsIn_wide.1 (callsIn_of_wp_marks (n := 0) hf hb trivial (h _ ⟨?_, Bd.refl _ _, ok, dis, mine⟩))
 have hle : args.length ≤ m := Nat.le_of_ble_eq_true hn
 have := Sl.start (l := args) (L := L) (n := m) (m := m - args.length) hA (by omega)
 simpa [hm] using this
theorem pB {fn : Func} {R : Ending → World → Prop} {D : Nat} {v : Value} {e : Exit} (he : e = .ret ∨ e = .normal) (hd : a.defers = [{ target := .collected D, args := #[] }]) (hD : w.heap[D]? = some (.deferred (some [])))
 (hr : (results fn a.tmps).run P (w.putObj D (.deferred none)) = .ok v (w.putObj D (.deferred none))) (h : R (.returned v) (w.putObj D (.deferred none))) : bodyPostM Fence.wide 0 P fn R e a w := by
 have key : LeavesInM Fence.wide 0 P fn a.tmps R a.defers .returning w := by
  rw [hd]
  exact ⟨by simp, .inl ⟨_, _, rfl, run_takeDeferred hD, v, hr, h⟩⟩
 rcases he with rfl | rfl <;> exact key
theorem J2 {f : FuncId} {fn : Func} {c : Code} {args : List Value} {R : Ending → World → Prop} {m : Nat} (L : List (Nat × Value)) (Γ : List AT) (F0 : Nat → Prop) (hf : P.funcs[f]? = some fn) (hb : fn.body = some c) (hm : fn.ntmps = m)
 (hA : MC args L) (hn : Nat.ble args.length m = true) (ok : ∀ X ∈ Γ, X.ok w) (dis : Γ.Pairwise (fun X Y => ∀ b, X.F b → ¬ Y.F b)) (mine : ∀ X ∈ Γ, X.mine = true → ∀ b, X.F b → w.heap.size ≤ b ∨ F0 b)
 (h : ∀ a, St ⟨m, []⟩ F0 w a w L Γ → c.wpIn (FW none) 0 P (bodyPost P fn R) a w) : CallsIn Fence.wide 0 P f args.toArray w R := by
 refine callsIn_of_wp hf hb trivial (h _ ⟨?_, Bd.refl _ _, ok, dis, mine⟩)
 have hle : args.length ≤ m := Nat.le_of_ble_eq_true hn
 have := Sl.start (l := args) (L := L) (n := m) (m := m - args.length) hA (by omega)
 simpa [hm] using this
theorem St.putD (hS : St n F0 w0 a w L Γ) {D : Nat} {o : Obj} (hD : w0.heap.size ≤ D) (hn : ∀ X ∈ Γ, ∀ b, X.F b → b ≠ D) : St n F0 w0 a (w.putObj D o) L Γ := by
 have hc : Bd (fun k => k = D) w (w.putObj D o) := ⟨rfl, rfl, rfl, by simp, fun k _ hk => World.putObj_heap_other hk⟩
 exact ⟨hS.sl, hS.chg.trans hc (fun i hi hlt => by omega), fun X hX => (hS.ok X hX).keep hc (fun b hb e => hn X hX b hb e), hS.dis, hS.mine⟩
theorem N2 {ds : List Deferred} {v : Value} : Act.put { a with defers := ds } dst v = { a.put dst v with defers := ds } := by cases dst <;> rfl
end
end
section
def TM {β : Type} (B hi : Nat) (I : β → World → Prop) : Prop :=
 ∀ s W W', I s W → W'.os = W.os → W'.tape = W.tape → W'.output = W.output → W.heap.size ≤ W'.heap.size → (∀ k, k < W.heap.size → (k < B ∨ hi ≤ k) → W'.heap[k]? = W.heap[k]?) → I s W'
theorem TM.alloc {β : Type} {B hi : Nat} {I : β → World → Prop} (h : TM B hi I) {s : β} {W : World} (hs : I s W) (o : Obj) : I s (W.alloc o) :=
 h s W _ hs rfl rfl rfl (by simp) (fun k hk _ => Below.heap_alloc W o k hk)
theorem TM.put {β : Type} {B hi : Nat} {I : β → World → Prop} (h : TM B hi I) {s : β} {W : World} {l : Nat} (hl : B ≤ l) (hl2 : l < hi) (hs : I s W) (o : Obj) : I s (W.putObj l o) :=
 h s W _ hs rfl rfl rfl (by simp) (fun k _ hk => World.putObj_heap_other (by omega))
def Kp (B hi : Nat) (W W' : World) : Prop := W.heap.size ≤ W'.heap.size ∧ ∀ k, B ≤ k → k < hi → W'.heap[k]? = W.heap[k]?
def Qt {α : Type} (P : Program) (gf : Nat) (lb : Array Value) (encs : α → Array Value) (S Sp : List α → Prop) (N : Nat) (K0 : World → Prop) : Prop :=
 ∀ (l : Nat) (J Jx : Nat → List α → World → Prop) (W : World), (∀ hi pre W', J hi pre W' → K0 W') → (∀ hi, W.heap.size ≤ hi → TM W.heap.size hi (J hi)) → (∀ hi, W.heap.size ≤ hi → TM W.heap.size hi (Jx hi)) →
  (∀ hi pre x W1, W.heap.size ≤ hi → hi ≤ W1.heap.size → J hi pre W1 → pre.length < N → YieldAt Fence.wide 0 P l (encs x) W1 fun e W' => Kp W.heap.size hi W1 W' ∧ ((e = .returned (.bool true) ∧ J hi (pre ++ [x]) W') ∨ (e = .returned (.bool false) ∧ Jx hi (pre ++ [x]) W'))) →
  (∀ hi, W.heap.size ≤ hi → J hi [] W) → CallsIn Fence.wide 0 P gf (#[.func (.yield l) #[] #[]] ++ lb) W fun e W' => (∃ v, e = .returned v) ∧ ∃ hi, W.heap.size ≤ hi ∧ ((∃ xs, S xs ∧ J hi xs W') ∨ ∃ pre, Sp pre ∧ Jx hi pre W')
def Yk {α : Type} (B hi : Nat) (I : List α → World → Prop) (Ix : Code → List α → World → Prop) (xs : List α) (W : World) : Exit → Act → World → Prop
 | .normal, _, W' => Kp B hi W W' ∧ I xs W'
 | .ret, _, W' => Kp B hi W W' ∧ Ix .ret xs W'
 | .exit id, _, W' => Kp B hi W W' ∧ Ix (.exit id) xs W'
 | .goto t, _, W' => Kp B hi W W' ∧ Ix (.goto t) xs W'
 | .panic _, _, _ => False
 | .outgrown, _, _ => False
theorem MY {P : Program} {α : Type} {g : Operand} {ps : Array Tmp} {assign body : Code} {Q : Exit → Act → World → Prop} {a : Act} {w : World}
 {gf : Nat} {lb : Array Value} (hg : a.eval g = .func (.func gf) #[] lb) (eg : AA P gf) {encs : α → Array Value} {S Sp : List α → Prop} {N : Nat} {K0 : World → Prop}
 (hseq : Qt P gf lb encs S Sp N K0) (hps : ∀ x, (encs x).size = ps.size) (I : Nat → List α → World → Prop) (Ix : Nat → Code → List α → World → Prop)
 (hI : ∀ hi, w.heap.size + 2 ≤ hi → TM w.heap.size hi (I hi)) (hIx : ∀ hi c, w.heap.size + 2 ≤ hi → TM w.heap.size hi (Ix hi c)) (hK : ∀ hi pre W', I hi pre W' → K0 W') (h0 : ∀ hi, w.heap.size + 2 ≤ hi → I hi [] w)
 (hround : ∀ (hi l : Nat) (pre : List α) (x : α) (W : World), w.heap.size + 2 ≤ hi → hi ≤ W.heap.size → I hi pre W → pre.length < N →
   assign.wpIn (Fence.wide.inRound l) 0 P (Exit.then (fun a1 W1 => Kp w.heap.size hi W W1 ∧ ∀ W2, Qs (w.heap.size + 1) W1 W2 → body.wpIn (Fence.wide.inRound l) 0 P (Yk w.heap.size hi (I hi) (Ix hi) (pre ++ [x]) W2) a1 W2) (fun _ _ _ => False))
     { tmps := (ps.zip (encs x)).foldl (fun t (p, v) => t.setIfInBounds p v) a.tmps, defers := [] } W)
 (hdone : ∀ (hi D : Nat) (xs : List α) (W : World), w.heap.size + 2 ≤ hi → w.heap.size ≤ D → D < hi → S xs → I hi xs W → W.heap[D]? = some (.deferred (some [])) → Q .normal { a with defers := { target := .collected D, args := #[] } :: a.defers } W)
 (hstop : ∀ (hi D : Nat) (c : Code) (pre : List α) (W : World), w.heap.size + 2 ≤ hi → w.heap.size ≤ D → D < hi → Sp pre → Ix hi c pre W → W.heap[D]? = some (.deferred (some [])) → c.wpIn Fence.wide 0 P Q { a with defers := { target := .collected D, args := #[] } :: a.defers } W) :
 (Code.rangeFunc g ps assign body).wpIn Fence.wide 0 P Q a w := by
 refine wpIn_rangeFunc fun fn hfn => ?_
 obtain ⟨rec, hrec⟩ : ∃ rec : LoopState → Option Code → Loop, rec = fun st pe => { state := st, pending := pe, fn, tmps := a.tmps, params := ps, assign, body, defers := w.heap.size } := ⟨_, rfl⟩
 obtain ⟨W1, hW1⟩ : ∃ W1, (w.alloc (.deferred (some []))).alloc (.loop (rec .ready none)) = W1 := ⟨_, rfl⟩
 have hs1 : W1.heap.size = w.heap.size + 2 := by rw [← hW1]; simp
 have hL : W1.heap[w.heap.size + 1]? = some (.loop (rec .ready none)) := by
  rw [← hW1]; have := World.alloc_heap_new (w.alloc (.deferred (some []))) (.loop (rec .ready none)); rwa [World.size_alloc] at this
 have hD : W1.heap[w.heap.size]? = some (.deferred (some [])) := by
  rw [← hW1]; exact (Below.heap_alloc _ _ _ (by simp)).trans (World.alloc_heap_new w _)
 have hI1 : ∀ hi, w.heap.size + 2 ≤ hi → I hi [] W1 := fun hi hh => by rw [← hW1]; exact (hI hi hh).alloc ((hI hi hh).alloc (h0 hi hh) _) _
 refine ⟨w.heap.size + 1, [{ target := .collected w.heap.size, args := #[] }], W1, { target := .fn (.func gf) lb, args := #[.func (.yield (w.heap.size + 1)) #[] #[]] }, W1, gf,
   #[.func (.yield (w.heap.size + 1)) #[] #[]] ++ lb, W1, ?_, ?_, fun _ _ => trivial, ?_, fun h => (by cases h), ?_⟩
 · rw [← hW1, hrec]; exact run_enterLoop_outer _ _ _ _ _
 ·
  simp only [resolve, hg]
  simp [go_sem]
 ·
  have := eg (#[.func (.yield (w.heap.size + 1)) #[] #[]] ++ lb) W1
  exact this
 have key := hseq (w.heap.size + 1) (fun hi pre W => w.heap.size + 2 ≤ W.heap.size ∧ I hi pre W ∧ W.heap[w.heap.size + 1]? = some (.loop (rec .ready none)) ∧ W.heap[w.heap.size]? = some (.deferred (some [])))
  (fun hi pre W => w.heap.size + 2 ≤ W.heap.size ∧ ∃ c, Ix hi c pre W ∧ W.heap[w.heap.size + 1]? = some (.loop (rec .done (some c))) ∧ W.heap[w.heap.size]? = some (.deferred (some []))) W1
  (fun hi pre W' h => hK hi pre W' h.2.1)
  (fun hi hh s A B h e1 e2 e3 e4 e5 => by
    have h1 := h.1
    exact ⟨Nat.le_trans h.1 e4, hI hi (by omega) s A B h.2.1 e1 e2 e3 e4 (fun k hk hk2 => e5 k hk (by omega)), (e5 _ (by omega) (by omega)).trans h.2.2.1, (e5 _ (by omega) (by omega)).trans h.2.2.2⟩)
  (fun hi hh s A B h e1 e2 e3 e4 e5 => by
    obtain ⟨hz, c, h1, h2, h3⟩ := h
    exact ⟨Nat.le_trans hz e4, c, hIx hi c (by omega) s A B h1 e1 e2 e3 e4 (fun k hk hk2 => e5 k hk (by omega)), (e5 _ (by omega) (by omega)).trans h2, (e5 _ (by omega) (by omega)).trans h3⟩)
  ?_ (fun hi hh => ⟨by omega, hI1 hi (by omega), hL, hD⟩)
 ·
  refine key.mono ?_
  rintro e W2 ⟨⟨v, rfl⟩, hh, hhl, (⟨xs, hS, hz, hi, hl, hk⟩ | ⟨pre, hSp, hz, c, hi, hl, hk⟩)⟩
  · exact ⟨none, _, by have := run_endLoop (P := P) hl (by rw [hrec]; simp); rw [hrec] at this; exact this, hdone hh _ xs _ (by omega) (Nat.le_refl _) (by omega) hS ((hI hh (by omega)).put (by omega) (by omega) hi _) ((World.putObj_heap_other (by omega)).trans hk)⟩
  · exact ⟨some c, _, by have := run_endLoop (P := P) hl (by rw [hrec]; simp); rw [hrec] at this; exact this, hstop hh _ c pre _ (by omega) (Nat.le_refl _) (by omega) hSp ((hIx hh c (by omega)).put (by omega) (by omega) hi _) ((World.putObj_heap_other (by omega)).trans hk)⟩
 ·
  rintro hh pre x W hhl hhW ⟨hz, hi, hl, hk⟩ hlen
  have hy := run_yield (P := P) (args := encs x) hl (by rw [hrec]; exact hps x)
  rw [hrec] at hy
  refine ⟨fn, _, assign, body, hy, roundIn_of_wpIn hfn (wpIn_mono (hround hh _ pre x W (by omega) hhW hi hlen) ?_)⟩
  rintro e a1 W1' hp1
  cases e with
  | exit _ => exact hp1.elim
  | goto _ => exact hp1.elim
  | ret => exact hp1.elim
  | panic _ => exact hp1.elim
  | outgrown => exact hp1.elim
  | normal => ?_
  obtain ⟨⟨hzz, hkeep⟩, hbody⟩ := hp1
  have hl1 := (hkeep (w.heap.size + 1) (by omega) (by omega)).trans hl
  have hk1 := (hkeep w.heap.size (Nat.le_refl _) (by omega)).trans hk
  refine ⟨_, run_beginRound hl1 (by rw [hrec]), ?_⟩
  obtain ⟨W2, hW2⟩ : ∃ W2, W1'.putObj (w.heap.size + 1) (.loop { rec .ready none with state := .busy }) = W2 := ⟨_, rfl⟩
  have hl2 : W2.heap[w.heap.size + 1]? = some (.loop { rec .ready none with state := .busy }) := by rw [← hW2]; exact KL hl1
  have hk2 : W2.heap[w.heap.size]? = some (.deferred (some [])) := by rw [← hW2]; exact (World.putObj_heap_other (by omega)).trans hk1
  have hz2 : w.heap.size + 2 ≤ W2.heap.size := by rw [← hW2]; simp; omega
  rw [hW2]
  refine wpIn_mono (hbody W2 (by rw [← hW2]; exact Qs.put _ _ _)) ?_
  have fin : ∀ (jump : Option Code) (W3 : World), Kp w.heap.size hh W2 W3 → w.heap.size + 2 ≤ W3.heap.size ∧
   (Instr.endRound (w.heap.size + 1) jump).run P W3 = .ok (.bool jump.isNone) (W3.putObj (w.heap.size + 1) (.loop (rec (if jump.isNone then .ready else .done) jump))) ∧
   (W3.putObj (w.heap.size + 1) (.loop (rec (if jump.isNone then .ready else .done) jump))).heap[w.heap.size + 1]? = some (.loop (rec (if jump.isNone then .ready else .done) jump)) ∧
   (W3.putObj (w.heap.size + 1) (.loop (rec (if jump.isNone then .ready else .done) jump))).heap[w.heap.size]? = some (.deferred (some [])) ∧
   Kp W1.heap.size hh W (W3.putObj (w.heap.size + 1) (.loop (rec (if jump.isNone then .ready else .done) jump))) := fun jump W3 ⟨hsz, hk3⟩ => by
   have hl3 := (hk3 _ (by omega) (by omega)).trans hl2
   have hd3 := (hk3 _ (Nat.le_refl _) (by omega)).trans hk2
   have hr := run_endRound (P := P) jump hl3
   rw [hrec] at hr ⊢
   have hw2 : W2.heap.size = W1'.heap.size := by rw [← hW2]; simp
   refine ⟨by have := (Array.getElem?_eq_some_iff.1 hl3).1; omega, hr, KL hl3, (World.putObj_heap_other (by omega)).trans hd3, by simp; omega, fun k hk1 hk2' => ?_⟩
   rw [World.putObj_heap_other (by omega), hk3 k (by omega) (by omega), ← hW2, World.putObj_heap_other (by omega)]
   exact hkeep k (by omega) hk2'
  rintro e a3 W3 hp
  cases e with
  | normal =>
    obtain ⟨hk3, hi3⟩ := hp
    obtain ⟨hz3, hr, hl4, hk4, hkp⟩ := fin none W3 hk3
    exact ⟨_, _, hr, hkp, .inl ⟨rfl, by simpa using hz3, (hI hh (by omega)).put (by omega) (by omega) hi3 _, hl4, hk4⟩⟩
  | ret =>
    obtain ⟨hk3, hi3⟩ := hp
    obtain ⟨hz3, hr, hl4, hk4, hkp⟩ := fin (some .ret) W3 hk3
    exact ⟨_, _, hr, hkp, .inr ⟨rfl, by simpa using hz3, .ret, (hIx hh _ (by omega)).put (by omega) (by omega) hi3 _, hl4, hk4⟩⟩
  | exit id =>
    obtain ⟨hk3, hi3⟩ := hp
    obtain ⟨hz3, hr, hl4, hk4, hkp⟩ := fin (some (.exit id)) W3 hk3
    exact ⟨_, _, hr, hkp, .inr ⟨rfl, by simpa using hz3, .exit id, (hIx hh _ (by omega)).put (by omega) (by omega) hi3 _, hl4, hk4⟩⟩
  | goto t =>
    obtain ⟨hk3, hi3⟩ := hp
    obtain ⟨hz3, hr, hl4, hk4, hkp⟩ := fin (some (.goto t)) W3 hk3
    exact ⟨_, _, hr, hkp, .inr ⟨rfl, by simpa using hz3, .goto t, (hIx hh _ (by omega)).put (by omega) (by omega) hi3 _, hl4, hk4⟩⟩
  | panic ch => exact hp.elim
  | outgrown => exact hp.elim
theorem LJ {B : Nat} {P : Program} {α : Type} {g : Operand} {ps : Array Tmp} {assign body : Code} {Q : Exit → Act → World → Prop} {a : Act} {w : World} (hB : w.heap.size = B)
 {gf : Nat} {lb : Array Value} (hg : a.eval g = .func (.func gf) #[] lb) (eg : AA P gf) {encs : α → Array Value} {S Sp : List α → Prop} {N : Nat} {K0 : World → Prop}
 (hseq : Qt P gf lb encs S Sp N K0) (hps : ∀ x, (encs x).size = ps.size) (I : Nat → List α → World → Prop) (Ix : Nat → Code → List α → World → Prop)
 (hI : ∀ hi, B + 2 ≤ hi → TM B hi (I hi)) (hIx : ∀ hi c, B + 2 ≤ hi → TM B hi (Ix hi c)) (hK : ∀ hi pre W', I hi pre W' → K0 W') (h0 : ∀ hi, B + 2 ≤ hi → I hi [] w)
 (hround : ∀ (hi l : Nat) (pre : List α) (x : α) (W : World), B + 2 ≤ hi → hi ≤ W.heap.size → I hi pre W → pre.length < N →
   assign.wpIn (Fence.wide.inRound l) 0 P (Exit.then (fun a1 W1 => Kp B hi W W1 ∧ ∀ W2, Qs (B + 1) W1 W2 → body.wpIn (Fence.wide.inRound l) 0 P (Yk B hi (I hi) (Ix hi) (pre ++ [x]) W2) a1 W2) (fun _ _ _ => False))
     { tmps := (ps.zip (encs x)).foldl (fun t (p, v) => t.setIfInBounds p v) a.tmps, defers := [] } W)
 (hdone : ∀ (hi D : Nat) (xs : List α) (W : World), B + 2 ≤ hi → B ≤ D → D < hi → S xs → I hi xs W → W.heap[D]? = some (.deferred (some [])) → Q .normal { a with defers := { target := .collected D, args := #[] } :: a.defers } W)
 (hstop : ∀ (hi D : Nat) (c : Code) (pre : List α) (W : World), B + 2 ≤ hi → B ≤ D → D < hi → Sp pre → Ix hi c pre W → W.heap[D]? = some (.deferred (some [])) → c.wpIn Fence.wide 0 P Q { a with defers := { target := .collected D, args := #[] } :: a.defers } W) :
 (Code.rangeFunc g ps assign body).wpIn Fence.wide 0 P Q a w := by
 subst hB
 exact MY hg eg hseq hps I Ix hI hIx hK h0 hround hdone hstop
section
variable {P : Program} {n : NN} {F0 : Nat → Prop} {w0 : World} {a : Act} {w : World} {L : List (Nat × Value)} {Γ : List AT}
variable {K : Act → World → Prop} {Q : Exit → Act → World → Prop} {d ty : Nat} {pos : String} {af : Array Edge} {g : Option (Nat × Bool)}
theorem jM {op : Op} {v : Value} {ds : List Deferred} (hS : St n F0 w0 a w L Γ) (he : Ex P n a L Γ ⟨some d, op, ty, pos, af, g⟩ v) (hn : Nat.blt d n.n = true)
 (h : ∀ a', St n F0 w0 a' w ((d, v) :: L) Γ → K { a' with defers := ds } w) : OW P ⟨some d, op, ty, pos, af, g⟩ { a with defers := ds } w K Q := by
 refine ⟨?_⟩
 unfold Oper.wp
 have e : (execOp (Act.eval { a with defers := ds }) ⟨some d, op, ty, pos, af, g⟩) = execOp a.eval ⟨some d, op, ty, pos, af, g⟩ := rfl
 rw [e, he hS.sl w hS.hd]
 show K (Act.put { a with defers := ds } (some d) v) w
 rw [N2]
 exact h _ (hS.put hn v)
theorem pC {fn : Func} {R : Ending → World → Prop} {D : Nat} {e : Exit} {rs : List ResultVar} {v : Value} (hS : St n F0 w0 a (w.putObj D (.deferred none)) L Γ) (he : e = .ret ∨ e = .normal) (hD : w.heap[D]? = some (.deferred (some [])))
 (hr : fn.results = rs.toArray) (hv : GI P L Γ rs [v]) (h : R (.returned v) (w.putObj D (.deferred none))) :
 bodyPostM Fence.wide 0 P fn R e { a with defers := [{ target := .collected D, args := #[] }] } w := by
 refine pB he rfl hD ?_ h
 have h1 := GI.run hS hv
 show (results fn a.tmps).run P _ = _
 rw [EX, hr, List.mapM_toArray, Sem.run_bind, Sem.run_map, h1]
 simp [Result.andThen_ok]
end
end
section
variable {P : Program} {n : NN} {F0 : Nat → Prop} {w0 w : World} {a : Act} {L : List (Nat × Value)} {Γ : List AT} {Q : Exit → Act → World → Prop}
theorem TN {id : Nat} {l : List Oper} {Γs : List AT} (Z : List Nat) (hm : P.follows .mixedOrders = true) (hS : St n F0 w0 a w L Γ) (_hsub : ∀ X ∈ Γs, X ∈ Γ) {k : Nat} {bs : List Bool} (hk : l.length = k) (hbs : List.replicate k false = bs)
 (h : ∀ w', St n F0 w0 a w' L Γ → DB P l.toArray Q (Hd Γs) Z k bs.toArray a w') : (Code.region id l.toArray true).wp P Q a w := by
 refine K9 Z hm hS _hsub fun w' hS' => ?_
 rw [hk, hbs]; exact h w' hS'
end
section
section
variable {P : Program} {n : NN} {F0 : Nat → Prop} {w0 : World} {a : Act} {w : World} {L : List (Nat × Value)} {Γ : List AT} {r : Option Nat} {N : Nat} {Q : Exit → Act → World → Prop}
end
end
section
variable {P : Program} {n : NN} {w : World} {a : Act} {L : List (Nat × Value)} {Γ : List AT} {dst : Option Nat}
variable {ty : Nat} {pos : String} {af : Array Edge} {g : Option (Nat × Bool)}
theorem GQ (t ty e : TypeId) (i : TypeInfo) (size : Nat) (ht : P.underlying t = some (.slice e)) (hi : P.info? e = some i) (v : Value) (m : Nat) (xs : List Value) (hown : w.ownsRow 0 e size v m xs) (ad : Option Addr) (c : Nat) :
 (Builtin.append_ #[t, t] ty #[v, .slice ad 0 c]).run P w = .ok v w := by
 rcases hown.2 with ⟨rfl, rfl⟩ | ⟨g, cap, cur, rfl, _, _, hnc, _⟩
 · cases ad <;> simp [Builtin.append_, run_underlying ht, sizeOf, typeInfo, hi, Builtin.lenOf, Builtin.firstCells, loadCells, loadCellsFrom]
 · cases ad <;> simp [Builtin.append_, run_underlying ht, sizeOf, typeInfo, hi, Builtin.lenOf, Builtin.firstCells, loadCells, loadCellsFrom, hnc, storeCells]
theorem Qu {T E s b m c : Nat} {zs : List Value} {x y : Operand} {v : Value} {ad : Option Addr} {cs : List Value} (hx : ev L x = some v) (hy : ev L y = some (.slice ad 0 c))
 (hT : BD P T = some E) (hs : BS P E = some s) (hb : Ev P E = some b) (hz : A3 P E = some zs) (hm : AJ E s v m cs ∈ Γ) : Ex P n a L Γ ⟨dst, .call ⟨.builtin .append, #[x, y], #[T, T]⟩, ty, pos, af, g⟩ v := fun hs' w hh => by
 obtain ⟨i, z, hi, hz', hsz, hby, hzc⟩ := Fq hs hb hz
 have hown : w.ownsRow 0 E s v m cs := hh _ hm
 have h := GQ (P := P) (w := w) T ty E i s (BF hT) hi v m cs hown ad c
 simp [execOp, resolve, invoke, builtin, hs'.ev hx, hs'.ev hy, h]
section
variable {F0 : Nat → Prop} {w0 : World} {K : Act → World → Prop} {Q : Exit → Act → World → Prop} {d : Nat}
theorem Cx {T E s b : Nat} {zs : List Value} {x y : Operand} {v : Value} {m k c : Nat} {q : Option Addr} {cs ys : List Value} {Γ' : Value → List AT} (hS : St n F0 w0 a w L Γ) (hx : ev L x = some v) (hy : ev L y = some (.slice q k c))
 (hT : BD P T = some E) (hs : BS P E = some s) (hb : Ev P E = some b) (hz : A3 P E = some zs) (hzl : Nat.beq zs.length s = true) (hs0 : Nat.blt 0 s = true) (hn : Nat.blt d n.n = true)
 (hm : AJ E s v m cs ∈ Γ) (hyl : ys.length = k * s) (hq : (k = 0 ∧ ys = []) ∨ ∃ bx ox, q = some ⟨bx, ox, none⟩ ∧ ∀ j u, ys[j]? = some u → w.cell? ⟨bx, ox + j, none⟩ = some u) (h1 : ∀ u ∈ ys, Bl u = true) (hbd : (m + k) * b ≤ 140737488355328 ∧ m + k ≤ 4611686018427387904)
 (hr : ∀ v', DY (AJ E s v m cs) (AJ E s v' (m + k) (cs ++ ys)) Γ (Γ' v'))
 (h : ∀ v' a' w', (v' = .slice none 0 0 ↔ v = .slice none 0 0 ∧ k = 0) → St n F0 w0 a' w' ((d, v') :: L) (Γ' v') → K a' w') : OW P ⟨some d, .call ⟨.builtin .append, #[x, y], #[T, T]⟩, ty, pos, af, g⟩ a w K Q := by
 rcases hq with ⟨rfl, rfl⟩ | ⟨bx, ox, rfl, hys⟩
 ·
  refine FU hS (Qu hx hy hT hs hb hz hm) hn (fun a' hS' => h v a' w (by simp) ?_)
  have hown : w.ownsRow 0 E s v m cs := hS.get hm
  refine hS'.upd (hr v) (Bd.refl _ _) ?_ (fun b hb => .inl hb) rfl
  have := C2 (w := w) (E := E) (s := s) (v := v) (m := m) (xs := cs) hown
  rwa [Nat.add_zero, List.append_nil]
 · exact EF hS hx hy hT hs hb hz hzl hs0 hn hm hyl hys h1 hbd hr h
end
end
section
variable {P : Program} {n : NN} {F0 : Nat → Prop} {w0 w : World} {a : Act} {L : List (Nat × Value)} {Γ : List AT} {dst : Option Nat}
variable {ty : Nat} {pos : String} {af : Array Edge} {g : Option (Nat × Bool)} {K : Act → World → Prop} {Q : Exit → Act → World → Prop} {d : Nat}
def pD (x y : ByteArray) : Bool := Go.Op.bytesLess x.toList y.toList || (x.toList == y.toList)
theorem jN {t t' : TypeId} {x y : Operand} {i j : ByteArray} (hx : ev L x = some (.string i)) (hy : ev L y = some (.string j)) : Ex P n a L Γ ⟨dst, .binOp .leq t x y t', ty, pos, af, g⟩ (.bool (pD i j)) := fun hs w hh => by
 simp only [execOp, hs.ev hx, hs.ev hy, eqGuard, binOp, Op.stringOp]
 rfl
def Cu (q : Option Addr) (k c s : Nat) : Option Addr := if c = k then q else q.map (·.add (k * s))
theorem MZ {T E s m c : Nat} {p : Option Addr} {x y : Operand} {k : IntKind} {j : Nat} (hx : ev L x = some (.slice p m c)) (hy : ev L y = some (.int k (j : Int))) (hT : BD P T = some E) (hs : BS P E = some s) (hj : j ≤ m) :
 Ex P n a L Γ ⟨dst, .slice T x (some y) none none, ty, pos, af, g⟩ (.slice (Cu p j c s) (m - j) (c - j)) := fun hs' w hh => by
 obtain ⟨h1, h2⟩ := FY hT
 have h3 := run_sliceAt_slice (P := P) (w := w) T (.slice p m c) (some (.int k (j : Int))) none none h1
 have h4 := run_slice_l (P := P) (w := w) T p m c h1 k (j : Int) (by omega) (by omega)
 rw [h2, Bg hs] at h4
 simp [execOp, hs'.ev hx, hs'.ev hy, h3, h4, Result.andThen, sliced, Cu]
def Yl (w : World) (q : Option Addr) (k c : Nat) (ys : List Value) : Prop := (q = none ∧ k = 0 ∧ c = 0 ∧ ys = []) ∨ ∃ bx ox, q = some ⟨bx, ox, none⟩ ∧ ∀ j u, ys[j]? = some u → w.cell? ⟨bx, ox + j, none⟩ = some u
theorem KM {α : Type} {enc : α → List Value} {s : Nat} (hl : ∀ x, (enc x).length = s) : ∀ (xs : List α) (k : Nat), (xs.drop k).flatMap enc = (xs.flatMap enc).drop (k * s)
 | xs, 0 => by simp
 | [], k + 1 => by simp
 | x :: xs, k + 1 => by
   rw [List.drop_succ_cons, KM hl xs k, List.flatMap_cons, Nat.add_mul, Nat.one_mul, Nat.add_comm, ← List.drop_drop]
   congr 1
   rw [List.drop_append_of_le_length (by rw [hl]; exact Nat.le_refl _), List.drop_eq_nil_of_le (by rw [hl]; exact Nat.le_refl _), List.nil_append]
theorem KN {α : Type} {enc : α → List Value} {s : Nat} (hl : ∀ x, (enc x).length = s) : ∀ (xs : List α) (k : Nat), (xs.take k).flatMap enc = (xs.flatMap enc).take (k * s)
 | xs, 0 => by simp
 | [], k + 1 => by simp
 | x :: xs, k + 1 => by
   have e1 : (enc x).take ((k + 1) * s) = enc x := List.take_of_length_le (by rw [hl, Nat.add_mul]; omega)
   have e2 : (k + 1) * s - s = k * s := by rw [Nat.add_mul]; omega
   rw [List.take_succ_cons, List.flatMap_cons, KN hl xs k, List.flatMap_cons, List.take_append, e1, hl, e2]
theorem Ma {α : Type} {enc : α → List Value} {s E m c k : Nat} {q : Option Addr} {xs : List α} (h : w.ownsRow 0 E s (.slice q m c) m (xs.flatMap enc)) (hl : ∀ x, (enc x).length = s) (hk : k ≤ m) : Yl w q k c ((xs.take k).flatMap enc) := by
 rcases h.2 with ⟨e1, e2⟩ | ⟨g, cap, cur, e1, _⟩
 ·
  injection e1 with e3 e4 e5
  subst e3 e5
  refine .inl ⟨rfl, by omega, rfl, ?_⟩
  rw [show k = 0 by omega]; simp
 ·
  injection e1 with e3 e4 e5
  subst e3
  refine .inr ⟨g, 0, rfl, fun j u hj => ?_⟩
  rw [KN hl] at hj
  have h1 : (xs.flatMap enc)[j]? = some u := by
   rw [List.getElem?_take] at hj
   split at hj
   · exact hj
   · cases hj
  have h2 := World.ownsRow.cells h (g := g) rfl _ _ h1
  rw [BH] at h2
  rw [← h2]
theorem TO {α : Type} {enc : α → List Value} {s E m c k : Nat} {q : Option Addr} {xs : List α} (h : w.ownsRow 0 E s (.slice q m c) m (xs.flatMap enc)) (hl : ∀ x, (enc x).length = s) (hx : xs.length = m) (hk : k ≤ m) : Yl w (Cu q k c s) (m - k) (c - k) ((xs.drop k).flatMap enc) := by
 rcases h.2 with ⟨e1, e2⟩ | ⟨g, cap, cur, e1, _, _, hcap, _⟩
 ·
  injection e1 with e3 e4 e5
  subst e3 e5
  refine .inl ⟨by unfold Cu; split <;> rfl, by omega, by omega, ?_⟩
  rw [List.drop_eq_nil_of_le (by omega)]; rfl
 ·
  injection e1 with e3 e4 e5
  subst e3 e5
  by_cases e : c = k
  ·
   refine .inr ⟨g, 0, by unfold Cu; rw [if_pos e], fun j u hj => ?_⟩
   rw [List.drop_eq_nil_of_le (by omega)] at hj; simp at hj
  ·
   refine .inr ⟨g, k * s, by unfold Cu; rw [if_neg e]; simp [BH], fun j u hj => ?_⟩
   rw [KM hl, List.getElem?_drop] at hj
   have h2 := World.ownsRow.cells h (g := g) rfl _ _ hj
   rw [BH] at h2
   rw [← h2]; congr 2; omega
end
section
def CL (v : Value) (l : List Int) (w : World) : Prop := (l = [] ∧ ∃ a c, v = .slice a 0 c) ∨ ∃ b off c, l ≠ [] ∧ v = .slice (some ⟨b, off, none⟩) l.length c ∧ l.length ≤ c ∧ (∀ j x, l[j]? = some x → w.cell? ⟨b, off + j, none⟩ = some (.int .u8 x)) ∧ b < w.heap.size
def qS (v : Value) (l : List Int) (k : Nat) : Prop := l ≠ [] ∧ ∃ off m c, v = .slice (some ⟨k, off, none⟩) m c
theorem CL.shape {v : Value} {l : List Int} {w : World} (h : CL v l w) : ∃ a c, v = .slice a l.length c := by
 rcases h with ⟨rfl, a, c, rfl⟩ | ⟨b, off, c, _, rfl, _, _, _⟩
 · exact ⟨a, c, rfl⟩
 · exact ⟨_, c, rfl⟩
theorem CL.some {v : Value} {l : List Int} {w : World} (h : CL v l w) (hne : l ≠ []) : ∃ b off c, v = .slice (some ⟨b, off, none⟩) l.length c ∧ l.length ≤ c ∧ ∀ j x, l[j]? = some x → w.cell? ⟨b, off + j, none⟩ = some (.int .u8 x) := by
 rcases h with ⟨h0, _⟩ | ⟨b, off, c, _, h1, h2, h3, _⟩
 · exact absurd h0 hne
 · exact ⟨b, off, c, h1, h2, h3⟩
theorem CL.lt {v : Value} {l : List Int} {w : World} (h : CL v l w) (k : Nat) (hk : qS v l k) : k < w.heap.size := by
 obtain ⟨hne, off, m, c, e⟩ := hk
 rcases h with ⟨h0, _⟩ | ⟨b, off', c', _, h1, _, _, h3⟩
 · exact absurd h0 hne
 · rw [h1] at e; injection e with e1; injection e1 with e2; injection e2 with e3; omega
theorem Qv {w w' : World} {b k : Nat} (hb : w'.heap[b]? = w.heap[b]?) : w'.cell? ⟨b, k, none⟩ = w.cell? ⟨b, k, none⟩ := by
 unfold World.cell?; rw [hb]
theorem CL.keep {v : Value} {l : List Int} {w w' : World} (h : CL v l w) (hw : ∀ k, qS v l k → w'.heap[k]? = w.heap[k]?) : CL v l w' := by
 rcases h with h | ⟨b, off, c, h0, h1, h2, h3, h4⟩
 · exact .inl h
 ·
  have hb := hw b ⟨h0, off, _, c, h1⟩
  refine .inr ⟨b, off, c, h0, h1, h2, fun j x hj => (Qv hb).trans (h3 j x hj), ?_⟩
  rw [Array.getElem?_eq_getElem h4] at hb
  exact (Array.getElem?_eq_some_iff.1 hb).1
theorem CL.piece {q : Option Addr} {n c : Nat} {l : List Int} {w : World} (h : CL (.slice q n c) l w) {j k : Nat} (hjk : j ≤ k) (hk : k ≤ n) : CL (.slice (Cu q j c 1) (k - j) (c - j)) ((l.take k).drop j) w := by
 have hn : n = l.length := by obtain ⟨a, c', e⟩ := h.shape; injection e
 have hlen : ((l.take k).drop j).length = k - j := by rw [List.length_drop, List.length_take]; omega
 by_cases he : j = k
 ·
  refine .inl ⟨?_, Cu q j c 1, c - j, by rw [he, Nat.sub_self]⟩
  apply List.eq_nil_of_length_eq_zero; omega
 ·
  have hne : l ≠ [] := fun e => by rw [e] at hn; simp at hn; omega
  rcases h with ⟨h0, _⟩ | ⟨b, off, c', _, h1, h2, h3, h4⟩
  · exact absurd h0 hne
  ·
   injection h1 with e1 e2 e3
   subst e1; subst e3
   have hcj : ¬ c = j := by omega
   refine .inr ⟨b, off + j, c - j, fun e => ?_, ?_, by omega, fun i x hi => ?_, h4⟩
   · have := congrArg List.length e; rw [hlen] at this; simp at this; omega
   · unfold Cu; rw [if_neg hcj, hlen, Nat.mul_one]; simp only [Option.map_some, BH]
   ·
    rw [List.getElem?_drop, List.getElem?_take] at hi
    split at hi
    · rw [Nat.add_assoc]; exact h3 _ _ hi
    · cases hi
section
variable {P : Program} {n : NN} {F0 : Nat → Prop} {w0 w : World} {a : Act} {L : List (Nat × Value)} {Γ : List AT} {dst : Option Nat}
variable {K : Act → World → Prop} {Q : Exit → Act → World → Prop} {d ty : Nat} {pos : String} {af : Array Edge} {g : Option (Nat × Bool)}
theorem PQ {T E s m c : Nat} {p : Option Addr} {x y z : Operand} {k k' : IntKind} {i j : Nat} (hx : ev L x = some (.slice p m c)) (hy : ev L y = some (.int k (i : Int))) (hz : ev L z = some (.int k' (j : Int))) (hT : BD P T = some E) (hs : BS P E = some s) (hj : i ≤ j ∧ j ≤ c) :
 Ex P n a L Γ ⟨dst, .slice T x (some y) (some z) none, ty, pos, af, g⟩ (.slice (Cu p i c s) (j - i) (c - i)) := fun hs' w hh => by
 obtain ⟨h1, h2⟩ := FY hT
 have h3 := run_sliceAt_slice (P := P) (w := w) T (.slice p m c) (some (.int k (i : Int))) (some (.int k' (j : Int))) none h1
 have h4 := run_slice_lh (P := P) (w := w) T p m c h1 k k' (i : Int) (j : Int) (by omega) (by omega) (by omega)
 rw [h2, Bg hs] at h4
 simp [execOp, hs'.ev hx, hs'.ev hy, hs'.ev hz, h3, h4, Result.andThen, sliced, Cu]
theorem KO {T T' E : Nat} {x : Operand} {v : Value} {l : List Int} (hx : ev L x = some v) (hT : BD P T = some E) (hE : P.underlying E = some (.int .u8)) (hT' : P.underlying T' = some .string) (hb : ∀ w, Hd Γ w → CL v l w) : Ex P n a L Γ ⟨dst, .convert T T' x, ty, pos, af, g⟩ (.string (strOfNums l)) := fun hs w hh => by
 have hcv : (convert T T' v).run P w = .ok (.string (strOfNums l)) w := by
  rcases hb w hh with ⟨rfl, a, c, rfl⟩ | ⟨b, off, c, _, rfl, _, h3, _⟩
  ·
   rw [run_convert_bytes_string w T T' E a 0 c (BF hT) hE hT']
   cases a with
   | none => simp [Conv.bytesToString]; rfl
   | some ad => simp [Conv.bytesToString, loadCells]; rfl
  · exact run_convert_bytes_arg w T E (BF hT) hE b off l.length c l rfl (fun i hi => by
      have := h3 i (l.getD i 0) (by rw [List.getD_eq_getElem?_getD, List.getElem?_eq_getElem hi]; rfl)
      exact this) T' hT'
 simp [execOp, hs.ev hx, hcv]
def eN (b : Nat) (cs : List Value) (E : Nat) : AT := .any (fun k => k = b) (fun w => ∃ f, w.heap[b]? = some (.cells cs.toArray E f)) true
theorem Hy {T E b m c : Nat} {cs : List Value} {x : Operand} {Γ' : List AT} (hS : St n F0 w0 a w L Γ) (hx : ev L x = some (.slice (some ⟨b, 0, none⟩) m c)) (hT : BD P T = some E) (hE : P.underlying E = some (.int .u8)) (hn : Nat.blt d n.n = true)
 (hr : DY (.blk b cs E) (eN b cs E) Γ Γ') (h : ∀ a' w', St n F0 w0 a' w' ((d, .slice (some ⟨b, 0, none⟩) m c) :: L) Γ' → K a' w') : OW P ⟨some d, .convert T T x, ty, pos, af, g⟩ a w K Q := by
 have hb : w.heap[b]? = some (.cells cs.toArray E (0, 0)) := hS.get hr.mem
 have hlt := (Array.getElem?_eq_some_iff.1 hb).1
 have hsh : w.shape? b = some (E, cs.length) := by unfold World.shape?; rw [hb]; simp
 have hcv : (convert T T (.slice (some ⟨b, 0, none⟩) m c)).run P w = .ok (.slice (some ⟨b, 0, none⟩) m c) (w.freeze ⟨b, cs.length, none⟩ 1) := by
  simp [convert, run_underlying (BF hT), run_underlying hE, markStringish, hsh]
 have he : (execOp a.eval (⟨some d, .convert T T x, ty, pos, af, g⟩ : Oper)).run P w = .ok (.value (.slice (some ⟨b, 0, none⟩) m c)) (w.freeze ⟨b, cs.length, none⟩ 1) := by
  simp [execOp, hS.sl.ev hx, hcv]
 refine ⟨?_⟩
 unfold Oper.wp
 rw [he]
 have hfr : (w.freeze ⟨b, cs.length, none⟩ 1).heap[b]? = some (.cells cs.toArray E (cs.length, cs.length + 1)) := by
  unfold World.freeze
  rw [if_neg (by decide)]
  simp [Array.getElem?_modify, hb]
 refine h _ _ ((hS.upd hr ⟨?_, ?_, ?_, ?_, fun k hk hne => ?_⟩ ⟨fun k hk => ?_, fun w' hw => ⟨_, (hw b rfl).trans hfr⟩⟩ (fun k hk => .inl hk) rfl).put hn _)
 · unfold World.freeze; rw [if_neg (by decide)]
 · unfold World.freeze; rw [if_neg (by decide)]
 · unfold World.freeze; rw [if_neg (by decide)]
 · unfold World.freeze; rw [if_neg (by decide)]; simp
 ·
  unfold World.freeze; rw [if_neg (by decide)]
  have : b ≠ k := fun e => hne e.symm
  simp [Array.getElem?_modify, this]
 ·
  obtain rfl : k = b := hk
  exact (Array.getElem?_eq_some_iff.1 hfr).1
end
end
section
variable {P : Program} {n : NN} {F0 : Nat → Prop} {w0 w : World} {a : Act} {L : List (Nat × Value)} {Γ : List AT} {dst : Option Nat}
variable {ty : Nat} {pos : String} {af : Array Edge} {g : Option (Nat × Bool)} {K : Act → World → Prop} {Q : Exit → Act → World → Prop} {d : Nat}
end
section
variable {Γ : List AT}
end
section
def AQ (W w : World) : Prop := W.heap.size ≤ w.heap.size ∧ ∀ k, k < W.heap.size → w.heap[k]? = W.heap[k]?
def AG (W : World) : AT := .any (fun k => k < W.heap.size) (AQ W) false
theorem BB {W w : World} (h : AQ W w) : (AG W).ok w := ⟨fun _ hk => Nat.lt_of_lt_of_le hk h.1, fun w' hw => by
  refine ⟨?_, fun k hk => (hw k hk).trans (h.2 k hk)⟩
  rcases Nat.eq_zero_or_pos W.heap.size with h0 | h0
  · omega
  · have h1 := (hw (W.heap.size - 1) (show W.heap.size - 1 < W.heap.size by omega)).trans (h.2 (W.heap.size - 1) (by omega))
    rw [Array.getElem?_eq_getElem (show W.heap.size - 1 < W.heap.size by omega)] at h1
    have := (Array.getElem?_eq_some_iff.1 h1).1
    omega⟩
theorem Ax (W : World) : AQ W W := ⟨Nat.le_refl _, fun _ _ => rfl⟩
theorem WJ {W w w' : World} (h : AQ W w) (hc : Bd Ai w w') : AQ W w' := ⟨Nat.le_trans h.1 hc.size, fun k hk => (hc.block k (Nat.lt_of_lt_of_le hk h.1) (fun h => h)).trans (h.2 k hk)⟩
theorem AF {W w : World} (h : AQ W w) {a : Addr} {v : Value} (hc : W.cell? a = some v) : w.cell? a = some v := by
 have hlt := World.block_lt_of_cell? W a hc
 unfold World.cell? at *
 rw [h.2 _ hlt]; exact hc
theorem Ha {W w : World} (h : AQ W w) {v : Value} {l : List Int} (hb : CL v l W) : CL v l w := hb.keep fun k hk => h.2 k (hb.lt k hk)
def tx (l : List UInt8) : ByteArray := ⟨l.toArray⟩
theorem WK (s : ByteArray) : tx s.data.toList = s := rfl
theorem FH (l : List UInt8) : (tx l).data.toList = l := rfl
theorem BA (l : List UInt8) : (tx l).size = l.length := by show l.toArray.size = l.length; simp
theorem WL {q : Option Addr} {m c : Nat} {l : List Int} {w : World} (hm : CL (.slice q m c) l w) : (m = 0 ∧ l.map (Value.int .u8) = []) ∨ ∃ bx ox, q = some ⟨bx, ox, none⟩ ∧ ∀ j u, (l.map (Value.int .u8))[j]? = some u → w.cell? ⟨bx, ox + j, none⟩ = some u := by
 rcases hm with ⟨rfl, a, c', e⟩ | ⟨b, off, c', _, e, _, hr, _⟩
 · injection e with _ e2; exact .inl ⟨e2, rfl⟩
 ·
  injection e with e1
  subst e1
  refine .inr ⟨b, off, rfl, fun j u hj => ?_⟩
  rw [List.getElem?_map, Option.map_eq_some_iff] at hj
  obtain ⟨x, hx, rfl⟩ := hj
  exact hr j x hx
theorem jO (l : List Int) : ∀ u ∈ l.map (Value.int .u8), Bl u = true := fun u hu => by
 obtain ⟨x, _, rfl⟩ := List.mem_map.1 hu; rfl
theorem Dv {w : World} {E s m c : Nat} {q : Option Addr} {xs : List Value} (h : w.ownsRow 0 E s (.slice q m c) m xs) (hm : m ≠ 0) : ∃ g, q = some ⟨g, 0, none⟩ := by
 rcases h.2 with ⟨_, e2⟩ | ⟨g, cap, cur, e1, _⟩
 · exact absurd e2 hm
 · injection e1 with e3; exact ⟨g, e3⟩
theorem Qw {E : Nat} {v : Value} {l : List Int} {w : World} (h : (AJ E 1 v l.length (l.map (Value.int .u8))).ok w) : CL v l w := by
 have hn : w.ownsRow 0 E 1 v l.length (l.map (Value.int .u8)) := h.now
 rcases hn.2 with ⟨rfl, h0⟩ | ⟨g, cap, cur, rfl, _, _, hc, _⟩
 · exact .inl ⟨List.eq_nil_of_length_eq_zero h0, _, _, rfl⟩
 ·
  by_cases hl : l = []
  · subst hl; exact .inl ⟨rfl, _, _, rfl⟩
  ·
   refine .inr ⟨g, 0, cap, hl, rfl, hc, fun j x hj => ?_, h.lt g rfl⟩
   have h2 := hn.cells (g := g) rfl j (.int .u8 x) (by rw [List.getElem?_map, hj]; rfl)
   rw [BH] at h2
   exact h2
section
variable {P : Program} {n : NN} {F0 : Nat → Prop} {w0 w : World} {a : Act} {L : List (Nat × Value)} {Γ : List AT}
variable {dst : Option Nat} {K : Act → World → Prop} {Q : Exit → Act → World → Prop} {ty : Nat} {pos : String} {af : Array Edge} {g : Option (Nat × Bool)}
theorem Mb {E b k : Nat} : ∀ (vs : List Value) (i : Nat) (w : World) (cs cs' : List Value), w.heap[b]? = some (.cells cs.toArray E (0, 0)) → MH cs (k + i) vs cs' → (∀ v ∈ vs, Bl v = true) →
 ∃ w', (storeCells ⟨b, k, none⟩ vs i).run P w = .ok () w' ∧ w'.heap[b]? = some (.cells cs'.toArray E (0, 0)) ∧ Bd (fun k => k = b) w w' := by
 intro vs
 induction vs with
 | nil => intro i w cs cs' hb hu _; cases hu; exact ⟨w, by simp [storeCells], hb, Bd.refl _ _⟩
 | cons v vs ih =>
   intro i w cs cs' hb hu h1
   cases hu with
   | cons h t =>
     obtain ⟨e, hk⟩ := h.eq
     have hv := h1 v (by simp)
     have hc : ∃ u, cs[k + i]? = some u := ⟨cs[k + i], by simp [hk]⟩
     obtain ⟨u, hu⟩ := hc
     have hcell := AR hb hu
     have hs := EE (k := k + i) hb v
     rw [← e] at hs
     obtain ⟨w', h2, h3, h4⟩ := ih (i + 1) _ _ _ hs t (fun u hu => h1 u (by simp [hu]))
     refine ⟨w', ?_, h3, (Bd.setCell w ⟨b, k + i, none⟩ v).trans h4 (fun i hi _ => hi)⟩
     simp [storeCells, BH, run_store _ _ _ _ _ (Dm hv), hcell, Ej hb, h2]
theorem I3 {T b k m : Nat} {x y : Operand} {cs cs' l : List Value} {E : TypeId} {Γ' : List AT} (hS : St n F0 w0 a w L Γ) (hx : ev L x = some (.pointer (some ⟨b, k, none⟩))) (hy : ev L y = some (.agg l.toArray))
 (hz : BS P T = some m) (hr : DY (.blk b cs E) (.blk b cs' E) Γ Γ') (hl : Nat.beq l.length m = true) (hu : MH cs k l cs') (h1 : l.all Bl = true) (h : ∀ w', St n F0 w0 a w' L Γ' → K a w') : OW P ⟨none, .store T x y, ty, pos, af, g⟩ a w K Q := by
 have e2 := Nat.eq_of_beq_eq_true hl
 have hb : w.heap[b]? = some (.cells cs.toArray E (0, 0)) := hS.get hr.mem
 obtain ⟨w', h2, h3, h4⟩ := Mb (P := P) (k := k) l 0 w cs cs' hb hu (by simpa using h1)
 have he : (execOp a.eval (⟨none, .store T x y, ty, pos, af, g⟩ : Oper)).run P w = .ok .skip w' := by
  simp [execOp, hS.sl.ev hx, hS.sl.ev hy, Instr.storeAt, Instr.sureAddr, storeVar, Bg hz, Value.cells, e2, h2]
 refine ⟨?_⟩
 unfold Oper.wp
 rw [he]
 exact h _ (hS.upd hr h4 (BE h3) (fun i hi => .inl hi) rfl)
end
end
theorem Ew {P : Program} {L : List (Nat × Value)} {f : FuncId} {fn : Func} {c : Code} {args : List Value} {R : Ending → World → Prop} {m : Nat} {w W0 : World} (F0 : Nat → Prop) (hf : P.funcs[f]? = some fn) (hm : fn.ntmps = m) (ho : AQ W0 w)
 (h : ∀ a, St ⟨m, []⟩ F0 w a w L [AG W0] → c.wp P (bodyPost P fn R) a w) (hb : fn.body = some c := by exact rfl) (hL : Hv 0 args = L := by (simp only [Hv, Nat.reduceAdd]; exact rfl)) (hn : Nat.ble args.length m = true := by exact rfl) : Calls P f args.toArray w R := En [AG W0] F0 hf hm (B3 (BB ho) DN) Bi (BP rfl Aw) h hb hL hn
theorem St.od {n : NN} {F0 : Nat → Prop} {w0 w W0 : World} {a : Act} {L : List (Nat × Value)} {Γ : List AT} (h : St n F0 w0 a w L Γ) (hm : AG W0 ∈ Γ := by repeat constructor) : AQ W0 w := h.get hm
theorem cY {P : Program} {n : NN} {F0 : Nat → Prop} {w0 w : World} {a : Act} {L : List (Nat × Value)} {Γ : List AT} {Q : Exit → Act → World → Prop} {K : Act → World → Prop} {ty d : TypeId} {pos : String} {af : Array Edge} {g : Option (Nat × Bool)} {γ : Type} {pan : Value → Prop} {V : γ → Value} {X : AT} {Y : γ → AT} {Γ' : γ → List AT} {f : FuncId} {xs : List Operand} {vs : List Value} {ts : Array TypeId} (hS : St n F0 w0 a w L Γ) (hf : AA P f)
 (hc : Du P f vs w pan X V Y) (hp : ∀ v w', pan v → a.defers = n.D → Bd F0 w0 w' → Q (.panic (pE v)) a w') (h : ∀ x a' w', St n F0 w0 a' w' ((d, V x) :: L) (Γ' x) → K a' w') (hx : FR L xs vs := by repeat (first | exact FR.nil | refine FR.cons rfl ?_)) (hn : Nat.blt d n.n = true := by exact rfl) (hr : ∀ x, DY X (Y x) Γ (Γ' x) := by (intro _; repeat constructor)) (hm : X.mine = true := by exact rfl) (hX : X ∈ Γ := by repeat constructor) : OW P ⟨some d, .call ⟨.value (.func f), xs.toArray, ts⟩, ty, pos, af, g⟩ a w K Q := IP hS hx hf hn hc hr hm hX hp h
def Br (l : List UInt8) : List Int := l.map fun b => (b.toNat : Int)
theorem Ap (l : List UInt8) : (Br l).length = l.length := List.length_map ..
theorem aL {l : List UInt8} {p : Nat} {x : UInt8} (h : l[p]? = some x) : (Br l)[p]? = some (x.toNat : Int) := by unfold Br; rw [List.getElem?_map, h]; rfl
structure EB (W0 : World) (q : Option Addr) (c : Nat) (l : List UInt8) : Prop where
 lies : CL (.slice q l.length c) (Br l) W0
 n : l.length ≤ 1100000
theorem EB.cell {W0 : World} {q : Option Addr} {c : Nat} {l : List UInt8} (h : EB W0 q c l) {p : Nat} (hp : p < l.length) : ∃ b off x, q = some ⟨b, off, none⟩ ∧ l[p]? = some x ∧ W0.cell? ⟨b, off + p, none⟩ = some (.int .u8 (x.toNat : Int)) := by
 have hx : l[p]? = some l[p] := List.getElem?_eq_getElem hp
 obtain ⟨b, off, c', e, _, hc⟩ := h.lies.some (fun e => by have := congrArg List.length e; rw [Ap] at this; simp only [List.length_nil] at this; omega)
 injection e with e1 _ _
 exact ⟨b, off, l[p], e1, hx, hc p _ (aL hx)⟩
theorem N3 {l : List UInt8} {p : Nat} {x : UInt8} (pd : UInt8 → Bool) (h : l[p]? = some x) : one pd (l.drop p) = pd x := by
 rw [List.drop_eq_getElem_cons (List.getElem?_eq_some_iff.1 h).1]
 show pd _ = _
 rw [(List.getElem?_eq_some_iff.1 h).2]
theorem D4 {l : List UInt8} {p : Nat} (pd : UInt8 → Bool) (h : l.length ≤ p) : one pd (l.drop p) = false := by rw [List.drop_eq_nil_of_le h]; rfl
theorem TP {l : List UInt8} {p : Nat} {x : UInt8} (h : l[p]? = some x) : GN (l.drop p) = x.toNat := by
 rw [List.drop_eq_getElem_cons (List.getElem?_eq_some_iff.1 h).1]
 show UInt8.toNat _ = _
 rw [(List.getElem?_eq_some_iff.1 h).2]
theorem aM {l : List UInt8} {p : Nat} (h : l.length ≤ p) : GN (l.drop p) = 0 := by rw [List.drop_eq_nil_of_le h]; rfl
def LK (q : Option Addr) (c : Nat) (l : List UInt8) (p : Nat) : List Value := [.slice q l.length c, .int .i64 (p : Int)]
def Ah (br : Nat) (q : Option Addr) (c : Nat) (l : List UInt8) (p : Nat) : AT := .blk br (LK q c l p) 93
def Qx (s : ByteArray) (pd : UInt8 → Bool) : Prop := ∀ x, pd x = decide (x ∈ s.data.toList)
theorem KP (l : List UInt8) (x : UInt8) : (Lib.indexByte l x < 0) ↔ x ∉ l := by
 rcases Int.lt_or_le (Lib.indexByte l x) 0 with h | h
 ·
  have h1 := Lib.indexByte_ge l x
  refine ⟨fun _ hm => ?_, fun _ => h⟩
  obtain ⟨k, hk⟩ := List.mem_iff_getElem?.1 hm
  exact Lib.indexByte_none (by omega) k hk
 ·
  refine ⟨fun h2 => by omega, fun hm => ?_⟩
  obtain ⟨o, ho⟩ : ∃ o : Nat, Lib.indexByte l x = (o : Int) := ⟨(Lib.indexByte l x).toNat, by omega⟩
  exact absurd (List.mem_of_getElem? (Lib.indexByte_some ho).1) hm
theorem IR (s : ByteArray) (x : UInt8) (w : World) : Ae Tryz.prog 136 [.string s, .int .u8 (x.toNat : Int)] w (.int .i64 (Lib.indexByte s.data.toList x)) := by
 have h := Tryz.strings_IndexByte s (x.toNat : Int) w
 rw [show ((x.toNat : Int)).toNat.toUInt8 = x by simp] at h
 exact h.mono fun _ _ ⟨he, hw⟩ => ⟨he, by rw [hw]; exact Bd.refl _ _⟩
theorem LL (W0 : World) (br : Nat) (q : Option Addr) (c : Nat) (l : List UInt8) (ht : EB W0 q c l) (p : Nat) (hp : p ≤ l.length) (w0 : World) (h : (Ah br q c l p).φ w0) (ho : AQ W0 w0) (hb : W0.heap.size ≤ br) :
 CV Tryz.prog 93 [.pointer (some ⟨br, 0, none⟩)] w0 (Ah br q c l p) (fun _ : Unit => .int .u8 (GN (l.drop p) : Int)) (fun _ => Ah br q c l p) := by
 have hn := ht.n
 refine En [Ah br q c l p, AG W0] (fun k => k = br) Tryz.func93 Tryz.ntmps93 (B3 (BE h) (B3 (BB ho) DN)) (CT (CK (fun k h1 h2 => by have h1 : k = br := h1; have h2 : k < W0.heap.size := h2; omega) CU) Bi) (A9 (fun _ hb => hb) (BP rfl Aw)) ?_
 intro a hS
 refine Wq 2 hS ?_; intro a hS
 unfold Ah LK at hS
 refine Wh 5 hS ?_
 refine Dr 10 [] [.blk br [.slice q l.length c, .int .i64 (p : Int)] 93] ?_
 refine ZR 10 ?_
 refine Wn 2 ?_
 refine iD (fun hc12 => ?_) fun hc12 => ?_
 ·
  refine Wn 7 ?_
  intro a w hS
  refine Ro hS Tryz.results93 ?_
  exact ⟨(), by rw [aM (by omega)]; rfl, hS.chg, hS.ok (Ah br q c l p) (by repeat constructor), fun b hb => .inl hb⟩
 have hpl : p < l.length := by omega
 obtain ⟨b, off, x, hq, hx, hc⟩ := ht.cell hpl
 subst hq
 refine Wn 3 ?_
 refine Dr 11 [] [.blk br [.slice (some ⟨b, off, none⟩) l.length c, .int .i64 (p : Int)] 93, AG W0] ?_
 refine ZR 9 ?_
 refine Zy rfl (AI rfl BX.1 (fun w hh => by rw [Nat.mul_one]; exact AF (hh (AG W0) (by repeat constructor)) hc)) ?_
 refine ZR 1 ?_
 refine Wn 3 ?_
 intro a w hS
 refine Ro hS Tryz.results93 ?_
 exact ⟨(), by rw [TP hx], hS.chg, hS.ok (Ah br (some ⟨b, off, none⟩) c l p) (by repeat constructor), fun b hb => .inl hb⟩
theorem PR {pd : UInt8 → Bool} : ∀ {L : List UInt8} {k : Nat}, k ≤ (L.takeWhile pd).length → one pd (L.drop k) = decide (k < (L.takeWhile pd).length)
 | [], k, h => by rw [List.drop_nil]; exact (decide_eq_false (by simp)).symm
 | x :: t, 0, _ => by
   show pd x = _
   cases hx : pd x
   · rw [List.takeWhile_cons_of_neg (by rw [hx]; decide)]; rfl
   · rw [List.takeWhile_cons_of_pos hx]; exact (decide_eq_true (by simp)).symm
 | x :: t, k + 1, h => by
   cases hx : pd x
   · rw [List.takeWhile_cons_of_neg (by rw [hx]; decide)] at h; simp at h
   ·
    rw [List.takeWhile_cons_of_pos hx] at h ⊢
    rw [List.drop_succ_cons, PR (by simpa using h)]
    exact decide_eq_decide.2 (by simp)
def Hb (pd : UInt8 → Bool) (L : List UInt8) : Nat := if one pd L then 1 else 0
theorem Gy {pd : UInt8 → Bool} {l : List UInt8} {p : Nat} (hp : p ≤ l.length) : p + Hb pd (l.drop p) ≤ l.length := by
 unfold Hb
 split
 ·
  rename_i h
  rcases Nat.lt_or_ge p l.length with h1 | h1
  · omega
  · rw [D4 pd h1] at h; cases h
 · omega
theorem Dw (W0 : World) (br : Nat) (q : Option Addr) (c : Nat) (l : List UInt8) (ht : EB W0 q c l) (s : ByteArray) (pd : UInt8 → Bool) (hs : Qx s pd) (p : Nat) (hp : p ≤ l.length) (w0 : World) (h : (Ah br q c l p).φ w0) (ho : AQ W0 w0) (hb : W0.heap.size ≤ br) :
 CV Tryz.prog 92 [.pointer (some ⟨br, 0, none⟩), .string s] w0 (Ah br q c l p) (fun _ : Unit => .bool (one pd (l.drop p))) (fun _ => Ah br q c l (p + Hb pd (l.drop p))) := by
 have hn := ht.n
 refine En [Ah br q c l p, AG W0] (fun k => k = br) Tryz.func92 Tryz.ntmps92 (B3 (BE h) (B3 (BB ho) DN)) (CT (CK (fun k h1 h2 => by have h1 : k = br := h1; have h2 : k < W0.heap.size := h2; omega) CU) Bi) (A9 (fun _ hb => hb) (BP rfl Aw)) ?_
 intro a hS
 refine Wq 2 hS ?_; intro a hS
 unfold Ah LK at hS
 refine Wh 5 hS ?_
 refine Dr 25 [] [.blk br [.slice q l.length c, .int .i64 (p : Int)] 93, AG W0] ?_
 refine ZR 11 ?_
 intro a w hS
 refine CG 0 (tf 25 0) 29 (.bool (!(one pd (l.drop p)))) hS ?_ ?_
 ·
  intro hcM29
  refine Un hS (Gd 15 ?_ ?_) <;> intro hg15
  ·
   refine ZR 14 ?_
   exact Et 15 29 15 hcM29 rfl (by rw [D4 pd (by omega)]; rfl) hg15
  have hpl : p < l.length := by omega
  obtain ⟨b, off, x, hq, hx, hc⟩ := ht.cell hpl
  subst hq
  refine ZR 10 ?_
  refine Zy rfl (AI rfl BX.1 (fun w hh => by rw [Nat.mul_one]; exact AF (hh (AG W0) (by repeat constructor)) hc)) ?_
  refine Z0 rfl (cP PF (fun _ => IR s x _) ?_)
  refine Za ?_
  refine ZR 2 ?_
  exact Ef 15 29 15 hcM29 rfl (by rw [N3 pd hx, hs x, ← decide_not]; exact decide_eq_decide.2 (KP _ _)) hg15
 ·
  intro a w hS
  refine Wh 2 hS ?_
  refine iB (fun hc29 => ?_) fun hc29 => ?_
  ·
   refine Wn 7 ?_
   intro a w hS
   refine Ro hS Tryz.results92 ?_
   have h0 : one pd (l.drop p) = false := by simpa using hc29
   exact ⟨(), by rw [h0], hS.chg, by unfold Hb; rw [if_neg (by rw [h0]; decide)]; exact hS.ok (Ah br q c l p) (by repeat constructor), fun b hb => .inl hb⟩
  refine Wn 11 ?_
  refine Lo (Sb ?_)
  refine Wn 8 ?_
  intro a w hS
  refine Ro hS Tryz.results92 ?_
  have h1 : one pd (l.drop p) = true := by simpa using hc29
  exact ⟨(), by rw [h1], hS.chg, by unfold Hb; rw [if_pos h1]; exact hS.ok (Ah br q c l (p + 1)) (by repeat constructor), fun b hb => .inl hb⟩
def pF : ByteArray := ⟨#[32, 9, 10, 13]⟩
theorem WM : Qx pF Yg := fun x => by
 unfold Yg pF
 refine decide_eq_decide.2 ?_
 simp only [List.mem_cons, List.not_mem_nil, or_false]
 have e : ∀ y : UInt8, x = y ↔ x.toNat = y.toNat := fun y => ⟨fun h => by rw [h], fun h => UInt8.toNat_inj.1 h⟩
 rw [e, e, e, e]
 exact Iff.rfl
theorem LM (L : List UInt8) : Ag L ≤ L.length := (List.takeWhile_sublist _).length_le
theorem TQ (L : List UInt8) : MT L ≤ L.length := (List.takeWhile_sublist _).length_le
theorem Ch (W0 : World) (br : Nat) (q : Option Addr) (c : Nat) (l : List UInt8) (ht : EB W0 q c l) (p : Nat) (hp : p ≤ l.length) (w0 : World) (h : (Ah br q c l p).φ w0) (ho : AQ W0 w0) (hb : W0.heap.size ≤ br) :
 CV Tryz.prog 33 [.pointer (some ⟨br, 0, none⟩)] w0 (Ah br q c l p) (fun _ : Unit => .tuple [].toArray) (fun _ => Ah br q c l (p + Ag (l.drop p))) := by
 have hle : Ag (l.drop p) ≤ l.length - p := by have := LM (l.drop p); rwa [List.length_drop] at this
 refine En [Ah br q c l p, AG W0] (fun k => k = br) Tryz.func33 Tryz.ntmps33 (B3 (BE h) (B3 (BB ho) DN)) (CT (CK (fun k h1 h2 => by have h1 : k = br := h1; have h2 : k < W0.heap.size := h2; omega) CU) Bi) (A9 (fun _ hb => hb) (BP rfl Aw)) ?_
 intro a hS
 refine Wq 1 hS ?_; intro a hS
 refine AW (γ := Nat) (fun k a w => St 4 (fun k => k = br) w0 a w [(0, .pointer (some ⟨br, 0, none⟩))] [Ah br q c l (p + k), AG W0] ∧ k ≤ Ag (l.drop p)) (fun k => Ag (l.drop p) - k) 0 ⟨hS.sq, Nat.zero_le _⟩ ?_
 intro k a w hI
 obtain ⟨hS, hk⟩ := hI
 have h1 := PR (pd := Yg) (L := l.drop p) (k := k) hk
 rw [List.drop_drop] at h1
 refine Wh 4 hS ?_
 refine Lo (cM IB (fun hS => Dw W0 br q c l ht pF Yg WM (p + k) (by omega) _ (hS.gg (X := Ah br q c l (p + k))) hS.od hb) ?_); intro x3
 intro a w hS
 unfold Hb at hS; rw [h1] at hS; simp only [decide_eq_true_eq] at hS
 refine Wh 2 hS ?_
 refine iD (fun hc3 => ?_) fun hc3 => ?_
 ·
  intro a w hS
  rw [if_pos hc3] at hS
  refine Wq 5 hS ?_; intro a hS
  exact ⟨k + 1, by have h2 : k < Ag (l.drop p) := hc3; omega, hS.sq, hc3⟩
 intro a w hS
 rw [if_neg hc3] at hS
 refine Wq 1 hS ?_; intro a hS
 refine AH (AH (Aj ?_))
 refine CS ?_
 refine Rm hS Tryz.results33 ?_
 obtain rfl : k = Ag (l.drop p) := by have h2 : ¬ k < Ag (l.drop p) := hc3; omega
 exact ⟨(), rfl, hS.chg, hS.ok (Ah br q c l (p + Ag (l.drop p))) (by repeat constructor), fun b hb => .inl hb⟩
def B6 (E : Int → Prop) (v : Value) : Prop := ∃ p e : Int, E e ∧ v = .iface 95 (.agg [.int .i64 p, .int .i64 e].toArray)
def Fe (e : Int) : Prop := e ≠ 0
theorem DF (E : Int → Prop) (v : Value) (p e : Int) (he : E e) (X : AT) (w0 : World) (hX : X.ok w0) (hm : X.mine = true) : Du Tryz.prog 94 [v, .int .i64 p, .int .i64 e] w0 (B6 E) X (fun x : Empty => nomatch x) (fun x => nomatch x) := by
 refine Eo (fun k => X.F k) Tryz.func94 Tryz.ntmps94 ?_
 intro a hS
 refine Wh 4 hS ?_
 refine Xp (PO rfl PG.1) ?_
 intro a w hS
 refine Aa (PP hS rfl ?_)
 exact ⟨hS.sl.defers, .inr ⟨_, ⟨p, e, he, rfl⟩, rfl, hS.chg⟩⟩
theorem C9 (br : Nat) (q : Option Addr) (c : Nat) (l : List UInt8) (p : Nat) (w0 : World) (h : (Ah br q c l p).φ w0) : Du Tryz.prog 35 [.pointer (some ⟨br, 0, none⟩)] w0 (B6 Fe) (Ah br q c l p) (fun x : Empty => nomatch x) (fun x => nomatch x) := by
 refine En [Ah br q c l p] (fun k => k = br) Tryz.func35 Tryz.ntmps35 (B3 (BE h) DN) Bi (A9 (fun _ hb => hb) Aw) ?_
 intro a hS
 refine Wq 1 hS ?_; intro a hS
 unfold Ah LK at hS
 refine Wq 5 hS ?_; intro a hS
 refine Aa (cY hS IC (DF Fe (.pointer (some ⟨br, 0, none⟩)) (p : Int) 11 (show (11 : Int) ≠ 0 by decide) (.blk br [.slice q l.length c, .int .i64 (p : Int)] 93) _ (hS.ok _ (.head _)) rfl) ?_ ?_)
 ·
  intro vp wp hvp hdp hcp
  exact ⟨hdp, .inr ⟨vp, hvp, rfl, hcp⟩⟩
 intro x7 a w hS
 exact x7.elim
theorem Gz (W0 : World) (br : Nat) (q : Option Addr) (c : Nat) (l : List UInt8) (ht : EB W0 q c l) (z : Nat) (p : Nat) (hp : p ≤ l.length) (w0 : World) (h : (Ah br q c l p).φ w0) (ho : AQ W0 w0) (hb : W0.heap.size ≤ br) :
 Du Tryz.prog 100 [.pointer (some ⟨br, 0, none⟩), .int .u8 (z : Int)] w0 (fun v => B6 Fe v ∧ one (CZ z) (l.drop p) = false) (Ah br q c l p) (fun _ : { u : Unit // one (CZ z) (l.drop p) = true } => .tuple [].toArray) (fun _ => Ah br q c l (p + 1)) := by
 have hn := ht.n
 refine En [Ah br q c l p, AG W0] (fun k => k = br) Tryz.func100 Tryz.ntmps100 (B3 (BE h) (B3 (BB ho) DN)) (CT (CK (fun k h1 h2 => by have h1 : k = br := h1; have h2 : k < W0.heap.size := h2; omega) CU) Bi) (A9 (fun _ hb => hb) (BP rfl Aw)) ?_
 intro a hS
 refine Wh 2 hS ?_
 refine Dr 24 [] [.blk br [.slice q l.length c, .int .i64 (p : Int)] 93, AG W0] ?_
 intro a w hS
 unfold Ah LK at hS
 refine Un hS (ZR 11 ?_)
 intro a w hS
 refine CG 0 (tf 24 0) 27 (.bool (!(one (CZ z) (l.drop p)))) hS ?_ ?_
 ·
  intro hcM27
  refine Un hS (Gd 14 ?_ ?_) <;> intro hg14
  ·
   refine ZR 13 ?_
   exact Et 14 27 14 hcM27 rfl (by rw [D4 (CZ z) (by omega)]; rfl) hg14
  have hpl : p < l.length := by omega
  obtain ⟨b, off, x, hq, hx, hc⟩ := ht.cell hpl
  subst hq
  refine ZR 9 ?_
  refine Zy rfl (AI rfl BX.1 (fun w hh => by rw [Nat.mul_one]; exact AF (hh (AG W0) (by repeat constructor)) hc)) ?_
  refine ZR 3 ?_
  exact Ef 14 27 14 hcM27 rfl (by rw [N3 (CZ z) hx]; unfold CZ; rw [← decide_not]; exact decide_eq_decide.2 (by omega)) hg14
 ·
  intro a w hS
  refine Wh 2 hS ?_
  refine iB (fun hc27 => ?_) fun hc27 => ?_
  ·
   refine Wn 2 ?_
   intro a w hS
   refine Aa (cY hS J0 (C9 br q c l p _ (hS.gg (X := Ah br q c l p))) ?_ ?_)
   ·
    intro vp wp hvp hdp hcp
    refine AS ?_
    exact ⟨hdp, .inr ⟨vp, ⟨hvp, by simpa using hc27⟩, rfl, hcp⟩⟩
   intro x29 a w hS
   exact x29.elim
  refine Wn 10 ?_
  refine Lo (Sb ?_)
  refine Wn 1 ?_
  intro a w hS
  refine CS ?_
  refine Rm hS Tryz.results100 ?_
  exact .inl ⟨⟨(), by simpa using hc27⟩, rfl, hS.chg, hS.ok (Ah br q c l (p + 1)) (by repeat constructor), fun b hb => .inl hb⟩
def mO : ByteArray := ⟨#[48, 49, 50, 51, 52, 53, 54, 55, 56, 57]⟩
theorem PS : Qx mO MS := fun x => by
 unfold MS mO
 refine decide_eq_decide.2 ?_
 simp only [List.mem_cons, List.not_mem_nil, or_false]
 have e : ∀ y : UInt8, x = y ↔ x.toNat = y.toNat := fun y => ⟨fun h => by rw [h], fun h => UInt8.toNat_inj.1 h⟩
 rw [e, e, e, e, e, e, e, e, e, e]
 show _ ↔ x.toNat = 48 ∨ x.toNat = 49 ∨ x.toNat = 50 ∨ x.toNat = 51 ∨ x.toNat = 52 ∨ x.toNat = 53 ∨ x.toNat = 54 ∨ x.toNat = 55 ∨ x.toNat = 56 ∨ x.toNat = 57
 omega
theorem LN (W0 : World) (br : Nat) (q : Option Addr) (c : Nat) (l : List UInt8) (ht : EB W0 q c l) (p : Nat) (hp : p ≤ l.length) (w0 : World) (h : (Ah br q c l p).φ w0) (ho : AQ W0 w0) (hb : W0.heap.size ≤ br) :
 Du Tryz.prog 142 [.pointer (some ⟨br, 0, none⟩)] w0 (fun v => B6 Fe v ∧ EJ (l.drop p) = none) (Ah br q c l p) (fun _ : { k : Nat // EJ (l.drop p) = some k } => .tuple [].toArray) (fun x => Ah br q c l (p + x.1)) := by
 have hle : MT (l.drop p) ≤ l.length - p := by have := TQ (l.drop p); rwa [List.length_drop] at this
 have h1 : ∀ {k}, k ≤ MT (l.drop p) → one MS (l.drop (p + k)) = decide (k < MT (l.drop p)) := fun {k} hk => by
  have := PR (pd := MS) (L := l.drop p) (k := k) hk
  rwa [List.drop_drop] at this
 have h0 := h1 (Nat.zero_le _)
 rw [Nat.add_zero] at h0
 refine En [Ah br q c l p, AG W0] (fun k => k = br) Tryz.func142 Tryz.ntmps142 (B3 (BE h) (B3 (BB ho) DN)) (CT (CK (fun k h1 h2 => by have h1 : k = br := h1; have h2 : k < W0.heap.size := h2; omega) CU) Bi) (A9 (fun _ hb => hb) (BP rfl Aw)) ?_
 intro a hS
 refine Wh 4 hS ?_
 refine Lo (cM IB (fun hS => Dw W0 br q c l ht mO MS PS p hp _ (hS.gg (X := Ah br q c l p)) hS.od hb) ?_); intro x3
 intro a w hS
 unfold Hb at hS; rw [h0] at hS; simp only [decide_eq_true_eq] at hS
 refine Wh 3 hS ?_
 refine iB (fun hc4 => ?_) fun hc4 => ?_
 ·
  have hz : MT (l.drop p) = 0 := by simpa using hc4
  intro a w hS
  rw [if_neg (by omega)] at hS
  refine Wq 2 hS ?_; intro a hS
  refine Aa (cY hS J0 (C9 br q c l (p + 0) _ (hS.gg (X := Ah br q c l (p + 0)))) ?_ ?_)
  ·
   intro vp wp hvp hdp hcp
   refine AS ?_
   exact ⟨hdp, .inr ⟨vp, ⟨hvp, if_pos hz⟩, rfl, hcp⟩⟩
  intro x6 a w hS
  exact x6.elim
 have hz : 0 < MT (l.drop p) := by simpa using hc4
 intro a w hS
 rw [if_pos hz] at hS
 refine Wq 3 hS ?_; intro a hS
 refine AW (γ := Nat) (fun k a w => St 9 (fun k => k = br) w0 a w [(0, .pointer (some ⟨br, 0, none⟩))] [Ah br q c l (p + k), AG W0] ∧ k ≤ MT (l.drop p)) (fun k => MT (l.drop p) - k) 1 ⟨hS.sq, hz⟩ ?_
 intro k a w hI
 obtain ⟨hS, hk⟩ := hI
 refine Wh 4 hS ?_
 refine Lo (cM IB (fun hS => Dw W0 br q c l ht mO MS PS (p + k) (by omega) _ (hS.gg (X := Ah br q c l (p + k))) hS.od hb) ?_); intro x8
 intro a w hS
 unfold Hb at hS; rw [h1 hk] at hS; simp only [decide_eq_true_eq] at hS
 refine Wh 2 hS ?_
 refine iD (fun hc8 => ?_) fun hc8 => ?_
 ·
  intro a w hS
  rw [if_pos hc8] at hS
  refine Wq 5 hS ?_; intro a hS
  exact ⟨k + 1, by omega, hS.sq, hc8⟩
 intro a w hS
 rw [if_neg hc8] at hS
 refine Wq 1 hS ?_; intro a hS
 refine AH (AH (Aj ?_))
 refine CS ?_
 refine Rm hS Tryz.results142 ?_
 obtain rfl : k = MT (l.drop p) := by omega
 exact .inl ⟨⟨MT (l.drop p), if_neg (by omega)⟩, rfl, hS.chg, hS.ok (Ah br q c l (p + MT (l.drop p))) (by repeat constructor), fun b hb => .inl hb⟩
theorem EM (x : UInt8) : Qx ⟨#[x]⟩ (CZ x.toNat) := fun y => by
 unfold CZ
 refine decide_eq_decide.2 ?_
 simp only [List.mem_cons, List.not_mem_nil, or_false]
 exact ⟨fun h => UInt8.toNat_inj.1 h, fun h => by rw [h]⟩
theorem Mc (x y : UInt8) (pd : UInt8 → Bool) (h : ∀ z, pd z = decide (z.toNat = x.toNat ∨ z.toNat = y.toNat)) : Qx ⟨#[x, y]⟩ pd := fun z => by
 rw [h]
 refine decide_eq_decide.2 ?_
 simp only [List.mem_cons, List.not_mem_nil, or_false]
 have e : ∀ u : UInt8, z = u ↔ z.toNat = u.toNat := fun u => ⟨fun h => by rw [h], fun h => UInt8.toNat_inj.1 h⟩
 rw [e, e]
theorem Hc (l : List UInt8) : strOfNums (Br l) = tx l := by
 unfold strOfNums Br tx
 congr 1
 rw [List.map_map]
 have : ((fun n : Int => UInt8.ofNat n.toNat) ∘ fun b : UInt8 => (b.toNat : Int)) = id := by
  funext b; simp
 rw [this, List.map_id]
theorem Fu (l : List UInt8) (a b : Nat) : ((Br l).take b).drop a = Br ((l.take b).drop a) := by unfold Br; rw [List.map_drop, List.map_take]
theorem PT (L : List UInt8) : Cr L = Hb (CZ 45) L := rfl
theorem WN {l : List UInt8} {p : Nat} (h : Gv (l.drop (p + Cr (l.drop p))) = none) : Cs (l.drop p) = none := by
 unfold Cs; rw [List.drop_drop, h]
theorem WO {l : List UInt8} {p a : Nat} (h : Gv (l.drop (p + Cr (l.drop p))) = some a) (h2 : E3 (l.drop (p + Cr (l.drop p) + a)) = none) : Cs (l.drop p) = none := by
 unfold Cs; rw [List.drop_drop, h]; simp only; rw [List.drop_drop, ← Nat.add_assoc, h2]
theorem WP {l : List UInt8} {p a b : Nat} (h : Gv (l.drop (p + Cr (l.drop p))) = some a) (h2 : E3 (l.drop (p + Cr (l.drop p) + a)) = some b) (h3 : ID (l.drop (p + Cr (l.drop p) + a + b)) = none) : Cs (l.drop p) = none := by
 unfold Cs; rw [List.drop_drop, h]; simp only; rw [List.drop_drop, ← Nat.add_assoc, h2]; simp only; rw [List.drop_drop, ← Nat.add_assoc, ← Nat.add_assoc, h3]
theorem WQ {l : List UInt8} {p a b c : Nat} (h : Gv (l.drop (p + Cr (l.drop p))) = some a) (h2 : E3 (l.drop (p + Cr (l.drop p) + a)) = some b) (h3 : ID (l.drop (p + Cr (l.drop p) + a + b)) = some c) : Cs (l.drop p) = if 40 < Cr (l.drop p) + a + b + c then none else some (Cr (l.drop p) + a + b + c) := by
 unfold Cs; rw [List.drop_drop, h]; simp only; rw [List.drop_drop, ← Nat.add_assoc, h2]; simp only; rw [List.drop_drop, ← Nat.add_assoc, ← Nat.add_assoc, h3]
theorem LO {L : List UInt8} {k : Nat} (h : EJ L = some k) : k ≤ L.length := by
 unfold EJ at h
 split at h
 · cases h
 · injection h with h; rw [← h]; exact TQ L
def TR (s : List UInt8) : Value := .agg [.int .i64 3, .string (tx s), .slice none 0 0, .slice none 0 0].toArray
theorem KQ (W0 : World) (br : Nat) (q : Option Addr) (c : Nat) (l : List UInt8) (ht : EB W0 q c l) (p : Nat) (hp : p ≤ l.length) (w0 : World) (h : (Ah br q c l p).φ w0) (ho : AQ W0 w0) (hb : W0.heap.size ≤ br) :
 Du Tryz.prog 98 [.pointer (some ⟨br, 0, none⟩)] w0 (fun v => B6 Fe v ∧ Cs (l.drop p) = none) (Ah br q c l p) (fun x : { k : Nat // Cs (l.drop p) = some k } => TR ((l.drop p).take x.1)) (fun x => Ah br q c l (p + x.1)) := by
 have hn := ht.n
 obtain ⟨sg, hsg⟩ : ∃ sg, Cr (l.drop p) = sg := ⟨_, rfl⟩
 have hsl := Gy (pd := CZ 45) hp
 rw [← PT, hsg] at hsl
 have dl : ∀ i, (l.drop i).length = l.length - i := fun i => List.length_drop
 refine En [Ah br q c l p, AG W0] (fun k => k = br) Tryz.func98 Tryz.ntmps98 (B3 (BE h) (B3 (BB ho) DN)) (CT (CK (fun k h1 h2 => by have h1 : k = br := h1; have h2 : k < W0.heap.size := h2; omega) CU) Bi) (A9 (fun _ hb => hb) (BP rfl Aw)) ?_
 intro a hS
 refine Wh 2 hS ?_
 refine Lo (Al ?_); intro b2
 refine Wn 4 ?_
 intro a w hS
 unfold Ah LK at hS
 refine Wh 10 hS ?_
 refine Lo (cM IB (fun hS => Dw W0 br q c l ht ⟨#[45]⟩ (CZ 45) (EM 45) p hp _ (hS.gg (X := Ah br q c l p)) hS.od hb) ?_); intro x9
 intro a w hS
 rw [← PT, hsg] at hS
 refine Wq 2 hS ?_; intro a hS
 refine C1 (fun a w => ∃ k, Gv (l.drop (p + sg)) = some k ∧ p + sg + k ≤ l.length ∧ St 47 (fun k => k = br) w0 a w [(3, .int .i64 (p : Int)), (0, .pointer (some ⟨br, 0, none⟩)), (2, .pointer (some ⟨b2, 0, none⟩))] [Ah br q c l (p + sg + k), .blk b2 [.int .i64 0, .string ⟨#[]⟩, .slice none 0 0, .slice none 0 0] 37, AG W0]) ?_ ?_
 ·
  refine Wh 3 hS ?_
  refine Lo (cM IB (fun hS => Dw W0 br q c l ht ⟨#[48]⟩ (CZ 48) (EM 48) (p + sg) hsl _ (hS.gg (X := Ah br q c l (p + sg))) hS.od hb) ?_); intro x11
  refine Wn 3 ?_
  refine iB (fun hc12 => ?_) fun hc12 => ?_
  ·
   have h1 : one (CZ 48) (l.drop (p + sg)) = false := by simpa using hc12
   have h2 : Gv (l.drop (p + sg)) = EJ (l.drop (p + sg)) := by unfold Gv; rw [if_neg (by rw [h1]; decide)]
   intro a w hS
   rw [show Hb (CZ 48) (l.drop (p + sg)) = 0 from if_neg (by rw [h1]; decide), Nat.add_zero] at hS
   refine Wq 2 hS ?_; intro a hS
   refine Aa (cY hS S7 (LN W0 br q c l ht (p + sg) hsl _ (hS.gg (X := Ah br q c l (p + sg))) hS.od hb) ?_ ?_)
   ·
    intro vp wp hvp hdp hcp
    refine AS ?_
    exact ⟨hdp, .inr ⟨vp, ⟨hvp.1, WN (by rw [hsg, h2]; exact hvp.2)⟩, rfl, hcp⟩⟩
   intro x14 a w hS
   refine Wq 1 hS ?_; intro a hS
   exact ⟨x14.1, h2.trans x14.2, by have := LO x14.2; rw [dl] at this; omega, hS.sp⟩
  refine Wn 1 ?_
  have h3 : one (CZ 48) (l.drop (p + sg)) = true := by simpa using hc12
  intro a w hS
  rw [show Hb (CZ 48) (l.drop (p + sg)) = 1 from if_pos h3] at hS
  have h4 := Gy (pd := CZ 48) hsl
  rw [show Hb (CZ 48) (l.drop (p + sg)) = 1 from if_pos h3] at h4
  exact ⟨1, by unfold Gv; rw [if_pos h3], h4, hS.sp⟩
 intro a w hS
 obtain ⟨k1, hk1, hl1, hS⟩ := hS
 refine C1 (fun a w => ∃ k, E3 (l.drop (p + sg + k1)) = some k ∧ p + sg + k1 + k ≤ l.length ∧ St 47 (fun k => k = br) w0 a w [(3, .int .i64 (p : Int)), (0, .pointer (some ⟨br, 0, none⟩)), (2, .pointer (some ⟨b2, 0, none⟩))] [Ah br q c l (p + sg + k1 + k), .blk b2 [.int .i64 0, .string ⟨#[]⟩, .slice none 0 0, .slice none 0 0] 37, AG W0]) ?_ ?_
 ·
  refine Wh 3 hS ?_
  refine Lo (cM IB (fun hS => Dw W0 br q c l ht ⟨#[46]⟩ (CZ 46) (EM 46) (p + sg + k1) hl1 _ (hS.gg (X := Ah br q c l (p + sg + k1))) hS.od hb) ?_); intro x16
  refine Wn 2 ?_
  refine iB (fun hc16 => ?_) fun hc16 => ?_
  ·
   have h4 := Gy (pd := CZ 46) hl1
   intro a w hS
   rw [show Hb (CZ 46) (l.drop (p + sg + k1)) = 1 from if_pos hc16] at h4 hS
   have h2 : E3 (l.drop (p + sg + k1)) = (EJ (l.drop (p + sg + k1 + 1))).map (· + 1) := by unfold E3; rw [if_pos hc16, List.drop_drop]
   refine Wq 2 hS ?_; intro a hS
   refine Aa (cY hS S7 (LN W0 br q c l ht (p + sg + k1 + 1) h4 _ (hS.gg (X := Ah br q c l (p + sg + k1 + 1))) hS.od hb) ?_ ?_)
   ·
    intro vp wp hvp hdp hcp
    refine AS ?_
    exact ⟨hdp, .inr ⟨vp, ⟨hvp.1, WO (by rw [hsg]; exact hk1) (by rw [hsg, h2, hvp.2]; rfl)⟩, rfl, hcp⟩⟩
   intro x18 a w hS
   refine Wq 1 hS ?_; intro a hS
   exact ⟨x18.1 + 1, h2.trans (congrArg (Option.map (· + 1)) x18.2), by have := LO x18.2; rw [dl] at this; omega, by rw [show p + sg + k1 + (x18.1 + 1) = p + sg + k1 + 1 + x18.1 by omega]; exact hS.sp⟩
  refine Wn 1 ?_
  have h3 : ¬ one (CZ 46) (l.drop (p + sg + k1)) = true := by rw [hc16]; decide
  intro a w hS
  rw [show Hb (CZ 46) (l.drop (p + sg + k1)) = 0 from if_neg h3] at hS
  exact ⟨0, by unfold E3; rw [if_neg h3], hl1, hS.sp⟩
 intro a w hS
 obtain ⟨k2, hk2, hl2, hS⟩ := hS
 refine C1 (fun a w => ∃ k, ID (l.drop (p + sg + k1 + k2)) = some k ∧ p + sg + k1 + k2 + k ≤ l.length ∧ St 47 (fun k => k = br) w0 a w [(3, .int .i64 (p : Int)), (0, .pointer (some ⟨br, 0, none⟩)), (2, .pointer (some ⟨b2, 0, none⟩))] [Ah br q c l (p + sg + k1 + k2 + k), .blk b2 [.int .i64 0, .string ⟨#[]⟩, .slice none 0 0, .slice none 0 0] 37, AG W0]) ?_ ?_
 ·
  refine Wh 3 hS ?_
  refine Lo (cM IB (fun hS => Dw W0 br q c l ht ⟨#[101, 69]⟩ jE (Mc 101 69 jE (fun _ => rfl)) (p + sg + k1 + k2) hl2 _ (hS.gg (X := Ah br q c l (p + sg + k1 + k2))) hS.od hb) ?_); intro x20
  refine Wn 2 ?_
  refine iB (fun hc20 => ?_) fun hc20 => ?_
  ·
   have h4 := Gy (pd := jE) hl2
   intro a w hS
   rw [show Hb jE (l.drop (p + sg + k1 + k2)) = 1 from if_pos hc20] at h4 hS
   have h5 := Gy (pd := jK) h4
   refine Wh 3 hS ?_
   refine Lo (cM IB (fun hS => Dw W0 br q c l ht ⟨#[43, 45]⟩ jK (Mc 43 45 jK (fun _ => rfl)) (p + sg + k1 + k2 + 1) h4 _ (hS.gg (X := Ah br q c l (p + sg + k1 + k2 + 1))) hS.od hb) ?_); intro x22
   obtain ⟨s2, hs2⟩ : ∃ s2, Hb jK (l.drop (p + sg + k1 + k2 + 1)) = s2 := ⟨_, rfl⟩
   intro a w hS
   rw [hs2] at h5 hS
   have h2 : ID (l.drop (p + sg + k1 + k2)) = (EJ (l.drop (p + sg + k1 + k2 + 1 + s2))).map (· + (1 + s2)) := by
    unfold ID
    rw [if_pos hc20, List.drop_drop, show mM (l.drop (p + sg + k1 + k2 + 1)) = s2 from hs2, List.drop_drop, ← Nat.add_assoc]
   refine Wq 4 hS ?_; intro a hS
   refine Aa (cY hS S7 (LN W0 br q c l ht (p + sg + k1 + k2 + 1 + s2) h5 _ (hS.gg (X := Ah br q c l (p + sg + k1 + k2 + 1 + s2))) hS.od hb) ?_ ?_)
   ·
    intro vp wp hvp hdp hcp
    refine AS ?_
    exact ⟨hdp, .inr ⟨vp, ⟨hvp.1, WP (by rw [hsg]; exact hk1) (by rw [hsg]; exact hk2) (by rw [hsg, h2, hvp.2]; rfl)⟩, rfl, hcp⟩⟩
   intro x24 a w hS
   refine Wq 1 hS ?_; intro a hS
   exact ⟨x24.1 + (1 + s2), h2.trans (congrArg (Option.map (· + (1 + s2))) x24.2), by have := LO x24.2; rw [dl] at this; omega, by rw [show p + sg + k1 + k2 + (x24.1 + (1 + s2)) = p + sg + k1 + k2 + 1 + s2 + x24.1 by omega]; exact hS.sp⟩
  refine Wn 1 ?_
  have h3 : ¬ one jE (l.drop (p + sg + k1 + k2)) = true := by rw [hc20]; decide
  intro a w hS
  rw [show Hb jE (l.drop (p + sg + k1 + k2)) = 0 from if_neg h3] at hS
  exact ⟨0, by unfold ID; rw [if_neg h3], hl2, hS.sp⟩
 intro a w hS
 obtain ⟨k3, hk3, hl3, hS⟩ := hS
 have hend := WQ (l := l) (p := p) (by rw [hsg]; exact hk1) (by rw [hsg]; exact hk2) (by rw [hsg]; exact hk3)
 rw [hsg] at hend
 refine Wq 3 hS ?_; intro a hS
 unfold Ah LK at hS
 refine Wh 9 hS ?_
 refine iD (fun hc31 => ?_) fun hc31 => ?_
 ·
  refine Wn 3 ?_
  intro a w hS
  refine Aa (cY hS IC (DF Fe (.pointer (some ⟨br, 0, none⟩)) (p : Int) 8 (show (8 : Int) ≠ 0 by decide) (.blk br [.slice q l.length c, .int .i64 ((p + sg + k1 + k2 + k3 : Nat) : Int)] 93) _ (hS.ok _ (by repeat constructor)) rfl) ?_ ?_)
  ·
   intro vp wp hvp hdp hcp
   refine AS ?_
   exact ⟨hdp, .inr ⟨vp, ⟨hvp, by rw [hend, if_pos (by omega)]⟩, rfl, hcp⟩⟩
  intro x34 a w hS
  exact x34.elim
 have hfin : Cs (l.drop p) = some (sg + k1 + k2 + k3) := by rw [hend, if_neg (by omega)]
 have hcap : l.length ≤ c ∨ l.length = 0 := by
  rcases Nat.eq_zero_or_pos l.length with h0 | h0
  · exact .inr h0
  ·
   obtain ⟨b, off, c', e, h1, _⟩ := ht.lies.some (fun e => by have := congrArg List.length e; rw [Ap] at this; simp only [List.length_nil] at this; omega)
   injection e with _ _ e3
   rw [Ap] at h1; exact .inl (by omega)
 refine Wn 3 ?_
 refine Dr 13 [12] [.blk br [.slice q l.length c, .int .i64 ((p + sg + k1 + k2 + k3 : Nat) : Int)] 93, AG W0] ?_
 refine ZR 9 ?_
 refine Zx rfl (PQ (i := p) (j := p + sg + k1 + k2 + k3) rfl rfl rfl AZ.1 BL.1 ⟨by omega, by omega⟩) ?_
 refine Zy rfl (KO (l := ((Br l).take (p + sg + k1 + k2 + k3)).drop p) rfl AZ.1 C7.1 Dp.1 (fun w hh => (Ha (hh (AG W0) (by repeat constructor)) ht.lies).piece (by omega) hl3)) ?_
 refine ZR 1 ?_
 refine Z0 rfl (Sa ?_)
 refine Zl ?_
 refine Wn 3 ?_
 intro a w hS
 refine Ro hS Tryz.results98 ?_
 refine .inl ⟨⟨sg + k1 + k2 + k3, hfin⟩, ?_, hS.chg, ?_, fun b hb => .inl hb⟩
 ·
  rw [Fu, Hc]
  unfold TR
  rw [show (l.take (p + sg + k1 + k2 + k3)).drop p = (l.drop p).take (sg + k1 + k2 + k3) by rw [List.take_drop, Nat.add_assoc, Nat.add_assoc, Nat.add_assoc, Nat.add_assoc, Nat.add_assoc]]
 ·
  have h9 := hS.ok (Ah br q c l (p + sg + k1 + k2 + k3)) (by repeat constructor)
  rw [show p + sg + k1 + k2 + k3 = p + (sg + k1 + k2 + k3) by omega] at h9
  exact h9
end Go.Proofs.YtlccmgeclhdegaaGreatDoor
namespace Go.Proofs
open Go.Shelf
def Tryz.lays7d_ren : Go.Shelf.Ren := ⟨fun | 32 => 141 | 49 => 185 | n => n, fun | 30 => 27 | 21 => 21 | 3 => 3 | 0 => 0 | 5 => 5 | 4 => 4 | 33 => 211 | 66 => 200 | 25 => 204 | 69 => 203 | 68 => 202 | n => n, fun | 2 => 0 | 3 => 1 | n => n⟩
theorem Tryz.lays7d : Go.Proofs.Lays7.n32 Tryz.prog Tryz.lays7d_ren := {
  mixed := by kernel_rfl
  f32 := Tryz.func141.trans (congrArg some (by kernel_rfl))
  f49 := Tryz.func185.trans (congrArg some (by kernel_rfl))
  t0 := Tryz.underlying0
  a0 := Tryz.isAgg0
  z0 := Tryz.sizeOf0
  v0 := Tryz.zeroValue0
  i0 := by kernel_rfl
  t3 := Tryz.underlying3
  a3 := Tryz.isAgg3
  z3 := Tryz.sizeOf3
  v3 := Tryz.zeroValue3
  i3 := by kernel_rfl
  t4 := Tryz.underlying4
  a4 := Tryz.isAgg4
  z4 := Tryz.sizeOf4
  v4 := Tryz.zeroValue4
  i4 := by kernel_rfl
  t5 := Tryz.underlying5
  a5 := Tryz.isAgg5
  z5 := Tryz.sizeOf5
  v5 := Tryz.zeroValue5
  i5 := by kernel_rfl
  t21 := Tryz.underlying21
  a21 := Tryz.isAgg21
  z21 := Tryz.sizeOf21
  v21 := Tryz.zeroValue21
  i21 := by kernel_rfl
  t25 := Tryz.underlying204
  a25 := Tryz.isAgg204
  z25 := Tryz.sizeOf204
  v25 := Tryz.zeroValue204
  i25 := by kernel_rfl
  t30 := Tryz.underlying27
  a30 := Tryz.isAgg27
  z30 := Tryz.sizeOf27
  v30 := Tryz.zeroValue27
  i30 := by kernel_rfl
  t33 := Tryz.underlying211
  a33 := Tryz.isAgg211
  z33 := Tryz.sizeOf211
  v33 := Tryz.zeroValue211
  i33 := by kernel_rfl
  t66 := Tryz.underlying200
  a66 := Tryz.isAgg200
  z66 := Tryz.sizeOf200
  t68 := Tryz.underlying202
  a68 := Tryz.isAgg202
  z68 := Tryz.sizeOf202
  v68 := Tryz.zeroValue202
  i68 := by kernel_rfl
  t69 := Tryz.underlying203
  a69 := Tryz.isAgg203
  z69 := Tryz.sizeOf203
  v69 := Tryz.zeroValue203
  i69 := by kernel_rfl
  g2 := by kernel_rfl
  g3 := by kernel_rfl }
end Go.Proofs
namespace Go.Proofs.YtlccmgeclhdegaaGreatDoor
open Go.RowKit
section
section
variable {P : Program} {n : NN} {a : Act} {L : List (Nat × Value)} {Γ : List AT} {dst : Option Nat} {ty : Nat} {pos : String} {af : Array Edge} {g : Option (Nat × Bool)}
theorem Ym {T s b i : Nat} {x y : Operand} {k : IntKind} (hx : ev L x = some (.pointer (some ⟨b, 0, none⟩))) (hy : ev L y = some (.int k (i : Int))) (hT : P.underlying T = some (.array (P.arrayLen T) (P.elem T))) (hs : BS P (P.elem T) = some s) (hi : i < P.arrayLen T) :
 Ex P n a L Γ ⟨dst, .indexAddr T x y, ty, pos, af, g⟩ (.pointer (some ⟨b, i * s, none⟩)) := fun hs' w _ => by
 have h1 := run_indexAt_array (P := P) (w := w) T ⟨b, 0, none⟩ k (i : Int) hT
 rw [if_pos ⟨by omega, by omega⟩, Bg hs] at h1
 simp only [Result.andThen_ok, Int.toNat_natCast, BH, Nat.zero_add] at h1
 simp [execOp, hs'.ev hx, hs'.ev hy, h1]
theorem jP {t t' : TypeId} {x : Operand} {k k' : IntKind} {i : Int} {j : Nat} (hx : ev L x = some (.int k i)) (hj : j ≤ k.bits) :
 Ex P n a L Γ ⟨dst, .binOp .shr t x (.const (.int k' (j : Int))) t', ty, pos, af, g⟩ (.int k (i / 2 ^ j)) := fun hs w _ => by
 have he : a.eval (.const (.int k' (j : Int))) = .int k' (j : Int) := rfl
 have h : ¬ (j : Int) < 0 := by omega
 simp only [execOp, hs.ev hx, he, eqGuard, binOp, Op.shift, Sem.run_bind]
 simp [h, Nat.min_eq_left hj]
 rw [Int.fdiv_eq_ediv_of_nonneg]
 exact Int.le_of_lt (Int.pow_pos (by decide))
theorem aN {t t' : TypeId} {x y : Operand} {k : IntKind} {i j : Int} (hx : ev L x = some (.int k i)) (hy : ev L y = some (.int k j)) : Ex P n a L Γ ⟨dst, .binOp .and t x y t', ty, pos, af, g⟩ (.int k (bits .and k i j)) := fun hs w _ => by
 simp [execOp, hs.ev hx, hs.ev hy, eqGuard, binOp, intBits_and]
theorem aO {t t' : TypeId} {x y : Operand} {k : IntKind} {i j : Int} (hx : ev L x = some (.int k i)) (hy : ev L y = some (.int k j)) : Ex P n a L Γ ⟨dst, .binOp .or t x y t', ty, pos, af, g⟩ (.int k (bits .or k i j)) := fun hs w _ => by
 simp [execOp, hs.ev hx, hs.ev hy, eqGuard, binOp, intBits_or]
end
theorem Qy : ∀ b : Fin 256, bits .and .u8 ((Lib.firstT b.val : Nat) : Int) 7 = ((Lib.firstT b.val % 8 : Nat) : Int) := by decide +kernel
theorem TS : ∀ b : Fin 256, Lib.firstT b.val < 256 ∧ Lib.firstT b.val / 16 < 16 := by decide +kernel
theorem TT : ∀ b : Fin 256, (1 < Lib.firstT b.val % 8 → 128 ≤ b.val) ∧ (b.val / 32 = 6 → 2 ≤ Lib.firstT b.val % 8 ∨ b.val = 192 ∨ b.val = 193) ∧ (b.val / 16 = 14 → Lib.firstT b.val % 8 = 3) ∧ (b.val / 8 = 30 → 4 ≤ Lib.firstT b.val % 8 ∨ 245 ≤ b.val) ∧ (Lib.firstT b.val % 8 ≤ 4) ∧ (1 ≤ Lib.firstT b.val % 8 ∨ b.val < 128) ∧ (b.val / 8 = 30 → Lib.firstT b.val % 8 = 4 ∨ Lib.firstT b.val % 8 = 1) ∧ (b.val / 32 = 6 → Lib.firstT b.val % 8 = 2 ∨ Lib.firstT b.val % 8 = 1) := by decide +kernel
theorem Qz {x : UInt8} {t : List UInt8} (h : (x :: t).length < Lib.firstT x.toNat % 8) : Lib.decodeL (x :: t) = (65533, 1) := by
 have hx := x.toNat_lt
 have hs := TT ⟨x.toNat, hx⟩
 simp only at hs
 obtain ⟨h1, h2, h3, h4, h5, h6, h7, h8⟩ := hs
 have hl : 1 ≤ (x :: t).length := by simp
 rw [Lib.decodeL_N, show ((x :: t).getD 0 0).toNat = x.toNat from rfl]
 unfold Lib.decodeN
 have hb := h1 (by omega)
 rw [if_neg (by omega), if_neg (by omega), if_neg (by omega), if_neg (by omega)]
theorem aP (W0 : World) (hU : Lib.Utf8Tabs 0 1 W0) (q : Option Addr) (c : Nat) (l : List UInt8) (hne : l ≠ []) (ht : EB W0 q c l) (w0 : World) (ho : AQ W0 w0) :
  Bb Tryz.prog 140 [.slice q l.length c] w0 (fun x : { b : Bool // b = false → Lib.decodeL l = (65533, 1) } => .bool x.1) (fun _ => A7) := by
  have hn := ht.n
  obtain ⟨x, t, hl⟩ : ∃ x t, l = x :: t := by cases l with | nil => exact absurd rfl hne | cons x t => exact ⟨x, t, rfl⟩
  have hpos : 0 < l.length := by rw [hl]; simp
  obtain ⟨b, off, x0, hq, hx0, hc0⟩ := ht.cell hpos
  obtain rfl : x0 = x := by rw [hl] at hx0; exact (Option.some.inj hx0).symm
  have hcell : ∀ j, j < l.length → ∃ y : UInt8, W0.cell? ⟨b, off + j, none⟩ = some (.int .u8 (y.toNat : Int)) := fun j hj => by
   obtain ⟨b', off', y, hq', _, hc⟩ := ht.cell hj
   rw [hq] at hq'
   injection hq' with hq'
   injection hq' with e1 e2
   subst e1; subst e2
   exact ⟨y, hc⟩
  subst hq
  have hxl := x0.toNat_lt
  have hf := hU.1 x0.toNat hxl
  have hlt := TS ⟨x0.toNat, hxl⟩
  have hand := Qy ⟨x0.toNat, hxl⟩
  simp only at hlt hand
  refine Ew Ai Tryz.func140 Tryz.ntmps140 ho ?_
  intro a hS
  refine Wh 19 hS ?_
  refine Ie 9 false rfl (decide_eq_false (by omega)) ?_
  refine Wn 6 ?_
  refine Xp (BI (i := 0) rfl rfl AZ.1 BL.1 (by omega)) ?_
  refine Xp (AI rfl BX.1 (fun w hh => by rw [Nat.mul_one]; exact AF (hh (AG W0) (by repeat constructor)) hc0)) ?_
  refine Xp (Ym (i := x0.toNat) rfl rfl (by kernel_rfl) (s := 1) (by kernel_rfl) (show x0.toNat < 256 from hxl)) ?_
  refine Xp (AI rfl BX.1 (fun w hh => by rw [Nat.mul_one]; exact AF (hh (AG W0) (by repeat constructor)) hf)) ?_
  refine Wn 8 ?_
  refine Xp (aN rfl rfl) ?_
  intro a w hS
  rw [hand] at hS
  refine Un hS (Xp (IL rfl C7.1 Is.1 (by omega)) ?_)
  refine Wn 3 ?_
  refine iD (fun hc19 => ?_) fun hc19 => ?_
  ·
   refine Wn 7 ?_
   intro a w hS
   refine Ro hS Tryz.results140 ?_
   exact ⟨⟨true, fun h => by cases h⟩, rfl, hS.chg, AL _, fun b hb => hb.elim⟩
  have hsh : Lib.decodeL l = (65533, 1) := by rw [hl]; exact Qz (by rw [← hl]; omega)
  obtain ⟨ix, hix⟩ : ∃ ix, Lib.firstT x0.toNat / 16 = ix := ⟨_, rfl⟩
  rw [hix] at hlt
  have hac := hU.2 ix hlt.2
  refine Wn 5 ?_
  refine Xp (jP (j := 4) rfl (by decide)) ?_
  intro a w hS
  rw [show ((Lib.firstT x0.toNat : Nat) : Int) / 2 ^ 4 = ((Lib.firstT x0.toNat / 16 : Nat) : Int) by omega, hix] at hS
  refine Un hS (Xp (Ym (i := ix) rfl rfl (by kernel_rfl) (s := 2) (by kernel_rfl) (show ix < 16 from hlt.2)) ?_)
  intro a w hS
  refine Aa (FU hS (BV (l := [.int .u8 (Lib.accLo ix : Int), .int .u8 (Lib.accHi ix : Int)]) rfl S4.1 S3.1 (fun w hh j v hj => by
 match j, hj with
 | 0, hj => injection hj with hj; subst hj; rw [Nat.mul_comm]; exact AF (hh (AG W0) (by repeat constructor)) hac.1
 | 1, hj => injection hj with hj; subst hj; rw [Nat.mul_comm]; exact AF (hh (AG W0) (by repeat constructor)) hac.2)) rfl ?_); intro a hS
  refine Un hS (Lo (Al ?_)); intro b5
  refine Lo (Sa ?_)
  refine Wn 4 ?_
  refine Dr 18 [] [.blk b5 [.int .u8 (Lib.accLo ix : Int), .int .u8 (Lib.accHi ix : Int)] 202, AG W0] ?_
  refine ZR 3 ?_
  refine Gd 26 ?_ ?_ <;> intro hg26
  ·
   obtain ⟨y1, hy1⟩ := hcell 1 (by omega)
   refine ZR 1 ?_
   refine Zx rfl (BI (i := 1) rfl rfl AZ.1 BL.1 (by omega)) ?_
   refine Zy rfl (AI rfl BX.1 (fun w hh => by rw [Nat.mul_one]; exact AF (hh (AG W0) (by repeat constructor)) hy1)) ?_
   refine ZR 4 ?_
   refine Gd 33 ?_ ?_ <;> intro hg33
   ·
    refine ZR 8 ?_
    refine Wn 10 ?_
    intro a w hS
    refine Ro hS Tryz.results140 ?_
    exact ⟨⟨true, fun h => by cases h⟩, rfl, hS.chg, AL _, fun b hb => hb.elim⟩
   refine ZR 3 ?_
   refine Zx rfl (BI (i := 1) rfl rfl AZ.1 BL.1 (by omega)) ?_
   refine Zy rfl (AI rfl BX.1 (fun w hh => by rw [Nat.mul_one]; exact AF (hh (AG W0) (by repeat constructor)) hy1)) ?_
   refine ZR 3 ?_
   refine Wn 2 ?_
   refine iD (fun hc41 => ?_) fun hc41 => ?_
   ·
    refine Wn 7 ?_
    intro a w hS
    refine Ro hS Tryz.results140 ?_
    exact ⟨⟨true, fun h => by cases h⟩, rfl, hS.chg, AL _, fun b hb => hb.elim⟩
   refine Wn 5 ?_
   refine Gd 44 ?_ ?_ <;> intro hg44
   ·
    obtain ⟨y2, hy2⟩ := hcell 2 (by omega)
    refine Wn 1 ?_
    refine Xg (BI (i := 2) rfl rfl AZ.1 BL.1 (by omega)) ?_
    refine Xg (AI rfl BX.1 (fun w hh => by rw [Nat.mul_one]; exact AF (hh (AG W0) (by repeat constructor)) hy2)) ?_
    refine Wn 2 ?_
    refine Gd 49 ?_ ?_ <;> intro hg49
    ·
     refine Wn 16 ?_
     intro a w hS
     refine Ro hS Tryz.results140 ?_
     exact ⟨⟨true, fun h => by cases h⟩, rfl, hS.chg, AL _, fun b hb => hb.elim⟩
    refine Wn 1 ?_
    refine Xg (BI (i := 2) rfl rfl AZ.1 BL.1 (by omega)) ?_
    refine Xg (AI rfl BX.1 (fun w hh => by rw [Nat.mul_one]; exact AF (hh (AG W0) (by repeat constructor)) hy2)) ?_
    refine Wn 5 ?_
    refine iD (fun hc55 => ?_) fun hc55 => ?_
    ·
     refine Wn 7 ?_
     intro a w hS
     refine Ro hS Tryz.results140 ?_
     exact ⟨⟨true, fun h => by cases h⟩, rfl, hS.chg, AL _, fun b hb => hb.elim⟩
    refine Wn 8 ?_
    intro a w hS
    refine Ro hS Tryz.results140 ?_
    exact ⟨⟨false, fun _ => hsh⟩, rfl, hS.chg, AL _, fun b hb => hb.elim⟩
   refine Wn 22 ?_
   intro a w hS
   refine Ro hS Tryz.results140 ?_
   exact ⟨⟨false, fun _ => hsh⟩, rfl, hS.chg, AL _, fun b hb => hb.elim⟩
  refine ZR 15 ?_
  refine Wn 8 ?_
  refine Gd 44 ?_ ?_ <;> intro hg44
  ·
   obtain ⟨y2, hy2⟩ := hcell 2 (by omega)
   refine Wn 1 ?_
   refine Xg (BI (i := 2) rfl rfl AZ.1 BL.1 (by omega)) ?_
   refine Xg (AI rfl BX.1 (fun w hh => by rw [Nat.mul_one]; exact AF (hh (AG W0) (by repeat constructor)) hy2)) ?_
   refine Wn 2 ?_
   refine Gd 49 ?_ ?_ <;> intro hg49
   ·
    refine Wn 16 ?_
    intro a w hS
    refine Ro hS Tryz.results140 ?_
    exact ⟨⟨true, fun h => by cases h⟩, rfl, hS.chg, AL _, fun b hb => hb.elim⟩
   refine Wn 1 ?_
   refine Xg (BI (i := 2) rfl rfl AZ.1 BL.1 (by omega)) ?_
   refine Xg (AI rfl BX.1 (fun w hh => by rw [Nat.mul_one]; exact AF (hh (AG W0) (by repeat constructor)) hy2)) ?_
   refine Wn 5 ?_
   refine iD (fun hc55 => ?_) fun hc55 => ?_
   ·
    refine Wn 7 ?_
    intro a w hS
    refine Ro hS Tryz.results140 ?_
    exact ⟨⟨true, fun h => by cases h⟩, rfl, hS.chg, AL _, fun b hb => hb.elim⟩
   refine Wn 8 ?_
   intro a w hS
   refine Ro hS Tryz.results140 ?_
   exact ⟨⟨false, fun _ => hsh⟩, rfl, hS.chg, AL _, fun b hb => hb.elim⟩
  refine Wn 22 ?_
  intro a w hS
  refine Ro hS Tryz.results140 ?_
  exact ⟨⟨false, fun _ => hsh⟩, rfl, hS.chg, AL _, fun b hb => hb.elim⟩
end
def hx (L : List UInt8) (j : Nat) : Option Nat := match L[j]? with
 | some c => F7 c.toNat
 | none => none
theorem G0 (L : List UInt8) : Ed L = match hx L 0, hx L 1, hx L 2, hx L 3 with | some x, some y, some z, some u => some (((x * 16 + y) * 16 + z) * 16 + u) | _, _, _, _ => none := by
 match L with
 | [] => rfl
 | [a] => unfold hx Ed; simp only [List.getElem?_cons_zero, List.getElem?_cons_succ, List.getElem?_nil]; cases F7 a.toNat <;> rfl
 | [a, b] => unfold hx Ed; simp only [List.getElem?_cons_zero, List.getElem?_cons_succ, List.getElem?_nil]; cases F7 a.toNat <;> cases F7 b.toNat <;> rfl
 | [a, b, c] => unfold hx Ed; simp only [List.getElem?_cons_zero, List.getElem?_cons_succ, List.getElem?_nil]; cases F7 a.toNat <;> cases F7 b.toNat <;> cases F7 c.toNat <;> rfl
 | a :: b :: c :: d :: t => rfl
theorem KR {L : List UInt8} {k : Nat} (hk : k < 4) (h : hx L k = none) : Ed L = none := by
 rw [G0]
 match k, hk with
 | 0, _ => rw [h]
 | 1, _ => rw [h]; cases hx L 0 <;> rfl
 | 2, _ => rw [h]; cases hx L 0 <;> cases hx L 1 <;> rfl
 | 3, _ => rw [h]; cases hx L 0 <;> cases hx L 1 <;> cases hx L 2 <;> rfl
theorem PU {L : List UInt8} {x : Nat} (h : Ed L = some x) : 4 ≤ L.length := by
 match L with
 | [] => cases h
 | [_] => cases h
 | [_, _] => cases h
 | [_, _, _] => cases h
 | _ :: _ :: _ :: _ :: t => simp
def TU : ByteArray := ⟨#[48, 49, 50, 51, 52, 53, 54, 55, 56, 57, 97, 98, 99, 100, 101, 102]⟩
theorem WR : ∀ c : Fin 256, bits .or .u8 ((c.val : Nat) : Int) 32 = (((UInt8.ofNat c.val) ||| 32).toNat : Int) := by decide +kernel
theorem TV : ∀ c : Fin 256, (F7 c.val = none ∧ (Lib.indexByte TU.data.toList ((UInt8.ofNat c.val) ||| 32) < 0 ∨ c.val < 48 ∨ (57 < c.val ∧ c.val < 65))) ∨ (¬ (Lib.indexByte TU.data.toList ((UInt8.ofNat c.val) ||| 32) < 0 ∨ c.val < 48 ∨ (57 < c.val ∧ c.val < 65)) ∧ F7 c.val = some (Lib.indexByte TU.data.toList ((UInt8.ofNat c.val) ||| 32)).toNat ∧ Lib.indexByte TU.data.toList ((UInt8.ofNat c.val) ||| 32) ≤ 15) := by decide +kernel
theorem Yn {n x : Nat} (h : F7 n = some x) : x < 16 := by
 unfold F7 at h
 split at h
 · injection h; omega
 ·
  split at h
  · injection h; omega
  ·
   split at h
   · injection h; omega
   · cases h
def G1 (ds : List Nat) : Nat := ds.foldl (fun a d => a * 16 + d) 0
theorem Md : ∀ (ds : List Nat) (a : Nat), (∀ d ∈ ds, d < 16) → ds.foldl (fun a d => a * 16 + d) a < (a + 1) * 16 ^ ds.length
 | [], a, _ => by simp
 | d :: t, a, h => by
   have h1 := Md t (a * 16 + d) (fun x hx => h x (.tail _ hx))
   have h2 := h d (.head _)
   rw [List.foldl_cons, List.length_cons]
   refine Nat.lt_of_lt_of_le h1 ?_
   rw [Nat.pow_succ, Nat.mul_comm (16 ^ t.length) 16, ← Nat.mul_assoc]
   exact Nat.mul_le_mul_right _ (by omega)
theorem TW {ds : List Nat} (h : ∀ d ∈ ds, d < 16) (hl : ds.length ≤ 4) : G1 ds < 65536 := by
 have h1 := Md ds 0 h
 have h2 : 16 ^ ds.length ≤ 16 ^ 4 := Nat.pow_le_pow_right (by decide) hl
 unfold G1
 rw [Nat.zero_add, Nat.one_mul] at h1
 exact Nat.lt_of_lt_of_le h1 h2
theorem TX {L : List UInt8} {ds : List Nat} (hl : ds.length = 4) (h : ∀ j, j < 4 → hx L j = ds[j]?) : Ed L = some (G1 ds) := by
 match ds, hl with
 | [a, b, c, d], _ =>
   rw [G0, h 0 (by decide), h 1 (by decide), h 2 (by decide), h 3 (by decide)]
   simp [G1]
theorem PV (W0 : World) (br : Nat) (q : Option Addr) (c : Nat) (l : List UInt8) (ht : EB W0 q c l) (p : Nat) (hp : p ≤ l.length) (pl : Int) (w0 : World) (h : (Ah br q c l p).φ w0) (ho : AQ W0 w0) (hb : W0.heap.size ≤ br) :
 Du Tryz.prog 184 [.pointer (some ⟨br, 0, none⟩), .int .i64 pl] w0 (fun v => B6 Fe v ∧ Ed (l.drop p) = none) (Ah br q c l p) (fun x : { x : Nat // Ed (l.drop p) = some x } => .int .i32 (x.1 : Int)) (fun _ => Ah br q c l (p + 4)) := by
 have hn := ht.n
 refine En [Ah br q c l p, AG W0] (fun k => k = br) Tryz.func184 Tryz.ntmps184 (B3 (BE h) (B3 (BB ho) DN)) (CT (CK (fun k h1 h2 => by have h1 : k = br := h1; have h2 : k < W0.heap.size := h2; omega) CU) Bi) (A9 (fun _ hb => hb) (BP rfl Aw)) ?_
 intro a hS
 refine Wq 17 hS ?_; intro a hS
 refine AW (γ := List Nat) (fun ds a w => St 66 (fun k => k = br) w0 a w [(5, .int .i32 (G1 ds : Int)), (8, .int .i64 (ds.length : Int)), (0, .pointer (some ⟨br, 0, none⟩)), (1, .int .i64 pl)] [Ah br q c l (p + ds.length), AG W0] ∧ ds.length ≤ 4 ∧ p + ds.length ≤ l.length ∧ (∀ d ∈ ds, d < 16) ∧ ∀ j, j < ds.length → hx (l.drop p) j = ds[j]?) (fun ds => 4 - ds.length) [] ⟨hS.sq, Nat.zero_le _, hp, fun d hd => (by cases hd), fun j hj => absurd hj (Nat.not_lt_zero _)⟩ ?_
 intro ds a w hI
 obtain ⟨hS, hk, hpk, hd16, hxs⟩ := hI
 have hbd := TW hd16 hk
 unfold Ah LK at hS
 refine Wh 6 hS ?_
 refine iD (fun hc9 => ?_) fun hc9 => ?_
 ·
  refine Wn 6 ?_
  refine Dr 10 [] [.blk br [.slice q l.length c, .int .i64 ((p + ds.length : Nat) : Int)] 93] ?_
  refine ZR 10 ?_
  refine Wn 2 ?_
  refine iD (fun hc19 => ?_) fun hc19 => ?_
  ·
   have hno : hx (l.drop p) ds.length = none := by unfold hx; rw [List.getElem?_drop, List.getElem?_eq_none (by omega)]
   refine Wn 2 ?_
   intro a w hS
   refine Aa (cY hS J0 (C9 br q c l (p + ds.length) _ (hS.gg (X := Ah br q c l (p + ds.length)))) ?_ ?_)
   ·
    intro vp wp hvp hdp hcp
    refine AS (AX (AS (AS (AX (AS ?_)))))
    exact ⟨hdp, .inr ⟨vp, ⟨hvp, KR (by omega) hno⟩, rfl, hcp⟩⟩
   intro x21 a w hS
   exact x21.elim
  have hpl : p + ds.length < l.length := by omega
  obtain ⟨b, off, x, hq, hx1, hc1⟩ := ht.cell hpl
  have hhx : hx (l.drop p) ds.length = F7 x.toNat := by unfold hx; rw [List.getElem?_drop, hx1]
  subst hq
  have htst := TV ⟨x.toNat, x.toNat_lt⟩
  have hor := WR ⟨x.toNat, x.toNat_lt⟩
  simp only [UInt8.ofNat_toNat] at htst hor
  refine Wn 3 ?_
  refine Dr 11 [] [.blk br [.slice (some ⟨b, off, none⟩) l.length c, .int .i64 ((p + ds.length : Nat) : Int)] 93, AG W0] ?_
  refine ZR 9 ?_
  refine Zy rfl (AI rfl BX.1 (fun w hh => by rw [Nat.mul_one]; exact AF (hh (AG W0) (by repeat constructor)) hc1)) ?_
  refine ZR 1 ?_
  refine Wn 5 ?_
  refine Xp (aO rfl rfl) ?_
  intro a w hS
  rw [hor] at hS
  refine Aa (rO hS PF (IR TU (x ||| 32) _) ?_)
  refine Wn 9 ?_
  refine Lm 3 40 (.bool (decide (Lib.indexByte TU.data.toList (x ||| 32) < 0 ∨ x.toNat < 48))) ?_ ?_
  ·
   intro hcM40
   refine Gd 37 ?_ ?_ <;> intro hg37
   ·
    refine Wn 3 ?_
    exact Et 4 40 37 hcM40 rfl ((decide_eq_true (.inl hg37)).symm) hg37
   refine Wn 3 ?_
   exact Ef 4 40 37 hcM40 rfl (decide_eq_decide.2 (by omega)) hg37
  ·
   refine Wn 1 ?_
   refine Lm 7 48 (.bool (decide (Lib.indexByte TU.data.toList (x ||| 32) < 0 ∨ x.toNat < 48 ∨ (57 < x.toNat ∧ x.toNat < 65)))) ?_ ?_
   ·
    intro hcM48
    refine Gd 41 ?_ ?_ <;> intro hg41
    ·
     refine Wn 7 ?_
     exact Et 8 48 41 hcM48 rfl ((decide_eq_true (hg41.elim .inl (fun h => .inr (.inl h)))).symm) hg41
    refine Wn 3 ?_
    refine Lm 3 47 (.bool (decide (57 < x.toNat ∧ x.toNat < 65))) ?_ ?_
    ·
     intro hcM47
     refine Gd 44 ?_ ?_ <;> intro hg44
     ·
      refine Wn 3 ?_
      exact Et 4 47 44 hcM47 rfl (by first | rfl | (simp [hg44]; done) | (simp [hg44]; omega) | grind) hg44
     refine Wn 3 ?_
     exact Ef 4 47 44 hcM47 rfl (by first | rfl | (simp [hg44]; done) | (simp [hg44]; omega) | grind) hg44
    ·
     refine Wn 1 ?_
     exact Ef 6 48 41 hcM48 rfl (decide_eq_decide.2 (by omega)) hg41
   ·
    refine Wn 2 ?_
    refine iD (fun hc48 => ?_) fun hc48 => ?_
    ·
     refine Wn 3 ?_
     intro a w hS
     refine Aa (cY hS IC (DF Fe (.pointer (some ⟨br, 0, none⟩)) pl 11 (show (11 : Int) ≠ 0 by decide) (.blk br [.slice (some ⟨b, off, none⟩) l.length c, .int .i64 ((p + ds.length : Nat) : Int)] 93) _ (hS.ok _ (by repeat constructor)) rfl) ?_ ?_)
     ·
      intro vp wp hvp hdp hcp
      refine AS (AX (AS (AS (AX (AS ?_)))))
      exact ⟨hdp, .inr ⟨vp, ⟨hvp, KR (by omega) (hhx.trans (htst.elim (fun h => h.1) (fun h => absurd hc48 h.1)))⟩, rfl, hcp⟩⟩
     intro x51 a w hS
     exact x51.elim
    obtain ⟨_, hval, h15⟩ := htst.resolve_left (fun h => hc48 h.2)
    have hge : 0 ≤ Lib.indexByte TU.data.toList (x ||| 32) := by rcases Int.lt_or_le (Lib.indexByte TU.data.toList (x ||| 32)) 0 with h | h; exact absurd (.inl h) hc48; exact h
    obtain ⟨dg, hdg⟩ : ∃ dg : Nat, Lib.indexByte TU.data.toList (x ||| 32) = (dg : Int) := ⟨(Lib.indexByte TU.data.toList (x ||| 32)).toNat, by omega⟩
    intro a w hS
    rw [hdg] at hS h15 hval
    rw [Int.toNat_natCast] at hval
    refine Wq 6 hS ?_; intro a hS
    rw [IntWalk.i32_in _ (by omega)] at hS
    refine Wh 1 hS ?_
    refine Xp (GH rfl Is.1 S6.1) ?_
    intro a w hS
    rw [IntWalk.i32_in _ (by omega)] at hS
    refine Wq 1 hS ?_; intro a hS
    rw [IntWalk.i32_in _ (by omega)] at hS
    refine Wh 11 hS ?_
    refine Lo (Sb ?_)
    refine Wn 7 ?_
    have hlen : (ds ++ [dg]).length = ds.length + 1 := by simp
    have hfo : (G1 (ds ++ [dg]) : Int) = 16 * (G1 ds : Int) + (dg : Int) := by unfold G1; rw [List.foldl_append, List.foldl_cons, List.foldl_nil]; omega
    intro a w hS
    refine ⟨ds ++ [dg], by rw [hlen]; omega, ?_, by rw [hlen]; omega, by rw [hlen]; omega, fun d hd => ?_, fun j hj => ?_⟩
    ·
     rw [hfo, hlen]
     exact hS.sq
    ·
     rcases List.mem_append.1 hd with hd | hd
     · exact hd16 d hd
     · obtain rfl := List.mem_singleton.1 hd; omega
    ·
     rw [hlen] at hj
     rcases Nat.lt_or_ge j ds.length with h2 | h2
     · rw [hxs j h2, List.getElem?_append_left h2]
     ·
      obtain rfl : j = ds.length := by omega
      rw [hhx, hval, List.getElem?_append_right (Nat.le_refl _), Nat.sub_self]; rfl
 refine Wn 1 ?_
 intro a w hS
 refine AH (AH (Aj ?_))
 refine Wh 8 hS ?_
 intro a w hS
 refine Ro hS Tryz.results184 ?_
 have h4 : ds.length = 4 := by omega
 have hfin := TX h4 (fun j hj => hxs j (by omega))
 rw [h4] at hS
 exact .inl ⟨⟨G1 ds, hfin⟩, rfl, hS.chg, hS.ok (Ah br q c l (p + 4)) (by repeat constructor), fun b hb => .inl hb⟩
section
section
variable {P : Program} {n : NN} {a : Act} {L : List (Nat × Value)} {Γ : List AT} {dst : Option Nat} {ty : Nat} {pos : String} {af : Array Edge} {g : Option (Nat × Bool)}
theorem jQ {t t' : TypeId} {x : Operand} {k k' : IntKind} {i : Int} {j : Nat} (hx : ev L x = some (.int k i)) (hj : j ≤ k.bits) :
 Ex P n a L Γ ⟨dst, .binOp .shl t x (.const (.int k' (j : Int))) t', ty, pos, af, g⟩ (.int k (k.wrap (i * 2 ^ j))) := fun hs w _ => by
 have he : a.eval (.const (.int k' (j : Int))) = .int k' (j : Int) := rfl
 have h : ¬ (j : Int) < 0 := by omega
 simp only [execOp, hs.ev hx, he, eqGuard, binOp, Op.shift, Sem.run_bind]
 simp [h, Nat.min_eq_left hj]
end
theorem WS {b E : Nat} {cs : List Value} {w : World} (h : (eN b cs E).φ w) {i : Nat} {v : Value} (hv : cs[i]? = some v) : w.cell? ⟨b, i, none⟩ = some v := by
 obtain ⟨f, hf⟩ := h
 unfold World.cell?
 rw [hf]
 simpa using hv
def aQ : ByteArray := ⟨#[34, 92, 47, 98, 102, 110, 114, 116]⟩
def pG : ByteArray := ⟨#[34, 92, 47, 8, 12, 10, 13, 9]⟩
theorem Q0 : ∀ c : Fin 256, (Lib.indexByte aQ.data.toList (UInt8.ofNat c.val) < 0 ∧ Iw.findIdx? (· == UInt8.ofNat c.val) = none) ∨ (0 ≤ Lib.indexByte aQ.data.toList (UInt8.ofNat c.val) ∧ Lib.indexByte aQ.data.toList (UInt8.ofNat c.val) ≤ 7 ∧ Iw.findIdx? (· == UInt8.ofNat c.val) = some (Lib.indexByte aQ.data.toList (UInt8.ofNat c.val)).toNat) := by decide +kernel
theorem TY {l : List UInt8} {p i : Nat} {x : UInt8} (hx : l[p]? = some x) (h : Iw.findIdx? (· == x) = some i) : Gw (l.drop p) = some ((N1.getD i 0).toNat, 1) := by
 rw [List.drop_eq_getElem_cons (List.getElem?_eq_some_iff.1 hx).1, (List.getElem?_eq_some_iff.1 hx).2]
 unfold Gw; simp only; rw [h]
theorem TZ {l : List UInt8} {p : Nat} {x : UInt8} (hx : l[p]? = some x) (h : Iw.findIdx? (· == x) = none) : Gw (l.drop p) = if x.toNat = 117 then match Ed (l.drop (p + 1)) with
 | none => none
 | some x => if x < 55296 ∨ 57344 ≤ x then some (x, 5) else if 56320 ≤ x then none else
   if (l.getD (p + 5) 0).toNat = 92 ∧ (l.getD (p + 6) 0).toNat = 117 then match Ed (l.drop (p + 7)) with
    | none => none
    | some y => if y < 56320 ∨ 57344 ≤ y then none else some (65536 + (x - 55296) * 1024 + (y - 56320), 11)
   else none
 else none := by
 conv => lhs; rw [List.drop_eq_getElem_cons (List.getElem?_eq_some_iff.1 hx).1, (List.getElem?_eq_some_iff.1 hx).2]
 unfold Gw; simp only; rw [h]
 simp only [List.drop_drop, List.getD_eq_getElem?_getD, List.getElem?_drop]
 rfl
theorem LP {l : List UInt8} {k : Nat} {x : UInt8} (h : l[k]? = some x) : l.getD k 0 = x := by rw [List.getD_eq_getElem?_getD, h]; rfl
theorem Ta {l : List UInt8} {k : Nat} (h : l.length ≤ k) : (l.getD k 0).toNat = 0 := by rw [List.getD_eq_getElem?_getD, List.getElem?_eq_none h]; rfl
theorem aR (W0 : World) (br : Nat) (q : Option Addr) (c : Nat) (l : List UInt8) (ht : EB W0 q c l) (p : Nat) (hp : p < l.length) (w0 : World) (h : (Ah br q c l p).φ w0) (ho : AQ W0 w0) (hb : W0.heap.size ≤ br) :
 Du Tryz.prog 139 [.pointer (some ⟨br, 0, none⟩)] w0 (fun v => B6 Fe v ∧ Gw (l.drop (p + 1)) = none) (Ah br q c l p) (fun x : { x : Nat × Nat // Gw (l.drop (p + 1)) = some x ∧ p + 1 + x.2 ≤ l.length } => .int .i32 (x.1.1 : Int)) (fun x => Ah br q c l (p + 1 + x.1.2)) := by
 have hn := ht.n
 refine En [Ah br q c l p, AG W0] (fun k => k = br) Tryz.func139 Tryz.ntmps139 (B3 (BE h) (B3 (BB ho) DN)) (CT (CK (fun k h1 h2 => by have h1 : k = br := h1; have h2 : k < W0.heap.size := h2; omega) CU) Bi) (A9 (fun _ hb => hb) (BP rfl Aw)) ?_
 intro a hS
 refine Wq 7 hS ?_; intro a hS
 unfold Ah LK at hS
 refine Wh 16 hS ?_
 refine Lo (Sb ?_)
 refine Wn 4 ?_
 refine Dr 10 [] [.blk br [.slice q l.length c, .int .i64 ((p + 1 : Nat) : Int)] 93] ?_
 refine ZR 10 ?_
 refine Wn 2 ?_
 refine iD (fun hc30 => ?_) fun hc30 => ?_
 ·
  refine Wn 2 ?_
  intro a w hS
  refine Aa (cY hS J0 (C9 br q c l (p + 1) _ (hS.gg (X := Ah br q c l (p + 1)))) ?_ ?_)
  ·
   intro vp wp hvp hdp hcp
   refine AS ?_
   exact ⟨hdp, .inr ⟨vp, ⟨hvp, by rw [List.drop_eq_nil_of_le (by omega)]; rfl⟩, rfl, hcp⟩⟩
  intro x32 a w hS
  exact x32.elim
 have hp1 : p + 1 < l.length := by omega
 obtain ⟨b, off, x, hq, hx1, hc1⟩ := ht.cell hp1
 subst hq
 have hmk := Q0 ⟨x.toNat, x.toNat_lt⟩
 simp only [UInt8.ofNat_toNat] at hmk
 refine Wn 3 ?_
 refine Dr 11 [] [.blk br [.slice (some ⟨b, off, none⟩) l.length c, .int .i64 ((p + 1 : Nat) : Int)] 93, AG W0] ?_
 refine ZR 8 ?_
 refine Zx rfl (BI (i := p + 1) rfl rfl AZ.1 BL.1 (by omega)) ?_
 refine Zy rfl (AI rfl BX.1 (fun w hh => by rw [Nat.mul_one]; exact AF (hh (AG W0) (by repeat constructor)) hc1)) ?_
 refine ZR 1 ?_
 refine Wn 11 ?_
 refine Lo (Sb ?_)
 refine Wn 6 ?_
 refine Lo (cP PF (fun _ => IR aQ x _) ?_)
 refine Wn 9 ?_
 refine iD (fun hc53 => ?_) fun hc53 => ?_
 ·
  obtain ⟨hge, h7, hfi⟩ := hmk.resolve_left (fun h => by omega)
  obtain ⟨i, hi⟩ : ∃ i : Nat, Lib.indexByte aQ.data.toList x = (i : Int) := ⟨(Lib.indexByte aQ.data.toList x).toNat, by omega⟩
  intro a w hS
  rw [hi] at hS h7 hfi
  rw [Int.toNat_natCast] at hfi
  refine Wh 3 hS ?_
  refine Xp (O5 rfl rfl Dp.1 (by show 0 ≤ (i : Int) ∧ (i : Int) < 8; omega)) ?_
  intro a w hS
  rw [Int.toNat_natCast] at hS
  refine Un hS (Xp (GH rfl C7.1 S6.1) ?_)
  intro a w hS
  rw [IntWalk.i32_in _ (by have := ((pG.data.toList.getD i 0)).toNat_lt; show -2147483648 ≤ (((pG.data.toList.getD i 0)).toNat : Int) ∧ (((pG.data.toList.getD i 0)).toNat : Int) ≤ 2147483647; omega)] at hS
  refine Wh 5 hS ?_
  intro a w hS
  refine Ro hS Tryz.results139 ?_
  exact .inl ⟨⟨((N1.getD i 0).toNat, 1), TY hx1 hfi, by show p + 1 + 1 ≤ l.length; omega⟩, rfl, hS.chg, hS.ok (Ah br (some ⟨b, off, none⟩) c l (p + 1 + 1)) (by repeat constructor), fun b hb => .inl hb⟩
 have hno := (hmk.resolve_right (fun h => by omega)).2
 have hec := TZ hx1 hno
 refine Wn 9 ?_
 refine iD (fun hc58 => ?_) fun hc58 => ?_
 ·
  rw [if_neg (by omega)] at hec
  refine Wn 3 ?_
  intro a w hS
  refine Aa (cY hS IC (DF Fe (.pointer (some ⟨br, 0, none⟩)) (p : Int) 11 (show (11 : Int) ≠ 0 by decide) (.blk br [.slice (some ⟨b, off, none⟩) l.length c, .int .i64 ((p + 1 + 1 : Nat) : Int)] 93) _ (hS.ok _ (by repeat constructor)) rfl) ?_ ?_)
  ·
   intro vp wp hvp hdp hcp
   refine AS ?_
   exact ⟨hdp, .inr ⟨vp, ⟨hvp, hec⟩, rfl, hcp⟩⟩
  intro x61 a w hS
  exact x61.elim
 rw [if_pos (by omega)] at hec
 refine Wn 6 ?_
 intro a w hS
 refine Aa (cY hS Yc (PV W0 br (some ⟨b, off, none⟩) c l ht (p + 1 + 1) (by omega) (p : Int) _ (hS.gg (X := Ah br (some ⟨b, off, none⟩) c l (p + 1 + 1))) hS.od hb) ?_ ?_)
 ·
  intro vp wp hvp hdp hcp
  refine AS ?_
  exact ⟨hdp, .inr ⟨vp, ⟨hvp.1, by rw [hec, hvp.2]⟩, rfl, hcp⟩⟩
 intro x64 a w hS
 obtain ⟨u, hu⟩ := x64
 have hu4 := PU hu
 rw [List.length_drop] at hu4
 rw [hu] at hec
 simp only at hec hS
 have hu16 : u < 65536 := by
  rw [G0] at hu
  split at hu
  ·
   rename_i a1 a2 a3 a4 q1 q2 q3 q4
   have k1 : ∀ {j y}, hx (l.drop (p + 1 + 1)) j = some y → y < 16 := fun {j y} hq => by
    unfold hx at hq
    split at hq
    · exact Yn hq
    · cases hq
   have := k1 q1; have := k1 q2; have := k1 q3; have := k1 q4
   injection hu with hu; omega
  · cases hu
 refine Wh 9 hS ?_
 refine Lm 3 70 (.bool (decide (u < 55296 ∨ 57344 ≤ u))) ?_ ?_
 ·
  intro hcM70
  refine Gd 67 ?_ ?_ <;> intro hg67
  ·
   refine Wn 3 ?_
   exact Et 4 70 67 hcM70 rfl ((decide_eq_true (.inl (by omega))).symm) hg67
  refine Wn 3 ?_
  exact Ef 4 70 67 hcM70 rfl (decide_eq_decide.2 (by omega)) hg67
 ·
  refine Wn 2 ?_
  refine iD (fun hc70 => ?_) fun hc70 => ?_
  ·
   refine Wn 8 ?_
   intro a w hS
   refine Ro hS Tryz.results139 ?_
   rw [if_pos hc70] at hec
   exact .inl ⟨⟨(u, 5), hec, by show p + 1 + 5 ≤ l.length; omega⟩, rfl, hS.chg, hS.ok (Ah br (some ⟨b, off, none⟩) c l (p + 1 + 1 + 4)) (by repeat constructor), fun b hb => .inl hb⟩
  rw [if_neg hc70] at hec
  refine Wn 9 ?_
  refine iD (fun hc73 => ?_) fun hc73 => ?_
  ·
   rw [if_pos (by omega)] at hec
   refine Wn 1 ?_
   intro a w hS
   unfold Ah LK at hS
   refine Wq 2 hS ?_; intro a hS
   refine Aa (cY hS IC (DF Fe (.pointer (some ⟨br, 0, none⟩)) (p : Int) 11 (show (11 : Int) ≠ 0 by decide) (.blk br [.slice (some ⟨b, off, none⟩) l.length c, .int .i64 ((p + 1 + 1 + 4 : Nat) : Int)] 93) _ (hS.ok _ (by repeat constructor)) rfl) ?_ ?_)
   ·
    intro vp wp hvp hdp hcp
    refine AS ?_
    exact ⟨hdp, .inr ⟨vp, ⟨hvp, hec⟩, rfl, hcp⟩⟩
   intro x76 a w hS
   exact x76.elim
  rw [if_neg (by omega)] at hec
  refine Wn 5 ?_
  refine Lo (Bz ?_); intro b77
  intro a w hS
  refine Aa (Hy hS rfl AZ.1 C7.1 rfl (by repeat constructor) ?_); intro a w hS
  refine Wq 5 hS ?_; intro a hS
  refine AW (γ := Nat) (fun k a w => St 138 (fun k => k = br) w0 a w [(80, .int .i64 (k : Int)), (79, .int .i64 2), (78, .slice (some ⟨b77, 0, none⟩) 2 2), (6, .int .i32 (u : Int)), (3, .int .i64 (p : Int)), (0, .pointer (some ⟨br, 0, none⟩))] [Ah br (some ⟨b, off, none⟩) c l (p + 1 + 1 + 4 + k), eN b77 [.int .u8 92, .int .u8 117] 5, AG W0] ∧ k ≤ 2 ∧ p + 1 + 1 + 4 + k ≤ l.length ∧ (1 ≤ k → (l.getD (p + 1 + 5) 0).toNat = 92) ∧ (2 ≤ k → (l.getD (p + 1 + 6) 0).toNat = 117)) (fun k => 2 - k) 0 ⟨hS.sp, Nat.zero_le _, by omega, fun h => absurd h (by decide), fun h => absurd h (by decide)⟩ ?_
  intro k a w hI
  obtain ⟨hS, hk, hpk, hz1, hz2⟩ := hI
  unfold Ah LK at hS
  refine Wh 6 hS ?_
  refine iD (fun hc81 => ?_) fun hc81 => ?_
  ·
   have hk2 : k < 2 := by omega
   obtain ⟨z, hz⟩ : ∃ z : Nat, ([.int .u8 92, .int .u8 117] : List Value)[k]? = some (.int .u8 (z : Int)) ∧ ((k = 0 ∧ z = 92) ∨ (k = 1 ∧ z = 117)) := by
    match k, hk2 with
    | 0, _ => exact ⟨92, rfl, .inl ⟨rfl, rfl⟩⟩
    | 1, _ => exact ⟨117, rfl, .inr ⟨rfl, rfl⟩⟩
   have hbad : ∀ y : Nat, (l.getD (p + 1 + 1 + 4 + k) 0).toNat = y → y ≠ z → Gw (l.drop (p + 1)) = none := fun y hy hne => by
    rw [hec, if_neg]
    rintro ⟨h1, h2⟩
    rcases hz.2 with ⟨rfl, rfl⟩ | ⟨rfl, rfl⟩
    · exact hne (hy.symm.trans h1)
    · exact hne (hy.symm.trans h2)
   refine Wn 6 ?_
   refine Xp (BI (i := k) rfl rfl AZ.1 BL.1 (by omega)) ?_
   refine Xp (AI rfl BX.1 (fun w hh => by rw [Nat.mul_one, Nat.zero_add]; exact WS (hh (eN b77 [.int .u8 92, .int .u8 117] 5) (by repeat constructor)) hz.1)) ?_
   refine Wn 5 ?_
   refine Dr 10 [] [.blk br [.slice (some ⟨b, off, none⟩) l.length c, .int .i64 ((p + 1 + 1 + 4 + k : Nat) : Int)] 93] ?_
   refine ZR 10 ?_
   refine Wn 2 ?_
   refine iD (fun hc93 => ?_) fun hc93 => ?_
   ·
    refine Wn 2 ?_
    intro a w hS
    refine Aa (cY hS J0 (C9 br (some ⟨b, off, none⟩) c l (p + 1 + 1 + 4 + k) _ (hS.gg (X := Ah br (some ⟨b, off, none⟩) c l (p + 1 + 1 + 4 + k)))) ?_ ?_)
    ·
     intro vp wp hvp hdp hcp
     refine AS (AX (AS (AS (AX (AS ?_)))))
     exact ⟨hdp, .inr ⟨vp, ⟨hvp, hbad 0 (Ta (by omega)) (by omega)⟩, rfl, hcp⟩⟩
    intro x95 a w hS
    exact x95.elim
   obtain ⟨b', off', y, hq', hy1, hcy⟩ := ht.cell (show p + 1 + 1 + 4 + k < l.length by omega)
   injection hq' with hq'
   injection hq' with e1 e2
   subst e1; subst e2
   refine Wn 4 ?_
   refine Dr 12 [] [.blk br [.slice (some ⟨b, off, none⟩) l.length c, .int .i64 ((p + 1 + 1 + 4 + k : Nat) : Int)] 93, AG W0] ?_
   refine ZR 8 ?_
   refine Zx rfl (BI (i := p + 1 + 1 + 4 + k) rfl rfl AZ.1 BL.1 (by omega)) ?_
   refine Zy rfl (AI rfl BX.1 (fun w hh => by rw [Nat.mul_one]; exact AF (hh (AG W0) (by repeat constructor)) hcy)) ?_
   refine ZR 2 ?_
   refine Wn 2 ?_
   refine iD (fun hc107 => ?_) fun hc107 => ?_
   ·
    refine Wn 3 ?_
    intro a w hS
    refine Aa (cY hS IC (DF Fe (.pointer (some ⟨br, 0, none⟩)) (p : Int) 11 (show (11 : Int) ≠ 0 by decide) (.blk br [.slice (some ⟨b, off, none⟩) l.length c, .int .i64 ((p + 1 + 1 + 4 + k : Nat) : Int)] 93) _ (hS.ok _ (by repeat constructor)) rfl) ?_ ?_)
    ·
     intro vp wp hvp hdp hcp
     refine AS (AX (AS (AS (AX (AS ?_)))))
     exact ⟨hdp, .inr ⟨vp, ⟨hvp, hbad y.toNat (by rw [LP hy1]) (by omega)⟩, rfl, hcp⟩⟩
    intro x110 a w hS
    exact x110.elim
   refine Wn 10 ?_
   refine Lo (Sb ?_)
   refine Wn 7 ?_
   have hyz : y.toNat = z := by omega
   intro a w hS
   refine ⟨k + 1, by omega, hS.sp, by omega, by omega, fun h1 => ?_, fun h2 => ?_⟩
   ·
    rcases Nat.eq_zero_or_pos k with h0 | h0
    ·
     subst h0
     rw [show p + 1 + 5 = p + 1 + 1 + 4 + 0 by omega, LP hy1, hyz]
     rcases hz.2 with ⟨_, h⟩ | ⟨h, _⟩
     · exact h
     · omega
    · exact hz1 h0
   ·
    have h1 : k = 1 := by omega
    subst h1
    rw [show p + 1 + 6 = p + 1 + 1 + 4 + 1 by omega, LP hy1, hyz]
    rcases hz.2 with ⟨h, _⟩ | ⟨_, h⟩
    · omega
    · exact h
  obtain rfl : k = 2 := by omega
  rw [if_pos ⟨hz1 (by decide), hz2 (by decide)⟩] at hec
  refine Wn 1 ?_
  intro a w hS
  refine AH (AH (Aj ?_))
  refine Wq 5 hS ?_; intro a hS
  refine Aa (cY hS Yc (PV W0 br (some ⟨b, off, none⟩) c l ht (p + 1 + 1 + 4 + 2) hpk (p : Int) _ (hS.gg (X := Ah br (some ⟨b, off, none⟩) c l (p + 1 + 1 + 4 + 2))) hS.od hb) ?_ ?_)
  ·
   intro vp wp hvp hdp hcp
   refine AS ?_
   exact ⟨hdp, .inr ⟨vp, ⟨hvp.1, by rw [hec, show p + 1 + 7 = p + 1 + 1 + 4 + 2 by omega, hvp.2]⟩, rfl, hcp⟩⟩
  intro x121 a w hS
  obtain ⟨v, hv⟩ := x121
  have hv4 := PU hv
  rw [List.length_drop] at hv4
  rw [show p + 1 + 7 = p + 1 + 1 + 4 + 2 by omega, hv] at hec
  simp only at hec hS
  refine Wh 9 hS ?_
  refine Lm 3 127 (.bool (decide (v < 56320 ∨ 57344 ≤ v))) ?_ ?_
  ·
   intro hcM127
   refine Gd 124 ?_ ?_ <;> intro hg124
   ·
    refine Wn 3 ?_
    exact Et 4 127 124 hcM127 rfl ((decide_eq_true (.inl (by omega))).symm) hg124
   refine Wn 3 ?_
   exact Ef 4 127 124 hcM127 rfl (decide_eq_decide.2 (by omega)) hg124
  ·
   refine Wn 2 ?_
   refine iD (fun hc127 => ?_) fun hc127 => ?_
   ·
    rw [if_pos hc127] at hec
    refine Wn 1 ?_
    intro a w hS
    unfold Ah LK at hS
    refine Wq 2 hS ?_; intro a hS
    refine Aa (cY hS IC (DF Fe (.pointer (some ⟨br, 0, none⟩)) (p : Int) 11 (show (11 : Int) ≠ 0 by decide) (.blk br [.slice (some ⟨b, off, none⟩) l.length c, .int .i64 ((p + 1 + 1 + 4 + 2 + 4 : Nat) : Int)] 93) _ (hS.ok _ (by repeat constructor)) rfl) ?_ ?_)
    ·
     intro vp wp hvp hdp hcp
     refine AS ?_
     exact ⟨hdp, .inr ⟨vp, ⟨hvp, hec⟩, rfl, hcp⟩⟩
    intro x130 a w hS
    exact x130.elim
   rw [if_neg hc127] at hec
   refine Wn 6 ?_
   intro a w hS
   rw [IntWalk.i32_in _ (by omega)] at hS
   refine Un hS (Xp (jQ (j := 10) rfl (by decide)) ?_)
   intro a w hS
   rw [IntWalk.i32_in _ (by omega)] at hS
   refine Wq 1 hS ?_; intro a hS
   rw [IntWalk.i32_in _ (by omega)] at hS
   refine Wq 2 hS ?_; intro a hS
   rw [IntWalk.i32_in _ (by omega)] at hS
   refine Wq 1 hS ?_; intro a hS
   rw [IntWalk.i32_in _ (by omega), show (65536 : Int) + ((u : Int) - 55296) * 2 ^ 10 + ((v : Int) - 56320) = ((65536 + (u - 55296) * 1024 + (v - 56320) : Nat) : Int) by omega] at hS
   refine Wh 4 hS ?_
   intro a w hS
   refine Ro hS Tryz.results139 ?_
   exact .inl ⟨⟨(65536 + (u - 55296) * 1024 + (v - 56320), 11), hec, by show p + 1 + 11 ≤ l.length; omega⟩, rfl, hS.chg, hS.ok (Ah br (some ⟨b, off, none⟩) c l (p + 1 + 1 + 4 + 2 + 4)) (by repeat constructor), fun b hb => .inl hb⟩
end
section
theorem LQ (L : List UInt8) (h : L ≠ []) : 1 ≤ (Lib.decodeL L).2 ∧ (Lib.decodeL L).2 ≤ L.length := by
 have h1 := Lib.decodeL_width L
 have h2 := Lib.decodeL_le L h
 omega
theorem He : ∀ (n m : Nat) (L acc : List UInt8) (u : Nat), L.length ≤ n → L.length ≤ m → GO n L acc u = GO m L acc u
 | 0, m, L, acc, u, hn, _ => by
   obtain rfl : L = [] := List.eq_nil_of_length_eq_zero (by omega)
   cases m <;> rfl
 | n + 1, 0, L, acc, u, _, hm => by
   obtain rfl : L = [] := List.eq_nil_of_length_eq_zero (by omega)
   rfl
 | n + 1, m + 1, [], acc, u, _, _ => rfl
 | n + 1, m + 1, c :: t, acc, u, hn, hm => by
   have hd := LQ (c :: t) (by simp)
   have hn' : t.length ≤ n := by simpa using hn
   have hm' : t.length ≤ m := by simpa using hm
   unfold GO
   simp only
   split
   · rfl
   ·
    split
    · rfl
    ·
     split
     ·
      cases Gw t with
      | none => rfl
      | some x => exact He n m _ _ _ (by rw [List.length_drop]; omega) (by rw [List.length_drop]; omega)
     ·
      split
      · rfl
      · exact He n m _ _ _ (by rw [List.length_drop, List.length_cons]; omega) (by rw [List.length_drop, List.length_cons]; omega)
def E4 (L acc : List UInt8) (u : Nat) : Option (List UInt8 × Nat) := GO L.length L acc u
theorem I4 {n : Nat} {L acc : List UInt8} {u : Nat} (h : L.length ≤ n) : GO n L acc u = E4 L acc u := He _ _ _ _ _ h (Nat.le_refl _)
theorem KS (c : UInt8) (t acc : List UInt8) (u : Nat) : E4 (c :: t) acc u = if c.toNat < 32 then none else if c.toNat = 34 then some (acc, u + 1) else
 if c.toNat = 92 then match Gw t with
  | none => none
  | some (r, k) => E4 (t.drop k) (acc ++ Lib.encodeRune r) (u + 1 + k)
 else if (Lib.decodeL (c :: t)).1 = 65533 ∧ (Lib.decodeL (c :: t)).2 = 1 then none
 else E4 ((c :: t).drop (Lib.decodeL (c :: t)).2) (acc ++ (c :: t).take (Lib.decodeL (c :: t)).2) (u + (Lib.decodeL (c :: t)).2) := by
 have hd := LQ (c :: t) (by simp)
 conv => lhs; unfold E4; rw [List.length_cons]; unfold GO
 simp only
 split
 · rfl
 ·
  split
  · rfl
  ·
   split
   ·
    cases Gw t with
    | none => rfl
    | some x => exact I4 (by rw [List.length_drop]; omega)
   ·
    split
    · rfl
    · exact I4 (by rw [List.length_drop, List.length_cons]; omega)
theorem EB.drop {W0 : World} {q : Option Addr} {c : Nat} {l : List UInt8} (h : EB W0 q c l) {p : Nat} (hp : p ≤ l.length) : EB W0 (Cu q p c 1) (c - p) (l.drop p) := by
 refine ⟨?_, by have := h.n; rw [List.length_drop]; omega⟩
 have h1 := h.lies.piece (j := p) (k := l.length) hp (Nat.le_refl _)
 rw [Fu, List.take_length] at h1
 rwa [List.length_drop]
theorem aS (W0 : World) (hU : Lib.Utf8Tabs 0 1 W0) (q : Option Addr) (c : Nat) (l : List UInt8) (hne : l ≠ []) (ht : EB W0 q c l) (w0 : World) (ho : AQ W0 w0) :
 Ae Tryz.prog 141 [.slice q l.length c] w0 (.tuple [.int .i32 ((Lib.decodeL l).1 : Int), .int .i64 ((Lib.decodeL l).2 : Int)].toArray) := by
 have hpos : 0 < l.length := List.length_pos_iff.2 hne
 obtain ⟨b, off, x, hq, _, _⟩ := ht.cell hpos
 have hs : (tx l).size = l.length := BA l
 have hd : Lib.decodeGo (tx l) = Lib.decodeL l := by
  unfold Lib.decodeGo
  rw [if_neg (by omega)]; rfl
 have hU0 : Lib.Utf8Tabs 0 1 w0 := ⟨fun c hc => AF ho (hU.1 c hc), fun i hi => ⟨AF ho (hU.2 i hi).1, AF ho (hU.2 i hi).2⟩⟩
 have h := Any7.utf8_DecodeRune Tryz.lays7d (tx l) b off c w0 hU0 (fun j hj => by
   obtain ⟨b', off', y, hq', hy, hc⟩ := ht.cell (show j < l.length by omega)
   rw [hq] at hq'
   injection hq' with hq'
   injection hq' with e1 e2
   subst e1; subst e2
   have e3 : (tx l).get! j = y := by
     have h1 : (tx l).data[j]? = some y := by show l.toArray[j]? = some y; simpa using hy
     show (tx l).data[j]! = y
     rw [getElem!_def, h1]
   rw [e3]
   exact AF ho hc)
 rw [hd, hs] at h
 subst hq
 exact h.mono fun _ _ ⟨he, hb⟩ => ⟨he, Bd.of_below hb⟩
theorem Tb {w : World} {B E s : Nat} {v : Value} {m : Nat} {xs : List Value} (h : w.ownsRow 0 E s v m xs) (hB : ∀ k, v.ownBlock = some k → B ≤ k) : w.ownsRow B E s v m xs := by
 refine ⟨h.1, h.2.imp id ?_⟩
 rintro ⟨g, cap, cur, rfl, _, h2⟩
 exact ⟨g, cap, cur, rfl, hB g rfl, h2⟩
theorem Q1 {w : World} {B E s : Nat} {v : Value} {m : Nat} {xs : List Value} (h : w.ownsRow B E s v m xs) : w.ownsRow 0 E s v m xs ∧ ∀ k, v.ownBlock = some k → B ≤ k := by
 refine ⟨⟨h.1, h.2.imp id ?_⟩, fun k hk => ?_⟩
 ·
  rintro ⟨g, cap, cur, rfl, _, h2⟩
  exact ⟨g, cap, cur, rfl, Nat.zero_le _, h2⟩
 ·
  rcases h.2 with ⟨rfl, _⟩ | ⟨g, cap, cur, rfl, h1, _⟩
  · cases hk
  ·
   have : g = k := by simpa [Value.ownBlock] using hk
   omega
section
variable {P : Program} {n : NN} {F0 : Nat → Prop} {w0 : World} {a : Act} {w : World} {L : List (Nat × Value)} {Γ : List AT}
variable {K : Act → World → Prop} {Q : Exit → Act → World → Prop} {d ty : Nat} {pos : String} {af : Array Edge} {g : Option (Nat × Bool)}
theorem WT {E s m m' : Nat} {v : Value} {xs xs' : List Value} {f : FuncId} {os : List Operand} {vs : List Value} {ts : Array TypeId} (hS : St n F0 w0 a w L (AJ E s v m xs :: Γ)) (hx : FR L os vs) (hf : AA P f) (hn : Nat.blt d n.n = true)
 (hold : ∀ X ∈ Γ, ∀ b, X.F b → b < w0.heap.size) (hvB : ∀ k, v.ownBlock = some k → w0.heap.size ≤ k)
 (hc : w.ownsRow w0.heap.size E s v m xs → w0.heap.size ≤ w.heap.size → Calls P f vs.toArray w fun e w' => ∃ v', e = .returned v' ∧ w'.ownsRow w0.heap.size E s v' m' xs' ∧ Bd (fun k => v.ownBlock = some k) w w')
 (h : ∀ v' a' w', (∀ k, v'.ownBlock = some k → w0.heap.size ≤ k) → St n F0 w0 a' w' ((d, v') :: L) (AJ E s v' m' xs' :: Γ) → K a' w') : OW P ⟨some d, .call ⟨.value (.func f), os.toArray, ts⟩, ty, pos, af, g⟩ a w K Q := by
 have hown : w.ownsRow 0 E s v m xs := hS.get (.head _)
 refine K3 hS hx hf (hc (Tb hown hvB) hS.chg.size) fun e w' ⟨v', he, ho, hch⟩ => ⟨v', he, ?_⟩
 obtain ⟨ho0, hvB'⟩ := Q1 ho
 have hdis := List.pairwise_cons.1 hS.dis
 refine h v' _ _ hvB' (St.put ⟨hS.sl, hS.chg.trans hch (fun i hi hlt => absurd (hvB i hi) (by omega)), fun X hX => ?_, List.pairwise_cons.2 ⟨fun X hX b h1 h2 => ?_, hdis.2⟩, fun X hX hm b hb => ?_⟩ hn v')
 ·
  rcases List.mem_cons.1 hX with rfl | hX
  · exact C2 ho0
  · exact (hS.ok X (.tail _ hX)).keep hch (fun b hb h2 => by have := hold X hX b hb; have := hvB b h2; omega)
 · have := hold X hX b h2; have := hvB' b h1; omega
 ·
  rcases List.mem_cons.1 hX with rfl | hX
  · exact .inl (hvB' b hb)
  · exact hS.mine X (.tail _ hX) hm b hb
end
def KT (l : List UInt8) : List Value := l.map fun b => .int .u8 (b.toNat : Int)
theorem PW (l : List UInt8) : (KT l).length = l.length := List.length_map ..
theorem PX (a b : List UInt8) : KT (a ++ b) = KT a ++ KT b := List.map_append
theorem N4 (r : Nat) : Lib.runeCells (r : Int) = KT (Lib.encodeRune (r : Int)) := by
 unfold Lib.runeCells KT Lib.encodeRune
 rw [List.map_map]
 refine List.map_congr_left fun z hz => ?_
 have hb := Lib.encodeRuneZ_byte (r : Int) z hz
 show Value.int .u8 z = .int .u8 ((z.toNat.toUInt8).toNat : Int)
 congr 1
 rw [show z.toNat.toUInt8 = UInt8.ofNat z.toNat from rfl, UInt8.toNat_ofNat', Nat.mod_eq_of_lt (by omega)]
 omega
theorem Tc (r : Nat) : (Lib.encodeRune (r : Int)).length ≤ 4 := by unfold Lib.encodeRune; rw [List.length_map]; exact (Lib.encodeRuneZ_length _).2
end
theorem WU {L : List UInt8} {u : Nat} (hu : Ed L = some u) : u < 65536 := by
 rw [G0] at hu
 split at hu
 ·
  rename_i a1 a2 a3 a4 q1 q2 q3 q4
  have k1 : ∀ {j y}, hx L j = some y → y < 16 := fun {j y} hq => by
   unfold hx at hq
   split at hq
   · exact Yn hq
   · cases hq
  have := k1 q1; have := k1 q2; have := k1 q3; have := k1 q4
  injection hu with hu; omega
 · cases hu
theorem Td {L : List UInt8} {x : Nat × Nat} (h : Gw L = some x) : x.1 < 1114112 := by
 unfold Gw at h
 split at h
 · cases h
 ·
  split at h
  ·
   injection h with h
   rw [← h]
   show (UInt8.toNat _) < _
   exact Nat.lt_of_lt_of_le (UInt8.toNat_lt _) (by decide)
  ·
   split at h
   ·
    split at h
    · cases h
    ·
     rename_i u hu
     have h1 := WU hu
     split at h
     · injection h with h; rw [← h]; simp only; omega
     ·
      split at h
      · cases h
      ·
       split at h
       ·
        split at h
        · cases h
        ·
         split at h
         · cases h
         · injection h with h; rw [← h]; simp only; omega
       · cases h
   · cases h
theorem N5 (l : List UInt8) : KT l = (Br l).map (Value.int .u8) := by unfold KT Br; rw [List.map_map]; rfl
theorem jR {E : Nat} {v : Value} {l : List UInt8} {w : World} (h : w.ownsRow 0 E 1 v l.length (KT l)) : CL v (Br l) w := by
 rw [N5, ← Ap] at h
 exact Qw (C2 h)
theorem Fv {l : List UInt8} {p : Nat} {x : UInt8} (h : l[p]? = some x) : l.drop p = x :: l.drop (p + 1) := by
 rw [List.drop_eq_getElem_cons (List.getElem?_eq_some_iff.1 h).1, (List.getElem?_eq_some_iff.1 h).2]
theorem PY (W0 : World) (hU : Lib.Utf8Tabs 0 1 W0) (br : Nat) (q : Option Addr) (c : Nat) (l : List UInt8) (ht : EB W0 q c l) (p : Nat) (hp : p ≤ l.length) (w0 : World) (h : (Ah br q c l p).φ w0) (ho : AQ W0 w0) (hb : W0.heap.size ≤ br) :
 Du Tryz.prog 97 [.pointer (some ⟨br, 0, none⟩)] w0 (fun v => B6 Fe v ∧ (one (CZ 34) (l.drop p) = false ∨ E4 (l.drop (p + 1)) [] 1 = none)) (Ah br q c l p)
  (fun x : { x : List UInt8 × Nat // one (CZ 34) (l.drop p) = true ∧ E4 (l.drop (p + 1)) [] 1 = some x ∧ p + x.2 ≤ l.length } => .string (tx x.1.1)) (fun x => Ah br q c l (p + x.1.2)) := by
 have hn := ht.n
 have hbr : br < w0.heap.size := (BE h).lt br rfl
 have hW := ho.1
 refine En [Ah br q c l p, AG W0] (fun k => k = br) Tryz.func97 Tryz.ntmps97 (B3 (BE h) (B3 (BB ho) DN)) (CT (CK (fun k h1 h2 => by have h1 : k = br := h1; have h2 : k < W0.heap.size := h2; omega) CU) Bi) (A9 (fun _ hb => hb) (BP rfl Aw)) ?_
 intro a hS
 refine Wq 8 hS ?_; intro a hS
 refine Aa (cY hS MM (Gz W0 br q c l ht 34 p hp _ (hS.gg (X := Ah br q c l p)) hS.od hb) ?_ ?_)
 ·
  intro vp wp hvp hdp hcp
  refine AS ?_
  exact ⟨hdp, .inr ⟨vp, ⟨hvp.1, .inl hvp.2⟩, rfl, hcp⟩⟩
 intro x8 a w hS
 obtain ⟨_, hq34⟩ := x8
 have hpl : p < l.length := by
  rcases Nat.lt_or_ge p l.length with h | h
  · exact h
  · rw [D4 _ h] at hq34; cases hq34
 refine Wq 8 hS ?_; intro a hS
 refine AW (γ := (Nat × List UInt8 × Value)) (fun G a w => St 111 (fun k => k = br) w0 a w [(3, G.2.2), (0, .pointer (some ⟨br, 0, none⟩))] [AJ 5 1 G.2.2 G.2.1.length (KT G.2.1), Ah br q c l (p + G.1), AG W0] ∧ p + G.1 ≤ l.length ∧ E4 (l.drop (p + G.1)) G.2.1 G.1 = E4 (l.drop (p + 1)) [] 1 ∧ (∀ k, G.2.2.ownBlock = some k → w0.heap.size ≤ k) ∧ G.2.1.length ≤ 4 * G.1) (fun G => l.length - (p + G.1)) (1, [], .slice none 0 0) ⟨((hS.own_nil 5 1).sq).pk, hpl, rfl, fun k hk => (by cases hk), Nat.zero_le _⟩ ?_
 intro G a w hI
 obtain ⟨u, acc, vo⟩ := G
 obtain ⟨hS, hpu, hgo, hvB, hal⟩ := hI
 simp only at hS hpu hgo hvB hal
 obtain ⟨qo, co, rfl⟩ := AN (hS.gg (X := AJ 5 1 vo acc.length (KT acc)))
 refine Wh 4 hS ?_
 refine Lo (cM Zp (fun hS => LL W0 br q c l ht (p + u) hpu _ (hS.gg (X := Ah br q c l (p + u))) hS.od hb) ?_); intro x10
 refine Wn 5 ?_
 refine Dr 15 [] [.blk br [.slice q l.length c, .int .i64 ((p + u : Nat) : Int)] 93] ?_
 intro a w hS
 unfold Ah LK at hS
 refine Un hS (ZR 11 ?_)
 intro a w hS
 refine CG 1 (tf 14 1) 89 (.bool (decide (l.length ≤ p + u ∨ GN (l.drop (p + u)) < 32))) hS ?_ ?_
 ·
  intro hcM89
  refine Un hS (Gd 86 ?_ ?_) <;> intro hg86
  ·
   refine ZR 3 ?_
   exact Et 4 89 86 hcM89 rfl ((decide_eq_true (.inl (by omega))).symm) hg86
  refine ZR 3 ?_
  exact Ef 4 89 86 hcM89 rfl (decide_eq_decide.2 (by omega)) hg86
 ·
  intro a w hS
  refine Un hS (ZR 1 ?_)
  refine Wn 2 ?_
  refine iD (fun hc75 => ?_) fun hc75 => ?_
  ·
   have hno : E4 (l.drop (p + 1)) [] 1 = none := by
    rw [← hgo]
    rcases Nat.lt_or_ge (p + u) l.length with h1 | h1
    ·
     have hx : l[p + u]? = some l[p + u] := List.getElem?_eq_getElem h1
     rw [Fv hx, KS, if_pos (by have := hc75.resolve_left (by omega); rwa [TP hx] at this)]
    · rw [List.drop_eq_nil_of_le h1]; rfl
   refine Wn 2 ?_
   intro a w hS
   refine Aa (cY hS J0 (C9 br q c l (p + u) _ (hS.gg (X := Ah br q c l (p + u)))) ?_ ?_)
   ·
    intro vp wp hvp hdp hcp
    refine AX (AX (AS (AX ?_)))
    exact ⟨hdp, .inr ⟨vp, ⟨hvp, .inr hno⟩, rfl, hcp⟩⟩
   intro x91 a w hS
   exact x91.elim
  have hpul : p + u < l.length := by omega
  obtain ⟨b, off, x, hq, hx1, hc1⟩ := ht.cell hpul
  intro a w hS
  rw [TP hx1] at hS hc75
  rw [Fv hx1, KS, if_neg (by omega)] at hgo
  refine Wh 7 hS ?_
  refine iD (fun hc92 => ?_) fun hc92 => ?_
  ·
   refine Wn 9 ?_
   refine Lo (Sb ?_)
   refine Wn 5 ?_
   refine Xp (KO (l := Br acc) rfl AZ.1 C7.1 Dp.1 (fun w hh => jR (hh (AJ 5 1 (.slice qo acc.length co) acc.length (KT acc)) (by repeat constructor)))) ?_
   intro a w hS
   rw [Hc] at hS
   refine Wq 4 hS ?_; intro a hS
   refine AD (AD (AC (AD ?_)))
   refine Ro hS Tryz.results97 ?_
   rw [if_pos (by omega)] at hgo
   exact .inl ⟨⟨(acc, u + 1), hq34, hgo.symm, by show p + (u + 1) ≤ l.length; omega⟩, rfl, hS.chg, hS.ok (Ah br q c l (p + u + 1)) (by repeat constructor), fun b hb => .inl hb⟩
  rw [if_neg (by omega)] at hgo
  refine Wn 7 ?_
  refine iD (fun hc104 => ?_) fun hc104 => ?_
  ·
   rw [if_pos (by omega)] at hgo
   refine Wn 3 ?_
   intro a w hS
   refine Aa (cY hS iE (aR W0 br q c l ht (p + u) hpul _ (hS.gg (X := Ah br q c l (p + u))) hS.od hb) ?_ ?_)
   ·
    intro vp wp hvp hdp hcp
    refine AX (AX (AS (AX ?_)))
    exact ⟨hdp, .inr ⟨vp, ⟨hvp.1, .inr (by rw [← hgo, hvp.2])⟩, rfl, hcp⟩⟩
   intro x109 a w hS
   obtain ⟨⟨r, k⟩, hes, hek⟩ := x109
   simp only at hes hek hS
   rw [hes] at hgo
   simp only at hgo
   have hr := Td hes
   refine Aa (WT (m' := (acc ++ Lib.encodeRune (r : Int)).length) (xs' := KT (acc ++ Lib.encodeRune (r : Int))) hS (.cons rfl (.cons rfl .nil)) iF rfl (fun X hX b hbX => ?_) hvB (fun hown hsz => ?_) ?_)
   ·
    rcases List.mem_cons.1 hX with rfl | hX
    · have : b = br := hbX; omega
    ·
     rcases List.mem_cons.1 hX with rfl | hX
     · have : b < W0.heap.size := hbX; omega
     · cases hX
   ·
    have hap := Tryz.utf8_AppendRune_plain w0.heap.size (.slice qo acc.length co) acc.length (KT acc) (r : Int) (by omega) (by omega) w hown (by omega) hsz
    refine hap.mono fun e w' ⟨v', he, h1, o, h2⟩ => ⟨v', he, ?_, (Bd.alloc _ w o).trans (Bd.grown h2) (fun i hi _ => hi)⟩
    rw [N4, PW] at h1
    rw [List.length_append, PX]; exact h1
   intro v110 a w hvB' hS
   refine Wh 4 hS ?_
   have hq := hvB'
   rw [List.drop_drop] at hgo
   intro a w hS
   refine ⟨(u + 1 + k, acc ++ Lib.encodeRune (r : Int), v110), by show l.length - (p + (u + 1 + k)) < l.length - (p + u); omega, ?_, by show p + (u + 1 + k) ≤ l.length; omega, ?_, hvB', ?_⟩
   ·
    show St _ _ _ _ _ _ [_, Ah br q c l (p + (u + 1 + k)), _]
    rw [show p + (u + 1 + k) = p + u + 1 + k by omega]
    exact hS.sp
   ·
    show E4 (l.drop (p + (u + 1 + k))) _ _ = _
    rw [← hgo]
    congr 2; omega
   ·
    show (acc ++ Lib.encodeRune (r : Int)).length ≤ 4 * (u + 1 + k)
    have := Tc r; rw [List.length_append]; omega
  rw [if_neg (by omega)] at hgo
  refine Wn 2 ?_
  rw [← Fv hx1] at hgo
  refine Dr 11 [] [.blk br [.slice q l.length c, .int .i64 ((p + u : Nat) : Int)] 93, AG W0] ?_
  refine ZR 8 ?_
  refine Zx rfl (MZ (j := p + u) rfl rfl AZ.1 BL.1 (by omega)) ?_
  intro a w hS
  rw [show l.length - (p + u) = (l.drop (p + u)).length from List.length_drop.symm] at hS
  refine Un hS (Z0 rfl (cN iG (fun hS => aP W0 hU (Cu q (p + u) c 1) (c - (p + u)) (l.drop (p + u)) (by rw [Fv hx1]; simp) (ht.drop hpu) _ hS.od) ?_)); intro x20
  refine Za ?_
  refine ZR 1 ?_
  refine Wn 2 ?_
  refine iB (fun hc21 => ?_) fun hc21 => ?_
  ·
   have hd := x20.2 (by simpa using hc21)
   rw [hd, if_pos ⟨rfl, rfl⟩] at hgo
   refine Wn 7 ?_
   intro a w hS
   refine Aa (cY hS IC (DF Fe (.pointer (some ⟨br, 0, none⟩)) (l.length : Int) 11 (show (11 : Int) ≠ 0 by decide) (.blk br [.slice q l.length c, .int .i64 ((p + u : Nat) : Int)] 93) _ (hS.ok _ (by repeat constructor)) rfl) ?_ ?_)
   ·
    intro vp wp hvp hdp hcp
    refine AS (AX (AX (AS (AX ?_))))
    exact ⟨hdp, .inr ⟨vp, ⟨hvp, .inr hgo.symm⟩, rfl, hcp⟩⟩
   intro x28 a w hS
   exact x28.elim
  obtain ⟨fb, hfb⟩ := x20
  intro a w hS
  simp only at hS hc21
  clear hfb
  refine Wh 3 hS ?_
  obtain ⟨dr, dk, hdk⟩ : ∃ dr dk, Lib.decodeL (l.drop (p + u)) = (dr, dk) := ⟨_, _, rfl⟩
  have hdp := LQ (l.drop (p + u)) (by rw [Fv hx1]; simp)
  rw [List.length_drop] at hdp
  rw [hdk] at hgo hdp
  simp only at hgo hdp
  refine Dr 15 [] [.blk br [.slice q l.length c, .int .i64 ((p + u : Nat) : Int)] 93, AG W0] ?_
  refine ZR 8 ?_
  refine Zx rfl (MZ (j := p + u) rfl rfl AZ.1 BL.1 (by omega)) ?_
  intro a w hS
  rw [show l.length - (p + u) = (l.drop (p + u)).length from List.length_drop.symm] at hS
  refine Un hS (Z0 rfl (cP iH (fun hS => aS W0 hU (Cu q (p + u) c 1) (c - (p + u)) (l.drop (p + u)) (by rw [Fv hx1]; simp) (ht.drop hpu) _ hS.od) ?_))
  refine Za ?_
  refine ZR 5 ?_
  refine Wn 4 ?_
  intro a w hS
  rw [hdk] at hS; simp only at hS
  refine Wh 4 hS ?_
  refine Lm 3 47 (.bool (decide (dr = 65533 ∧ dk = 1))) ?_ ?_
  ·
   intro hcM47
   refine Gd 44 ?_ ?_ <;> intro hg44
   ·
    refine Wn 3 ?_
    exact Et 4 47 44 hcM47 rfl (by first | rfl | (simp [hg44]; done) | (simp [hg44]; omega) | grind) hg44
   refine Wn 3 ?_
   exact Ef 4 47 44 hcM47 rfl (by first | rfl | (simp [hg44]; done) | (simp [hg44]; omega) | grind) hg44
  ·
   refine Wn 2 ?_
   refine iD (fun hc47 => ?_) fun hc47 => ?_
   ·
    rw [if_pos hc47] at hgo
    refine Wn 2 ?_
    intro a w hS
    refine Aa (cY hS J0 (C9 br q c l (p + u) _ (hS.gg (X := Ah br q c l (p + u)))) ?_ ?_)
    ·
     intro vp wp hvp hdp hcp
     refine AS (AX (AX (AS (AX ?_))))
     exact ⟨hdp, .inr ⟨vp, ⟨hvp, .inr hgo.symm⟩, rfl, hcp⟩⟩
    intro x49 a w hS
    exact x49.elim
   rw [if_neg hc47, List.drop_drop] at hgo
   have hcap : l.length ≤ c := by
    obtain ⟨b2, off2, c2, e, h1, _⟩ := ht.lies.some (fun e => by have := congrArg List.length e; rw [Ap] at this; simp only [List.length_nil] at this; omega)
    injection e with _ _ e3
    rw [Ap] at h1; omega
   refine Wn 3 ?_
   refine Dr 18 [] [.blk br [.slice q l.length c, .int .i64 ((p + u : Nat) : Int)] 93, AG W0] ?_
   refine ZR 15 ?_
   intro a w hS
   rw [show ((p + u : Nat) : Int) + (dk : Int) = ((p + u + dk : Nat) : Int) from rfl] at hS
   refine Un hS (Zx rfl (PQ (i := p + u) (j := p + u + dk) rfl rfl rfl AZ.1 BL.1 ⟨by omega, by omega⟩) ?_)
   intro a w hS
   refine Zo 16 (tf 17 1) hS rfl wN rfl (Cx hS rfl rfl AZ.1 BL.1 HX.1 KI.1 rfl rfl rfl (by repeat constructor) (ys := KT ((l.take (p + u + dk)).drop (p + u))) (by rw [PW, List.length_drop, List.length_take]; omega) (by rw [N5, ← Fu]; exact WL ((Ha hS.od ht.lies).piece (j := p + u) (k := p + u + dk) (by omega) (by omega))) (by rw [N5]; exact jO _) (by omega) (fun _ => (by repeat constructor)) ?_); intro v66 a w hv66 hS
   refine Bc hS (AP (by repeat constructor) (AP (by repeat constructor) Ay)) ?_
   refine Un hS (ZR 1 ?_)
   refine Wn 11 ?_
   refine Lo (Sb ?_)
   refine Wn 3 ?_
   have htk : (l.take (p + u + dk)).drop (p + u) = (l.drop (p + u)).take dk := by rw [List.take_drop]
   have hkl : ((l.drop (p + u)).take dk).length = dk := by rw [List.length_take, List.length_drop]; omega
   intro a w hS
   rw [htk] at hS
   refine ⟨(u + dk, acc ++ (l.drop (p + u)).take dk, v66), by show l.length - (p + (u + dk)) < l.length - (p + u); omega, ?_, by show p + (u + dk) ≤ l.length; omega, ?_, ?_, ?_⟩
   ·
    show St _ _ _ _ _ _ [AJ _ _ _ (acc ++ (l.drop (p + u)).take dk).length (KT (acc ++ (l.drop (p + u)).take dk)), Ah br q c l (p + (u + dk)), _]
    rw [List.length_append, hkl, PX, show p + (u + dk) = p + u + dk by omega]
    have hS2 := hS
    rw [show p + u + dk - (p + u) = dk by omega] at hS2
    exact (hS2.sq).pk
   ·
    show E4 (l.drop (p + (u + dk))) _ _ = _
    rw [← hgo]
    congr 2; omega
   ·
    intro k hk
    rcases hS.mine (AJ 5 1 v66 (acc.length + (p + u + dk - (p + u))) (KT acc ++ KT ((l.drop (p + u)).take dk))) (by repeat constructor) rfl k hk with h1 | h1
    · exact h1
    · exact (hS.sep (X := AJ 5 1 v66 (acc.length + (p + u + dk - (p + u))) (KT acc ++ KT ((l.drop (p + u)).take dk))) (Y := Ah br q c l (p + u + dk)) (by repeat (first | exact Jw.head | apply Jw.tail)) (by repeat constructor) k hk h1).elim
   ·
    show (acc ++ (l.drop (p + u)).take dk).length ≤ 4 * (u + dk)
    rw [List.length_append, hkl]; omega
def AM (x : List UInt8) : List Value := [.string (tx x)]
def GR (s : Nat) (v : Value) (rows : List (List Value)) (w : World) : Prop := (rows = [] ∧ ∃ a c, v = .slice a 0 c) ∨ ∃ b off c, (rows ≠ [] ∧ rows.length ≤ c) ∧ v = .slice (some ⟨b, off, none⟩) rows.length c ∧ Dz b off s rows w ∧ b < w.heap.size
theorem GR.shape {s : Nat} {v : Value} {rows : List (List Value)} {w : World} (h : GR s v rows w) : ∃ a c, v = .slice a rows.length c := by
 rcases h with ⟨rfl, a, c, rfl⟩ | ⟨b, off, c, _, rfl, _⟩
 · exact ⟨a, c, rfl⟩
 · exact ⟨_, c, rfl⟩
theorem GR.keep {s : Nat} {v : Value} {rows : List (List Value)} {w w' : World} (h : GR s v rows w) (hw : ∀ b, v.ownBlock = some b → w'.heap[b]? = w.heap[b]?) : GR s v rows w' := by
 rcases h with h | ⟨b, off, c, h1, rfl, h3, h4⟩
 · exact .inl h
 ·
  have hb := hw b rfl
  refine .inr ⟨b, off, c, h1, rfl, h3.keep hb, ?_⟩
  rcases Nat.lt_or_ge b w'.heap.size with h5 | h5
  · exact h5
  · rw [Array.getElem?_eq_none h5, Array.getElem?_eq_getElem h4] at hb; cases hb
theorem PZ {E s m c : Nat} {q : Option Addr} {cs : List Value} {w : World} (h : w.ownsRow 0 E s (.slice q m c) m cs) : m ≤ c := by
 rcases h.2 with ⟨_, h0⟩ | ⟨g, cap, cur, e, _, _, hc, _⟩
 · omega
 · injection e with _ _ e3; omega
theorem aT {s m c : Nat} {a : Option Addr} {rows : List (List Value)} {w : World} (h : GR s (.slice a m c) rows w) (hne : rows ≠ []) : m ≤ c := by
 rcases h with ⟨h, _⟩ | ⟨b, off, c', ⟨_, h1⟩, e, _⟩
 · exact absurd h hne
 · injection e with _ e2 e3; rw [e2, e3]; exact h1
theorem Fw {α : Type} {enc : α → List Value} {s E : Nat} {v : Value} {xs : List α} {w : World} (hl : ∀ x, (enc x).length = s) (h : (AJ E s v xs.length (xs.flatMap enc)).ok w) : GR s v (xs.map enc) w := by
 obtain ⟨q, c, rfl⟩ := AN h.now
 by_cases hx : xs = []
 · subst hx; exact .inl ⟨rfl, _, _, rfl⟩
 ·
  obtain ⟨g, rfl⟩ := Dv h.now (fun e => hx (List.eq_nil_of_length_eq_zero e))
  exact .inr ⟨g, 0, c, ⟨by simpa using hx, by rw [List.length_map]; exact PZ h.now⟩, by rw [List.length_map], GK hl h.now, h.lt g rfl⟩
def DZ : Nat → JV → List Value → World → Prop
 | 0, _, _, _ => False
 | d + 1, .mk k t ns l, cs, w => ∃ (lv nv : Value) (rows : List (List Value)), cs = [.int .i64 (k : Int), .string (tx t), lv, nv] ∧ GR 1 nv (ns.map AM) w ∧ GR 4 lv rows w ∧ rows.length = l.length ∧ ∀ (i : Nat) (v : JV) (r : List Value), l[i]? = some v → rows[i]? = some r → DZ d v r w
theorem DZ.four {d : Nat} {v : JV} {cs : List Value} {w : World} (h : DZ d v cs w) : ∃ lv nv, (∃ a m c, lv = .slice a m c) ∧ (∃ a m c, nv = .slice a m c) ∧ cs = [.int .i64 (v.k : Int), .string (tx v.t), lv, nv] := by
 cases d with
 | zero => exact h.elim
 | succ d =>
   cases v with
   | mk k t ns l =>
     obtain ⟨lv, nv, rows, e, h1, h2, _⟩ := h
     obtain ⟨a, c, e1⟩ := h2.shape
     obtain ⟨a2, c2, e2⟩ := h1.shape
     exact ⟨lv, nv, ⟨a, _, c, e1⟩, ⟨a2, _, c2, e2⟩, e⟩
structure JX where
 v : JV
 cs : List Value
 F : Nat → Prop
 len : cs.length = 4
 one : cs.all Bl = true
def Be (d : Nat) (x : JX) : AT := .any x.F (DZ d x.v x.cs) true
def LR (l : List JX) (k : Nat) : Prop := ∃ x ∈ l, x.F k
def As (d : Nat) (l : List JX) : AT := .any (LR l) (fun w => ∀ x ∈ l, (Be d x).ok w) true
theorem D5 {d : Nat} {l : List JX} {w : World} (h : ∀ x ∈ l, (Be d x).ok w) : (As d l).ok w :=
 ⟨fun b ⟨x, hx, hb⟩ => (h x hx).lt b hb, fun _ hw x hx => (h x hx).agree fun k hk => hw k ⟨x, hx, hk⟩⟩
theorem CA {d : Nat} {l : List JX} {x : JX} {n : NN} {F0 : Nat → Prop} {w0 w : World} {a : Act} {L : List (Nat × Value)} {Γ : List AT} (h : St n F0 w0 a w L (Be d x :: As d l :: Γ)) : St n F0 w0 a w L (As d (l ++ [x]) :: Γ) :=
 h.join (Y := As d l) (Z := As d (l ++ [x])) .head (D5 fun y hy => by
   rcases List.mem_append.1 hy with hy | hy
   · exact h.get (X := As d l) (.tail _ (.head _)) y hy
   · obtain rfl := List.mem_singleton.1 hy; exact h.ok _ (.head _)) (fun b ⟨y, hy, hb⟩ => by
   rcases List.mem_append.1 hy with hy | hy
   · exact .inr ⟨y, hy, hb⟩
   · obtain rfl := List.mem_singleton.1 hy; exact .inl hb) (fun _ => ⟨rfl, rfl⟩)
theorem CH (d k : Nat) (t : List UInt8) : ∀ w, (AT.any (fun _ => False) (DZ (d + 1) (.mk k t [] []) [.int .i64 (k : Int), .string (tx t), .slice none 0 0, .slice none 0 0]) true).ok w := fun w =>
 ⟨fun _ h => h.elim, fun w' _ => ⟨_, _, [], rfl, .inl ⟨rfl, _, _, rfl⟩, .inl ⟨rfl, _, _, rfl⟩, rfl, fun i v r h => by cases h⟩⟩
theorem Eg {E1 E2 d k : Nat} {t : List UInt8} {ns : List (List UInt8)} {kids : List JX} {lv nv : Value} {n : NN} {F0 : Nat → Prop} {w0 w : World} {a : Act} {L : List (Nat × Value)} {Γ : List AT}
 (h : St n F0 w0 a w L (AJ E1 4 lv kids.length (kids.flatMap JX.cs) :: AJ E2 1 nv ns.length (ns.flatMap AM) :: As d kids :: Γ)) :
 St n F0 w0 a w L (.any (fun b => lv.ownBlock = some b ∨ nv.ownBlock = some b ∨ LR kids b) (DZ (d + 1) (.mk k t ns (kids.map JX.v)) [.int .i64 (k : Int), .string (tx t), lv, nv]) true :: Γ) := by
 have o1 := h.ok _ (.head _)
 have o2 := h.ok _ (.tail _ (.head _))
 have o3 := h.ok _ (.tail _ (.tail _ (.head _)))
 have hdis := List.pairwise_cons.1 h.dis
 have hdis2 := List.pairwise_cons.1 hdis.2
 have hdis3 := List.pairwise_cons.1 hdis2.2
 have hz : (AT.any (fun b => lv.ownBlock = some b ∨ nv.ownBlock = some b ∨ LR kids b) (DZ (d + 1) (.mk k t ns (kids.map JX.v)) [.int .i64 (k : Int), .string (tx t), lv, nv]) true).ok w := by
  refine ⟨fun b hb => hb.elim (o1.lt b) (fun hb => hb.elim (o2.lt b) (o3.lt b)), fun w' hw => ?_⟩
  have p1 := o1.agree (w' := w') (fun b hb => hw b (.inl hb))
  have p2 := o2.agree (w' := w') (fun b hb => hw b (.inr (.inl hb)))
  have p3 := o3.agree (w' := w') (fun b hb => hw b (.inr (.inr hb)))
  refine ⟨lv, nv, kids.map JX.cs, rfl, Fw (fun _ => rfl) p2, Fw (enc := JX.cs) JX.len p1, by simp, fun i v r hv hr => ?_⟩
  rw [List.getElem?_map, Option.map_eq_some_iff] at hv hr
  obtain ⟨x, hx, rfl⟩ := hv
  obtain ⟨y, hy, rfl⟩ := hr
  rw [hx] at hy
  cases hy
  exact (p3.now x (List.mem_of_getElem? hx)).now
 refine ⟨h.sl, h.chg, fun X hX => ?_, List.pairwise_cons.2 ⟨fun X hX b hb hb2 => ?_, hdis3.2⟩, fun X hX hm b hb => ?_⟩
 ·
  rcases List.mem_cons.1 hX with rfl | hX
  · exact hz
  · exact h.ok X (.tail _ (.tail _ (.tail _ hX)))
 ·
  rcases hb with hb | hb | hb
  · exact hdis.1 X (.tail _ (.tail _ hX)) b hb hb2
  · exact hdis2.1 X (.tail _ hX) b hb hb2
  · exact hdis3.1 X hX b hb hb2
 ·
  rcases List.mem_cons.1 hX with rfl | hX
  ·
   rcases hb with hb | hb | hb
   · exact h.mine _ (.head _) rfl b hb
   · exact h.mine _ (.tail _ (.head _)) rfl b hb
   · exact h.mine _ (.tail _ (.tail _ (.head _))) rfl b hb
  · exact h.mine X (.tail _ (.tail _ (.tail _ hX))) hm b hb
def mP : ByteArray := ⟨#[123, 91, 34, 45, 48, 49, 50, 51, 52, 53, 54, 55, 56, 57, 110, 102, 116]⟩
theorem WV : Qx mP EK := fun x => by unfold EK mP; rw [List.contains_eq_mem]
theorem Q2 (W0 : World) (br : Nat) (q : Option Addr) (c : Nat) (l : List UInt8) (ht : EB W0 q c l) (p : Nat) (hp : p ≤ l.length) (w0 : World) (h : (Ah br q c l p).φ w0) (ho : AQ W0 w0) (hb : W0.heap.size ≤ br) :
 CV Tryz.prog 137 [.pointer (some ⟨br, 0, none⟩)] w0 (Ah br q c l p) (fun _ : Unit => .bool (one EK (l.drop p))) (fun _ => Ah br q c l p) := by
 have hn := ht.n
 refine En [Ah br q c l p, AG W0] (fun k => k = br) Tryz.func137 Tryz.ntmps137 (B3 (BE h) (B3 (BB ho) DN)) (CT (CK (fun k h1 h2 => by have h1 : k = br := h1; have h2 : k < W0.heap.size := h2; omega) CU) Bi) (A9 (fun _ hb => hb) (BP rfl Aw)) ?_
 intro a hS
 refine Wq 2 hS ?_; intro a hS
 unfold Ah LK at hS
 refine Wh 4 hS ?_
 refine Dr 25 [] [.blk br [.slice q l.length c, .int .i64 (p : Int)] 93, AG W0] ?_
 refine ZR 11 ?_
 intro a w hS
 refine CG 1 (tf 24 1) 26 (.bool (one EK (l.drop p))) hS ?_ ?_
 ·
  intro hcM26
  refine Un hS (Gd 13 ?_ ?_) <;> intro hg13
  ·
   have hpl : p < l.length := by omega
   obtain ⟨b, off, x, hq, hx, hc⟩ := ht.cell hpl
   subst hq
   refine ZR 9 ?_
   refine Zy rfl (AI rfl BX.1 (fun w hh => by rw [Nat.mul_one]; exact AF (hh (AG W0) (by repeat constructor)) hc)) ?_
   refine Z0 rfl (cP PF (fun _ => IR mP x _) ?_)
   refine Za ?_
   refine ZR 2 ?_
   exact Et 14 26 13 hcM26 rfl (by rw [N3 EK hx, WV x]; exact decide_eq_decide.2 (by have := KP mP.data.toList x; constructor <;> intro h <;> (first | omega | skip); exact Classical.not_not.1 (fun h2 => by have := this.2 h2; omega); exact Int.not_lt.1 (fun h2 => this.1 h2 h))) hg13
  refine ZR 13 ?_
  exact Ef 14 26 13 hcM26 rfl (by rw [D4 EK (by omega)]) hg13
 ·
  intro a w hS
  refine Un hS (ZR 1 ?_)
  refine Wn 3 ?_
  intro a w hS
  refine Ro hS Tryz.results137 ?_
  exact ⟨(), rfl, hS.chg, hS.ok (Ah br _ c l p) (by repeat constructor), fun b hb => .inl hb⟩
def bt (l : List UInt8) (j : Nat) : Int := ((l.getD j 0).toNat : Int)
def SL (l : List UInt8) (lo hi : Int) (j : Nat) : Prop := j < l.length ∧ (if j = 1 then lo ≤ bt l j ∧ bt l j ≤ hi else 128 ≤ bt l j ∧ bt l j ≤ 191)
def Te (b0 n lo hi : Int) : Prop := (194 ≤ b0 ∧ b0 ≤ 223 ∧ n = 2 ∧ lo = 128 ∧ hi = 191) ∨ (224 ≤ b0 ∧ b0 ≤ 239 ∧ n = 3 ∧ lo = (if b0 = 224 then 160 else 128) ∧ hi = (if b0 = 237 then 159 else 191)) ∨ (240 ≤ b0 ∧ b0 ≤ 244 ∧ n = 4 ∧ lo = (if b0 = 240 then 144 else 128) ∧ hi = (if b0 = 244 then 143 else 191))
def Q3 (l : List UInt8) : Prop := ¬ ((Lib.decodeL l).1 = 65533 ∧ (Lib.decodeL l).2 = 1)
theorem WW {l : List UInt8} {lo hi : Int} : (SL l lo hi 1 ↔ 1 < l.length ∧ lo ≤ bt l 1 ∧ bt l 1 ≤ hi) ∧ (SL l lo hi 2 ↔ 2 < l.length ∧ 128 ≤ bt l 2 ∧ bt l 2 ≤ 191) ∧ (SL l lo hi 3 ↔ 3 < l.length ∧ 128 ≤ bt l 3 ∧ bt l 3 ≤ 191) := ⟨Iff.rfl, Iff.rfl, Iff.rfl⟩
theorem WX {l : List UInt8} {n lo hi : Int} (h : Te (bt l 0) n lo hi) : ((∀ j : Nat, 1 ≤ j → (j : Int) < n → SL l lo hi j) → (Lib.decodeL l).2 = n.toNat) ∧ (∀ j : Nat, 1 ≤ j → (j : Int) < n → ¬ SL l lo hi j → Lib.decodeL l = (65533, 1)) := by
 obtain ⟨i1, i2, i3⟩ := WW (l := l) (lo := lo) (hi := hi)
 rw [Lib.decodeL_N]
 have e0 : bt l 0 = ((l.getD 0 0).toNat : Int) := rfl
 have e1 : bt l 1 = ((l.getD 1 0).toNat : Int) := rfl
 have e2 : bt l 2 = ((l.getD 2 0).toNat : Int) := rfl
 have e3 : bt l 3 = ((l.getD 3 0).toNat : Int) := rfl
 rw [e1] at i1
 rw [e2] at i2
 rw [e3] at i3
 rw [e0] at h
 clear e0 e1 e2 e3
 generalize (l.getD 0 0).toNat = b0 at *
 generalize (l.getD 1 0).toNat = b1 at *
 generalize (l.getD 2 0).toNat = b2 at *
 generalize (l.getD 3 0).toNat = b3 at *
 rcases h with ⟨h1, h2, rfl, h4, h5⟩ | ⟨h1, h2, rfl, h4, h5⟩ | ⟨h1, h2, rfl, h4, h5⟩
 ·
  obtain ⟨d1, d2⟩ := WG (n := l.length) (b0 := b0) (b1 := b1) (b2 := b2) (b3 := b3) (by omega)
  refine ⟨fun hall => d1 ?_, fun j h6 h7 hno => d2 fun hc => hno ?_⟩
  · have := i1.1 (hall 1 (by omega) (by omega)); omega
  ·
   obtain rfl : j = 1 := by omega
   exact i1.2 (by omega)
 ·
  obtain ⟨d1, d2⟩ := Qr (n := l.length) (b0 := b0) (b1 := b1) (b2 := b2) (b3 := b3) (lo := lo.toNat) (hi := hi.toNat) (by omega) (by rw [h4]; split <;> split <;> omega) (by rw [h5]; split <;> split <;> omega)
  have hlo : 0 ≤ lo := by rw [h4]; split <;> omega
  have hhi : 0 ≤ hi := by rw [h5]; split <;> omega
  refine ⟨fun hall => d1 ?_, fun j h6 h7 hno => d2 fun hc => hno ?_⟩
  ·
   have a1 := i1.1 (hall 1 (by omega) (by omega))
   have a2 := i2.1 (hall 2 (by omega) (by omega))
   omega
  ·
   obtain rfl | rfl : j = 1 ∨ j = 2 := by omega
   · exact i1.2 (by omega)
   · exact i2.2 (by omega)
 ·
  obtain ⟨d1, d2⟩ := TJ (n := l.length) (b0 := b0) (b1 := b1) (b2 := b2) (b3 := b3) (lo := lo.toNat) (hi := hi.toNat) (by omega) (by rw [h4]; split <;> split <;> omega) (by rw [h5]; split <;> split <;> omega)
  have hlo : 0 ≤ lo := by rw [h4]; split <;> omega
  have hhi : 0 ≤ hi := by rw [h5]; split <;> omega
  refine ⟨fun hall => d1 ?_, fun j h6 h7 hno => d2 fun hc => hno ?_⟩
  ·
   have a1 := i1.1 (hall 1 (by omega) (by omega))
   have a2 := i2.1 (hall 2 (by omega) (by omega))
   have a3 := i3.1 (hall 3 (by omega) (by omega))
   omega
  ·
   obtain rfl | rfl | rfl : j = 1 ∨ j = 2 ∨ j = 3 := by omega
   · exact i1.2 (by omega)
   · exact i2.2 (by omega)
   · exact i3.2 (by omega)
instance (l : List UInt8) (lo hi : Int) (j : Nat) : Decidable (SL l lo hi j) := by unfold SL; exact inferInstance
theorem Hz {l : List UInt8} {j : Nat} {x : UInt8} (h : l[j]? = some x) : bt l j = (x.toNat : Int) := by unfold bt; rw [List.getD_eq_getElem?_getD, h]; rfl
theorem H0 (W0 : World) (q : Option Addr) (c : Nat) (l : List UInt8) (ht : EB W0 q c l) (hne : 0 < l.length) (w0 : World) (ho : AQ W0 w0) :
 Bb Tryz.prog 164 [.slice q l.length c] w0 (fun x : { z : Int // (Q3 l → z = ((Lib.decodeL l).2 : Int)) ∧ (¬ Q3 l → z < 1) } => .int .i64 x.1) (fun _ => A7) := by
 obtain ⟨b, off, x, rfl, hx, hcx⟩ := ht.cell hne
 have hb0 := Hz hx
 have hxl := x.toNat_lt
 refine Ew Ai Tryz.func164 Tryz.ntmps164 ho ?_
 intro a hS
 refine Wh 8 hS ?_
 refine Xp (BI (i := 0) rfl rfl AZ.1 BL.1 hne) ?_
 refine Xp (AI rfl BX.1 (fun w hh => AF (hh (AG W0) (by repeat constructor)) hcx)) ?_
 refine Wn 18 ?_
 intro a w hS
 refine C1 (fun a w => ∃ n lo hi : Int, St 67 Ai w0 a w [(4, .int .i64 n), (5, .int .u8 lo), (6, .int .u8 hi), (0, .slice (some ⟨b, off, none⟩) l.length c)] [AG W0] ∧ Te (bt l 0) n lo hi) ?_ ?_
 ·
  refine Wh 8 hS ?_
  refine iD (fun hc11 => ?_) fun hc11 => ?_
  ·
   refine Wn 6 ?_
   intro a w hS
   refine AD (AC ?_)
   refine Ro hS Tryz.results164 ?_
   have e0 : ((l.getD 0 0).toNat : Int) = (x.toNat : Int) := hb0
   have hd : Lib.decodeL l = ((l.getD 0 0).toNat, 1) := by rw [Lib.decodeL_N]; unfold Lib.decodeN; rw [if_pos (by omega)]
   exact ⟨⟨1, fun _ => by rw [hd]; rfl, fun h => absurd (fun h2 : (Lib.decodeL l).1 = 65533 ∧ (Lib.decodeL l).2 = 1 => by rw [hd] at h2; have := h2.1; simp only at this; omega) h⟩, rfl, hS.chg, AL _, fun b h => h.elim⟩
  refine Wn 5 ?_
  refine Lm 3 20 (.bool (decide (194 ≤ (x.toNat : Int) ∧ (x.toNat : Int) ≤ 223))) ?_ ?_
  ·
   intro hcM20
   refine Gd 17 ?_ ?_ <;> intro hg17
   ·
    refine Wn 3 ?_
    exact Et 4 20 17 hcM20 rfl (decide_eq_decide.2 ⟨fun h => ⟨hg17, h⟩, fun h => h.2⟩) hg17
   refine Wn 3 ?_
   exact Ef 4 20 17 hcM20 rfl ((decide_eq_false (fun h => hg17 h.1)).symm) hg17
  ·
   refine Wn 3 ?_
   refine iD (fun hc14 => ?_) fun hc14 => ?_
   ·
    refine Wn 4 ?_
    intro a w hS
    refine ⟨_, _, _, hS.sp, ?_⟩
    unfold Te
    rw [hb0]
    left; omega
   refine Wn 5 ?_
   refine Lm 3 27 (.bool (decide (224 ≤ (x.toNat : Int) ∧ (x.toNat : Int) ≤ 239))) ?_ ?_
   ·
    intro hcM27
    refine Gd 24 ?_ ?_ <;> intro hg24
    ·
     refine Wn 3 ?_
     exact Et 4 27 24 hcM27 rfl (decide_eq_decide.2 ⟨fun h => ⟨hg24, h⟩, fun h => h.2⟩) hg24
    refine Wn 3 ?_
    exact Ef 4 27 24 hcM27 rfl ((decide_eq_false (fun h => hg24 h.1)).symm) hg24
   ·
    refine Wn 3 ?_
    refine iD (fun hc21 => ?_) fun hc21 => ?_
    ·
     refine Wn 12 ?_
     refine iD (fun hc29 => ?_) fun hc29 => ?_
     ·
      refine Wn 10 ?_
      refine iD (fun hc31 => ?_) fun hc31 => ?_
      ·
       refine Wn 4 ?_
       intro a w hS
       refine ⟨_, _, _, hS.sp, ?_⟩
       unfold Te
       rw [hb0]
       left; omega
      refine Wn 2 ?_
      intro a w hS
      refine ⟨_, _, _, hS.sp, ?_⟩
      unfold Te
      rw [hb0]
      right; left; refine ⟨by omega, by omega, rfl, ?_, ?_⟩ <;> (split <;> omega)
     refine Wn 8 ?_
     refine iD (fun hc31 => ?_) fun hc31 => ?_
     ·
      refine Wn 4 ?_
      intro a w hS
      refine ⟨_, _, _, hS.sp, ?_⟩
      unfold Te
      rw [hb0]
      right; left; refine ⟨by omega, by omega, rfl, ?_, ?_⟩ <;> (split <;> omega)
     refine Wn 2 ?_
     intro a w hS
     refine ⟨_, _, _, hS.sp, ?_⟩
     unfold Te
     rw [hb0]
     right; left; refine ⟨by omega, by omega, rfl, ?_, ?_⟩ <;> (split <;> omega)
    refine Wn 5 ?_
    refine Lm 3 38 (.bool (decide (240 ≤ (x.toNat : Int) ∧ (x.toNat : Int) ≤ 244))) ?_ ?_
    ·
     intro hcM38
     refine Gd 35 ?_ ?_ <;> intro hg35
     ·
      refine Wn 3 ?_
      exact Et 4 38 35 hcM38 rfl (decide_eq_decide.2 ⟨fun h => ⟨hg35, h⟩, fun h => h.2⟩) hg35
     refine Wn 3 ?_
     exact Ef 4 38 35 hcM38 rfl ((decide_eq_false (fun h => hg35 h.1)).symm) hg35
    ·
     refine Wn 3 ?_
     refine iD (fun hc32 => ?_) fun hc32 => ?_
     ·
      refine Wn 12 ?_
      refine iD (fun hc40 => ?_) fun hc40 => ?_
      ·
       refine Wn 10 ?_
       refine iD (fun hc42 => ?_) fun hc42 => ?_
       ·
        refine Wn 4 ?_
        intro a w hS
        refine ⟨_, _, _, hS.sp, ?_⟩
        unfold Te
        rw [hb0]
        left; omega
       refine Wn 2 ?_
       intro a w hS
       refine ⟨_, _, _, hS.sp, ?_⟩
       unfold Te
       rw [hb0]
       right; right; refine ⟨by omega, by omega, rfl, ?_, ?_⟩ <;> (split <;> omega)
      refine Wn 8 ?_
      refine iD (fun hc42 => ?_) fun hc42 => ?_
      ·
       refine Wn 4 ?_
       intro a w hS
       refine ⟨_, _, _, hS.sp, ?_⟩
       unfold Te
       rw [hb0]
       right; right; refine ⟨by omega, by omega, rfl, ?_, ?_⟩ <;> (split <;> omega)
      refine Wn 2 ?_
      intro a w hS
      refine ⟨_, _, _, hS.sp, ?_⟩
      unfold Te
      rw [hb0]
      right; right; refine ⟨by omega, by omega, rfl, ?_, ?_⟩ <;> (split <;> omega)
     refine Wn 6 ?_
     intro a w hS
     refine AD (AC ?_)
     refine Ro hS Tryz.results164 ?_
     have e0 : ((l.getD 0 0).toNat : Int) = (x.toNat : Int) := hb0
     have hd : Lib.decodeL l = (65533, 1) := by rw [Lib.decodeL_N]; exact TK (by omega) (by omega) (by omega)
     exact ⟨⟨0, fun h => absurd (by rw [hd]; exact ⟨rfl, rfl⟩) h, fun _ => by decide⟩, rfl, hS.chg, AL _, fun b h => h.elim⟩
 intro a w hS
 obtain ⟨n, lo, hi, hS, hsq⟩ := hS
 have hn4 : 2 ≤ n ∧ n ≤ 4 := by rcases hsq with ⟨_, _, h, _⟩ | ⟨_, _, h, _⟩ | ⟨_, _, h, _⟩ <;> omega
 obtain ⟨q1, q2⟩ := WX hsq
 have hbad : ∀ j : Nat, 1 ≤ j → (j : Int) < n → ¬ SL l lo hi j → ¬ Q3 l := fun j h1 h2 h3 h4 => h4 (by rw [q2 j h1 h2 h3]; exact ⟨rfl, rfl⟩)
 refine Wq 7 hS ?_; intro a hS
 refine AW (γ := Nat) (fun k a w => St 67 Ai w0 a w [(7, .int .i64 (k : Int)), (4, .int .i64 n), (5, .int .u8 (if k = 1 then lo else 128)), (6, .int .u8 (if k = 1 then hi else 191)), (0, .slice (some ⟨b, off, none⟩) l.length c)] [AG W0] ∧ 1 ≤ k ∧ (k : Int) ≤ n ∧ ∀ j : Nat, 1 ≤ j → j < k → SL l lo hi j) (fun k => 4 - k) 1 ⟨hS.sp, Nat.le_refl _, by omega, fun j h1 h2 => by omega⟩ ?_
 intro k a w hI
 obtain ⟨hS, hk, hkn, hall⟩ := hI
 refine Wh 8 hS ?_
 refine iD (fun hc45 => ?_) fun hc45 => ?_
 ·
  refine Wn 13 ?_
  refine iD (fun hc51 => ?_) fun hc51 => ?_
  ·
   refine Wn 6 ?_
   intro a w hS
   refine AC (AD (AC (AC (AD (AC ?_)))))
   refine Ro hS Tryz.results164 ?_
   exact ⟨⟨-1, fun h => absurd h (hbad k hk (by omega) (fun h => by have := h.1; omega)), fun _ => by decide⟩, rfl, hS.chg, AL _, fun b h => h.elim⟩
  have hkl : k < l.length := by omega
  obtain ⟨b2, off2, y, hq2, hy, hcy⟩ := ht.cell hkl
  injection hq2 with hq2
  injection hq2 with hb2 ho2
  subst hb2 ho2
  have hby := Hz hy
  refine Wn 7 ?_
  refine Xp (BI rfl rfl AZ.1 BL.1 hkl) ?_
  refine Xp (AI rfl BX.1 (fun w hh => by rw [Nat.mul_one]; exact AF (hh (AG W0) (by repeat constructor)) hcy)) ?_
  refine Wn 3 ?_
  refine Lm 7 65 (.bool (!decide (SL l lo hi k))) ?_ ?_
  ·
   intro hcM65
   refine Gd 58 ?_ ?_ <;> intro hg58
   ·
    refine Wn 7 ?_
    exact Et 8 65 58 hcM65 rfl (by rw [decide_eq_false (fun h : SL l lo hi k => by have h2 := h.2; rw [hby] at h2; split at h2 <;> rename_i hk1 <;> simp only [hk1, if_true, if_false] at hg58 <;> omega)]; rfl) hg58
   refine Wn 2 ?_
   refine Xg (BI rfl rfl AZ.1 BL.1 hkl) ?_
   refine Xg (AI rfl BX.1 (fun w hh => by rw [Nat.mul_one]; exact AF (hh (AG W0) (by repeat constructor)) hcy)) ?_
   refine Wn 3 ?_
   exact Ef 8 65 58 hcM65 rfl (by by_cases hok : SL l lo hi k; (rw [decide_eq_true hok]; exact decide_eq_false (fun h => by have h2 := hok.2; rw [hby] at h2; split at h2 <;> rename_i hk1 <;> simp only [hk1, if_true, if_false] at h <;> omega)); (rw [decide_eq_false hok]; exact decide_eq_true (Classical.byContradiction fun h => hok ⟨hkl, by rw [hby]; split <;> rename_i hk1 <;> simp only [hk1, if_true, if_false] at h hg58 <;> omega⟩))) hg58
  ·
   refine Wn 2 ?_
   refine iB (fun hc65 => ?_) fun hc65 => ?_
   ·
    refine Wn 6 ?_
    intro a w hS
    refine AC (AD (AC (AC (AD (AC ?_)))))
    refine Ro hS Tryz.results164 ?_
    exact ⟨⟨0, fun h => absurd h (hbad k hk (by omega) (by simpa using hc65)), fun _ => by decide⟩, rfl, hS.chg, AL _, fun b h => h.elim⟩
   refine Wn 17 ?_
   intro a w hS
   exact ⟨k + 1, by omega, by rw [if_neg (show ¬ k + 1 = 1 by omega), if_neg (show ¬ k + 1 = 1 by omega)]; exact hS.sp, by omega, by omega, fun j h1 h2 => by
      rcases Nat.lt_or_ge j k with h3 | h3
      · exact hall j h1 h3
      · obtain rfl : j = k := by omega
        exact by simpa using hc65⟩
 refine Wn 1 ?_
 intro a w hS
 refine AH (AH (Aj ?_))
 refine Wh 8 hS ?_
 intro a w hS
 refine Ro hS Tryz.results164 ?_
 have h2 := q1 (fun j h1 h2 => hall j h1 (by omega))
 exact ⟨⟨n, fun _ => by rw [h2]; omega, fun h => absurd (fun h3 : (Lib.decodeL l).1 = 65533 ∧ (Lib.decodeL l).2 = 1 => by rw [h2] at h3; omega) h⟩, rfl, hS.chg, AL _, fun b h => h.elim⟩
def GS (q : Option Addr) (c : Nat) (l : List UInt8) (p : Nat) : List Value := [.slice q l.length c, .int .i64 (p : Int), .int .i64 0, .int .i64 0]
def BQ (br : Nat) (q : Option Addr) (c : Nat) (l : List UInt8) (p : Nat) : AT := .blk br (GS q c l p) 231
theorem G2 (x : Int) (w0 : World) : Ae Tryz.prog 200 [.int .u8 x] w0 (.bool (decide (48 ≤ x ∧ x ≤ 57))) := by
 refine Eo Ai Tryz.func200 Tryz.ntmps200 ?_
 intro a hS
 refine Wh 10 hS ?_
 refine Lm 3 8 (.bool (decide (48 ≤ x ∧ x ≤ 57))) ?_ ?_
 ·
  intro hcM8
  refine Gd 5 ?_ ?_ <;> intro hg5
  ·
   refine Wn 3 ?_
   exact Et 4 8 5 hcM8 rfl (decide_eq_decide.2 ⟨fun h => ⟨hg5, h⟩, fun h => h.2⟩) hg5
  refine Wn 3 ?_
  exact Ef 4 8 5 hcM8 rfl ((decide_eq_false (fun h => hg5 h.1)).symm) hg5
 ·
  refine Wn 4 ?_
  intro a w hS
  refine Ro hS Tryz.results200 ?_
  exact ⟨rfl, hS.chg⟩
theorem FI (W0 : World) (br : Nat) (q : Option Addr) (c : Nat) (l : List UInt8) (ht : EB W0 q c l) (hb : W0.heap.size ≤ br) (p : Nat) (hp : p ≤ l.length) (w0 : World) (h : (BQ br q c l p).φ w0) (ho : AQ W0 w0) :
 CV Tryz.prog 198 [.pointer (some ⟨br, 0, none⟩)] w0 (BQ br q c l p) (fun _ : Unit => .int .u8 (bt l p)) (fun _ => BQ br q c l p) := by
 have hn := ht.n
 refine En [BQ br q c l p, AG W0] (fun k => k = br) Tryz.func198 Tryz.ntmps198 (B3 (BE h) (B3 (BB ho) DN)) (CT (CK (fun k h1 h2 => by have h1 : k = br := h1; have h2 : k < W0.heap.size := h2; omega) CU) Bi) (A9 (fun _ hb => hb) (BP rfl Aw)) ?_
 intro a hS
 refine Wq 2 hS ?_; intro a hS
 unfold BQ GS at hS
 refine Wh 5 hS ?_
 refine Dr 10 [] [.blk br [.slice q l.length c, .int .i64 (p : Int), .int .i64 0, .int .i64 0] 231, AG W0] ?_
 refine ZR 10 ?_
 refine Wn 2 ?_
 refine iD (fun hc12 => ?_) fun hc12 => ?_
 ·
  have hpl : p < l.length := by omega
  obtain ⟨b, off, x, hq, hx, hcx⟩ := ht.cell hpl
  subst hq
  have hbt := Hz hx
  refine Wn 1 ?_
  refine Dr 11 [] [.blk br [.slice (some ⟨b, off, none⟩) l.length c, .int .i64 (p : Int), .int .i64 0, .int .i64 0] 231, AG W0] ?_
  refine ZR 8 ?_
  refine Zx rfl (BI rfl rfl AZ.1 BL.1 hpl) ?_
  refine Zy rfl (AI rfl BX.1 (fun w hh => by rw [Nat.mul_one]; exact AF (hh (AG W0) (by repeat constructor)) hcx)) ?_
  refine ZR 1 ?_
  refine Wn 4 ?_
  intro a w hS
  refine Ro hS Tryz.results198 ?_
  exact ⟨(), by rw [hbt], hS.chg, hS.ok (BQ br _ c l p) (by repeat constructor), fun b hb => .inl hb⟩
 refine Wn 8 ?_
 intro a w hS
 refine Ro hS Tryz.results198 ?_
 exact ⟨(), by unfold bt; rw [List.getD_eq_getElem?_getD, List.getElem?_eq_none (by omega)]; rfl, hS.chg, hS.ok (BQ br q c l p) (by repeat constructor), fun b hb => .inl hb⟩
theorem Dj (W0 : World) (br : Nat) (q : Option Addr) (c : Nat) (l : List UInt8) (ht : EB W0 q c l) (hb : W0.heap.size ≤ br) (p : Nat) (hp : p ≤ l.length) (hno : p < l.length → bt l p ≠ 32 ∧ bt l p ≠ 9 ∧ bt l p ≠ 10 ∧ bt l p ≠ 13) (w0 : World) (h : (BQ br q c l p).φ w0) (ho : AQ W0 w0) :
 CV Tryz.prog 167 [.pointer (some ⟨br, 0, none⟩)] w0 (BQ br q c l p) (fun _ : Unit => .tuple [].toArray) (fun _ => BQ br q c l p) := by
 have hn := ht.n
 refine En [BQ br q c l p, AG W0] (fun k => k = br) Tryz.func167 Tryz.ntmps167 (B3 (BE h) (B3 (BB ho) DN)) (CT (CK (fun k h1 h2 => by have h1 : k = br := h1; have h2 : k < W0.heap.size := h2; omega) CU) Bi) (A9 (fun _ hb => hb) (BP rfl Aw)) ?_
 intro a hS
 refine Wq 1 hS ?_; intro a hS
 refine AW (γ := Nat) (fun k a w => St 72 (fun k => k = br) w0 a w [(0, .pointer (some ⟨br, 0, none⟩))] [BQ br q c l p, AG W0] ∧ k = 0) (fun k => k) 0 ⟨hS.sq, rfl⟩ ?_
 intro k a w hI
 obtain ⟨hS, _⟩ := hI
 unfold BQ GS at hS
 refine Wq 2 hS ?_; intro a hS
 refine TN [] (by kernel_rfl) hS (AP (X := .blk br [.slice q l.length c, .int .i64 (p : Int), .int .i64 0, .int .i64 0] 231) (by repeat constructor) (AP (X := AG W0) (by repeat constructor) Ay)) (k := 62) (bs := (tf 0 62)) rfl rfl ?_; intro w hS
 refine Un hS (ZR 11 ?_)
 intro a w hS
 refine CG 0 (tf 62 0) 63 (.bool (false)) hS ?_ ?_
 ·
  intro hcM63
  refine Un hS (Gd 12 ?_ ?_) <;> intro hg12
  ·
   have hpl : p < l.length := by omega
   obtain ⟨b, off, x, hq, hx, hcx⟩ := ht.cell hpl
   subst hq
   obtain ⟨n1, n2, n3, n4⟩ := hno hpl
   rw [Hz hx] at n1 n2 n3 n4
   refine ZR 8 ?_
   refine Zx rfl (BI rfl rfl AZ.1 BL.1 hpl) ?_
   refine Zy rfl (AI rfl BX.1 (fun w hh => by rw [Nat.mul_one]; exact AF (hh (AG W0) (by repeat constructor)) hcx)) ?_
   refine ZR 2 ?_
   refine Ie 24 false rfl (decide_eq_false n1) ?_
   refine ZR 8 ?_
   refine Zx rfl (BI rfl rfl AZ.1 BL.1 hpl) ?_
   refine Zy rfl (AI rfl BX.1 (fun w hh => by rw [Nat.mul_one]; exact AF (hh (AG W0) (by repeat constructor)) hcx)) ?_
   refine ZR 3 ?_
   refine Ie 37 false rfl (decide_eq_false n2) ?_
   refine ZR 8 ?_
   refine Zx rfl (BI rfl rfl AZ.1 BL.1 hpl) ?_
   refine Zy rfl (AI rfl BX.1 (fun w hh => by rw [Nat.mul_one]; exact AF (hh (AG W0) (by repeat constructor)) hcx)) ?_
   refine ZR 3 ?_
   refine Ie 50 false rfl (decide_eq_false n3) ?_
   refine ZR 8 ?_
   refine Zx rfl (BI rfl rfl AZ.1 BL.1 hpl) ?_
   refine Zy rfl (AI rfl BX.1 (fun w hh => by rw [Nat.mul_one]; exact AF (hh (AG W0) (by repeat constructor)) hcx)) ?_
   refine ZR 3 ?_
   exact Et 55 63 12 hcM63 rfl (decide_eq_false n4) hg12
  refine ZR 51 ?_
  exact Ef 52 63 12 hcM63 rfl (by rfl) hg12
 ·
  intro a w hS
  refine Wh 2 hS ?_
  refine Ie 63 false rfl rfl ?_
  refine Wn 2 ?_
  intro a w hS
  refine AH (AH (Aj ?_))
  refine CS ?_
  refine Rm hS Tryz.results167 ?_
  exact ⟨(), rfl, hS.chg, hS.ok (BQ br q c l p) (by repeat constructor), fun b hb => .inl hb⟩
def gd (xs : List Int) (i : Nat) : Int := (xs[i]?).getD 0
section
def WY (p : Option (Nat × Nat)) (xs : List Int) : AT := ZE p 1 (xs.map Bv)
section
variable {n : NN} {F0 : Nat → Prop} {w0 w : World} {a : Act} {L : List (Nat × Value)} {Γ : List AT}
end
end
namespace Wd
def hi (v : Int) : Int := v / 18446744073709551616 % 18446744073709551616
def lo (v : Int) : Int := v % 18446744073709551616
def fit (v : Int) : Prop := -170141183460469231731687303715884105728 ≤ v ∧ v < 170141183460469231731687303715884105728
instance (v : Int) : Decidable (fit v) := by unfold fit; infer_instance
def val (x y : Int) : Int := if x < 9223372036854775808 then x * 18446744073709551616 + y else x * 18446744073709551616 + y - 340282366920938463463374607431768211456
def ab (v : Int) : Int := if v < 0 then -v else v
def sg (v : Int) : Int := if v < 0 then -1 else if v = 0 then 0 else 1
end Wd
namespace Wd
def er (v : Int) : Int := if fit v then 0 else 16
def sv (neg : Bool) (s : Int) : Int := if neg = true then -s else s
end Wd
namespace Wd
end Wd
namespace Wd
def ev (S w : Int) : Int := if w < 2 * (S % w) ∨ 2 * (S % w) = w ∧ S / w % 2 = 1 then S / w + 1 else S / w
def dv (a d : Int) : Int := sv (!(decide (a < 0) == decide (d < 0))) (ev (ab a) (ab d))
end Wd
namespace Wd
def dig (n : Nat) : UInt8 := UInt8.ofNat (48 + n % 10)
def dg (n : Nat) : List UInt8 := if n = 0 then [] else dg (n / 10) ++ [dig n]
 termination_by n
 decreasing_by omega
def ld : Nat → Nat → List UInt8
 | 0, _ => []
 | k + 1, n => ld k (n / 10) ++ [dig n]
theorem dg_zero : dg 0 = [] := by rw [dg]; simp
theorem dg_pos (n : Nat) (h : n ≠ 0) : dg n = dg (n / 10) ++ [dig n] := by rw [dg]; simp [h]
theorem ld_len : ∀ k n, (ld k n).length = k
 | 0, _ => rfl
 | k + 1, n => by simp [ld, ld_len k]
theorem ld_cons : ∀ k n, dig (n / 10 ^ k) :: ld k n = ld (k + 1) n
 | 0, n => by simp [ld]
 | k + 1, n => by
   have ih := ld_cons k (n / 10)
   have e : n / 10 ^ (k + 1) = n / 10 / 10 ^ k := by rw [Nat.pow_succ, Nat.mul_comm, Nat.div_div_eq_div_mul]
   rw [e]
   show _ :: (ld k (n / 10) ++ [dig n]) = ld (k + 1) (n / 10) ++ [dig n]
   rw [← ih]; rfl
theorem dg_ld : ∀ k n, dg n = if n / 10 ^ k = 0 then dg n else dg (n / 10 ^ k) ++ ld k n
 | 0, n => by simp [ld]
 | k + 1, n => by
   split
   · rfl
   ·
    rename_i h
    have e : n / 10 ^ (k + 1) = n / 10 / 10 ^ k := by rw [Nat.pow_succ, Nat.mul_comm, Nat.div_div_eq_div_mul]
    have hn : n ≠ 0 := fun h0 => h (by rw [h0]; simp)
    have ih := dg_ld k (n / 10)
    rw [e] at h ⊢
    rw [if_neg h] at ih
    rw [dg_pos n hn, ih]
    simp [ld]
theorem dg_all : ∀ k n, n / 10 ^ k = 0 → (k = 0 ∨ n / 10 ^ (k - 1) ≠ 0) → dg n = ld k n
 | 0, n, h, _ => by simp at h; subst h; exact dg_zero
 | k + 1, n, h, h1 => by
   have h2 : n / 10 ^ k ≠ 0 := by simpa using h1
   have e := dg_ld k n
   rw [if_neg h2] at e
   rw [e, ← ld_cons, dg_pos _ h2]
   have e2 : n / 10 ^ k / 10 = 0 := by rw [Nat.div_div_eq_div_mul, ← Nat.pow_succ]; exact h
   rw [e2, dg_zero]; rfl
def text (v : Int) : List UInt8 := if v = 0 then [48] else if v < 0 then 45 :: dg (ab v).toNat else dg (ab v).toNat
end Wd
section
section
variable {n : NN} {F0 : Nat → Prop} {w0 w : World} {a : Act} {L : List (Nat × Value)} {Γ : List AT} {dst : Option Nat} {ty : Nat} {pos : String} {af : Array Edge} {g : Option (Nat × Bool)} {x : Operand}
theorem Pa {b E : Nat} {u : Int} (hx : ev L x = some (.slice (some ⟨b, 0, none⟩) 1 1)) (hm : AT.blk b [.int .u8 u] E ∈ Γ) : Ex Tryz.prog n a L Γ ⟨dst, .convert 27 9 x, ty, pos, af, g⟩ (.string ⟨#[UInt8.ofNat u.toNat]⟩) := fun hs w hh => by
 have h := run_convert_bytes_arg (P := Tryz.prog) w 27 5 Tryz.underlying27 Tryz.underlying5 b 0 1 1 [u] rfl (fun i hi => by
   obtain rfl : i = 0 := by omega
   exact AR (hh _ hm) (k := 0) rfl) 9 Tryz.underlying9
 have e : strOfNums [u] = ⟨#[UInt8.ofNat u.toNat]⟩ := rfl
 rw [e] at h
 simp [execOp, hs.ev hx, h]
end
theorem Pb {m : Int} (h : 0 ≤ m ∧ m ≤ 255) : IntKind.u8.wrap m = m := IntWalk.u8_in _ h
theorem aU (i : Nat) : (10000 : Nat) ^ i = 10 ^ (4 * i) := by rw [Nat.pow_mul]
theorem Pc : ∀ (i N : Nat), i < (Dh N).length → (Dh N)[i]? = some ((N / 10000 ^ i % 10000 : Nat) : Int)
 | 0, N, h => by
   have h0 : N ≠ 0 := by rintro rfl; rw [Bo] at h; simp at h
   rw [DT h0]; simp
 | i + 1, N, h => by
   have h0 : N ≠ 0 := by rintro rfl; rw [Bo] at h; simp at h
   rw [DT h0] at h ⊢
   rw [List.getElem?_cons_succ, Pc i (N / 10000) (by simpa using h), Nat.div_div_eq_div_mul, Nat.pow_succ, Nat.mul_comm]
theorem Tf {N : Nat} : N < 10 ^ (4 * (Dh N).length) := by
 have := jJ (PI N)
 rw [TD] at this
 rw [← aU]
 have e : ((10000 ^ (Dh N).length : Nat) : Int) = 10000 ^ (Dh N).length := by rw [Int.natCast_pow]; rfl
 rw [← e] at this
 omega
theorem aV {N : Nat} (h : N ≠ 0) : 10 ^ (4 * ((Dh N).length - 1)) ≤ N := by
 have := V7 h
 rw [← aU]
 have e : ((10000 ^ ((Dh N).length - 1) : Nat) : Int) = 10000 ^ ((Dh N).length - 1) := by rw [Int.natCast_pow]; rfl
 rw [← e] at this
 omega
def xk (N i k : Nat) : Nat := N / 10 ^ (4 * i + k) % 10 ^ (4 - k)
theorem WZ (N i : Nat) : xk N i 0 = N / 10000 ^ i % 10000 := by unfold xk; rw [aU]; rfl
theorem Tg {N i k : Nat} (h : k < 4) : xk N i k / 10 = xk N i (k + 1) := by
 unfold xk
 rw [show 4 - k = (4 - (k + 1)) + 1 by omega, Nat.pow_succ, Nat.mul_comm (10 ^ (4 - (k + 1))) 10, Nat.mod_mul_right_div_self, Nat.div_div_eq_div_mul, ← Nat.pow_succ]
 rfl
theorem aW {N i k : Nat} (h : k < 4) : xk N i k % 10 = N / 10 ^ (4 * i + k) % 10 := by
 unfold xk
 rw [show 4 - k = (4 - (k + 1)) + 1 by omega, Nat.pow_succ]
 exact Nat.mod_mod_of_dvd _ (Nat.dvd_mul_left _ _)
theorem Yo {N i k : Nat} : xk N i k < 10000 := by
 unfold xk
 have h1 : N / 10 ^ (4 * i + k) % 10 ^ (4 - k) < 10 ^ (4 - k) := Nat.mod_lt _ (Nat.pow_pos (by decide))
 have h2 : 10 ^ (4 - k) ≤ 10 ^ 4 := Nat.pow_le_pow_right (by decide) (by omega)
 omega
theorem Fx {N i k : Nat} (hi : i + 1 = (Dh N).length) (hk : k ≤ 4) : N / 10 ^ (4 * i + k) = xk N i k := by
 unfold xk
 have h1 := Tf (N := N)
 rw [← hi, show 4 * (i + 1) = (4 * i + k) + (4 - k) by omega, Nat.pow_add] at h1
 exact (Nat.mod_eq_of_lt (Nat.div_lt_of_lt_mul h1)).symm
theorem Pd {N i : Nat} (hi : i + 1 = (Dh N).length) : N / 10 ^ (4 * i) ≠ 0 := by
 have hN : N ≠ 0 := by rintro rfl; rw [Bo] at hi; simp at hi
 have h1 := aV hN
 rw [← hi, Nat.add_sub_cancel] at h1
 have := Nat.div_pos h1 (Nat.pow_pos (n := 4 * i) (show 0 < 10 by decide))
 omega
theorem I5 (x : UInt8) (l : List UInt8) : (⟨#[x]⟩ : ByteArray) ++ ⟨l.toArray⟩ = ⟨(x :: l).toArray⟩ := by
 apply ByteArray.ext; simp
theorem KU {N i k : Nat} (h : k < 4) : (⟨#[UInt8.ofNat (48 + (xk N i k : Int) % 10).toNat]⟩ : ByteArray) ++ ⟨(Wd.ld (4 * i + k) N).toArray⟩ = ⟨(Wd.ld (4 * i + (k + 1)) N).toArray⟩ := by
 have e : UInt8.ofNat (48 + (xk N i k : Int) % 10).toNat = Wd.dig (N / 10 ^ (4 * i + k)) := by
  unfold Wd.dig
  rw [← aW h]
  congr 1
 rw [e, show 4 * i + (k + 1) = (4 * i + k) + 1 by omega, ← Wd.ld_cons, I5]
theorem Pe : ∀ (k n : Nat), n < 10 ^ k → (Wd.dg n).length ≤ k
 | 0, n, h => by
   obtain rfl : n = 0 := by simpa using h
   rw [Wd.dg_zero]; simp
 | k + 1, n, h => by
   by_cases h0 : n = 0
   · subst h0; rw [Wd.dg_zero]; simp
   ·
    rw [Wd.dg_pos n h0, List.length_append]
    have := Pe k (n / 10) (by rw [Nat.pow_succ] at h; omega)
    simp only [List.length_cons, List.length_nil]; omega
theorem Q4 (p : Option (Nat × Nat)) (c : Nat) (z : Int) (hz : (Dh z.natAbs).length ≤ 1000) (w0 : World) (h : (WY p (Dh z.natAbs)).ok w0) :
 Ae Tryz.prog 48 [Gq z p c] w0 (.string ⟨(Wd.text z).toArray⟩) := by
 have hp : Jv p 1 ((Dh z.natAbs).map Bv) w0 := h.now
 refine En [WY p (Dh z.natAbs)] Ai Tryz.func48 Tryz.ntmps48 (by intro X hX; obtain rfl := List.mem_singleton.1 hX; exact h) (by simp) (by intro X hX hm; obtain rfl := List.mem_singleton.1 hX; cases hm) ?_
 intro a hS
 refine Wh 2 hS ?_
 refine Lo (Bx ?_); intro b1
 refine Wn 12 ?_
 refine iD (fun hc10 => ?_) fun hc10 => ?_
 ·
  have hz0 : z = 0 := by
   have := (TF (n := z.natAbs)).2
   by_cases h0 : 0 < z.natAbs
   · have h1 := List.length_pos_iff.2 (this h0); omega
   · omega
  refine Wn 7 ?_
  intro a w hS
  refine Ro hS Tryz.results48 ?_
  exact ⟨by subst hz0; rfl, hS.chg⟩
 refine Wn 14 ?_
 intro a w hS
 refine AW (γ := (Nat × List UInt8)) (fun G a w => St 54 Ai w0 a w [(4, .int .i64 (G.1 : Int)), (3, .string ⟨G.2.toArray⟩), (2, .string ⟨#[]⟩), (1, .pointer (some ⟨b1, 0, none⟩))] [.blk b1 [.bool (decide (z < 0)), C3 p (Dh z.natAbs).length c] 123, WY p (Dh z.natAbs)] ∧ G.1 ≤ (Dh z.natAbs).length ∧ (G.1 < (Dh z.natAbs).length → G.2 = Wd.ld (4 * G.1) z.natAbs) ∧ (G.1 = (Dh z.natAbs).length → G.2 = Wd.dg z.natAbs)) (fun G => (Dh z.natAbs).length - G.1) (0, []) ⟨hS.slots ⟨rfl, rfl, rfl, rfl, trivial⟩, Nat.zero_le _, fun _ => rfl, fun e => absurd e (by simp only; omega)⟩ ?_
 intro G a w hI
 obtain ⟨i, s⟩ := G
 obtain ⟨hS, hi, hs1, hs2⟩ := hI
 simp only at hS hi hs1 hs2
 refine Wh 10 hS ?_
 refine iD (fun hc15 => ?_) fun hc15 => ?_
 ·
  have hsl := hs1 (by omega)
  subst hsl
  have hd := Pc i z.natAbs (by omega)
  obtain ⟨bp, op, rfl⟩ := WA hp (fun e => by rw [e] at hd; cases hd)
  have hd' : ((Dh z.natAbs).map Bv)[i]? = some (Bv ((z.natAbs / 10000 ^ i % 10000 : Nat) : Int)) := by simp [hd]
  refine Wn 10 ?_
  refine Xp (AI rfl El.1 (fun w hh => So (by repeat (first | exact .head _ | refine .tail _ ?_)) hd' w hh 0 (.int .i64 ((z.natAbs / 10000 ^ i % 10000 : Nat) : Int)) rfl)) ?_
  refine Wn 5 ?_
  intro a w hS
  rw [← WZ] at hS
  refine Wq 4 hS ?_; intro a hS
  refine AW (γ := Nat) (fun k a w => St 54 Ai w0 a w [(6, .int .i64 (k : Int)), (5, .int .i64 (xk z.natAbs i k : Int)), (4, .int .i64 (i : Int)), (3, .string ⟨(Wd.ld (4 * i + k) z.natAbs).toArray⟩), (2, .string ⟨#[]⟩), (1, .pointer (some ⟨b1, 0, none⟩))] [.blk b1 [.bool (decide (z < 0)), C3 (some (bp, op)) (Dh z.natAbs).length c] 123, WY (some (bp, op)) (Dh z.natAbs)] ∧ k ≤ 4 ∧ (i + 1 = (Dh z.natAbs).length → k ≠ 0 → z.natAbs / 10 ^ (4 * i + k - 1) ≠ 0)) (fun k => 4 - k) 0 ⟨hS.slots ⟨rfl, rfl, rfl, rfl, rfl, rfl, trivial⟩, Nat.zero_le _, fun _ e => absurd rfl e⟩ ?_
  intro k a w hI
  obtain ⟨hS, hk, hpr⟩ := hI
  refine Wh 6 hS ?_
  refine Gd 25 ?_ ?_ <;> intro hg25
  ·
   refine Wn 7 ?_
   refine Gd 32 ?_ ?_ <;> intro hg32
   ·
    refine Wn 13 ?_
    have hk4 : k < 4 := by omega
    have hxl := Yo (N := z.natAbs) (i := i) (k := k)
    have hll : (Wd.ld (4 * i + k) z.natAbs).length = 4 * i + k := Wd.ld_len _ _
    refine Wn 1 ?_
    refine Xp (Ii rfl rfl (by omega)) ?_
    refine Wn 1 ?_
    refine Xp (GH rfl Tryz.underlying3 Tryz.underlying5) ?_
    intro a w hS
    rw [Pb (by omega)] at hS
    refine Un hS (Lo (Bz ?_)); intro b43
    refine Xp (Pa rfl (by repeat (first | exact .head _ | refine .tail _ ?_))) ?_
    refine Wn 1 ?_
    refine Xp (Do rfl rfl (by simp [ByteArray.size]; omega)) ?_
    intro a w hS
    rw [KU hk4] at hS
    refine Wh 5 hS ?_
    refine Xp (Nn rfl rfl (by omega)) ?_
    intro a w hS
    rw [show (xk z.natAbs i k : Int) / 10 = (xk z.natAbs i (k + 1) : Nat) by rw [← Tg hk4]; omega] at hS
    refine Wq 9 hS ?_; intro a hS
    refine ⟨k + 1, by omega, (hS.drop (by repeat (first | exact List.Sublist.refl _ | apply List.Sublist.cons))).slots (by exact ⟨rfl, rfl, rfl, rfl, rfl, rfl, trivial⟩), by omega, fun e _ => ?_⟩
    rw [show 4 * i + (k + 1) - 1 = 4 * i + k by omega, Fx e hk]
    omega
   refine Wn 6 ?_
   refine iD (fun hc36 => ?_) fun hc36 => ?_
   ·
    refine Wn 6 ?_
    have hk4 : k < 4 := by omega
    have hxl := Yo (N := z.natAbs) (i := i) (k := k)
    have hll : (Wd.ld (4 * i + k) z.natAbs).length = 4 * i + k := Wd.ld_len _ _
    refine Wn 1 ?_
    refine Xp (Ii rfl rfl (by omega)) ?_
    refine Wn 1 ?_
    refine Xp (GH rfl Tryz.underlying3 Tryz.underlying5) ?_
    intro a w hS
    rw [Pb (by omega)] at hS
    refine Un hS (Lo (Bz ?_)); intro b43
    refine Xp (Pa rfl (by repeat (first | exact .head _ | refine .tail _ ?_))) ?_
    refine Wn 1 ?_
    refine Xp (Do rfl rfl (by simp [ByteArray.size]; omega)) ?_
    intro a w hS
    rw [KU hk4] at hS
    refine Wh 5 hS ?_
    refine Xp (Nn rfl rfl (by omega)) ?_
    intro a w hS
    rw [show (xk z.natAbs i k : Int) / 10 = (xk z.natAbs i (k + 1) : Nat) by rw [← Tg hk4]; omega] at hS
    refine Wq 9 hS ?_; intro a hS
    refine ⟨k + 1, by omega, (hS.drop (by repeat (first | exact List.Sublist.refl _ | apply List.Sublist.cons))).slots (by exact ⟨rfl, rfl, rfl, rfl, rfl, rfl, trivial⟩), by omega, fun e _ => ?_⟩
    rw [show 4 * i + (k + 1) - 1 = 4 * i + k by omega, Fx e hk]
    omega
   refine Wn 1 ?_
   intro a w hS
   refine AH (AH (Aj ?_))
   refine Wq 7 hS ?_; intro a hS
   refine ⟨(i + 1, Wd.ld (4 * i + k) z.natAbs), by simp only; omega, hS.slots (by exact ⟨rfl, rfl, rfl, rfl, trivial⟩), by simp only; omega, fun e => ?_, fun e => ?_⟩
   ·
    simp only at e ⊢
    obtain rfl : k = 4 := by omega
    rfl
   ·
    simp only at e ⊢
    have hk0 : k ≠ 0 := by
     rintro rfl
     have := Pd e
     have h2 := Fx e (Nat.zero_le 4)
     rw [Nat.add_zero] at h2
     omega
    have hx0 : xk z.natAbs i k = 0 := by
     by_cases h4 : k = 4
     · subst h4; unfold xk; simp [Nat.mod_one]
     · omega
    refine (Wd.dg_all (4 * i + k) z.natAbs (by rw [Fx e hk]; exact hx0) (.inr (hpr e hk0))).symm
  refine Wn 15 ?_
  intro a w hS
  refine AH (AH (Aj ?_))
  refine Wq 7 hS ?_; intro a hS
  refine ⟨(i + 1, Wd.ld (4 * i + k) z.natAbs), by simp only; omega, hS.slots (by exact ⟨rfl, rfl, rfl, rfl, trivial⟩), by simp only; omega, fun e => ?_, fun e => ?_⟩
  ·
   simp only at e ⊢
   obtain rfl : k = 4 := by omega
   rfl
  ·
   simp only at e ⊢
   have hk0 : k ≠ 0 := by
    rintro rfl
    have := Pd e
    have h2 := Fx e (Nat.zero_le 4)
    rw [Nat.add_zero] at h2
    omega
   have hx0 : xk z.natAbs i k = 0 := by
    by_cases h4 : k = 4
    · subst h4; unfold xk; simp [Nat.mod_one]
    · omega
   refine (Wd.dg_all (4 * i + k) z.natAbs (by rw [Fx e hk]; exact hx0) (.inr (hpr e hk0))).symm
 have hsl := hs2 (by omega)
 subst hsl
 have hzn : z ≠ 0 := by
  rintro rfl
  rw [show (0 : Int).natAbs = 0 from rfl, Bo] at *
  simp at *
 have hta : (Wd.ab z).toNat = z.natAbs := by unfold Wd.ab; split <;> omega
 have hdl := Pe _ z.natAbs Tf
 refine Wn 1 ?_
 intro a w hS
 refine AH (AH (Aj ?_))
 refine Wh 8 hS ?_
 refine iD (fun hc50 => ?_) fun hc50 => ?_
 ·
  refine Wn 3 ?_
  refine Xp (Do rfl rfl (by simp [ByteArray.size]; omega)) ?_
  refine Wn 5 ?_
  intro a w hS
  refine Ro hS Tryz.results48 ?_
  exact ⟨by unfold Wd.text; rw [if_neg hzn, if_pos hc50, hta]; rw [I5], hS.chg⟩
 refine Wn 9 ?_
 intro a w hS
 refine Ro hS Tryz.results48 ?_
 exact ⟨by unfold Wd.text; rw [if_neg hzn, if_neg hc50, hta], hS.chg⟩
end
def N6 (k : ByteArray) : Array Value := [.string k].toArray
theorem St.bareK {n : NN} {a : Act} {w : World} {L : List (Nat × Value)} (h : Sl n a L) : St n Ai w a w L [] := ⟨h, Bd.refl _ _, DN, ZF, Aw⟩
def I6 (v : Value) (xs : List ByteArray) : AT := AJ 9 1 v xs.length (xs.map .string)
theorem I7 {w w' : World} {E s : Nat} {v : Value} {m : Nat} {xs : List Value} (h : w.ownsRow 0 E s v m xs) (hw : ∀ b, v.ownBlock = some b → w'.heap[b]? = w.heap[b]?) : w'.ownsRow 0 E s v m xs :=
 (C2 h).hold w' hw
structure qT (w0 : World) (bx hi : Nat) (xs : List ByteArray) (W : World) : Prop where
 chg : Bd Ai w0 W
 row : ∃ v, W.heap[bx]? = some (.cells [v].toArray 35 (0, 0)) ∧ W.ownsRow 0 9 1 v xs.length (xs.map .string) ∧ ∀ k, v.ownBlock = some k → hi ≤ k
theorem aX {w0 : World} {bx B hi : Nat} (hB : w0.heap.size ≤ B) (h2 : bx < B) : TM B hi (qT w0 bx hi) := fun _ _ _ h e1 e2 e3 e4 e5 => by
 obtain ⟨v, q1, q2, q3⟩ := h.row
 have hs := h.chg.size
 refine ⟨⟨e1.trans h.chg.os, e2.trans h.chg.tape, e3.trans h.chg.output, Nat.le_trans hs e4, fun k hk hn => (e5 k (by omega) (.inl (by omega))).trans (h.chg.block k hk hn)⟩, v, ?_, ?_, q3⟩
 · exact (e5 bx (Array.getElem?_eq_some_iff.1 q1).1 (.inl h2)).trans q1
 · exact I7 q2 (fun k hk => e5 k (World.ownsRow.lt q2 k hk).2 (.inr (q3 k hk)))
theorem N7 {w0 W W1 W2 W3 : World} {B : Nat} {F : Nat → Prop} (h : Bd Ai w0 W) (hB : w0.heap.size ≤ B) (h1 : Bd Ai W W1) (hT : Qs (B + 1) W1 W2) (h3 : Bd F W2 W3) (hF : ∀ k, F k → w0.heap.size ≤ k) : Bd Ai w0 W3 := by
 refine ⟨h3.os.trans (hT.os.trans (h1.os.trans h.os)), h3.tape.trans (hT.tape.trans (h1.tape.trans h.tape)), h3.output.trans (hT.output.trans (h1.output.trans h.output)), ?_, fun k hk _ => ?_⟩
 · have := h.size; have := h1.size; have := hT.size; have := h3.size; omega
 ·
  have e1 := h.block k hk (fun hf => hf)
  have e2 := h1.block k (by have := h.size; omega) (fun hf => hf)
  have e3 := hT.same k (by omega)
  have e4 := h3.block k (by have := h.size; have := h1.size; have := hT.size; omega) (fun hf => by have := hF k hf; omega)
  exact e4.trans (e3.trans (e2.trans e1))
theorem Me {gf : Nat} {lb : Array Value} (eg : AA Tryz.prog gf) {S Sp : List ByteArray → Prop} {N : Nat} (hN : N ≤ 1000000) (X : AT) (hXm : X.mine = false) (hseq : Qt Tryz.prog gf lb N6 S Sp N X.φ) (w0 : World) (hX : X.ok w0) :
 Bb Tryz.prog 186 [.slice none 0 0, .func (.func gf) #[] lb] w0 (fun y : { y : Value × List ByteArray // S y.2 } => y.1.1) (fun y => I6 y.1.1 y.1.2) := by
 refine LI [(0, .slice none 0 0), (1, .func (.func gf) #[] lb)] [X] Ai Tryz.func186 rfl Tryz.ntmps186 ⟨rfl, rfl, trivial⟩ rfl (B3 (hX) DN) Bi (BP hXm Aw) ?_
 intro a hS
 refine GE ?_
 refine C8 ?_
 refine EL rfl (SU hS rfl rfl rfl ?_); clear hS a; intro a w b2 hS
 refine EL rfl (FU hS (Ak rfl) rfl ?_); clear hS a; intro a hS
 refine GD ?_
 refine nT ?_
 refine GE ?_
 refine GE ?_
 refine C8 ?_
 refine EL rfl (FU hS (CJ rfl) rfl ?_); clear hS a; intro a hS
 refine GD ?_
 refine nT ?_
 refine IQ ?_
 obtain ⟨B, hB⟩ : ∃ B, w.heap.size = B := ⟨_, rfl⟩
 have g2 := hS.gg (X := .blk b2 [.slice none 0 0] 35)
 have l2 : b2 < B := by rw [← hB]; exact (Array.getElem?_eq_some_iff.1 g2).1
 have m2 : w0.heap.size ≤ b2 := (hS.mine (.blk b2 [.slice none 0 0] 35) (by repeat constructor) rfl b2 rfl).resolve_right (fun h => h)
 have hB0 : w0.heap.size ≤ B := by rw [← hB]; exact hS.chg.size
 refine LJ (α := ByteArray) hB (hS.sl.ev rfl) eg hseq (fun _ => rfl) (qT w0 b2) (fun _ _ _ _ => False) (fun hi hh => aX hB0 l2) (fun _ _ _ _ _ _ h => h.elim)
  (fun hi pre W h => hX.hold W (fun b hb => h.chg.block b (hX.lt b hb) (fun e => e))) (fun hi hh => ⟨hS.chg, .slice none 0 0, g2, World.ownsRow_nil _ _ _ _, fun k hk => (by cases hk)⟩) ?_ ?_ ?_
 ·
  intro hi l pre x W hh hhW hI hlen
  obtain ⟨v, q1, q2, q3⟩ := hI.row
  have hR : St 13 Ai W (a.put (some 7) (.string x)) W [(7, .string x), (2, .pointer (some ⟨b2, 0, none⟩))] [] :=
   ⟨(hS.sl.put rfl _).sub (by repeat (first | exact trivial | refine ⟨rfl, ?_⟩)), Bd.refl _ _, DN, ZF, Aw⟩
  have hact : ({ tmps := (#[7].zip (N6 x)).foldl (fun t (p, v) => t.setIfInBounds p v) a.tmps, defers := [] } : Act) = a.put (some 7) (.string x) := by
   simp [Act.put, hS.sl.defers, N6]
  rw [hact]
  clear hS hact g2 hB
  generalize a.put (some 7) (.string x) = a2 at hR ⊢
  clear a; rename Act => a
  clear w
  have hS := hR
  clear hR
  refine C8 ?_
  refine EL rfl (FU hS (Ak rfl) rfl ?_); clear hS a; intro a hS
  refine GD ?_
  refine nT ?_
  have hCW := hS.chg
  have hC1 := hCW.size
  refine ⟨⟨hC1, fun k h1 h2 => hCW.block k (by omega) (fun h => h)⟩, fun W2 hT => ?_⟩
  have hT1 := hT.size
  have hlow : ∀ k, k < W.heap.size → (k < B ∨ hi ≤ k) → W2.heap[k]? = W.heap[k]? := fun k hk hk2 => (hT.same k (by omega)).trans (hCW.block k hk (fun h => h))
  have hR : St 13 (fun k => k = b2 ∨ v.ownBlock = some k) W2 a W2 [(5, .string x), (2, .pointer (some ⟨b2, 0, none⟩))] [.blk b2 [v] 35, AJ 9 1 v pre.length (pre.map .string)] :=
   ⟨hS.sl.sub (by repeat (first | exact trivial | refine ⟨rfl, ?_⟩)), Bd.refl _ _, B3 (BE ((hlow b2 (by omega) (.inl l2)).trans q1)) (B3 (C2 (I7 q2 (fun k hk => hlow k (World.ownsRow.lt q2 k hk).2 (.inr (q3 k hk))))) DN),
    CT (CK (fun b h1 h2 => by have h1 : b = b2 := h1; have := q3 b h2; omega) CU) Bi, A9 (fun b hb => .inl hb) (A9 (fun b hb => .inr hb) Aw)⟩
  clear hS
  have hS := hR
  clear hR
  refine IQ ?_
  refine C8 ?_
  refine EL rfl (FU hS (No rfl (by repeat constructor) LC.1 (by rfl)) rfl ?_); clear hS a; intro a hS
  refine EL rfl (FU hS (CJ rfl) rfl ?_); clear hS a; intro a hS
  refine EL rfl (B4 hS Ar.1 A8.1 Ec.1 rfl rfl rfl rfl (.one rfl rfl rfl .nil) rfl ?_); clear hS a; intro a w b10 hS
  refine EL rfl (Dd hS rfl rfl Ar.1 A8.1 EG.1 Ec.1 rfl rfl rfl (by repeat constructor) (by repeat constructor) (by rfl) (by rfl) (fun _ => (by repeat constructor)) (by omega) ?_); clear hS a; intro v11 a w hv11 hS
  obtain ⟨q11, c11, rfl⟩ := AN (hS.gg (X := AJ 9 1 v11 (pre.length + 1) (pre.map .string ++ [.string x])))
  refine EL rfl (DS hS rfl rfl rfl Vz.1 (by repeat constructor) (by repeat constructor) ?_); clear hS; intro w hS
  refine GD ?_
  refine Fo ?_
  have hC2 := hS.chg
  have hnew : ∀ k, (Value.slice q11 (pre.length + 1) c11).ownBlock = some k → hi ≤ k := fun k hk => by
   rcases hS.mine (AJ 9 1 (.slice q11 (pre.length + 1) c11) (pre.length + 1) (pre.map Value.string ++ [Value.string x])) (by repeat constructor) rfl k hk with h | h | h
   · omega
   · exact absurd h.symm (fun e => hS.sep (X := AJ 9 1 (.slice q11 (pre.length + 1) c11) (pre.length + 1) (pre.map Value.string ++ [Value.string x])) (Y := .blk b2 [(.slice q11 (pre.length + 1) c11)] 35) (by repeat (first | exact Jw.head | apply Jw.tail)) (by repeat constructor) k hk e.symm)
   · exact q3 k h
  have hrow : World.ownsRow w 0 9 1 (.slice q11 (pre.length + 1) c11) (pre.length + 1) (pre.map Value.string ++ [Value.string x]) := hS.gg (X := AJ 9 1 (.slice q11 (pre.length + 1) c11) (pre.length + 1) (pre.map Value.string ++ [Value.string x]))
  refine ⟨⟨hC2.size, fun k h1 h2 => hC2.block k (by omega) (fun h => h.elim (fun h => by omega) (fun h => by have := q3 k h; omega))⟩, ⟨N7 hI.chg hB0 hCW hT hC2 (fun k h => h.elim (fun h => by omega) (fun h => by have := q3 k h; omega)), (.slice q11 (pre.length + 1) c11), hS.gg (X := .blk b2 [(.slice q11 (pre.length + 1) c11)] 35), by simpa using hrow, hnew⟩⟩
 ·
  intro hi D xs W hh hBD hDh hxs hI hDc
  obtain ⟨v, q1, q2, q3⟩ := hI.row
  have hd : St 13 Ai w0 a W [(2, .pointer (some ⟨b2, 0, none⟩))] [.blk b2 [v] 35, I6 v xs] :=
   ⟨hS.sl.sub (by repeat (first | exact trivial | refine ⟨rfl, ?_⟩)), hI.chg, B3 (BE q1) (B3 (C2 q2) DN), CT (CK (fun b h1 h2 => by have h1 : b = b2 := h1; have := q3 b h2; omega) CU) Bi, fun X hX _ k hk => .inl (by
     rcases List.mem_cons.1 hX with rfl | hX
     · have : k = b2 := hk; omega
     · obtain rfl := List.mem_singleton.1 hX; have := q3 k hk; omega)⟩
  clear hS
  refine Fo ?_
  refine nT ?_
  refine GE ?_
  refine C8 ?_
  obtain ⟨p1, c1, rfl⟩ := AN q2
  rw [hd.sl.defers]
  refine EL rfl (jM hd (AI rfl LC.1 (fun w hh => AR (cs := [.slice p1 xs.length c1]) (hh (.blk b2 [.slice p1 xs.length c1] 35) (by repeat constructor)) rfl)) rfl ?_); clear hd a; intro a hd
  refine EL rfl (jM hd (Ak rfl) rfl ?_); clear hd a; intro a hd
  refine GD ?_
  refine nT ?_
  refine Yi ?_
  have hd3 := hd.putD (D := D) (o := .deferred none) (by omega) (fun X hX k hk => by
    rcases List.mem_cons.1 hX with rfl | hX
    · have : k = b2 := hk; omega
    · obtain rfl := List.mem_singleton.1 hX; have := q3 k hk; omega)
  exact pC hd3 (.inl rfl) hDc Tryz.results186 (.cons (.tmp rfl) .nil) ⟨⟨(.slice p1 xs.length c1, xs), hxs⟩, rfl, hd3.chg, hd3.new (X := I6 (.slice p1 xs.length c1) xs) (by repeat constructor) rfl⟩
 · intro hi D c pre W _ _ _ _ hF; exact hF.elim
def Dx (xs : List ByteArray) : List (List UInt8) := xs.map (·.data.toList)
def Vh (xs : List ByteArray) : List ByteArray := ((Dx xs).mergeSort fun x y => decide (x ≤ y)).map fun l => ⟨l.toArray⟩
theorem LS (xs : List ByteArray) : (Vh xs).length = xs.length := by simp [Vh, Dx]
theorem N8 (xs : List ByteArray) : (Dx xs).map encStr = xs.map Value.string := by
 unfold Dx
 rw [List.map_map]
 apply List.map_congr_left
 intro x _
 show Value.string ⟨x.data.toList.toArray⟩ = _
 simp
theorem Wa (v : Value) (xs : List ByteArray) (hx : xs.length ≤ 1000000) (w0 : World) (h : w0.ownsRow 0 9 1 v xs.length (xs.map .string)) :
 CV Tryz.prog 146 [v] w0 (I6 v xs) (fun _ : Unit => .tuple #[]) (fun _ => I6 v (Vh xs)) := by
 have hl : (Dx xs).length = xs.length := by simp [Dx]
 rcases h.2 with ⟨rfl, h0⟩ | ⟨g, cap, cur, rfl, hbase, hb, h1, h2, h3, h4⟩
 ·
  obtain rfl : xs = [] := List.eq_nil_of_length_eq_zero h0
  refine (Tryz.slices_Sort_string_none none 0 w0).mono fun e w' ⟨he, hw⟩ => ?_
  subst hw
  exact ⟨(), he, Bd.refl _ _, (by have e : Vh [] = [] := List.eq_nil_of_length_eq_zero (LS []); rw [e]; exact C2 (World.ownsRow_nil _ _ _ _)), fun b hb => (by cases hb)⟩
 ·
  have hH := Go.holds_of_block (ss := Dx xs) hb (by rw [hl, N8]; simpa using h4)
  have hc := Tryz.slices_Sort_string g 0 cap (Dx xs) w0 hH (Array.getElem?_eq_some_iff.1 hb).1 (by omega)
  rw [hl] at hc
  refine hc.mono fun e w' ⟨he, n, os, hw⟩ => ?_
  have hgb : w0.grownBy w' (some g) := by rw [hw]; exact Go.grownBy_sorted _
  have hrow := Go.ownsRow_sorted (n := n) (os := os) (ss := Dx xs) (ts := (Dx xs).mergeSort fun x y => decide (x ≤ y)) (by simp) hbase hb (by omega) h2 h3
  rw [← hw, hl] at hrow
  have hsm : ((Dx xs).mergeSort fun x y => decide (x ≤ y)).map encStr = (Vh xs).map Value.string := by unfold Vh; rw [List.map_map]; rfl
  rw [hsm] at hrow
  refine ⟨(), he, ?_, ?_, fun b hb2 => .inl hb2⟩
  · exact ⟨hgb.os, hgb.tape, hgb.output, hgb.size, fun k hk hn => hgb.block k hk (fun e => hn (congrArg some (Option.some.inj e).symm))⟩
  ·
   have e1 := LS xs
   refine C2 ?_
   rw [e1]; exact hrow
theorem N9 {gf : Nat} {lb : Array Value} (eg : AA Tryz.prog gf) {S Sp : List ByteArray → Prop} {N : Nat} (hN : N ≤ 1000000) (X : AT) (hXm : X.mine = false) (hseq : Qt Tryz.prog gf lb N6 S Sp N X.φ) (w0 : World) (hX : X.ok w0) :
 Bb Tryz.prog 145 [.func (.func gf) #[] lb] w0 (fun y : { y : Value × List ByteArray // S y.2 } => y.1.1) (fun y => I6 y.1.1 y.1.2) := by
 refine En [X] Ai Tryz.func145 Tryz.ntmps145 (B3 (hX) DN) Bi (BP hXm Aw) ?_
 intro a hS
 refine Wh 8 hS ?_
 refine Lo (cN iV (fun hS => Me eg hN X hXm hseq _ (hS.ok X (by repeat constructor))) ?_); intro x4
 refine Wn 4 ?_
 intro a w hS
 refine Ro hS Tryz.results145 ?_
 exact ⟨x4, rfl, hS.chg, hS.new (X := I6 x4.1.1 x4.1.2) (by repeat constructor) rfl⟩
theorem Q5 {gf : Nat} {lb : Array Value} (eg : AA Tryz.prog gf) {S Sp : List ByteArray → Prop} {N : Nat} (hN : N ≤ 1000000) (hSN : ∀ xs, S xs → xs.length ≤ N) (X : AT) (hXm : X.mine = false) (hseq : Qt Tryz.prog gf lb N6 S Sp N X.φ) (w0 : World) (hX : X.ok w0) :
 Bb Tryz.prog 105 [.func (.func gf) #[] lb] w0 (fun y : { y : Value × List ByteArray // ∃ xs, S xs ∧ y.2 = Vh xs } => y.1.1) (fun y => I6 y.1.1 y.1.2) := by
 refine En [X] Ai Tryz.func105 Tryz.ntmps105 (B3 (hX) DN) Bi (BP hXm Aw) ?_
 intro a hS
 refine Wh 8 hS ?_
 refine Lo (cN iK (fun hS => N9 eg hN X hXm hseq _ (hS.ok X (by repeat constructor))) ?_); intro x5
 obtain ⟨⟨v5, xs5⟩, hs5⟩ := x5
 intro a w hS
 simp only at hs5 hS
 have hn5 := hSN _ hs5
 refine Wh 6 hS ?_
 refine Lo (cM iL (fun hS => Wa v5 xs5 (by omega) _ (hS.gg (X := I6 v5 xs5))) ?_); intro x7
 refine Wn 9 ?_
 intro a w hS
 refine Ro hS Tryz.results105 ?_
 exact ⟨⟨(v5, Vh xs5), xs5, hs5, rfl⟩, rfl, hS.chg, hS.new (X := I6 v5 (Vh xs5)) (by repeat constructor) rfl⟩
structure Wb (W0 : World) (b : Nat) (sv : Value) (w : World) : Prop where
 box : w.heap[b]? = some (.cells [sv].toArray 35 (0, 0))
 old : AQ W0 w
def Q6 (W0 : World) (b : Nat) (sv : Value) : AT := .any (fun k => k = b ∨ k < W0.heap.size) (Wb W0 b sv) false
theorem OA {W0 : World} {b : Nat} {sv : Value} {w : World} (h : Wb W0 b sv w) : (Q6 W0 b sv).ok w := by
 have h1 := BB h.old
 refine ⟨fun k hk => ?_, fun w' hw => ⟨(hw b (.inl rfl)).trans h.box, h1.hold w' fun k hk => hw k (.inr hk)⟩⟩
 rcases hk with rfl | hk
 · exact (Array.getElem?_eq_some_iff.1 h.box).1
 · exact h1.lt k hk
structure Ff (W0 : World) (sa : Option Addr) (names : List (List UInt8)) : Prop where
 at_ : names ≠ [] → ∃ nb no, sa = some ⟨nb, no, none⟩ ∧ ∀ (i : Nat) (x : List UInt8), names[i]? = some x → W0.cell? ⟨nb, no + i, none⟩ = some (.string (tx x))
theorem Mf (sa : Option Addr) (m sc : Nat) (w0 : World) : Bb Tryz.prog 106 [.slice sa m sc] w0 (fun b : Nat => .func (.func 147) #[] [.pointer (some ⟨b, 0, none⟩)].toArray) (fun b => .blk b [.slice sa m sc] 35) := by
 refine Eo Ai Tryz.func106 Tryz.ntmps106 ?_
 intro a hS
 refine Wq 2 hS ?_; intro a hS
 refine Aa (SU hS rfl rfl rfl ?_); intro a w b1 hS
 refine Wh 5 hS ?_
 refine Xp (CR .nil (.cons rfl .nil)) ?_
 refine Wn 4 ?_
 intro a w hS
 refine Ro hS Tryz.results106 ?_
 exact ⟨b1, rfl, hS.chg, hS.new (X := .blk b1 [.slice sa m sc] 35) (by repeat constructor) rfl⟩
theorem OB (W0 : World) (b : Nat) (sa : Option Addr) (sc : Nat) (names : List (List UInt8)) (hT : Ff W0 sa names) (hn : names.length ≤ 1000000) : Qt Tryz.prog 147 #[.pointer (some ⟨b, 0, none⟩)] N6 (fun xs => xs = names.map tx) (fun _ => True) names.length (Wb W0 b (.slice sa names.length sc)) := by
 intro ly J Jx W hK hJ hJx hY h0
 have hk0 := hK _ _ _ (h0 W.heap.size (Nat.le_refl _))
 rw [show (#[Value.func (.yield ly) #[] #[]] ++ #[Value.pointer (some ⟨b, 0, none⟩)] : Array Value) = [Value.func (.yield ly) #[] #[], Value.pointer (some ⟨b, 0, none⟩)].toArray from rfl]
 refine J2 [(0, .func (.yield ly) #[] #[]), (1, .pointer (some ⟨b, 0, none⟩))] [Q6 W0 b (.slice sa names.length sc)] Ai Tryz.func147 rfl Tryz.ntmps147 ⟨rfl, rfl, trivial⟩ rfl (B3 (OA hk0) DN) Bi (BP (by rfl) Aw) ?_
 intro a hS
 refine GE ?_
 refine C8 ?_
 refine EL rfl (FU hS (AI rfl LC.1 (fun w hh => AR (cs := [.slice sa names.length sc]) (hh (Q6 W0 b (.slice sa names.length sc)) (by repeat constructor)).box rfl)) rfl ?_); intro a hS
 refine EL rfl (FU hS (YF rfl rfl Ar.1) rfl ?_); intro a hS
 refine EL rfl (FU hS (CJ rfl) rfl ?_); intro a hS
 refine GD ?_
 refine nT ?_
 refine IQ ?_
 skip
 refine aK (γ := Nat) (fun k a w => St 16 Ai w a w [(7, .int .i64 (k : Int)), (6, .int .i64 (names.length : Int)), (5, .slice sa names.length sc), (0, .func (.yield ly) #[] #[]), (1, .pointer (some ⟨b, 0, none⟩))] [Q6 W0 b (.slice sa names.length sc)] ∧ W.heap.size ≤ w.heap.size ∧ k ≤ names.length ∧ J W.heap.size ((names.take k).map tx) w) (fun k => names.length - k) 0 ⟨⟨hS.sl.sub (by repeat (first | exact trivial | refine ⟨rfl, ?_⟩)), Bd.refl _ _, B3 (hS.ok _ (by repeat constructor)) DN, Bi, BP rfl Aw⟩, Nat.le_refl _, Nat.zero_le _, h0 _ (Nat.le_refl _)⟩ ?_
 intro k a w hI
 obtain ⟨hS, hWw, hk, hj⟩ := hI
 refine GE ?_
 refine C8 ?_
 refine EL rfl (FU hS (SR rfl rfl rfl) rfl ?_); intro a hS
 refine GD ?_
 refine nT ?_
 refine GE ?_
 first | refine Yj hS rfl (fun hc8 => ?_) (fun hc8 => ?_) | refine jL hS rfl (fun hc8 => ?_) (fun hc8 => ?_)
 ·
  have hkn : k < names.length := by omega
  obtain ⟨nb, no, rfl, hcn⟩ := hT.at_ (fun e => by rw [e] at hkn; exact absurd hkn (Nat.not_lt_zero _))
  obtain ⟨nm, hnm⟩ : ∃ x, names[k]? = some x := ⟨_, List.getElem?_eq_getElem hkn⟩
  have hsl : ((names.take k).map tx).length < names.length := by rw [List.length_map, List.length_take]; omega
  have hy := hY W.heap.size ((names.take k).map tx) (tx nm) w (Nat.le_refl _) hWw hj hsl
  unfold N6 at hy
  have hka : (names.take k).map tx ++ [tx nm] = (names.take (k + 1)).map tx := by rw [List.take_add_one, hnm]; simp
  rw [hka] at hy
  refine TL ?_
  refine nT ?_
  refine GE ?_
  refine IQ ?_
  refine GE ?_
  refine C8 ?_
  refine EL rfl (FU hS (BI rfl rfl Ar.1 A8.1 (by omega)) rfl ?_); intro a hS
  refine EL rfl (FU hS (AI rfl Af.1 (fun w hh => by rw [Nat.mul_one]; exact AF (hh (Q6 W0 b (.slice (some ⟨nb, no, none⟩) names.length sc)) (by repeat constructor)).old (hcn k nm hnm))) rfl ?_); intro a hS
  refine EL rfl (FU hS (Ak rfl) rfl ?_); intro a hS
  refine GD ?_
  refine nT ?_
  refine GE ?_
  refine C8 ?_
  refine EL rfl (FU hS (CJ rfl) rfl ?_); intro a hS
  refine EL rfl (FU hS (CJ rfl) rfl ?_); intro a hS
  refine WI hS rfl (.cons rfl .nil) hy (fun e' w' hR => ?_)
  obtain ⟨hKp, hR⟩ := hR
  have hW2 : W.heap.size ≤ w'.heap.size := Nat.le_trans hWw hKp.1
  obtain ⟨y, rfl, hR2⟩ : ∃ y : Bool, e' = .returned (.bool y) ∧ ((y = true ∧ J W.heap.size ((names.take (k + 1)).map tx) w') ∨ (y = false ∧ Jx W.heap.size ((names.take (k + 1)).map tx) w')) := by
   rcases hR with ⟨h1, h2⟩ | ⟨h1, h2⟩
   · exact ⟨true, h1, .inl ⟨rfl, h2⟩⟩
   · exact ⟨false, h1, .inr ⟨rfl, h2⟩⟩
  refine ⟨_, rfl, ?_⟩
  replace hS := St.bareK (w := w') (hS.sl.put (d := 13) rfl (.bool y))
  clear hj hy hKp
  generalize a.put (some 13) (Value.bool y) = a2 at hS ⊢
  clear a; revert a2; intro a hS
  refine EL rfl (FU hS (YD rfl) rfl ?_); intro a hS
  refine GD ?_
  refine nT ?_
  first | refine Yj hS rfl (fun hc14 => ?_) (fun hc14 => ?_) | refine jL hS rfl (fun hc14 => ?_) (fun hc14 => ?_)
  ·
   refine Yi ?_
   refine AD (AC (AC (AD ?_)))
   refine Ik hS Tryz.results147 .nil rfl ?_
   have hx2 : Jx W.heap.size ((names.take (k + 1)).map tx) w' := by
    rcases hR2 with ⟨h1, _⟩ | ⟨_, h2⟩
    · rw [h1] at hc14; cases hc14
    · exact h2
   exact ⟨⟨_, rfl⟩, W.heap.size, Nat.le_refl _, .inr ⟨_, trivial, hx2⟩⟩
  refine TL ?_
  refine Fo ?_
  refine nT ?_
  refine C8 ?_
  refine EL rfl (FU hS (SS rfl rfl rfl (by omega)) rfl ?_); intro a hS
  refine EL rfl (FU hS (CJ rfl) rfl ?_); intro a hS
  refine GD ?_
  have hx2 : J W.heap.size ((names.take (k + 1)).map tx) w' := by
   rcases hR2 with ⟨_, h2⟩ | ⟨h1, _⟩
   · exact h2
   · rw [h1] at hc14; cases hc14
  exact ⟨k + 1, by omega, ⟨hS.sl.sub (by repeat (first | exact trivial | refine ⟨rfl, ?_⟩)), Bd.refl _ _, B3 (OA (hK _ _ _ hx2)) DN, Bi, BP rfl Aw⟩, hW2, hkn, hx2⟩
 refine aJ ?_
 refine AH (AH (Aj ?_))
 refine CS ?_
 refine Ik hS Tryz.results147 .nil rfl ?_
 have hk2 : k = names.length := by omega
 rw [hk2, List.take_length] at hj
 exact ⟨⟨_, rfl⟩, W.heap.size, Nat.le_refl _, .inl ⟨_, rfl, hj⟩⟩
section
def pR (v : Value) : List PanicEntry := [{ v := v, recovered := true }]
section
variable {P : Program} {n : NN} {F0 : Nat → Prop} {w0 : World} {a : Act} {w : World} {L : List (Nat × Value)} {Γ : List AT}
variable {K : Act → World → Prop} {Q : Exit → Act → World → Prop} {d ty : Nat} {dst : Option Tmp} {pos : String} {af : Array Edge} {g : Option (Nat × Bool)}
theorem aY {fn : Func} {c₀ : Frame} {cs : List Frame} {R : Ending → FrameMode → World → Prop} {u1 : FrameMode} {e : Exit} (h : bodyPost P fn (fun e w' => R e u1 w') e a w) : bodyPostS P fn c₀ cs R e a ({ c₀ with mode := u1 } :: cs) w := by
 cases e with
 | normal => obtain ⟨h1, v, h2, h3⟩ := h; exact ⟨h1, u1, rfl, v, h2, h3⟩
 | ret => obtain ⟨h1, v, h2, h3⟩ := h; exact ⟨h1, u1, rfl, v, h2, h3⟩
 | panic ch => obtain ⟨h1, h2⟩ := h; exact ⟨h1, u1, rfl, h2⟩
 | exit i => exact h.elim
 | goto l => exact h.elim
 | outgrown => exact ⟨u1, h⟩
theorem I8 {f : FuncId} {fn : Func} {y : Code} {args : List Value} {R : Ending → FrameMode → World → Prop} {m rid : Nat} {ts : Array TypeId} {u u1 : FrameMode} {rv : Value}
 (hrec : (u = .returning ∧ rv = .nilIface ∧ u1 = .returning) ∨ (∃ v, u = .panicking (pE v) ∧ rv = v ∧ u1 = .panicking (pR v)))
 (L : List (Nat × Value)) (Γ : List AT) (F0 : Nat → Prop) (hf : P.funcs[f]? = some fn) (hb : fn.body = some (.seq (.region rid #[⟨some d, .call ⟨.builtin .recover, #[], ts⟩, ty, pos, af, none⟩] false) y)) (hm : fn.ntmps = m)
 (hA : MC args L) (hn : Nat.ble args.length m = true) (hd : Nat.blt d m = true) (ok : ∀ X ∈ Γ, X.ok w) (dis : Γ.Pairwise (fun X Y => ∀ b, X.F b → ¬ Y.F b)) (mine : ∀ X ∈ Γ, X.mine = true → ∀ b, X.F b → w.heap.size ≤ b ∨ F0 b)
 (h : ∀ a, St ⟨m, []⟩ F0 w a w ((d, rv) :: L) Γ → y.wp P (bodyPost P fn (fun e w' => R e u1 w')) a w) : CallsD P f args.toArray u w R := by
 have hle : args.length ≤ m := Nat.le_of_ble_eq_true hn
 have hs := Sl.start (l := args) (L := L) (n := m) (m := m - args.length) hA (by omega)
 have hS : St ⟨m, []⟩ F0 w (⟨args.toArray ++ Array.replicate (m - args.length) undef, []⟩ : Act) w L Γ := ⟨hs, Bd.refl _ _, ok, dis, mine⟩
 have hw := h _ (hS.put hd rv)
 refine callsD_of_wpS hf hb (fun c₀ cs hu => ?_)
 rw [hm]
 have e0 : ({ tmps := args.toArray ++ Array.replicate (m - args.toArray.size) undef, defers := [] } : Act) = ⟨args.toArray ++ Array.replicate (m - args.length) undef, []⟩ := by simp
 rw [e0]
 refine wpS_seq (wpS_region ?_)
 generalize (⟨args.toArray ++ Array.replicate (m - args.length) undef, []⟩ : Act) = a at hw
 have hx : (execOp a.eval (⟨some d, .call ⟨.builtin .recover, #[], ts⟩, ty, pos, af, none⟩ : Oper)).run P w = .ok .recover w := by
  rfl
 have hwant : Region.wanted (⟨some d, .call ⟨.builtin .recover, #[], ts⟩, ty, pos, af, none⟩ : Oper) (yielded #[⟨some d, .call ⟨.builtin .recover, #[], ts⟩, ty, pos, af, none⟩] a.tmps) = true := by simp [Region.wanted]
 show wpOpsS P _ _ [0] a (c₀ :: cs) w
 have key : ∀ cs', (match recoverD (c₀ :: cs) with | some (v, cs') => (v, cs') | none => (Value.nilIface, c₀ :: cs)) = (rv, cs') → cs' = { c₀ with mode := u1 } :: cs → wpOpsS P #[⟨some d, .call ⟨.builtin .recover, #[], ts⟩, ty, pos, af, none⟩] (Exit.thenS (y.wpS P (bodyPostS P fn c₀ cs R)) (bodyPostS P fn c₀ cs R)) [0] a (c₀ :: cs) w := by
  intro cs' h1 h2
  have hfin : y.wpS P (bodyPostS P fn c₀ cs R) (a.put (some d) rv) cs' w := by
   rw [h2]
   exact wpS_of_wp (Go.wp_mono hw fun e a w hq => aY hq)
  unfold wpOpsS
  simp only [List.getElem?_toArray, List.getElem?_cons_zero, hwant, if_true, hx]
  cases hr : recoverD (c₀ :: cs) with
  | none =>
    rw [hr] at h1
    simp only [Prod.mk.injEq] at h1
    obtain ⟨e1, e2⟩ := h1
    subst e1; subst e2
    exact hfin
  | some r =>
    obtain ⟨v, c2⟩ := r
    rw [hr] at h1
    simp only [Prod.mk.injEq] at h1
    obtain ⟨e1, e2⟩ := h1
    subst e1; subst e2
    exact hfin
 rcases hrec with ⟨rfl, rfl, rfl⟩ | ⟨v, rfl, rfl, rfl⟩
 ·
  refine key (c₀ :: cs) ?_ ?_
  · cases c₀; simp only at hu; subst hu; rfl
  · cases c₀; simp only at hu; subst hu; rfl
 ·
  refine key _ ?_ rfl
  cases c₀; simp only at hu; subst hu; rfl
theorem Th {f : FuncId} {fn : Func} {c : Code} {args : List Value} {R : Ending → World → Prop} {m : Nat} (L : List (Nat × Value)) (Γ : List AT) (F0 : Nat → Prop) (hf : P.funcs[f]? = some fn) (hb : fn.body = some c) (hm : fn.ntmps = m)
 (hA : MC args L) (hn : Nat.ble args.length m = true) (ok : ∀ X ∈ Γ, X.ok w) (dis : Γ.Pairwise (fun X Y => ∀ b, X.F b → ¬ Y.F b)) (mine : ∀ X ∈ Γ, X.mine = true → ∀ b, X.F b → w.heap.size ≤ b ∨ F0 b)
 (h : ∀ a, St ⟨m, []⟩ F0 w a w L Γ → c.wp P (bodyPostD P fn R) a w) : Calls P f args.toArray w R := by
 refine calls_of_wp_defers hf hb ?_
 have hle : args.length ≤ m := Nat.le_of_ble_eq_true hn
 have := Sl.start (l := args) (L := L) (n := m) (m := m - args.length) hA (by omega)
 simpa [hm] using h _ ⟨this, Bd.refl _ _, ok, dis, mine⟩
theorem Ti {f : FuncId} {x : Operand} {cs : List Value} {ts : Array TypeId} (hS : St n F0 w0 a w L Γ) (hv : ev L x = some (.func (.func f) #[] cs.toArray))
 (h : ∀ a', St ⟨n.n, ⟨.fn (.func f) cs.toArray, #[]⟩ :: n.D⟩ F0 w0 a' w L Γ → K a' w) : OW P ⟨none, .defer ⟨.value x, #[], ts⟩, ty, pos, af, g⟩ a w K Q := by
 refine ⟨?_⟩
 unfold Oper.wp
 have ef := hS.sl.ev hv
 have he : (execOp a.eval (⟨none, .defer ⟨.value x, #[], ts⟩, ty, pos, af, g⟩ : Oper)).run P w = .ok (.defer ⟨.fn (.func f) cs.toArray, #[]⟩) w := by
  have hr : (resolve a.eval ⟨.value x, #[], ts⟩ ty).run P w = .ok ⟨.fn (.func f) cs.toArray, #[]⟩ w := by
   simp [resolve, ef, Deferred.ofValue]
  show ((resolve a.eval ⟨.value x, #[], ts⟩ ty) >>= fun d => pure (Next.defer d)).run P w = _
  rw [Sem.run_bind, hr]
  simp
 rw [he]
 exact h _ (hS.moreD _)
theorem Tj {γ : Type} {pan : Value → Prop} {V : γ → Value} {X : AT} {Y : γ → AT} {Γ' : γ → List AT} {f : FuncId} {x : Operand} {cs : List Value} {xs : List Operand} {vs : List Value} {ts : Array TypeId} (hS : St n F0 w0 a w L Γ) (hv : ev L x = some (.func (.func f) #[] cs.toArray)) (hx : FR L xs vs) (hf : AA P f) (hn : Nat.blt d n.n = true)
 (hc : Du P f (vs ++ cs) w pan X V Y) (hr : ∀ x, DY X (Y x) Γ (Γ' x)) (hm : X.mine = true) {Γp : List AT} (hr0 : DY X A7 Γ Γp) (hp : ∀ v w', pan v → St n F0 w0 a w' L Γp → Q (.panic (pE v)) a w') (h : ∀ x a' w', St n F0 w0 a' w' ((d, V x) :: L) (Γ' x) → K a' w') : OW P ⟨some d, .call ⟨.value x, xs.toArray, ts⟩, ty, pos, af, g⟩ a w K Q := by
 refine ⟨?_⟩
 unfold Oper.wp
 have ef := hS.sl.ev hv
 have he : (execOp a.eval (⟨some d, .call ⟨.value x, xs.toArray, ts⟩, ty, pos, af, g⟩ : Oper)).run P w = .ok (.enter f (vs ++ cs).toArray) w := by
  have h1 := hS.sl.evs hx
  have h2 := hf (vs ++ cs).toArray w
  have e1 : (#[] ++ vs.toArray) ++ cs.toArray = (vs ++ cs).toArray := by simp
  have hr : (resolve a.eval ⟨.value x, xs.toArray, ts⟩ ty).run P w = .ok ⟨.fn (.func f) cs.toArray, #[] ++ vs.toArray⟩ w := by
   simp only [resolve, hS.sl.ev hv, h1, Deferred.ofValue]; rfl
  show ((resolve a.eval ⟨.value x, xs.toArray, ts⟩ ty) >>= fun d => invoke d.target d.args).run P w = _
  rw [Sem.run_bind, hr]
  show (callFunc f ((#[] ++ vs.toArray) ++ cs.toArray)).run P w = _
  rw [e1]; exact h2
 rw [he]
 refine Calls.mono hc fun e w' hR => ?_
 rcases hR with ⟨x, rfl, hch, hY, hF⟩ | ⟨v, hv, rfl, hch⟩
 · exact h x _ _ ((hS.upd (hr x) hch hY hF hm).put hn _)
 · exact hp v w' hv (hS.upd hr0 hch (AL _) (fun b hb => hb.elim) hm)
theorem jS {fn : Func} {R : Ending → World → Prop} (hS : St n F0 w0 a w L Γ) (h : Leaves P fn a.tmps R n.D .returning w) : bodyPostD P fn R .ret a w := by
 show Leaves P fn a.tmps R a.defers .returning w
 rw [hS.sl.defers]; exact h
theorem jT {fn : Func} {R : Ending → World → Prop} {ch : List PanicEntry} (hS : St n F0 w0 a w L Γ) (h : Leaves P fn a.tmps R n.D (.panicking ch) w) : bodyPostD P fn R (.panic ch) a w := by
 show Leaves P fn a.tmps R a.defers (.panicking ch) w
 rw [hS.sl.defers]; exact h
theorem Pf {fn : Func} {R : Ending → World → Prop} {f : FuncId} {cs : List Value} {ds : List Deferred} {u u' : FrameMode} {X Y : AT} {Γ' : List AT} {tm : Array Value} (hS : St n F0 w0 a w L Γ) (hu : u ≠ .run) (hf : AA P f)
 (hc : CallsD P f cs.toArray u w fun e u2 w' => u2 = u' ∧ (∃ v, e = .returned v) ∧ Bd X.F w w' ∧ Y.ok w' ∧ ∀ b, Y.F b → X.F b ∨ w.heap.size ≤ b) (hr : DY X Y Γ Γ') (hm : X.mine = true)
 (h : ∀ w', St n F0 w0 a w' L Γ' → Leaves P fn tm R ds (settle u') w') : Leaves P fn tm R (⟨.fn (.func f) cs.toArray, #[]⟩ :: ds) u w := by
 refine ⟨hu, .func f, cs.toArray, f, cs.toArray, rfl, ?_, ?_⟩
 ·
  have := hf (#[] ++ cs.toArray) w
  simpa [invoke] using this
 ·
  refine hc.mono fun e u2 w' hR => ?_
  obtain ⟨rfl, ⟨v, rfl⟩, hch, hY, hF⟩ := hR
  exact h _ (hS.upd hr hch hY hF hm)
end
section
variable {P : Program} {n : NN} {a : Act} {L : List (Nat × Value)} {Γ : List AT} {dst : Option Nat} {ty : Nat} {pos : String} {af : Array Edge} {g : Option (Nat × Bool)}
theorem jU {T A : TypeId} {x : Operand} {v : Value} (hx : ev L x = some (.iface A v)) (hT : Bm P A = true) : Ex P n a L Γ ⟨dst, .typeAssert x T A true, ty, pos, af, g⟩ (.tuple [v, .bool true].toArray) := fun hs w _ => by
 have he := hs.ev hx
 have hr : (Instr.typeAssert (.iface A v) T A true).run P w = .ok (.tuple #[v, .bool true]) w := by
  unfold Bm at hT
  cases hu : P.underlying A with
  | none => rw [hu] at hT; cases hT
  | some D =>
    rw [hu] at hT
    unfold Instr.typeAssert
    cases D <;> first | (cases hT; done) | simp [Sem.run_bind, run_underlying hu]
 simp [execOp, he, hr]
theorem Pg {t t' : TypeId} {x : Operand} (hx : ev L x = some .nilIface) (hu : P.underlying t = some (.interface (P.methodsAt t))) : Ex P n a L Γ ⟨dst, .binOp .eql t x (.const .nilIface) t', ty, pos, af, g⟩ (.bool true) := fun hs w _ => by
 have he : a.eval (.const .nilIface) = .nilIface := rfl
 have := run_eql_nil_nil (P := P) w t hu
 simp [execOp, hs.ev hx, he, eqGuard_nil_constR, this]
theorem Wc {t t' : TypeId} {x : Operand} {u : TypeId} {p : Value} (hx : ev L x = some (.iface u p)) (hu : P.underlying t = some (.interface (P.methodsAt t))) : Ex P n a L Γ ⟨dst, .binOp .eql t x (.const .nilIface) t', ty, pos, af, g⟩ (.bool false) := fun hs w _ => by
 have he : a.eval (.const .nilIface) = .nilIface := rfl
 have := run_eql_held_nil (P := P) w t u p hu
 simp [execOp, hs.ev hx, he, eqGuard, this]
end
end
theorem OC (bv bf : Nat) (w0 : World) :
 CallsD Tryz.prog 91 [.pointer (some ⟨bv, 0, none⟩), .pointer (some ⟨bf, 0, none⟩)].toArray .returning w0 (fun e u2 w' => u2 = .returning ∧ (∃ v, e = .returned v) ∧ Bd Ai w0 w') := by
 refine I8 (d := 5) (.inl ⟨rfl, rfl, rfl⟩) [(0, .pointer (some ⟨bv, 0, none⟩)), (1, .pointer (some ⟨bf, 0, none⟩))] [] Ai Tryz.func91 rfl Tryz.ntmps91 ⟨rfl, rfl, trivial⟩ rfl rfl DN ZF Aw ?_
 intro a hS
 refine wB ?_
 refine cS ?_
 refine cR ?_
 refine Co hS (Pg rfl PE.1) rfl ?_; intro a hS
 refine nL ?_
 refine nT ?_
 replace hS := hS.is (t := 7) (c := true) rfl (rfl)
 refine Np hS rfl ?_
 refine cR ?_
 refine Co hS (Ak rfl) rfl ?_; intro a hS
 refine nL ?_
 refine Fo ?_
 refine CS ?_
 refine Ik hS Tryz.results91 .nil rfl ?_
 exact ⟨rfl, ⟨_, rfl⟩, hS.chg⟩
def LT (p e : Int) : Value := .iface 95 (.agg [.int .i64 p, .int .i64 e].toArray)
def BM : List Value := [.int .i64 0, .string ⟨#[]⟩, .slice none 0 0, .slice none 0 0]
theorem OD (bv bf : Nat) (cs fs : List Value) (p e : Int) (hcs : cs.length = 4) (hfs : fs.length = 2) (w0 : World) (h1 : (AT.blk bv cs 37).φ w0) (h2 : (AT.blk bf fs 95).φ w0) (hd : bv ≠ bf) :
 CallsD Tryz.prog 91 [.pointer (some ⟨bv, 0, none⟩), .pointer (some ⟨bf, 0, none⟩)].toArray (.panicking (pE (LT p e))) w0 (fun e2 u2 w' => u2 = .panicking (pR (LT p e)) ∧ (∃ v, e2 = .returned v) ∧ Bd (fun k => k = bv ∨ k = bf) w0 w' ∧ (AT.blk bv BM 37).ok w' ∧ (AT.blk bf [.int .i64 p, .int .i64 e] 95).ok w') := by
 unfold LT
 obtain ⟨c1, c2, c3, c4, rfl⟩ : ∃ c1 c2 c3 c4, cs = [c1, c2, c3, c4] := by
  match cs, hcs with
  | [c1, c2, c3, c4], _ => exact ⟨_, _, _, _, rfl⟩
 obtain ⟨f1, f2, rfl⟩ : ∃ f1 f2, fs = [f1, f2] := by
  match fs, hfs with
  | [f1, f2], _ => exact ⟨_, _, rfl⟩
 refine I8 (d := 5) (.inr ⟨_, rfl, rfl, rfl⟩) [(0, .pointer (some ⟨bv, 0, none⟩)), (1, .pointer (some ⟨bf, 0, none⟩))] [.blk bv [c1, c2, c3, c4] 37, .blk bf [f1, f2] 95] (fun k => k = bv ∨ k = bf) Tryz.func91 rfl Tryz.ntmps91 ⟨rfl, rfl, trivial⟩ rfl rfl (B3 (BE h1) (B3 (BE h2) DN)) (CT (CK (fun k hk hk2 => by have a : k = bv := hk; have b : k = bf := hk2; exact hd (a.symm.trans b)) CU) Bi) (A9 (fun _ hb => .inl hb) (A9 (fun _ hb => .inr hb) Aw)) ?_
 intro a hS
 refine wB ?_
 refine cS ?_
 refine cR ?_
 refine Co hS (Wc rfl PE.1) rfl ?_; intro a hS
 refine nL ?_
 refine nT ?_
 replace hS := hS.is (t := 7) (c := false) rfl (rfl)
 refine SY hS rfl ?_
 refine cS ?_
 refine cR ?_
 refine Co hS (jU rfl IN.1) rfl ?_; intro a hS
 refine Co hS (HV rfl rfl) rfl ?_; intro a hS
 refine Co hS (HV rfl rfl) rfl ?_; intro a hS
 refine nL ?_
 refine nT ?_
 replace hS := hS.is (t := 9) (c := true) rfl (rfl)
 refine Np hS rfl ?_
 refine cS ?_
 refine cR ?_
 refine Aa (Fp hS ZP.1 rfl ?_); intro a w b3 hS
 refine Aa (Dn hS rfl rfl Gh.1 (by repeat constructor) (by rfl) (by rfl) (by rfl) ?_); intro w hS
 refine nL ?_
 refine nT ?_
 refine K9 [3] (by kernel_rfl) hS (AP (X := .blk b3 [.int .i64 p, .int .i64 e] 95) (by repeat constructor) Ay) ?_; intro w hS
 simp only [List.length_cons, List.length_nil, Nat.zero_add, Nat.reduceAdd, List.replicate]
 refine dA 0 (tf 1 3) hS rfl Ab (Cl GM.1 Vy.1 .nil) rfl (by kernel_rfl) rfl ?_; intro a hS
 refine Zt 1 (tf 2 2) hS rfl Ab (K2 rfl (by repeat constructor) IN.1 Gh.1 (by rfl)) rfl (by kernel_rfl) (AP (by repeat constructor) Ay) rfl ?_; intro a hS
 refine Zo 2 (tf 3 1) hS rfl wN rfl (Dn hS rfl rfl Cb.1 (by repeat constructor) (by rfl) (by rfl) (by rfl) ?_); intro w hS
 refine Bc hS (AP (by repeat constructor) Ay) ?_
 refine Zo 3 (tf 4 0) hS rfl wN rfl (Dn hS rfl rfl Gh.1 (by repeat constructor) (by rfl) (by rfl) (by rfl) ?_); intro w hS
 refine GJ (by simp) ?_
 refine Si (by kernel_rfl) ?_
 refine Fo ?_
 refine CS ?_
 refine Ik hS Tryz.results91 .nil rfl ?_
 exact ⟨by first | rfl | trivial, ⟨_, rfl⟩, hS.chg, hS.ok (.blk bv BM 37) (by repeat constructor), hS.ok (.blk bf [.int .i64 p, .int .i64 e] 95) (by repeat constructor)⟩
theorem Du.pan {γ : Type} {P : Program} {f : FuncId} {args : List Value} {w : World} {pan pan' : Value → Prop} {X : AT} {V : γ → Value} {Y : γ → AT} (h : Du P f args w pan X V Y) (hp : ∀ v, pan v → pan' v) : Du P f args w pan' X V Y :=
 Calls.mono h fun e w' hR => hR.imp id fun ⟨v, hv, he, hc⟩ => ⟨v, hp v hv, he, hc⟩
def qU {γ : Type} (E : Int → Prop) (V : γ → List Value) : γ ⊕ { pe : Int × Int // E pe.2 } → Value
 | .inl x => .tuple [.agg (V x).toArray, .agg [.int .i64 0, .int .i64 0].toArray].toArray
 | .inr pe => .tuple [.agg BM.toArray, .agg [.int .i64 pe.1.1, .int .i64 pe.1.2].toArray].toArray
def We {γ : Type} (E : Int → Prop) (Y : γ → AT) : γ ⊕ { pe : Int × Int // E pe.2 } → AT
 | .inl x => Y x
 | .inr _ => A7
theorem Hf {γ : Type} (g : Nat) (cb : List Value) (E : Int → Prop) (X : AT) (V : γ → List Value) (Y : γ → AT) (cfg : AA Tryz.prog g) (hX : X.mine = true) (hV : ∀ x, ∃ v1 v2 v3 v4, V x = [v1, v2, v3, v4] ∧ Bl v1 = true ∧ Bl v2 = true ∧ Bl v3 = true ∧ Bl v4 = true) (w0 : World) (hYm : ∀ x, (Y x).mine = true) (h : X.ok w0)
 (hc : ∀ w, X.ok w → Bd X.F w0 w → Du Tryz.prog g cb w (B6 E) X (fun x => .agg (V x).toArray) Y) :
 CV Tryz.prog 31 [.func (.func g) #[] cb.toArray] w0 X (qU E V) (We E Y) := by
 refine Th [(0, .func (.func g) #[] cb.toArray)] [X] X.F Tryz.func31 rfl Tryz.ntmps31 ⟨rfl, trivial⟩ rfl (B3 h DN) Bi (A9 (fun _ hb => hb) Aw) ?_
 intro a hS
 refine Wh 2 hS ?_
 refine Lo (Al ?_); intro b2
 refine Lo (Al ?_); intro b3
 refine Wn 4 ?_
 refine Xp (CR .nil (.cons rfl (.cons rfl .nil))) ?_
 intro a w hS
 refine Aa (Ti hS rfl ?_); intro a hS
 refine Wq 5 hS ?_; intro a hS
 refine Aa (Tj (cs := cb) hS rfl .nil cfg rfl (hc _ (hS.ok X (by repeat constructor)) hS.chg) (fun x => (by repeat constructor)) hX (Γp := [.blk b3 [.int .i64 0, .int .i64 0] 95, .blk b2 BM 37, A7]) (by repeat constructor) ?_ ?_)
 ·
  clear hS
  intro vp w hvp hS
  obtain ⟨p, e, he, rfl⟩ := hvp
  refine AS ?_
  refine jT hS ?_
  replace hS := (hS.pk (Γ' := [.blk b2 BM 37, .blk b3 [.int .i64 0, .int .i64 0] 95, A7])).duo rfl rfl
  have hdu : ∀ k, (AT.blk b2 BM 37).F k → ¬ (AT.blk b3 [.int .i64 0, .int .i64 0] 95).F k := (hS.get (X := C5 (.blk b2 BM 37) (.blk b3 [.int .i64 0, .int .i64 0] 95)) (.head _)).2.2
  have hd1 := hS.get (X := C5 (.blk b2 BM 37) (.blk b3 [.int .i64 0, .int .i64 0] 95)) (.head _)
  refine Pf (cs := [.pointer (some ⟨b2, 0, none⟩), .pointer (some ⟨b3, 0, none⟩)]) (u' := .panicking (pR (LT p e))) (X := C5 (.blk b2 BM 37) (.blk b3 [.int .i64 0, .int .i64 0] 95)) (Y := C5 (.blk b2 BM 37) (.blk b3 [.int .i64 p, .int .i64 e] 95)) hS (fun h => by cases h) gH ((OD b2 b3 BM [.int .i64 0, .int .i64 0] p e rfl rfl w hd1.1.now hd1.2.1.now (fun e => hdu b2 rfl e)).mono fun e2 u2 w' ⟨h1, h2, h3, h4, h5⟩ => ⟨h1, h2, h3, By h4 h5 (fun k hk hk2 => hdu k hk hk2), fun b hb => .inl hb⟩) .head rfl ?_
  clear hS
  intro w hS
  replace hS := hS.unduo
  refine Sv hS Tryz.results31 (.cons (.cellA rfl (by repeat constructor) Ea.1 Cb.1 (by rfl)) (.cons (.cellA rfl (by repeat constructor) IN.1 Gh.1 (by rfl)) .nil)) rfl ?_
  exact ⟨.inr ⟨(p, e), he⟩, rfl, hS.chg, AL _, fun b hb => hb.elim⟩
 intro x6 a w hS
 obtain ⟨v1, v2, v3, v4, hVe, o1, o2, o3, o4⟩ := hV x6
 rw [hVe] at hS
 refine Wq 1 hS ?_; intro a hS
 refine Aa (I3 hS rfl rfl Cb.1 (cs' := [v1, v2, v3, v4]) (by repeat constructor) rfl (.cons .z (.cons (.s .z) (.cons (.s (.s .z)) (.cons (.s (.s (.s .z))) .nil)))) (by simp [o1, o2, o3, o4]) ?_); intro w hS
 refine Un hS (Lo (Sa ?_))
 refine Wn 3 ?_
 intro a w hS
 refine jS hS ?_
 replace hS := hS.none_
 refine Pf (cs := [.pointer (some ⟨b2, 0, none⟩), .pointer (some ⟨b3, 0, none⟩)]) (u' := .returning) (X := A7) (Y := A7) hS (fun h => by cases h) gH ((OC b2 b3 w).mono fun e2 u2 w' ⟨h1, h2, h3⟩ => ⟨h1, h2, h3, AL _, fun b hb => hb.elim⟩) .head rfl ?_
 clear hS
 intro w hS
 refine Sv hS Tryz.results31 (.cons (.cellA rfl (by repeat constructor) Ea.1 Cb.1 (by rfl)) (.cons (.cellA rfl (by repeat constructor) IN.1 Gh.1 (by rfl)) .nil)) rfl ?_
 exact ⟨.inl x6, by show _ = Ending.returned (.tuple [.agg (V x6).toArray, .agg [.int .i64 0, .int .i64 0].toArray].toArray); rw [hVe], hS.chg, hS.ok (Y x6) (by repeat constructor), fun b hb => (hS.mine (Y x6) (by repeat constructor) (hYm x6) b hb).symm⟩
def Wf (W0 : World) (br : Nat) (q : Option Addr) (c : Nat) (l : List UInt8) (n : Nat) : Prop := ∀ (dep p : Nat) (w0 : World), dep ≤ 32 → p ≤ l.length → 2 * l.length + 2 ≤ 2 * p + n → (Ah br q c l p).φ w0 → AQ W0 w0 →
 Du Tryz.prog 34 [.pointer (some ⟨br, 0, none⟩), .int .i64 (dep : Int)] w0 (fun v => B6 Fe v ∧ Dq n dep (l.drop p) = none) (Ah br q c l p)
  (fun x : { x : JX × Nat // Dq n dep (l.drop p) = some (x.1.v, x.2) ∧ 1 ≤ x.2 ∧ p + x.2 ≤ l.length } => .agg x.1.1.cs.toArray) (fun x => C5 (Ah br q c l (p + x.1.2)) (Be (33 - dep) x.1.1))
def J3 (n d : Nat) (t : List UInt8) : Option (JV × Nat) := if one (CZ 93) (t.drop (Ag t)) then some (.mk 5 [] [] [], 1 + Ag t + 1) else Iy n d t [] 1
theorem I9 {n d : Nat} {l : List UInt8} {p u : Nat} {acc : List JV} : Iy (n + 1) d (l.drop p) acc u =
 if acc.length = 1000 ∧ one EK (l.drop (p + Ag (l.drop p))) then none else
 match Dq n (d + 1) (l.drop (p + Ag (l.drop p))) with
 | none => none
 | some (v, k) =>
   if one (CZ 93) (l.drop (p + Ag (l.drop p) + k + Ag (l.drop (p + Ag (l.drop p) + k)))) then some (.mk 5 [] [] (acc ++ [v]), u + (Ag (l.drop p) + k + Ag (l.drop (p + Ag (l.drop p) + k)) + 1))
   else if one (CZ 44) (l.drop (p + Ag (l.drop p) + k + Ag (l.drop (p + Ag (l.drop p) + k)))) then Iy n d (l.drop (p + Ag (l.drop p) + k + Ag (l.drop (p + Ag (l.drop p) + k)) + 1)) (acc ++ [v]) (u + (Ag (l.drop p) + k + Ag (l.drop (p + Ag (l.drop p) + k)) + 1))
   else none := by
 conv => lhs; unfold Iy
 simp only [List.drop_drop, Nat.add_assoc]
 rfl
theorem Mg (L : List UInt8) : Ag (L.drop (Ag L)) = 0 := by
 have h := PR (pd := Yg) (L := L) (k := Ag L) (Nat.le_refl _)
 rw [decide_eq_false (show ¬ Ag L < (L.takeWhile Yg).length from Nat.lt_irrefl _)] at h
 cases hd : L.drop (Ag L) with
 | nil => rfl
 | cons x t =>
   rw [hd] at h
   unfold Ag
   rw [List.takeWhile_cons_of_neg (by simpa [one] using h)]; rfl
theorem Tk {n d : Nat} {l : List UInt8} {p u : Nat} {acc : List JV} : Iy (n + 1) d (l.drop p) acc u = Iy (n + 1) d (l.drop (p + Ag (l.drop p))) acc (u + Ag (l.drop p)) := by
 have h0 : Ag (l.drop (p + Ag (l.drop p))) = 0 := by have := Mg (l.drop p); rwa [List.drop_drop] at this
 rw [I9, I9, h0]
 simp only [Nat.add_zero, Nat.zero_add]
 by_cases hA : acc.length = 1000 ∧ one EK (l.drop (p + Ag (l.drop p))) = true
 · rw [if_pos hA, if_pos hA]
 ·
  rw [if_neg hA, if_neg hA]
  cases Dq n (d + 1) (l.drop (p + Ag (l.drop p))) with
  | none => rfl
  | some x =>
    obtain ⟨v, k⟩ := x
    simp only
    rw [show u + (Ag (l.drop p) + k + Ag (l.drop (p + Ag (l.drop p) + k)) + 1) = u + Ag (l.drop p) + (k + Ag (l.drop (p + Ag (l.drop p) + k)) + 1) by omega]
def Wg (lv : Value) : List Value := [.int .i64 5, .string ⟨#[]⟩, lv, .slice none 0 0]
theorem Tl (W0 : World) (br : Nat) (q : Option Addr) (c : Nat) (l : List UInt8) (ht : EB W0 q c l) (hb : W0.heap.size ≤ br) (N : Nat) (IH : ∀ n, n ≤ N → Wf W0 br q c l n) (dep p : Nat) (hdep : dep < 32) (hp : p ≤ l.length) (hN : 2 * l.length + 3 ≤ 2 * p + N) (w0 : World) (h : (Ah br q c l p).φ w0) (ho : AQ W0 w0) :
 Du Tryz.prog 96 [.pointer (some ⟨br, 0, none⟩), .int .i64 (dep : Int)] w0 (fun v => B6 Fe v ∧ J3 N dep (l.drop p) = none) (Ah br q c l p)
  (fun x : { x : JX × Nat // J3 N dep (l.drop p) = some (x.1.v, x.2) ∧ 1 ≤ x.2 ∧ p + x.2 ≤ l.length + 1 } => .agg x.1.1.cs.toArray) (fun x => C5 (Ah br q c l (p + x.1.2 - 1)) (Be (33 - dep) x.1.1)) := by
 have hn := ht.n
 have hbl : ∀ i, Ag (l.drop i) ≤ l.length - i := fun i => by have := LM (l.drop i); rwa [List.length_drop] at this
 obtain ⟨D, hD⟩ : ∃ D, 33 - dep = D + 1 := ⟨32 - dep, by omega⟩
 refine En [Ah br q c l p, AG W0] (fun k => k = br) Tryz.func96 Tryz.ntmps96 (B3 (BE h) (B3 (BB ho) DN)) (CT (CK (fun k h1 h2 => by have h1 : k = br := h1; have h2 : k < W0.heap.size := h2; omega) CU) Bi) (A9 (fun _ hb => hb) (BP rfl Aw)) ?_
 intro a hS
 refine Wh 2 hS ?_
 refine Lo (Al ?_); intro b4
 refine Wn 5 ?_
 refine Lo (Al ?_); intro b5
 refine Lo (Sa ?_)
 refine Wn 5 ?_
 refine Lo (cM Jz (fun hS => Ch W0 br q c l ht p hp _ (hS.gg (X := Ah br q c l p)) hS.od hb) ?_); intro x8
 have hb0 := hbl p
 refine Wn 6 ?_
 refine Lo (cM IB (fun hS => Dw W0 br q c l ht ⟨#[93]⟩ (CZ 93) (EM 93) (p + Ag (l.drop p)) (by omega) _ (hS.gg (X := Ah br q c l (p + Ag (l.drop p)))) hS.od hb) ?_); intro x10
 refine Wn 2 ?_
 refine iB (fun hc10 => ?_) fun hc10 => ?_
 ·
  have hv : J3 N dep (l.drop p) = some (.mk 5 [] [] [], 1 + Ag (l.drop p) + 1) := by unfold J3; rw [List.drop_drop, if_pos hc10]
  intro a w hS
  rw [show Hb (CZ 93) (l.drop (p + Ag (l.drop p))) = 1 from if_pos hc10] at hS
  have h4 := Gy (pd := CZ 93) (l := l) (p := p + Ag (l.drop p)) (by omega)
  rw [show Hb (CZ 93) (l.drop (p + Ag (l.drop p))) = 1 from if_pos hc10] at h4
  refine Wh 3 hS ?_
  refine Lo (Sa ?_)
  refine Wn 4 ?_
  intro a w hS
  refine Ro hS Tryz.results96 ?_
  have hl := CH D 5 [] w
  refine .inl ⟨⟨(⟨.mk 5 [] [] [], Wg (.slice none 0 0), fun _ => False, rfl, rfl⟩, 1 + Ag (l.drop p) + 1), hv, by omega, by omega⟩, rfl, hS.chg, ?_, ?_⟩
  ·
   show (C5 (Ah br q c l (p + (1 + Ag (l.drop p) + 1) - 1)) (Be (33 - dep) _)).ok w
   rw [hD, show p + (1 + Ag (l.drop p) + 1) - 1 = p + Ag (l.drop p) + 1 by omega]
   exact By (hS.ok (Ah br q c l (p + Ag (l.drop p) + 1)) (by repeat constructor)) hl (fun k _ hk => hk)
  ·
   rintro b (hb | hb)
   · exact .inl hb
   · exact hb.elim
 have hc10' : ¬ one (CZ 93) (l.drop (p + Ag (l.drop p))) = true := by rw [hc10]; decide
 intro a w hS
 rw [show Hb (CZ 93) (l.drop (p + Ag (l.drop p))) = 0 from if_neg hc10', Nat.add_zero] at hS
 obtain ⟨N', rfl⟩ : ∃ k, N = k + 1 := ⟨N - 1, by omega⟩
 have hv0 : J3 (N' + 1) dep (l.drop p) = Iy (N' + 1) dep (l.drop (p + Ag (l.drop p))) [] (1 + Ag (l.drop p)) := by
  unfold J3; rw [List.drop_drop, if_neg hc10', Tk]
 refine Wq 3 hS ?_; intro a hS
 refine AW (γ := (Nat × Nat × Nat × List JX × Value)) (fun G a w => St 44 (fun k => k = br) w0 a w [(0, .pointer (some ⟨br, 0, none⟩)), (1, .int .i64 (dep : Int)), (4, .pointer (some ⟨b4, 0, none⟩)), (5, .pointer (some ⟨b5, 0, none⟩))] [Ah br q c l G.2.1, .blk b5 (Wg G.2.2.2.2) 37, AJ 37 4 G.2.2.2.2 G.2.2.2.1.length (G.2.2.2.1.flatMap JX.cs), As D G.2.2.2.1, .blk b4 BM 37, AG W0] ∧ G.2.1 ≤ l.length ∧ 2 * l.length + 3 ≤ 2 * G.2.1 + G.1 ∧ G.1 ≤ N' + 1 ∧ p + G.2.2.1 = G.2.1 + 1 ∧ Iy G.1 dep (l.drop G.2.1) (G.2.2.2.1.map JX.v) G.2.2.1 = J3 (N' + 1) dep (l.drop p) ∧ G.2.2.2.1.length ≤ G.2.2.1) (fun G => l.length - G.2.1) (N' + 1, p + Ag (l.drop p), 1 + Ag (l.drop p), [], .slice none 0 0) ⟨(((hS.own_nil 37 4).more (Y := As D []) (D5 (fun x hx => by cases hx)) (fun b ⟨x, hx, _⟩ => by cases hx)).sq).pk, by show p + Ag (l.drop p) ≤ l.length; omega, by show 2 * l.length + 3 ≤ 2 * (p + Ag (l.drop p)) + (N' + 1); omega, Nat.le_refl _, by show p + (1 + Ag (l.drop p)) = p + Ag (l.drop p) + 1; omega, hv0.symm, Nat.zero_le _⟩ ?_
 intro G a w hI
 obtain ⟨m, pp, u, kids, lv⟩ := G
 obtain ⟨hS, hpp, hm, hmN, hpu, hgo, hku⟩ := hI
 simp only at hS hpp hm hmN hpu hgo hku
 obtain ⟨m, rfl⟩ : ∃ k, m = k + 1 := ⟨m - 1, by omega⟩
 obtain ⟨ql, cl, rfl⟩ := AN (hS.gg (X := AJ 37 4 lv kids.length (kids.flatMap JX.cs)))
 obtain ⟨p1, hp1⟩ : ∃ p1, pp + Ag (l.drop pp) = p1 := ⟨_, rfl⟩
 have hb1 := hbl pp
 rw [I9, hp1, List.length_map] at hgo
 unfold Wg at hS
 refine Wh 4 hS ?_
 refine Lo (cM Jz (fun hS => Ch W0 br q c l ht pp hpp _ (hS.gg (X := Ah br q c l pp)) hS.od hb) ?_); intro x13
 intro a w hS
 rw [hp1] at hS
 refine Wh 10 hS ?_
 refine Lm 3 21 (.bool (decide (kids.length = 1000 ∧ one EK (l.drop p1) = true))) ?_ ?_
 ·
  intro hcM21
  refine Gd 18 ?_ ?_ <;> intro hg18
  ·
   refine Wn 1 ?_
   refine Lg (cM iC (fun hS => Q2 W0 br q c l ht p1 (by omega) _ (hS.gg (X := Ah br q c l p1)) hS.od hb) ?_); intro x20
   refine Wn 1 ?_
   exact Et 4 21 18 hcM21 rfl (by cases hq : one EK (l.drop p1); exact (decide_eq_false (fun h => by cases h.2)).symm; exact (decide_eq_true ⟨by omega, rfl⟩).symm) hg18
  refine Wn 3 ?_
  exact Ef 4 21 18 hcM21 rfl ((decide_eq_false (fun h => hg18 (by omega))).symm) hg18
 ·
  refine Wn 2 ?_
  refine iD (fun hc21 => ?_) fun hc21 => ?_
  ·
   rw [if_pos hc21] at hgo
   refine Wn 1 ?_
   intro a w hS
   unfold Ah LK at hS
   refine Wq 5 hS ?_; intro a hS
   refine Aa (cY hS IC (DF Fe (.pointer (some ⟨br, 0, none⟩)) (p1 : Int) 9 (show (9 : Int) ≠ 0 by decide) (.blk br [.slice q l.length c, .int .i64 (p1 : Int)] 93) _ (hS.ok _ (by repeat constructor)) rfl) ?_ ?_)
   ·
    intro vp wp hvp hdp hcp
    refine AS (AX (AS (AX ?_)))
    exact ⟨hdp, .inr ⟨vp, ⟨hvp, hgo.symm⟩, rfl, hcp⟩⟩
   intro x27 a w hS
   exact x27.elim
  rw [if_neg hc21] at hgo
  refine Wn 3 ?_
  refine Dr 10 [9] [.blk b5 [.int .i64 5, .string ⟨#[]⟩, .slice ql kids.length cl, .slice none 0 0] 37] ?_
  refine ZR 5 ?_
  intro a w hS
  refine Zo 5 (tf 6 4) hS rfl wN rfl (IP hS (.cons rfl (.cons rfl .nil)) Zn rfl (IH m (by omega) (dep + 1) p1 _ (by omega) (by omega) (by omega) (hS.gg (X := Ah br q c l p1)) hS.od) (fun x => (by repeat constructor)) rfl (by repeat constructor) ?_ ?_)
  ·
   intro vp wp hvp hdp hcp
   refine AS (AX (AS (AX ?_)))
   exact ⟨hdp, .inr ⟨vp, ⟨hvp.1, by rw [← hgo, hvp.2]⟩, rfl, hcp⟩⟩
  intro x33 a w hS
  obtain ⟨⟨x, k⟩, hx1, hx2, hx3⟩ := x33
  simp only at hx1 hx2 hx3 hS
  rw [show 33 - (dep + 1) = D by omega] at hS
  replace hS := hS.unduo
  obtain ⟨lx, nx, ⟨a1, a2, a3, rfl⟩, ⟨a4, a5, a6, rfl⟩, hcs⟩ := DZ.four (hS.get (X := Be D x) (.tail _ (.head _)))
  rw [hcs] at hS
  rw [hx1] at hgo
  simp only at hgo
  have hkl : kids.length ≤ 1100000 := by omega
  refine Bc hS (AP (by repeat constructor) Ay) ?_
  refine Un hS (Z0 rfl (Bz ?_)); intro b34
  refine Za ?_
  refine Z0 rfl (A1 ?_); intro v35 hv35
  intro a w hS
  obtain ⟨q35, c35, rfl⟩ := AN (hS.gg (X := AJ 37 4 v35 (kids.length + 1) _))
  refine Un hS (Za ?_)
  refine ZR 1 ?_
  refine Z0 rfl (Sb ?_)
  refine Zl ?_
  refine Wn 3 ?_
  obtain ⟨p2, hp2⟩ : ∃ p2, p1 + k = p2 := ⟨_, rfl⟩
  obtain ⟨p3, hp3⟩ : ∃ p3, p2 + Ag (l.drop p2) = p3 := ⟨_, rfl⟩
  have hb2 := hbl p2
  have hfl : (kids ++ [x]).flatMap JX.cs = kids.flatMap JX.cs ++ ([.int .i64 (x.v.k : Int), .string (tx x.v.t), .slice a1 a2 a3, .slice a4 a5 a6] ++ []) := by rw [List.flatMap_append, ← hcs]; simp
  have hkl1 : (kids ++ [x]).length = kids.length + 1 := by simp
  intro a w hS
  replace hS := hS.pk (Γ' := [Be D x, As D kids, Ah br q c l (p1 + k), .blk b5 [.int .i64 5, .string ⟨#[]⟩, .slice q35 (kids.length + 1) c35, .slice none 0 0] 37, AJ 37 4 (.slice q35 (kids.length + 1) c35) (kids.length + 1) (kids.flatMap JX.cs ++ ([.int .i64 (x.v.k : Int), .string (tx x.v.t), .slice a1 a2 a3, .slice a4 a5 a6] ++ [])), .blk b4 BM 37, AG W0])
  replace hS := CA hS
  rw [← hfl, hp2] at hS
  rw [hp2, hp3] at hgo
  refine Wh 2 hS ?_
  refine Lo (cM Jz (fun hS => Ch W0 br q c l ht p2 (by omega) _ (hS.gg (X := Ah br q c l p2)) hS.od hb) ?_); intro x38
  intro a w hS
  rw [hp3] at hS
  refine Wh 6 hS ?_
  refine Lo (cM IB (fun hS => Dw W0 br q c l ht ⟨#[93]⟩ (CZ 93) (EM 93) p3 (by omega) _ (hS.gg (X := Ah br q c l p3)) hS.od hb) ?_); intro x40
  refine Wn 2 ?_
  refine iB (fun hc40 => ?_) fun hc40 => ?_
  ·
   have h4 := Gy (pd := CZ 93) (l := l) (p := p3) (by omega)
   intro a w hS
   rw [show Hb (CZ 93) (l.drop p3) = 1 from if_pos hc40] at hS h4
   rw [if_pos hc40] at hgo
   refine Wh 3 hS ?_
   refine Lo (Sa ?_)
   refine Wn 3 ?_
   intro a w hS
   refine AC (AD (AC (AD ?_)))
   refine Ro hS Tryz.results96 ?_
   have hS1 := (hS.own_nil 9 1).pk (Γ' := [AJ 37 4 (.slice q35 (kids.length + 1) c35) (kids.length + 1) ((kids ++ [x]).flatMap JX.cs), AJ 9 1 (.slice none 0 0) 0 [], As D (kids ++ [x]), Ah br q c l (p3 + 1)])
   rw [← hkl1] at hS1
   have hS2 := Eg (d := D) (k := 5) (t := []) (ns := []) (kids := kids ++ [x]) hS1
   rw [hkl1] at hS2
   obtain ⟨F, hF⟩ : ∃ F : Nat → Prop, F = fun b => (Value.slice q35 (kids.length + 1) c35).ownBlock = some b ∨ (Value.slice none 0 0).ownBlock = some b ∨ LR (kids ++ [x]) b := ⟨_, rfl⟩
   rw [← hF] at hS2
   refine .inl ⟨⟨(⟨.mk 5 [] [] ((kids ++ [x]).map JX.v), Wg (.slice q35 (kids.length + 1) c35), F, rfl, rfl⟩, u + (Ag (l.drop pp) + k + Ag (l.drop p2) + 1)), by rw [← hgo, List.map_append]; rfl, by show 1 ≤ u + (Ag (l.drop pp) + k + Ag (l.drop p2) + 1); omega, by show p + (u + (Ag (l.drop pp) + k + Ag (l.drop p2) + 1)) ≤ l.length + 1; omega⟩, rfl, hS.chg, ?_, ?_⟩
   ·
    show (C5 (Ah br q c l (p + (u + (Ag (l.drop pp) + k + Ag (l.drop p2) + 1)) - 1)) (Be (33 - dep) _)).ok w
    rw [hD, show p + (u + (Ag (l.drop pp) + k + Ag (l.drop p2) + 1)) - 1 = p3 + 1 by omega]
    exact By (hS2.ok _ (.tail _ (.head _))) (hS2.ok _ (.head _)) (fun b h1 h2 => hS2.sep (X := Ah br q c l (p3 + 1)) (by repeat (first | exact Jw.head | apply Jw.tail)) (.head _) b h1 h2)
   ·
    rintro b (hb | hb)
    · exact .inl hb
    · exact (hS2.mine _ (.head _) rfl b hb).symm
  have hc40' : ¬ one (CZ 93) (l.drop p3) = true := by rw [hc40]; decide
  intro a w hS
  rw [show Hb (CZ 93) (l.drop p3) = 0 from if_neg hc40', Nat.add_zero] at hS
  rw [if_neg hc40'] at hgo
  refine Wq 4 hS ?_; intro a hS
  refine Aa (cY hS MM (Gz W0 br q c l ht 44 p3 (by omega) _ (hS.gg (X := Ah br q c l p3)) hS.od hb) ?_ ?_)
  ·
   intro vp wp hvp hdp hcp
   refine AX (AS (AX ?_))
   exact ⟨hdp, .inr ⟨vp, ⟨hvp.1, by rw [← hgo, if_neg (by rw [hvp.2]; decide)]⟩, rfl, hcp⟩⟩
  intro x43 a w hS
  obtain ⟨_, h44⟩ := x43
  rw [if_pos h44] at hgo
  have hpl3 : p3 < l.length := by
   rcases Nat.lt_or_ge p3 l.length with h | h
   · exact h
   · rw [D4 _ h] at h44; cases h44
  refine Wq 2 hS ?_; intro a hS
  refine ⟨(m, p3 + 1, u + (Ag (l.drop pp) + k + Ag (l.drop p2) + 1), kids ++ [x], .slice q35 (kids.length + 1) c35), by show l.length - (p3 + 1) < l.length - pp; omega, ?_, by show p3 + 1 ≤ l.length; omega, by show 2 * l.length + 3 ≤ 2 * (p3 + 1) + m; omega, by show m ≤ N' + 1; omega, by show p + (u + (Ag (l.drop pp) + k + Ag (l.drop p2) + 1)) = p3 + 1 + 1; omega, ?_, by show (kids ++ [x]).length ≤ u + (Ag (l.drop pp) + k + Ag (l.drop p2) + 1); omega⟩
  ·
   show St _ _ _ _ _ _ [_, _, AJ _ _ _ (kids ++ [x]).length _, _, _, _]
   rw [hkl1]
   exact hS.sp
  ·
   show Iy m dep (l.drop (p3 + 1)) ((kids ++ [x]).map JX.v) _ = _
   rw [List.map_append]; exact hgo
theorem JA : ∀ (n : Nat) (L acc : List UInt8) (u c : Nat), GO n L acc (u + c) = (GO n L acc u).map fun x => (x.1, x.2 + c) := by
 intro n
 induction n with
 | zero => intro L acc u c; rfl
 | succ n ih =>
   intro L acc u c
   unfold GO
   cases L with
   | nil => rfl
   | cons x t =>
     simp only
     by_cases h1 : x.toNat < 32
     · rw [if_pos h1, if_pos h1]; rfl
     ·
      rw [if_neg h1, if_neg h1]
      by_cases h2 : x.toNat = 34
      · rw [if_pos h2, if_pos h2]; simp only [Option.map_some]; rw [show u + c + 1 = u + 1 + c by omega]
      ·
       rw [if_neg h2, if_neg h2]
       by_cases h3 : x.toNat = 92
       ·
        rw [if_pos h3, if_pos h3]
        cases Gw t with
        | none => rfl
        | some y => obtain ⟨r, k⟩ := y; simp only; rw [← ih, show u + c + 1 + k = u + 1 + k + c by omega]
       ·
        rw [if_neg h3, if_neg h3]
        by_cases h4 : (Lib.decodeL (x :: t)).1 = 65533 ∧ (Lib.decodeL (x :: t)).2 = 1
        · rw [if_pos h4, if_pos h4]; rfl
        · rw [if_neg h4, if_neg h4, ← ih, show u + c + (Lib.decodeL (x :: t)).2 = u + (Lib.decodeL (x :: t)).2 + c by omega]
theorem OE (L acc : List UInt8) (c : Nat) : E4 L acc (c + 1) = (E4 L acc 1).map fun x => (x.1, x.2 + c) := by
 unfold E4; rw [Nat.add_comm c 1, JA]
def J4 (n d : Nat) (t : List UInt8) : Option (JV × Nat) := if one (CZ 125) (t.drop (Ag t)) then some (.mk 6 [] [] [], 1 + Ag t + 1) else Iz n d t [] [] 1
theorem JB {n d : Nat} {l : List UInt8} {p u p1 : Nat} {ns : List (List UInt8)} {acc : List JV} (h1 : p + Ag (l.drop p) = p1) : Iz (n + 1) d (l.drop p) ns acc u =
 if one (CZ 34) (l.drop p1) = false then none else
 if acc.length = 1000 then none else
 match E4 (l.drop (p1 + 1)) [] 1 with
 | none => none
 | some (nm, a) =>
   if nm ∈ ns then none else
   if one (CZ 58) (l.drop (p1 + a + Ag (l.drop (p1 + a)))) = false then none else
   match Dq n (d + 1) (l.drop (p1 + a + Ag (l.drop (p1 + a)) + 1 + Ag (l.drop (p1 + a + Ag (l.drop (p1 + a)) + 1)))) with
   | none => none
   | some (v, k) =>
     if one (CZ 125) (l.drop (p1 + a + Ag (l.drop (p1 + a)) + 1 + Ag (l.drop (p1 + a + Ag (l.drop (p1 + a)) + 1)) + k + Ag (l.drop (p1 + a + Ag (l.drop (p1 + a)) + 1 + Ag (l.drop (p1 + a + Ag (l.drop (p1 + a)) + 1)) + k)))) then
      some (.mk 6 [] (ns ++ [nm]) (acc ++ [v]), u + (p1 + a + Ag (l.drop (p1 + a)) + 1 + Ag (l.drop (p1 + a + Ag (l.drop (p1 + a)) + 1)) + k + Ag (l.drop (p1 + a + Ag (l.drop (p1 + a)) + 1 + Ag (l.drop (p1 + a + Ag (l.drop (p1 + a)) + 1)) + k)) + 1 - p))
     else if one (CZ 44) (l.drop (p1 + a + Ag (l.drop (p1 + a)) + 1 + Ag (l.drop (p1 + a + Ag (l.drop (p1 + a)) + 1)) + k + Ag (l.drop (p1 + a + Ag (l.drop (p1 + a)) + 1 + Ag (l.drop (p1 + a + Ag (l.drop (p1 + a)) + 1)) + k)))) then
      Iz n d (l.drop (p1 + a + Ag (l.drop (p1 + a)) + 1 + Ag (l.drop (p1 + a + Ag (l.drop (p1 + a)) + 1)) + k + Ag (l.drop (p1 + a + Ag (l.drop (p1 + a)) + 1 + Ag (l.drop (p1 + a + Ag (l.drop (p1 + a)) + 1)) + k)) + 1)) (ns ++ [nm]) (acc ++ [v]) (u + (p1 + a + Ag (l.drop (p1 + a)) + 1 + Ag (l.drop (p1 + a + Ag (l.drop (p1 + a)) + 1)) + k + Ag (l.drop (p1 + a + Ag (l.drop (p1 + a)) + 1 + Ag (l.drop (p1 + a + Ag (l.drop (p1 + a)) + 1)) + k)) + 1 - p))
     else none := by
 conv => lhs; unfold Iz
 simp only [List.drop_drop]
 rw [show p + (Ag (l.drop p) + 1) = p1 + 1 by omega, h1]
 rw [I4 (by rw [List.length_drop, List.length_drop]; omega), OE]
 by_cases g1 : one (CZ 34) (l.drop p1) = false
 · rw [if_pos g1, if_pos g1]
 ·
  rw [if_neg g1, if_neg g1]
  by_cases g2 : acc.length = 1000
  · rw [if_pos g2, if_pos g2]
  ·
   rw [if_neg g2, if_neg g2]
   cases E4 (l.drop (p1 + 1)) [] 1 with
   | none => rfl
   | some y =>
     obtain ⟨nm, a⟩ := y
     simp only [Option.map_some]
     have e : ∀ i, p + (a + Ag (l.drop p) + i) = p1 + a + i := fun i => by omega
     have e0 : p + (a + Ag (l.drop p)) = p1 + a := by omega
     by_cases g3 : nm ∈ ns
     · rw [if_pos g3, if_pos g3]
     ·
      rw [if_neg g3, if_neg g3]
      rw [e0, e, Nat.add_assoc (a + Ag (l.drop p)), e, ← Nat.add_assoc (p1 + a)]
      by_cases g4 : one (CZ 58) (l.drop (p1 + a + Ag (l.drop (p1 + a)))) = false
      · rw [if_pos g4, if_pos g4]
      ·
       rw [if_neg g4, if_neg g4]
       obtain ⟨p4, h4⟩ : ∃ k, p1 + a + Ag (l.drop (p1 + a)) + 1 = k := ⟨_, rfl⟩
       obtain ⟨q4, hq4⟩ : ∃ k, a + Ag (l.drop p) + (Ag (l.drop (p1 + a)) + 1) = k := ⟨_, rfl⟩
       have f4 : ∀ i, p + (q4 + i) = p4 + i := fun i => by omega
       rw [h4, hq4, f4]
       cases Dq n (d + 1) (l.drop (p4 + Ag (l.drop p4))) with
       | none => rfl
       | some y =>
         obtain ⟨v, k⟩ := y
         simp only
         obtain ⟨p6, h6⟩ : ∃ j, p4 + Ag (l.drop p4) + k = j := ⟨_, rfl⟩
         obtain ⟨q6, hq6⟩ : ∃ j, q4 + Ag (l.drop p4) + k = j := ⟨_, rfl⟩
         have f6 : ∀ i, p + (q6 + i) = p6 + i := fun i => by omega
         have f60 : p + q6 = p6 := by omega
         rw [h6, hq6, f60, f6, Nat.add_assoc q6, f6, ← Nat.add_assoc p6, show p6 + Ag (l.drop p6) + 1 - p = q6 + (Ag (l.drop p6) + 1) by omega]
theorem Tm {n d : Nat} {l : List UInt8} {p u : Nat} {ns : List (List UInt8)} {acc : List JV} : Iz (n + 1) d (l.drop p) ns acc u = Iz (n + 1) d (l.drop (p + Ag (l.drop p))) ns acc (u + Ag (l.drop p)) := by
 have h0 : Ag (l.drop (p + Ag (l.drop p))) = 0 := by have := Mg (l.drop p); rwa [List.drop_drop] at this
 obtain ⟨p1, h1⟩ : ∃ k, p + Ag (l.drop p) = k := ⟨_, rfl⟩
 rw [h1] at h0 ⊢
 rw [JB (p := p) (p1 := p1) h1, JB (p := p1) (p1 := p1) (by rw [h0]; rfl)]
 by_cases g1 : one (CZ 34) (l.drop p1) = false
 · rw [if_pos g1, if_pos g1]
 ·
  rw [if_neg g1, if_neg g1]
  by_cases g2 : acc.length = 1000
  · rw [if_pos g2, if_pos g2]
  ·
   rw [if_neg g2, if_neg g2]
   cases E4 (l.drop (p1 + 1)) [] 1 with
   | none => rfl
   | some y =>
     obtain ⟨nm, a⟩ := y
     simp only
     by_cases g3 : nm ∈ ns
     · rw [if_pos g3, if_pos g3]
     ·
      rw [if_neg g3, if_neg g3]
      by_cases g4 : one (CZ 58) (l.drop (p1 + a + Ag (l.drop (p1 + a)))) = false
      · rw [if_pos g4, if_pos g4]
      ·
       rw [if_neg g4, if_neg g4]
       obtain ⟨p5, h5⟩ : ∃ k, p1 + a + Ag (l.drop (p1 + a)) + 1 + Ag (l.drop (p1 + a + Ag (l.drop (p1 + a)) + 1)) = k := ⟨_, rfl⟩
       rw [h5]
       cases Dq n (d + 1) (l.drop p5) with
       | none => rfl
       | some y =>
         obtain ⟨v, k⟩ := y
         simp only
         rw [show p5 + k + Ag (l.drop (p5 + k)) + 1 - p = Ag (l.drop p) + (p5 + k + Ag (l.drop (p5 + k)) + 1 - p1) by omega, ← Nat.add_assoc u]
theorem Mh (w0 : World) : Bb Tryz.prog 99 [] w0 (fun b : Nat => .slice (some ⟨b, 0, none⟩) 3 3) (fun b => .blk b (B0.flatMap AM) 9) := by
 refine Bq [] [] Ai Tryz.func99 rfl Tryz.ntmps99 trivial rfl (by simp) (by simp) (by simp) ?_
 intro a hS
 refine Wh 7 hS ?_
 refine Lo (Bz ?_); intro b1
 refine Wn 4 ?_
 intro a w hS
 refine Ro hS Tryz.results99 ?_
 exact ⟨b1, rfl, hS.chg, hS.new (.head _) rfl⟩
theorem Mi {w l : List UInt8} {p i : Nat} {x : UInt8} (hx : w[i]? = some x) : (w.drop i).isPrefixOf (l.drop (p + i)) = (one (CZ x.toNat) (l.drop (p + i)) && (w.drop (i + 1)).isPrefixOf (l.drop (p + (i + 1)))) := by
 obtain ⟨hi, hx⟩ := List.getElem?_eq_some_iff.1 hx
 rw [List.drop_eq_getElem_cons hi, hx]
 cases hl : l.drop (p + i) with
 | nil => simp [one]
 | cons y t =>
   have : l.drop (p + (i + 1)) = t := by rw [← Nat.add_assoc, ← List.drop_drop (i := 1), hl]; rfl
   rw [this]
   simp only [List.isPrefixOf_cons_cons, one, CZ]
   by_cases hxy : x = y
   · subst hxy; simp
   ·
    have h1 : ¬ y.toNat = x.toNat := fun h => hxy (UInt8.toNat_inj.1 h.symm)
    rw [beq_eq_false_iff_ne.2 hxy]; simp [h1]
theorem G3 {L : List UInt8} (h : GN L ≠ 0) : ∃ x t, L = x :: t ∧ x.toNat = GN L := by
 cases L with
 | nil => exact (h rfl).elim
 | cons x t => exact ⟨x, t, rfl, rfl⟩
theorem aZ {l : List UInt8} {p : Nat} (h : GN (l.drop p) ≠ 0) : p < l.length := by
 rcases Nat.lt_or_ge p l.length with g | g
 · exact g
 · rw [List.drop_eq_nil_of_le g] at h; exact (h rfl).elim
theorem JC {l : List UInt8} {p : Nat} {x : UInt8} {t : List UInt8} (h : l.drop p = x :: t) : l.drop (p + 1) = t := by
 rw [← List.drop_drop, h]; rfl
theorem LU {L : List UInt8} {z : Nat} (hz : z ≠ 0) : one (CZ z) L = true ↔ GN L = z := by
 cases L with
 | nil => simp only [one, GN]; exact ⟨(fun h => nomatch h), fun h => (hz h.symm).elim⟩
 | cons x t => simp [one, CZ, GN]
theorem LV {n d : Nat} {l : List UInt8} {p : Nat} (h : GN (l.drop p) = 123) : Dq (n + 1) d (l.drop p) = if 32 ≤ d then none else J4 n d (l.drop (p + 1)) := by
 obtain ⟨x, t, hx, hv⟩ := G3 (L := l.drop p) (by omega)
 rw [JC hx, hx, Dq]; rw [if_pos (by omega)]; rfl
theorem LW {n d : Nat} {l : List UInt8} {p : Nat} (h : GN (l.drop p) = 91) : Dq (n + 1) d (l.drop p) = if 32 ≤ d then none else J3 n d (l.drop (p + 1)) := by
 obtain ⟨x, t, hx, hv⟩ := G3 (L := l.drop p) (by omega)
 rw [JC hx, hx, Dq]; rw [if_neg (by omega), if_pos (by omega)]; rfl
theorem Ph {n d : Nat} {l : List UInt8} {p : Nat} (h : GN (l.drop p) = 34) : Dq (n + 1) d (l.drop p) = (E4 (l.drop (p + 1)) [] 1).map fun x => (Fb x.1, x.2) := by
 obtain ⟨x, t, hx, hv⟩ := G3 (L := l.drop p) (by omega)
 rw [JC hx, hx, Dq]; rw [if_neg (by omega), if_neg (by omega), if_pos (by omega)]; rfl
theorem Pi {n d : Nat} {l : List UInt8} {p : Nat} (h : GN (l.drop p) = 45 ∨ (48 ≤ GN (l.drop p) ∧ GN (l.drop p) ≤ 57)) : Dq (n + 1) d (l.drop p) = (Cs (l.drop p)).map fun k => (DI ((l.drop p).take k), k) := by
 obtain ⟨x, t, hx, hv⟩ := G3 (L := l.drop p) (by omega)
 rw [hx, Dq]; rw [← hv] at h; rw [if_neg (by omega), if_neg (by omega), if_neg (by omega), if_pos h]
theorem KV : Hx [] = none := by decide
theorem Tn {n d : Nat} {l : List UInt8} {p : Nat} (h1 : GN (l.drop p) ≠ 123) (h2 : GN (l.drop p) ≠ 91) (h3 : GN (l.drop p) ≠ 34) (h4 : ¬ (GN (l.drop p) = 45 ∨ (48 ≤ GN (l.drop p) ∧ GN (l.drop p) ≤ 57))) : Dq (n + 1) d (l.drop p) = Hx (l.drop p) := by
 cases hx : l.drop p with
 | nil => rw [Dq, KV]
 | cons x t =>
   rw [hx] at h1 h2 h3 h4
   unfold GN at h1 h2 h3 h4
   rw [Dq]; rw [if_neg h1, if_neg h2, if_neg h3, if_neg h4]
theorem To {L w : List UInt8} {k : Nat} (hw : B0[k]? = some w) (h : GN L = GN w) : Hx L = if w.isPrefixOf L then some (.mk k [] [] [], w.length) else none := by
 have hk : k < 3 := (List.getElem?_eq_some_iff.1 hw).1
 cases L with
 | nil =>
   rcases (by omega : k = 0 ∨ k = 1 ∨ k = 2) with rfl | rfl | rfl <;> (cases hw; cases h)
 | cons x t =>
   rcases (by omega : k = 0 ∨ k = 1 ∨ k = 2) with rfl | rfl | rfl <;>
   ·
    cases hw
    have hx : x = _ := UInt8.toNat_inj.1 h
    subst hx
    rfl
theorem Q7 {L : List UInt8} (h : ∀ (k : Nat) (w : List UInt8), B0[k]? = some w → GN w ≠ GN L) : Hx L = none := by
 cases L with
 | nil => exact KV
 | cons x t =>
   have h0 := h 0 _ rfl
   have h1 := h 1 _ rfl
   have h2 := h 2 _ rfl
   have e : ∀ z : UInt8, z.toNat ≠ x.toNat → ((some z : Option UInt8) == some x) = false := fun z hz => by
    rw [beq_eq_false_iff_ne]; intro g; cases g; exact hz rfl
   have hf : B0.findIdx? (fun w => w.head? == (x :: t).head?) = none := by
    rw [List.findIdx?_eq_none_iff]
    intro w hw
    simp only [B0, List.mem_cons, List.not_mem_nil, or_false] at hw
    rcases hw with rfl | rfl | rfl
    · exact e _ h0
    · exact e _ h1
    · exact e _ h2
   unfold Hx; rw [hf]
theorem Pj {L s : List UInt8} {k : Nat} (h : E4 L [] 1 = some (s, k)) : 1 ≤ k := by
 have h : GO L.length L [] (0 + 1) = some (s, k) := h
 rw [JA] at h
 cases hq : GO L.length L [] 0 with
 | none => rw [hq] at h; cases h
 | some y => rw [hq] at h; simp only [Option.map_some, Option.some.injEq, Prod.mk.injEq] at h; omega
theorem JD {L : List UInt8} {k : Nat} (h : EJ L = some k) : 1 ≤ k ∧ k ≤ L.length := by
 unfold EJ at h
 by_cases h0 : MT L = 0
 · rw [if_pos h0] at h; cases h
 ·
  rw [if_neg h0] at h; cases h
  exact ⟨by omega, (List.takeWhile_prefix _).length_le⟩
theorem bA {L : List UInt8} {k : Nat} (h : Gv L = some k) : 1 ≤ k ∧ k ≤ L.length := by
 unfold Gv at h
 split at h
 ·
  rename_i h1; cases h; cases L with
  | nil => cases h1
  | cons x t => exact ⟨Nat.le_refl _, by simp⟩
 · exact JD h
theorem Wi {L : List UInt8} {k : Nat} (h : E3 L = some k) : k ≤ L.length := by
 unfold E3 at h
 split at h
 ·
  cases hq : EJ (L.drop 1) with
  | none => rw [hq] at h; cases h
  | some y => rw [hq] at h; cases h; have := JD hq; rw [List.length_drop] at this; show y + 1 ≤ _; omega
 · cases h; exact Nat.zero_le _
theorem bB {L : List UInt8} {k : Nat} (h : ID L = some k) : k ≤ L.length := by
 unfold ID at h
 split at h
 ·
  cases hq : EJ (L.drop (1 + mM (L.drop 1))) with
  | none => rw [hq] at h; cases h
  | some y => rw [hq] at h; cases h; have := JD hq; rw [List.length_drop] at this; show y + _ ≤ _; omega
 · cases h; exact Nat.zero_le _
theorem bC {L : List UInt8} {k : Nat} (h : Cs L = some k) : 1 ≤ k ∧ k ≤ L.length := by
 unfold Cs at h
 cases h1 : Gv (L.drop (Cr L)) with
 | none => rw [h1] at h; cases h
 | some a =>
   rw [h1] at h; simp only at h
   cases h2 : E3 (L.drop (Cr L + a)) with
   | none => rw [h2] at h; cases h
   | some b =>
     rw [h2] at h; simp only at h
     cases h3 : ID (L.drop (Cr L + a + b)) with
     | none => rw [h3] at h; cases h
     | some e =>
       rw [h3] at h; simp only at h
       have g1 := bA h1
       have g2 := Wi h2
       have g3 := bB h3
       rw [List.length_drop] at g1 g2 g3
       split at h
       · cases h
       · cases h; omega
theorem Tp (W0 : World) (hU : Lib.Utf8Tabs 0 1 W0) (br : Nat) (q : Option Addr) (c : Nat) (l : List UInt8) (ht : EB W0 q c l) (hb : W0.heap.size ≤ br) (N : Nat)
 (HA : ∀ (dep p : Nat) (w0 : World), dep < 32 → p ≤ l.length → 2 * l.length + 3 ≤ 2 * p + N → (Ah br q c l p).φ w0 → AQ W0 w0 →
   Du Tryz.prog 96 [.pointer (some ⟨br, 0, none⟩), .int .i64 (dep : Int)] w0 (fun v => B6 Fe v ∧ J3 N dep (l.drop p) = none) (Ah br q c l p)
   (fun x : { x : JX × Nat // J3 N dep (l.drop p) = some (x.1.v, x.2) ∧ 1 ≤ x.2 ∧ p + x.2 ≤ l.length + 1 } => .agg x.1.1.cs.toArray) (fun x => C5 (Ah br q c l (p + x.1.2 - 1)) (Be (33 - dep) x.1.1)))
 (HO : ∀ (dep p : Nat) (w0 : World), dep < 32 → p ≤ l.length → 2 * l.length + 3 ≤ 2 * p + N → (Ah br q c l p).φ w0 → AQ W0 w0 →
   Du Tryz.prog 95 [.pointer (some ⟨br, 0, none⟩), .int .i64 (dep : Int)] w0 (fun v => B6 Fe v ∧ J4 N dep (l.drop p) = none) (Ah br q c l p)
   (fun x : { x : JX × Nat // J4 N dep (l.drop p) = some (x.1.v, x.2) ∧ 1 ≤ x.2 ∧ p + x.2 ≤ l.length + 1 } => .agg x.1.1.cs.toArray) (fun x => C5 (Ah br q c l (p + x.1.2 - 1)) (Be (33 - dep) x.1.1))) : Wf W0 br q c l (N + 1) := by
 intro dep p w0 hdep hp hN h ho
 have hn := ht.n
 obtain ⟨D, hD⟩ : ∃ D, 33 - dep = D + 1 := ⟨32 - dep, by omega⟩
 obtain ⟨cc, hcc⟩ : ∃ k, GN (l.drop p) = k := ⟨_, rfl⟩
 refine En [Ah br q c l p, AG W0] (fun k => k = br) Tryz.func34 Tryz.ntmps34 (B3 (BE h) (B3 (BB ho) DN)) (CT (CK (fun k h1 h2 => by have h1 : k = br := h1; have h2 : k < W0.heap.size := h2; omega) CU) Bi) (A9 (fun _ hb => hb) (BP rfl Aw)) ?_
 intro a hS
 refine Wh 2 hS ?_
 refine Lo (Al ?_); intro b4
 refine Wn 5 ?_
 refine Lo (cM Zp (fun hS => LL W0 br q c l ht p hp _ (hS.gg (X := Ah br q c l p)) hS.od hb) ?_); intro x10
 intro a w hS
 rw [hcc] at hS
 refine Wh 10 hS ?_
 refine Lm 3 17 (.bool (decide (cc = 123 ∨ cc = 91))) ?_ ?_
 ·
  intro hcM17
  refine Gd 14 ?_ ?_ <;> intro hg14
  ·
   refine Wn 3 ?_
   exact Et 4 17 14 hcM17 rfl ((decide_eq_true (.inl (by omega))).symm) hg14
  refine Wn 3 ?_
  exact Ef 4 17 14 hcM17 rfl (decide_eq_decide.2 (by omega)) hg14
 ·
  refine Wn 3 ?_
  refine iD (fun hc11 => ?_) fun hc11 => ?_
  ·
   refine Wn 7 ?_
   refine iD (fun hc19 => ?_) fun hc19 => ?_
   ·
    have hv : Dq (N + 1) dep (l.drop p) = none := by
     rcases hc11 with h | h
     · rw [LV (hcc.trans h), if_pos (by omega)]
     · rw [LW (hcc.trans h), if_pos (by omega)]
    refine Wn 1 ?_
    intro a w hS
    unfold Ah LK at hS
    refine Wq 5 hS ?_; intro a hS
    refine Aa (cY hS IC (DF Fe (.pointer (some ⟨br, 0, none⟩)) (p : Int) 20 (show (20 : Int) ≠ 0 by decide) (.blk br [.slice q l.length c, .int .i64 (p : Int)] 93) _ (hS.ok _ (by repeat constructor)) rfl) ?_ ?_)
    ·
     intro vp wp hvp hdp hcp
     refine AS (AX (AS ?_))
     exact ⟨hdp, .inr ⟨vp, ⟨hvp, hv⟩, rfl, hcp⟩⟩
    intro x25 a w hS
    exact x25.elim
   have hpl : p < l.length := aZ (by omega)
   refine Wn 4 ?_
   intro a w hS
   unfold Ah LK at hS
   refine Wh 7 hS ?_
   refine Lo (Sb ?_)
   refine Wn 4 ?_
   intro a w hS
   replace hS : St _ _ _ _ _ _ [_, Ah br q c l (p + 1), AG W0] := hS
   refine Wh 5 hS ?_
   refine iD (fun hc34 => ?_) fun hc34 => ?_
   ·
    refine Wn 4 ?_
    intro a w hS
    refine Aa (cY hS oY (HO dep (p + 1) _ (by omega) (by omega) (by omega) (hS.gg (X := Ah br q c l (p + 1))) hS.od) ?_ ?_)
    ·
     intro vp wp hvp hdp hcp
     refine AS (AS (AX (AS ?_)))
     exact ⟨hdp, .inr ⟨vp, ⟨hvp.1, by rw [LV (by omega), if_neg (by omega), hvp.2]⟩, rfl, hcp⟩⟩
    intro x37 a w hS
    obtain ⟨⟨x, k⟩, hx1, hx2, hx3⟩ := x37
    simp only at hx1 hx2 hx3 hS
    replace hS := (hS.pk (Γ' := [C5 (Ah br q c l (p + 1 + k - 1)) (Be (33 - dep) x), .blk b4 BM 37, AG W0])).unduo
    obtain ⟨lx, nx, ⟨a1, a2, a3, rfl⟩, ⟨a4, a5, a6, rfl⟩, hcs⟩ := DZ.four (hS.get (X := Be (33 - dep) x) (.tail _ (.head _)))
    rw [hcs] at hS
    refine Un hS (Lo (Sa ?_))
    refine Wn 3 ?_
    intro a w hS
    refine AC (AD (AC ?_))
    refine Ro hS Tryz.results34 ?_
    refine .inl ⟨⟨(x, k), by rw [LV (by omega), if_neg (by omega)]; exact hx1, hx2, by show p + k ≤ l.length; omega⟩, by show _ = Ending.returned (Value.agg x.cs.toArray); rw [hcs], hS.chg, ?_, ?_⟩
    ·
     show (C5 (Ah br q c l (p + k)) (Be (33 - dep) x)).ok w
     rw [show p + k = p + 1 + k - 1 by omega]
     exact By (hS.ok (Ah br q c l (p + 1 + k - 1)) (by repeat constructor)) (hS.ok (Be (33 - dep) x) (by repeat constructor)) (fun b h1 h2 => hS.sep (X := Ah br q c l (p + 1 + k - 1)) (Y := Be (33 - dep) x) (by repeat constructor) (by repeat constructor) b h1 h2)
    ·
     rintro b (hb | hb)
     · exact .inl hb
     · exact (hS.mine (Be (33 - dep) x) (by repeat constructor) rfl b hb).symm
   refine Wn 6 ?_
   intro a w hS
   refine Aa (cY hS oZ (HA dep (p + 1) _ (by omega) (by omega) (by omega) (hS.gg (X := Ah br q c l (p + 1))) hS.od) ?_ ?_)
   ·
    intro vp wp hvp hdp hcp
    refine AS (AX (AS ?_))
    exact ⟨hdp, .inr ⟨vp, ⟨hvp.1, by rw [LW (by omega), if_neg (by omega), hvp.2]⟩, rfl, hcp⟩⟩
   intro x40 a w hS
   obtain ⟨⟨x, k⟩, hx1, hx2, hx3⟩ := x40
   simp only at hx1 hx2 hx3 hS
   replace hS := (hS.pk (Γ' := [C5 (Ah br q c l (p + 1 + k - 1)) (Be (33 - dep) x), .blk b4 BM 37, AG W0])).unduo
   obtain ⟨lx, nx, ⟨a1, a2, a3, rfl⟩, ⟨a4, a5, a6, rfl⟩, hcs⟩ := DZ.four (hS.get (X := Be (33 - dep) x) (.tail _ (.head _)))
   rw [hcs] at hS
   refine Un hS (Lo (Sa ?_))
   refine Wn 3 ?_
   intro a w hS
   refine AD (AC ?_)
   refine Ro hS Tryz.results34 ?_
   refine .inl ⟨⟨(x, k), by rw [LW (by omega), if_neg (by omega)]; exact hx1, hx2, by show p + k ≤ l.length; omega⟩, by show _ = Ending.returned (Value.agg x.cs.toArray); rw [hcs], hS.chg, ?_, ?_⟩
   ·
    show (C5 (Ah br q c l (p + k)) (Be (33 - dep) x)).ok w
    rw [show p + k = p + 1 + k - 1 by omega]
    exact By (hS.ok (Ah br q c l (p + 1 + k - 1)) (by repeat constructor)) (hS.ok (Be (33 - dep) x) (by repeat constructor)) (fun b h1 h2 => hS.sep (X := Ah br q c l (p + 1 + k - 1)) (Y := Be (33 - dep) x) (by repeat constructor) (by repeat constructor) b h1 h2)
   ·
    rintro b (hb | hb)
    · exact .inl hb
    · exact (hS.mine (Be (33 - dep) x) (by repeat constructor) rfl b hb).symm
  refine Wn 7 ?_
  refine iD (fun hc41 => ?_) fun hc41 => ?_
  ·
   refine Wn 3 ?_
   intro a w hS
   refine Aa (cY hS gI (PY W0 hU br q c l ht p hp _ (hS.gg (X := Ah br q c l p)) hS.od hb) ?_ ?_)
   ·
    intro vp wp hvp hdp hcp
    refine AS (AX (AS ?_))
    exact ⟨hdp, .inr ⟨vp, ⟨hvp.1, by rw [Ph (by omega), hvp.2.resolve_left (by rw [(LU (by decide)).2 (show GN (l.drop p) = 34 by omega)]; decide)]; rfl⟩, rfl, hcp⟩⟩
   intro x45 a w hS
   obtain ⟨⟨s, k⟩, hx1, hx2, hx3⟩ := x45
   simp only at hx1 hx2 hx3 hS
   refine Wh 1 hS ?_
   refine Lo (Sa ?_)
   refine Wn 3 ?_
   intro a w hS
   refine AD (AC ?_)
   refine Ro hS Tryz.results34 ?_
   have hl := CH D 4 s w
   refine .inl ⟨⟨(⟨.mk 4 s [] [], [.int .i64 4, .string (tx s), .slice none 0 0, .slice none 0 0], fun _ => False, rfl, rfl⟩, k), by rw [Ph (by omega), hx2]; rfl, Pj hx2, hx3⟩, rfl, hS.chg, ?_, ?_⟩
   ·
    show (C5 (Ah br q c l (p + k)) (Be (33 - dep) _)).ok w
    rw [hD]; exact By (hS.ok (Ah br q c l (p + k)) (by repeat constructor)) hl (fun b _ hb => hb)
   ·
    rintro b (hb | hb)
    · exact .inl hb
    · exact hb.elim
  refine Wn 5 ?_
  refine Lm 7 57 (.bool (decide (cc = 45 ∨ (48 ≤ cc ∧ cc ≤ 57)))) ?_ ?_
  ·
   intro hcM57
   refine Gd 50 ?_ ?_ <;> intro hg50
   ·
    refine Wn 7 ?_
    exact Et 8 57 50 hcM57 rfl ((decide_eq_true (.inl (by omega))).symm) hg50
   refine Wn 3 ?_
   refine Lm 3 56 (.bool (decide (48 ≤ cc ∧ cc ≤ 57))) ?_ ?_
   ·
    intro hcM56
    refine Gd 53 ?_ ?_ <;> intro hg53
    ·
     refine Wn 3 ?_
     exact Et 4 56 53 hcM56 rfl (decide_eq_decide.2 (by omega)) hg53
    refine Wn 3 ?_
    exact Ef 4 56 53 hcM56 rfl ((decide_eq_false (by omega)).symm) hg53
   ·
    refine Wn 1 ?_
    exact Ef 6 57 50 hcM57 rfl (decide_eq_decide.2 (by omega)) hg50
  ·
   refine Wn 3 ?_
   refine iD (fun hc47 => ?_) fun hc47 => ?_
   ·
    refine Wn 3 ?_
    intro a w hS
    refine Aa (cY hS gJ (KQ W0 br q c l ht p hp _ (hS.gg (X := Ah br q c l p)) hS.od hb) ?_ ?_)
    ·
     intro vp wp hvp hdp hcp
     refine AS (AX (AS ?_))
     exact ⟨hdp, .inr ⟨vp, ⟨hvp.1, by rw [Pi (by omega), hvp.2]; rfl⟩, rfl, hcp⟩⟩
    intro x59 a w hS
    obtain ⟨k, hx2⟩ := x59
    have hx3 := bC hx2
    rw [List.length_drop] at hx3
    unfold TR at hS
    refine Un hS (Lo (Sa ?_))
    refine Wn 3 ?_
    intro a w hS
    refine AD (AC ?_)
    refine Ro hS Tryz.results34 ?_
    have hl := CH D 3 ((l.drop p).take k) w
    refine .inl ⟨⟨(⟨.mk 3 ((l.drop p).take k) [] [], [.int .i64 3, .string (tx ((l.drop p).take k)), .slice none 0 0, .slice none 0 0], fun _ => False, rfl, rfl⟩, k), by rw [Pi (by omega), hx2]; rfl, hx3.1, by show p + k ≤ l.length; omega⟩, rfl, hS.chg, ?_, ?_⟩
    ·
     show (C5 (Ah br q c l (p + k)) (Be (33 - dep) _)).ok w
     rw [hD]; exact By (hS.ok (Ah br q c l (p + k)) (by repeat constructor)) hl (fun b _ hb => hb)
    ·
     rintro b (hb | hb)
     · exact .inl hb
     · exact hb.elim
   have hvw : Dq (N + 1) dep (l.drop p) = Hx (l.drop p) := Tn (by omega) (by omega) (by omega) (by rw [hcc]; exact hc47)
   refine Wn 6 ?_
   refine Lo (cN gK (fun _ => Mh _) ?_); intro x60
   refine Wn 5 ?_
   intro a w hS
   refine AW (γ := Nat) (fun k a w => St 88 (fun k => k = br) w0 a w [(62, .int .i64 (k : Int)), (61, .int .i64 3), (60, .slice (some ⟨x60, 0, none⟩) 3 3), (5, .int .u8 (cc : Int)), (4, .pointer (some ⟨b4, 0, none⟩)), (0, .pointer (some ⟨br, 0, none⟩))] [Ah br q c l p, .blk b4 BM 37, .blk x60 (B0.flatMap AM) 9, AG W0] ∧ k ≤ 3 ∧ ∀ (j : Nat) (w' : List UInt8), j < k → B0[j]? = some w' → GN w' ≠ cc) (fun k => 3 - k) 0 ⟨hS.sp, Nat.zero_le _, fun j _ hj => by omega⟩ ?_
   intro k a w hI
   obtain ⟨hS, hk, hno⟩ := hI
   refine Wh 6 hS ?_
   refine iD (fun hc63 => ?_) fun hc63 => ?_
   ·
    have hk3 : k < 3 := by omega
    obtain ⟨ww, hww⟩ : ∃ x, B0[k]? = some x := ⟨B0[k], List.getElem?_eq_getElem hk3⟩
    have hsz : 0 < (tx ww).size := by
     rcases (by omega : k = 0 ∨ k = 1 ∨ k = 2) with rfl | rfl | rfl <;> (cases hww; decide)
    have hx0 : ((tx ww).data.toList.getD (0 : Int).toNat 0).toNat = GN ww := by
     rcases (by omega : k = 0 ∨ k = 1 ∨ k = 2) with rfl | rfl | rfl <;> (cases hww; rfl)
    refine Wn 8 ?_
    refine Xp (AI rfl Af.1 (fun w hh => In (enc := AM) (by repeat constructor) (fun _ => rfl) hww w hh 0 (.string (tx ww)) rfl)) ?_
    refine Wn 12 ?_
    refine iD (fun hc70 => ?_) fun hc70 => ?_
    ·
     have hwh : Hx (l.drop p) = if ww.isPrefixOf (l.drop p) then some (.mk k [] [] [], ww.length) else none := To hww (by omega)
     have hsl : (tx ww).size = ww.length := rfl
     have hlw : ww.length ≤ 5 ∧ 1 ≤ ww.length := by
      rcases (by omega : k = 0 ∨ k = 1 ∨ k = 2) with rfl | rfl | rfl <;> (cases hww; decide)
     refine Wn 5 ?_
     intro a w hS
     rw [hsl] at hS
     refine Wq 4 hS ?_; intro a hS
     refine AW (γ := Nat) (fun i a w => St 88 (fun k => k = br) w0 a w [(73, .int .i64 (i : Int)), (72, .int .i64 (ww.length : Int)), (7, .string (tx ww)), (6, .int .i64 (k : Int)), (4, .pointer (some ⟨b4, 0, none⟩)), (0, .pointer (some ⟨br, 0, none⟩))] [Ah br q c l (p + i), .blk b4 BM 37, AG W0] ∧ i ≤ ww.length ∧ p + i ≤ l.length ∧ (ww.drop i).isPrefixOf (l.drop (p + i)) = ww.isPrefixOf (l.drop p)) (fun i => ww.length - i) 0 ⟨hS.sp, Nat.zero_le _, hp, rfl⟩ ?_
     intro i a w hI
     obtain ⟨hS, hi, hpi, hpre⟩ := hI
     refine Wh 6 hS ?_
     refine iD (fun hc74 => ?_) fun hc74 => ?_
     ·
      have hi2 : i < ww.length := by omega
      obtain ⟨y, hy⟩ : ∃ x, ww[i]? = some x := ⟨ww[i], List.getElem?_eq_getElem hi2⟩
      have hy0 : (tx ww).data.toList.getD (i : Int).toNat 0 = y := by show ww.getD i 0 = y; rw [List.getD_eq_getElem?_getD, hy]; rfl
      refine Wn 14 ?_
      refine Xp (O5 rfl rfl Dp.1 (by show 0 ≤ (i : Int) ∧ (i : Int) < (ww.length : Int); omega)) ?_
      intro a w hS
      rw [hy0] at hS
      refine Aa (cY hS MM (Gz W0 br q c l ht y.toNat (p + i) hpi _ (hS.gg (X := Ah br q c l (p + i))) hS.od hb) ?_ ?_)
      ·
       intro vp wp hvp hdp hcp
       refine AX (AS (AS (AX (AS (AX (AS (AS (AX (AS ?_)))))))))
       exact ⟨hdp, .inr ⟨vp, ⟨hvp.1, by rw [hvw, hwh, ← hpre, Mi hy, hvp.2]; rfl⟩, rfl, hcp⟩⟩
      intro x80 a w hS
      obtain ⟨_, h80⟩ := x80
      have hpl : p + i < l.length := by
       rcases Nat.lt_or_ge (p + i) l.length with h | h
       · exact h
       · rw [D4 _ h] at h80; cases h80
      rw [Mi hy, h80, Bool.true_and] at hpre
      refine Wq 7 hS ?_; intro a hS
      exact ⟨i + 1, by omega, hS.sq, by omega, by omega, hpre⟩
     refine Wn 1 ?_
     intro a w hS
     refine AH (AH (Aj ?_))
     refine Wh 5 hS ?_
     refine Lo (Sa ?_)
     refine Wn 3 ?_
     intro a w hS
     refine AD (AC (AC (AD (AC ?_))))
     refine Ro hS Tryz.results34 ?_
     have hie : i = ww.length := by omega
     subst hie
     rw [List.drop_length, show List.isPrefixOf ([] : List UInt8) (l.drop (p + ww.length)) = true by rw [List.isPrefixOf]] at hpre
     have hl := CH D k [] w
     refine .inl ⟨⟨(⟨.mk k [] [] [], [.int .i64 (k : Int), .string ⟨#[]⟩, .slice none 0 0, .slice none 0 0], fun _ => False, rfl, rfl⟩, ww.length), by rw [hvw, hwh, if_pos hpre.symm], hlw.2, hpi⟩, rfl, hS.chg, ?_, ?_⟩
     ·
      show (C5 (Ah br q c l (p + ww.length)) (Be (33 - dep) _)).ok w
      rw [hD]; exact By (hS.ok (Ah br q c l (p + ww.length)) (by repeat constructor)) hl (fun b _ hb => hb)
     ·
      rintro b (hb | hb)
      · exact .inl hb
      · exact hb.elim
    refine Wn 7 ?_
    intro a w hS
    exact ⟨k + 1, by omega, hS.sq, by omega, fun j w' hj hw' => by
        by_cases e : j = k
        · subst e; rw [hww] at hw'; cases hw'; omega
        · exact hno j w' (by omega) hw'⟩
   refine Wn 1 ?_
   intro a w hS
   refine AH (AH (Aj ?_))
   refine Wq 4 hS ?_; intro a hS
   refine Aa (cY hS J0 (C9 br q c l p _ (hS.gg (X := Ah br q c l p))) ?_ ?_)
   ·
    intro vp wp hvp hdp hcp
    refine AS ?_
    exact ⟨hdp, .inr ⟨vp, ⟨hvp, by rw [hvw]; exact Q7 (fun j w' hw' => by rw [hcc]; exact hno j w' (by have := (List.getElem?_eq_some_iff.1 hw').1; have h3 : B0.length = 3 := rfl; omega) hw')⟩, rfl, hcp⟩⟩
   intro x86 a w hS
   exact x86.elim
abbrev Wj := List (ByteArray × Int)
def J5 (es : Wj) : List (ByteArray × Value) := es.map fun e => (e.1, .int .i64 e.2)
def J6 (es : Wj) (k : ByteArray) : Int := match es.find? (fun e => decide (e.1 = k)) with
 | some e => e.2
 | none => 0
def J7 : Wj → ByteArray → Int → Wj
 | [], k, v => [(k, v)]
 | e :: r, k, v => if e.1 = k then (k, v) :: r else e :: J7 r k v
theorem Tq (es : Wj) (k : ByteArray) : mZ (J5 es) k (.int .i64 0) = .int .i64 (J6 es k) := by
 have key : ∀ (es : Wj) (m : Nat), (match GL (J5 es) k m with | some (_, v) => v | none => Value.int .i64 0) = .int .i64 (J6 es k) := by
  intro es
  induction es with
  | nil => intro m; rfl
  | cons e r ih =>
    intro m
    unfold J5 J6
    rw [List.map_cons]
    by_cases h : e.1 = k
    ·
     rw [List.find?_cons_of_pos (by simpa using h)]
     unfold GL; rw [if_pos h]
    ·
     rw [List.find?_cons_of_neg (by simpa using h)]
     unfold GL; rw [if_neg h]
     exact ih (m + 1)
 exact key es 0
theorem Wl (es : Wj) (k : ByteArray) (v : Int) : Iq (J5 es) k (.int .i64 v) = J5 (J7 es k v) := by
 induction es with
 | nil => rfl
 | cons e r ih =>
   show Iq ((e.1, _) :: J5 r) k _ = J5 (J7 (e :: r) k v)
   unfold Iq J7
   split
   · rfl
   · rw [ih]; rfl
theorem Wm (es : Wj) (k : ByteArray) (v : Int) (k2 : ByteArray) : J6 (J7 es k v) k2 = if k = k2 then v else J6 es k2 := by
 induction es with
 | nil =>
   unfold J7 J6
   by_cases h : k = k2
   · rw [List.find?_cons_of_pos (by simpa using h), if_pos h]
   · rw [List.find?_cons_of_neg (by simpa using h), if_neg h]
 | cons e r ih =>
   unfold J7
   by_cases h1 : e.1 = k
   ·
    rw [if_pos h1]
    unfold J6
    by_cases h : k = k2
    · rw [List.find?_cons_of_pos (by simpa using h), if_pos h]
    · rw [List.find?_cons_of_neg (by simpa using h), List.find?_cons_of_neg (by simpa [h1] using h), if_neg h]
   ·
    rw [if_neg h1]
    unfold J6 at ih ⊢
    by_cases h2 : e.1 = k2
    · rw [List.find?_cons_of_pos (by simpa using h2), List.find?_cons_of_pos (by simpa using h2), if_neg (fun e' => h1 (h2.trans e'.symm))]
    ·
     rw [List.find?_cons_of_neg (by simpa using h2), List.find?_cons_of_neg (by simpa using h2)]
     exact ih
theorem Tr {a b : List UInt8} (h : tx a = tx b) : a = b := by
 have := congrArg (fun x : ByteArray => x.data.toList) h
 exact this
def G4 (ns : List (List UInt8)) : Wj := ns.map fun n => (tx n, 1)
theorem Ts (ns : List (List UInt8)) (nm : List UInt8) : J6 (G4 ns) (tx nm) = if nm ∈ ns then 1 else 0 := by
 induction ns with
 | nil => rfl
 | cons x t ih =>
   unfold J6 at ih ⊢
   show (match List.find? _ ((tx x, 1) :: G4 t) with | some e => e.2 | none => 0) = _
   by_cases h : x = nm
   ·
    subst h
    rw [List.find?_cons_of_pos (by simp), if_pos (.head _)]
   ·
    rw [List.find?_cons_of_neg (by simpa using fun e => h (Tr e)), ih]
    by_cases h2 : nm ∈ t
    · rw [if_pos h2, if_pos (.tail _ h2)]
    · rw [if_neg h2, if_neg (fun g => by rcases List.mem_cons.1 g with g | g; exact h g.symm; exact h2 g)]
theorem Tt {ns : List (List UInt8)} {nm : List UInt8} (h : nm ∉ ns) : J7 (G4 ns) (tx nm) 1 = G4 (ns ++ [nm]) := by
 induction ns with
 | nil => rfl
 | cons x t ih =>
   show J7 ((tx x, 1) :: G4 t) (tx nm) 1 = (tx x, 1) :: G4 (t ++ [nm])
   unfold J7
   rw [if_neg (fun e => h (by rw [Tr e]; exact .head _)), ih (fun g => h (.tail _ g))]
theorem Q8 (W0 : World) (hU : Lib.Utf8Tabs 0 1 W0) (br : Nat) (q : Option Addr) (c : Nat) (l : List UInt8) (ht : EB W0 q c l) (hb : W0.heap.size ≤ br) (N : Nat) (IH : ∀ n, n ≤ N → Wf W0 br q c l n) (dep p : Nat) (hdep : dep < 32) (hp : p ≤ l.length) (hN : 2 * l.length + 3 ≤ 2 * p + N) (w0 : World) (h : (Ah br q c l p).φ w0) (ho : AQ W0 w0) :
 Du Tryz.prog 95 [.pointer (some ⟨br, 0, none⟩), .int .i64 (dep : Int)] w0 (fun v => B6 Fe v ∧ J4 N dep (l.drop p) = none) (Ah br q c l p)
  (fun x : { x : JX × Nat // J4 N dep (l.drop p) = some (x.1.v, x.2) ∧ 1 ≤ x.2 ∧ p + x.2 ≤ l.length + 1 } => .agg x.1.1.cs.toArray) (fun x => C5 (Ah br q c l (p + x.1.2 - 1)) (Be (33 - dep) x.1.1)) := by
 have hn := ht.n
 have hbl : ∀ i, Ag (l.drop i) ≤ l.length - i := fun i => by have := LM (l.drop i); rwa [List.length_drop] at this
 obtain ⟨D, hD⟩ : ∃ D, 33 - dep = D + 1 := ⟨32 - dep, by omega⟩
 refine En [Ah br q c l p, AG W0] (fun k => k = br) Tryz.func95 Tryz.ntmps95 (B3 (BE h) (B3 (BB ho) DN)) (CT (CK (fun k h1 h2 => by have h1 : k = br := h1; have h2 : k < W0.heap.size := h2; omega) CU) Bi) (A9 (fun _ hb => hb) (BP rfl Aw)) ?_
 intro a hS
 refine Wh 2 hS ?_
 refine Lo (Al ?_); intro b4
 refine Wn 5 ?_
 refine Lo (Al ?_); intro b5
 refine Lo (Sa ?_)
 refine Wn 4 ?_
 intro a w hS
 refine Aa (Nu hS rfl ?_); intro a w b10 hS
 refine Wh 6 hS ?_
 refine Lo (cM Jz (fun hS => Ch W0 br q c l ht p hp _ (hS.gg (X := Ah br q c l p)) hS.od hb) ?_); intro x12
 have hb0 := hbl p
 refine Wn 6 ?_
 refine Lo (cM IB (fun hS => Dw W0 br q c l ht ⟨#[125]⟩ (CZ 125) (EM 125) (p + Ag (l.drop p)) (by omega) _ (hS.gg (X := Ah br q c l (p + Ag (l.drop p)))) hS.od hb) ?_); intro x14
 refine Wn 2 ?_
 refine iB (fun hc14 => ?_) fun hc14 => ?_
 ·
  have hv : J4 N dep (l.drop p) = some (.mk 6 [] [] [], 1 + Ag (l.drop p) + 1) := by unfold J4; rw [List.drop_drop, if_pos hc14]
  intro a w hS
  rw [show Hb (CZ 125) (l.drop (p + Ag (l.drop p))) = 1 from if_pos hc14] at hS
  have h4 := Gy (pd := CZ 125) (l := l) (p := p + Ag (l.drop p)) (by omega)
  rw [show Hb (CZ 125) (l.drop (p + Ag (l.drop p))) = 1 from if_pos hc14] at h4
  refine Wh 3 hS ?_
  refine Lo (Sa ?_)
  refine Wn 4 ?_
  intro a w hS
  refine Ro hS Tryz.results95 ?_
  have hl := CH D 6 [] w
  refine .inl ⟨⟨(⟨.mk 6 [] [] [], [.int .i64 6, .string ⟨#[]⟩, .slice none 0 0, .slice none 0 0], fun _ => False, rfl, rfl⟩, 1 + Ag (l.drop p) + 1), hv, by omega, by omega⟩, rfl, hS.chg, ?_, ?_⟩
  ·
   show (C5 (Ah br q c l (p + (1 + Ag (l.drop p) + 1) - 1)) (Be (33 - dep) _)).ok w
   rw [hD, show p + (1 + Ag (l.drop p) + 1) - 1 = p + Ag (l.drop p) + 1 by omega]
   exact By (hS.ok (Ah br q c l (p + Ag (l.drop p) + 1)) (by repeat constructor)) hl (fun k _ hk => hk)
  ·
   rintro b (hb | hb)
   · exact .inl hb
   · exact hb.elim
 have hc14' : ¬ one (CZ 125) (l.drop (p + Ag (l.drop p))) = true := by rw [hc14]; decide
 intro a w hS
 rw [show Hb (CZ 125) (l.drop (p + Ag (l.drop p))) = 0 from if_neg hc14', Nat.add_zero] at hS
 obtain ⟨N', rfl⟩ : ∃ k, N = k + 1 := ⟨N - 1, by omega⟩
 have hv0 : J4 (N' + 1) dep (l.drop p) = Iz (N' + 1) dep (l.drop (p + Ag (l.drop p))) [] [] (1 + Ag (l.drop p)) := by
  unfold J4; rw [List.drop_drop, if_neg hc14', Tm]
 refine Wq 3 hS ?_; intro a hS
 refine AW (γ := (Nat × Nat × Nat × List JX × List (List UInt8) × Value × Value)) (fun G a w => St 75 (fun k => k = br) w0 a w [(0, .pointer (some ⟨br, 0, none⟩)), (1, .int .i64 (dep : Int)), (4, .pointer (some ⟨b4, 0, none⟩)), (5, .pointer (some ⟨b5, 0, none⟩)), (6, .map (some b10))] [Ah br q c l G.2.1, .blk b5 [.int .i64 6, .string ⟨#[]⟩, G.2.2.2.2.2.1, G.2.2.2.2.2.2] 37, AJ 37 4 G.2.2.2.2.2.1 G.2.2.2.1.length (G.2.2.2.1.flatMap JX.cs), AJ 9 1 G.2.2.2.2.2.2 G.2.2.2.2.1.length (G.2.2.2.2.1.flatMap AM), As D G.2.2.2.1, Ip b10 (J5 (G4 G.2.2.2.2.1)), .blk b4 BM 37, AG W0] ∧ G.2.1 ≤ l.length ∧ 2 * l.length + 3 ≤ 2 * G.2.1 + G.1 ∧ G.1 ≤ N' + 1 ∧ p + G.2.2.1 = G.2.1 + 1 ∧ Iz G.1 dep (l.drop G.2.1) G.2.2.2.2.1 (G.2.2.2.1.map JX.v) G.2.2.1 = J4 (N' + 1) dep (l.drop p) ∧ G.2.2.2.1.length ≤ G.2.2.1 ∧ G.2.2.2.2.1.length = G.2.2.2.1.length) (fun G => l.length - G.2.1) (N' + 1, p + Ag (l.drop p), 1 + Ag (l.drop p), [], [], .slice none 0 0, .slice none 0 0) ⟨((((hS.own_nil 37 4).own_nil 9 1).more (Y := As D []) (D5 (fun x hx => by cases hx)) (fun b ⟨x, hx, _⟩ => by cases hx)).sq).pk, by show p + Ag (l.drop p) ≤ l.length; omega, by show 2 * l.length + 3 ≤ 2 * (p + Ag (l.drop p)) + (N' + 1); omega, Nat.le_refl _, by show p + (1 + Ag (l.drop p)) = p + Ag (l.drop p) + 1; omega, hv0.symm, Nat.zero_le _, rfl⟩ ?_
 intro G a w hI
 obtain ⟨m, pp, u, kids, ns, lv, nv⟩ := G
 obtain ⟨hS, hpp, hm, hmN, hpu, hgo, hku, hnk⟩ := hI
 simp only at hS hpp hm hmN hpu hgo hku hnk
 obtain ⟨m, rfl⟩ : ∃ k, m = k + 1 := ⟨m - 1, by omega⟩
 obtain ⟨ql, cl, rfl⟩ := AN (hS.gg (X := AJ 37 4 lv kids.length (kids.flatMap JX.cs)))
 obtain ⟨qn, cn, rfl⟩ := AN (hS.gg (X := AJ 9 1 nv ns.length (ns.flatMap AM)))
 obtain ⟨p1, hp1⟩ : ∃ p1, pp + Ag (l.drop pp) = p1 := ⟨_, rfl⟩
 have hb1 := hbl pp
 rw [JB hp1, List.length_map] at hgo
 refine Wh 4 hS ?_
 refine Lo (cM Jz (fun hS => Ch W0 br q c l ht pp hpp _ (hS.gg (X := Ah br q c l pp)) hS.od hb) ?_); intro x17
 intro a w hS
 rw [hp1] at hS
 refine Wq 4 hS ?_; intro a hS
 unfold Ah LK at hS
 refine Wh 11 hS ?_
 refine Lo (cM Zp (fun hS => LL W0 br q c l ht p1 (by omega) _ (hS.gg (X := Ah br q c l p1)) hS.od hb) ?_); intro x23
 refine Wn 3 ?_
 refine iD (fun hc24 => ?_) fun hc24 => ?_
 ·
  refine Wn 2 ?_
  intro a w hS
  refine Aa (cY hS J0 (C9 br q c l p1 _ (hS.gg (X := Ah br q c l p1))) ?_ ?_)
  ·
   intro vp wp hvp hdp hcp
   refine AS (AX (AS (AX ?_)))
   exact ⟨hdp, .inr ⟨vp, ⟨hvp, by rw [← hgo, if_pos (Bool.eq_false_iff.2 fun h => by have := (LU (by decide)).1 h; omega)]⟩, rfl, hcp⟩⟩
  intro x26 a w hS
  exact x26.elim
 have hq34 : one (CZ 34) (l.drop p1) = true := (LU (by decide)).2 (by omega)
 rw [if_neg (by rw [hq34]; decide)] at hgo
 refine Wn 11 ?_
 refine iD (fun hc30 => ?_) fun hc30 => ?_
 ·
  rw [if_pos (by omega)] at hgo
  refine Wn 3 ?_
  intro a w hS
  refine Aa (cY hS IC (DF Fe (.pointer (some ⟨br, 0, none⟩)) (p1 : Int) 9 (show (9 : Int) ≠ 0 by decide) (Ah br q c l p1) _ (hS.ok _ (by repeat constructor)) rfl) ?_ ?_)
  ·
   intro vp wp hvp hdp hcp
   refine AS (AX (AS (AX ?_)))
   exact ⟨hdp, .inr ⟨vp, ⟨hvp, hgo.symm⟩, rfl, hcp⟩⟩
  intro x33 a w hS
  exact x33.elim
 rw [if_neg (by omega)] at hgo
 refine Wn 5 ?_
 intro a w hS
 refine Aa (cY hS gI (PY W0 hU br q c l ht p1 (by omega) _ (hS.gg (X := Ah br q c l p1)) hS.od hb) ?_ ?_)
 ·
  intro vp wp hvp hdp hcp
  refine AS (AX (AS (AX ?_)))
  exact ⟨hdp, .inr ⟨vp, ⟨hvp.1, by rw [← hgo, hvp.2.resolve_left (by rw [hq34]; decide)]⟩, rfl, hcp⟩⟩
 intro x35 a w hS
 obtain ⟨⟨nm, ka⟩, _, hx2, hx3⟩ := x35
 simp only at hx2 hx3 hS
 rw [hx2] at hgo
 simp only at hgo
 obtain ⟨p2, hp2⟩ : ∃ p2, p1 + ka = p2 := ⟨_, rfl⟩
 rw [hp2] at hgo hS hx3
 have hka := Pj hx2
 refine Wh 7 hS ?_
 refine Xp (KG rfl rfl It.1 Dp.1 S5.1 (by repeat constructor)) ?_
 intro a w hS
 rw [Tq, Ts] at hS
 refine Wq 1 hS ?_; intro a hS
 refine Aa (Vu hS rfl rfl rfl It.1 Dp.1 (by repeat constructor) ?_); intro w hS
 refine Wq 5 hS ?_; intro a hS
 rw [Wl] at hS
 refine Wh 2 hS ?_
 refine Xp (KG rfl rfl It.1 Dp.1 S5.1 (by repeat constructor)) ?_
 intro a w hS
 rw [Tq, Wm, if_pos rfl] at hS
 refine Wh 3 hS ?_
 refine iD (fun hc43 => ?_) fun hc43 => ?_
 ·
  have hin : nm ∈ ns := Classical.not_not.1 fun h => by rw [if_neg h] at hc43; omega
  rw [if_pos hin] at hgo
  refine Wn 3 ?_
  intro a w hS
  refine Aa (cY hS IC (DF Fe (.pointer (some ⟨br, 0, none⟩)) (p1 : Int) 12 (show (12 : Int) ≠ 0 by decide) (Ah br q c l p2) _ (hS.ok _ (by repeat constructor)) rfl) ?_ ?_)
  ·
   intro vp wp hvp hdp hcp
   refine AS (AX (AS (AX ?_)))
   exact ⟨hdp, .inr ⟨vp, ⟨hvp, hgo.symm⟩, rfl, hcp⟩⟩
  intro x46 a w hS
  exact x46.elim
 have hin : nm ∉ ns := fun h => by rw [if_pos h] at hc43; omega
 intro a w hS
 rw [if_neg hin] at hgo hS
 rw [show (0 : Int) + 1 = 1 from rfl, Tt hin] at hS
 obtain ⟨p3, hp3⟩ : ∃ p3, p2 + Ag (l.drop p2) = p3 := ⟨_, rfl⟩
 have hb2 := hbl p2
 rw [hp3] at hgo
 refine Wh 5 hS ?_
 refine Lo (cM Jz (fun hS => Ch W0 br q c l ht p2 (by omega) _ (hS.gg (X := Ah br q c l p2)) hS.od hb) ?_); intro x48
 intro a w hS
 rw [hp3] at hS
 refine Wq 5 hS ?_; intro a hS
 refine Aa (cY hS MM (Gz W0 br q c l ht 58 p3 (by omega) _ (hS.gg (X := Ah br q c l p3)) hS.od hb) ?_ ?_)
 ·
  intro vp wp hvp hdp hcp
  refine AS (AX (AS (AX ?_)))
  exact ⟨hdp, .inr ⟨vp, ⟨hvp.1, by rw [← hgo, if_pos hvp.2]⟩, rfl, hcp⟩⟩
 intro x50 a w hS
 obtain ⟨_, h58⟩ := x50
 have hpl3 : p3 < l.length := by
  rcases Nat.lt_or_ge p3 l.length with h | h
  · exact h
  · rw [D4 _ h] at h58; cases h58
 rw [if_neg (by rw [h58]; decide)] at hgo
 obtain ⟨p4, hp4⟩ : ∃ p4, p3 + 1 = p4 := ⟨_, rfl⟩
 obtain ⟨p5, hp5⟩ : ∃ p5, p4 + Ag (l.drop p4) = p5 := ⟨_, rfl⟩
 have hb4 := hbl p4
 rw [hp4] at hS hgo
 rw [hp5] at hgo
 refine Wh 5 hS ?_
 refine Lo (cM Jz (fun hS => Ch W0 br q c l ht p4 (by omega) _ (hS.gg (X := Ah br q c l p4)) hS.od hb) ?_); intro x52
 intro a w hS
 rw [hp5] at hS
 refine Wh 3 hS ?_
 refine Dr 17 [14, 16] [.blk b5 [.int .i64 6, .string ⟨#[]⟩, .slice ql kids.length cl, .slice qn ns.length cn] 37] ?_
 refine ZR 3 ?_
 refine Zv 5 _ rfl ExA.go ?_
 refine Zu 6 _ rfl ExA.go ?_
 refine Zv 7 _ rfl ExA.go ?_
 refine Zv 8 _ rfl ExA.go ?_
 refine Zv 9 _ rfl ExA.go ?_
 refine Zz 3 _ rfl (Bz ?_); intro b56
 refine Za ?_
 refine Zz 4 (tf 10 7) rfl (A1 ?_); intro v57 hv57
 refine Za ?_
 refine Zv 13 _ rfl ExA.go ?_
 intro a w hS
 refine Zo 10 [true, true, true, true, true, true, true, true, true, true, true, false, false, true, false, false, false] hS rfl wN rfl (IP hS (.cons rfl (.cons rfl .nil)) Zn rfl (IH m (by omega) (dep + 1) p5 _ (by omega) (by omega) (by omega) (hS.gg (X := Ah br q c l p5)) hS.od) (fun x => (by repeat constructor)) rfl (by repeat constructor) ?_ ?_)
 ·
  intro vp wp hvp hdp hcp
  refine AS (AX (AS (AX ?_)))
  exact ⟨hdp, .inr ⟨vp, ⟨hvp.1, by rw [← hgo, hvp.2]⟩, rfl, hcp⟩⟩
 intro x63 a w hS
 obtain ⟨⟨x, k⟩, hx1, hx4, hx5⟩ := x63
 simp only at hx1 hx4 hx5 hS
 rw [show 33 - (dep + 1) = D by omega] at hS
 replace hS := (hS.pk (Γ' := [C5 (Ah br q c l (p5 + k)) (Be D x), .blk b5 [.int .i64 6, .string ⟨#[]⟩, .slice ql kids.length cl, .slice qn ns.length cn] 37, oR 37 4 ql kids cl JX.cs, AJ 9 1 v57 (ns.length + 1) (ns.flatMap AM ++ [.string (tx nm)]), As D kids, Ip b10 (J5 (G4 (ns ++ [nm]))), .blk b4 BM 37, AG W0])).unduo
 obtain ⟨lx, nx, ⟨a1, a2, a3, rfl⟩, ⟨a4, a5, a6, rfl⟩, hcs⟩ := DZ.four (hS.get (X := Be D x) (.tail _ (.head _)))
 rw [hcs] at hS
 rw [hx1] at hgo
 simp only at hgo
 have hkl : kids.length ≤ 1100000 := by omega
 obtain ⟨q57, c57, rfl⟩ := AN (hS.gg (X := AJ 9 1 v57 (ns.length + 1) (ns.flatMap AM ++ [.string (tx nm)])))
 refine Bc hS (AP (by repeat constructor) Ay) ?_
 refine Un hS (Zz 11 _ rfl (Bz ?_)); intro b64
 refine Za ?_
 refine Zz 12 (tf 14 3) rfl (A1 ?_); intro v65 hv65
 intro a w hS
 obtain ⟨q65, c65, rfl⟩ := AN (hS.gg (X := AJ 37 4 v65 (kids.length + 1) _))
 refine Un hS (Za ?_)
 refine Z0 rfl (Sb ?_)
 refine Zl ?_
 refine Zx rfl (C6 rfl Df.1) ?_
 refine Z0 rfl (Sb ?_)
 refine Zl ?_
 refine Wn 3 ?_
 obtain ⟨p6, hp6⟩ : ∃ p6, p5 + k = p6 := ⟨_, rfl⟩
 obtain ⟨p7, hp7⟩ : ∃ p7, p6 + Ag (l.drop p6) = p7 := ⟨_, rfl⟩
 have hb6 := hbl p6
 have hfl : (kids ++ [x]).flatMap JX.cs = kids.flatMap JX.cs ++ ([.int .i64 (x.v.k : Int), .string (tx x.v.t), .slice a1 a2 a3, .slice a4 a5 a6] ++ []) := by rw [List.flatMap_append, ← hcs]; simp
 have hfn : (ns ++ [nm]).flatMap AM = ns.flatMap AM ++ [.string (tx nm)] := by rw [List.flatMap_append]; rfl
 have hkl1 : (kids ++ [x]).length = kids.length + 1 := by simp
 have hnl1 : (ns ++ [nm]).length = ns.length + 1 := by simp
 intro a w hS
 replace hS := hS.pk (Γ' := [Be D x, As D kids, Ah br q c l (p5 + k), .blk b5 [.int .i64 6, .string ⟨#[]⟩, .slice q65 (kids.length + 1) c65, .slice q57 (ns.length + 1) c57] 37, AJ 37 4 (.slice q65 (kids.length + 1) c65) (kids.length + 1) (kids.flatMap JX.cs ++ ([.int .i64 (x.v.k : Int), .string (tx x.v.t), .slice a1 a2 a3, .slice a4 a5 a6] ++ [])), AJ 9 1 (.slice q57 (ns.length + 1) c57) (ns.length + 1) (ns.flatMap AM ++ [.string (tx nm)]), Ip b10 (J5 (G4 (ns ++ [nm]))), .blk b4 BM 37, AG W0])
 replace hS := CA hS
 rw [← hfl, ← hfn, hp6] at hS
 rw [hp6, hp7] at hgo
 refine Wh 2 hS ?_
 refine Lo (cM Jz (fun hS => Ch W0 br q c l ht p6 (by omega) _ (hS.gg (X := Ah br q c l p6)) hS.od hb) ?_); intro x69
 intro a w hS
 rw [hp7] at hS
 refine Wh 6 hS ?_
 refine Lo (cM IB (fun hS => Dw W0 br q c l ht ⟨#[125]⟩ (CZ 125) (EM 125) p7 (by omega) _ (hS.gg (X := Ah br q c l p7)) hS.od hb) ?_); intro x71
 refine Wn 2 ?_
 refine iB (fun hc71 => ?_) fun hc71 => ?_
 ·
  have h4 := Gy (pd := CZ 125) (l := l) (p := p7) (by omega)
  intro a w hS
  rw [show Hb (CZ 125) (l.drop p7) = 1 from if_pos hc71] at hS h4
  rw [if_pos hc71] at hgo
  refine Wh 3 hS ?_
  refine Lo (Sa ?_)
  refine Wn 3 ?_
  intro a w hS
  refine AC (AD (AC (AD ?_)))
  refine Ro hS Tryz.results95 ?_
  have hS1 := hS.pk (Γ' := [AJ 37 4 (.slice q65 (kids.length + 1) c65) (kids.length + 1) ((kids ++ [x]).flatMap JX.cs), AJ 9 1 (.slice q57 (ns.length + 1) c57) (ns.length + 1) ((ns ++ [nm]).flatMap AM), As D (kids ++ [x]), Ah br q c l (p7 + 1)])
  rw [← hkl1, ← hnl1] at hS1
  have hS2 := Eg (d := D) (k := 6) (t := []) (ns := ns ++ [nm]) (kids := kids ++ [x]) hS1
  rw [hkl1, hnl1] at hS2
  obtain ⟨F, hF⟩ : ∃ F : Nat → Prop, F = fun b => (Value.slice q65 (kids.length + 1) c65).ownBlock = some b ∨ (Value.slice q57 (ns.length + 1) c57).ownBlock = some b ∨ LR (kids ++ [x]) b := ⟨_, rfl⟩
  rw [← hF] at hS2
  refine .inl ⟨⟨(⟨.mk 6 [] (ns ++ [nm]) ((kids ++ [x]).map JX.v), [.int .i64 6, .string ⟨#[]⟩, .slice q65 (kids.length + 1) c65, .slice q57 (ns.length + 1) c57], F, rfl, rfl⟩, u + (p7 + 1 - pp)), by rw [← hgo, List.map_append]; rfl, by show 1 ≤ u + (p7 + 1 - pp); omega, by show p + (u + (p7 + 1 - pp)) ≤ l.length + 1; omega⟩, rfl, hS.chg, ?_, ?_⟩
  ·
   show (C5 (Ah br q c l (p + (u + (p7 + 1 - pp)) - 1)) (Be (33 - dep) _)).ok w
   rw [hD, show p + (u + (p7 + 1 - pp)) - 1 = p7 + 1 by omega]
   exact By (hS2.ok _ (.tail _ (.head _))) (hS2.ok _ (.head _)) (fun b h1 h2 => hS2.sep (X := Ah br q c l (p7 + 1)) (by repeat (first | exact Jw.head | apply Jw.tail)) (.head _) b h1 h2)
  ·
   rintro b (hb | hb)
   · exact .inl hb
   · exact (hS2.mine _ (.head _) rfl b hb).symm
 have hc71' : ¬ one (CZ 125) (l.drop p7) = true := by rw [hc71]; decide
 intro a w hS
 rw [show Hb (CZ 125) (l.drop p7) = 0 from if_neg hc71', Nat.add_zero] at hS
 rw [if_neg hc71'] at hgo
 refine Wq 4 hS ?_; intro a hS
 refine Aa (cY hS MM (Gz W0 br q c l ht 44 p7 (by omega) _ (hS.gg (X := Ah br q c l p7)) hS.od hb) ?_ ?_)
 ·
  intro vp wp hvp hdp hcp
  refine AX (AS (AX ?_))
  exact ⟨hdp, .inr ⟨vp, ⟨hvp.1, by rw [← hgo, if_neg (by rw [hvp.2]; decide)]⟩, rfl, hcp⟩⟩
 intro x74 a w hS
 obtain ⟨_, h44⟩ := x74
 rw [if_pos h44] at hgo
 have hpl7 : p7 < l.length := by
  rcases Nat.lt_or_ge p7 l.length with h | h
  · exact h
  · rw [D4 _ h] at h44; cases h44
 refine Wq 2 hS ?_; intro a hS
 refine ⟨(m, p7 + 1, u + (p7 + 1 - pp), kids ++ [x], ns ++ [nm], .slice q65 (kids.length + 1) c65, .slice q57 (ns.length + 1) c57), by show l.length - (p7 + 1) < l.length - pp; omega, ?_, by show p7 + 1 ≤ l.length; omega, by show 2 * l.length + 3 ≤ 2 * (p7 + 1) + m; omega, by show m ≤ N' + 1; omega, by show p + (u + (p7 + 1 - pp)) = p7 + 1 + 1; omega, ?_, by show (kids ++ [x]).length ≤ u + (p7 + 1 - pp); omega, by show (ns ++ [nm]).length = (kids ++ [x]).length; omega⟩
 ·
  show St _ _ _ _ _ _ [_, _, AJ _ _ _ (kids ++ [x]).length _, AJ _ _ _ (ns ++ [nm]).length _, _, _, _, _]
  rw [hkl1, hnl1]
  exact hS.sp
 ·
  show Iz m dep (l.drop (p7 + 1)) (ns ++ [nm]) ((kids ++ [x]).map JX.v) _ = _
  rw [List.map_append]; exact hgo
theorem Tu (W0 : World) (hU : Lib.Utf8Tabs 0 1 W0) (br : Nat) (q : Option Addr) (c : Nat) (l : List UInt8) (ht : EB W0 q c l) (hb : W0.heap.size ≤ br) : ∀ n, Wf W0 br q c l n := by
 intro n
 induction n using Nat.strongRecOn with
 | ind n ih =>
   cases n with
   | zero => intro dep p w0 _ hp hN; omega
   | succ N =>
     exact Tp W0 hU br q c l ht hb N
      (fun dep p w0 hd hp hN h ho => Tl W0 br q c l ht hb N (fun n hn => ih n (by omega)) dep p hd hp hN w0 h ho)
      (fun dep p w0 hd hp hN h ho => Q8 W0 hU br q c l ht hb N (fun n hn => ih n (by omega)) dep p hd hp hN w0 h ho)
end Go.Proofs.YtlccmgeclhdegaaGreatDoor
