/- FrontRequests: for every argument the law returns true, and each argument reads afterwards as it read before. No conditions. (text 1 of 6) -/
import Derived.WalkKit
import Derived.OrdersHeld
import Derived.Lib.Hide
import Derived.Laws.OwnMore
import Derived.Maps.RangeRun
import Derived.RangeFuncRecord
import Derived.Conc.MuLone
import Derived.Defers
import Derived.Test.YtlccmgeclhdegaaGreatDoorRows
import Derived.Lib.Case
import Derived.Lib.MapU
import Derived.Lib.Split
import Derived.Lib.ValidLaws
import Derived.WalkSmall
import Derived.RangeFuncOne
import Derived.RangeFuncLeaves
set_option maxRecDepth 100000
set_option maxHeartbeats 16000000
namespace Go.Proofs.YtlccmgeclhdegaaGreatDoor
open Go.RowKit
section
theorem EV {a b : Nat} (h : a ≠ b) : Nat.beq a b = false := by
 cases h' : Nat.beq a b
 · rfl
 · exact absurd (Nat.eq_of_beq_eq_true h') h
theorem Ky {a b : Nat} (h : Nat.beq a b = false) : a ≠ b := Nat.ne_of_beq_eq_false h
def lk : List (Nat × Value) → Nat → Option Value
 | [], _ => none
 | (t, v) :: L, s => bif Nat.beq t s then some v else lk L s
def ev (L : List (Nat × Value)) : Operand → Option Value
 | .tmp t => lk L t
 | .const v => some v
 | .global g => some (.pointer (some ⟨g, 0, none⟩))
 | .func f => some (.func (.func f) #[] #[])
inductive FR (L : List (Nat × Value)) : List Operand → List Value → Prop
 | nil : FR L [] []
 | cons {x : Operand} {xs : List Operand} {v : Value} {vs : List Value} (h : ev L x = some v) (t : FR L xs vs) : FR L (x :: xs) (v :: vs)
structure NN where
 n : Nat
 D : List Deferred
instance {k : Nat} : OfNat NN k := ⟨⟨k, []⟩⟩
structure Sl (n : NN) (a : Act) (L : List (Nat × Value)) : Prop where
 size : a.tmps.size = n.n
 defers : a.defers = n.D
 get : ∀ t v, lk L t = some v → a.tmps.getD t undef = v
theorem Sl.ev {n : NN} {a : Act} {L : List (Nat × Value)} (h : Sl n a L) {x : Operand} {v : Value} (hx : ev L x = some v) : a.eval x = v := by
 cases x with
 | tmp t => exact h.get t v hx
 | const u => simpa [Go.Proofs.YtlccmgeclhdegaaGreatDoor.ev, Act.eval] using hx
 | global g => simpa [Go.Proofs.YtlccmgeclhdegaaGreatDoor.ev, Act.eval] using hx
 | func f => simpa [Go.Proofs.YtlccmgeclhdegaaGreatDoor.ev, Act.eval] using hx
theorem Sl.evs {n : NN} {a : Act} {L : List (Nat × Value)} (h : Sl n a L) {xs : List Operand} {vs : List Value} (hx : FR L xs vs) : xs.toArray.map a.eval = vs.toArray := by
 have : xs.map a.eval = vs := by
  induction hx with
  | nil => rfl
  | cons h1 _ ih => simp only [List.map_cons, ih, h.ev h1]
 simp [this]
theorem Sl.put {n : NN} {a : Act} {L : List (Nat × Value)} (h : Sl n a L) {d : Nat} (hd : Nat.blt d n.n = true) (v : Value) : Sl n (a.put (some d) v) ((d, v) :: L) := by
 have hlt : d < n.n := by simpa using hd
 refine ⟨by simp [Act.put, h.size], h.defers, ?_⟩
 intro t u ht
 simp only [lk] at ht
 by_cases e : d = t
 · subst e
   have : Nat.beq d d = true := by simp
   rw [this] at ht; simp at ht; subst ht
   simp [Act.put, Array.getD, h.size, hlt]
 · have : Nat.beq d t = false := EV e
   rw [this] at ht
   have h2 := h.get t u (by simpa using ht)
   rw [← h2]
   simp only [Act.put, Array.getD_eq_getD_getElem?, Array.getElem?_setIfInBounds_ne e]
def Nl (L : List (Nat × Value)) : List (Nat × Value) → Prop
 | [] => True
 | (t, v) :: r => lk L t = some v ∧ Nl L r
theorem Nl.get {L L' : List (Nat × Value)} (h : Nl L L') : ∀ t v, lk L' t = some v → lk L t = some v := by
 induction L' with
 | nil => intro t v ht; simp [lk] at ht
 | cons p r ih =>
   obtain ⟨s, u⟩ := p
   obtain ⟨h1, h2⟩ := h
   intro t v ht
   simp only [lk] at ht
   by_cases e : s = t
   · subst e
     have : Nat.beq s s = true := by simp
     rw [this] at ht; simp at ht; subst ht; exact h1
   · have : Nat.beq s t = false := EV e
     rw [this] at ht
     exact ih h2 t v (by simpa using ht)
theorem Sl.know {n : NN} {a : Act} {L : List (Nat × Value)} (h : Sl n a L) {t : Nat} {v : Value} (hl : lk L t = some v) : Sl n a ((t, v) :: L) := by
 refine ⟨h.size, h.defers, ?_⟩
 intro s u hs
 simp only [lk] at hs
 by_cases e : t = s
 · subst e
   have : Nat.beq t t = true := by simp
   rw [this] at hs; simp at hs; subst hs; exact h.get _ _ hl
 · have : Nat.beq t s = false := EV e
   rw [this] at hs
   exact h.get _ _ (by simpa using hs)
theorem Sl.sub {n : NN} {a : Act} {L L' : List (Nat × Value)} (h : Sl n a L) (hs : Nl L L') : Sl n a L' :=
 ⟨h.size, h.defers, fun t v ht => h.get t v (hs.get t v ht)⟩
def MC (l : List Value) : List (Nat × Value) → Prop
 | [] => True
 | (t, v) :: r => l[t]? = some v ∧ MC l r
theorem Sl.start {l : List Value} {L : List (Nat × Value)} {n m : Nat} (hA : MC l L) (hn : l.length + m = n) : Sl ⟨n, []⟩ ⟨l.toArray ++ Array.replicate m undef, []⟩ L := by
 refine ⟨by simp [hn], rfl, ?_⟩
 induction L with
 | nil => intro t v ht; simp [lk] at ht
 | cons p r ih =>
   obtain ⟨s, u⟩ := p
   obtain ⟨h1, h2⟩ := hA
   intro t v ht
   simp only [lk] at ht
   by_cases e : s = t
   · subst e
     have : Nat.beq s s = true := by simp
     rw [this] at ht; simp at ht; subst ht
     have hlt := (List.getElem?_eq_some_iff.1 h1).1
     simp only [Array.getD]
     rw [dif_pos (by simp; omega)]
     simp only [Array.getInternal_eq_getElem]
     rw [Array.getElem_append_left (by simpa using hlt)]
     simpa using (List.getElem?_eq_some_iff.1 h1).2
   · have : Nat.beq s t = false := EV e
     rw [this] at ht
     exact ih h2 t v (by simpa using ht)
structure Bd (F : Nat → Prop) (w w' : World) : Prop where
 os : w'.os = w.os
 tape : w'.tape = w.tape
 output : w'.output = w.output
 size : w.heap.size ≤ w'.heap.size
 block : ∀ k, k < w.heap.size → ¬ F k → w'.heap[k]? = w.heap[k]?
def Ai : Nat → Prop := fun _ => False
theorem Bd.refl (F : Nat → Prop) (w : World) : Bd F w w := ⟨rfl, rfl, rfl, Nat.le_refl _, fun _ _ _ => rfl⟩
theorem Bd.trans {F F' : Nat → Prop} {a b c : World} (h : Bd F a b) (k : Bd F' b c) (hF : ∀ i, F' i → i < a.heap.size → F i) : Bd F a c :=
 ⟨k.os.trans h.os, k.tape.trans h.tape, k.output.trans h.output, Nat.le_trans h.size k.size,
  fun i hi hn => (k.block i (Nat.lt_of_lt_of_le hi h.size) (fun hf => hn (hF i hf hi))).trans (h.block i hi hn)⟩
theorem Bd.ext {F : Nat → Prop} {a b c : World} (h : Bd F a b) (k : Bd Ai b c) : Bd F a c := h.trans k (fun _ hf => hf.elim)
theorem Bd.mono {F F' : Nat → Prop} {a b : World} (h : Bd F a b) (hF : ∀ i, F i → F' i) : Bd F' a b :=
 ⟨h.os, h.tape, h.output, h.size, fun i hi hn => h.block i hi (fun hf => hn (hF i hf))⟩
theorem Bd.below {a b : World} (h : Bd Ai a b) : Below a.heap.size a b := ⟨h.os, h.tape, h.output, h.size, fun k hk => h.block k hk (fun hf => hf)⟩
theorem Bd.of_below {a b : World} (h : Below a.heap.size a b) : Bd Ai a b := ⟨h.os, h.tape, h.output, h.size, fun k hk _ => h.block k hk⟩
theorem Bd.drew (F : Nat → Prop) (w : World) : Bd F w w.drew := ⟨rfl, rfl, rfl, Nat.le_refl _, fun _ _ _ => rfl⟩
theorem Bd.alloc (F : Nat → Prop) (w : World) (o : Obj) : Bd F w (w.alloc o) :=
 ⟨rfl, rfl, rfl, by simp, fun k hk _ => Below.heap_alloc w o k hk⟩
theorem Bd.setCell (w : World) (a : Addr) (v : Value) : Bd (fun k => k = a.block) w (w.setCell a v) :=
 ⟨rfl, rfl, rfl, by simp, fun k _ hn => Below.heap_setCell w a v k hn⟩
inductive AT where
 | blk (b : Nat) (cs : List Value) (E : TypeId)
 | any (F : Nat → Prop) (φ : World → Prop) (mine : Bool)
 | mp (b : Nat) (es : List MapEntry) (clock : Nat)
def AT.F : AT → Nat → Prop
 | .blk b _ _, k => k = b
 | .any F _ _, k => F k
 | .mp b _ _, k => k = b
def AT.φ : AT → World → Prop
 | .blk b cs E, w => w.heap[b]? = some (.cells cs.toArray E (0, 0))
 | .any _ φ _, w => φ w
 | .mp b es c, w => w.heap[b]? = some (.map es.toArray c)
def AT.mine : AT → Bool
 | .blk _ _ _ => true
 | .any _ _ m => m
 | .mp _ _ _ => true
structure AT.ok (X : AT) (w : World) : Prop where
 lt : ∀ b, X.F b → b < w.heap.size
 hold : ∀ w', (∀ b, X.F b → w'.heap[b]? = w.heap[b]?) → X.φ w'
theorem AT.ok.now {X : AT} {w : World} (h : X.ok w) : X.φ w := h.hold w fun _ _ => rfl
theorem AT.ok.keep {X : AT} {w w' : World} {F : Nat → Prop} (h : X.ok w) (hc : Bd F w w') (hd : ∀ b, X.F b → ¬ F b) : X.ok w' :=
 ⟨fun b hb => Nat.lt_of_lt_of_le (h.lt b hb) hc.size, fun w2 h2 => h.hold w2 fun b hb => (h2 b hb).trans (hc.block b (h.lt b hb) (hd b hb))⟩
theorem BE {w : World} {b : Nat} {cs : List Value} {E : TypeId} (h : w.heap[b]? = some (.cells cs.toArray E (0, 0))) : (AT.blk b cs E).ok w := by
 refine ⟨fun k hk => ?_, fun w' hw => ?_⟩
 · obtain rfl : k = b := hk
   exact (Array.getElem?_eq_some_iff.1 h).1
 · show w'.heap[b]? = _
   rw [hw b rfl]; exact h
structure St (n : NN) (F0 : Nat → Prop) (w0 : World) (a : Act) (w : World) (L : List (Nat × Value)) (Γ : List AT) : Prop where
 sl : Sl n a L
 chg : Bd F0 w0 w
 ok : ∀ X ∈ Γ, X.ok w
 dis : Γ.Pairwise (fun X Y => ∀ b, X.F b → ¬ Y.F b)
 mine : ∀ X ∈ Γ, X.mine = true → ∀ b, X.F b → w0.heap.size ≤ b ∨ F0 b
section
variable {n : NN} {F0 : Nat → Prop} {w0 : World} {a : Act} {w : World} {L : List (Nat × Value)} {Γ : List AT} {X : AT}
theorem St.put (h : St n F0 w0 a w L Γ) {d : Nat} (hd : Nat.blt d n.n = true) (v : Value) : St n F0 w0 (a.put (some d) v) w ((d, v) :: L) Γ :=
 ⟨h.sl.put hd v, h.chg, h.ok, h.dis, h.mine⟩
theorem St.act (h : St n F0 w0 a w L Γ) {a' : Act} {L' : List (Nat × Value)} (hs : Sl n a' L') : St n F0 w0 a' w L' Γ :=
 ⟨hs, h.chg, h.ok, h.dis, h.mine⟩
theorem St.slots (h : St n F0 w0 a w L Γ) {L' : List (Nat × Value)} (hs : Nl L L') : St n F0 w0 a w L' Γ := h.act (h.sl.sub hs)
theorem St.ext (h : St n F0 w0 a w L Γ) {w' : World} (hc : Bd Ai w w') : St n F0 w0 a w' L Γ :=
 ⟨h.sl, h.chg.ext hc, fun X hX => (h.ok X hX).keep hc (fun _ _ hf => hf), h.dis, h.mine⟩
theorem St.fresh (h : St n F0 w0 a w L Γ) {w' : World} (hc : Bd Ai w w') {Y : AT} (hY : Y.ok w') (hnew : ∀ b, Y.F b → w.heap.size ≤ b) : St n F0 w0 a w' L (Y :: Γ) := by
 have h' := h.ext hc
 refine ⟨h'.sl, h'.chg, ?_, ?_, ?_⟩
 · intro X hX
   rcases List.mem_cons.1 hX with rfl | hX
   · exact hY
   · exact h'.ok X hX
 · refine List.pairwise_cons.2 ⟨fun X hX b hb hb' => ?_, h.dis⟩
   have h1 := hnew b hb
   have h2 := (h.ok X hX).lt b hb'
   omega
 · intro X hX hm b hb
   rcases List.mem_cons.1 hX with rfl | hX
   · exact .inl (Nat.le_trans h.chg.size (hnew b hb))
   · exact h.mine X hX hm b hb
theorem St.get (h : St n F0 w0 a w L Γ) {X : AT} (hX : X ∈ Γ) : X.φ w := (h.ok X hX).now
inductive DY (X Y : AT) : List AT → List AT → Prop
 | head {Γ : List AT} : DY X Y (X :: Γ) (Y :: Γ)
 | tail {Z : AT} {Γ Γ' : List AT} (h : DY X Y Γ Γ') : DY X Y (Z :: Γ) (Z :: Γ')
theorem DY.mem {X Y : AT} {Γ Γ' : List AT} (h : DY X Y Γ Γ') : X ∈ Γ := by
 induction h with
 | head => exact .head _
 | tail _ ih => exact .tail _ ih
theorem DY.new {X Y : AT} {Γ Γ' : List AT} (h : DY X Y Γ Γ') : ∀ Z ∈ Γ', Z = Y ∨ Z ∈ Γ := by
 induction h with
 | head => intro Z hZ; rcases List.mem_cons.1 hZ with rfl | hZ; exact .inl rfl; exact .inr (.tail _ hZ)
 | tail _ ih => intro Z hZ; rcases List.mem_cons.1 hZ with rfl | hZ; exact .inr (.head _); exact (ih Z hZ).imp id (.tail _)
theorem DY.apart {X Y : AT} {Γ Γ' : List AT} (h : DY X Y Γ Γ') {w w' : World} (hok : ∀ Z ∈ Γ, Z.ok w) (hd : Γ.Pairwise (fun X Y => ∀ b, X.F b → ¬ Y.F b))
 (hc : Bd X.F w w') (hY : Y.ok w') (hF : ∀ b, Y.F b → X.F b ∨ w.heap.size ≤ b) :
 (∀ Z ∈ Γ', Z.ok w') ∧ Γ'.Pairwise (fun X Y => ∀ b, X.F b → ¬ Y.F b) := by
 induction h with
 | @head Γ =>
   have hd' := List.pairwise_cons.1 hd
   refine ⟨fun Z hZ => ?_, List.pairwise_cons.2 ⟨fun Z hZ b hb hb' => ?_, hd'.2⟩⟩
   · rcases List.mem_cons.1 hZ with rfl | hZ
     · exact hY
     · exact (hok Z (.tail _ hZ)).keep hc (fun b hb hx => hd'.1 Z hZ b hx hb)
   · rcases hF b hb with h1 | h1
     · exact hd'.1 Z hZ b h1 hb'
     · have := (hok Z (.tail _ hZ)).lt b hb'; omega
 | @tail V Γ Γ' hr ih =>
   have hd' := List.pairwise_cons.1 hd
   obtain ⟨h1, h2⟩ := ih (fun Z hZ => hok Z (.tail _ hZ)) hd'.2
   have hVX := hd'.1 X hr.mem
   refine ⟨fun Z hZ => ?_, List.pairwise_cons.2 ⟨fun Z hZ b hb hb' => ?_, h2⟩⟩
   · rcases List.mem_cons.1 hZ with rfl | hZ
     · exact (hok _ (.head _)).keep hc hVX
     · exact h1 Z hZ
   · rcases hr.new Z hZ with rfl | hZ
     · rcases hF b hb' with h3 | h3
       · exact hVX b hb h3
       · have := (hok V (.head _)).lt b hb; omega
     · exact hd'.1 Z hZ b hb hb'
theorem St.upd (h : St n F0 w0 a w L Γ) {w' : World} {X Y : AT} {Γ' : List AT} (hr : DY X Y Γ Γ') (hc : Bd X.F w w') (hY : Y.ok w')
 (hF : ∀ b, Y.F b → X.F b ∨ w.heap.size ≤ b) (hm : X.mine = true) : St n F0 w0 a w' L Γ' := by
 obtain ⟨h1, h2⟩ := hr.apart h.ok h.dis hc hY hF
 refine ⟨h.sl, h.chg.trans hc (fun i hi hlt => ?_), h1, h2, ?_⟩
 · rcases h.mine X hr.mem hm i hi with h3 | h3
   · omega
   · exact h3
 · intro Z hZ hmz b hb
   rcases hr.new Z hZ with rfl | hZ
   · rcases hF b hb with h3 | h3
     · exact h.mine X hr.mem hm b h3
     · exact .inl (Nat.le_trans h.chg.size h3)
   · exact h.mine Z hZ hmz b hb
theorem St.join (h : St n F0 w0 a w L (X :: Γ)) {Y Z : AT} {Γ' : List AT} (hr : DY Y Z Γ Γ') (hZ : Z.ok w) (hF : ∀ b, Z.F b → X.F b ∨ Y.F b) (hm : Z.mine = true → X.mine = true ∧ Y.mine = true) : St n F0 w0 a w L Γ' := by
 have hd := List.pairwise_cons.1 h.dis
 refine ⟨h.sl, h.chg, ?_, ?_, ?_⟩
 · intro V hV
   rcases hr.new V hV with rfl | hV
   · exact hZ
   · exact h.ok V (.tail _ hV)
 · have key : ∀ {Γ Γ' : List AT}, DY Y Z Γ Γ' → Γ.Pairwise (fun X Y => ∀ b, X.F b → ¬ Y.F b) → (∀ V ∈ Γ, ∀ b, X.F b → ¬ V.F b) → Γ'.Pairwise (fun X Y => ∀ b, X.F b → ¬ Y.F b) := by
    intro Γ Γ' hr
    induction hr with
    | head =>
      intro hp hx
      have hp' := List.pairwise_cons.1 hp
      refine List.pairwise_cons.2 ⟨fun V hV b hb hb' => ?_, hp'.2⟩
      rcases hF b hb with h1 | h1
      · exact hx V (.tail _ hV) b h1 hb'
      · exact hp'.1 V hV b h1 hb'
    | @tail U Γ Γ' hr ih =>
      intro hp hx
      have hp' := List.pairwise_cons.1 hp
      refine List.pairwise_cons.2 ⟨fun V hV b hb hb' => ?_, ih hp'.2 (fun V hV => hx V (.tail _ hV))⟩
      rcases hr.new V hV with rfl | hV
      · rcases hF b hb' with h1 | h1
        · exact hx U (.head _) b h1 hb
        · exact hp'.1 Y hr.mem b hb h1
      · exact hp'.1 V hV b hb hb'
   exact key hr hd.2 (fun V hV => hd.1 V hV)
 · intro V hV hmV b hb
   rcases hr.new V hV with rfl | hV
   · obtain ⟨m1, m2⟩ := hm hmV
     rcases hF b hb with h1 | h1
     · exact h.mine X (.head _) m1 b h1
     · exact h.mine Y (.tail _ hr.mem) m2 b h1
   · exact h.mine V (.tail _ hV) hmV b hb
theorem St.perm (h : St n F0 w0 a w L Γ) {Γ' : List AT} (hs : List.Perm Γ' Γ) : St n F0 w0 a w L Γ' :=
 ⟨h.sl, h.chg, fun X hX => h.ok X (hs.subset hX), (hs.pairwise_iff (fun hXY b hb hb' => hXY b hb' hb)).2 h.dis, fun X hX => h.mine X (hs.subset hX)⟩
theorem St.drop (h : St n F0 w0 a w L Γ) {Γ' : List AT} (hs : List.Sublist Γ' Γ) : St n F0 w0 a w L Γ' :=
 ⟨h.sl, h.chg, fun X hX => h.ok X (hs.subset hX), h.dis.sublist hs, fun X hX => h.mine X (hs.subset hX)⟩
end
section
variable {P : Program} {Q : Exit → Act → World → Prop} {a : Act} {w : World}
theorem YA {x y : Code} (h : x.wp P (Exit.then (y.wp P Q) Q) a w) : (Code.seq x y).wp P Q a w := wp_seq h
theorem C1 {x y : Code} (J : Act → World → Prop) (h : x.wp P (Exit.then J Q) a w) (h2 : ∀ a w, J a w → y.wp P Q a w) : (Code.seq x y).wp P Q a w :=
 wp_seq (Go.wp_mono h fun e a w hq => by cases e <;> first | exact h2 _ _ hq | exact hq)
theorem SM {N : Act → World → Prop} (h : N a w) : Exit.then N Q .normal a w := h
theorem AH {N : Act → World → Prop} {i : Nat} (h : Q (.exit i) a w) : Exit.then N Q (.exit i) a w := h
theorem AC {N : Act → World → Prop} (h : Q .ret a w) : Exit.then N Q .ret a w := h
theorem Fo {i : Nat} (h : Q .normal a w) : Exit.inBlock i Q .normal a w := h
theorem AD {i : Nat} (h : Q .ret a w) : Exit.inBlock i Q .ret a w := h
theorem Aj {i : Nat} (h : Q .normal a w) : Exit.inBlock i Q (.exit i) a w := by simpa [Exit.inBlock] using h
theorem SN {i j : Nat} (hn : Nat.beq j i = false) (h : Q (.exit j) a w) : Exit.inBlock i Q (.exit j) a w := by
 have : j ≠ i := Ky hn
 simpa [Exit.inBlock, this] using h
theorem AW {γ : Type} {c : Code} (I : γ → Act → World → Prop) (μ : γ → Nat) (g0 : γ) (h0 : I g0 a w)
 (round : ∀ g a w, I g a w → c.wp P (Exit.then (fun a' w' => ∃ g', μ g' < μ g ∧ I g' a' w') Q) a w) : (Code.loop c).wp P Q a w := by
 have key : ∀ m g a w, μ g = m → I g a w → ∀ (b : Frame) (k : List Item) (cs : List Frame),
  ∃ e a' w', Q e a' w' ∧ Arrives P (lone (b.at a (.code c :: .inLoop c :: k)) cs w) b k cs e a' w' := by
  intro m
  induction m using Nat.strongRecOn with
  | _ m ih =>
    intro g a w hm hI b k cs
    obtain ⟨e, a1, w1, hq, harr⟩ := round g a w hI b (.inLoop c :: k) cs
    cases e with
    | normal =>
      obtain ⟨g', hlt, hI'⟩ := hq
      obtain ⟨e2, a2, w2, hq2, harr2⟩ := ih (μ g') (hm ▸ hlt) g' a1 w1 rfl hI' b k cs
      exact ⟨e2, a2, w2, hq2, .of_steps (Steps.trans harr (.one step_inLoop)) harr2⟩
    | exit id => exact ⟨_, a1, w1, hq, .pass (x := .inLoop c) rfl (fun _ _ => .inl (by simp)) harr⟩
    | goto l => exact ⟨_, a1, w1, hq, .pass (x := .inLoop c) rfl (fun _ _ => .inl (by simp)) harr⟩
    | ret => exact ⟨_, a1, w1, hq, .pass (x := .inLoop c) rfl (fun _ _ => .inl (by simp)) harr⟩
    | panic ch => exact ⟨_, a1, w1, hq, .pass (x := .inLoop c) rfl (fun _ _ => .inl (by simp)) harr⟩
    | outgrown => exact ⟨_, a1, w1, hq, .pass (x := .inLoop c) rfl (fun _ _ => .inl (by simp)) harr⟩
 intro b k cs
 obtain ⟨e, a', w', hq, harr⟩ := key _ g0 a w rfl h0 b k cs
 exact ⟨e, a', w', hq, .of_steps (.one step_loop) harr⟩
end
end
section
def BS (P : Program) (t : TypeId) : Option Nat := (P.info? t).map (·.size)
def Ev (P : Program) (t : TypeId) : Option Nat := (P.info? t).map (·.bytes)
def A3 (P : Program) (t : TypeId) : Option (List Value) := ((P.info? t).bind (·.zero)).map (·.cells.toList)
def O2 : TypeDesc → Bool
 | .struct _ | .array _ _ => false
 | _ => true
def Bf (P : Program) (t : TypeId) : Bool := match P.underlying t with | some d => O2 d | none => false
def Bm (P : Program) (t : TypeId) : Bool := match P.underlying t with | some (.struct _) => true | _ => false
def BD (P : Program) (t : TypeId) : Option TypeId := match P.underlying t with | some (.slice e) => some e | _ => none
def AK (P : Program) (s f : Nat) : Option Nat :=
 match P.underlying s with
 | some (.struct fs) => match fs[f]? with
   | some fd => match BS P fd.type with | some (_ + 1) => some fd.offset | _ => none
   | none => none
 | _ => none
def BU (P : Program) (t : TypeId) : Option (List (Nat × Nat)) :=
 match P.underlying t with
 | some (.struct fs) => fs.toList.mapM fun f => (BS P f.type).map fun s => (f.offset, s)
 | _ => none
def AA (P : Program) (f : FuncId) : Prop := ∀ (args : Array Value) (w : World), (callFunc f args).run P w = .ok (.enter f args) w
theorem Vj {P : Program} {f : FuncId} {fn : Func} (hf : P.funcs[f]? = some fn) (hname : (fn.name == "runtime.NumGoroutine") = false) (hb : fn.body.isNone = false) : AA P f := by
 intro args w
 simp only [callFunc, Sem.run_bind, run_program, Result.andThen_ok, hf, hname, hb, Bool.false_eq_true, if_false]
 rfl
def Y7 : List Value → Nat → Option Value
 | [], _ => none
 | v :: l, i => bif Nat.beq i 0 then some v else Y7 l (i - 1)
theorem Nm (l : List Value) (i : Nat) : Y7 l i = l[i]? := by
 induction l generalizing i with
 | nil => simp [Y7]
 | cons v l ih =>
   cases i with
   | zero => simp [Y7]
   | succ i => exact (ih i).trans (by simp)
inductive QR : List Value → Nat → Value → List Value → Prop
 | z {x v : Value} {xs : List Value} : QR (x :: xs) 0 v (v :: xs)
 | s {x v : Value} {xs ys : List Value} {k : Nat} (h : QR xs k v ys) : QR (x :: xs) (k + 1) v (x :: ys)
theorem QR.eq {l l' : List Value} {k : Nat} {v : Value} (h : QR l k v l') : l' = l.set k v ∧ k < l.length := by
 induction h with
 | z => simp
 | s _ ih => simp [ih.1, ih.2]
def Bl : Value → Bool
 | .agg _ | .tuple _ => false
 | _ => true
theorem Dm {v : Value} (h : Bl v = true) : v.oneCell' = true := by cases v <;> simp_all [Bl, Value.oneCell']
theorem EW {v : Value} (h : Bl v = true) : v.cells = #[v] := by cases v <;> simp_all [Bl, Value.cells]
theorem Bg {P : Program} {t : TypeId} {s : Nat} (h : BS P t = some s) (w : World) : (Go.sizeOf t).run P w = .ok s w := by
 unfold BS at h
 cases hi : P.info? t with
 | none => simp [hi] at h
 | some i => simp [hi] at h; simp [Go.sizeOf, typeInfo, hi, h]
theorem Kz {P : Program} {t : TypeId} (h : Bf P t = true) (w : World) : (isAgg t).run P w = .ok false w := by
 unfold Bf at h
 cases hi : P.underlying t with
 | none => simp [hi] at h
 | some d => simp [hi] at h; cases d <;> simp_all [isAgg, underlying, O2]
theorem K1 {P : Program} {t : TypeId} (h : Bm P t = true) (w : World) : (isAgg t).run P w = .ok true w := by
 unfold Bm at h
 cases hi : P.underlying t with
 | none => simp [hi] at h
 | some d => cases d <;> simp_all [isAgg, underlying]
theorem Ih {P : Program} {t : TypeId} {zs : List Value} (h : A3 P t = some zs) (w : World) : ∃ z, (zeroValue t).run P w = .ok z w ∧ z.cells = zs.toArray := by
 unfold A3 at h
 cases hi : P.info? t with
 | none => simp [hi] at h
 | some i =>
   cases hz : i.zero with
   | none => simp [hi, hz] at h
   | some z => simp [hi, hz] at h; exact ⟨z, by simp [zeroValue, typeInfo, hi, hz], by simp [← h]⟩
theorem BH (b k j : Nat) : (⟨b, k, none⟩ : Addr).add j = ⟨b, k + j, none⟩ := by
 unfold Addr.add; split <;> simp_all
theorem EC {P : Program} {t : TypeId} (ht : Bf P t = true) {w : World} {p : Addr} {v : Value} (h : w.cell? p = some v) : (loadVar t p).run P w = .ok v w := by
 simp [loadVar, Kz ht, h]
theorem ED {P : Program} {t : TypeId} (ht : Bm P t = true) {l : List Value} (hs : BS P t = some l.length) {w : World} {p : Addr}
 (h : ∀ j v, l[j]? = some v → w.cell? (p.add j) = some v) : (loadVar t p).run P w = .ok (.agg l.toArray) w := by
 have := run_loadCells_list (P := P) (w := w) p l h
 simp [loadVar, K1 ht, Bg hs, this]
theorem AR {w : World} {b k : Nat} {cs : List Value} {E : TypeId} {v : Value} (h : w.heap[b]? = some (.cells cs.toArray E (0, 0))) (hv : cs[k]? = some v) : w.cell? ⟨b, k, none⟩ = some v := by
 simp [World.cell?, h, hv]
theorem Ej {w : World} {b k : Nat} {cs : List Value} {E : TypeId} (h : w.heap[b]? = some (.cells cs.toArray E (0, 0))) : w.frozen? ⟨b, k, none⟩ = false := by
 simp [World.frozen?, h]
theorem EE {w : World} {b k : Nat} {cs : List Value} {E : TypeId} (h : w.heap[b]? = some (.cells cs.toArray E (0, 0))) (v : Value) :
 (w.setCell ⟨b, k, none⟩ v).heap[b]? = some (.cells (cs.set k v).toArray E (0, 0)) := by
 simp only [World.setCell, Array.getElem?_modify, h]
 simp
structure OW (P : Program) (o : Oper) (a : Act) (w : World) (K : Act → World → Prop) (Q : Exit → Act → World → Prop) : Prop where
 h : o.wp P a w K Q
section
variable {P : Program} {n : NN} {F0 : Nat → Prop} {w0 : World} {a : Act} {w : World} {L : List (Nat × Value)} {Γ : List AT}
variable {K : Act → World → Prop} {Q : Exit → Act → World → Prop} {d ty : Nat} {dst : Option Tmp} {pos : String} {af : Array Edge} {g : Option (Nat × Bool)}
def Hd (Γ : List AT) (w : World) : Prop := ∀ X ∈ Γ, X.φ w
theorem St.hd (h : St n F0 w0 a w L Γ) : Hd Γ w := fun _ hX => h.get hX
def Ex (P : Program) (n : NN) (a : Act) (L : List (Nat × Value)) (Γ : List AT) (o : Oper) (v : Value) : Prop :=
 Sl n a L → ∀ w, Hd Γ w → (execOp a.eval o).run P w = .ok (.value v) w
theorem FU {op : Op} {v : Value} (hS : St n F0 w0 a w L Γ) (he : Ex P n a L Γ ⟨some d, op, ty, pos, af, g⟩ v) (hn : Nat.blt d n.n = true)
 (h : ∀ a', St n F0 w0 a' w ((d, v) :: L) Γ → K a' w) : OW P ⟨some d, op, ty, pos, af, g⟩ a w K Q := by
 refine ⟨?_⟩
 unfold Oper.wp
 rw [he hS.sl w hS.hd]
 exact h _ (hS.put hn v)
theorem CJ {x : Operand} {v : Value} (hx : ev L x = some v) : Ex P n a L Γ ⟨dst, .move x, ty, pos, af, g⟩ v := fun hs w hh =>
 (by simp [execOp, hs.ev hx])
theorem Ak {x : Operand} {v : Value} (hx : ev L x = some v) : Ex P n a L Γ ⟨dst, .assign x, ty, pos, af, g⟩ v := fun hs w hh =>
 (by simp [execOp, hs.ev hx])
theorem SO {c x y : Operand} {v : Value} (hc : ev L c = some (.bool true)) (hx : ev L x = some v) : Ex P n a L Γ ⟨dst, .pick c x y, ty, pos, af, g⟩ v := fun hs w hh =>
 (by simp [execOp, hs.ev hc, hs.ev hx, asBool])
theorem SP {c x y : Operand} {v : Value} (hc : ev L c = some (.bool false)) (hx : ev L y = some v) : Ex P n a L Γ ⟨dst, .pick c x y, ty, pos, af, g⟩ v := fun hs w hh =>
 (by simp [execOp, hs.ev hc, hs.ev hx, asBool])
def Vk (op : BinOp) (k : IntKind) (x y : Int) : Option Value :=
 match op with
 | .add => some (.int k (k.wrap (x + y)))
 | .sub => some (.int k (k.wrap (x - y)))
 | .mul => some (.int k (k.wrap (x * y)))
 | .eql => some (.bool (decide (x = y)))
 | .neq => some (.bool (decide (x ≠ y)))
 | .lss => some (.bool (decide (x < y)))
 | .leq => some (.bool (decide (x ≤ y)))
 | .gtr => some (.bool (decide (y < x)))
 | .geq => some (.bool (decide (y ≤ x)))
 | _ => none
theorem SQ {op : BinOp} {k : IntKind} {x y : Int} {v : Value} (hv : Vk op k x y = some v) (t : TypeId) (p q : Operand) :
 ((do eqGuard op t p q (.int k x) (.int k y); binOp op t (.int k x) (.int k y)) : Sem Value).run P w = .ok v w := by
 cases op <;> simp [Vk] at hv <;> subst hv <;> simp [eqGuard, binOp, Op.intArith, Op.intCmp]
 · by_cases h : x = y <;> simp [h]
 · by_cases h : x = y <;> simp [h]
theorem SR {op : BinOp} {t t' : TypeId} {x y : Operand} {k : IntKind} {i j : Int} {v : Value} (hx : ev L x = some (.int k i)) (hy : ev L y = some (.int k j))
 (hv : Vk op k i j = some v) : Ex P n a L Γ ⟨dst, .binOp op t x y t', ty, pos, af, g⟩ v := fun hs w hh =>
 (by
   have := SQ (P := P) (w := w) hv t x y
   simp only [execOp, hs.ev hx, hs.ev hy, Sem.run_bind] at this ⊢
   rw [this]; rfl)
def eV (op : BinOp) (x y : Int) : Option Int :=
 match op with
 | .add => some (x + y)
 | .sub => some (x - y)
 | .mul => some (x * y)
 | _ => none
theorem SS {op : BinOp} {t t' : TypeId} {x y : Operand} {i j m : Int} (hx : ev L x = some (.int .i64 i)) (hy : ev L y = some (.int .i64 j))
 (hv : eV op i j = some m) (hm : -9223372036854775808 ≤ m ∧ m ≤ 9223372036854775807) : Ex P n a L Γ ⟨dst, .binOp op t x y t', ty, pos, af, g⟩ (.int .i64 m) := by
 have hw : IntKind.i64.wrap m = m := IntWalk.i64_in _ (by omega)
 refine SR hx hy (v := .int .i64 m) ?_
 cases op <;> simp [eV] at hv <;> subst hv <;> simp [Vk, hw]
theorem YB {t t' : TypeId} {x y : Operand} {k : IntKind} {i j : Int} (hx : ev L x = some (.int k i)) (hy : ev L y = some (.int k j))
 (hj : j ≠ 0) : Ex P n a L Γ ⟨dst, .binOp .rem t x y t', ty, pos, af, g⟩ (.int k (i.tmod j)) := fun hs w hh =>
 (by simp [execOp, hs.ev hx, hs.ev hy, eqGuard, binOp, Op.intDiv, hj])
theorem KC {t t' : TypeId} {x y : Operand} {k : IntKind} {i j : Int} (hx : ev L x = some (.int k i)) (hy : ev L y = some (.int k j))
 (hj : j ≠ 0) : Ex P n a L Γ ⟨dst, .binOp .quo t x y t', ty, pos, af, g⟩ (.int k (k.wrap (i.tdiv j))) := fun hs w hh =>
 (by simp [execOp, hs.ev hx, hs.ev hy, eqGuard, binOp, Op.intDiv, hj])
theorem Ii {t t' : TypeId} {x y : Operand} {k : IntKind} {i j : Int} (hx : ev L x = some (.int k i)) (hy : ev L y = some (.int k j))
 (hi : 0 ≤ i ∧ 0 < j) : Ex P n a L Γ ⟨dst, .binOp .rem t x y t', ty, pos, af, g⟩ (.int k (i % j)) := by
 rw [← Int.tmod_eq_emod_of_nonneg hi.1]; exact YB hx hy (by omega)
theorem Nn {t t' : TypeId} {x y : Operand} {i j : Int} (hx : ev L x = some (.int .i64 i)) (hy : ev L y = some (.int .i64 j))
 (hi : 0 ≤ i ∧ 0 < j ∧ i ≤ 9223372036854775807) : Ex P n a L Γ ⟨dst, .binOp .quo t x y t', ty, pos, af, g⟩ (.int .i64 (i / j)) := by
 have h1 : 0 ≤ i / j := Int.ediv_nonneg hi.1 (by omega)
 have h2 : i / j ≤ i := Int.ediv_le_self _ hi.1
 have hw : IntKind.i64.wrap (i / j) = i / j := IntWalk.i64_in _ (by omega)
 have h3 : IntKind.i64.wrap (i.tdiv j) = i / j := by rw [Int.tdiv_eq_ediv_of_nonneg hi.1, hw]
 have h4 := KC (P := P) (n := n) (a := a) (Γ := Γ) (dst := dst) (ty := ty) (pos := pos) (af := af) (g := g) (t := t) (t' := t') hx hy (by omega)
 rwa [h3] at h4
def eW (op : BinOp) (x y : ByteArray) : Option Value :=
 match op with
 | .eql => some (.bool (decide (x = y)))
 | .neq => some (.bool (decide (x ≠ y)))
 | _ => none
theorem KD (x y : ByteArray) : (x.toList == y.toList) = decide (x = y) := by
 rw [ByteArray.toList_eq, ByteArray.toList_eq]
 by_cases h : x = y
 · subst h; simp
 · have : x.data.toList ≠ y.data.toList := fun e => h (by cases x; cases y; simp_all)
   simp only [h, decide_false]
   exact beq_eq_false_iff_ne.2 this
theorem Y8 {op : BinOp} {t t' : TypeId} {x y : Operand} {i j : ByteArray} {v : Value} (hx : ev L x = some (.string i)) (hy : ev L y = some (.string j))
 (hv : eW op i j = some v) : Ex P n a L Γ ⟨dst, .binOp op t x y t', ty, pos, af, g⟩ v := fun hs w hh =>
 (by
   cases op <;> simp only [eW, Option.some.injEq, reduceCtorEq] at hv <;> subst hv <;> simp only [execOp, hs.ev hx, hs.ev hy, eqGuard, binOp, Op.stringOp, KD]
   · rfl
   · by_cases e : i = j <;> simp [e])
theorem Y9 {op : BinOp} {t t' : TypeId} {x y : Operand} {i j : Bool} (hx : ev L x = some (.bool i)) (hy : ev L y = some (.bool j))
 (hu : P.underlying t = some .bool) (ho : op = .eql) : Ex P n a L Γ ⟨dst, .binOp op t x y t', ty, pos, af, g⟩ (.bool (decide (i = j))) := fun hs w hh =>
 (by
   subst ho
   have := run_eql_bool (P := P) w t i j hu
   simp [execOp, hs.ev hx, hs.ev hy, eqGuard, this]
   cases i <;> cases j <;> rfl)
theorem YC {t t' : TypeId} {x : Operand} {p : Option Addr} (hx : ev L x = some (.pointer p)) (hu : P.underlying t = some (.pointer (P.pointee t)))
 : Ex P n a L Γ ⟨dst, .binOp .eql t x (.const (.pointer none)) t', ty, pos, af, g⟩ (.bool p.isNone) := fun hs w hh =>
 (by
   have := run_eql_pointer_nil (P := P) w t p hu
   have he : a.eval (.const (.pointer none)) = .pointer none := rfl
   simp [execOp, hs.ev hx, he, eqGuard, this])
theorem YD {t : TypeId} {x : Operand} {b : Bool} (hx : ev L x = some (.bool b)) : Ex P n a L Γ ⟨dst, .unOp .not t x, ty, pos, af, g⟩ (.bool (!b)) := fun hs w hh =>
 (by simp [execOp, hs.ev hx, Op.unary])
theorem YE {t : TypeId} {x : Operand} {k : IntKind} {i : Int} (hx : ev L x = some (.int k i)) : Ex P n a L Γ ⟨dst, .unOp .neg t x, ty, pos, af, g⟩ (.int k (k.wrap (0 - i))) := fun hs w hh =>
 (by simp [execOp, hs.ev hx, Op.unary, Op.intArith])
theorem GH {t t' : TypeId} {x : Operand} {k k' : IntKind} {i : Int} {D : TypeDesc} (hx : ev L x = some (.int k i)) (hD : P.underlying t = some D) (hu : P.underlying t' = some (.int k'))
 : Ex P n a L Γ ⟨dst, .convert t t' x, ty, pos, af, g⟩ (.int k' (k'.wrap i)) := fun hs w hh =>
 (by simp [execOp, hs.ev hx, convert, underlying, hD, hu, Conv.intToInt])
theorem Bh {x : Operand} {p : Addr} (hx : ev L x = some (.pointer (some p))) : Ex P n a L Γ ⟨dst, .nilCheck x, ty, pos, af, g⟩ (.pointer (some p)) := fun hs w hh =>
 (by simp [execOp, hs.ev hx])
theorem HV {x : Operand} {i : Nat} {l : List Value} {v : Value} (hx : ev L x = some (.tuple l.toArray)) (hv : Y7 l i = some v) : Ex P n a L Γ ⟨dst, .extract x i, ty, pos, af, g⟩ v := fun hs w hh =>
 (by rw [Nm] at hv; simp [execOp, hs.ev hx, Instr.extract, hv])
theorem CR {f : Fn} {fs xs : List Operand} {us vs : List Value} (hf : FR L fs us) (hx : FR L xs vs) : Ex P n a L Γ ⟨dst, .makeFunc f fs.toArray xs.toArray, ty, pos, af, g⟩ (.func f us.toArray vs.toArray) := fun hs w hh =>
 (by
   have h1 := hs.evs hx
   have h2 := hs.evs hf
   unfold execOp
   show ((do pure (.value (← Instr.makeFunc f (fs.toArray.map a.eval) (xs.toArray.map a.eval)))) : Sem Next).run P w = _
   rw [h1, h2]; rfl)
theorem YF {x : Operand} {ts : Array TypeId} {T E : TypeId} {p : Option Addr} {m c : Nat} (hx : ev L x = some (.slice p m c)) (ht : ts[0]? = some T) (hu : BD P T = some E) : Ex P n a L Γ ⟨dst, .call ⟨.builtin .len, #[x], ts⟩, ty, pos, af, g⟩ (.int .i64 (m : Int)) := fun hs w hh =>
 (by
   have hu' : P.underlying T = some (.slice E) := by
     unfold BD at hu; cases hi : P.underlying T with
     | none => simp [hi] at hu
     | some D => cases D <;> simp_all
   simp [execOp, resolve, invoke, builtin, Builtin.len_, hs.ev hx, ht, underlying, hu', goInt])
theorem ZA {x : Operand} {ts : Array TypeId} {T : TypeId} {s : ByteArray} (hx : ev L x = some (.string s)) (ht : ts[0]? = some T) (hu : P.underlying T = some .string) : Ex P n a L Γ ⟨dst, .call ⟨.builtin .len, #[x], ts⟩, ty, pos, af, g⟩ (.int .i64 (s.size : Int)) := fun hs w hh =>
 (by simp [execOp, resolve, invoke, builtin, Builtin.len_, hs.ev hx, ht, underlying, hu, goInt])
theorem C6 {s f b off : Nat} {x : Operand} (hx : ev L x = some (.pointer (some ⟨b, 0, none⟩))) (ho : AK P s f = some off) : Ex P n a L Γ ⟨dst, .fieldAddr s x f, ty, pos, af, g⟩ (.pointer (some ⟨b, off, none⟩)) := fun hs w hh =>
 (by
   unfold AK at ho
   cases hi : P.underlying s with
   | none => simp [hi] at ho
   | some D =>
     cases D <;> simp [hi] at ho
     rename_i fs
     cases hf : fs[f]? with
     | none => simp [hf] at ho
     | some fd =>
       simp [hf] at ho
       cases hz : BS P fd.type with
       | none => simp [hz] at ho
       | some m =>
         cases m with
         | zero => simp [hz] at ho
         | succ m =>
           simp [hz] at ho
           simp [execOp, hs.ev hx, Instr.fieldAt, underlying, hi, hf, Instr.sureAddr, fieldPlace, Bg hz, BH, ho])
theorem eX {s f b k off : Nat} {x : Operand} (hx : ev L x = some (.pointer (some ⟨b, k, none⟩))) (ho : AK P s f = some off) : Ex P n a L Γ ⟨dst, .fieldAddr s x f, ty, pos, af, g⟩ (.pointer (some ⟨b, k + off, none⟩)) := fun hs w hh =>
 (by
   unfold AK at ho
   cases hi : P.underlying s with
   | none => simp [hi] at ho
   | some D =>
     cases D <;> simp [hi] at ho
     rename_i fs
     cases hf : fs[f]? with
     | none => simp [hf] at ho
     | some fd =>
       simp [hf] at ho
       cases hz : BS P fd.type with
       | none => simp [hz] at ho
       | some m =>
         cases m with
         | zero => simp [hz] at ho
         | succ m =>
           simp [hz] at ho
           simp [execOp, hs.ev hx, Instr.fieldAt, underlying, hi, hf, Instr.sureAddr, fieldPlace, Bg hz, BH, ho])
theorem No {T b k : Nat} {x : Operand} {cs : List Value} {E : TypeId} {v : Value} (hx : ev L x = some (.pointer (some ⟨b, k, none⟩))) (hm : AT.blk b cs E ∈ Γ) (hT : Bf P T = true)
 (hv : Y7 cs k = some v) : Ex P n a L Γ ⟨dst, .load T x, ty, pos, af, g⟩ v := fun hs w hh =>
 (by
   rw [Nm] at hv
   have hc := AR (hh _ hm) hv
   simp [execOp, hs.ev hx, Instr.loadAt, Instr.sureAddr, EC hT hc])
theorem AI {T : Nat} {p : Addr} {x : Operand} {v : Value} (hx : ev L x = some (.pointer (some p))) (hT : Bf P T = true)
 (hc : ∀ w, Hd Γ w → w.cell? p = some v) : Ex P n a L Γ ⟨dst, .load T x, ty, pos, af, g⟩ v := fun hs w hh =>
 (by simp [execOp, hs.ev hx, Instr.loadAt, Instr.sureAddr, EC hT (hc w hh)])
theorem K2 {T b m : Nat} {x : Operand} {cs : List Value} {E : TypeId} (hx : ev L x = some (.pointer (some ⟨b, 0, none⟩))) (hm : AT.blk b cs E ∈ Γ) (hT : Bm P T = true) (hz : BS P T = some m)
 (hl : Nat.beq cs.length m = true) : Ex P n a L Γ ⟨dst, .load T x, ty, pos, af, g⟩ (.agg cs.toArray) := fun hs w hh =>
 (by
   obtain rfl := Nat.eq_of_beq_eq_true hl
   have hc := ED (P := P) hT hz (w := w) (p := ⟨b, 0, none⟩) (fun j v hj => by rw [BH, Nat.zero_add]; exact AR (hh _ hm) hj)
   simp [execOp, hs.ev hx, Instr.loadAt, Instr.sureAddr, hc])
theorem BV {T b k : Nat} {x : Operand} {l : List Value} (hx : ev L x = some (.pointer (some ⟨b, k, none⟩))) (hT : Bm P T = true)  (hz : BS P T = some l.length)
 (hc : ∀ w, Hd Γ w → ∀ j v, l[j]? = some v → w.cell? ⟨b, k + j, none⟩ = some v) : Ex P n a L Γ ⟨dst, .load T x, ty, pos, af, g⟩ (.agg l.toArray) := fun hs w hh =>
 (by
   have hc := ED (P := P) hT hz (w := w) (p := ⟨b, k, none⟩) (fun j v hj => by rw [BH]; exact hc w hh j v hj)
   simp [execOp, hs.ev hx, Instr.loadAt, Instr.sureAddr, hc])
theorem ST {o : Oper} {cs : List Value} {E : TypeId} (hS : St n F0 w0 a w L Γ)
 (he : (execOp a.eval o).run P w = .ok (.value (.pointer (some ⟨w.heap.size, 0, none⟩))) (w.alloc (.cells cs.toArray E))) (hd : o.dst = some d) (hn : Nat.blt d n.n = true)
 (h : ∀ a' w' b, St n F0 w0 a' w' ((d, .pointer (some ⟨b, 0, none⟩)) :: L) (.blk b cs E :: Γ) → K a' w') : OW P o a w K Q := by
 refine ⟨?_⟩
 unfold Oper.wp
 rw [he]
 show K (a.put o.dst _) _
 rw [hd]
 refine h _ _ w.heap.size ((hS.fresh (Bd.alloc _ _ _) (Y := .blk w.heap.size cs E) (BE ?_) ?_).put hn _)
 · show (w.heap.push _)[w.heap.size]? = _
   simp
 · intro b hb; obtain rfl : b = w.heap.size := hb; exact Nat.le_refl _
theorem Fp {E : TypeId} {zs : List Value} (hS : St n F0 w0 a w L Γ) (hz : A3 P E = some zs) (hn : Nat.blt d n.n = true)
 (h : ∀ a' w' b, St n F0 w0 a' w' ((d, .pointer (some ⟨b, 0, none⟩)) :: L) (.blk b zs E :: Γ) → K a' w') : OW P ⟨some d, .alloc E, ty, pos, af, g⟩ a w K Q :=
 ST hS (by
   obtain ⟨z, h1, h2⟩ := Ih hz w
   simp [execOp, Instr.alloc, h1, newVar, newRow, h2]) rfl hn h
theorem SU {E : TypeId} {x : Operand} {v : Value} (hS : St n F0 w0 a w L Γ) (hx : ev L x = some v) (h1 : Bl v = true) (hn : Nat.blt d n.n = true)
 (h : ∀ a' w' b, St n F0 w0 a' w' ((d, .pointer (some ⟨b, 0, none⟩)) :: L) (.blk b [v] E :: Γ) → K a' w') : OW P ⟨some d, .box E x, ty, pos, af, g⟩ a w K Q :=
 ST hS (by simp [execOp, Instr.box, hS.sl.ev hx, newVar, newRow, EW h1]) rfl hn h
theorem ZB {E : TypeId} {x : Operand} {l : List Value} (hS : St n F0 w0 a w L Γ) (hx : ev L x = some (.agg l.toArray)) (hn : Nat.blt d n.n = true)
 (h : ∀ a' w' b, St n F0 w0 a' w' ((d, .pointer (some ⟨b, 0, none⟩)) :: L) (.blk b l E :: Γ) → K a' w') : OW P ⟨some d, .box E x, ty, pos, af, g⟩ a w K Q :=
 ST hS (by simp [execOp, Instr.box, hS.sl.ev hx, newVar, newRow, Value.cells]) rfl hn h
theorem DS {T b k : Nat} {x y : Operand} {cs cs' : List Value} {E : TypeId} {v : Value} {Γ' : List AT} (hS : St n F0 w0 a w L Γ) (hx : ev L x = some (.pointer (some ⟨b, k, none⟩))) (hy : ev L y = some v) (h1 : Bl v = true)
 (hz : BS P T = some 1) (hr : DY (.blk b cs E) (.blk b cs' E) Γ Γ') (hu : QR cs k v cs') (h : ∀ w', St n F0 w0 a w' L Γ' → K a w') : OW P ⟨none, .store T x y, ty, pos, af, g⟩ a w K Q := by
 obtain ⟨rfl, hk⟩ := hu.eq
 have hb : w.heap[b]? = some (.cells cs.toArray E (0, 0)) := hS.get hr.mem
 have hc : ∃ u, cs[k]? = some u := ⟨cs[k], by simp [hk]⟩
 obtain ⟨u, hu⟩ := hc
 have hcell := AR hb hu
 have he : (execOp a.eval (⟨none, .store T x y, ty, pos, af, g⟩ : Oper)).run P w = .ok .skip (w.setCell ⟨b, k, none⟩ v) := by
  simp [execOp, hS.sl.ev hx, hS.sl.ev hy, Instr.storeAt, Instr.sureAddr, storeVar, EW h1, Bg hz, storeCells, BH, run_store _ _ _ _ _ (Dm h1), hcell, Ej hb]
 refine ⟨?_⟩
 unfold Oper.wp
 rw [he]
 refine h _ (hS.upd hr (Bd.setCell w ⟨b, k, none⟩ v) (BE (EE hb v)) (fun i hi => .inl hi) rfl)
theorem Ij {P : Program} {E : TypeId} {b : Nat} : ∀ (vs pre : List Value) (w : World) (old : List Value), w.heap[b]? = some (.cells (pre ++ old).toArray E (0, 0)) → old.length = vs.length → (∀ v ∈ vs, Bl v = true) →
 ∃ w', (storeCells ⟨b, 0, none⟩ vs pre.length).run P w = .ok () w' ∧ w'.heap[b]? = some (.cells (pre ++ vs).toArray E (0, 0)) ∧ Bd (fun k => k = b) w w' := by
 intro vs
 induction vs with
 | nil =>
   intro pre w old hb hl _
   have : old = [] := by simpa using hl
   subst this
   exact ⟨w, by simp [storeCells], hb, Bd.refl _ _⟩
 | cons v vs ih =>
   intro pre w old hb hl h1
   cases old with
   | nil => simp at hl
   | cons o old =>
     have hv := h1 v (by simp)
     have hcell : w.cell? ⟨b, pre.length, none⟩ = some o := AR hb (by simp)
     have hs := EE (k := pre.length) hb v
     have he : (pre ++ o :: old).set pre.length v = (pre ++ [v]) ++ old := by simp
     rw [he] at hs
     obtain ⟨w', h2, h3, h4⟩ := ih (pre ++ [v]) _ old hs (by simpa using hl) (fun u hu => h1 u (by simp [hu]))
     refine ⟨w', ?_, by simpa using h3, (Bd.setCell w ⟨b, pre.length, none⟩ v).trans h4 (fun i hi _ => hi)⟩
     simp only [List.length_append, List.length_cons, List.length_nil, Nat.zero_add] at h2
     simp [storeCells, BH, run_store _ _ _ _ _ (Dm hv), hcell, Ej hb, h2]
theorem Dn {T b m : Nat} {x y : Operand} {cs l : List Value} {E : TypeId} {Γ' : List AT} (hS : St n F0 w0 a w L Γ) (hx : ev L x = some (.pointer (some ⟨b, 0, none⟩))) (hy : ev L y = some (.agg l.toArray))
 (hz : BS P T = some m) (hr : DY (.blk b cs E) (.blk b l E) Γ Γ') (hl : Nat.beq cs.length m = true) (hl' : Nat.beq l.length m = true) (h1 : l.all Bl = true) (h : ∀ w', St n F0 w0 a w' L Γ' → K a w') : OW P ⟨none, .store T x y, ty, pos, af, g⟩ a w K Q := by
 have e1 := Nat.eq_of_beq_eq_true hl
 have e2 := Nat.eq_of_beq_eq_true hl'
 have hb : w.heap[b]? = some (.cells ([] ++ cs).toArray E (0, 0)) := hS.get hr.mem
 obtain ⟨w', h2, h3, h4⟩ := Ij (P := P) l [] w cs hb (by omega) (by simpa using h1)
 have he : (execOp a.eval (⟨none, .store T x y, ty, pos, af, g⟩ : Oper)).run P w = .ok .skip w' := by
  simp only [List.length_nil] at h2
  simp [execOp, hS.sl.ev hx, hS.sl.ev hy, Instr.storeAt, Instr.sureAddr, storeVar, Bg hz, Value.cells, e2, h2]
 refine ⟨?_⟩
 unfold Oper.wp
 rw [he]
 refine h _ (hS.upd hr h4 (BE (by simpa using h3)) (fun i hi => .inl hi) rfl)
theorem K3 {f : FuncId} {xs : List Operand} {vs : List Value} {ts : Array TypeId} {dst : Option Tmp} {R : Ending → World → Prop} (hS : St n F0 w0 a w L Γ) (hx : FR L xs vs) (hf : AA P f)
 (hc : Calls P f vs.toArray w R) (h : ∀ e w', R e w' → ∃ v, e = .returned v ∧ K (a.put dst v) w') : OW P ⟨dst, .call ⟨.value (.func f), xs.toArray, ts⟩, ty, pos, af, g⟩ a w K Q := by
 refine ⟨?_⟩
 unfold Oper.wp
 have he : (execOp a.eval (⟨dst, .call ⟨.value (.func f), xs.toArray, ts⟩, ty, pos, af, g⟩ : Oper)).run P w = .ok (.enter f vs.toArray) w := by
  rw [execOp_call_go]
  rw [hS.sl.evs hx]
  simpa using hf vs.toArray w
 rw [he]
 refine hc.mono fun e w' hR => ?_
 obtain ⟨v, rfl, hK⟩ := h e w' hR
 exact hK
theorem Vl {f : FuncId} {x : Operand} {cs : List Value} {xs : List Operand} {vs : List Value} {ts : Array TypeId} {dst : Option Tmp} {R : Ending → World → Prop} (hS : St n F0 w0 a w L Γ) (hv : ev L x = some (.func (.func f) #[] cs.toArray)) (hx : FR L xs vs) (hf : AA P f)
 (hc : Calls P f (vs ++ cs).toArray w R) (h : ∀ e w', R e w' → ∃ v, e = .returned v ∧ K (a.put dst v) w') : OW P ⟨dst, .call ⟨.value x, xs.toArray, ts⟩, ty, pos, af, g⟩ a w K Q := by
 refine ⟨?_⟩
 unfold Oper.wp
 have he : (execOp a.eval (⟨dst, .call ⟨.value x, xs.toArray, ts⟩, ty, pos, af, g⟩ : Oper)).run P w = .ok (.enter f (vs ++ cs).toArray) w := by
  have h1 := hS.sl.evs hx
  have h2 := hf (vs ++ cs).toArray w
  have e1 : (#[] ++ vs.toArray) ++ cs.toArray = (vs ++ cs).toArray := by simp
  have hr : (resolve a.eval ⟨.value x, xs.toArray, ts⟩ ty).run P w = .ok ⟨.fn (.func f) cs.toArray, #[] ++ vs.toArray⟩ w := by
   simp only [resolve, hS.sl.ev hv, h1, Deferred.ofValue]; rfl
  show ((resolve a.eval ⟨.value x, xs.toArray, ts⟩ ty) >>= fun d => invoke d.target d.args).run P w = _
  rw [Sem.run_bind, hr]
  show (callFunc f ((#[] ++ vs.toArray) ++ cs.toArray)).run P w = _
  rw [e1]; exact h2
 rw [he]
 refine hc.mono fun e w' hR => ?_
 obtain ⟨v, rfl, hK⟩ := h e w' hR
 exact hK
end
end
section
section
variable {P : Program} {n : NN} {F0 : Nat → Prop} {w0 : World} {a : Act} {w : World} {L : List (Nat × Value)} {Γ : List AT}
variable {K : Act → World → Prop} {Q : Exit → Act → World → Prop} {d ty : Nat} {dst : Option Tmp} {pos : String} {af : Array Edge} {g : Option (Nat × Bool)} {op : Op} {rest l : List Oper}
def CX : List Oper → Nat → Option Nat
 | [], _ => none
 | o :: r, i => bif Nat.beq i 0 then o.dst else CX r (i - 1)
theorem MD (l : List Oper) (i : Nat) : CX l i = (l[i]?).bind (·.dst) := by
 induction l generalizing i with
 | nil => simp [CX]
 | cons v l ih =>
   cases i with
   | zero => simp [CX]
   | succ i => exact (ih i).trans (by simp)
theorem Dc {j t : Nat} {b : Bool} (hs : Sl n a L) (hj : CX l j = some t) (hv : lk L t = some (.bool b)) : yielded l.toArray a.tmps j = some b := by
 rw [MD] at hj
 have h := hs.get _ _ hv
 unfold yielded
 have h1 : (l.toArray[j]?).bind (·.dst) = some t := by simpa using hj
 rw [h1]
 simp only [Option.bind_some]
 rw [Array.getD_eq_getD_getElem?] at h
 cases ht : a.tmps[t]? with
 | none => rw [ht] at h; simp [undef] at h
 | some v => rw [ht] at h; simp at h; subst h; rfl
theorem YG {ops : Array Oper} (h : Q .normal a w) : wpList P ops Q [] a w := h
theorem Aa {ops : Array Oper} (h : OW P ⟨dst, op, ty, pos, af, none⟩ a w (wpList P ops Q rest) Q) : wpList P ops Q (⟨dst, op, ty, pos, af, none⟩ :: rest) a w := by
 unfold wpList
 rw [if_pos (by simp [Region.wanted])]
 exact .inl h.h
theorem Vm {j t : Nat} {b : Bool} (hS : St n F0 w0 a w L Γ) (hj : CX l j = some t) (hv : lk L t = some (.bool b))
 (h : OW P ⟨dst, op, ty, pos, af, some (j, b)⟩ a w (wpList P l.toArray Q rest) Q) : wpList P l.toArray Q (⟨dst, op, ty, pos, af, some (j, b)⟩ :: rest) a w := by
 unfold wpList
 rw [if_pos (by simp [Region.wanted, Dc hS.sl hj hv])]
 exact .inl h.h
theorem SV {j t : Nat} (hS : St n F0 w0 a w L Γ) (hj : CX l j = some t) (hv : lk L t = some (.bool false)) (hn : Nat.blt d n.n = true)
 (h : ∀ a', St n F0 w0 a' w ((d, undef) :: L) Γ → wpList P l.toArray Q rest a' w) : wpList P l.toArray Q (⟨some d, op, ty, pos, af, some (j, true)⟩ :: rest) a w := by
 unfold wpList
 rw [if_neg (by simp [Region.wanted, Dc hS.sl hj hv])]
 exact h _ (hS.put hn _)
theorem SW {j t : Nat} (hS : St n F0 w0 a w L Γ) (hj : CX l j = some t) (hv : lk L t = some (.bool true)) (hn : Nat.blt d n.n = true)
 (h : ∀ a', St n F0 w0 a' w ((d, undef) :: L) Γ → wpList P l.toArray Q rest a' w) : wpList P l.toArray Q (⟨some d, op, ty, pos, af, some (j, false)⟩ :: rest) a w := by
 unfold wpList
 rw [if_neg (by simp [Region.wanted, Dc hS.sl hj hv])]
 exact h _ (hS.put hn _)
theorem F9 {j t : Nat} (hs : Sl n a L) (hj : CX l j = some t) (hv : lk L t = some undef) : yielded l.toArray a.tmps j = none := by
 rw [MD] at hj
 have h := hs.get _ _ hv
 unfold yielded
 have h1 : (l.toArray[j]?).bind (·.dst) = some t := by simpa using hj
 rw [h1]
 simp only [Option.bind_some]
 rw [Array.getD_eq_getD_getElem?] at h
 cases ht : a.tmps[t]? with
 | none => rfl
 | some v => rw [ht] at h; simp [undef] at h; subst h; rfl
theorem SX {j t : Nat} {b : Bool} (hS : St n F0 w0 a w L Γ) (hj : CX l j = some t) (hv : lk L t = some undef) (hn : Nat.blt d n.n = true)
 (h : ∀ a', St n F0 w0 a' w ((d, undef) :: L) Γ → wpList P l.toArray Q rest a' w) : wpList P l.toArray Q (⟨some d, op, ty, pos, af, some (j, b)⟩ :: rest) a w := by
 unfold wpList
 rw [if_neg (by simp [Region.wanted, F9 hS.sl hj hv])]
 exact h _ (hS.put hn _)
theorem St.is {t : Nat} {b c : Bool} (hS : St n F0 w0 a w L Γ) (hl : lk L t = some (.bool b)) (hb : b = c) : St n F0 w0 a w ((t, .bool c) :: L) Γ :=
 hS.act (hS.sl.know (by rw [hl, hb]))
theorem O3 {t : Nat} {b : Bool} {G : Prop} (hS : St n F0 w0 a w L Γ) (hl : lk L t = some (.bool b))
 (h1 : b = true → St n F0 w0 a w ((t, .bool true) :: L) Γ → G) (h2 : b = false → St n F0 w0 a w ((t, .bool false) :: L) Γ → G) : G := by
 cases hb : b
 · exact h2 hb (hS.is hl hb)
 · exact h1 hb (hS.is hl hb)
theorem ME {t : Nat} {p : Prop} [hp : Decidable p] {G : Prop} (hS : St n F0 w0 a w L Γ) (hl : lk L t = some (.bool (decide p)))
 (h1 : p → St n F0 w0 a w ((t, .bool true) :: L) Γ → G) (h2 : ¬ p → St n F0 w0 a w ((t, .bool false) :: L) Γ → G) : G :=
 O3 hS hl (fun h => h1 (of_decide_eq_true h)) (fun h => h2 (of_decide_eq_false h))
theorem MF {id : Nat} {l : List Oper} (h : wpList P l.toArray Q l a w) : (Code.region id l.toArray false).wp P Q a w := wp_region_lit h
theorem Np {c : Operand} {x y : Code} (hS : St n F0 w0 a w L Γ) (hc : ev L c = some (.bool true)) (h : x.wp P Q a w) : (Code.cond c x y).wp P Q a w := wp_cond_true (hS.sl.ev hc) h
theorem SY {c : Operand} {x y : Code} (hS : St n F0 w0 a w L Γ) (hc : ev L c = some (.bool false)) (h : y.wp P Q a w) : (Code.cond c x y).wp P Q a w := wp_cond_false (hS.sl.ev hc) h
theorem SZ {c : Operand} {x y : Code} {b : Bool} (hS : St n F0 w0 a w L Γ) (hc : ev L c = some (.bool b)) (h1 : b = true → x.wp P Q a w) (h2 : b = false → y.wp P Q a w) : (Code.cond c x y).wp P Q a w :=
 wp_cond_split (hS.sl.ev hc) h1 h2
theorem eY {c : Operand} {x y : Code} {p : Prop} [hp : Decidable p] (hS : St n F0 w0 a w L Γ) (hc : ev L c = some (.bool (decide p))) (h1 : p → x.wp P Q a w) (h2 : ¬ p → y.wp P Q a w) : (Code.cond c x y).wp P Q a w :=
 wp_cond_split (hS.sl.ev hc) (fun h => h1 (of_decide_eq_true h)) (fun h => h2 (of_decide_eq_false h))
theorem Bq {f : FuncId} {fn : Func} {c : Code} {args : List Value} {R : Ending → World → Prop} {m : Nat} (L : List (Nat × Value)) (Γ : List AT) (F0 : Nat → Prop) (hf : P.funcs[f]? = some fn) (hb : fn.body = some c) (hm : fn.ntmps = m)
 (hA : MC args L) (hn : Nat.ble args.length m = true) (ok : ∀ X ∈ Γ, X.ok w) (dis : Γ.Pairwise (fun X Y => ∀ b, X.F b → ¬ Y.F b)) (mine : ∀ X ∈ Γ, X.mine = true → ∀ b, X.F b → w.heap.size ≤ b ∨ F0 b)
 (h : ∀ a, St ⟨m, []⟩ F0 w a w L Γ → c.wp P (bodyPost P fn R) a w) : Calls P f args.toArray w R := by
 refine calls_of_wp hf hb (h _ ⟨?_, Bd.refl _ _, ok, dis, mine⟩)
 have hle : args.length ≤ m := Nat.le_of_ble_eq_true hn
 have := Sl.start (l := args) (L := L) (n := m) (m := m - args.length) hA (by omega)
 simpa [hm] using this
inductive K4 (P : Program) (L : List (Nat × Value)) (Γ : List AT) : ResultVar → Value → Prop
 | tmp {t : Nat} {v : Value} (h : lk L t = some v) : K4 P L Γ (.tmp t) v
 | cell {t T b : Nat} {cs : List Value} {E : TypeId} {v : Value} (h : lk L t = some (.pointer (some ⟨b, 0, none⟩))) (hm : AT.blk b cs E ∈ Γ) (hT : Bf P T = true) (hv : Y7 cs 0 = some v) : K4 P L Γ (.cell t T) v
 | cellA {t T b m : Nat} {cs : List Value} {E : TypeId} (h : lk L t = some (.pointer (some ⟨b, 0, none⟩))) (hm : AT.blk b cs E ∈ Γ) (hT : Bm P T = true) (hz : BS P T = some m) (hl : Nat.beq cs.length m = true) : K4 P L Γ (.cell t T) (.agg cs.toArray)
inductive GI (P : Program) (L : List (Nat × Value)) (Γ : List AT) : List ResultVar → List Value → Prop
 | nil : GI P L Γ [] []
 | cons {r : ResultVar} {rs : List ResultVar} {v : Value} {vs : List Value} (h : K4 P L Γ r v) (t : GI P L Γ rs vs) : GI P L Γ (r :: rs) (v :: vs)
def cX (a : Act) : ResultVar → Sem Value
 | .tmp t => pure (a.tmps.getD t undef)
 | .cell q t => do loadVar t (← asAddr (a.tmps.getD q undef))
theorem EX (fn : Func) (a : Act) : results fn a.tmps = (do
    let vs ← fn.results.mapM (cX a)
    pure (if h : vs.size = 1 then vs[0] else .tuple vs)) := by
 unfold results
 congr 1
theorem K4.run {r : ResultVar} {v : Value} (hS : St n F0 w0 a w L Γ) (h : K4 P L Γ r v) :
 (cX a r).run P w = .ok v w := by
 cases h with
 | tmp h => simp only [cX, hS.sl.get _ _ h]; rfl
 | cell h hm hT hv =>
   rw [Nm] at hv
   have hc := AR (hS.get hm) hv
   simp only [cX, hS.sl.get _ _ h, asAddr, Sem.run_bind, Sem.run_pure, Result.andThen_ok, EC hT hc]
 | cellA h hm hT hz hl =>
   obtain rfl := Nat.eq_of_beq_eq_true hl
   have hc := ED (P := P) hT hz (w := w) (p := ⟨_, 0, none⟩) (fun j v hj => by rw [BH, Nat.zero_add]; exact AR (hS.get hm) hj)
   simp only [cX, hS.sl.get _ _ h, asAddr, Sem.run_bind, Sem.run_pure, Result.andThen_ok, hc]
theorem GI.run {rs : List ResultVar} {vs : List Value} (hS : St n F0 w0 a w L Γ) (h : GI P L Γ rs vs) :
 (rs.mapM (cX a)).run P w = .ok vs w := by
 induction h with
 | nil => rfl
 | cons h _ ih =>
   simp only [List.mapM_cons, Sem.run_bind, K4.run hS h, Result.andThen_ok, ih, Sem.run_pure]
theorem DG {fn : Func} {R : Ending → World → Prop} {r : ResultVar} {v : Value} {m : Nat} (hS : St ⟨m, []⟩ F0 w0 a w L Γ) (hr : fn.results = #[r]) (hv : K4 P L Γ r v) (h : R (.returned v) w) : bodyPost P fn R .ret a w := by
 refine ⟨hS.sl.defers, v, ?_, h⟩
 have := GI.run hS (.cons hv .nil)
 rw [EX, hr, show (#[r] : Array ResultVar) = [r].toArray from rfl, List.mapM_toArray, Sem.run_bind, Sem.run_map, this]
 rfl
theorem Ik {fn : Func} {R : Ending → World → Prop} {rs : List ResultVar} {vs : List Value} {m : Nat} (hS : St ⟨m, []⟩ F0 w0 a w L Γ) (hr : fn.results = rs.toArray) (hv : GI P L Γ rs vs) (hne : Nat.beq vs.length 1 = false) (h : R (.returned (.tuple vs.toArray)) w) : bodyPost P fn R .ret a w := by
 refine ⟨hS.sl.defers, _, ?_, h⟩
 have h1 := GI.run hS hv
 have h2 : ¬ vs.toArray.size = 1 := by simpa using Ky hne
 rw [EX, hr, List.mapM_toArray, Sem.run_bind, Sem.run_map, h1]
 simp only [Result.andThen_ok, h2, dite_false]
 rfl
theorem CS {fn : Func} {R : Ending → World → Prop} (h : bodyPost P fn R .ret a w) : bodyPost P fn R .normal a w := h
def Ae (P : Program) (f : FuncId) (args : List Value) (w : World) (v : Value) : Prop := Calls P f args.toArray w fun e w' => e = .returned v ∧ Bd Ai w w'
def Bb {γ : Type} (P : Program) (f : FuncId) (args : List Value) (w : World) (V : γ → Value) (Y : γ → AT) : Prop :=
 Calls P f args.toArray w fun e w' => ∃ x, e = .returned (V x) ∧ Bd Ai w w' ∧ (Y x).ok w' ∧ ∀ b, (Y x).F b → w.heap.size ≤ b
def CV {γ : Type} (P : Program) (f : FuncId) (args : List Value) (w : World) (X : AT) (V : γ → Value) (Y : γ → AT) : Prop :=
 Calls P f args.toArray w fun e w' => ∃ x, e = .returned (V x) ∧ Bd X.F w w' ∧ (Y x).ok w' ∧ ∀ b, (Y x).F b → X.F b ∨ w.heap.size ≤ b
theorem K5 {f : FuncId} {xs : List Operand} {vs : List Value} {ts : Array TypeId} {v : Value} (hS : St n F0 w0 a w L Γ) (hx : FR L xs vs) (hf : AA P f) (hn : Nat.blt d n.n = true)
 (hc : Ae P f vs w v) (h : ∀ a' w', St n F0 w0 a' w' ((d, v) :: L) Γ → K a' w') : OW P ⟨some d, .call ⟨.value (.func f), xs.toArray, ts⟩, ty, pos, af, g⟩ a w K Q :=
 K3 hS hx hf hc fun _ _ ⟨he, hch⟩ => ⟨_, he, h _ _ ((hS.ext hch).put hn _)⟩
theorem EY {γ : Type} {V : γ → Value} {Y : γ → AT} {f : FuncId} {xs : List Operand} {vs : List Value} {ts : Array TypeId} (hS : St n F0 w0 a w L Γ) (hx : FR L xs vs) (hf : AA P f) (hn : Nat.blt d n.n = true)
 (hc : Bb P f vs w V Y) (h : ∀ x a' w', St n F0 w0 a' w' ((d, V x) :: L) (Y x :: Γ) → K a' w') : OW P ⟨some d, .call ⟨.value (.func f), xs.toArray, ts⟩, ty, pos, af, g⟩ a w K Q :=
 K3 hS hx hf hc fun _ _ ⟨x, he, hch, hY, hF⟩ => ⟨_, he, h x _ _ ((hS.fresh hch hY hF).put hn _)⟩
theorem K6 {γ : Type} {V : γ → Value} {X : AT} {Y : γ → AT} {Γ' : γ → List AT} {f : FuncId} {xs : List Operand} {vs : List Value} {ts : Array TypeId} (hS : St n F0 w0 a w L Γ) (hx : FR L xs vs) (hf : AA P f) (hn : Nat.blt d n.n = true)
 (hc : CV P f vs w X V Y) (hr : ∀ x, DY X (Y x) Γ (Γ' x)) (hm : X.mine = true) (h : ∀ x a' w', St n F0 w0 a' w' ((d, V x) :: L) (Γ' x) → K a' w') : OW P ⟨some d, .call ⟨.value (.func f), xs.toArray, ts⟩, ty, pos, af, g⟩ a w K Q :=
 K3 hS hx hf hc fun _ _ ⟨x, he, hch, hY, hF⟩ => ⟨_, he, h x _ _ ((hS.upd (hr x) hch hY hF hm).put hn _)⟩
theorem Cq {f : FuncId} {x : Operand} {cs : List Value} {xs : List Operand} {vs : List Value} {ts : Array TypeId} {v : Value} (hS : St n F0 w0 a w L Γ) (hv : ev L x = some (.func (.func f) #[] cs.toArray)) (hx : FR L xs vs) (hf : AA P f) (hn : Nat.blt d n.n = true)
 (hc : Ae P f (vs ++ cs) w v) (h : ∀ a' w', St n F0 w0 a' w' ((d, v) :: L) Γ → K a' w') : OW P ⟨some d, .call ⟨.value x, xs.toArray, ts⟩, ty, pos, af, g⟩ a w K Q :=
 Vl hS hv hx hf hc fun _ _ ⟨he, hch⟩ => ⟨_, he, h _ _ ((hS.ext hch).put hn _)⟩
def eZ (P : Program) (f : FuncId) (vs : List Value) (v : Value) : Prop := ∀ w, (callFunc f vs.toArray).run P w = .ok (.value v) w
theorem Sc {f : FuncId} {xs : List Operand} {vs : List Value} {ts : Array TypeId} {v : Value} (hx : FR L xs vs) (hf : eZ P f vs v) :
 Ex P n a L Γ ⟨dst, .call ⟨.value (.func f), xs.toArray, ts⟩, ty, pos, af, g⟩ v := fun hs w _ => by
 rw [execOp_call_go, hs.evs hx]
 simpa using hf w
def DB (P : Program) (ops : Array Oper) (Q : Exit → Act → World → Prop) (S : World → Prop) (Z : List Nat) : Nat → Array Bool → Act → World → Prop
 | 0, listed, a, w => Region.ready .any ops listed = [] ∧ Q .normal a w
 | fuel + 1, listed, a, w =>
   (Region.ready .any ops listed = [] → Q .normal a w) ∧
   ∀ i ∈ Region.ready .any ops listed, wpOp P ops Q i (fun a' w' => (S w → i ∈ Z ∨ S w') ∧ DB P ops Q S Z fuel (listed.setIfInBounds i true) a' w') a w
theorem Il {ops : Array Oper} {S : World → Prop} {Z : List Nat} : ∀ (fuel : Nat) (listed : Array Bool) (a : Act) (w : World), DB P ops Q S Z fuel listed a w → wpAny P .any ops Q fuel listed a w
 | 0, _, _, _, h => h
 | fuel + 1, _, _, _, h => ⟨h.1, fun i hi => wpOp_mono (fun a' w' h' => Il fuel _ a' w' h'.2) (h.2 i hi)⟩
def HW (ops : Array Oper) : Nat → Nat → Nat → Bool
 | 0, _, _ => false
 | f + 1, z, i => match ops[z]? with
   | none => false
   | some o => (o.after.any fun e => Region.binds .any e && e.on == i) || (o.after.any fun e => Region.binds .any e && HW ops f e.on i)
def O4 (ops : Array Oper) (Z : List Nat) (i : Nat) : Bool := Z.all fun z => HW ops ops.size z i
def Im (ops : Array Oper) (listed : Array Bool) : Prop := ∀ m o, ops[m]? = some o → listed.getD m false = true → ∀ e ∈ o.after, Region.binds .any e = true → listed.getD e.on false = true
def IK (ops : Array Oper) (listed : Array Bool) : Bool := (List.range ops.size).all fun m => !listed.getD m false || match ops[m]? with
 | some o => o.after.all fun e => !Region.binds .any e || listed.getD e.on false
 | none => true
theorem QS {ops : Array Oper} {listed : Array Bool} (h : IK ops listed = true) : Im ops listed := by
 intro m o hm hl e he hb
 have hlt := (Array.getElem?_eq_some_iff.1 hm).1
 have h1 := List.all_eq_true.1 h m (by simpa using hlt)
 rw [hl, hm] at h1
 simp only [Bool.not_true, Bool.false_or, Array.all_eq_true_iff_forall_mem] at h1
 have h2 := h1 e he
 rw [hb] at h2
 simpa using h2
theorem GA {l : Array Bool} {j m : Nat} (h : l.getD m false = true) : (l.setIfInBounds j true).getD m false = true := by
 by_cases e : j = m
 · subst e
   have hlt : j < l.size := by
    apply Classical.byContradiction; intro hn
    simp [Array.getD, hn] at h
   simp [Array.getD, hlt]
 · rw [getD_set_ne false e]; exact h
theorem Nq {ops : Array Oper} {listed : Array Bool} (h : Im ops listed) {j : Nat} (hj : j ∈ Region.ready .any ops listed) : Im ops (listed.setIfInBounds j true) := by
 intro m o hm hl e he hb
 obtain ⟨_, oj, hoj, hall⟩ := mem_ready.1 hj
 by_cases e1 : j = m
 · subst e1
   rw [hoj] at hm; cases hm
   exact GA (hall e he hb)
 · rw [getD_set_ne false e1] at hl
   exact GA (h m o hm hl e he hb)
theorem K7 {ops : Array Oper} {listed : Array Bool} (hc : Im ops listed) : ∀ (f z i : Nat) (o : Oper), ops[z]? = some o → (∀ e ∈ o.after, Region.binds .any e = true → listed.getD e.on false = true) → HW ops f z i = true → listed.getD i false = true := by
 intro f
 induction f with
 | zero => intro z i o _ _ h; simp [HW] at h
 | succ f ih =>
   intro z i o hz hall h
   simp only [HW, hz, Bool.or_eq_true, Array.any_eq_true', Bool.and_eq_true, beq_iff_eq] at h
   rcases h with ⟨e, he, hb, rfl⟩ | ⟨e, he, hb, hr⟩
   · exact hall e he hb
   · have h1 := hall e he hb
     cases ho : ops[e.on]? with
     | none => cases f <;> simp [HW, ho] at hr
     | some oe => exact ih e.on i oe ho (fun e' he' hb' => hc e.on oe ho h1 e' he' hb') hr
theorem QT {ops : Array Oper} {S : World → Prop} {Z : List Nat} {i : Nat} {oi : Oper} {v : Value} (hi : ops[i]? = some oi) (hsel : ∀ (j : Nat) (o : Oper) cs b, ops[j]? = some o → o.op ≠ .select cs b)
 (hQ : ∀ c a w, Q (.panic c) (a.put oi.dst v) w → Q (.panic c) a w) (hZ : O4 ops Z i = true) :
 ∀ (fuel : Nat) (listed : Array Bool) (a : Act) (w : World),
  (∀ j oj, ops[j]? = some oj → j ≠ i → listed.getD j true = false → (∀ e ∈ oj.after, Region.binds .any e = true → e.on ≠ i) → oi.apart ops oj = true) →
  Im ops listed → i ∈ Region.ready .any ops listed → YieldsIf P ops S oi v a → S w →
  DB P ops Q S Z fuel (listed.setIfInBounds i true) (a.put oi.dst v) w → DB P ops Q S Z (fuel + 1) listed a w := by
 intro fuel
 induction fuel with
 | zero =>
   intro listed a w _ _ hr hy hS H
   refine ⟨fun h => (by rw [h] at hr; cases hr), fun j hj => ?_⟩
   by_cases hji : j = i
   · subst hji; exact hy.wpOp hi hS ⟨fun h => .inr h, H⟩
   · have := ready_mono hj hji
     rw [H.1] at this
     cases this
 | succ fuel ih =>
   intro listed a w hfree hcl hr hy hS H
   refine ⟨fun h => (by rw [h] at hr; cases hr), fun j hj => ?_⟩
   by_cases hji : j = i
   · subst hji; exact hy.wpOp hi hS ⟨fun h => .inr h, H⟩
   · have h1 := H.2 j (ready_mono hj hji)
     obtain ⟨hjun, oj, hoj, hall⟩ := mem_ready.1 hj
     have hnot : ∀ e ∈ oj.after, Region.binds .any e = true → e.on ≠ i := fun e he hb heq => by
      have h1 := hall e he hb
      have h0 := (mem_ready.1 hr).1
      rw [heq] at h1
      rcases Nat.lt_or_ge i listed.size with h' | h'
      · simp [h'] at h0 h1; rw [h0] at h1; cases h1
      · simp [Array.getElem?_eq_none h'] at h1
     have hjZ : j ∉ Z := fun hz => by
      have h5 := List.all_eq_true.1 hZ j hz
      have h6 := K7 hcl _ _ _ _ hoj hall h5
      have h7 := (mem_ready.1 hr).1
      rcases Nat.lt_or_ge i listed.size with h' | h'
      · simp [h'] at h6 h7; rw [h6] at h7; cases h7
      · simp [Array.getElem?_eq_none h'] at h6
     have h2 := wpOp_putIf hoj (hfree j oj hoj hji hjun hnot) (fun cs b => hsel i oi cs b hi) (fun cs b => hsel j oj cs b hoj) hQ hy h1
     have hfree' : ∀ k ok, ops[k]? = some ok → k ≠ i → (listed.setIfInBounds j true).getD k true = false →
      (∀ e ∈ ok.after, Region.binds .any e = true → e.on ≠ i) → oi.apart ops ok = true := fun k ok hk hki hun hno => by
      refine hfree k ok hk hki ?_ hno
      by_cases hjk : j = k
      · subst hjk; exact hjun
      · rw [getD_set_ne true hjk] at hun; exact hun
     refine wpOp_mono (fun a' w' h3 => ⟨fun _ => .inr ((h3.2.1 hS).resolve_left hjZ), ih (listed.setIfInBounds j true) a' w' hfree' (Nq hcl hj) (ready_mono hr (Ne.symm hji)) h3.1 ((h3.2.1 hS).resolve_left hjZ) ?_⟩) h2
     rw [Array.setIfInBounds_comm _ _ hji]
     exact h3.2.2
theorem FE {ops : Array Oper} {S : World → Prop} {Z : List Nat} {i : Nat} {oi : Oper} {v : Value} (hi : ops[i]? = some oi) (hsel : ∀ (j : Nat) (o : Oper) cs b, ops[j]? = some o → o.op ≠ .select cs b)
 (hQ : ∀ c a w, Q (.panic c) (a.put oi.dst v) w → Q (.panic c) a w) :
 ∀ (fuel : Nat) (listed : Array Bool) (a : Act) (w : World),
  (∀ j oj, ops[j]? = some oj → j ≠ i → listed.getD j true = false → (∀ e ∈ oj.after, Region.binds .any e = true → e.on ≠ i) → oi.apart ops oj = true) →
  i ∈ Region.ready .any ops listed → Yields P ops oi v a →
  DB P ops Q S Z fuel (listed.setIfInBounds i true) (a.put oi.dst v) w → DB P ops Q S Z (fuel + 1) listed a w := by
 intro fuel
 induction fuel with
 | zero =>
   intro listed a w _ hr hy H
   refine ⟨fun h => (by rw [h] at hr; cases hr), fun j hj => ?_⟩
   by_cases hji : j = i
   · subst hji; exact hy.wpOp hi ⟨fun h => .inr h, H⟩
   · have := ready_mono hj hji
     rw [H.1] at this
     cases this
 | succ fuel ih =>
   intro listed a w hfree hr hy H
   refine ⟨fun h => (by rw [h] at hr; cases hr), fun j hj => ?_⟩
   by_cases hji : j = i
   · subst hji; exact hy.wpOp hi ⟨fun h => .inr h, H⟩
   · have h1 := H.2 j (ready_mono hj hji)
     obtain ⟨hjun, oj, hoj, hall⟩ := mem_ready.1 hj
     have hnot : ∀ e ∈ oj.after, Region.binds .any e = true → e.on ≠ i := fun e he hb heq => by
      have h1 := hall e he hb
      have h0 := (mem_ready.1 hr).1
      rw [heq] at h1
      rcases Nat.lt_or_ge i listed.size with h' | h'
      · simp [h'] at h0 h1; rw [h0] at h1; cases h1
      · simp [Array.getElem?_eq_none h'] at h1
     have h2 := wpOp_put hoj (hfree j oj hoj hji hjun hnot) (fun cs b => hsel i oi cs b hi) (fun cs b => hsel j oj cs b hoj) hQ hy h1
     have hfree' : ∀ k ok, ops[k]? = some ok → k ≠ i → (listed.setIfInBounds j true).getD k true = false →
      (∀ e ∈ ok.after, Region.binds .any e = true → e.on ≠ i) → oi.apart ops ok = true := fun k ok hk hki hun hno => by
      refine hfree k ok hk hki ?_ hno
      by_cases hjk : j = k
      · subst hjk; exact hjun
      · rw [getD_set_ne true hjk] at hun; exact hun
     refine wpOp_mono (fun a' w' h3 => ⟨h3.2.1, ih (listed.setIfInBounds j true) a' w' hfree' (ready_mono hr (Ne.symm hji)) h3.1 ?_⟩) h2
     rw [Array.setIfInBounds_comm _ _ hji]
     exact h3.2.2
theorem Sd {id : Nat} {l : List Oper} (Γs : List AT) (Z : List Nat) (hm : P.follows .mixedOrders = true) (hS : St n F0 w0 a w L Γ)
 (h : ∀ w', St n F0 w0 a w' L Γ → DB P l.toArray Q (Hd Γs) Z l.length (List.replicate l.length false).toArray a w') : (Code.region id l.toArray true).wp P Q a w := by
 refine wp_region_any hm (Il (S := Hd Γs) (Z := Z) _ _ _ _ ?_)
 have := h w.drew (hS.ext (Bd.drew _ _))
 simpa using this
theorem K8 {id : Nat} {l : List Oper} (Z : List Nat) (hm : P.follows .mixedOrders = true) (hS : St n F0 w0 a w L Γ)
 (h : ∀ w', St n F0 w0 a w' L Γ → DB P l.toArray Q (Hd Γ) Z l.length (List.replicate l.length false).toArray a w') : (Code.region id l.toArray true).wp P Q a w := Sd Γ Z hm hS h
theorem Ay {Γ : List AT} : ∀ Y ∈ ([] : List AT), Y ∈ Γ := fun _ h => by cases h
theorem AP {Γ Γs : List AT} {X : AT} (h : X ∈ Γ) (t : ∀ Y ∈ Γs, Y ∈ Γ) : ∀ Y ∈ X :: Γs, Y ∈ Γ := fun Y hY => by
 rcases List.mem_cons.1 hY with rfl | hY
 · exact h
 · exact t Y hY
theorem K9 {id : Nat} {l : List Oper} {Γs : List AT} (Z : List Nat) (hm : P.follows .mixedOrders = true) (hS : St n F0 w0 a w L Γ) (_hsub : ∀ X ∈ Γs, X ∈ Γ)
 (h : ∀ w', St n F0 w0 a w' L Γ → DB P l.toArray Q (Hd Γs) Z l.length (List.replicate l.length false).toArray a w') : (Code.region id l.toArray true).wp P Q a w := Sd Γs Z hm hS h
theorem ZC {i fuel : Nat} {l : List Oper} {Γs : List AT} {Z : List Nat} {listed listed' : List Bool} {v : Value} (hS : St n F0 w0 a w L Γ) (hi : l[i]? = some ⟨some d, op, ty, pos, af, g⟩) (hw : ∀ a, Sl n a L → Region.wanted ⟨some d, op, ty, pos, af, g⟩ (yielded l.toArray a.tmps) = true) (he : Ex P n a L Γs ⟨some d, op, ty, pos, af, g⟩ v)
 (hl : listed.set i true = listed') (hns : Region.noSelect l.toArray = true) (hf : Region.free .any l.toArray listed.toArray i = true) (hr : (Region.ready .any l.toArray listed.toArray).contains i = true) (hcl : IK l.toArray listed.toArray = true) (hZ : O4 l.toArray Z i = true)
 (hsub : ∀ X ∈ Γs, X ∈ Γ) (hQ : ∀ c a w, Q (.panic c) (a.put (some d) v) w → Q (.panic c) a w) (hn : Nat.blt d n.n = true)
 (h : ∀ a', St n F0 w0 a' w ((d, v) :: L) Γ → DB P l.toArray Q (Hd Γs) Z fuel listed'.toArray a' w) : DB P l.toArray Q (Hd Γs) Z (fuel + 1) listed.toArray a w := by
 have hi' : l.toArray[i]? = some ⟨some d, op, ty, pos, af, g⟩ := by simpa using hi
 refine QT hi' (Region.noSelect_spec hns) hQ hZ fuel _ a w (Region.free_spec hi' hf) (QS hcl) (by simpa using hr) (.inl ⟨hw a hS.sl, fun w' hh => he hS.sl w' hh⟩) (fun X hX => hS.get (hsub X hX)) ?_
 have := h _ (hS.put hn v)
 subst hl
 simpa using this
theorem Vn {i fuel : Nat} {l : List Oper} {Γs : List AT} {Z : List Nat} {listed listed' : List Bool} {v : Value} (hS : St n F0 w0 a w L Γ) (hi : l[i]? = some ⟨some d, op, ty, pos, af, g⟩) (hw : ∀ a, Sl n a L → Region.wanted ⟨some d, op, ty, pos, af, g⟩ (yielded l.toArray a.tmps) = true) (he : Ex P n a L [] ⟨some d, op, ty, pos, af, g⟩ v)
 (hl : listed.set i true = listed') (hns : Region.noSelect l.toArray = true) (hf : Region.free .any l.toArray listed.toArray i = true) (hr : (Region.ready .any l.toArray listed.toArray).contains i = true)
 (hQ : ∀ c a w, Q (.panic c) (a.put (some d) v) w → Q (.panic c) a w) (hn : Nat.blt d n.n = true)
 (h : ∀ a', St n F0 w0 a' w ((d, v) :: L) Γ → DB P l.toArray Q (Hd Γs) Z fuel listed'.toArray a' w) : DB P l.toArray Q (Hd Γs) Z (fuel + 1) listed.toArray a w := by
 have hi' : l.toArray[i]? = some ⟨some d, op, ty, pos, af, g⟩ := by simpa using hi
 refine FE hi' (Region.noSelect_spec hns) hQ fuel _ a w (Region.free_spec hi' hf) (by simpa using hr) (.inl ⟨hw a hS.sl, fun w' => he hS.sl w' (fun _ hX => by cases hX)⟩) ?_
 have := h _ (hS.put hn v)
 subst hl
 simpa using this
theorem Se {i j t fuel : Nat} {l : List Oper} {Γs : List AT} {Z : List Nat} {listed listed' : List Bool} (hS : St n F0 w0 a w L Γ) (hi : l[i]? = some ⟨some d, op, ty, pos, af, some (j, true)⟩) (hj : CX l j = some t) (hv : lk L t = some (.bool false))
 (hl : listed.set i true = listed') (hns : Region.noSelect l.toArray = true) (hf : Region.free .any l.toArray listed.toArray i = true) (hr : (Region.ready .any l.toArray listed.toArray).contains i = true)
 (hQ : ∀ c a w, Q (.panic c) (a.put (some d) undef) w → Q (.panic c) a w) (hn : Nat.blt d n.n = true)
 (h : ∀ a', St n F0 w0 a' w ((d, undef) :: L) Γ → DB P l.toArray Q (Hd Γs) Z fuel listed'.toArray a' w) : DB P l.toArray Q (Hd Γs) Z (fuel + 1) listed.toArray a w := by
 have hi' : l.toArray[i]? = some ⟨some d, op, ty, pos, af, some (j, true)⟩ := by simpa using hi
 refine FE hi' (Region.noSelect_spec hns) hQ fuel _ a w (Region.free_spec hi' hf) (by simpa using hr) (.inr ⟨by simp [Region.wanted, Dc hS.sl hj hv], rfl⟩) ?_
 have := h _ (hS.put hn undef)
 subst hl
 simpa using this
theorem Sf {i j t fuel : Nat} {l : List Oper} {Γs : List AT} {Z : List Nat} {listed listed' : List Bool} (hS : St n F0 w0 a w L Γ) (hi : l[i]? = some ⟨some d, op, ty, pos, af, some (j, false)⟩) (hj : CX l j = some t) (hv : lk L t = some (.bool true))
 (hl : listed.set i true = listed') (hns : Region.noSelect l.toArray = true) (hf : Region.free .any l.toArray listed.toArray i = true) (hr : (Region.ready .any l.toArray listed.toArray).contains i = true)
 (hQ : ∀ c a w, Q (.panic c) (a.put (some d) undef) w → Q (.panic c) a w) (hn : Nat.blt d n.n = true)
 (h : ∀ a', St n F0 w0 a' w ((d, undef) :: L) Γ → DB P l.toArray Q (Hd Γs) Z fuel listed'.toArray a' w) : DB P l.toArray Q (Hd Γs) Z (fuel + 1) listed.toArray a w := by
 have hi' : l.toArray[i]? = some ⟨some d, op, ty, pos, af, some (j, false)⟩ := by simpa using hi
 refine FE hi' (Region.noSelect_spec hns) hQ fuel _ a w (Region.free_spec hi' hf) (by simpa using hr) (.inr ⟨by simp [Region.wanted, Dc hS.sl hj hv], rfl⟩) ?_
 have := h _ (hS.put hn undef)
 subst hl
 simpa using this
theorem Sg {i j t fuel : Nat} {b : Bool} {l : List Oper} {Γs : List AT} {Z : List Nat} {listed listed' : List Bool} (hS : St n F0 w0 a w L Γ) (hi : l[i]? = some ⟨some d, op, ty, pos, af, some (j, b)⟩) (hj : CX l j = some t) (hv : lk L t = some undef)
 (hl : listed.set i true = listed') (hns : Region.noSelect l.toArray = true) (hf : Region.free .any l.toArray listed.toArray i = true) (hr : (Region.ready .any l.toArray listed.toArray).contains i = true)
 (hQ : ∀ c a w, Q (.panic c) (a.put (some d) undef) w → Q (.panic c) a w) (hn : Nat.blt d n.n = true)
 (h : ∀ a', St n F0 w0 a' w ((d, undef) :: L) Γ → DB P l.toArray Q (Hd Γs) Z fuel listed'.toArray a' w) : DB P l.toArray Q (Hd Γs) Z (fuel + 1) listed.toArray a w := by
 have hi' : l.toArray[i]? = some ⟨some d, op, ty, pos, af, some (j, b)⟩ := by simpa using hi
 refine FE hi' (Region.noSelect_spec hns) hQ fuel _ a w (Region.free_spec hi' hf) (by simpa using hr) (.inr ⟨by simp [Region.wanted, F9 hS.sl hj hv], rfl⟩) ?_
 have := h _ (hS.put hn undef)
 subst hl
 simpa using this
theorem Sh {i fuel : Nat} {l : List Oper} {Γs : List AT} {Z : List Nat} {listed listed' : List Bool} (hi : l[i]? = some ⟨dst, op, ty, pos, af, g⟩) (hw : Region.wanted ⟨dst, op, ty, pos, af, g⟩ (yielded l.toArray a.tmps) = true) (hl : listed.set i true = listed') (hr : Region.ready .any l.toArray listed.toArray = [i])
 (h : OW P ⟨dst, op, ty, pos, af, g⟩ a w (fun a' w' => (Hd Γs w → i ∈ Z ∨ Hd Γs w') ∧ DB P l.toArray Q (Hd Γs) Z fuel listed'.toArray a' w') Q) : DB P l.toArray Q (Hd Γs) Z (fuel + 1) listed.toArray a w := by
 have hi' : l.toArray[i]? = some ⟨dst, op, ty, pos, af, g⟩ := by simpa using hi
 refine ⟨fun h0 => (by rw [hr] at h0; cases h0), fun j hj => ?_⟩
 rw [hr] at hj
 obtain rfl := List.mem_singleton.1 hj
 unfold wpOp
 simp only [hi']
 rw [if_pos hw]
 subst hl
 refine .inl ?_
 have h := h.h
 simpa using h
theorem Si {l : List Oper} {Γs : List AT} {Z : List Nat} {listed : List Bool} (hr : Region.ready .any l.toArray listed.toArray = []) (h : Q .normal a w) : DB P l.toArray Q (Hd Γs) Z 0 listed.toArray a w := ⟨hr, h⟩
theorem Bc {i : Nat} {Γs : List AT} {Z : List Nat} {G S0 : Prop} (hS : St n F0 w0 a w L Γ) (hsub : ∀ X ∈ Γs, X ∈ Γ) (h : G) : (S0 → i ∈ Z ∨ Hd Γs w) ∧ G := ⟨fun _ => .inr fun X hX => hS.get (hsub X hX), h⟩
theorem GJ {i : Nat} {Γs : List AT} {Z : List Nat} {G S0 : Prop} (hi : i ∈ Z) (h : G) : (S0 → i ∈ Z ∨ Hd Γs w) ∧ G := ⟨fun _ => .inl hi, h⟩
theorem Ab (b : Act) (_h : Sl n b L) : Region.wanted ⟨dst, op, ty, pos, af, none⟩ (yielded l.toArray b.tmps) = true := rfl
theorem EZ {j t : Nat} {c : Bool} (hj : CX l j = some t) (hv : lk L t = some (.bool c)) (b : Act) (h : Sl n b L) : Region.wanted ⟨dst, op, ty, pos, af, some (j, c)⟩ (yielded l.toArray b.tmps) = true := by
 simp [Region.wanted, Dc h hj hv]
end
end
section
section
variable {P : Program} {n : NN} {F0 : Nat → Prop} {w0 : World} {a : Act} {w : World} {L : List (Nat × Value)} {Γ : List AT}
variable {K : Act → World → Prop} {Q : Exit → Act → World → Prop} {d ty : Nat} {dst : Option Tmp} {pos : String} {af : Array Edge} {g : Option (Nat × Bool)}
theorem BF {T E : TypeId} (h : BD P T = some E) : P.underlying T = some (.slice E) := by
 unfold BD at h; cases hi : P.underlying T with
 | none => simp [hi] at h
 | some D => cases D <;> simp_all
theorem Fq {E s b : Nat} {zs : List Value} (h1 : BS P E = some s) (h2 : Ev P E = some b) (h3 : A3 P E = some zs) :
 ∃ i z, P.info? E = some i ∧ i.zero = some z ∧ i.size = s ∧ i.bytes = b ∧ z.cells = zs.toArray := by
 unfold BS at h1; unfold Ev at h2; unfold A3 at h3
 cases hi : P.info? E with
 | none => simp [hi] at h1
 | some i =>
   cases hz : i.zero with
   | none => simp [hi, hz] at h3
   | some z => simp [hi, hz] at h1 h2 h3; exact ⟨i, z, rfl, hz, h1, h2, by simp [← h3]⟩
theorem Vo {T E s b off m c : Nat} {x y : Operand} {k : IntKind} {i : Int} (hx : ev L x = some (.slice (some ⟨b, off, none⟩) m c)) (hy : ev L y = some (.int k i)) (hT : BD P T = some E) (hs : BS P E = some s)
 (hi : 0 ≤ i ∧ i < m) : Ex P n a L Γ ⟨dst, .indexAddr T x y, ty, pos, af, g⟩ (.pointer (some ⟨b, off + i.toNat * s, none⟩)) := fun hs' w _ => by
 simp [execOp, hs'.ev hx, hs'.ev hy, Instr.indexAt, asIntOf, underlying, BF hT, hi.1, hi.2, Bg hs, BH]
theorem BI {T E s b off m c : Nat} {x y : Operand} {k : IntKind} {i : Nat} (hx : ev L x = some (.slice (some ⟨b, off, none⟩) m c)) (hy : ev L y = some (.int k (i : Int))) (hT : BD P T = some E) (hs : BS P E = some s)
 (hi : i < m) : Ex P n a L Γ ⟨dst, .indexAddr T x y, ty, pos, af, g⟩ (.pointer (some ⟨b, off + i * s, none⟩)) := by
 have h := Vo (P := P) (n := n) (a := a) (Γ := Γ) (dst := dst) (ty := ty) (pos := pos) (af := af) (g := g) hx hy hT hs (by omega)
 rwa [Int.toNat_natCast] at h
theorem O5 {T : Nat} {x y : Operand} {k : IntKind} {i : Int} {s : ByteArray} (hx : ev L x = some (.string s)) (hy : ev L y = some (.int k i)) (hT : P.underlying T = some .string)
 (hi : 0 ≤ i ∧ i < s.size) : Ex P n a L Γ ⟨dst, .index T x y, ty, pos, af, g⟩ (.int .u8 ((s.data.toList.getD i.toNat 0).toNat : Int)) := fun hs' w _ => by
 have h := run_index_string (P := P) (w := w) T s k i hT
 rw [dif_pos hi] at h
 have e : s.data.toList.getD i.toNat 0 = s[i.toNat]'(by omega) := by
  have hl : i.toNat < s.data.toList.length := by have := hi.2; simp; omega
  rw [List.getD_eq_getElem?_getD, List.getElem?_eq_getElem hl]; rfl
 rw [e]
 simp [execOp, hs'.ev hx, hs'.ev hy, h]
def Dz (b off s : Nat) (xs : List (List Value)) (w : World) : Prop :=
 ∀ i x, xs[i]? = some x → ∀ j v, x[j]? = some v → w.cell? ⟨b, off + i * s + j, none⟩ = some v
def AJ (E s : Nat) (v : Value) (m : Nat) (xs : List Value) : AT := .any (fun k => v.ownBlock = some k) (fun w => w.ownsRow 0 E s v m xs) true
theorem C2 {w : World} {E s : Nat} {v : Value} {m : Nat} {xs : List Value} (h : w.ownsRow 0 E s v m xs) : (AJ E s v m xs).ok w := by
 refine ⟨fun b hb => (h.lt b hb).2, fun w' hw => ?_⟩
 refine ⟨h.1, h.2.imp id ?_⟩
 rintro ⟨g, cap, cur, rfl, h1, h2, h3⟩
 exact ⟨g, cap, cur, rfl, h1, by rw [hw g rfl]; exact h2, h3⟩
theorem LA (w : World) (E s : Nat) : (AJ E s (.slice none 0 0) 0 []).ok w := C2 (World.ownsRow_nil w 0 E s)
theorem St.more (h : St n F0 w0 a w L Γ) {Y : AT} (hY : Y.ok w) (hnew : ∀ b, Y.F b → False) : St n F0 w0 a w L (Y :: Γ) :=
 h.fresh (Bd.refl _ _) hY (fun b hb => (hnew b hb).elim)
theorem St.own_nil (h : St n F0 w0 a w L Γ) (E s : Nat) : St n F0 w0 a w L (AJ E s (.slice none 0 0) 0 [] :: Γ) :=
 h.more (Go.Proofs.YtlccmgeclhdegaaGreatDoor.LA w E s) (fun b hb => by simp [AJ, AT.F, Value.ownBlock] at hb)
theorem Bd.grown {w w' : World} {v : Value} (h : w.grownBy w' v.ownBlock) : Bd (fun k => v.ownBlock = some k) w w' :=
 ⟨h.os, h.tape, h.output, h.size, fun k hk hn => h.block k hk (fun e => hn e.symm)⟩
theorem Bd.grown0 {w w' : World} (h : w.grownBy w' none) : Bd Ai w w' :=
 ⟨h.os, h.tape, h.output, h.size, fun k hk _ => h.block k hk (by simp)⟩
theorem AN {w : World} {E s : Nat} {v : Value} {m : Nat} {xs : List Value} (h : w.ownsRow 0 E s v m xs) : ∃ p c, v = .slice p m c := by
 rcases h.2 with ⟨rfl, rfl⟩ | ⟨g, cap, cur, rfl, _⟩
 · exact ⟨none, 0, rfl⟩
 · exact ⟨_, _, rfl⟩
theorem Nr {t ty e : TypeId} {i : TypeInfo} {z : Value} {size bytes : Nat} (ht : P.underlying t = some (.slice e)) (hi : P.info? e = some i) (hz : i.zero = some z)
 (hsize : i.size = size) (hby : i.bytes = bytes) (hzs : z.cells.size = size) (hsz : 0 < size)
 {v : Value} {m : Nat} {xs : List Value} (hown : w.ownsRow 0 e size v m xs) {ad : Addr} {k c : Nat} {news : List Value} (hl : news.length = k * size) (hnews : ∀ j u, news[j]? = some u → w.cell? (ad.add j) = some u) (h1 : ∀ u ∈ news, u.oneCell' = true)
 (h63 : m + k ≤ 4611686018427387904) (hbytes : (m + k) * bytes ≤ 140737488355328) :
 ∃ v' w', (Builtin.append_ #[t, t] ty #[v, .slice (some ad) k c]).run P w = .ok v' w' ∧ w'.ownsRow 0 e size v' (m + k) (xs ++ news) ∧ w.grownBy w' v.ownBlock ∧
  (∀ q, v'.ownBlock = some q → v.ownBlock = some q ∨ w.heap.size ≤ q) ∧ (v' = .slice none 0 0 ↔ v = .slice none 0 0 ∧ k = 0) := by
 obtain ⟨v', w', hrun, hown', hgr, hnil⟩ := run_append_own (P := P) w 0 t ty e i z size bytes ht hi hz hsize hby hzs hsz v m xs hown ad k c news hl hnews h1 (by unfold maxLen; omega) hbytes (Nat.zero_le _)
 refine ⟨v', w', hrun, hown', hgr, ?_, hnil⟩
 subst hsize
 subst hby
 rcases hown.2 with ⟨rfl, rfl⟩ | ⟨g, cap, cur, rfl, _, hg, hnc, hcm, hcs, htake⟩
 · by_cases hk : k = 0
   · intro q hq; rw [hnil.2 ⟨rfl, hk⟩] at hq; simp [Value.ownBlock] at hq
   · have hr := run_append_nil (P := P) w t ty e i z ht hi hz ad k c news hl hnews (by omega) (by omega) (by simp only [Nat.zero_add] at hbytes; omega)
     have := hrun.symm.trans hr
     injection this with e1 _
     intro q hq; rw [e1] at hq; simp [Value.ownBlock] at hq; right; omega
 · by_cases hroom : m + k ≤ cap
   · have hfit : m * i.size + news.length ≤ cur.size := by rw [hl, hcs, ← Nat.add_mul]; exact Nat.mul_le_mul_right _ hroom
     have hr := run_append_room (P := P) w t ty e i ht hi g m cap cur hg ad k c news hl hnews h1 hroom hfit
     have := hrun.symm.trans hr
     injection this with e1 _
     intro q hq; rw [e1] at hq; left; simpa [Value.ownBlock] using hq
   · have holds : ∀ j u, xs[j]? = some u → w.cell? ((⟨g, 0, none⟩ : Addr).add j) = some u := hown.cells (g := g) rfl
     have hr := run_append_grow (P := P) w t ty e i z ht hi hz ⟨g, 0, none⟩ m cap xs hown.1 holds ad k c news hl hnews (by omega) (by omega) (growslice_fits (by omega) hbytes)
     have := hrun.symm.trans hr
     injection this with e1 _
     intro q hq; rw [e1] at hq; simp [Value.ownBlock] at hq; right; omega
theorem EF {T E s b : Nat} {zs : List Value} {x y : Operand} {v : Value} {m bx ox k c : Nat} {cs ys : List Value} {Γ' : Value → List AT} (hS : St n F0 w0 a w L Γ) (hx : ev L x = some v) (hy : ev L y = some (.slice (some ⟨bx, ox, none⟩) k c))
 (hT : BD P T = some E) (hs : BS P E = some s) (hb : Ev P E = some b) (hz : A3 P E = some zs) (hzl : Nat.beq zs.length s = true) (hs0 : Nat.blt 0 s = true) (hn : Nat.blt d n.n = true)
 (hm : AJ E s v m cs ∈ Γ) (hyl : ys.length = k * s) (hys : ∀ j u, ys[j]? = some u → w.cell? ⟨bx, ox + j, none⟩ = some u) (h1 : ∀ u ∈ ys, Bl u = true) (hbd : (m + k) * b ≤ 140737488355328 ∧ m + k ≤ 4611686018427387904)
 (hr : ∀ v', DY (AJ E s v m cs) (AJ E s v' (m + k) (cs ++ ys)) Γ (Γ' v'))
 (h : ∀ v' a' w', (v' = .slice none 0 0 ↔ v = .slice none 0 0 ∧ k = 0) → St n F0 w0 a' w' ((d, v') :: L) (Γ' v') → K a' w') : OW P ⟨some d, .call ⟨.builtin .append, #[x, y], #[T, T]⟩, ty, pos, af, g⟩ a w K Q := by
 obtain ⟨i, z, hi, hz', hsz, hby, hzc⟩ := Fq hs hb hz
 have hown : w.ownsRow 0 E s v m cs := hS.get hm
 have e1 := Nat.eq_of_beq_eq_true hzl
 have e2 : 0 < s := by simpa using hs0
 obtain ⟨v', w', hrun, hown', hgr, hblk, hnil⟩ := Nr (P := P) (ty := ty) (BF hT) hi hz' hsz hby (by rw [hzc]; simpa using e1) e2 hown (ad := ⟨bx, ox, none⟩) (c := c) hyl
  (fun j u hj => by rw [BH]; exact hys j u hj) (fun u hu => Dm (h1 u hu)) hbd.2 hbd.1
 have he : (execOp a.eval (⟨some d, .call ⟨.builtin .append, #[x, y], #[T, T]⟩, ty, pos, af, g⟩ : Oper)).run P w = .ok (.value v') w' := by
  simp [execOp, resolve, invoke, builtin, hS.sl.ev hx, hS.sl.ev hy, hrun]
 refine ⟨?_⟩
 unfold Oper.wp
 rw [he]
 exact h v' _ _ hnil ((hS.upd (hr v') (Bd.grown hgr) (C2 hown') (fun k hk => hblk k hk) rfl).put hn _)
theorem Dd {T E s b : Nat} {zs : List Value} {x y : Operand} {v : Value} {m bx k c Ex : Nat} {cs ys : List Value} {Γ' : Value → List AT} (hS : St n F0 w0 a w L Γ) (hx : ev L x = some v) (hy : ev L y = some (.slice (some ⟨bx, 0, none⟩) k c))
 (hT : BD P T = some E) (hs : BS P E = some s) (hb : Ev P E = some b) (hz : A3 P E = some zs) (hzl : Nat.beq zs.length s = true) (hs0 : Nat.blt 0 s = true) (hn : Nat.blt d n.n = true)
 (hm : AJ E s v m cs ∈ Γ) (hbx : AT.blk bx ys Ex ∈ Γ) (hyl : Nat.beq ys.length (k * s) = true) (h1 : ys.all Bl = true) (hr : ∀ v', DY (AJ E s v m cs) (AJ E s v' (m + k) (cs ++ ys)) Γ (Γ' v')) (hbd : (m + k) * b ≤ 140737488355328 ∧ m + k ≤ 4611686018427387904)
 (h : ∀ v' a' w', (v' = .slice none 0 0 ↔ v = .slice none 0 0 ∧ k = 0) → St n F0 w0 a' w' ((d, v') :: L) (Γ' v') → K a' w') : OW P ⟨some d, .call ⟨.builtin .append, #[x, y], #[T, T]⟩, ty, pos, af, g⟩ a w K Q :=
 EF hS hx hy hT hs hb hz hzl hs0 hn hm (Nat.eq_of_beq_eq_true hyl) (fun j u hj => by rw [Nat.zero_add]; exact AR (hS.get hbx) hj) (by simpa using h1) hbd hr h
def Sj (P : Program) (T : TypeId) : Option (TypeId × TypeId) := match P.underlying T with | some (.map k e) => some (k, e) | _ => none
theorem O6 {T K E : TypeId} (h : Sj P T = some (K, E)) : P.underlying T = some (.map K E) := by
 unfold Sj at h; cases hi : P.underlying T with
 | none => simp [hi] at h
 | some D => cases D <;> simp_all
def MG : TypeDesc → Bool
 | .int _ | .string | .bool => true
 | _ => false
theorem FV {t : TypeId} {D : TypeDesc} (h : P.underlying t = some D) (hp : MG D = true) (em : Bool) (m : Nat) (v : Value) : (Instr.checkKey em (m + 1) t v).run P w = .ok () w := by
 cases D <;> simp [MG] at hp <;> simp [Instr.checkKey, underlying, h]
theorem QU {T : TypeId} (hS : St n F0 w0 a w L Γ) (hn : Nat.blt d n.n = true)
 (h : ∀ a' w' b, St n F0 w0 a' w' ((d, .map (some b)) :: L) (.mp b [] 0 :: Γ) → K a' w') : OW P ⟨some d, .makeMap T none, ty, pos, af, g⟩ a w K Q := by
 have he : (execOp a.eval (⟨some d, .makeMap T none, ty, pos, af, g⟩ : Oper)).run P w = .ok (.value (.map (some w.heap.size))) (w.alloc (.map #[] 0)) := by
  simp [execOp, Instr.makeMap]
 refine ⟨?_⟩
 unfold Oper.wp
 rw [he]
 refine h _ _ w.heap.size ((hS.fresh (Bd.alloc _ _ _) (Y := .mp w.heap.size [] 0) ⟨fun b hb => ?_, fun w' hw => ?_⟩ ?_).put hn _)
 · obtain rfl : b = w.heap.size := hb; simp
 · show w'.heap[w.heap.size]? = _
   rw [hw _ rfl]; show (w.heap.push _)[w.heap.size]? = _
   simp
 · intro b hb; obtain rfl : b = w.heap.size := hb; exact Nat.le_refl _
theorem KE {T E s b : Nat} {zs : List Value} {x y : Operand} {v : Value} {m : Nat} {cs : List Value} (hx : ev L x = some v) (hy : ev L y = some (.slice none 0 0))
 (hT : BD P T = some E) (hs : BS P E = some s) (hb : Ev P E = some b) (hz : A3 P E = some zs) (hm : AJ E s v m cs ∈ Γ) : Ex P n a L Γ ⟨dst, .call ⟨.builtin .append, #[x, y], #[T, T]⟩, ty, pos, af, g⟩ v := fun hs' w hh => by
 obtain ⟨i, z, hi, hz', hsz, hby, hzc⟩ := Fq hs hb hz
 have hown : w.ownsRow 0 E s v m cs := hh _ hm
 have h := run_append_owned_none (P := P) w 0 T ty E i s (BF hT) hi v m cs hown
 simp [execOp, resolve, invoke, builtin, hs'.ev hx, hs'.ev hy, h]
theorem O7 {T E s b : Nat} {zs : List Value} {x y : Operand} {k k' : IntKind} {c : Nat} (hS : St n F0 w0 a w L Γ) (hx : ev L x = some (.int k 0)) (hy : ev L y = some (.int k' (c : Int)))
 (hT : BD P T = some E) (hs : BS P E = some s) (hb : Ev P E = some b) (hz : A3 P E = some zs) (hn : Nat.blt d n.n = true) (hbd : b * c ≤ 281474976710656 ∧ c ≤ 4611686018427387904)
 (h : ∀ b' a' w', St n F0 w0 a' w' ((d, .slice (some ⟨b', 0, none⟩) 0 c) :: L) (AJ E s (.slice (some ⟨b', 0, none⟩) 0 c) 0 [] :: Γ) → K a' w') : OW P ⟨some d, .makeSlice T x y, ty, pos, af, g⟩ a w K Q := by
 obtain ⟨i, z, hi, hz', hsz, hby, hzc⟩ := Fq hs hb hz
 obtain ⟨w', hrun, hown, hgr⟩ := run_make_own (P := P) w 0 T E i z s (BF hT) hi hz' hsz k k' c (by rw [hby]; exact hbd.1) (by unfold maxLen; omega) (Nat.zero_le _)
 have he : (execOp a.eval (⟨some d, .makeSlice T x y, ty, pos, af, g⟩ : Oper)).run P w = .ok (.value (.slice (some ⟨w.heap.size, 0, none⟩) 0 c)) w' := by
  simp [execOp, hS.sl.ev hx, hS.sl.ev hy, hrun]
 refine ⟨?_⟩
 unfold Oper.wp
 rw [he]
 exact h _ _ _ ((hS.fresh (Bd.grown0 hgr) (C2 hown) (fun q hq => by
   have : Value.ownBlock (.slice (some ⟨w.heap.size, 0, none⟩) 0 c) = some q := hq
   simp [Value.ownBlock] at this; omega)).put hn _)
def H9 : List Value → Nat → List Value → List Value
 | l, _, [] => l
 | l, off, v :: vs => H9 (l.set off v) (off + 1) vs
theorem Sk (off : Nat) (vs : List Value) (k : Nat) (cs : Array Value) :
 (vs.toArray.zipIdx k).foldl (fun cs (c, j) => cs.setIfInBounds (off + j) c) cs = (H9 cs.toList (off + k) vs).toArray := by
 rw [Array.zipIdx_toArray, List.foldl_toArray]
 induction vs generalizing k cs with
 | nil => simp [H9]
 | cons v vs ih =>
   rw [List.zipIdx_cons, List.foldl_cons, ih]
   simp only [H9, Array.toList_setIfInBounds, Nat.add_assoc]
theorem QV : ∀ (vs pre old : List Value), old.length = vs.length → H9 (pre ++ old) pre.length vs = pre ++ vs := by
 intro vs
 induction vs with
 | nil => intro pre old h; have : old = [] := by simpa using h
          subst this; rfl
 | cons v vs ih =>
   intro pre old h
   cases old with
   | nil => simp at h
   | cons o old =>
     have := ih (pre ++ [v]) old (by simpa using h)
     simp only [H9]
     rw [show (pre ++ o :: old).set pre.length v = (pre ++ [v]) ++ old by simp]
     simpa using this
inductive MH : List Value → Nat → List Value → List Value → Prop
 | nil {cs : List Value} {k : Nat} : MH cs k [] cs
 | cons {cs cs1 cs2 vs : List Value} {k : Nat} {v : Value} (h : QR cs k v cs1) (t : MH cs1 (k + 1) vs cs2) : MH cs k (v :: vs) cs2
theorem MH.eq {cs vs cs' : List Value} {k : Nat} (h : MH cs k vs cs') : cs' = H9 cs k vs ∧ (vs = [] ∨ k + vs.length ≤ cs.length) := by
 induction h with
 | nil => exact ⟨rfl, .inl rfl⟩
 | cons h _ ih =>
   obtain ⟨rfl, h2⟩ := h.eq
   refine ⟨by rw [ih.1]; rfl, .inr ?_⟩
   rcases ih.2 with rfl | h3
   · simp; omega
   · simp at h3 ⊢; omega
def QW : List (Nat × Nat) → Nat → Option (Nat × Nat)
 | [], _ => none
 | v :: l, i => bif Nat.beq i 0 then some v else QW l (i - 1)
theorem O8 (l : List (Nat × Nat)) (i : Nat) : QW l i = l[i]? := by
 induction l generalizing i with
 | nil => simp [QW]
 | cons v l ih =>
   cases i with
   | zero => simp [QW]
   | succ i => exact (ih i).trans (by simp)
inductive GB (L : List (Nat × Value)) (pl : List (Nat × Nat)) : List Value → List (Nat × Operand) → List Value → Prop
 | nil {cs : List Value} : GB L pl cs [] cs
 | one {cs cs1 l : List Value} {i off : Nat} {x : Operand} {v : Value} {r : List (Nat × Operand)} (hx : ev L x = some v) (h1 : Bl v = true) (hp : QW pl i = some (off, 1)) (hu : QR cs off v cs1) (t : GB L pl cs1 r l) : GB L pl cs ((i, x) :: r) l
 | agg {cs cs1 l vs : List Value} {i off m : Nat} {x : Operand} {r : List (Nat × Operand)} (hx : ev L x = some (.agg vs.toArray)) (hp : QW pl i = some (off, m)) (hl : Nat.beq vs.length m = true) (hm : Nat.blt 0 m = true) (hu : MH cs off vs cs1) (t : GB L pl cs1 r l) : GB L pl cs ((i, x) :: r) l
theorem Fr {place : Nat → Option (Nat × Nat)} {cells : Array Value} {i off size : Nat} {v : Value} {rest : List (Nat × Value)} {vs : List Value} (hp : place i = some (off, size)) (hc : v.cells = vs.toArray) (h1 : vs.length = size) (h2 : off + vs.length ≤ cells.size) :
 Instr.fill place cells ((i, v) :: rest) = Instr.fill place (H9 cells.toList off vs).toArray rest := by
 have hf := Sk off vs 0 cells
 have h3 : ¬ off + vs.length > cells.size := by omega
 simp only [Instr.fill, hp, hc, hf, Nat.add_zero]
 simp [h1] at h3 ⊢
 omega
theorem GB.run {pl : List (Nat × Nat)} {cs l : List Value} {r : List (Nat × Operand)} (hs : Sl n a L) (h : GB L pl cs r l) {place : Nat → Option (Nat × Nat)} (hp : ∀ i, place i = pl[i]?) :
 Instr.fill place cs.toArray (r.map fun p => (p.1, a.eval p.2)) = some l.toArray := by
 induction h with
 | nil => simp [Instr.fill]
 | @one cs cs1 l i off x v r hx h1 hp' hu _ ih =>
   obtain ⟨e1, e2⟩ := hu.eq
   rw [O8] at hp'
   rw [List.map_cons, hs.ev hx, Fr (vs := [v]) (off := off) (size := 1) (by rw [hp, hp']) (EW h1) rfl (by simp; omega)]
   rw [e1] at ih; exact ih
 | @agg cs cs1 l vs i off m x r hx hp' hl hm hu _ ih =>
   obtain ⟨e1, e2⟩ := hu.eq
   have e3 := Nat.eq_of_beq_eq_true hl
   have e4 : 0 < m := by simpa using hm
   rw [O8] at hp'
   have e5 : off + vs.length ≤ cs.length := by
    rcases e2 with rfl | e2
    · simp at e3; omega
    · exact e2
   rw [List.map_cons, hs.ev hx, Fr (vs := vs) (by rw [hp, hp']) rfl e3 (by simpa using e5)]
   rw [← e1]; exact ih
theorem MI : ∀ (fs : List Field) (pl : List (Nat × Nat)) (w : World), (fs.mapM fun f => (BS P f.type).map fun s => (f.offset, s)) = some pl →
 (fs.mapM fun f => do pure (f.offset, ← Go.sizeOf f.type) : Sem (List (Nat × Nat))).run P w = .ok pl w := by
 intro fs
 induction fs with
 | nil => intro pl w h; simp at h; subst h; rfl
 | cons f fs ih =>
   intro pl w h
   simp only [List.mapM_cons] at h
   cases hz : BS P f.type with
   | none => simp [hz] at h
   | some m =>
     cases hr : (fs.mapM fun f => (BS P f.type).map fun s => (f.offset, s)) with
     | none => simp [hz, hr] at h
     | some r =>
       simp [hz, hr] at h; subst h
       have ih' := ih r w hr
       rw [List.mapM_cons, Sem.run_bind]
       rw [show ((do pure (f.offset, ← Go.sizeOf f.type) : Sem (Nat × Nat))).run P w = .ok (f.offset, m) w by simp [Bg hz]]
       simp only [Result.andThen_ok, Sem.run_bind]
       rw [ih']; rfl
theorem Ns {t : TypeId} {pl : List (Nat × Nat)} (h : BU P t = some pl) (w : World) : ∃ fs : Array Field, P.underlying t = some (.struct fs) ∧
 (fs.mapM fun f => do pure (f.offset, ← Go.sizeOf f.type) : Sem (Array (Nat × Nat))).run P w = .ok pl.toArray w := by
 unfold BU at h
 cases hi : P.underlying t with
 | none => simp [hi] at h
 | some D =>
   cases D <;> simp [hi] at h
   rename_i fs
   refine ⟨fs, rfl, ?_⟩
   obtain ⟨fs⟩ := fs
   simp only at h
   rw [show (⟨fs⟩ : Array Field) = fs.toArray from rfl, List.mapM_toArray, Sem.run_map]
   rw [MI fs pl w h]; rfl
theorem Cl {T : Nat} {zs l : List Value} {pl : List (Nat × Nat)} {r : List (Nat × Operand)} (hz : A3 P T = some zs) (hp : BU P T = some pl) (hf : GB L pl zs r l) : Ex P n a L Γ ⟨dst, .build T r.toArray, ty, pos, af, g⟩ (.agg l.toArray) := fun hs w _ => by
 obtain ⟨z, hz1, hz2⟩ := Ih hz w
 obtain ⟨fs, hu, hrun⟩ := Ns hp w
 have h := hf.run hs (place := fun i => pl.toArray[i]?) (fun i => by simp)
 have hb : (Instr.build T (r.toArray.map fun (i, x) => (i, a.eval x))).run P w = .ok (.agg l.toArray) w := by
  simp only [Instr.build, Sem.run_bind, hz1, Result.andThen_ok, hz2, underlying, run_program, hu, Sem.run_pure]
  rw [hrun]
  simp only [Result.andThen_ok]
  rw [show (r.toArray.map fun (i, x) => (i, a.eval x)).toList = r.map fun p => (p.1, a.eval p.2) by simp]
  rw [h]; rfl
 unfold execOp
 show ((do pure (.value (← Instr.build T (r.toArray.map fun (i, x) => (i, a.eval x)))) : Sem Next)).run P w = _
 rw [Sem.run_bind, hb]; rfl
inductive De (L : List (Nat × Value)) (m : Nat) : Nat → List (Nat × Operand) → List Value → Prop
 | nil {k : Nat} : De L m k [] []
 | agg {k : Nat} {l vs : List Value} {x : Operand} {r : List (Nat × Operand)} (hx : ev L x = some (.agg l.toArray)) (hl : Nat.beq l.length m = true) (t : De L m (k + 1) r vs) : De L m k ((k, x) :: r) (l ++ vs)
 | one {k : Nat} {v : Value} {vs : List Value} {x : Operand} {r : List (Nat × Operand)} (hx : ev L x = some v) (h1 : Bl v = true) (hm : Nat.beq m 1 = true) (t : De L m (k + 1) r vs) : De L m k ((k, x) :: r) (v :: vs)
theorem De.run {m k : Nat} {r : List (Nat × Operand)} {vs : List Value} (hs : Sl n a L) (h : De L m k r vs) : ∀ (pre old : List Value), pre.length = k * m → old.length = r.length * m →
 Instr.fill (fun i => some (i * m, m)) (pre ++ old).toArray (r.map fun p => (p.1, a.eval p.2)) = some (pre ++ vs).toArray ∧ vs.length = r.length * m := by
 induction h with
 | nil => intro pre old h1 h2; have : old = [] := by simpa using h2
          subst this; simp [Instr.fill]
 | @agg k l vs x r hx hl _ ih =>
   intro pre old h1 h2
   have e1 := Nat.eq_of_beq_eq_true hl
   have h3 : old.length = m + r.length * m := by rw [h2, List.length_cons, Nat.add_mul, Nat.one_mul, Nat.add_comm]
   obtain ⟨o1, o2, rfl, ho⟩ : ∃ o1 o2, old = o1 ++ o2 ∧ o1.length = m := ⟨old.take m, old.drop m, by simp, by simp; omega⟩
   have hfull := QV l pre o1 (by omega)
   have hgen : ∀ (vs x y : List Value) (q : Nat), q + vs.length ≤ x.length → H9 (x ++ y) q vs = H9 x q vs ++ y := by
    intro vs
    induction vs with
    | nil => intro x y q _; rfl
    | cons v vs ih2 =>
      intro x y q hq
      simp only [H9]
      rw [List.set_append_left _ _ (by simp at hq; omega)]
      exact ih2 _ _ _ (by simp at hq ⊢; omega)
   obtain ⟨i1, i2⟩ := ih (pre ++ l) o2 (by simp [h1, e1, Nat.add_mul]) (by simp at h3; omega)
   refine ⟨?_, by simp [i2, e1, Nat.add_mul]; omega⟩
   rw [List.map_cons, hs.ev hx, Fr (vs := l) (off := k * m) (size := m) rfl rfl e1 (by simp; simp at h3; omega)]
   rw [← h1, ← List.append_assoc, hgen l (pre ++ o1) o2 pre.length (by simp; omega), hfull]
   simpa using i1
 | @one k v vs x r hx h1' hm _ ih =>
   intro pre old h1 h2
   have e1 : m = 1 := Nat.eq_of_beq_eq_true hm
   subst e1
   cases old with
   | nil => simp at h2
   | cons o old =>
     obtain ⟨i1, i2⟩ := ih (pre ++ [v]) old (by simp at h1 ⊢; omega) (by simp at h2 ⊢; omega)
     refine ⟨?_, by simp at i2 ⊢; omega⟩
     rw [List.map_cons, hs.ev hx, Fr (vs := [v]) (off := k * 1) (size := 1) rfl (EW h1') rfl (by simp at h1 ⊢; omega)]
     simp only [H9]
     have : k * 1 = pre.length := by omega
     rw [this, show (pre ++ o :: old).set pre.length v = (pre ++ [v]) ++ old by simp]
     simpa using i1
theorem B4 {T E m q : Nat} {zs vs : List Value} {r : List (Nat × Operand)} (hS : St n F0 w0 a w L Γ) (hT : BD P T = some E) (hs : BS P E = some m) (hz : A3 P E = some zs) (hzl : Nat.beq zs.length m = true) (hm : Nat.blt 0 m = true) (hm2 : Nat.ble (q * m) 16777216 = true) (hq : Nat.beq r.length q = true) (hp : De L m 0 r vs) (hn : Nat.blt d n.n = true)
 (h : ∀ a' w' b, St n F0 w0 a' w' ((d, .slice (some ⟨b, 0, none⟩) q q) :: L) (.blk b vs E :: Γ) → K a' w') : OW P ⟨some d, .buildSlice T q r.toArray, ty, pos, af, g⟩ a w K Q := by
 have e2 := Nat.eq_of_beq_eq_true hzl
 have e3 : 0 < m := by simpa using hm
 have e4 := Nat.le_of_ble_eq_true hm2
 have e5 := Nat.eq_of_beq_eq_true hq
 obtain ⟨z, hz1, hz2⟩ := Ih hz w
 have hfill : ∀ cs : Array Value, cs.size = q * m → Instr.fill (fun i => some (i * m, m)) cs (r.map fun p => (p.1, a.eval p.2)) = some vs.toArray := fun cs hc => by
  have := (hp.run hS.sl [] cs.toList (by simp) (by simp [hc, e5])).1
  simpa using this
 have he : (execOp a.eval (⟨some d, .buildSlice T q r.toArray, ty, pos, af, g⟩ : Oper)).run P w = .ok (.value (.slice (some ⟨w.heap.size, 0, none⟩) q q)) (w.alloc (.cells vs.toArray E)) := by
  by_cases h0 : q * m = 0
  · simp [execOp, Instr.buildSlice, underlying, BF hT, Bg hs, h0, newRow]
    rw [hfill _ (by simp [h0])]; rfl
  · have h5 : ¬ (16777216 < q * m) := by omega
    simp [execOp, Instr.buildSlice, underlying, BF hT, Bg hs, h0, h5, newRow, hz1, hz2]
    rw [hfill _ (by simp)]; rfl
 refine ⟨?_⟩
 unfold Oper.wp
 rw [he]
 refine h _ _ w.heap.size ((hS.fresh (Bd.alloc _ _ _) (Y := .blk w.heap.size vs E) (BE ?_) ?_).put hn _)
 · show (w.heap.push _)[w.heap.size]? = _
   simp
 · intro b hb; obtain rfl : b = w.heap.size := hb; exact Nat.le_refl _
theorem Do {t t' : TypeId} {x y : Operand} {i j : ByteArray} (hx : ev L x = some (.string i)) (hy : ev L y = some (.string j)) (hb : i.size + j.size ≤ 9223372036854775807) :
 Ex P n a L Γ ⟨dst, .binOp .add t x y t', ty, pos, af, g⟩ (.string (i ++ j)) := fun hs w _ => by
 have h := run_string_add_sum (P := P) (w := w) i j hb
 simp [execOp, hs.ev hx, hs.ev hy, eqGuard, binOp, h]
theorem Sm {T : Nat} {x y z : Operand} {s : ByteArray} {k k' : IntKind} {i j : Int} (hx : ev L x = some (.string s)) (hy : ev L y = some (.int k i)) (hz : ev L z = some (.int k' j)) (hT : P.underlying T = some .string) (hb : 0 ≤ i ∧ i ≤ j ∧ j ≤ s.size) :
 Ex P n a L Γ ⟨dst, .slice T x (some y) (some z) none, ty, pos, af, g⟩ (.string (s.extract i.toNat j.toNat)) := fun hs w _ => by
 have h := run_slice_string (P := P) (w := w) T s k k' i j hT hb.1 hb.2.1 hb.2.2
 have h2 := run_sliceAt_string (P := P) (w := w) T (.string s) (some (.int k i)) (some (.int k' j)) none hT
 simp [execOp, hs.ev hx, hs.ev hy, hs.ev hz, h2, h]
theorem Sn {T : Nat} {x y : Operand} {s : ByteArray} {k : IntKind} {i : Int} (hx : ev L x = some (.string s)) (hy : ev L y = some (.int k i)) (hT : P.underlying T = some .string) (hb : 0 ≤ i ∧ i ≤ s.size) :
 Ex P n a L Γ ⟨dst, .slice T x (some y) none none, ty, pos, af, g⟩ (.string (s.extract i.toNat s.size)) := fun hs w _ => by
 have h := run_slice_string_from_if (P := P) (w := w) T s k i hT
 rw [if_pos hb] at h
 have h2 := run_sliceAt_string (P := P) (w := w) T (.string s) (some (.int k i)) none none hT
 simp [execOp, hs.ev hx, hs.ev hy, h2, h]
theorem IL {t t' : TypeId} {x : Operand} {k : IntKind} {i : Int} {D : TypeDesc} (hx : ev L x = some (.int k i)) (hD : P.underlying t = some D) (hu : P.underlying t' = some (.int .i64))
 (hm : -9223372036854775808 ≤ i ∧ i ≤ 9223372036854775807) : Ex P n a L Γ ⟨dst, .convert t t' x, ty, pos, af, g⟩ (.int .i64 i) := by
 have h := GH (P := P) (n := n) (a := a) (Γ := Γ) (dst := dst) (ty := ty) (pos := pos) (af := af) (g := g) hx hD hu
 rwa [IntWalk.i64_in _ (by omega)] at h
end
end
section
section
variable {P : Program} {n : NN} {F0 : Nat → Prop} {w0 : World} {a : Act} {w : World} {L : List (Nat × Value)} {Γ : List AT}
theorem St.new (h : St n Ai w0 a w L Γ) {X : AT} (hX : X ∈ Γ) (hm : X.mine = true) : X.ok w ∧ ∀ b, X.F b → w0.heap.size ≤ b :=
 ⟨h.ok X hX, fun b hb => (h.mine X hX hm b hb).resolve_right (fun hf => hf)⟩
def MJ (b off s : Nat) (xs : List (List Value)) : AT := .any (fun k => k = b) (Dz b off s xs) false
theorem Dz.keep {b off s : Nat} {xs : List (List Value)} {w w' : World} (h : Dz b off s xs w) (hw : w'.heap[b]? = w.heap[b]?) : Dz b off s xs w' := by
 intro i x hi j v hj
 rw [World.cell?_of_block (w := w) hw]; exact h i x hi j v hj
theorem ZD {b off s : Nat} {xs : List (List Value)} {w : World} (h : Dz b off s xs w) (hb : b < w.heap.size) : (MJ b off s xs).ok w :=
 ⟨fun k hk => by obtain rfl : k = b := hk; exact hb, fun w' hw => h.keep (hw b rfl)⟩
theorem Vp {b off s : Nat} {xs : List (List Value)} (hm : MJ b off s xs ∈ Γ) {i : Nat} {x : List Value} (hx : xs[i]? = some x) : ∀ w, Hd Γ w → ∀ j v, x[j]? = some v → w.cell? ⟨b, off + i * s + j, none⟩ = some v :=
 fun _ hh j v hj => hh _ hm i x hx j v hj
theorem Nt {w : World} {b E s : Nat} {xs : List (List Value)} {cs : List Value} (h : w.heap[b]? = some (.cells cs.toArray E (0, 0))) (hx : ∀ i x, xs[i]? = some x → ∀ j v, x[j]? = some v → cs[i * s + j]? = some v) : Dz b 0 s xs w := by
 intro i x hi j v hj
 rw [Nat.zero_add]; exact AR h (hx i x hi j v hj)
def C3 (p : Option (Nat × Nat)) (m c : Nat) : Value := .slice (p.map fun q => ⟨q.1, q.2, none⟩) m c
def Jv (p : Option (Nat × Nat)) (s : Nat) (xs : List (List Value)) (w : World) : Prop := match p with | none => xs = [] | some q => Dz q.1 q.2 s xs w
def ZE (p : Option (Nat × Nat)) (s : Nat) (xs : List (List Value)) : AT := .any (fun k => ∃ off, p = some (k, off)) (Jv p s xs) false
theorem Vq {p : Option (Nat × Nat)} {s : Nat} {xs : List (List Value)} {w : World} (h : Jv p s xs w) (hb : ∀ q, p = some q → q.1 < w.heap.size) : (ZE p s xs).ok w := by
 refine ⟨fun k hk => ?_, fun w' hw => ?_⟩
 · obtain ⟨off, rfl⟩ := hk; exact hb _ rfl
 · show Jv p s xs w'
   cases p with
   | none => exact h
   | some q => exact Dz.keep h (hw q.1 ⟨q.2, rfl⟩)
theorem So {b off s : Nat} {xs : List (List Value)} (hm : ZE (some (b, off)) s xs ∈ Γ) {i : Nat} {x : List Value} (hx : xs[i]? = some x) : ∀ w, Hd Γ w → ∀ j v, x[j]? = some v → w.cell? ⟨b, off + i * s + j, none⟩ = some v :=
 fun _ hh j v hj => hh _ hm i x hx j v hj
theorem Gc {α : Type} (enc : α → List Value) (s : Nat) (hl : ∀ x, (enc x).length = s) : ∀ (xs : List α) (i : Nat) (x : α), xs[i]? = some x → ∀ j v, (enc x)[j]? = some v → (xs.flatMap enc)[i * s + j]? = some v := by
 intro xs
 induction xs with
 | nil => intro i x h; simp at h
 | cons y ys ih =>
   intro i x h j v hj
   cases i with
   | zero =>
     simp at h; subst h
     rw [List.flatMap_cons, Nat.zero_mul, Nat.zero_add, List.getElem?_append_left]
     · exact hj
     · exact (List.getElem?_eq_some_iff.1 hj).1
   | succ i =>
     simp at h
     rw [List.flatMap_cons, List.getElem?_append_right (by rw [hl, Nat.add_mul]; omega)]
     have := ih i x h j v hj
     rw [hl, show (i + 1) * s + j - s = i * s + j by rw [Nat.add_mul]; omega]
     exact this
theorem Cc {α : Type} (enc : α → List Value) (s : Nat) (hl : ∀ x, (enc x).length = s) (xs : List α) : (xs.flatMap enc).length = xs.length * s := by
 induction xs with
 | nil => simp
 | cons y ys ih => rw [List.flatMap_cons, List.length_append, ih, hl, List.length_cons, Nat.add_mul]; omega
theorem In {α : Type} {enc : α → List Value} {s b E : Nat} {xs : List α} (hm : AT.blk b (xs.flatMap enc) E ∈ Γ) (hl : ∀ x, (enc x).length = s) {i : Nat} {x : α} (hx : xs[i]? = some x) :
 ∀ w, Hd Γ w → ∀ j v, (enc x)[j]? = some v → w.cell? ⟨b, 0 + i * s + j, none⟩ = some v := fun _ hh j v hj => by
 rw [Nat.zero_add]; exact AR (hh _ hm) (Gc enc s hl xs i x hx j v hj)
theorem MK {α : Type} {enc : α → List Value} {s : Nat} (hl : ∀ x, (enc x).length = s) {w : World} {b E : Nat} {xs : List α} (h : w.heap[b]? = some (.cells (xs.flatMap enc).toArray E (0, 0))) : Dz b 0 s (xs.map enc) w := by
 refine Nt h fun i x hx j v hj => ?_
 rw [List.getElem?_map] at hx
 cases hy : xs[i]? with
 | none => simp [hy] at hx
 | some y => simp [hy] at hx; subst hx; exact Gc enc s hl xs i y hy j v hj
theorem GK {α : Type} {enc : α → List Value} {s : Nat} (hl : ∀ x, (enc x).length = s) {w : World} {b c E m : Nat} {xs : List α} (h : w.ownsRow 0 E s (.slice (some ⟨b, 0, none⟩) m c) m (xs.flatMap enc)) : Dz b 0 s (xs.map enc) w := by
 intro i x hx j v hj
 rw [List.getElem?_map] at hx
 cases hy : xs[i]? with
 | none => simp [hy] at hx
 | some y =>
   simp [hy] at hx; subst hx
   have h1 := Gc enc s hl xs i y hy j v hj
   have h2 := h.cells (g := b) rfl _ _ h1
   rw [BH] at h2
   rw [← h2]; congr 2; omega
theorem Ge {w : World} {E s : Nat} {v : Value} {m : Nat} {xs : List Value} (h : w.ownsRow 0 E s v m xs) (hn : v ≠ .slice none 0 0) : ∃ b c, v = .slice (some ⟨b, 0, none⟩) m c := by
 rcases h.2 with ⟨rfl, rfl⟩ | ⟨g, cap, cur, rfl, _⟩
 · exact absurd rfl hn
 · exact ⟨_, _, rfl⟩
theorem St.split (h : St n F0 w0 a w L Γ) {X Y Z : AT} {Γ' : List AT} (hr : DY Z Y Γ Γ') (hX : X.ok w) (hY : Y.ok w) (hXF : ∀ b, X.F b → Z.F b) (hYF : ∀ b, Y.F b → Z.F b) (hd : ∀ b, X.F b → ¬ Y.F b) (hm : Z.mine = true) : St n F0 w0 a w L (X :: Γ') := by
 have key : ∀ {Γ Γ' : List AT}, DY Z Y Γ Γ' → (∀ V ∈ Γ, V.ok w) → Γ.Pairwise (fun X Y => ∀ b, X.F b → ¬ Y.F b) → (∀ V ∈ Γ', V.ok w) ∧ Γ'.Pairwise (fun X Y => ∀ b, X.F b → ¬ Y.F b) ∧ ∀ V ∈ Γ', ∀ b, X.F b → ¬ V.F b := by
  intro Γ Γ' hr
  induction hr with
  | head =>
    intro hok hp
    have hp' := List.pairwise_cons.1 hp
    refine ⟨fun V hV => ?_, List.pairwise_cons.2 ⟨fun V hV b hb hb' => hp'.1 V hV b (hYF b hb) hb', hp'.2⟩, fun V hV b hb hb' => ?_⟩
    · rcases List.mem_cons.1 hV with rfl | hV
      · exact hY
      · exact hok V (.tail _ hV)
    · rcases List.mem_cons.1 hV with rfl | hV
      · exact hd b hb hb'
      · exact hp'.1 V hV b (hXF b hb) hb'
  | @tail U Γ Γ' hr ih =>
    intro hok hp
    have hp' := List.pairwise_cons.1 hp
    obtain ⟨h1, h2, h3⟩ := ih (fun V hV => hok V (.tail _ hV)) hp'.2
    refine ⟨fun V hV => ?_, List.pairwise_cons.2 ⟨fun V hV b hb hb' => ?_, h2⟩, fun V hV b hb hb' => ?_⟩
    · rcases List.mem_cons.1 hV with rfl | hV
      · exact hok _ (.head _)
      · exact h1 V hV
    · rcases hr.new V hV with rfl | hV
      · exact hp'.1 Z hr.mem b hb (hYF b hb')
      · exact hp'.1 V hV b hb hb'
    · rcases List.mem_cons.1 hV with rfl | hV
      · exact hp'.1 Z hr.mem b hb' (hXF b hb)
      · exact h3 V hV b hb hb'
 obtain ⟨h1, h2, h3⟩ := key hr h.ok h.dis
 refine ⟨h.sl, h.chg, fun V hV => ?_, List.pairwise_cons.2 ⟨h3, h2⟩, fun V hV hmV b hb => ?_⟩
 · rcases List.mem_cons.1 hV with rfl | hV
   · exact hX
   · exact h1 V hV
 · rcases List.mem_cons.1 hV with rfl | hV
   · exact h.mine Z hr.mem hm b (hXF b hb)
   · rcases hr.new V hV with rfl | hV
     · exact h.mine Z hr.mem hm b (hYF b hb)
     · exact h.mine V hV hmV b hb
theorem Io {s : ByteArray} (h : ¬ s = ⟨#[]⟩) : 0 < s.size := by
 rcases Nat.eq_zero_or_pos s.size with h0 | h0
 · exfalso; apply h
   cases s with
   | mk d => simp [ByteArray.size] at h0; subst h0; rfl
 · exact h0
theorem Ae.of_below {f : FuncId} {args : List Value} {v : Value} (h : Calls P f args.toArray w fun e w' => e = .returned v ∧ Below w.heap.size w w') : Ae P f args w v :=
 h.mono fun _ _ ⟨he, hb⟩ => ⟨he, Bd.of_below hb⟩
end
end
section
variable {P : Program} {n : NN} {F0 : Nat → Prop} {w0 w : World} {a : Act} {L : List (Nat × Value)} {Γ : List AT} {dst : Option Nat}
variable {ty : Nat} {pos : String} {af : Array Edge} {g : Option (Nat × Bool)}
theorem FY {T E : TypeId} (h : BD P T = some E) : P.underlying T = some (.slice (P.elem T)) ∧ P.elem T = E := by
 have h1 := BF h
 have h2 : P.elem T = E := by simp [Program.elem, h1]
 exact ⟨by rw [h2]; exact h1, h2⟩
theorem Hu {T E s m c : Nat} {p : Option Addr} {x y : Operand} {k : IntKind} {j : Nat} (hx : ev L x = some (.slice p m c)) (hy : ev L y = some (.int k (j : Int))) (hT : BD P T = some E) (hs : BS P E = some s) (hj : j ≤ c) :
 Ex P n a L Γ ⟨dst, .slice T x none (some y) none, ty, pos, af, g⟩ (.slice p j c) := fun hs' w hh => by
 obtain ⟨h1, h2⟩ := FY hT
 have h3 := run_sliceAt_slice (P := P) (w := w) T (.slice p m c) none (some (.int k (j : Int))) none h1
 have h4 := run_slice_h (P := P) (w := w) T p m c h1 k (j : Int) (by omega) (by omega)
 rw [h2, Bg hs] at h4
 have h5 : sliced p 0 j c s = .slice p j c := by
  unfold sliced
  split
  · simp
  · cases p <;> simp [Addr.add]
 simp [execOp, hs'.ev hx, hs'.ev hy, h3, h4, Result.andThen, h5]
theorem St.swap (h : St n F0 w0 a w L Γ) {X Y : AT} {Γ' : List AT} (hr : DY X Y Γ Γ') (hY : Y.ok w) (hF : ∀ b, Y.F b → X.F b) (hm : X.mine = true) : St n F0 w0 a w L Γ' :=
 h.upd hr (Bd.refl _ _) hY (fun b hb => .inl (hF b hb)) hm
theorem Cg {w : World} {b E s : Nat} (h : w.heap[b]? = some (.cells ([] : List Value).toArray E (0, 0))) : (AJ E s (.slice (some ⟨b, 0, none⟩) 0 0) 0 []).ok w :=
 C2 ⟨by simp, .inr ⟨b, 0, #[], rfl, Nat.zero_le _, h, Nat.le_refl _, Nat.zero_le _, by simp, by simp⟩⟩
section
variable {Q : Exit → Act → World → Prop} {op : Op}
def lA (P : Program) (l : List Oper) (Γs : List AT) (Z : List Nat) (fuel : Nat) (listed : List Bool) (Q : Exit → Act → World → Prop) (a : Act) (w : World) (i : Nat) : Prop :=
 wpOp P l.toArray Q i (fun a' w' => (Hd Γs w → i ∈ Z ∨ Hd Γs w') ∧ DB P l.toArray Q (Hd Γs) Z fuel (listed.toArray.setIfInBounds i true) a' w') a w
def Sq (P : Program) (l : List Oper) (Γs : List AT) (Z : List Nat) (fuel : Nat) (listed : List Bool) (Q : Exit → Act → World → Prop) (a : Act) (w : World) : List Nat → Prop
 | [] => True
 | i :: r => lA P l Γs Z fuel listed Q a w i ∧ Sq P l Γs Z fuel listed Q a w r
theorem Sq.mem {l : List Oper} {Γs : List AT} {Z : List Nat} {fuel : Nat} {listed : List Bool} : ∀ {js : List Nat}, Sq P l Γs Z fuel listed Q a w js → ∀ i ∈ js, lA P l Γs Z fuel listed Q a w i
 | _ :: _, h, i, hi => by
   rcases List.mem_cons.1 hi with rfl | hi
   · exact h.1
   · exact Sq.mem h.2 i hi
theorem Ek {j : Nat} {js : List Nat} {fuel : Nat} {l : List Oper} {Γs : List AT} {Z : List Nat} {listed : List Bool} (hr : Region.ready .any l.toArray listed.toArray = j :: js) (h : Sq P l Γs Z fuel listed Q a w (j :: js)) : DB P l.toArray Q (Hd Γs) Z (fuel + 1) listed.toArray a w := by
 refine ⟨fun h0 => (by rw [hr] at h0; cases h0), fun i hi => ?_⟩
 rw [hr] at hi
 exact h.mem i hi
theorem Ey {i fuel : Nat} {l : List Oper} {Γs : List AT} {Z : List Nat} {listed listed' : List Bool} (hi : l[i]? = some ⟨dst, op, ty, pos, af, g⟩) (hw : Region.wanted ⟨dst, op, ty, pos, af, g⟩ (yielded l.toArray a.tmps) = true) (hl : listed.set i true = listed')
 (h : OW P ⟨dst, op, ty, pos, af, g⟩ a w (fun a' w' => (Hd Γs w → i ∈ Z ∨ Hd Γs w') ∧ DB P l.toArray Q (Hd Γs) Z fuel listed'.toArray a' w') Q) : lA P l Γs Z fuel listed Q a w i := by
 have hi' : l.toArray[i]? = some ⟨dst, op, ty, pos, af, g⟩ := by simpa using hi
 unfold lA wpOp
 simp only [hi']
 rw [if_pos hw]
 subst hl
 refine .inl ?_
 have h := h.h
 simpa using h
end
end
section
variable {n : NN} {F0 : Nat → Prop} {w0 w : World} {a : Act} {L : List (Nat × Value)} {Γ : List AT}
inductive Jw (X : AT) : List AT → List AT → Prop
 | head {Γ : List AT} : Jw X (X :: Γ) Γ
 | tail {Y : AT} {Γ Δ : List AT} (h : Jw X Γ Δ) : Jw X (Y :: Γ) (Y :: Δ)
inductive IA : List AT → List AT → Prop
 | nil {Γ : List AT} : IA Γ []
 | cons {X : AT} {Γ Δ Γ' : List AT} (h : Jw X Γ Δ) (h2 : IA Δ Γ') : IA Γ (X :: Γ')
theorem Jw.perm {X : AT} {Γ Δ : List AT} (h : Jw X Γ Δ) : List.Perm Γ (X :: Δ) := by
 induction h with
 | head => exact List.Perm.refl _
 | tail _ ih => exact (List.Perm.cons _ ih).trans (List.Perm.swap _ _ _)
theorem IA.perm {Γ Γ' : List AT} (h : IA Γ Γ') : ∃ Δ, List.Perm Γ (Γ' ++ Δ) := by
 induction h with
 | nil => exact ⟨_, List.Perm.refl _⟩
 | cons h _ ih =>
   obtain ⟨Δ, hd⟩ := ih
   exact ⟨Δ, h.perm.trans (List.Perm.cons _ hd)⟩
theorem St.pick (h : St n F0 w0 a w L Γ) {Γ' : List AT} (hp : IA Γ Γ') : St n F0 w0 a w L Γ' := by
 obtain ⟨Δ, hd⟩ := hp.perm
 exact (h.perm hd.symm).drop (List.sublist_append_left _ _)
end
section
variable {n : NN} {F0 : Nat → Prop} {w0 w : World} {a : Act} {L : List (Nat × Value)} {Γ : List AT} {X Y : AT}
theorem DN : ∀ X ∈ ([] : List AT), X.ok w := fun _ h => by cases h
theorem B3 (h : X.ok w) (t : ∀ Y ∈ Γ, Y.ok w) : ∀ Y ∈ X :: Γ, Y.ok w := fun Y hY => by
 rcases List.mem_cons.1 hY with rfl | hY
 · exact h
 · exact t Y hY
theorem Aw : ∀ X ∈ ([] : List AT), X.mine = true → ∀ b, X.F b → w.heap.size ≤ b ∨ F0 b := fun _ h => by cases h
theorem BP (h : X.mine = false) (t : ∀ Y ∈ Γ, Y.mine = true → ∀ b, Y.F b → w.heap.size ≤ b ∨ F0 b) : ∀ Y ∈ X :: Γ, Y.mine = true → ∀ b, Y.F b → w.heap.size ≤ b ∨ F0 b := fun Y hY hm b hb => by
 rcases List.mem_cons.1 hY with rfl | hY
 · rw [h] at hm; cases hm
 · exact t Y hY hm b hb
theorem A9 (h : ∀ b, X.F b → F0 b) (t : ∀ Y ∈ Γ, Y.mine = true → ∀ b, Y.F b → w.heap.size ≤ b ∨ F0 b) : ∀ Y ∈ X :: Γ, Y.mine = true → ∀ b, Y.F b → w.heap.size ≤ b ∨ F0 b := fun Y hY hm b hb => by
 rcases List.mem_cons.1 hY with rfl | hY
 · exact .inr (h b hb)
 · exact t Y hY hm b hb
theorem ZF : ([] : List AT).Pairwise (fun X Y => ∀ b, X.F b → ¬ Y.F b) := .nil
theorem Bi : [X].Pairwise (fun X Y => ∀ b, X.F b → ¬ Y.F b) := List.pairwise_singleton _ _
theorem CT (h : ∀ Y ∈ Γ, ∀ b, X.F b → ¬ Y.F b) (t : Γ.Pairwise (fun X Y => ∀ b, X.F b → ¬ Y.F b)) : (X :: Γ).Pairwise (fun X Y => ∀ b, X.F b → ¬ Y.F b) := List.pairwise_cons.2 ⟨h, t⟩
theorem CU : ∀ Y ∈ ([] : List AT), ∀ b, X.F b → ¬ Y.F b := fun _ h => by cases h
theorem CK (h : ∀ b, X.F b → ¬ Y.F b) (t : ∀ Z ∈ Γ, ∀ b, X.F b → ¬ Z.F b) : ∀ Z ∈ Y :: Γ, ∀ b, X.F b → ¬ Z.F b := fun Z hZ => by
 rcases List.mem_cons.1 hZ with rfl | hZ
 · exact h
 · exact t Z hZ
theorem St.sep (h : St n F0 w0 a w L Γ) {Γ' : List AT} (hr : Jw X Γ Γ') (hm : Y ∈ Γ') : ∀ b, X.F b → ¬ Y.F b := by
 have hp := hr.perm
 have h2 := (h.perm hp.symm).dis
 exact (List.pairwise_cons.1 h2).1 Y hm
theorem QX {E L : List (Nat × Value)} {t : Nat} (h : ∀ q ∈ E, q.1 ≠ t) : lk (E ++ L) t = lk L t := by
 induction E with
 | nil => rfl
 | cons q E ih =>
   obtain ⟨s, u⟩ := q
   have h1 : Nat.beq s t = false := EV (h _ (.head _))
   show (bif Nat.beq s t then some u else lk (E ++ L) t) = _
   rw [h1]
   exact ih (fun q hq => h q (.tail _ hq))
def LB (g : Nat) (E L : List (Nat × Value)) : Bool := E.all fun q => Nat.beq q.1 g || L.all fun p => !Nat.beq q.1 p.1
theorem ZG {L : List (Nat × Value)} {t : Nat} {v : Value} (h : lk L t = some v) : ∃ p ∈ L, p.1 = t := by
 induction L with
 | nil => cases h
 | cons q L ih =>
   obtain ⟨s, u⟩ := q
   by_cases e : s = t
   · exact ⟨_, .head _, e⟩
   · have h1 : Nat.beq s t = false := EV e
     have h2 : lk L t = some v := by
      have h3 : (bif Nat.beq s t then some u else lk L t) = some v := h
      rw [h1] at h3; exact h3
     obtain ⟨p, hp, e2⟩ := ih h2
     exact ⟨p, .tail _ hp, e2⟩
theorem St.ends {L' : List (Nat × Value)} (hS : St n F0 w0 a w L' Γ) (m t g : Nat) {u v x y : Value} (h : lk L' t = some u) (he : u = v) (hg : lk L' g = some x) (hg2 : lk (L'.drop m) g = some y) (hxy : x = y) (hk : LB g (L'.take m) (L'.drop m) = true) :
 St n F0 w0 a w ((t, v) :: L'.drop m) Γ := by
 refine hS.act ⟨hS.sl.size, hS.sl.defers, fun s z hz => ?_⟩
 have hz : (bif Nat.beq t s then some v else lk (L'.drop m) s) = some z := hz
 by_cases e : t = s
 · subst e
   have h1 : Nat.beq t t = true := by simp
   rw [h1] at hz; cases hz
   rw [← he]; exact hS.sl.get _ _ h
 · rw [EV e] at hz
   have hz : lk (L'.drop m) s = some z := hz
   by_cases e2 : g = s
   · subst e2
     rw [hg2] at hz; cases hz
     rw [← hxy]; exact hS.sl.get _ _ hg
   · refine hS.sl.get _ _ ?_
     obtain ⟨p, hp, e3⟩ := ZG hz
     rw [← List.take_append_drop m L', QX, hz]
     intro q hq e4
     have h1 := List.all_eq_true.1 hk q hq
     have h2 : Nat.beq q.1 g = false := EV (by rw [e4]; exact fun e5 => e2 e5.symm)
     rw [h2, Bool.false_or] at h1
     have h3 := List.all_eq_true.1 h1 p hp
     rw [e4, e3] at h3
     have h4 : Nat.beq s s = true := by simp
     rw [h4] at h3; cases h3
theorem CG {P : Program} {Q : Exit → Act → World → Prop} {ops : Array Oper} {S : World → Prop} {Z : List Nat} {fuel : Nat} {listed : Array Bool} (fuel' : Nat) (listed' : List Bool) (t : Nat) (v : Value) (_hS : St n F0 w0 a w L Γ) (hseg : (∀ a w, St n F0 w0 a w ((t, v) :: L) Γ → DB P ops Q S Z fuel' listed'.toArray a w) → DB P ops Q S Z fuel listed a w) (hcont : ∀ a w, St n F0 w0 a w ((t, v) :: L) Γ → DB P ops Q S Z fuel' listed'.toArray a w) : DB P ops Q S Z fuel listed a w := hseg hcont
end
section
def Nk : Nat → List (ByteArray × Value) → List MapEntry
 | _, [] => []
 | j, (k, v) :: r => ⟨.string k, v, j⟩ :: Nk (j + 1) r
def Ip (b : Nat) (l : List (ByteArray × Value)) : AT := .mp b (Nk 0 l) l.length
def GL : List (ByteArray × Value) → ByteArray → Nat → Option (Nat × Value)
 | [], _, _ => none
 | (k', v) :: r, k, m => if k' = k then some (m, v) else GL r k (m + 1)
def mZ (l : List (ByteArray × Value)) (k : ByteArray) (z : Value) : Value := match GL l k 0 with | some (_, v) => v | none => z
def Iq : List (ByteArray × Value) → ByteArray → Value → List (ByteArray × Value)
 | [], k, v => [(k, v)]
 | (k', u) :: r, k, v => if k' = k then (k, v) :: r else (k', u) :: Iq r k v
theorem Sr (a b : ByteArray) : (a == b) = decide (a = b) := by
 obtain ⟨x⟩ := a
 obtain ⟨y⟩ := b
 show ByteArray.beq _ _ = _
 simp only [ByteArray.beq, ByteArray.mk.injEq]
 by_cases h : x = y
 · subst h; simp
 · simp [h]
theorem Ss (k : ByteArray) (l : List (ByteArray × Value)) : ∀ j m, Instr.findNow .string (.string k) (Nk j l) m = some (GL l k m) := by
 induction l with
 | nil => intro j m; rfl
 | cons p l ih =>
   obtain ⟨k', v⟩ := p
   intro j m
   simp only [Nk, Instr.findNow, Instr.sameNow, GL]
   rw [Sr]
   by_cases h : k' = k
   · subst h; simp
   · have h2 : decide (k = k') = false := decide_eq_false (fun e => h e.symm)
     rw [h2, if_neg h]
     exact ih _ _
theorem KF {l : List (ByteArray × Value)} {k : ByteArray} {m i : Nat} {v : Value} (h : GL l k m = some (i, v)) : m ≤ i ∧ l[i - m]? = some (k, v) := by
 induction l generalizing m with
 | nil => cases h
 | cons p l ih =>
   obtain ⟨k', u⟩ := p
   simp only [GL] at h
   split at h
   · rename_i e; subst e; cases h; simp
   · obtain ⟨h1, h2⟩ := ih h
     refine ⟨by omega, ?_⟩
     rw [show i - m = (i - (m + 1)) + 1 by omega]
     simpa using h2
theorem Vr {l : List (ByteArray × Value)} {i j : Nat} {k : ByteArray} {v : Value} (h : l[i]? = some (k, v)) : (Nk j l)[i]? = some ⟨.string k, v, j + i⟩ := by
 induction l generalizing i j with
 | nil => cases h
 | cons p l ih =>
   obtain ⟨k', u⟩ := p
   cases i with
   | zero => simp at h; obtain ⟨rfl, rfl⟩ := h; rfl
   | succ i =>
     have := ih (j := j + 1) (by simpa using h)
     show (Nk (j + 1) l)[i]? = _
     rw [this]; congr 2; omega
theorem QY {l : List (ByteArray × Value)} {k : ByteArray} {m i : Nat} {u : Value} (v : Value) (h : GL l k m = some (i, u)) : Iq l k v = l.set (i - m) (k, v) := by
 induction l generalizing m with
 | nil => cases h
 | cons p l ih =>
   obtain ⟨k', x⟩ := p
   simp only [GL] at h
   simp only [Iq]
   split at h
   · rename_i e; cases h; rw [if_pos e]; simp
   · rename_i e
     rw [if_neg e, ih h]
     have := (KF h).1
     rw [show i - m = (i - (m + 1)) + 1 by omega]; rfl
theorem QZ {l : List (ByteArray × Value)} {k : ByteArray} {m : Nat} (v : Value) (h : GL l k m = none) : Iq l k v = l ++ [(k, v)] := by
 induction l generalizing m with
 | nil => rfl
 | cons p l ih =>
   obtain ⟨k', x⟩ := p
   simp only [GL] at h
   simp only [Iq]
   split at h
   · cases h
   · rename_i e; rw [if_neg e, ih h]; rfl
theorem Su (l : List (ByteArray × Value)) (k : ByteArray) (v : Value) : ∀ j, Nk j (l ++ [(k, v)]) = Nk j l ++ [⟨.string k, v, j + l.length⟩] := by
 induction l with
 | nil => intro j; rfl
 | cons p l ih => intro j; simp only [List.cons_append, Nk, ih, List.length_cons]; congr 4; omega
theorem Vs {l : List (ByteArray × Value)} {i : Nat} {k : ByteArray} {u v : Value} : ∀ j, l[i]? = some (k, u) → Nk j (l.set i (k, v)) = (Nk j l).modify i fun e => { e with key := .string k, val := v } := by
 induction l generalizing i with
 | nil => intro j h; cases h
 | cons p l ih =>
   obtain ⟨k', x⟩ := p
   intro j h
   cases i with
   | zero => rfl
   | succ i => simp only [List.set_cons_succ, Nk, List.modify_succ_cons]; rw [ih (j + 1) (by simpa using h)]
def Vt (P : Program) (t : TypeId) : Option Value := (P.info? t).bind (·.zero)
section
variable {P : Program} {n : NN} {F0 : Nat → Prop} {w0 : World} {a : Act} {w : World} {L : List (Nat × Value)} {Γ : List AT}
variable {K : Act → World → Prop} {Q : Exit → Act → World → Prop} {d ty : Nat} {dst : Option Tmp} {pos : String} {af : Array Edge} {g : Option (Nat × Bool)}
theorem ZH {t : TypeId} {z : Value} (h : Vt P t = some z) (w : World) : (zeroValue t).run P w = .ok z w := by
 unfold Vt at h
 cases hi : P.info? t with
 | none => simp [hi] at h
 | some i => simp [hi] at h; simp [zeroValue, typeInfo, hi, h]
theorem KG {T Kt Et b : Nat} {x y : Operand} {k : ByteArray} {l : List (ByteArray × Value)} {z : Value} (hx : ev L x = some (.map (some b))) (hy : ev L y = some (.string k))
 (hT : Sj P T = some (Kt, Et)) (hD : P.underlying Kt = some .string) (hz : Vt P Et = some z) (hm : Ip b l ∈ Γ) : Ex P n a L Γ ⟨dst, .lookup T x y false, ty, pos, af, g⟩ (mZ l k z) := fun hs w hh => by
 have hb : w.heap[b]? = some (.map (Nk 0 l).toArray l.length) := hh _ hm
 have hck := FV (P := P) (w := w) hD rfl ((Nk 0 l).isEmpty) 9999 (.string k)
 have hf := Ss k l 0 0
 simp only [execOp, hs.ev hx, hs.ev hy, Instr.lookup, Sem.run_bind, underlying, run_program, Result.andThen_ok, O6 hT, Sem.run_pure]
 unfold mZ
 cases hi : GL l k 0 with
 | none => rw [hi] at hf; simp [getObj, Sem.run, hb, hck, Instr.findKey, underlying, hD, hf, ZH hz]
 | some p => obtain ⟨i, v⟩ := p; rw [hi] at hf; simp [getObj, Sem.run, hb, hck, Instr.findKey, underlying, hD, hf]
theorem Vu {T Kt Et b : Nat} {x y z : Operand} {k : ByteArray} {v : Value} {l : List (ByteArray × Value)} {Γ' : List AT} (hS : St n F0 w0 a w L Γ) (hx : ev L x = some (.map (some b))) (hy : ev L y = some (.string k)) (hz : ev L z = some v)
 (hT : Sj P T = some (Kt, Et)) (hD : P.underlying Kt = some .string) (hr : DY (Ip b l) (Ip b (Iq l k v)) Γ Γ')
 (h : ∀ w', St n F0 w0 a w' L Γ' → K a w') : OW P ⟨none, .mapUpdate T x y z, ty, pos, af, g⟩ a w K Q := by
 have hb : w.heap[b]? = some (.map (Nk 0 l).toArray l.length) := hS.get hr.mem
 have hlt := (Array.getElem?_eq_some_iff.1 hb).1
 have hck := FV (P := P) (w := w) hD rfl false 9999 (.string k)
 have hf := Ss k l 0 0
 have hres : ∃ w', (execOp a.eval (⟨none, .mapUpdate T x y z, ty, pos, af, g⟩ : Oper)).run P w = .ok .skip w' ∧ w' = { w with heap := w.heap.setIfInBounds b (.map (Nk 0 (Iq l k v)).toArray (Iq l k v).length) } := by
  refine ⟨_, ?_, rfl⟩
  simp only [execOp, hS.sl.ev hx, hS.sl.ev hy, hS.sl.ev hz, Instr.mapUpdate, Sem.run_bind, underlying, run_program, Result.andThen_ok, O6 hT, Sem.run_pure]
  cases hi : GL l k 0 with
  | none =>
    rw [hi] at hf
    rw [QZ v hi, Su]
    simp [getObj, Sem.run, hb, hck, Instr.findKey, underlying, hD, hf, setObj]
  | some p =>
    obtain ⟨i, u⟩ := p
    rw [hi] at hf
    obtain ⟨_, hg⟩ := KF hi
    rw [Nat.sub_zero] at hg
    have hsm := QY v hi
    rw [Nat.sub_zero] at hsm
    have hmk := Vr (j := 0) hg
    rw [hsm, Vs (u := u) 0 hg]
    simp [getObj, Sem.run, hb, hck, Instr.findKey, underlying, hD, hf, setObj, Instr.keyThatStays, hmk, Instr.sameBits, Sr]
 obtain ⟨w', he, rfl⟩ := hres
 refine ⟨?_⟩
 unfold Oper.wp
 rw [he]
 refine h _ (hS.upd hr ⟨rfl, rfl, rfl, by simp, fun q hq hne => ?_⟩ ⟨fun q hq => ?_, fun w' hw => ?_⟩ (fun q hq => .inl hq) rfl)
 · have : b ≠ q := fun e => hne e.symm
   simp [Array.getElem?_setIfInBounds_ne this]
 · obtain rfl : q = b := hq; simpa using hlt
 · show w'.heap[b]? = _
   rw [hw _ rfl]; simp [hlt]
theorem Nu {T : TypeId} (hS : St n F0 w0 a w L Γ) (hn : Nat.blt d n.n = true)
 (h : ∀ a' w' b, St n F0 w0 a' w' ((d, .map (some b)) :: L) (Ip b [] :: Γ) → K a' w') : OW P ⟨some d, .makeMap T none, ty, pos, af, g⟩ a w K Q :=
 QU hS hn h
end
end
section
section
variable {P : Program} {n : NN} {F0 : Nat → Prop} {w0 w : World} {a : Act} {L : List (Nat × Value)} {Γ : List AT} {Q : Exit → Act → World → Prop} {d : Nat} {ops : Array Oper} {rest : List Oper}
variable {op : Op} {ty : TypeId} {pos : String} {af : Array Edge} {g : Option (Nat × Bool)}
def tf (a b : Nat) : List Bool := List.replicate a true ++ List.replicate b false
theorem Co {v : Value} (hS : St n F0 w0 a w L Γ) (he : Ex P n a L Γ ⟨some d, op, ty, pos, af, none⟩ v) (hn : Nat.blt d n.n = true)
 (h : ∀ a', St n F0 w0 a' w ((d, v) :: L) Γ → wpList P ops Q rest a' w) : wpList P ops Q (⟨some d, op, ty, pos, af, none⟩ :: rest) a w := Aa (FU hS he hn h)
theorem fA {l : List Oper} {j t : Nat} {b : Bool} {v : Value} (hS : St n F0 w0 a w L Γ) (hj : CX l j = some t) (hv : lk L t = some (.bool b)) (he : Ex P n a L Γ ⟨some d, op, ty, pos, af, some (j, b)⟩ v) (hn : Nat.blt d n.n = true)
 (h : ∀ a', St n F0 w0 a' w ((d, v) :: L) Γ → wpList P l.toArray Q rest a' w) : wpList P l.toArray Q (⟨some d, op, ty, pos, af, some (j, b)⟩ :: rest) a w := Vm hS hj hv (FU hS he hn h)
def O9 (l : List Oper) (m : List Bool) (i : Nat) : Bool := Region.noSelect l.toArray && Region.free .any l.toArray m.toArray i && (Region.ready .any l.toArray m.toArray).contains i
def cZ (l : List Oper) (m : List Bool) (Z : List Nat) (i : Nat) : Bool := O9 l m i && (IK l.toArray m.toArray && O4 l.toArray Z i)
theorem DH {l : List Oper} {m : List Bool} {i : Nat} (h : O9 l m i = true) : Region.noSelect l.toArray = true ∧ Region.free .any l.toArray m.toArray i = true ∧ (Region.ready .any l.toArray m.toArray).contains i = true := by
 unfold O9 at h
 rw [Bool.and_eq_true, Bool.and_eq_true] at h
 exact ⟨h.1.1, h.1.2, h.2⟩
theorem Ir {l : List Oper} {m : List Bool} {Z : List Nat} {i : Nat} (h : cZ l m Z i = true) : O9 l m i = true ∧ IK l.toArray m.toArray = true ∧ O4 l.toArray Z i = true := by
 unfold cZ at h
 rw [Bool.and_eq_true, Bool.and_eq_true] at h
 exact ⟨h.1, h.2.1, h.2.2⟩
theorem dA (i : Nat) (m : List Bool) {fuel : Nat} {l : List Oper} {Γs : List AT} {Z : List Nat} {listed : List Bool} {v : Value} (hS : St n F0 w0 a w L Γ) (hi : l[i]? = some ⟨some d, op, ty, pos, af, g⟩) (hw : ∀ a, Sl n a L → Region.wanted ⟨some d, op, ty, pos, af, g⟩ (yielded l.toArray a.tmps) = true) (he : Ex P n a L [] ⟨some d, op, ty, pos, af, g⟩ v)
 (hl : listed.set i true = m) (hk : O9 l listed i = true) (hn : Nat.blt d n.n = true)
 (h : ∀ a', St n F0 w0 a' w ((d, v) :: L) Γ → DB P l.toArray Q (Hd Γs) Z fuel m.toArray a' w) (hQ : ∀ c a w, Q (.panic c) (a.put (some d) v) w → Q (.panic c) a w := by exact fun _ _ _ h => h) : DB P l.toArray Q (Hd Γs) Z (fuel + 1) listed.toArray a w :=
 Vn hS hi hw he hl (DH hk).1 (DH hk).2.1 (DH hk).2.2 hQ hn h
theorem Zt (i : Nat) (m : List Bool) {fuel : Nat} {l : List Oper} {Γs : List AT} {Z : List Nat} {listed : List Bool} {v : Value} (hS : St n F0 w0 a w L Γ) (hi : l[i]? = some ⟨some d, op, ty, pos, af, g⟩) (hw : ∀ a, Sl n a L → Region.wanted ⟨some d, op, ty, pos, af, g⟩ (yielded l.toArray a.tmps) = true) (he : Ex P n a L Γs ⟨some d, op, ty, pos, af, g⟩ v)
 (hl : listed.set i true = m) (hk : cZ l listed Z i = true) (hsub : ∀ X ∈ Γs, X ∈ Γ) (hn : Nat.blt d n.n = true)
 (h : ∀ a', St n F0 w0 a' w ((d, v) :: L) Γ → DB P l.toArray Q (Hd Γs) Z fuel m.toArray a' w) (hQ : ∀ c a w, Q (.panic c) (a.put (some d) v) w → Q (.panic c) a w := by exact fun _ _ _ h => h) : DB P l.toArray Q (Hd Γs) Z (fuel + 1) listed.toArray a w :=
 ZC hS hi hw he hl (DH (Ir hk).1).1 (DH (Ir hk).1).2.1 (DH (Ir hk).1).2.2 (Ir hk).2.1 (Ir hk).2.2 hsub hQ hn h
theorem nA (i : Nat) (m : List Bool) {j t fuel : Nat} {l : List Oper} {Γs : List AT} {Z : List Nat} {listed : List Bool} (hS : St n F0 w0 a w L Γ) (hi : l[i]? = some ⟨some d, op, ty, pos, af, some (j, true)⟩) (hj : CX l j = some t) (hv : lk L t = some (.bool false))
 (hl : listed.set i true = m) (hk : O9 l listed i = true) (hn : Nat.blt d n.n = true)
 (h : ∀ a', St n F0 w0 a' w ((d, undef) :: L) Γ → DB P l.toArray Q (Hd Γs) Z fuel m.toArray a' w) (hQ : ∀ c a w, Q (.panic c) (a.put (some d) undef) w → Q (.panic c) a w := by exact fun _ _ _ h => h) : DB P l.toArray Q (Hd Γs) Z (fuel + 1) listed.toArray a w :=
 Se hS hi hj hv hl (DH hk).1 (DH hk).2.1 (DH hk).2.2 hQ hn h
theorem nC (i : Nat) (m : List Bool) {j t fuel : Nat} {l : List Oper} {Γs : List AT} {Z : List Nat} {listed : List Bool} (hS : St n F0 w0 a w L Γ) (hi : l[i]? = some ⟨some d, op, ty, pos, af, some (j, false)⟩) (hj : CX l j = some t) (hv : lk L t = some (.bool true))
 (hl : listed.set i true = m) (hk : O9 l listed i = true) (hn : Nat.blt d n.n = true)
 (h : ∀ a', St n F0 w0 a' w ((d, undef) :: L) Γ → DB P l.toArray Q (Hd Γs) Z fuel m.toArray a' w) (hQ : ∀ c a w, Q (.panic c) (a.put (some d) undef) w → Q (.panic c) a w := by exact fun _ _ _ h => h) : DB P l.toArray Q (Hd Γs) Z (fuel + 1) listed.toArray a w :=
 Sf hS hi hj hv hl (DH hk).1 (DH hk).2.1 (DH hk).2.2 hQ hn h
theorem nD (i : Nat) (m : List Bool) {j t fuel : Nat} {b : Bool} {l : List Oper} {Γs : List AT} {Z : List Nat} {listed : List Bool} (hS : St n F0 w0 a w L Γ) (hi : l[i]? = some ⟨some d, op, ty, pos, af, some (j, b)⟩) (hj : CX l j = some t) (hv : lk L t = some undef)
 (hl : listed.set i true = m) (hk : O9 l listed i = true) (hn : Nat.blt d n.n = true)
 (h : ∀ a', St n F0 w0 a' w ((d, undef) :: L) Γ → DB P l.toArray Q (Hd Γs) Z fuel m.toArray a' w) (hQ : ∀ c a w, Q (.panic c) (a.put (some d) undef) w → Q (.panic c) a w := by exact fun _ _ _ h => h) : DB P l.toArray Q (Hd Γs) Z (fuel + 1) listed.toArray a w :=
 Sg hS hi hj hv hl (DH hk).1 (DH hk).2.1 (DH hk).2.2 hQ hn h
end
section
variable {P : Program} {n : NN} {F0 : Nat → Prop} {w0 w : World} {a : Act} {L : List (Nat × Value)} {Γ : List AT} {Q : Exit → Act → World → Prop}
variable {op : Op} {ty : TypeId} {pos : String} {af : Array Edge} {g : Option (Nat × Bool)} {dst : Option Nat}
theorem Zo (i : Nat) (m : List Bool) {fuel : Nat} {l : List Oper} {Γs : List AT} {Z : List Nat} {listed : List Bool} (hS : St n F0 w0 a w L Γ) (hi : l[i]? = some ⟨dst, op, ty, pos, af, g⟩) (hw : ∀ a, Sl n a L → Region.wanted ⟨dst, op, ty, pos, af, g⟩ (yielded l.toArray a.tmps) = true) (hl : listed.set i true = m)
 (h : OW P ⟨dst, op, ty, pos, af, g⟩ a w (fun a' w' => (Hd Γs w → i ∈ Z ∨ Hd Γs w') ∧ DB P l.toArray Q (Hd Γs) Z fuel m.toArray a' w') Q) (hr : Region.ready .any l.toArray listed.toArray = [i] := by kernel_rfl) : DB P l.toArray Q (Hd Γs) Z (fuel + 1) listed.toArray a w :=
 Sh hi (hw a hS.sl) hl hr h
theorem St.gg {X : AT} (h : St n F0 w0 a w L Γ) (hm : X ∈ Γ := by repeat constructor) : X.φ w := h.get hm
end
abbrev nL := @YG
abbrev nT := @SM
abbrev cS := @YA
abbrev cR := @MF
abbrev wS := @wp_skip
abbrev wB := @wp_block
abbrev wN := @Ab
end
section
class Ad {α : Type} (x : α) (y : outParam α) : Prop where
 h : x = y := by kernel_rfl
abbrev oR {α : Type} (T s : Nat) (q : Option Addr) (xs : List α) (c : Nat) (e : α → List Value) : AT := AJ T s (.slice q xs.length c) xs.length (xs.flatMap e)
theorem A6 {P : Program} {f : FuncId} {fn : Func} (hf : P.funcs[f]? = some fn) (h1 : (fn.name == "runtime.NumGoroutine") = false := by kernel_rfl) (h2 : fn.body.isNone = false := by kernel_rfl) : AA P f := Vj hf h1 h2
section
variable {P : Program} {n : NN} {F0 : Nat → Prop} {w0 : World} {L L' : List (Nat × Value)} {Γ Γ' : List AT} {Q : Exit → Act → World → Prop} {K : Act → World → Prop} {G G' : Act → World → Prop}
variable {op : Op} {ty d : TypeId} {pos : String} {af : Array Edge} {g : Option (Nat × Bool)} {dst : Option Nat}
inductive Wk (P : Program) (n : NN) (Γ : List AT) : Nat → List (Nat × Value) → (Act → World → Prop) → List (Nat × Value) → (Act → World → Prop) → Prop
 | z {L : List (Nat × Value)} {G : Act → World → Prop} : Wk P n Γ 0 L G L G
 | nL {k : Nat} {L L' : List (Nat × Value)} {ops : Array Oper} {Q : Exit → Act → World → Prop} {G' : Act → World → Prop} (h : Wk P n Γ k L (Q .normal) L' G') : Wk P n Γ (k + 1) L (wpList P ops Q []) L' G'
 | nT {k : Nat} {L L' : List (Nat × Value)} {N : Act → World → Prop} {Q : Exit → Act → World → Prop} {G' : Act → World → Prop} (h : Wk P n Γ k L N L' G') : Wk P n Γ (k + 1) L (Exit.then N Q .normal) L' G'
 | cS {k : Nat} {L L' : List (Nat × Value)} {x y : Code} {Q : Exit → Act → World → Prop} {G' : Act → World → Prop} (h : Wk P n Γ k L (x.wp P (Exit.then (y.wp P Q) Q)) L' G') : Wk P n Γ (k + 1) L ((Code.seq x y).wp P Q) L' G'
 | cR {k id : Nat} {L L' : List (Nat × Value)} {l : List Oper} {Q : Exit → Act → World → Prop} {G' : Act → World → Prop} (h : Wk P n Γ k L (wpList P l.toArray Q l) L' G') : Wk P n Γ (k + 1) L ((Code.region id l.toArray false).wp P Q) L' G'
 | wS {k : Nat} {L L' : List (Nat × Value)} {Q : Exit → Act → World → Prop} {G' : Act → World → Prop} (h : Wk P n Γ k L (Q .normal) L' G') : Wk P n Γ (k + 1) L (Code.skip.wp P Q) L' G'
 | wB {k i : Nat} {L L' : List (Nat × Value)} {c : Code} {Q : Exit → Act → World → Prop} {G' : Act → World → Prop} (h : Wk P n Γ k L (c.wp P (Exit.inBlock i Q)) L' G') : Wk P n Γ (k + 1) L ((Code.block i c).wp P Q) L' G'
 | nB {k i : Nat} {L L' : List (Nat × Value)} {Q : Exit → Act → World → Prop} {G' : Act → World → Prop} (h : Wk P n Γ k L (Q .normal) L' G') : Wk P n Γ (k + 1) L (Exit.inBlock i Q .normal) L' G'
 | wR {k : Nat} {L L' : List (Nat × Value)} {Q : Exit → Act → World → Prop} {G' : Act → World → Prop} (h : Wk P n Γ k L (Q .ret) L' G') : Wk P n Γ (k + 1) L (Code.ret.wp P Q) L' G'
 | rT {k : Nat} {L L' : List (Nat × Value)} {N : Act → World → Prop} {Q : Exit → Act → World → Prop} {G' : Act → World → Prop} (h : Wk P n Γ k L (Q .ret) L' G') : Wk P n Γ (k + 1) L (Exit.then N Q .ret) L' G'
 | rB {k i : Nat} {L L' : List (Nat × Value)} {Q : Exit → Act → World → Prop} {G' : Act → World → Prop} (h : Wk P n Γ k L (Q .ret) L' G') : Wk P n Γ (k + 1) L (Exit.inBlock i Q .ret) L' G'
 | wX {k i : Nat} {L L' : List (Nat × Value)} {Q : Exit → Act → World → Prop} {G' : Act → World → Prop} (h : Wk P n Γ k L (Q (.exit i)) L' G') : Wk P n Γ (k + 1) L ((Code.exit i).wp P Q) L' G'
 | xT {k i : Nat} {L L' : List (Nat × Value)} {N : Act → World → Prop} {Q : Exit → Act → World → Prop} {G' : Act → World → Prop} (h : Wk P n Γ k L (Q (.exit i)) L' G') : Wk P n Γ (k + 1) L (Exit.then N Q (.exit i)) L' G'
 | xH {k i : Nat} {L L' : List (Nat × Value)} {Q : Exit → Act → World → Prop} {G' : Act → World → Prop} (h : Wk P n Γ k L (Q .normal) L' G') : Wk P n Γ (k + 1) L (Exit.inBlock i Q (.exit i)) L' G'
 | it {k : Nat} {L L' : List (Nat × Value)} {c : Operand} {x y : Code} {Q : Exit → Act → World → Prop} {G' : Act → World → Prop} (hc : ev L c = some (.bool true)) (h : Wk P n Γ k L (x.wp P Q) L' G') : Wk P n Γ (k + 1) L ((Code.cond c x y).wp P Q) L' G'
 | jf {k : Nat} {L L' : List (Nat × Value)} {c : Operand} {x y : Code} {Q : Exit → Act → World → Prop} {G' : Act → World → Prop} (hc : ev L c = some (.bool false)) (h : Wk P n Γ k L (y.wp P Q) L' G') : Wk P n Γ (k + 1) L ((Code.cond c x y).wp P Q) L' G'
 | zd {k : Nat} {L L' : List (Nat × Value)} {l : List Oper} {Γs : List AT} {Z : List Nat} {listed : List Bool} {Q : Exit → Act → World → Prop} {G' : Act → World → Prop} (hr : Region.ready .any l.toArray listed.toArray = []) (h : Wk P n Γ k L (Q .normal) L' G') : Wk P n Γ (k + 1) L (DB P l.toArray Q (Hd Γs) Z 0 listed.toArray) L' G'
 | c {k d : Nat} {L L' : List (Nat × Value)} {ops : Array Oper} {op : Op} {ty : TypeId} {pos : String} {af : Array Edge} {v : Value} {os : List Oper} {Q : Exit → Act → World → Prop} {G' : Act → World → Prop} (he : ∀ a : Act, Ex P n a L Γ ⟨some d, op, ty, pos, af, none⟩ v) (hn : Nat.blt d n.n = true) (h : Wk P n Γ k ((d, v) :: L) (wpList P ops Q os) L' G') : Wk P n Γ (k + 1) L (wpList P ops Q (⟨some d, op, ty, pos, af, none⟩ :: os)) L' G'
 | gd {k d j t : Nat} {b : Bool} {l : List Oper} {L L' : List (Nat × Value)} {op : Op} {ty : TypeId} {pos : String} {af : Array Edge} {v : Value} {os : List Oper} {Q : Exit → Act → World → Prop} {G' : Act → World → Prop} (hj : CX l j = some t) (hv : lk L t = some (.bool b)) (he : ∀ a : Act, Ex P n a L Γ ⟨some d, op, ty, pos, af, some (j, b)⟩ v) (hn : Nat.blt d n.n = true) (h : Wk P n Γ k ((d, v) :: L) (wpList P l.toArray Q os) L' G') : Wk P n Γ (k + 1) L (wpList P l.toArray Q (⟨some d, op, ty, pos, af, some (j, b)⟩ :: os)) L' G'
 | st {k d j t : Nat} {l : List Oper} {L L' : List (Nat × Value)} {op : Op} {ty : TypeId} {pos : String} {af : Array Edge} {os : List Oper} {Q : Exit → Act → World → Prop} {G' : Act → World → Prop} (hj : CX l j = some t) (hv : lk L t = some (.bool false)) (hn : Nat.blt d n.n = true) (h : Wk P n Γ k ((d, undef) :: L) (wpList P l.toArray Q os) L' G') : Wk P n Γ (k + 1) L (wpList P l.toArray Q (⟨some d, op, ty, pos, af, some (j, true)⟩ :: os)) L' G'
 | sf {k d j t : Nat} {l : List Oper} {L L' : List (Nat × Value)} {op : Op} {ty : TypeId} {pos : String} {af : Array Edge} {os : List Oper} {Q : Exit → Act → World → Prop} {G' : Act → World → Prop} (hj : CX l j = some t) (hv : lk L t = some (.bool true)) (hn : Nat.blt d n.n = true) (h : Wk P n Γ k ((d, undef) :: L) (wpList P l.toArray Q os) L' G') : Wk P n Γ (k + 1) L (wpList P l.toArray Q (⟨some d, op, ty, pos, af, some (j, false)⟩ :: os)) L' G'
 | su {k d j t : Nat} {b : Bool} {l : List Oper} {L L' : List (Nat × Value)} {op : Op} {ty : TypeId} {pos : String} {af : Array Edge} {os : List Oper} {Q : Exit → Act → World → Prop} {G' : Act → World → Prop} (hj : CX l j = some t) (hv : lk L t = some undef) (hn : Nat.blt d n.n = true) (h : Wk P n Γ k ((d, undef) :: L) (wpList P l.toArray Q os) L' G') : Wk P n Γ (k + 1) L (wpList P l.toArray Q (⟨some d, op, ty, pos, af, some (j, b)⟩ :: os)) L' G'
theorem Wk.gow {k : Nat} {w : World} (h : Wk P n Γ k L G L' G') (hk : ∀ a, St n F0 w0 a w L' Γ → G' a w) : ∀ a, St n F0 w0 a w L Γ → G a w := by
 induction h with
 | z => exact hk
 | nL _ ih => exact fun a hS => YG (ih hk a hS)
 | nT _ ih => exact fun a hS => SM (ih hk a hS)
 | cS _ ih => exact fun a hS => YA (ih hk a hS)
 | cR _ ih => exact fun a hS => MF (ih hk a hS)
 | wS _ ih => exact fun a hS => wp_skip (ih hk a hS)
 | wB _ ih => exact fun a hS => wp_block (ih hk a hS)
 | nB _ ih => exact fun a hS => Fo (ih hk a hS)
 | wR _ ih => exact fun a hS => wp_ret (ih hk a hS)
 | rT _ ih => exact fun a hS => AC (ih hk a hS)
 | rB _ ih => exact fun a hS => AD (ih hk a hS)
 | wX _ ih => exact fun a hS => wp_exit (ih hk a hS)
 | xT _ ih => exact fun a hS => AH (ih hk a hS)
 | xH _ ih => exact fun a hS => Aj (ih hk a hS)
 | it hc _ ih => exact fun a hS => Np hS hc (ih hk a hS)
 | jf hc _ ih => exact fun a hS => SY hS hc (ih hk a hS)
 | zd hr _ ih => exact fun a hS => Si hr (ih hk a hS)
 | c he hn _ ih => exact fun a hS => Co hS (he a) hn fun a' hS' => ih hk a' hS'
 | gd hj hv he hn _ ih => exact fun a hS => fA hS hj hv (he a) hn fun a' hS' => ih hk a' hS'
 | st hj hv hn _ ih => exact fun a hS => SV hS hj hv hn fun a' hS' => ih hk a' hS'
 | sf hj hv hn _ ih => exact fun a hS => SW hS hj hv hn fun a' hS' => ih hk a' hS'
 | su hj hv hn _ ih => exact fun a hS => SX hS hj hv hn fun a' hS' => ih hk a' hS'
theorem Wk.go {k : Nat} (h : Wk P n Γ k L G L' G') (hk : ∀ a w, St n F0 w0 a w L' Γ → G' a w) : ∀ a w, St n F0 w0 a w L Γ → G a w := fun a w hS => h.gow (fun a hS => hk a w hS) a hS
theorem ZI {a : Act} {x : Operand} {T E : TypeId} {p : Option Addr} {m c : Nat} (hx : ev L x = some (.slice p m c)) [hu : Ad (BD P T) (some E)] : Ex P n a L Γ ⟨dst, .call ⟨.builtin .len, #[x], #[T]⟩, ty, pos, af, g⟩ (.int .i64 (m : Int)) := YF hx rfl hu.h
theorem ZJ {a : Act} {x : Operand} {T : TypeId} {s : ByteArray} (hx : ev L x = some (.string s)) [hu : Ad (P.underlying T) (some .string)] : Ex P n a L Γ ⟨dst, .call ⟨.builtin .len, #[x], #[T]⟩, ty, pos, af, g⟩ (.int .i64 (s.size : Int)) := ZA hx rfl hu.h
theorem ExA.go {a : Act} {o : Oper} {v : Value} (h : Ex P n a L Γ o v := by first | ((with_reducible apply CJ); exact rfl) | ((with_reducible apply Ak); exact rfl) | ((with_reducible apply C6); (· exact rfl); (· exact Ad.h)) | ((with_reducible apply eX); (· exact rfl); (· exact Ad.h)) | ((with_reducible apply No); (· exact rfl); (· repeat constructor); (· exact Ad.h); (· exact rfl)) | ((with_reducible apply K2); (· exact rfl); (· repeat constructor); (· exact Ad.h); (· exact Ad.h); (· exact rfl)) | ((with_reducible apply SS); (· exact rfl); (· exact rfl); (· exact rfl); (· omega)) | ((with_reducible apply SR); (· exact rfl); (· exact rfl); (· exact rfl)) | ((with_reducible apply Y8); (· exact rfl); (· exact rfl); (· exact rfl)) | ((with_reducible apply HV); (· exact rfl); (· exact rfl)) | ((with_reducible apply SO); (· exact rfl); (· exact rfl)) | ((with_reducible apply SP); (· exact rfl); (· exact rfl)) | ((with_reducible apply Bh); (· exact rfl)) | ((with_reducible apply YD); (· exact rfl)) | exact ZI rfl | exact ZJ rfl | ((with_reducible apply Cl); (· exact Ad.h); (· exact Ad.h); (· repeat (first | exact GB.nil | (apply GB.one; (· exact rfl); (· exact rfl); (· exact rfl); (· repeat constructor))))) | ((with_reducible apply BI); (· exact rfl); (· exact rfl); (· exact Ad.h); (· exact Ad.h); (· omega)) | ((with_reducible apply O5); (· exact rfl); (· exact rfl); (· exact Ad.h); (· omega))) : Ex P n a L Γ o v := h
theorem Wk.au {k : Nat} (h : Wk P n Γ k L G L' G' := by repeat (first | with_reducible exact Wk.z | with_reducible apply Wk.nT | with_reducible apply Wk.cS | with_reducible apply Wk.cR | with_reducible apply Wk.nL | with_reducible apply Wk.wS | with_reducible apply Wk.wB | with_reducible apply Wk.nB | with_reducible apply Wk.wR | with_reducible apply Wk.rT | with_reducible apply Wk.rB | with_reducible apply Wk.wX | with_reducible apply Wk.xT | with_reducible apply Wk.xH | ((with_reducible apply Wk.c); (· intro _ <;> exact ExA.go); (· exact rfl)) | ((with_reducible apply Wk.gd); (· exact rfl); (· exact rfl); (· intro _ <;> exact ExA.go); (· exact rfl)) | ((with_reducible apply Wk.st); (· exact rfl); (· exact rfl); (· exact rfl)) | ((with_reducible apply Wk.sf); (· exact rfl); (· exact rfl); (· exact rfl)) | ((with_reducible apply Wk.su); (· exact rfl); (· exact rfl); (· exact rfl)) | ((with_reducible apply Wk.it); (· exact rfl)) | ((with_reducible apply Wk.jf); (· exact rfl)) | ((with_reducible apply Wk.zd); (· kernel_rfl)))) : Wk P n Γ k L G L' G' := h
theorem Wn (k : Nat) (hk : ∀ a w, St n F0 w0 a w L' Γ → G' a w) (h : Wk P n Γ k L G L' G' := by exact Wk.au) : ∀ a w, St n F0 w0 a w L Γ → G a w := h.go hk
theorem Wq (k : Nat) {a : Act} {w : World} (hS : St n F0 w0 a w L Γ) (hk : ∀ a, St n F0 w0 a w L' Γ → G' a w) (h : Wk P n Γ k L G L' G' := by exact Wk.au) : G a w := h.gow hk a hS
theorem Wh (k : Nat) {a : Act} {w : World} (hS : St n F0 w0 a w L Γ) (hk : ∀ a w, St n F0 w0 a w L' Γ → G' a w) (h : Wk P n Γ k L G L' G' := by exact Wk.au) : G a w := h.go hk a w hS
theorem Un {a : Act} {w : World} (hS : St n F0 w0 a w L Γ) (hk : ∀ a w, St n F0 w0 a w L Γ → G a w) : G a w := hk a w hS
theorem Xp {ops : Array Oper} {os : List Oper} {v : Value} (he : ∀ {a : Act}, Ex P n a L Γ ⟨some d, op, ty, pos, af, none⟩ v) (hk : ∀ a w, St n F0 w0 a w ((d, v) :: L) Γ → wpList P ops Q os a w) (hn : Nat.blt d n.n = true := by exact rfl) : ∀ a w, St n F0 w0 a w L Γ → wpList P ops Q (⟨some d, op, ty, pos, af, none⟩ :: os) a w := fun _ w hS => Co hS he hn fun a' => hk a' w
theorem Xg {l os : List Oper} {j t : Nat} {b : Bool} {v : Value} (he : ∀ {a : Act}, Ex P n a L Γ ⟨some d, op, ty, pos, af, some (j, b)⟩ v) (hk : ∀ a w, St n F0 w0 a w ((d, v) :: L) Γ → wpList P l.toArray Q os a w) (hj : CX l j = some t := by exact rfl) (hv : lk L t = some (.bool b) := by exact rfl) (hn : Nat.blt d n.n = true := by exact rfl) : ∀ a w, St n F0 w0 a w L Γ → wpList P l.toArray Q (⟨some d, op, ty, pos, af, some (j, b)⟩ :: os) a w := fun _ w hS => fA hS hj hv he hn fun a' => hk a' w
theorem iD {c : Operand} {x y : Code} {p : Prop} [hp : Decidable p] (h1 : p → ∀ a w, St n F0 w0 a w L Γ → x.wp P Q a w) (h2 : ¬ p → ∀ a w, St n F0 w0 a w L Γ → y.wp P Q a w) (hc : ev L c = some (.bool (decide p)) := by exact rfl) : ∀ a w, St n F0 w0 a w L Γ → (Code.cond c x y).wp P Q a w := fun a w hS => eY hS hc (fun h => h1 h a w hS) fun h => h2 h a w hS
theorem iB {c : Operand} {x y : Code} {b : Bool} (h1 : b = true → ∀ a w, St n F0 w0 a w L Γ → x.wp P Q a w) (h2 : b = false → ∀ a w, St n F0 w0 a w L Γ → y.wp P Q a w) (hc : ev L c = some (.bool b) := by exact rfl) : ∀ a w, St n F0 w0 a w L Γ → (Code.cond c x y).wp P Q a w := fun a w hS => SZ hS hc (fun h => h1 h a w hS) fun h => h2 h a w hS
theorem Lo {ops : Array Oper} {os : List Oper} (h : ∀ a w, St n F0 w0 a w L Γ → OW P ⟨dst, op, ty, pos, af, none⟩ a w (wpList P ops Q os) Q) : ∀ a w, St n F0 w0 a w L Γ → wpList P ops Q (⟨dst, op, ty, pos, af, none⟩ :: os) a w := fun a w hS => Aa (h a w hS)
theorem Lg {l os : List Oper} {j t : Nat} {b : Bool} (h : ∀ a w, St n F0 w0 a w L Γ → OW P ⟨dst, op, ty, pos, af, some (j, b)⟩ a w (wpList P l.toArray Q os) Q) (hj : CX l j = some t := by exact rfl) (hv : lk L t = some (.bool b) := by exact rfl) : ∀ a w, St n F0 w0 a w L Γ → wpList P l.toArray Q (⟨dst, op, ty, pos, af, some (j, b)⟩ :: os) a w := fun a w hS => Vm hS hj hv (h a w hS)
theorem Bx {E : TypeId} {x : Operand} {l : List Value} (h : ∀ b a w, St n F0 w0 a w ((d, .pointer (some ⟨b, 0, none⟩)) :: L) (.blk b l E :: Γ) → K a w) (hx : ev L x = some (.agg l.toArray) := by exact rfl) (hn : Nat.blt d n.n = true := by exact rfl) : ∀ a w, St n F0 w0 a w L Γ → OW P ⟨some d, .box E x, ty, pos, af, g⟩ a w K Q := fun _ _ hS => ZB hS hx hn fun a w b => h b a w
theorem Al {E : TypeId} {zs : List Value} (h : ∀ b a w, St n F0 w0 a w ((d, .pointer (some ⟨b, 0, none⟩)) :: L) (.blk b zs E :: Γ) → K a w) [hz : Ad (A3 P E) (some zs)] (hn : Nat.blt d n.n = true := by exact rfl) : ∀ a w, St n F0 w0 a w L Γ → OW P ⟨some d, .alloc E, ty, pos, af, g⟩ a w K Q := fun _ _ hS => Fp hS hz.h hn fun a w b => h b a w
theorem Sa {T b m : Nat} {x y : Operand} {cs l : List Value} {E : TypeId} (h : ∀ a w, St n F0 w0 a w L Γ' → K a w) (hx : ev L x = some (.pointer (some ⟨b, 0, none⟩)) := by exact rfl) (hy : ev L y = some (.agg l.toArray) := by exact rfl) [hz : Ad (BS P T) (some m)] (hr : DY (.blk b cs E) (.blk b l E) Γ Γ' := by repeat constructor) (hl : Nat.beq cs.length m = true := by exact rfl) (hl' : Nat.beq l.length m = true := by exact rfl) (h1 : l.all Bl = true := by exact rfl) : ∀ a w, St n F0 w0 a w L Γ → OW P ⟨none, .store T x y, ty, pos, af, g⟩ a w K Q := fun a _ hS => Dn hS hx hy hz.h hr hl hl' h1 fun w => h a w
theorem Sb {T b k : Nat} {x y : Operand} {cs cs' : List Value} {E : TypeId} {v : Value} (h : ∀ a w, St n F0 w0 a w L Γ' → K a w) (hx : ev L x = some (.pointer (some ⟨b, k, none⟩)) := by exact rfl) (hy : ev L y = some v := by exact rfl) (h1 : Bl v = true := by exact rfl) [hz : Ad (BS P T) (some 1)] (hr : DY (.blk b cs E) (.blk b cs' E) Γ Γ' := by repeat constructor) (hu : QR cs k v cs' := by repeat constructor) : ∀ a w, St n F0 w0 a w L Γ → OW P ⟨none, .store T x y, ty, pos, af, g⟩ a w K Q := fun a _ hS => DS hS hx hy h1 hz.h hr hu fun w => h a w
theorem Bz {T E m q : Nat} {zs vs : List Value} {r : List (Nat × Operand)} (h : ∀ b a w, St n F0 w0 a w ((d, .slice (some ⟨b, 0, none⟩) q q) :: L) (.blk b vs E :: Γ) → K a w) [hT : Ad (BD P T) (some E)] [hs : Ad (BS P E) (some m)] [hz : Ad (A3 P E) (some zs)] (hzl : Nat.beq zs.length m = true := by exact rfl) (hm : Nat.blt 0 m = true := by exact rfl) (hm2 : Nat.ble (q * m) 16777216 = true := by exact rfl) (hq : Nat.beq r.length q = true := by exact rfl) (hp : De L m 0 r vs := by repeat (first | exact De.nil | (apply De.one; (· exact rfl); (· exact rfl); (· exact rfl)) | (apply De.agg; (· exact rfl); (· exact rfl)))) (hn : Nat.blt d n.n = true := by exact rfl) : ∀ a w, St n F0 w0 a w L Γ → OW P ⟨some d, .buildSlice T q r.toArray, ty, pos, af, g⟩ a w K Q := fun _ _ hS => B4 hS hT.h hs.h hz.h hzl hm hm2 hq hp hn fun a w b => h b a w
theorem A1 {T E s b : Nat} {zs : List Value} {x y : Operand} {v : Value} {m bx k c Ex : Nat} {cs ys : List Value} {Δ : Value → List AT} (h : ∀ v', (v' = .slice none 0 0 ↔ v = .slice none 0 0 ∧ k = 0) → ∀ a w, St n F0 w0 a w ((d, v') :: L) (Δ v') → K a w) (hx : ev L x = some v := by exact rfl) (hy : ev L y = some (.slice (some ⟨bx, 0, none⟩) k c) := by exact rfl) [hT : Ad (BD P T) (some E)] [hs : Ad (BS P E) (some s)] [hb : Ad (Ev P E) (some b)] [hz : Ad (A3 P E) (some zs)] (hzl : Nat.beq zs.length s = true := by exact rfl) (hs0 : Nat.blt 0 s = true := by exact rfl) (hn : Nat.blt d n.n = true := by exact rfl) (hm : AJ E s v m cs ∈ Γ := by repeat constructor) (hbx : AT.blk bx ys Ex ∈ Γ := by repeat constructor) (hyl : Nat.beq ys.length (k * s) = true := by exact rfl) (h1 : ys.all Bl = true := by exact rfl) (hr : ∀ v', DY (AJ E s v m cs) (AJ E s v' (m + k) (cs ++ ys)) Γ (Δ v') := by (intro _; repeat constructor)) (hbd : (m + k) * b ≤ 140737488355328 ∧ m + k ≤ 4611686018427387904 := by omega) : ∀ a w, St n F0 w0 a w L Γ → OW P ⟨some d, .call ⟨.builtin .append, #[x, y], #[T, T]⟩, ty, pos, af, g⟩ a w K Q := fun _ _ hS => Dd hS hx hy hT.h hs.h hb.h hz.h hzl hs0 hn hm hbx hyl h1 hr hbd fun v a w hv => h v hv a w
theorem Ie (t : Nat) (c : Bool) {b : Bool} (hl : lk L t = some (.bool b)) (hb : b = c) (h : ∀ a w, St n F0 w0 a w ((t, .bool c) :: L) Γ → G a w) : ∀ a w, St n F0 w0 a w L Γ → G a w := fun a w hS => h a w (hS.is hl hb)
theorem cP {f : FuncId} {xs : List Operand} {vs : List Value} {ts : Array TypeId} {v : Value} (hf : AA P f) (hc : ∀ {a w}, St n F0 w0 a w L Γ → Ae P f vs w v) (h : ∀ a w, St n F0 w0 a w ((d, v) :: L) Γ → K a w) (hx : FR L xs vs := by repeat (first | exact FR.nil | refine FR.cons rfl ?_)) (hn : Nat.blt d n.n = true := by exact rfl) : ∀ a w, St n F0 w0 a w L Γ → OW P ⟨some d, .call ⟨.value (.func f), xs.toArray, ts⟩, ty, pos, af, g⟩ a w K Q := fun _ _ hS => K5 hS hx hf hn (hc hS) h
theorem rO {a : Act} {w : World} {f : FuncId} {xs : List Operand} {vs : List Value} {ts : Array TypeId} {v : Value} (hS : St n F0 w0 a w L Γ) (hf : AA P f) (hc : Ae P f vs w v) (h : ∀ a w, St n F0 w0 a w ((d, v) :: L) Γ → K a w) (hx : FR L xs vs := by repeat (first | exact FR.nil | refine FR.cons rfl ?_)) (hn : Nat.blt d n.n = true := by exact rfl) : OW P ⟨some d, .call ⟨.value (.func f), xs.toArray, ts⟩, ty, pos, af, g⟩ a w K Q := K5 hS hx hf hn hc h
theorem cN {γ : Type} {V : γ → Value} {Y : γ → AT} {f : FuncId} {xs : List Operand} {vs : List Value} {ts : Array TypeId} (hf : AA P f) (hc : ∀ {a w}, St n F0 w0 a w L Γ → Bb P f vs w V Y) (h : ∀ x a w, St n F0 w0 a w ((d, V x) :: L) (Y x :: Γ) → K a w) (hx : FR L xs vs := by repeat (first | exact FR.nil | refine FR.cons rfl ?_)) (hn : Nat.blt d n.n = true := by exact rfl) : ∀ a w, St n F0 w0 a w L Γ → OW P ⟨some d, .call ⟨.value (.func f), xs.toArray, ts⟩, ty, pos, af, g⟩ a w K Q := fun _ _ hS => EY hS hx hf hn (hc hS) h
theorem PA {a : Act} {w : World} {γ : Type} {V : γ → Value} {Y : γ → AT} {f : FuncId} {xs : List Operand} {vs : List Value} {ts : Array TypeId} (hS : St n F0 w0 a w L Γ) (hf : AA P f) (hc : Bb P f vs w V Y) (h : ∀ x a w, St n F0 w0 a w ((d, V x) :: L) (Y x :: Γ) → K a w) (hx : FR L xs vs := by repeat (first | exact FR.nil | refine FR.cons rfl ?_)) (hn : Nat.blt d n.n = true := by exact rfl) : OW P ⟨some d, .call ⟨.value (.func f), xs.toArray, ts⟩, ty, pos, af, g⟩ a w K Q := EY hS hx hf hn hc h
theorem cM {γ : Type} {V : γ → Value} {X : AT} {Y : γ → AT} {Γ' : γ → List AT} {f : FuncId} {xs : List Operand} {vs : List Value} {ts : Array TypeId} (hf : AA P f) (hc : ∀ {a w}, St n F0 w0 a w L Γ → CV P f vs w X V Y) (h : ∀ x a w, St n F0 w0 a w ((d, V x) :: L) (Γ' x) → K a w) (hx : FR L xs vs := by repeat (first | exact FR.nil | refine FR.cons rfl ?_)) (hr : ∀ x, DY X (Y x) Γ (Γ' x) := by (intro _; repeat constructor)) (hm : X.mine = true := by exact rfl) (hn : Nat.blt d n.n = true := by exact rfl) : ∀ a w, St n F0 w0 a w L Γ → OW P ⟨some d, .call ⟨.value (.func f), xs.toArray, ts⟩, ty, pos, af, g⟩ a w K Q := fun _ _ hS => K6 hS hx hf hn (hc hS) hr hm h
theorem dB {a : Act} {w : World} {γ : Type} {V : γ → Value} {X : AT} {Y : γ → AT} {Γ' : γ → List AT} {f : FuncId} {xs : List Operand} {vs : List Value} {ts : Array TypeId} (hS : St n F0 w0 a w L Γ) (hf : AA P f) (hc : CV P f vs w X V Y) (h : ∀ x a w, St n F0 w0 a w ((d, V x) :: L) (Γ' x) → K a w) (hx : FR L xs vs := by repeat (first | exact FR.nil | refine FR.cons rfl ?_)) (hr : ∀ x, DY X (Y x) Γ (Γ' x) := by (intro _; repeat constructor)) (hm : X.mine = true := by exact rfl) (hn : Nat.blt d n.n = true := by exact rfl) : OW P ⟨some d, .call ⟨.value (.func f), xs.toArray, ts⟩, ty, pos, af, g⟩ a w K Q := K6 hS hx hf hn hc hr hm h
theorem FZ {j r : Nat} : (tf j (r + 1)).set j true = tf (j + 1) r := by
 unfold tf
 induction j with
 | zero => simp [List.replicate_succ]
 | succ j ih => rw [List.replicate_succ, List.cons_append, List.set_cons_succ, ih, List.replicate_succ (n := j + 1), List.cons_append]
theorem Dr (k : Nat) (Z : List Nat) (Γs : List AT) {id : Nat} {l : List Oper} (h : ∀ a w, St n F0 w0 a w L Γ → DB P l.toArray Q (Hd Γs) Z k (tf 0 k).toArray a w) (hl : Nat.beq l.length k = true := by exact rfl) (hm : P.follows .mixedOrders = true := by kernel_rfl) (hs : ∀ X ∈ Γs, X ∈ Γ := by repeat (first | exact Ay | refine AP (by repeat constructor) ?_)) : ∀ a w, St n F0 w0 a w L Γ → (Code.region id l.toArray true).wp P Q a w := fun a w hS => K9 Z hm hS hs fun w' hS' => by
 obtain rfl := Nat.eq_of_beq_eq_true hl
 exact h a w' hS'
theorem Z0 {l : List Oper} {Γs : List AT} {Z : List Nat} {j r fuel : Nat} (hi : l[j]? = some ⟨dst, op, ty, pos, af, g⟩) (h : ∀ a w, St n F0 w0 a w L Γ → OW P ⟨dst, op, ty, pos, af, g⟩ a w (fun a' w' => (j ∈ Z ∨ Hd Γs w') ∧ DB P l.toArray Q (Hd Γs) Z fuel (tf (j + 1) r).toArray a' w') Q) (hw : ∀ a, Sl n a L → Region.wanted ⟨dst, op, ty, pos, af, g⟩ (yielded l.toArray a.tmps) = true := by first | exact Ab | exact EZ rfl rfl) (hr : Region.ready .any l.toArray (tf j (r + 1)).toArray = [j] := by kernel_rfl) : ∀ a w, St n F0 w0 a w L Γ → DB P l.toArray Q (Hd Γs) Z (fuel + 1) (tf j (r + 1)).toArray a w := fun a w hS => Sh hi (hw a hS.sl) FZ hr ⟨Oper.wp_mono (fun _ _ h => ⟨fun _ => h.1, h.2⟩) (h a w hS).h⟩
theorem Za {l : List Oper} {Γs : List AT} {Z : List Nat} {j fuel : Nat} {ls : List Bool} (h : ∀ a w, St n F0 w0 a w L Γ → DB P l.toArray Q (Hd Γs) Z fuel ls.toArray a w) (hs : ∀ X ∈ Γs, X ∈ Γ := by repeat (first | exact Ay | refine AP (by repeat constructor) ?_)) : ∀ a w, St n F0 w0 a w L Γ → (j ∈ Z ∨ Hd Γs w) ∧ DB P l.toArray Q (Hd Γs) Z fuel ls.toArray a w := fun a w hS => ⟨.inr fun X hX => hS.get (hs X hX), h a w hS⟩
theorem Zl {l : List Oper} {Γs : List AT} {Z : List Nat} {j fuel : Nat} {ls : List Bool} (h : ∀ a w, St n F0 w0 a w L Γ → DB P l.toArray Q (Hd Γs) Z fuel ls.toArray a w) (hs : j ∈ Z := by simp) : ∀ a w, St n F0 w0 a w L Γ → (j ∈ Z ∨ Hd Γs w) ∧ DB P l.toArray Q (Hd Γs) Z fuel ls.toArray a w := fun a w hS => ⟨.inl hs, h a w hS⟩
inductive Zk (P : Program) (n : NN) (l : List Oper) (Z : List Nat) (Γs : List AT) : Nat → List (Nat × Value) → Nat → Nat → Nat → List (Nat × Value) → Nat → Nat → Nat → Prop
 | z {L : List (Nat × Value)} {j r s : Nat} : Zk P n l Z Γs 0 L j r s L j r s
 | o {k d j r s j' r' s' : Nat} {L L' : List (Nat × Value)} {op : Op} {ty : TypeId} {pos : String} {af : Array Edge} {g : Option (Nat × Bool)} {v : Value} (hi : l[j]? = some ⟨some d, op, ty, pos, af, g⟩) (hw : ∀ a, Sl n a L → Region.wanted ⟨some d, op, ty, pos, af, g⟩ (yielded l.toArray a.tmps) = true) (he : ∀ a : Act, Ex P n a L [] ⟨some d, op, ty, pos, af, g⟩ v) (hk : O9 l (tf j (r + 1)) j = true) (hn : Nat.blt d n.n = true) (h : Zk P n l Z Γs k ((d, v) :: L) (j + 1) r s L' j' r' s') : Zk P n l Z Γs (k + 1) L j (r + 1) (s + 1) L' j' r' s'
 | y {k d j r s j' r' s' : Nat} {L L' : List (Nat × Value)} {op : Op} {ty : TypeId} {pos : String} {af : Array Edge} {g : Option (Nat × Bool)} {v : Value} (hi : l[j]? = some ⟨some d, op, ty, pos, af, g⟩) (hw : ∀ a, Sl n a L → Region.wanted ⟨some d, op, ty, pos, af, g⟩ (yielded l.toArray a.tmps) = true) (he : ∀ a : Act, Ex P n a L Γs ⟨some d, op, ty, pos, af, g⟩ v) (hk : cZ l (tf j (r + 1)) Z j = true) (hn : Nat.blt d n.n = true) (h : Zk P n l Z Γs k ((d, v) :: L) (j + 1) r s L' j' r' s') : Zk P n l Z Γs (k + 1) L j (r + 1) (s + 1) L' j' r' s'
 | t {k d i t j r s j' r' s' : Nat} {L L' : List (Nat × Value)} {op : Op} {ty : TypeId} {pos : String} {af : Array Edge} (hi : l[j]? = some ⟨some d, op, ty, pos, af, some (i, true)⟩) (hj : CX l i = some t) (hv : lk L t = some (.bool false)) (hk : O9 l (tf j (r + 1)) j = true) (hn : Nat.blt d n.n = true) (h : Zk P n l Z Γs k ((d, undef) :: L) (j + 1) r s L' j' r' s') : Zk P n l Z Γs (k + 1) L j (r + 1) (s + 1) L' j' r' s'
 | f {k d i t j r s j' r' s' : Nat} {L L' : List (Nat × Value)} {op : Op} {ty : TypeId} {pos : String} {af : Array Edge} (hi : l[j]? = some ⟨some d, op, ty, pos, af, some (i, false)⟩) (hj : CX l i = some t) (hv : lk L t = some (.bool true)) (hk : O9 l (tf j (r + 1)) j = true) (hn : Nat.blt d n.n = true) (h : Zk P n l Z Γs k ((d, undef) :: L) (j + 1) r s L' j' r' s') : Zk P n l Z Γs (k + 1) L j (r + 1) (s + 1) L' j' r' s'
 | u {k d i t j r s j' r' s' : Nat} {b : Bool} {L L' : List (Nat × Value)} {op : Op} {ty : TypeId} {pos : String} {af : Array Edge} (hi : l[j]? = some ⟨some d, op, ty, pos, af, some (i, b)⟩) (hj : CX l i = some t) (hv : lk L t = some undef) (hk : O9 l (tf j (r + 1)) j = true) (hn : Nat.blt d n.n = true) (h : Zk P n l Z Γs k ((d, undef) :: L) (j + 1) r s L' j' r' s') : Zk P n l Z Γs (k + 1) L j (r + 1) (s + 1) L' j' r' s'
theorem ZR (k : Nat) {l : List Oper} {Γs : List AT} {Z : List Nat} {j r s j' r' s' : Nat} (hk : ∀ a w, St n F0 w0 a w L' Γ → DB P l.toArray Q (Hd Γs) Z s' (tf j' r').toArray a w) (h : Zk P n l Z Γs k L j r s L' j' r' s' := by repeat (first | with_reducible exact Zk.z | ((with_reducible apply Zk.o); (· exact rfl); (· first | exact Ab | exact EZ rfl rfl); (· intro _ <;> exact ExA.go); (· kernel_rfl); (· exact rfl)) | ((with_reducible apply Zk.y); (· exact rfl); (· first | exact Ab | exact EZ rfl rfl); (· intro _ <;> exact ExA.go); (· kernel_rfl); (· exact rfl)) | ((with_reducible apply Zk.t); (· exact rfl); (· exact rfl); (· exact rfl); (· kernel_rfl); (· exact rfl)) | ((with_reducible apply Zk.f); (· exact rfl); (· exact rfl); (· exact rfl); (· kernel_rfl); (· exact rfl)) | ((with_reducible apply Zk.u); (· exact rfl); (· exact rfl); (· exact rfl); (· kernel_rfl); (· exact rfl)))) (hs : ∀ X ∈ Γs, X ∈ Γ := by repeat (first | exact Ay | refine AP (by repeat constructor) ?_)) (hQ : ∀ d v c a w, Q (.panic c) (a.put (some d) v) w → Q (.panic c) a w := by exact fun _ _ _ _ _ h => h) : ∀ a w, St n F0 w0 a w L Γ → DB P l.toArray Q (Hd Γs) Z s (tf j r).toArray a w := by
 induction h with
 | z => exact hk
 | o hi hw he hk' hn _ ih => exact fun a w hS => dA _ _ hS hi hw (he a) FZ hk' hn (fun a' hS' => ih hk a' w hS') (hQ _ _)
 | y hi hw he hk' hn _ ih => exact fun a w hS => Zt _ _ hS hi hw (he a) FZ hk' hs hn (fun a' hS' => ih hk a' w hS') (hQ _ _)
 | t hi hj hv hk' hn _ ih => exact fun a w hS => nA _ _ hS hi hj hv FZ hk' hn (fun a' hS' => ih hk a' w hS') (hQ _ _)
 | f hi hj hv hk' hn _ ih => exact fun a w hS => nC _ _ hS hi hj hv FZ hk' hn (fun a' hS' => ih hk a' w hS') (hQ _ _)
 | u hi hj hv hk' hn _ ih => exact fun a w hS => nD _ _ hS hi hj hv FZ hk' hn (fun a' hS' => ih hk a' w hS') (hQ _ _)
theorem Zx {l : List Oper} {Γs : List AT} {Z : List Nat} {j r s : Nat} {v : Value} (hi : l[j]? = some ⟨some d, op, ty, pos, af, g⟩) (he : ∀ {a : Act}, Ex P n a L [] ⟨some d, op, ty, pos, af, g⟩ v) (h : ∀ a w, St n F0 w0 a w ((d, v) :: L) Γ → DB P l.toArray Q (Hd Γs) Z s (tf (j + 1) r).toArray a w) (hw : ∀ a, Sl n a L → Region.wanted ⟨some d, op, ty, pos, af, g⟩ (yielded l.toArray a.tmps) = true := by first | exact Ab | exact EZ rfl rfl) (hk : O9 l (tf j (r + 1)) j = true := by kernel_rfl) (hn : Nat.blt d n.n = true := by exact rfl) (hQ : ∀ c a w, Q (.panic c) (a.put (some d) v) w → Q (.panic c) a w := by exact fun _ _ _ h => h) : ∀ a w, St n F0 w0 a w L Γ → DB P l.toArray Q (Hd Γs) Z (s + 1) (tf j (r + 1)).toArray a w := fun _ w hS => dA _ _ hS hi hw he FZ hk hn (fun a' => h a' w) hQ
theorem Zy {l : List Oper} {Γs : List AT} {Z : List Nat} {j r s : Nat} {v : Value} (hi : l[j]? = some ⟨some d, op, ty, pos, af, g⟩) (he : ∀ {a : Act}, Ex P n a L Γs ⟨some d, op, ty, pos, af, g⟩ v) (h : ∀ a w, St n F0 w0 a w ((d, v) :: L) Γ → DB P l.toArray Q (Hd Γs) Z s (tf (j + 1) r).toArray a w) (hw : ∀ a, Sl n a L → Region.wanted ⟨some d, op, ty, pos, af, g⟩ (yielded l.toArray a.tmps) = true := by first | exact Ab | exact EZ rfl rfl) (hk : cZ l (tf j (r + 1)) Z j = true := by kernel_rfl) (hs : ∀ X ∈ Γs, X ∈ Γ := by repeat (first | exact Ay | refine AP (by repeat constructor) ?_)) (hn : Nat.blt d n.n = true := by exact rfl) (hQ : ∀ c a w, Q (.panic c) (a.put (some d) v) w → Q (.panic c) a w := by exact fun _ _ _ h => h) : ∀ a w, St n F0 w0 a w L Γ → DB P l.toArray Q (Hd Γs) Z (s + 1) (tf j (r + 1)).toArray a w := fun _ w hS => Zt _ _ hS hi hw he FZ hk hs hn (fun a' => h a' w) hQ
theorem Zu (i : Nat) (m : List Bool) {l : List Oper} {Γs : List AT} {Z : List Nat} {ls : List Bool} {s : Nat} {v : Value} (hi : l[i]? = some ⟨some d, op, ty, pos, af, g⟩) (he : ∀ {a : Act}, Ex P n a L Γs ⟨some d, op, ty, pos, af, g⟩ v) (h : ∀ a w, St n F0 w0 a w ((d, v) :: L) Γ → DB P l.toArray Q (Hd Γs) Z s m.toArray a w) (hl : ls.set i true = m := by exact rfl) (hw : ∀ a, Sl n a L → Region.wanted ⟨some d, op, ty, pos, af, g⟩ (yielded l.toArray a.tmps) = true := by first | exact Ab | exact EZ rfl rfl) (hk : cZ l ls Z i = true := by kernel_rfl) (hs : ∀ X ∈ Γs, X ∈ Γ := by repeat (first | exact Ay | refine AP (by repeat constructor) ?_)) (hn : Nat.blt d n.n = true := by exact rfl) (hQ : ∀ c a w, Q (.panic c) (a.put (some d) v) w → Q (.panic c) a w := by exact fun _ _ _ h => h) : ∀ a w, St n F0 w0 a w L Γ → DB P l.toArray Q (Hd Γs) Z (s + 1) ls.toArray a w := fun _ w hS => Zt _ _ hS hi hw he hl hk hs hn (fun a' => h a' w) hQ
theorem Zv (i : Nat) (m : List Bool) {l : List Oper} {Γs : List AT} {Z : List Nat} {ls : List Bool} {s : Nat} {v : Value} (hi : l[i]? = some ⟨some d, op, ty, pos, af, g⟩) (he : ∀ {a : Act}, Ex P n a L [] ⟨some d, op, ty, pos, af, g⟩ v) (h : ∀ a w, St n F0 w0 a w ((d, v) :: L) Γ → DB P l.toArray Q (Hd Γs) Z s m.toArray a w) (hl : ls.set i true = m := by exact rfl) (hw : ∀ a, Sl n a L → Region.wanted ⟨some d, op, ty, pos, af, g⟩ (yielded l.toArray a.tmps) = true := by first | exact Ab | exact EZ rfl rfl) (hk : O9 l ls i = true := by kernel_rfl) (hn : Nat.blt d n.n = true := by exact rfl) (hQ : ∀ c a w, Q (.panic c) (a.put (some d) v) w → Q (.panic c) a w := by exact fun _ _ _ h => h) : ∀ a w, St n F0 w0 a w L Γ → DB P l.toArray Q (Hd Γs) Z (s + 1) ls.toArray a w := fun _ w hS => dA _ _ hS hi hw he hl hk hn (fun a' => h a' w) hQ
theorem Zz (i : Nat) (m : List Bool) {l : List Oper} {Γs : List AT} {Z : List Nat} {ls : List Bool} {s : Nat} (hi : l[i]? = some ⟨dst, op, ty, pos, af, g⟩) (h : ∀ a w, St n F0 w0 a w L Γ → OW P ⟨dst, op, ty, pos, af, g⟩ a w (fun a' w' => (i ∈ Z ∨ Hd Γs w') ∧ DB P l.toArray Q (Hd Γs) Z s m.toArray a' w') Q) (hl : ls.set i true = m := by exact rfl) (hw : ∀ a, Sl n a L → Region.wanted ⟨dst, op, ty, pos, af, g⟩ (yielded l.toArray a.tmps) = true := by first | exact Ab | exact EZ rfl rfl) (hr : Region.ready .any l.toArray ls.toArray = [i] := by kernel_rfl) : ∀ a w, St n F0 w0 a w L Γ → DB P l.toArray Q (Hd Γs) Z (s + 1) ls.toArray a w := fun a w hS => Sh hi (hw a hS.sl) hl hr ⟨Oper.wp_mono (fun _ _ h => ⟨fun _ => h.1, h.2⟩) (h a w hS).h⟩
theorem St.sq {a : Act} {w : World} (h : St n F0 w0 a w L Γ) (hs : Nl L L' := by repeat (first | exact trivial | refine ⟨rfl, ?_⟩)) : St n F0 w0 a w L' Γ := h.slots hs
theorem St.pk {a : Act} {w : World} (h : St n F0 w0 a w L Γ) (hp : IA Γ Γ' := by repeat (first | exact IA.nil | (refine IA.cons (by repeat (first | exact Jw.head | apply Jw.tail)) ?_))) : St n F0 w0 a w L Γ' := h.pick hp
theorem St.sp {a : Act} {w : World} (h : St n F0 w0 a w L Γ) (hs : Nl L L' := by repeat (first | exact trivial | refine ⟨rfl, ?_⟩)) (hp : IA Γ Γ' := by repeat (first | exact IA.nil | (refine IA.cons (by repeat (first | exact Jw.head | apply Jw.tail)) ?_))) : St n F0 w0 a w L' Γ' := (h.slots hs).pick hp
theorem Lm (m t : Nat) (v : Value) {ops : Array Oper} {l os : List Oper} (hseg : (∀ a w, St n F0 w0 a w ((t, v) :: L) Γ → wpList P ops Q os a w) → ∀ a w, St n F0 w0 a w L Γ → wpList P ops Q l a w) (hcont : ∀ a w, St n F0 w0 a w ((t, v) :: L) Γ → wpList P ops Q os a w) (_hd : l.drop m = os := by (simp only [List.drop_succ_cons, List.drop_zero]; exact rfl)) : ∀ a w, St n F0 w0 a w L Γ → wpList P ops Q l a w := hseg hcont
theorem Gs (t : Nat) {b : Bool} (h1 : b = true → ∀ a w, St n F0 w0 a w ((t, .bool true) :: L) Γ → G a w) (h2 : b = false → ∀ a w, St n F0 w0 a w ((t, .bool false) :: L) Γ → G a w) (hl : lk L t = some (.bool b) := by exact rfl) : ∀ a w, St n F0 w0 a w L Γ → G a w := fun a w hS => O3 hS hl (fun h => h1 h a w) fun h => h2 h a w
theorem Gd (t : Nat) {p : Prop} [Decidable p] (h1 : p → ∀ a w, St n F0 w0 a w ((t, .bool true) :: L) Γ → G a w) (h2 : ¬ p → ∀ a w, St n F0 w0 a w ((t, .bool false) :: L) Γ → G a w) (hl : lk L t = some (.bool (decide p)) := by exact rfl) : ∀ a w, St n F0 w0 a w L Γ → G a w := fun a w hS => ME hS hl (fun h => h1 h a w) fun h => h2 h a w
theorem Eb (m t g : Nat) {u v x y : Bool} (hc : ∀ a w, St n F0 w0 a w ((t, .bool v) :: L.drop m) Γ → G a w) (h : lk L t = some (.bool u)) (he : u = v) (hp : y = x) (hg : lk L g = some (.bool x) := by exact rfl) (hg2 : lk (L.drop m) g = some (.bool y) := by exact rfl) (hk : LB g (L.take m) (L.drop m) = true := by exact rfl) : ∀ a w, St n F0 w0 a w L Γ → G a w := fun a w hS => hc a w (hS.ends m t g h (congrArg Value.bool he) hg hg2 (congrArg Value.bool hp.symm) hk)
theorem Et (m t g : Nat) {u v : Bool} {p : Prop} [Decidable p] (hc : ∀ a w, St n F0 w0 a w ((t, .bool v) :: L.drop m) Γ → G a w) (h : lk L t = some (.bool u)) (he : u = v) (hp : p) (hg : lk L g = some (.bool true) := by exact rfl) (hg2 : lk (L.drop m) g = some (.bool (decide p)) := by exact rfl) (hk : LB g (L.take m) (L.drop m) = true := by exact rfl) : ∀ a w, St n F0 w0 a w L Γ → G a w := Eb m t g hc h he (decide_eq_true hp) hg hg2 hk
theorem Ef (m t g : Nat) {u v : Bool} {p : Prop} [Decidable p] (hc : ∀ a w, St n F0 w0 a w ((t, .bool v) :: L.drop m) Γ → G a w) (h : lk L t = some (.bool u)) (he : u = v) (hp : ¬ p) (hg : lk L g = some (.bool false) := by exact rfl) (hg2 : lk (L.drop m) g = some (.bool (decide p)) := by exact rfl) (hk : LB g (L.take m) (L.drop m) = true := by exact rfl) : ∀ a w, St n F0 w0 a w L Γ → G a w := Eb m t g hc h he (decide_eq_false hp) hg hg2 hk
theorem Ro {fn : Func} {R : Ending → World → Prop} {r : ResultVar} {v : Value} {m : Nat} {a : Act} {w : World} (hS : St ⟨m, []⟩ F0 w0 a w L Γ) (hr : fn.results = #[r]) (h : R (.returned v) w) (hv : K4 P L Γ r v := by first | exact .tmp rfl | exact .cellA rfl (by repeat constructor) Ad.h Ad.h rfl | exact .cell rfl (by repeat constructor) Ad.h rfl) : bodyPost P fn R .ret a w := DG hS hr hv h
theorem Rm {fn : Func} {R : Ending → World → Prop} {rs : List ResultVar} {vs : List Value} {m : Nat} {a : Act} {w : World} (hS : St ⟨m, []⟩ F0 w0 a w L Γ) (hr : fn.results = rs.toArray) (h : R (.returned (.tuple vs.toArray)) w) (hv : GI P L Γ rs vs := by repeat (first | exact GI.nil | (apply GI.cons; (· first | exact .tmp rfl | exact .cellA rfl (by repeat constructor) Ad.h Ad.h rfl | exact .cell rfl (by repeat constructor) Ad.h rfl)))) (hne : Nat.beq vs.length 1 = false := by exact rfl) : bodyPost P fn R .ret a w := Ik hS hr hv hne h
def Hv : Nat → List Value → List (Nat × Value)
 | _, [] => []
 | i, v :: r => (i, v) :: Hv (i + 1) r
theorem Qa {l args : List Value} : ∀ i, l = args.drop i → MC args (Hv i l) := by
 induction l with
 | nil => intro i _; trivial
 | cons v r ih =>
   intro i h
   have h2 : args[i]? = some v := by
    have := congrArg (fun z => z[0]?) h
    simpa using this.symm
   refine ⟨h2, ih (i + 1) ?_⟩
   have := congrArg List.tail h
   simpa using this
theorem En {f : FuncId} {fn : Func} {c : Code} {args : List Value} {R : Ending → World → Prop} {m : Nat} {w : World} (Γ : List AT) (F0 : Nat → Prop) (hf : P.funcs[f]? = some fn) (hm : fn.ntmps = m) (ok : ∀ X ∈ Γ, X.ok w) (dis : Γ.Pairwise (fun X Y => ∀ b, X.F b → ¬ Y.F b)) (mine : ∀ X ∈ Γ, X.mine = true → ∀ b, X.F b → w.heap.size ≤ b ∨ F0 b)
 (h : ∀ a, St ⟨m, []⟩ F0 w a w L Γ → c.wp P (bodyPost P fn R) a w) (hb : fn.body = some c := by exact rfl) (hL : Hv 0 args = L := by (simp only [Hv, Nat.reduceAdd]; exact rfl)) (hn : Nat.ble args.length m = true := by exact rfl) : Calls P f args.toArray w R := Bq L Γ F0 hf hb hm (hL ▸ Qa 0 rfl) hn ok dis mine h
theorem Eo {f : FuncId} {fn : Func} {c : Code} {args : List Value} {R : Ending → World → Prop} {m : Nat} {w : World} (F0 : Nat → Prop) (hf : P.funcs[f]? = some fn) (hm : fn.ntmps = m)
 (h : ∀ a, St ⟨m, []⟩ F0 w a w L [] → c.wp P (bodyPost P fn R) a w) (hb : fn.body = some c := by exact rfl) (hL : Hv 0 args = L := by (simp only [Hv, Nat.reduceAdd]; exact rfl)) (hn : Nat.ble args.length m = true := by exact rfl) : Calls P f args.toArray w R := En [] F0 hf hm (by simp) (by simp) (by simp) h hb hL hn
end
end
section
section
variable {P : Program} {n : NN} {F0 : Nat → Prop} {w0 : World} {a : Act} {w : World} {L : List (Nat × Value)} {Γ : List AT}
variable {K : Act → World → Prop} {Q : Exit → Act → World → Prop} {d ty : Nat} {dst : Option Tmp} {pos : String} {af : Array Edge} {g : Option (Nat × Bool)}
end
section
variable {P : Program} {n : NN} {F0 : Nat → Prop} {w0 : World} {a : Act} {w : World} {L : List (Nat × Value)} {Γ : List AT}
variable {K : Act → World → Prop} {Q : Exit → Act → World → Prop} {d ty : Nat} {pos : String} {af : Array Edge} {g : Option (Nat × Bool)}
end
end
section
section
variable {P : Program} {n : NN} {F0 : Nat → Prop} {w0 : World} {a : Act} {w : World} {L : List (Nat × Value)} {Γ : List AT}
variable {K : Act → World → Prop} {Q : Exit → Act → World → Prop} {d ty : Nat} {dst : Option Tmp} {pos : String} {af : Array Edge} {g : Option (Nat × Bool)}
theorem St.moreD (hS : St n F0 w0 a w L Γ) (D : Deferred) : St ⟨n.n, D :: n.D⟩ F0 w0 { a with defers := D :: a.defers } w L Γ :=
 ⟨⟨hS.sl.size, by show _ :: a.defers = _; rw [hS.sl.defers], fun t v h => hS.sl.get t v h⟩, hS.chg, hS.ok, hS.dis, hS.mine⟩
theorem Sv {fn : Func} {R : Ending → World → Prop} {rs : List ResultVar} {vs : List Value} (hS : St n F0 w0 a w L Γ) (hr : fn.results = rs.toArray) (hv : GI P L Γ rs vs) (hne : Nat.beq vs.length 1 = false) (h : R (.returned (.tuple vs.toArray)) w) : Leaves P fn a.tmps R [] .returning w := by
 refine ⟨_, ?_, h⟩
 have h1 := GI.run hS hv
 have h2 : ¬ vs.toArray.size = 1 := by simpa using Ky hne
 show (results fn a.tmps).run P w = _
 rw [EX, hr, List.mapM_toArray, Sem.run_bind, Sem.run_map, h1]
 simp only [Result.andThen_ok, h2, dite_false]
 rfl
end
section
variable {P : Program} {n : NN} {F0 : Nat → Prop} {w0 : World} {a : Act} {w : World} {L : List (Nat × Value)} {Γ : List AT}
variable {K : Act → World → Prop} {Q : Exit → Act → World → Prop} {d ty : Nat} {dst : Option Tmp} {pos : String} {af : Array Edge} {g : Option (Nat × Bool)}
end
section
variable {P : Program} {n : NN} {F0 : Nat → Prop} {w0 : World} {a : Act} {w : World} {L : List (Nat × Value)} {Γ : List AT}
variable {K : Act → World → Prop} {Q : Exit → Act → World → Prop} {d ty : Nat} {dst : Option Tmp} {pos : String} {af : Array Edge} {g : Option (Nat × Bool)}
end
section
variable {P : Program}
end
def C5 (X Y : AT) : AT := .any (fun k => X.F k ∨ Y.F k) (fun w => X.ok w ∧ Y.ok w ∧ ∀ k, X.F k → ¬ Y.F k) true
theorem AT.ok.agree {X : AT} {w w' : World} (h : X.ok w) (hw : ∀ k, X.F k → w'.heap[k]? = w.heap[k]?) : X.ok w' :=
 ⟨fun b hb => by
   have h1 := hw b hb
   rw [Array.getElem?_eq_getElem (h.lt b hb)] at h1
   exact (Array.getElem?_eq_some_iff.1 h1).1, fun w2 h2 => h.hold w2 fun b hb => (h2 b hb).trans (hw b hb)⟩
theorem By {X Y : AT} {w : World} (hX : X.ok w) (hY : Y.ok w) (hd : ∀ k, X.F k → ¬ Y.F k) : (C5 X Y).ok w :=
 ⟨fun b hb => hb.elim (hX.lt b) (hY.lt b), fun _ hw => ⟨hX.agree fun k hk => hw k (.inl hk), hY.agree fun k hk => hw k (.inr hk), hd⟩⟩
def A7 : AT := .any (fun _ => False) (fun _ => True) true
theorem AL (w : World) : A7.ok w := ⟨fun _ h => h.elim, fun _ _ => trivial⟩
section
variable {n : NN} {F0 : Nat → Prop} {w0 : World} {a : Act} {w : World} {L : List (Nat × Value)} {Γ : List AT} {X Y : AT}
theorem St.duo (hS : St n F0 w0 a w L (X :: Y :: Γ)) (hX : X.mine = true) (hY : Y.mine = true) : St n F0 w0 a w L (Go.Proofs.YtlccmgeclhdegaaGreatDoor.C5 X Y :: Γ) := by
 have h1 := List.pairwise_cons.1 hS.dis
 have h2 := List.pairwise_cons.1 h1.2
 refine ⟨hS.sl, hS.chg, fun Z hZ => ?_, List.pairwise_cons.2 ⟨fun Z hZ b hb hz => ?_, h2.2⟩, fun Z hZ hm b hb => ?_⟩
 ·
  rcases List.mem_cons.1 hZ with rfl | hZ
  · exact By (hS.ok X (.head _)) (hS.ok Y (.tail _ (.head _))) (fun b hb => h1.1 Y (.head _) b hb)
  · exact hS.ok Z (.tail _ (.tail _ hZ))
 ·
  rcases hb with hb | hb
  · exact h1.1 Z (.tail _ hZ) b hb hz
  · exact h2.1 Z hZ b hb hz
 ·
  rcases List.mem_cons.1 hZ with rfl | hZ
  ·
   rcases hb with hb | hb
   · exact hS.mine X (.head _) hX b hb
   · exact hS.mine Y (.tail _ (.head _)) hY b hb
  · exact hS.mine Z (.tail _ (.tail _ hZ)) hm b hb
theorem St.unduo (hS : St n F0 w0 a w L (Go.Proofs.YtlccmgeclhdegaaGreatDoor.C5 X Y :: Γ)) : St n F0 w0 a w L (X :: Y :: Γ) := by
 have h1 := List.pairwise_cons.1 hS.dis
 have hφ : X.ok w ∧ Y.ok w ∧ ∀ k, X.F k → ¬ Y.F k := (hS.ok _ (.head _)).now
 refine ⟨hS.sl, hS.chg, fun Z hZ => ?_, List.pairwise_cons.2 ⟨fun Z hZ b hb hz => ?_, List.pairwise_cons.2 ⟨fun Z hZ b hb hz => h1.1 Z hZ b (.inr hb) hz, h1.2⟩⟩, fun Z hZ hm b hb => ?_⟩
 ·
  rcases List.mem_cons.1 hZ with rfl | hZ
  · exact hφ.1
  ·
   rcases List.mem_cons.1 hZ with rfl | hZ
   · exact hφ.2.1
   · exact hS.ok Z (.tail _ hZ)
 ·
  rcases List.mem_cons.1 hZ with rfl | hZ
  · exact hφ.2.2 b hb hz
  · exact h1.1 Z hZ b (.inl hb) hz
 ·
  rcases List.mem_cons.1 hZ with rfl | hZ
  · exact hS.mine _ (.head _) rfl b (.inl hb)
  ·
   rcases List.mem_cons.1 hZ with rfl | hZ
   · exact hS.mine _ (.head _) rfl b (.inr hb)
   · exact hS.mine Z (.tail _ hZ) hm b hb
theorem St.none_ (hS : St n F0 w0 a w L Γ) : St n F0 w0 a w L (Go.Proofs.YtlccmgeclhdegaaGreatDoor.A7 :: Γ) :=
 ⟨hS.sl, hS.chg, fun Z hZ => by
   rcases List.mem_cons.1 hZ with rfl | hZ
   · exact AL w
   · exact hS.ok Z hZ, List.pairwise_cons.2 ⟨fun _ _ _ h => h.elim, hS.dis⟩, fun Z hZ hm b hb => by
   rcases List.mem_cons.1 hZ with rfl | hZ
   · exact hb.elim
   · exact hS.mine Z hZ hm b hb⟩
end
end
instance Gf : Ad (BS Tryz.prog 24) (some 15) := {}
instance Vv : Ad (Bm Tryz.prog 24) (true) := {}
instance lB : Ad (BU Tryz.prog 24) (some [(0, 1), (1, 1), (2, 1), (3, 1), (4, 1), (5, 1), (6, 1), (7, 1), (8, 1), (9, 1), (10, 1), (11, 1), (12, 1), (13, 1), (14, 1)]) := {}
instance nE : Ad (A3 Tryz.prog 24) (some [.int .i64 0, .string ⟨#[]⟩, .string ⟨#[]⟩, .string ⟨#[]⟩, .string ⟨#[]⟩, .string ⟨#[]⟩, .string ⟨#[]⟩, .int .i64 0, .int .i64 0, .int .i64 0, .int .i64 0, .int .i64 0, .int .i64 0, .int .i64 0, .slice none 0 0]) := {}
theorem rP : AA Tryz.prog 7 := A6 Tryz.func7
instance nF : Ad (Bf Tryz.prog 4) (true) := {}
instance fB : Ad (Tryz.prog.underlying 4) (some (.bool)) := {}
theorem rQ : AA Tryz.prog 8 := A6 Tryz.func8
theorem qR : AA Tryz.prog 9 := A6 Tryz.func9
instance lC : Ad (BS Tryz.prog 29) (some 4) := {}
instance lD : Ad (Bm Tryz.prog 29) (true) := {}
instance lE : Ad (BU Tryz.prog 29) (some [(0, 1), (1, 1), (2, 1), (3, 1)]) := {}
instance nG : Ad (A3 Tryz.prog 29) (some [.string ⟨#[]⟩, .string ⟨#[]⟩, .slice none 0 0, .bool false]) := {}
instance lF : Ad (Bf Tryz.prog 30) (true) := {}
theorem Vw : AA Tryz.prog 10 := A6 Tryz.func10
instance Cj : Ad (BS Tryz.prog 3) (some 1) := {}
instance El : Ad (Bf Tryz.prog 3) (true) := {}
instance KH : Ad (A3 Tryz.prog 3) (some [.int .i64 0]) := {}
instance Is : Ad (Tryz.prog.underlying 3) (some (.int .i64)) := {}
instance lG : Ad (BS Tryz.prog 27) (some 1) := {}
instance Vx : Ad (Bf Tryz.prog 27) (true) := {}
instance AZ : Ad (BD Tryz.prog 27) (some 5) := {}
instance BL : Ad (BS Tryz.prog 5) (some 1) := {}
instance BX : Ad (Bf Tryz.prog 5) (true) := {}
instance KI : Ad (A3 Tryz.prog 5) (some [.int .u8 0]) := {}
instance C7 : Ad (Tryz.prog.underlying 5) (some (.int .u8)) := {}
instance HX : Ad (Ev Tryz.prog 5) (some 1) := {}
instance dC : Ad (AK Tryz.prog 29 2) (some 2) := {}
theorem fC : AA Tryz.prog 11 := A6 Tryz.func11
instance Cb : Ad (BS Tryz.prog 37) (some 4) := {}
instance Ea : Ad (Bm Tryz.prog 37) (true) := {}
instance Vy : Ad (BU Tryz.prog 37) (some [(0, 1), (1, 1), (2, 1), (3, 1)]) := {}
instance GM : Ad (A3 Tryz.prog 37) (some [.int .i64 0, .string ⟨#[]⟩, .slice none 0 0, .slice none 0 0]) := {}
instance lH : Ad (BS Tryz.prog 34) (some 1) := {}
instance lI : Ad (Bf Tryz.prog 34) (true) := {}
instance Gg : Ad (BD Tryz.prog 34) (some 37) := {}
instance lJ : Ad (Ev Tryz.prog 37) (some 72) := {}
instance Df : Ad (AK Tryz.prog 37 2) (some 2) := {}
theorem fD : AA Tryz.prog 12 := A6 Tryz.func12
instance Vz : Ad (BS Tryz.prog 35) (some 1) := {}
instance LC : Ad (Bf Tryz.prog 35) (true) := {}
instance Ar : Ad (BD Tryz.prog 35) (some 9) := {}
instance A8 : Ad (BS Tryz.prog 9) (some 1) := {}
instance Af : Ad (Bf Tryz.prog 9) (true) := {}
instance Ec : Ad (A3 Tryz.prog 9) (some [.string ⟨#[]⟩]) := {}
instance Dp : Ad (Tryz.prog.underlying 9) (some (.string)) := {}
instance EG : Ad (Ev Tryz.prog 9) (some 16) := {}
instance dD : Ad (AK Tryz.prog 37 3) (some 3) := {}
theorem fE : AA Tryz.prog 13 := A6 Tryz.func13
theorem fF : AA Tryz.prog 14 := A6 Tryz.func14
theorem nH : AA Tryz.prog 16 := A6 Tryz.func16
instance lK : Ad (BS Tryz.prog 48) (some 15) := {}
instance lL : Ad (Bm Tryz.prog 48) (true) := {}
instance lM : Ad (BU Tryz.prog 48) (some [(0, 1), (1, 1), (2, 1), (3, 1), (4, 1), (5, 1), (6, 1), (7, 1), (8, 1), (9, 1), (10, 1), (11, 1), (12, 1), (13, 1), (14, 1)]) := {}
instance ZK : Ad (A3 Tryz.prog 48) (some [.int .i64 0, .string ⟨#[]⟩, .string ⟨#[]⟩, .string ⟨#[]⟩, .string ⟨#[]⟩, .string ⟨#[]⟩, .string ⟨#[]⟩, .int .i64 0, .int .i64 0, .int .i64 0, .int .i64 0, .int .i64 0, .int .i64 0, .int .i64 0, .slice none 0 0]) := {}
theorem fG : AA Tryz.prog 17 := A6 Tryz.func17
instance lN : Ad (BS Tryz.prog 51) (some 4) := {}
instance lO : Ad (Bm Tryz.prog 51) (true) := {}
instance lP : Ad (BU Tryz.prog 51) (some [(0, 1), (1, 1), (2, 1), (3, 1)]) := {}
instance nI : Ad (A3 Tryz.prog 51) (some [.string ⟨#[]⟩, .string ⟨#[]⟩, .slice none 0 0, .bool false]) := {}
theorem nJ : AA Tryz.prog 18 := A6 Tryz.func18
theorem nK : AA Tryz.prog 19 := A6 Tryz.func19
theorem nM : AA Tryz.prog 20 := A6 Tryz.func20
theorem fH : AA Tryz.prog 21 := A6 Tryz.func21
instance dE : Ad (AK Tryz.prog 29 0) (some 0) := {}
instance dF : Ad (AK Tryz.prog 29 1) (some 1) := {}
instance lQ : Ad (BU Tryz.prog 72) (some [(0, 1), (1, 1), (2, 1), (3, 1), (4, 13), (17, 3), (20, 1), (21, 1)]) := {}
instance nN : Ad (A3 Tryz.prog 72) (some [.int .i64 0, .int .i64 0, .int .i64 0, .bool false, .int .i64 0, .int .i64 0, .int .i64 0, .int .i64 0, .string ⟨#[]⟩, .string ⟨#[]⟩, .slice none 0 0, .int .i64 0, .int .i64 0, .int .i64 0, .int .i64 0, .int .i64 0, .int .i64 0, .string ⟨#[]⟩, .int .i64 0, .int .i64 0, .slice none 0 0, .slice none 0 0]) := {}
theorem nO : AA Tryz.prog 23 := A6 Tryz.func23
instance lR : Ad (BS Tryz.prog 62) (some 3) := {}
instance lS : Ad (Bm Tryz.prog 62) (true) := {}
instance lT : Ad (BU Tryz.prog 62) (some [(0, 1), (1, 1), (2, 1)]) := {}
instance nP : Ad (A3 Tryz.prog 62) (some [.int .i64 0, .slice none 0 0, .bool false]) := {}
instance dG : Ad (AK Tryz.prog 24 0) (some 0) := {}
instance Nv : Ad (AK Tryz.prog 24 12) (some 12) := {}
instance Qb : Ad (AK Tryz.prog 24 8) (some 8) := {}
instance Nw : Ad (AK Tryz.prog 24 11) (some 11) := {}
instance dH : Ad (AK Tryz.prog 62 0) (some 0) := {}
instance dI : Ad (AK Tryz.prog 62 1) (some 1) := {}
instance dJ : Ad (AK Tryz.prog 62 2) (some 2) := {}
instance lU : Ad (BD Tryz.prog 74) (some 24) := {}
theorem nQ : AA Tryz.prog 24 := A6 Tryz.func24
instance Qc : Ad (AK Tryz.prog 24 6) (some 6) := {}
theorem nR : AA Tryz.prog 25 := A6 Tryz.func25
theorem ZL : AA Tryz.prog 26 := A6 Tryz.func26
theorem nS : AA Tryz.prog 28 := A6 Tryz.func28
instance V0 : Ad (BD Tryz.prog 78) (some 83) := {}
instance IM : Ad (BS Tryz.prog 83) (some 3) := {}
instance LD : Ad (Bm Tryz.prog 83) (true) := {}
instance DC : Ad (BU Tryz.prog 83) (some [(0, 1), (1, 1), (2, 1)]) := {}
instance Dg : Ad (A3 Tryz.prog 83) (some [.string ⟨#[]⟩, .int .i64 0, .slice none 0 0]) := {}
theorem ZM : AA Tryz.prog 27 := A6 Tryz.func27
instance V1 : Ad (Bf Tryz.prog 81) (true) := {}
instance DD : Ad (BD Tryz.prog 81) (some 88) := {}
instance CW : Ad (BS Tryz.prog 88) (some 3) := {}
instance PB : Ad (Bm Tryz.prog 88) (true) := {}
instance lV : Ad (BU Tryz.prog 88) (some [(0, 1), (1, 1), (2, 1)]) := {}
instance Dt : Ad (A3 Tryz.prog 88) (some [.string ⟨#[]⟩, .nilFunc, .nilFunc]) := {}
instance dK : Ad (AK Tryz.prog 83 2) (some 2) := {}
theorem nU : AA Tryz.prog 29 := A6 Tryz.func29
instance dL : Ad (AK Tryz.prog 88 0) (some 0) := {}
theorem ZN : AA Tryz.prog 30 := A6 Tryz.func30
instance dM : Ad (AK Tryz.prog 83 0) (some 0) := {}
instance lW : Ad (BU Tryz.prog 93) (some [(0, 1), (1, 1)]) := {}
instance nV : Ad (A3 Tryz.prog 93) (some [.slice none 0 0, .int .i64 0]) := {}
instance lX : Ad (BS Tryz.prog 91) (some 1) := {}
instance lY : Ad (Bf Tryz.prog 91) (true) := {}
instance nW : Ad (A3 Tryz.prog 91) (some [.pointer none]) := {}
theorem nX : AA Tryz.prog 32 := A6 Tryz.func32
theorem ZO : AA Tryz.prog 31 := A6 Tryz.func31
instance Gh : Ad (BS Tryz.prog 95) (some 2) := {}
instance IN : Ad (Bm Tryz.prog 95) (true) := {}
instance lZ : Ad (BU Tryz.prog 95) (some [(0, 1), (1, 1)]) := {}
instance ZP : Ad (A3 Tryz.prog 95) (some [.int .i64 0, .int .i64 0]) := {}
instance dN : Ad (AK Tryz.prog 95 0) (some 0) := {}
instance dO : Ad (AK Tryz.prog 95 1) (some 1) := {}
theorem nY : AA Tryz.prog 36 := A6 Tryz.func36
instance fI : Ad (BU Tryz.prog 106) (some [(0, 2)]) := {}
instance mA : Ad (A3 Tryz.prog 106) (some [.pointer none, .slice none 0 0]) := {}
theorem fJ : AA Tryz.prog 38 := A6 Tryz.func38
instance mB : Ad (A3 Tryz.prog 104) (some [.pointer none, .slice none 0 0]) := {}
instance ZQ : Ad (AK Tryz.prog 106 0) (some 0) := {}
theorem nZ : AA Tryz.prog 39 := A6 Tryz.func39
theorem fK : AA Tryz.prog 40 := A6 Tryz.func40
theorem Jy : AA Tryz.prog 41 := A6 Tryz.func41
theorem Sw : AA Tryz.prog 42 := A6 Tryz.func42
theorem fL : AA Tryz.prog 43 := A6 Tryz.func43
theorem fM : AA Tryz.prog 44 := A6 Tryz.func44
instance dP : Ad (AK Tryz.prog 37 0) (some 0) := {}
theorem fN : AA Tryz.prog 45 := A6 Tryz.func45
instance Qd : Ad (AK Tryz.prog 24 1) (some 1) := {}
instance dQ : Ad (AK Tryz.prog 48 1) (some 1) := {}
instance Qe : Ad (AK Tryz.prog 24 2) (some 2) := {}
instance dR : Ad (AK Tryz.prog 48 2) (some 2) := {}
instance Qf : Ad (AK Tryz.prog 24 3) (some 3) := {}
instance dS : Ad (AK Tryz.prog 48 3) (some 3) := {}
instance Qg : Ad (AK Tryz.prog 24 4) (some 4) := {}
instance dT : Ad (AK Tryz.prog 48 4) (some 4) := {}
instance Qh : Ad (AK Tryz.prog 24 5) (some 5) := {}
instance dU : Ad (AK Tryz.prog 48 5) (some 5) := {}
instance dV : Ad (AK Tryz.prog 48 6) (some 6) := {}
instance Qi : Ad (AK Tryz.prog 24 7) (some 7) := {}
instance dW : Ad (AK Tryz.prog 48 7) (some 7) := {}
instance dX : Ad (AK Tryz.prog 48 8) (some 8) := {}
instance Qj : Ad (AK Tryz.prog 24 9) (some 9) := {}
instance dY : Ad (AK Tryz.prog 48 9) (some 9) := {}
instance Nx : Ad (AK Tryz.prog 24 10) (some 10) := {}
instance ZS : Ad (AK Tryz.prog 48 10) (some 10) := {}
instance ZT : Ad (AK Tryz.prog 48 11) (some 11) := {}
instance ZU : Ad (AK Tryz.prog 48 12) (some 12) := {}
instance Ny : Ad (AK Tryz.prog 24 13) (some 13) := {}
instance ZV : Ad (AK Tryz.prog 48 13) (some 13) := {}
instance dZ : Ad (AK Tryz.prog 48 0) (some 0) := {}
instance PC : Ad (BS Tryz.prog 22) (some 1) := {}
instance mC : Ad (Bf Tryz.prog 22) (true) := {}
instance V2 : Ad (BD Tryz.prog 22) (some 160) := {}
instance ML : Ad (BS Tryz.prog 160) (some 4) := {}
instance Sx : Ad (Bm Tryz.prog 160) (true) := {}
instance fO : Ad (BU Tryz.prog 160) (some [(0, 1), (1, 1), (2, 1), (3, 1)]) := {}
instance mD : Ad (A3 Tryz.prog 160) (some [.string ⟨#[]⟩, .int .i64 0, .int .i64 0, .string ⟨#[]⟩]) := {}
instance fP : Ad (Ev Tryz.prog 160) (some 48) := {}
instance ZW : Ad (AK Tryz.prog 24 14) (some 14) := {}
instance mE : Ad (BS Tryz.prog 46) (some 1) := {}
instance Gi : Ad (Bf Tryz.prog 46) (true) := {}
instance LE : Ad (BD Tryz.prog 46) (some 139) := {}
instance EH : Ad (BS Tryz.prog 139) (some 4) := {}
instance Gk : Ad (Bm Tryz.prog 139) (true) := {}
instance fQ : Ad (BU Tryz.prog 139) (some [(0, 1), (1, 1), (2, 1), (3, 1)]) := {}
instance mF : Ad (A3 Tryz.prog 139) (some [.string ⟨#[]⟩, .int .i64 0, .int .i64 0, .string ⟨#[]⟩]) := {}
instance fR : Ad (Ev Tryz.prog 139) (some 48) := {}
instance ZX : Ad (AK Tryz.prog 48 14) (some 14) := {}
theorem oA : AA Tryz.prog 47 := A6 Tryz.func47
theorem ZY : AA Tryz.prog 49 := A6 Tryz.func49
instance fS : Ad (BS Tryz.prog 123) (some 2) := {}
instance fT : Ad (Bm Tryz.prog 123) (true) := {}
instance fU : Ad (BU Tryz.prog 123) (some [(0, 1), (1, 1)]) := {}
instance mG : Ad (A3 Tryz.prog 123) (some [.bool false, .slice none 0 0]) := {}
theorem ZZ : AA Tryz.prog 48 := A6 Tryz.func48
instance eA : Ad (AK Tryz.prog 51 1) (some 1) := {}
theorem V3 : AA Tryz.prog 50 := A6 Tryz.func50
instance eB : Ad (AK Tryz.prog 51 0) (some 0) := {}
instance fV : Ad (BD Tryz.prog 125) (some 128) := {}
instance fW : Ad (BS Tryz.prog 128) (some 3) := {}
instance fX : Ad (BU Tryz.prog 128) (some [(0, 1), (1, 1), (2, 1)]) := {}
instance mH : Ad (A3 Tryz.prog 128) (some [.string ⟨#[]⟩, .int .i64 0, .string ⟨#[]⟩]) := {}
instance Zb : Ad (AK Tryz.prog 128 0) (some 0) := {}
instance Zc : Ad (AK Tryz.prog 128 2) (some 2) := {}
theorem V4 : AA Tryz.prog 51 := A6 Tryz.func51
instance Bs : Ad (BS Tryz.prog 132) (some 4) := {}
instance Gl : Ad (Bm Tryz.prog 132) (true) := {}
instance fY : Ad (BU Tryz.prog 132) (some [(0, 1), (1, 1), (2, 1), (3, 1)]) := {}
instance DE : Ad (A3 Tryz.prog 132) (some [.int .i64 0, .string ⟨#[]⟩, .slice none 0 0, .slice none 0 0]) := {}
theorem fZ : AA Tryz.prog 54 := A6 Tryz.func54
theorem gA : AA Tryz.prog 53 := A6 Tryz.func53
theorem Sz : AA Tryz.prog 52 := A6 Tryz.func52
theorem gB : AA Tryz.prog 56 := A6 Tryz.func56
theorem gC : AA Tryz.prog 55 := A6 Tryz.func55
instance Zd : Ad (AK Tryz.prog 139 3) (some 3) := {}
instance Ze : Ad (AK Tryz.prog 139 1) (some 1) := {}
instance Zf : Ad (AK Tryz.prog 139 2) (some 2) := {}
instance Zg : Ad (AK Tryz.prog 132 0) (some 0) := {}
instance Zh : Ad (AK Tryz.prog 139 0) (some 0) := {}
theorem oB : AA Tryz.prog 57 := A6 Tryz.func57
theorem oC : AA Tryz.prog 58 := A6 Tryz.func58
instance eC : Ad (AK Tryz.prog 51 2) (some 2) := {}
theorem oD : AA Tryz.prog 59 := A6 Tryz.func59
theorem gD : AA Tryz.prog 60 := A6 Tryz.func60
instance eD : Ad (AK Tryz.prog 29 3) (some 3) := {}
instance eE : Ad (AK Tryz.prog 51 3) (some 3) := {}
instance eF : Ad (AK Tryz.prog 72 0) (some 0) := {}
instance eG : Ad (AK Tryz.prog 72 2) (some 2) := {}
theorem oE : AA Tryz.prog 64 := A6 Tryz.func64
theorem oF : AA Tryz.prog 66 := A6 Tryz.func66
theorem oG : AA Tryz.prog 68 := A6 Tryz.func68
theorem S1 : AA Tryz.prog 69 := A6 Tryz.func69
theorem oH : AA Tryz.prog 70 := A6 Tryz.func70
theorem oI : AA Tryz.prog 71 := A6 Tryz.func71
theorem oJ : AA Tryz.prog 72 := A6 Tryz.func72
theorem oK : AA Tryz.prog 73 := A6 Tryz.func73
theorem oL : AA Tryz.prog 74 := A6 Tryz.func74
theorem oM : AA Tryz.prog 75 := A6 Tryz.func75
theorem gE : AA Tryz.prog 76 := A6 Tryz.func76
theorem oN : AA Tryz.prog 78 := A6 Tryz.func78
theorem oO : AA Tryz.prog 79 := A6 Tryz.func79
theorem oP : AA Tryz.prog 80 := A6 Tryz.func80
theorem oQ : AA Tryz.prog 81 := A6 Tryz.func81
theorem oS : AA Tryz.prog 82 := A6 Tryz.func82
theorem oT : AA Tryz.prog 83 := A6 Tryz.func83
theorem oU : AA Tryz.prog 84 := A6 Tryz.func84
instance eH : Ad (AK Tryz.prog 83 1) (some 1) := {}
instance mI : Ad (Bf Tryz.prog 85) (true) := {}
instance eI : Ad (AK Tryz.prog 88 1) (some 1) := {}
theorem gF : AA Tryz.prog 85 := A6 Tryz.func85
instance eJ : Ad (AK Tryz.prog 37 1) (some 1) := {}
theorem Zi : AA Tryz.prog 86 := A6 Tryz.func86
instance mJ : Ad (Bf Tryz.prog 86) (true) := {}
instance eK : Ad (AK Tryz.prog 88 2) (some 2) := {}
theorem Zj : AA Tryz.prog 87 := A6 Tryz.func87
theorem oV : AA Tryz.prog 88 := A6 Tryz.func88
instance Zm : Ad (AK Tryz.prog 160 0) (some 0) := {}
instance gG : Ad (Bf Tryz.prog 121) (true) := {}
instance CN : Ad (BD Tryz.prog 121) (some 3) := {}
instance HY : Ad (Ev Tryz.prog 3) (some 8) := {}
theorem oW : AA Tryz.prog 89 := A6 Tryz.func89
theorem oX : AA Tryz.prog 90 := A6 Tryz.func90
theorem gH : AA Tryz.prog 91 := A6 Tryz.func91
theorem Jz : AA Tryz.prog 33 := A6 Tryz.func33
theorem Zn : AA Tryz.prog 34 := A6 Tryz.func34
instance eL : Ad (AK Tryz.prog 93 1) (some 1) := {}
instance eM : Ad (AK Tryz.prog 93 0) (some 0) := {}
theorem J0 : AA Tryz.prog 35 := A6 Tryz.func35
theorem IB : AA Tryz.prog 92 := A6 Tryz.func92
theorem Zp : AA Tryz.prog 93 := A6 Tryz.func93
theorem IC : AA Tryz.prog 94 := A6 Tryz.func94
theorem oY : AA Tryz.prog 95 := A6 Tryz.func95
theorem oZ : AA Tryz.prog 96 := A6 Tryz.func96
theorem gI : AA Tryz.prog 97 := A6 Tryz.func97
theorem gJ : AA Tryz.prog 98 := A6 Tryz.func98
theorem gK : AA Tryz.prog 99 := A6 Tryz.func99
theorem MM : AA Tryz.prog 100 := A6 Tryz.func100
theorem gL : AA Tryz.prog 37 := A6 Tryz.func37
theorem Hw : AA Tryz.prog 101 := A6 Tryz.func101
theorem gM : AA Tryz.prog 102 := A6 Tryz.func102
theorem gN : AA Tryz.prog 103 := A6 Tryz.func103
theorem gO : AA Tryz.prog 104 := A6 Tryz.func104
theorem YH : AA Tryz.prog 106 := A6 Tryz.func106
theorem YI : AA Tryz.prog 105 := A6 Tryz.func105
theorem gP : AA Tryz.prog 107 := A6 Tryz.func107
theorem gQ : AA Tryz.prog 108 := A6 Tryz.func108
instance Zq : Ad (AK Tryz.prog 104 1) (some 1) := {}
instance gR : Ad (BS Tryz.prog 102) (some 1) := {}
instance gS : Ad (Bf Tryz.prog 102) (true) := {}
instance Gm : Ad (Tryz.prog.underlying 102) (some (.pointer (Tryz.prog.pointee 102))) := {}
theorem YJ : AA Tryz.prog 109 := A6 Tryz.func109
theorem PD : AA Tryz.prog 110 := A6 Tryz.func110
theorem gT : AA Tryz.prog 111 := A6 Tryz.func111
theorem YK : AA Tryz.prog 112 := A6 Tryz.func112
theorem gU : AA Tryz.prog 113 := A6 Tryz.func113
theorem gV : AA Tryz.prog 114 := A6 Tryz.func114
instance Zr : Ad (AK Tryz.prog 160 1) (some 1) := {}
instance Zs : Ad (AK Tryz.prog 160 2) (some 2) := {}
instance Zw : Ad (AK Tryz.prog 160 3) (some 3) := {}
instance Z1 : Ad (AK Tryz.prog 123 1) (some 1) := {}
instance Z2 : Ad (AK Tryz.prog 123 0) (some 0) := {}
theorem gW : AA Tryz.prog 115 := A6 Tryz.func115
instance Z3 : Ad (AK Tryz.prog 132 3) (some 3) := {}
instance gX : Ad (BS Tryz.prog 130) (some 1) := {}
instance S2 : Ad (Bf Tryz.prog 130) (true) := {}
instance CY : Ad (BD Tryz.prog 130) (some 132) := {}
instance Ez : Ad (Ev Tryz.prog 132) (some 72) := {}
instance Z4 : Ad (AK Tryz.prog 132 2) (some 2) := {}
theorem YL : AA Tryz.prog 116 := A6 Tryz.func116
theorem YM : AA Tryz.prog 117 := A6 Tryz.func117
theorem MN : AA Tryz.prog 118 := A6 Tryz.func118
theorem YN : AA Tryz.prog 119 := A6 Tryz.func119
theorem YO : AA Tryz.prog 120 := A6 Tryz.func120
theorem YP : AA Tryz.prog 121 := A6 Tryz.func121
theorem gY : AA Tryz.prog 122 := A6 Tryz.func122
instance Z5 : Ad (AK Tryz.prog 128 1) (some 1) := {}
theorem YQ : AA Tryz.prog 123 := A6 Tryz.func123
theorem gZ : AA Tryz.prog 126 := A6 Tryz.func126
theorem hM : AA Tryz.prog 127 := A6 Tryz.func127
theorem hO : AA Tryz.prog 128 := A6 Tryz.func128
theorem hP : AA Tryz.prog 132 := A6 Tryz.func132
theorem YR : AA Tryz.prog 133 := A6 Tryz.func133
theorem pA : AA Tryz.prog 77 := A6 Tryz.func77
instance V5 : Ad (Tryz.prog.underlying 204) (some (.int .u64)) := {}
instance S3 : Ad (BS Tryz.prog 202) (some 2) := {}
instance S4 : Ad (Bm Tryz.prog 202) (true) := {}
instance mK : Ad (A3 Tryz.prog 202) (some [.int .u8 0, .int .u8 0]) := {}
instance Z6 : Ad (AK Tryz.prog 202 0) (some 0) := {}
instance Z7 : Ad (AK Tryz.prog 202 1) (some 1) := {}
theorem iA : AA Tryz.prog 135 := A6 Tryz.func135
instance PE : Ad (Tryz.prog.underlying 20) (some (.interface (Tryz.prog.methodsAt 20))) := {}
theorem PF : AA Tryz.prog 136 := A6 Tryz.func136
instance PG : Ad (Tryz.prog.concrete 95) (true) := {}
instance It : Ad (Sj Tryz.prog 207) (some (9, 3)) := {}
instance S5 : Ad (Vt Tryz.prog 3) (some (.int .i64 0)) := {}
theorem iC : AA Tryz.prog 137 := A6 Tryz.func137
theorem iE : AA Tryz.prog 139 := A6 Tryz.func139
instance S6 : Ad (Tryz.prog.underlying 21) (some (.int .i32)) := {}
theorem iF : AA Tryz.prog 138 := A6 Tryz.func138
theorem iG : AA Tryz.prog 140 := A6 Tryz.func140
theorem iH : AA Tryz.prog 141 := A6 Tryz.func141
theorem S7 : AA Tryz.prog 142 := A6 Tryz.func142
theorem iI : AA Tryz.prog 143 := A6 Tryz.func143
theorem iJ : AA Tryz.prog 144 := A6 Tryz.func144
theorem iK : AA Tryz.prog 145 := A6 Tryz.func145
theorem iL : AA Tryz.prog 146 := A6 Tryz.func146
theorem iM : AA Tryz.prog 147 := A6 Tryz.func147
theorem iN : AA Tryz.prog 149 := A6 Tryz.func149
theorem YS : AA Tryz.prog 148 := A6 Tryz.func148
instance Z8 : Ad (AK Tryz.prog 104 0) (some 0) := {}
theorem YT : AA Tryz.prog 153 := A6 Tryz.func153
instance S8 : Ad (Tryz.prog.underlying 111) (some (.interface (Tryz.prog.methodsAt 111))) := {}
theorem iO : AA Tryz.prog 154 := A6 Tryz.func154
theorem YU : AA Tryz.prog 155 := A6 Tryz.func155
theorem YV : AA Tryz.prog 156 := A6 Tryz.func156
theorem iP : AA Tryz.prog 157 := A6 Tryz.func157
theorem iQ : AA Tryz.prog 158 := A6 Tryz.func158
theorem YW : AA Tryz.prog 159 := A6 Tryz.func159
instance Z9 : Ad (AK Tryz.prog 132 1) (some 1) := {}
theorem iR : AA Tryz.prog 160 := A6 Tryz.func160
theorem YX : AA Tryz.prog 161 := A6 Tryz.func161
theorem YY : AA Tryz.prog 162 := A6 Tryz.func162
theorem YZ : AA Tryz.prog 163 := A6 Tryz.func163
theorem Ya : AA Tryz.prog 164 := A6 Tryz.func164
theorem S9 : AA Tryz.prog 165 := A6 Tryz.func165
theorem iS : AA Tryz.prog 166 := A6 Tryz.func166
instance iT : Ad (BU Tryz.prog 231) (some [(0, 1), (1, 1), (2, 1), (3, 1)]) := {}
instance mL : Ad (A3 Tryz.prog 231) (some [.slice none 0 0, .int .i64 0, .int .i64 0, .int .i64 0]) := {}
theorem Iu : AA Tryz.prog 167 := A6 Tryz.func167
theorem Yb : AA Tryz.prog 168 := A6 Tryz.func168
instance aA : Ad (AK Tryz.prog 231 2) (some 2) := {}
instance aB : Ad (AK Tryz.prog 231 1) (some 1) := {}
theorem TA : AA Tryz.prog 170 := A6 Tryz.func170
theorem TB : AA Tryz.prog 171 := A6 Tryz.func171
theorem iU : AA Tryz.prog 172 := A6 Tryz.func172
theorem Yc : AA Tryz.prog 184 := A6 Tryz.func184
theorem iV : AA Tryz.prog 186 := A6 Tryz.func186
theorem iW : AA Tryz.prog 188 := A6 Tryz.func188
theorem iX : AA Tryz.prog 189 := A6 Tryz.func189
theorem iY : AA Tryz.prog 194 := A6 Tryz.func194
theorem iZ : AA Tryz.prog 195 := A6 Tryz.func195
theorem Yd : AA Tryz.prog 196 := A6 Tryz.func196
theorem Ye : AA Tryz.prog 197 := A6 Tryz.func197
instance aC : Ad (AK Tryz.prog 231 0) (some 0) := {}
theorem Gn : AA Tryz.prog 198 := A6 Tryz.func198
theorem KJ : AA Tryz.prog 199 := A6 Tryz.func199
theorem PH : AA Tryz.prog 200 := A6 Tryz.func200
theorem Yf : AA Tryz.prog 201 := A6 Tryz.func201
theorem jA : AA Tryz.prog 202 := A6 Tryz.func202
theorem jB : AA Tryz.prog 224 := A6 Tryz.func224
theorem jC : AA Tryz.prog 238 := A6 Tryz.func238
theorem jD : AA Tryz.prog 239 := A6 Tryz.func239
theorem jF : AA Tryz.prog 240 := A6 Tryz.func240
theorem jG : AA Tryz.prog 259 := A6 Tryz.func259
theorem jH : AA Tryz.prog 260 := A6 Tryz.func260
theorem jI : AA Tryz.prog 267 := A6 Tryz.func267
def AY (l : List UInt8) (i : Nat) : Nat := (l.getD i 0).toNat
def BZ (l : List UInt8) : List UInt8 := if 1 < l.length ∧ AY l 0 = 45 then l.drop 1 else l
def An (l : List UInt8) : Prop := BZ l ≠ [] ∧ ¬ (1 < (BZ l).length ∧ AY (BZ l) 0 = 48) ∧ ¬ (BZ l = [48] ∧ 1 < l.length) ∧ ∀ j, j < (BZ l).length → 48 ≤ AY (BZ l) j ∧ AY (BZ l) j ≤ 57
instance (l : List UInt8) : Decidable (An l) := by unfold An; infer_instance
theorem Fs (s : ByteArray) : s.data.toList.length = s.size := by simp
theorem MO (s : ByteArray) : (s.extract 1 s.size).data.toList = s.data.toList.drop 1 := by
 simp only [ByteArray.data_extract, Array.toList_extract, List.extract_eq_take_drop]
 rw [List.take_of_length_le (by simp)]
theorem Fa {s : ByteArray} : s = ⟨#[]⟩ ↔ s.data.toList = [] := by
 constructor
 · rintro rfl; rfl
 · intro h; apply ByteArray.ext; simpa using h
theorem E0 {s : ByteArray} {x : UInt8} : s = ⟨#[x]⟩ ↔ s.data.toList = [x] := by
 constructor
 · rintro rfl; rfl
 · intro h; apply ByteArray.ext; apply Array.ext'; simpa using h
theorem Gp (s : ByteArray) (hs : s.size ≤ 4611686018427387904) (w0 : World) : Ae Tryz.prog 197 [.string s] w0 (.bool (decide (An s.data.toList))) := by
 have hl := Fs s
 refine Eo Ai Tryz.func197 Tryz.ntmps197 ?_
 intro a hS
 refine Wq 11 hS ?_; intro a hS
 refine C1 (fun a w => ∃ d : ByteArray, St 53 Ai w0 a w [(3, .string d), (0, .string s), (2, .bool false)] [] ∧ d.data.toList = BZ s.data.toList) ?_ ?_
 ·
  refine Wh 6 hS ?_
  refine Gd 9 ?_ ?_ <;> intro hg9
  ·
   refine Wn 6 ?_
   refine iD (fun hc13 => ?_) fun hc13 => ?_
   ·
    refine Wn 2 ?_
    refine Xp (Sn rfl rfl Dp.1 (by omega)) ?_
    refine Wn 2 ?_
    intro a w hS
    exact ⟨_, hS.slots (by exact ⟨rfl, rfl, rfl, trivial⟩), by unfold BZ AY; rw [if_pos ⟨by omega, by rw [Int.toNat_zero] at *; omega⟩]; exact MO s⟩
   refine Wn 1 ?_
   intro a w hS
   exact ⟨_, hS.slots (by exact ⟨rfl, rfl, rfl, trivial⟩), by unfold BZ AY; rw [if_neg (by rw [Int.toNat_zero] at *; omega)]⟩
  refine Wn 8 ?_
  intro a w hS
  exact ⟨_, hS.slots (by exact ⟨rfl, rfl, rfl, trivial⟩), by unfold BZ AY; rw [if_neg (by omega)]⟩
 intro a w hS
 obtain ⟨d, hS, hd⟩ := hS
 have hld := Fs d
 have hds : d.size ≤ s.size := by
  rw [← hld, hd]; unfold BZ; split
  · rw [List.length_drop]; omega
  · omega
 refine Wh 6 hS ?_
 refine Gd 18 ?_ ?_ <;> intro hg18
 ·
  refine Wn 28 ?_
  intro a w hS
  refine Ro hS Tryz.results197 ?_
  have hF : ¬ An s.data.toList := by
   unfold An
   rw [← hd]
   rintro ⟨h1, h2, h3, h4⟩
   exact h1 (Fa.1 hg18)
  exact ⟨by rw [decide_eq_false hF], hS.chg⟩
 have hpos := Io hg18
 refine Wn 4 ?_
 refine Gd 22 ?_ ?_ <;> intro hg22
 ·
  refine Wn 6 ?_
  refine Gd 28 ?_ ?_ <;> intro hg28
  ·
   refine Wn 18 ?_
   intro a w hS
   refine Ro hS Tryz.results197 ?_
   have hF : ¬ An s.data.toList := by
    unfold An
    rw [← hd]
    rintro ⟨h1, h2, h3, h4⟩
    exact h2 ⟨by omega, by unfold AY; rw [Int.toNat_zero] at hg28; omega⟩
   exact ⟨by rw [decide_eq_false hF], hS.chg⟩
  refine Wn 3 ?_
  refine Gd 31 ?_ ?_ <;> intro hg31
  ·
   refine Wn 7 ?_
   refine iD (fun hc36 => ?_) fun hc36 => ?_
   ·
    refine Wn 7 ?_
    intro a w hS
    refine Ro hS Tryz.results197 ?_
    have hF : ¬ An s.data.toList := by
     unfold An
     rw [← hd]
     rintro ⟨h1, h2, h3, h4⟩
     exact h3 ⟨E0.1 hg31, by omega⟩
    exact ⟨by rw [decide_eq_false hF], hS.chg⟩
   refine Wn 9 ?_
   intro a w hS
   refine AW (γ := Nat) (fun k a w => St 53 Ai w0 a w [(4, .int .i64 (k : Int)), (3, .string d), (0, .string s), (2, .bool false)] [] ∧ k ≤ d.size ∧ ∀ j, j < k → 48 ≤ AY d.data.toList j ∧ AY d.data.toList j ≤ 57) (fun k => d.size - k) 0 ⟨hS.slots ⟨rfl, rfl, rfl, rfl, trivial⟩, Nat.zero_le _, fun j hj => by omega⟩ ?_
   intro k a w hI
   obtain ⟨hS, hk, hok⟩ := hI
   refine Wh 9 hS ?_
   refine iD (fun hc40 => ?_) fun hc40 => ?_
   ·
    refine Wn 11 ?_
    refine Gd 47 ?_ ?_ <;> intro hg47
    ·
     refine Wn 14 ?_
     intro a w hS
     refine AD (AC (AC (AD (AC ?_))))
     refine Ro hS Tryz.results197 ?_
     have hF : ¬ An s.data.toList := by
      unfold An
      rw [← hd]
      rintro ⟨h1, h2, h3, h4⟩
      have h5 := h4 k (by omega)
      unfold AY at h5
      rw [Int.toNat_natCast] at *
      omega
     exact ⟨by rw [decide_eq_false hF], hS.chg⟩
    refine Wn 7 ?_
    refine iD (fun hc52 => ?_) fun hc52 => ?_
    ·
     refine Wn 6 ?_
     intro a w hS
     refine AD (AC (AC (AD (AC ?_))))
     refine Ro hS Tryz.results197 ?_
     have hF : ¬ An s.data.toList := by
      unfold An
      rw [← hd]
      rintro ⟨h1, h2, h3, h4⟩
      have h5 := h4 k (by omega)
      unfold AY at h5
      rw [Int.toNat_natCast] at *
      omega
     exact ⟨by rw [decide_eq_false hF], hS.chg⟩
    refine Wn 8 ?_
    have h1 : 48 ≤ AY d.data.toList k ∧ AY d.data.toList k ≤ 57 := by unfold AY; rw [Int.toNat_natCast] at *; omega
    intro a w hS
    exact ⟨k + 1, by omega, hS.slots (by exact ⟨rfl, rfl, rfl, rfl, trivial⟩), by omega, fun j hj => by by_cases e : j = k; (subst e; exact h1); exact hok j (by omega)⟩
   refine Wn 1 ?_
   intro a w hS
   refine AH (AH (Aj ?_))
   refine Wh 7 hS ?_
   intro a w hS
   refine Ro hS Tryz.results197 ?_
   have hF : An s.data.toList := by
    unfold An
    rw [← hd]
    refine ⟨fun e => hg18 (Fa.2 e), ?_, ?_, fun j hj => hok j (by omega)⟩
    ·
     rintro ⟨u, v⟩
     unfold AY at v
     first | omega | (rw [Int.toNat_zero] at *; omega)
    ·
     rintro ⟨u, v⟩
     first | exact hg31 (E0.2 u) | omega
   exact ⟨by rw [decide_eq_true hF], hS.chg⟩
  refine Wn 17 ?_
  intro a w hS
  refine AW (γ := Nat) (fun k a w => St 53 Ai w0 a w [(4, .int .i64 (k : Int)), (3, .string d), (0, .string s), (2, .bool false)] [] ∧ k ≤ d.size ∧ ∀ j, j < k → 48 ≤ AY d.data.toList j ∧ AY d.data.toList j ≤ 57) (fun k => d.size - k) 0 ⟨hS.slots ⟨rfl, rfl, rfl, rfl, trivial⟩, Nat.zero_le _, fun j hj => by omega⟩ ?_
  intro k a w hI
  obtain ⟨hS, hk, hok⟩ := hI
  refine Wh 9 hS ?_
  refine iD (fun hc40 => ?_) fun hc40 => ?_
  ·
   refine Wn 11 ?_
   refine Gd 47 ?_ ?_ <;> intro hg47
   ·
    refine Wn 14 ?_
    intro a w hS
    refine AD (AC (AC (AD (AC ?_))))
    refine Ro hS Tryz.results197 ?_
    have hF : ¬ An s.data.toList := by
     unfold An
     rw [← hd]
     rintro ⟨h1, h2, h3, h4⟩
     have h5 := h4 k (by omega)
     unfold AY at h5
     rw [Int.toNat_natCast] at *
     omega
    exact ⟨by rw [decide_eq_false hF], hS.chg⟩
   refine Wn 7 ?_
   refine iD (fun hc52 => ?_) fun hc52 => ?_
   ·
    refine Wn 6 ?_
    intro a w hS
    refine AD (AC (AC (AD (AC ?_))))
    refine Ro hS Tryz.results197 ?_
    have hF : ¬ An s.data.toList := by
     unfold An
     rw [← hd]
     rintro ⟨h1, h2, h3, h4⟩
     have h5 := h4 k (by omega)
     unfold AY at h5
     rw [Int.toNat_natCast] at *
     omega
    exact ⟨by rw [decide_eq_false hF], hS.chg⟩
   refine Wn 8 ?_
   have h1 : 48 ≤ AY d.data.toList k ∧ AY d.data.toList k ≤ 57 := by unfold AY; rw [Int.toNat_natCast] at *; omega
   intro a w hS
   exact ⟨k + 1, by omega, hS.slots (by exact ⟨rfl, rfl, rfl, rfl, trivial⟩), by omega, fun j hj => by by_cases e : j = k; (subst e; exact h1); exact hok j (by omega)⟩
  refine Wn 1 ?_
  intro a w hS
  refine AH (AH (Aj ?_))
  refine Wh 7 hS ?_
  intro a w hS
  refine Ro hS Tryz.results197 ?_
  have hF : An s.data.toList := by
   unfold An
   rw [← hd]
   refine ⟨fun e => hg18 (Fa.2 e), ?_, ?_, fun j hj => hok j (by omega)⟩
   ·
    rintro ⟨u, v⟩
    unfold AY at v
    first | omega | (rw [Int.toNat_zero] at *; omega)
   ·
    rintro ⟨u, v⟩
    first | exact hg31 (E0.2 u) | omega
  exact ⟨by rw [decide_eq_true hF], hS.chg⟩
 refine Wn 9 ?_
 refine Gd 31 ?_ ?_ <;> intro hg31
 ·
  refine Wn 7 ?_
  refine iD (fun hc36 => ?_) fun hc36 => ?_
  ·
   refine Wn 7 ?_
   intro a w hS
   refine Ro hS Tryz.results197 ?_
   have hF : ¬ An s.data.toList := by
    unfold An
    rw [← hd]
    rintro ⟨h1, h2, h3, h4⟩
    exact h3 ⟨E0.1 hg31, by omega⟩
   exact ⟨by rw [decide_eq_false hF], hS.chg⟩
  refine Wn 9 ?_
  intro a w hS
  refine AW (γ := Nat) (fun k a w => St 53 Ai w0 a w [(4, .int .i64 (k : Int)), (3, .string d), (0, .string s), (2, .bool false)] [] ∧ k ≤ d.size ∧ ∀ j, j < k → 48 ≤ AY d.data.toList j ∧ AY d.data.toList j ≤ 57) (fun k => d.size - k) 0 ⟨hS.slots ⟨rfl, rfl, rfl, rfl, trivial⟩, Nat.zero_le _, fun j hj => by omega⟩ ?_
  intro k a w hI
  obtain ⟨hS, hk, hok⟩ := hI
  refine Wh 9 hS ?_
  refine iD (fun hc40 => ?_) fun hc40 => ?_
  ·
   refine Wn 11 ?_
   refine Gd 47 ?_ ?_ <;> intro hg47
   ·
    refine Wn 14 ?_
    intro a w hS
    refine AD (AC (AC (AD (AC ?_))))
    refine Ro hS Tryz.results197 ?_
    have hF : ¬ An s.data.toList := by
     unfold An
     rw [← hd]
     rintro ⟨h1, h2, h3, h4⟩
     have h5 := h4 k (by omega)
     unfold AY at h5
     rw [Int.toNat_natCast] at *
     omega
    exact ⟨by rw [decide_eq_false hF], hS.chg⟩
   refine Wn 7 ?_
   refine iD (fun hc52 => ?_) fun hc52 => ?_
   ·
    refine Wn 6 ?_
    intro a w hS
    refine AD (AC (AC (AD (AC ?_))))
    refine Ro hS Tryz.results197 ?_
    have hF : ¬ An s.data.toList := by
     unfold An
     rw [← hd]
     rintro ⟨h1, h2, h3, h4⟩
     have h5 := h4 k (by omega)
     unfold AY at h5
     rw [Int.toNat_natCast] at *
     omega
    exact ⟨by rw [decide_eq_false hF], hS.chg⟩
   refine Wn 8 ?_
   have h1 : 48 ≤ AY d.data.toList k ∧ AY d.data.toList k ≤ 57 := by unfold AY; rw [Int.toNat_natCast] at *; omega
   intro a w hS
   exact ⟨k + 1, by omega, hS.slots (by exact ⟨rfl, rfl, rfl, rfl, trivial⟩), by omega, fun j hj => by by_cases e : j = k; (subst e; exact h1); exact hok j (by omega)⟩
  refine Wn 1 ?_
  intro a w hS
  refine AH (AH (Aj ?_))
  refine Wh 7 hS ?_
  intro a w hS
  refine Ro hS Tryz.results197 ?_
  have hF : An s.data.toList := by
   unfold An
   rw [← hd]
   refine ⟨fun e => hg18 (Fa.2 e), ?_, ?_, fun j hj => hok j (by omega)⟩
   ·
    rintro ⟨u, v⟩
    unfold AY at v
    first | omega | (rw [Int.toNat_zero] at *; omega)
   ·
    rintro ⟨u, v⟩
    first | exact hg31 (E0.2 u) | omega
  exact ⟨by rw [decide_eq_true hF], hS.chg⟩
 refine Wn 17 ?_
 intro a w hS
 refine AW (γ := Nat) (fun k a w => St 53 Ai w0 a w [(4, .int .i64 (k : Int)), (3, .string d), (0, .string s), (2, .bool false)] [] ∧ k ≤ d.size ∧ ∀ j, j < k → 48 ≤ AY d.data.toList j ∧ AY d.data.toList j ≤ 57) (fun k => d.size - k) 0 ⟨hS.slots ⟨rfl, rfl, rfl, rfl, trivial⟩, Nat.zero_le _, fun j hj => by omega⟩ ?_
 intro k a w hI
 obtain ⟨hS, hk, hok⟩ := hI
 refine Wh 9 hS ?_
 refine iD (fun hc40 => ?_) fun hc40 => ?_
 ·
  refine Wn 11 ?_
  refine Gd 47 ?_ ?_ <;> intro hg47
  ·
   refine Wn 14 ?_
   intro a w hS
   refine AD (AC (AC (AD (AC ?_))))
   refine Ro hS Tryz.results197 ?_
   have hF : ¬ An s.data.toList := by
    unfold An
    rw [← hd]
    rintro ⟨h1, h2, h3, h4⟩
    have h5 := h4 k (by omega)
    unfold AY at h5
    rw [Int.toNat_natCast] at *
    omega
   exact ⟨by rw [decide_eq_false hF], hS.chg⟩
  refine Wn 7 ?_
  refine iD (fun hc52 => ?_) fun hc52 => ?_
  ·
   refine Wn 6 ?_
   intro a w hS
   refine AD (AC (AC (AD (AC ?_))))
   refine Ro hS Tryz.results197 ?_
   have hF : ¬ An s.data.toList := by
    unfold An
    rw [← hd]
    rintro ⟨h1, h2, h3, h4⟩
    have h5 := h4 k (by omega)
    unfold AY at h5
    rw [Int.toNat_natCast] at *
    omega
   exact ⟨by rw [decide_eq_false hF], hS.chg⟩
  refine Wn 8 ?_
  have h1 : 48 ≤ AY d.data.toList k ∧ AY d.data.toList k ≤ 57 := by unfold AY; rw [Int.toNat_natCast] at *; omega
  intro a w hS
  exact ⟨k + 1, by omega, hS.slots (by exact ⟨rfl, rfl, rfl, rfl, trivial⟩), by omega, fun j hj => by by_cases e : j = k; (subst e; exact h1); exact hok j (by omega)⟩
 refine Wn 1 ?_
 intro a w hS
 refine AH (AH (Aj ?_))
 refine Wh 7 hS ?_
 intro a w hS
 refine Ro hS Tryz.results197 ?_
 have hF : An s.data.toList := by
  unfold An
  rw [← hd]
  refine ⟨fun e => hg18 (Fa.2 e), ?_, ?_, fun j hj => hok j (by omega)⟩
  ·
   rintro ⟨u, v⟩
   unfold AY at v
   first | omega | (rw [Int.toNat_zero] at *; omega)
  ·
   rintro ⟨u, v⟩
   first | exact hg31 (E0.2 u) | omega
 exact ⟨by rw [decide_eq_true hF], hS.chg⟩
def Bv (n : Int) : List Value := [.int .i64 n]
def nv : List Int → Int
 | [] => 0
 | d :: r => d + 10000 * nv r
def TC (l : List Int) : Prop := ∀ d ∈ l, 0 ≤ d ∧ d ≤ 9999
def Dh (n : Nat) : List Int := if n = 0 then [] else ((n % 10000 : Nat) : Int) :: Dh (n / 10000)
 termination_by n
 decreasing_by omega
theorem Bo : Dh 0 = [] := by rw [Dh]; simp
theorem DT {n : Nat} (h : n ≠ 0) : Dh n = ((n % 10000 : Nat) : Int) :: Dh (n / 10000) := by rw [Dh, if_neg h]
theorem TD (n : Nat) : nv (Dh n) = n := by
 induction n using Nat.strongRecOn with
 | ind n ih =>
   by_cases h : n = 0
   · subst h; rw [Bo]; rfl
   · rw [DT h, nv, ih (n / 10000) (by omega)]; omega
theorem PI (n : Nat) : TC (Dh n) := by
 induction n using Nat.strongRecOn with
 | ind n ih =>
   by_cases h : n = 0
   · subst h; rw [Bo]; intro d hd; cases hd
   ·
    rw [DT h]
    intro d hd
    rcases List.mem_cons.1 hd with rfl | hd
    · omega
    · exact ih (n / 10000) (by omega) d hd
theorem B7 {l : List Int} (h : TC l) : 0 ≤ nv l := by
 induction l with
 | nil => exact Int.le_refl _
 | cons d r ih =>
   have h1 := h d (.head _)
   have h2 := ih (fun x hx => h x (.tail _ hx))
   rw [nv]; omega
theorem Iv {d : Int} {r : List Int} (h : TC (d :: r)) : TC r := fun x hx => h x (.tail _ hx)
theorem TE {l : List Int} (h : TC l) (n : Nat) : TC (l.take n) := fun x hx => h x (List.mem_of_mem_take hx)
theorem Qk (l r : List Int) : nv (l ++ r) = nv l + 10000 ^ l.length * nv r := by
 induction l with
 | nil => simp [nv]
 | cons d l ih => simp only [List.cons_append, nv, ih, List.length_cons, Int.pow_succ]; rw [Int.mul_add, Int.mul_comm (10000 ^ l.length) 10000, Int.mul_assoc]; omega
theorem V6 (l : List Int) (d : Int) : nv (l ++ [d]) = nv l + 10000 ^ l.length * d := by
 rw [Qk]; simp [nv]
theorem aD {l : List Int} (h : TC l) (ht : ∀ r d, l = r ++ [d] → d ≠ 0) : l = Dh (nv l).toNat := by
 induction l with
 | nil => simp [nv, Bo]
 | cons d r ih =>
   have h1 := h d (.head _)
   have h2 := B7 (Iv h)
   have ih' := ih (Iv h) (fun r' d' e => ht (d :: r') d' (by rw [e]; rfl))
   have hn : (nv (d :: r)).toNat ≠ 0 := by
    rw [nv]
    cases r with
    | nil =>
      have := ht [] d rfl
      simp only [nv]; omega
    | cons d' r' =>
      intro e
      have e1 : nv (d' :: r') = 0 := by omega
      rw [e1] at ih'
      rw [show (0 : Int).toNat = 0 from rfl, Bo] at ih'
      cases ih'
   rw [DT hn]
   have e1 : ((nv (d :: r)).toNat % 10000 : Nat) = d := by rw [nv]; omega
   have e2 : (nv (d :: r)).toNat / 10000 = (nv r).toNat := by rw [nv]; omega
   rw [e1, e2, ← ih']
theorem Ql {l : List Int} {n : Nat} (hd : l[n]? = some 0) : nv (l.take (n + 1)) = nv (l.take n) := by
 rw [List.take_add_one, hd]
 simp only [Option.toList]
 rw [V6]; simp
theorem MP {l : List Int} (h : TC l) {n : Nat} (hn : n ≤ l.length) (hd : n = 0 ∨ ∃ d, l[n - 1]? = some d ∧ d ≠ 0) (hv : nv (l.take n) = nv l) : l.take n = Dh (nv l).toNat := by
 rw [← hv]
 refine aD (TE h n) (fun r d e => ?_)
 rcases hd with rfl | ⟨d', hd', hne⟩
 · simp at e
 ·
  have hl : (l.take n).length = n := by rw [List.length_take]; omega
  have hr : r.length = n - 1 := by
   have := congrArg List.length e
   rw [hl] at this
   simp at this; omega
  have h1 : (l.take n)[n - 1]? = some d := by rw [e, List.getElem?_append_right (by omega), hr]; simp
  rw [List.getElem?_take] at h1
  split at h1
  · rw [hd'] at h1; cases h1; exact hne
  · cases h1
theorem GC {n k : Nat} (h : n < 10000 ^ k) : (Dh n).length ≤ k := by
 induction k generalizing n with
 | zero =>
   obtain rfl : n = 0 := by simpa using h
   rw [Bo]; simp
 | succ k ih =>
   by_cases h0 : n = 0
   · subst h0; rw [Bo]; simp
   ·
    rw [DT h0, List.length_cons]
    have : n / 10000 < 10000 ^ k := by rw [Nat.pow_succ] at h; omega
    have := ih this
    omega
theorem jJ {l : List Int} (h : TC l) : nv l < 10000 ^ l.length := by
 induction l with
 | nil => simp [nv]
 | cons d r ih =>
   have h1 := h d (.head _)
   have h2 := ih (Iv h)
   rw [nv, List.length_cons, Int.pow_succ]; omega
theorem V7 {n : Nat} (h : n ≠ 0) : (10000 : Int) ^ ((Dh n).length - 1) ≤ n := by
 induction n using Nat.strongRecOn with
 | ind n ih =>
   rw [DT h, List.length_cons]
   by_cases h0 : n / 10000 = 0
   · rw [h0, Bo]; simp; omega
   ·
    have := ih (n / 10000) (by omega) h0
    have hp : 0 < (Dh (n / 10000)).length := by rw [DT h0]; simp
    rw [show (Dh (n / 10000)).length + 1 - 1 = ((Dh (n / 10000)).length - 1) + 1 by omega, Int.pow_succ]
    omega
theorem TF {n : Nat} : Dh n ≠ [] ↔ 0 < n := by
 by_cases h : n = 0
 · subst h; simp [Bo]
 · rw [DT h]; simp; omega
def Gq (z : Int) (p : Option (Nat × Nat)) (c : Nat) : Value := .agg [.bool (decide (z < 0)), C3 p (Dh z.natAbs).length c].toArray
def J1 (z : Int) (b : Nat) : AT := .any (fun k => k = b) (Jv (some (b, 0)) 1 ((Dh z.natAbs).map Bv)) true
def MA (neg : Bool) (v : Int) : Int := if neg then -v else v
theorem D3 {neg : Bool} {v : Int} (h : 0 ≤ v) : (MA neg v).natAbs = v.toNat := by unfold MA; split <;> omega
theorem Gr {neg : Bool} {v : Int} (h : 0 ≤ v) {p : Option (Nat × Nat)} {c k : Nat} (hk : (Dh v.toNat).length = k) : Gq (MA neg v) p c = .agg [.bool (neg && decide (0 < (k : Int))), C3 p k c].toArray := by
 unfold Gq
 rw [D3 h, hk]
 have h2 : 0 < k ↔ 0 < v := by
  have := TF (n := v.toNat)
  rw [← List.length_pos_iff, hk] at this
  rw [this]; omega
 have : decide (MA neg v < 0) = (neg && decide (0 < (k : Int))) := by
  cases neg <;> simp [MA] <;> omega
 rw [this]
theorem LF (l : List Int) : ∀ u ∈ l.flatMap Bv, Bl u = true := by
 intro u hu
 obtain ⟨x, _, hx⟩ := List.mem_flatMap.1 hu
 simp only [Bv, List.mem_cons, List.not_mem_nil, or_false] at hx
 rw [hx]; rfl
theorem Gt {b off : Nat} {l : List Int} {w : World} (h : Dz b off 1 (l.map Bv) w) : ∀ j u, (l.flatMap Bv)[j]? = some u → w.cell? ⟨b, off + j, none⟩ = some u := by
 intro j u hu
 have hlt := (List.getElem?_eq_some_iff.1 hu).1
 rw [Cc Bv 1 (fun _ => rfl)] at hlt
 have hx : (l.map Bv)[j]? = some (Bv l[j]) := by simp [show j < l.length by omega]
 have hj := Gc Bv 1 (fun _ => rfl) l j l[j] (by simp) 0 (.int .i64 l[j]) rfl
 rw [Nat.mul_one, Nat.add_zero, hu] at hj
 have := h j _ hx 0 u (by rw [hj]; rfl)
 simpa using this
theorem FF {b off s k : Nat} {xs : List (List Value)} {w : World} (h : Dz b off s xs w) : Dz b off s (xs.take k) w := by
 intro i x hx
 rw [List.getElem?_take] at hx
 split at hx
 · exact h i x hx
 · cases hx
theorem Di {w : World} {b c m : Nat} {z : Int} {l : List Int} (hl : l = Dh z.natAbs) (h : w.ownsRow 0 3 1 (.slice (some ⟨b, 0, none⟩) m c) m (l.flatMap Bv)) : (J1 z b).ok w := by
 subst hl
 exact ⟨fun k hk => by obtain rfl : k = b := hk; exact (World.ownsRow.lt h k rfl).2, fun w' hw => Dz.keep (GK (enc := Bv) (fun _ => rfl) h) (hw b rfl)⟩
theorem MQ (b c : Nat) : Gq 0 (some (b, 0)) c = .agg [.bool false, .slice (some ⟨b, 0, none⟩) 0 c].toArray := by
 unfold Gq
 rw [show (0 : Int).natAbs = 0 from rfl, Bo]; rfl
theorem LG {w : World} {E s b c m : Nat} {xs : List Value} (h : w.ownsRow 0 E s (.slice (some ⟨b, 0, none⟩) m c) m xs) : m ≤ c := by
 rcases h.2 with ⟨e, _⟩ | ⟨g, cap, cur, e, _, _, h1, _⟩
 · cases e
 · cases e; exact h1
abbrev At (z : Int) := { y : Nat × Nat // (Dh z.natAbs).length ≤ y.2 }
theorem Qm (neg : Bool) (w0 : World) : Bb Tryz.prog 115 [.bool neg, .slice none 0 0] w0 (fun y : At 0 => Gq 0 (some (y.1.1, 0)) y.1.2) (fun y => J1 0 y.1.1) := by
 refine Eo Ai Tryz.func115 Tryz.ntmps115 ?_
 intro a hS
 refine Wh 2 hS ?_
 refine Lo (Al ?_); intro b4
 refine Wn 11 ?_
 intro a w hS
 refine AW (γ := Nat) (fun k a w => St 31 Ai w0 a w [(5, .int .i64 0), (4, .pointer (some ⟨b4, 0, none⟩)), (0, .bool neg), (1, .slice none 0 0)] [.blk b4 [.bool false, .slice none 0 0] 123] ∧ k = 0) (fun k => k) 0 ⟨hS.slots ⟨rfl, rfl, rfl, rfl, trivial⟩, rfl⟩ ?_
 intro k a w hI
 obtain ⟨hS, hk⟩ := hI
 refine Wh 6 hS ?_
 refine Ie 10 false rfl (by decide) ?_
 refine Wn 11 ?_
 intro a w hS
 refine AH (AH (Aj ?_))
 refine Wh 5 hS ?_
 refine Gs 21 ?_ ?_ <;> intro hg21
 ·
  refine Wn 3 ?_
  refine Lo (Bz ?_); intro b25
  refine Wn 2 ?_
  refine Xp (Hu (j := 0) rfl rfl CN.1 Cj.1 (Nat.le_refl _)) ?_
  intro a w hS
  replace hS := hS.swap (X := .blk b25 [] 3) (Y := AJ 3 1 (.slice (some ⟨b25, 0, none⟩) 0 0) 0 []) (by repeat (first | apply DY.head | apply DY.tail)) (Cg (hS.get (X := .blk b25 [] 3) (by repeat (first | exact .head _ | refine .tail _ ?_)))) (fun b hb => by simpa [AJ, AT.F, Value.ownBlock, eq_comm] using hb) rfl
  refine Un hS (Xp (KE rfl rfl CN.1 Cj.1 HY.1 KH.1 (by repeat (first | exact .head _ | refine .tail _ ?_))) ?_)
  refine Wn 1 ?_
  refine Lo (Sa ?_)
  refine Wn 3 ?_
  intro a w hS
  refine Ro hS Tryz.results115 ?_
  have hn := hS.new (X := AJ 3 1 (.slice (some ⟨b25, 0, none⟩) 0 0) 0 []) (by repeat (first | exact .head _ | refine .tail _ ?_)) rfl
  refine ⟨⟨(b25, 0), by rw [show (0 : Int).natAbs = 0 from rfl, Bo]; exact Nat.le_refl _⟩, (congrArg Ending.returned (MQ b25 0)).symm, hS.chg, Di (c := 0) (m := 0) (l := []) (by rw [show (0 : Int).natAbs = 0 from rfl, Bo]) hn.1.now, fun q hq => hn.2 q (by obtain rfl : q = b25 := hq; rfl)⟩
 refine Wn 3 ?_
 refine Lo (Bz ?_); intro b25
 refine Wn 2 ?_
 refine Xp (Hu (j := 0) rfl rfl CN.1 Cj.1 (Nat.le_refl _)) ?_
 intro a w hS
 replace hS := hS.swap (X := .blk b25 [] 3) (Y := AJ 3 1 (.slice (some ⟨b25, 0, none⟩) 0 0) 0 []) (by repeat (first | apply DY.head | apply DY.tail)) (Cg (hS.get (X := .blk b25 [] 3) (by repeat (first | exact .head _ | refine .tail _ ?_)))) (fun b hb => by simpa [AJ, AT.F, Value.ownBlock, eq_comm] using hb) rfl
 refine Un hS (Xp (KE rfl rfl CN.1 Cj.1 HY.1 KH.1 (by repeat (first | exact .head _ | refine .tail _ ?_))) ?_)
 refine Wn 1 ?_
 refine Lo (Sa ?_)
 refine Wn 3 ?_
 intro a w hS
 refine Ro hS Tryz.results115 ?_
 have hn := hS.new (X := AJ 3 1 (.slice (some ⟨b25, 0, none⟩) 0 0) 0 []) (by repeat (first | exact .head _ | refine .tail _ ?_)) rfl
 refine ⟨⟨(b25, 0), by rw [show (0 : Int).natAbs = 0 from rfl, Bo]; exact Nat.le_refl _⟩, (congrArg Ending.returned (MQ b25 0)).symm, hS.chg, Di (c := 0) (m := 0) (l := []) (by rw [show (0 : Int).natAbs = 0 from rfl, Bo]) hn.1.now, fun q hq => hn.2 q (by obtain rfl : q = b25 := hq; rfl)⟩
theorem Qn (neg : Bool) (b off c : Nat) (ds : List Int) (hin : TC ds) (hc : ds.length ≤ c) (hlen : ds.length ≤ 1000000) (w0 : World) (hrow : Dz b off 1 (ds.map Bv) w0) (hb : b < w0.heap.size) :
 Bb Tryz.prog 115 [.bool neg, C3 (some (b, off)) ds.length c] w0 (fun y : At (MA neg (nv ds)) => Gq (MA neg (nv ds)) (some (y.1.1, 0)) y.1.2) (fun y => J1 (MA neg (nv ds)) y.1.1) := by
 refine En [MJ b off 1 (ds.map Bv)] Ai Tryz.func115 Tryz.ntmps115 (by intro X hX; obtain rfl := List.mem_singleton.1 hX; exact ZD hrow hb) (by simp) (by intro X hX hm; obtain rfl := List.mem_singleton.1 hX; cases hm) ?_
 intro a hS
 refine Wh 2 hS ?_
 refine Lo (Al ?_); intro b4
 refine Wn 11 ?_
 intro a w hS
 refine AW (γ := Nat) (fun k a w => St 31 Ai w0 a w [(5, .int .i64 (k : Int)), (4, .pointer (some ⟨b4, 0, none⟩)), (0, .bool neg), (1, C3 (some (b, off)) ds.length c)] [.blk b4 [.bool false, .slice none 0 0] 123, MJ b off 1 (ds.map Bv)] ∧ k ≤ ds.length ∧ nv (ds.take k) = nv ds) (fun k => k) ds.length ⟨hS.slots ⟨rfl, rfl, rfl, rfl, trivial⟩, Nat.le_refl _, by rw [List.take_length]⟩ ?_
 intro k a w hI
 obtain ⟨hS, hk, hv⟩ := hI
 refine Wq 6 hS ?_; intro a hS
 try (
   have hk1 : 0 < k := by omega
   have hkn : ((k : Int) - 1).toNat = k - 1 := by omega
   obtain ⟨d, hd⟩ : ∃ d, ds[k - 1]? = some d := ⟨ds[k - 1]'(by omega), List.getElem?_eq_getElem (by omega)⟩
   have hd' : (ds.map Bv)[k - 1]? = some (Bv d) := by simp [hd])
 refine Un hS (Gd 10 ?_ ?_) <;> intro hg10
 ·
  intro a w hS
  try (
    have hk1 : 0 < k := by omega
    have hkn : ((k : Int) - 1).toNat = k - 1 := by omega
    obtain ⟨d, hd⟩ : ∃ d, ds[k - 1]? = some d := ⟨ds[k - 1]'(by omega), List.getElem?_eq_getElem (by omega)⟩
    have hd' : (ds.map Bv)[k - 1]? = some (Bv d) := by simp [hd])
  refine Wh 3 hS ?_
  refine Xg (Vo rfl rfl CN.1 Cj.1 (by omega)) ?_
  refine Xg (AI rfl El.1 (fun w hh => by rw [hkn]; exact Vp (by repeat (first | exact .head _ | refine .tail _ ?_)) hd' w hh 0 (.int .i64 d) rfl)) ?_
  refine Wn 4 ?_
  refine iD (fun hc17 => ?_) fun hc17 => ?_
  ·
   refine Wn 9 ?_
   intro a w hS
   exact ⟨k - 1, by omega, by rw [show ((k - 1 : Nat) : Int) = (k : Int) - 1 by omega]; exact hS.slots (by exact ⟨rfl, rfl, rfl, rfl, trivial⟩), by omega, by subst hc17; have := Ql hd; rw [show k - 1 + 1 = k by omega] at this; rw [← this]; exact hv⟩
  refine Wn 1 ?_
  intro a w hS
  refine AH (AH (Aj ?_))
  refine Wh 3 hS ?_
  have hT : ds.take k = Dh (nv ds).toNat := MP hin hk (by first | exact .inl (by omega) | exact .inr ⟨d, hd, hc17⟩) hv
  refine Wn 2 ?_
  refine Gs 21 ?_ ?_ <;> intro hg21
  ·
   refine Wn 3 ?_
   refine Lo (Bz ?_); intro b25
   refine Wn 2 ?_
   refine Xp (Hu rfl rfl CN.1 Cj.1 (by omega)) ?_
   intro a w hS
   replace hS := hS.swap (X := .blk b25 [] 3) (Y := AJ 3 1 (.slice (some ⟨b25, 0, none⟩) 0 0) 0 []) (by repeat (first | apply DY.head | apply DY.tail)) (Cg (hS.get (X := .blk b25 [] 3) (by repeat (first | exact .head _ | refine .tail _ ?_)))) (fun b hb => by simpa [AJ, AT.F, Value.ownBlock, eq_comm] using hb) rfl
   refine Aa (EF hS rfl rfl CN.1 Cj.1 HY.1 KH.1 rfl rfl rfl (by repeat (first | exact .head _ | refine .tail _ ?_)) (ys := (ds.take k).flatMap Bv) (by rw [Cc Bv 1 (fun _ => rfl), List.length_take]; omega) (by have := Gt (l := ds.take k) (by rw [List.map_take]; exact FF (hS.get (X := MJ b off 1 (ds.map Bv)) (by repeat (first | exact .head _ | refine .tail _ ?_)))); exact this) (LF _) (by omega) (fun _ => (by repeat (first | apply DY.head | apply DY.tail))) ?_); intro v29 a w hv29 hS
   obtain ⟨lb, c', rfl⟩ := Ge (hS.get (.head _)) (fun e => by have := (hv29.1 e).1; cases this)
   rw [Nat.zero_add, List.nil_append] at hS
   clear hv29
   refine Wh 1 hS ?_
   refine Lo (Sa ?_)
   refine Wn 3 ?_
   intro a w hS
   refine Ro hS Tryz.results115 ?_
   have hlk : (Dh (nv ds).toNat).length = k := by rw [← hT, List.length_take]; omega
   have hn := hS.new (X := AJ 3 1 (.slice (some ⟨lb, 0, none⟩) k c') k ((ds.take k).flatMap Bv)) (by repeat (first | exact .head _ | refine .tail _ ?_)) rfl
   refine ⟨⟨(lb, c'), by rw [D3 (B7 hin), hlk]; exact LG hn.1.now⟩, ?_, hS.chg, Di (by rw [D3 (B7 hin)]; exact hT) hn.1.now, fun q hq => hn.2 q (by obtain rfl : q = lb := hq; rfl)⟩
   show _ = Ending.returned (Gq (MA neg (nv ds)) (some (lb, 0)) c')
   rw [Gr (B7 hin) hlk, hg21]
   simp [C3]
  refine Wn 3 ?_
  refine Lo (Bz ?_); intro b25
  refine Wn 2 ?_
  refine Xp (Hu rfl rfl CN.1 Cj.1 (by omega)) ?_
  intro a w hS
  replace hS := hS.swap (X := .blk b25 [] 3) (Y := AJ 3 1 (.slice (some ⟨b25, 0, none⟩) 0 0) 0 []) (by repeat (first | apply DY.head | apply DY.tail)) (Cg (hS.get (X := .blk b25 [] 3) (by repeat (first | exact .head _ | refine .tail _ ?_)))) (fun b hb => by simpa [AJ, AT.F, Value.ownBlock, eq_comm] using hb) rfl
  refine Aa (EF hS rfl rfl CN.1 Cj.1 HY.1 KH.1 rfl rfl rfl (by repeat (first | exact .head _ | refine .tail _ ?_)) (ys := (ds.take k).flatMap Bv) (by rw [Cc Bv 1 (fun _ => rfl), List.length_take]; omega) (by have := Gt (l := ds.take k) (by rw [List.map_take]; exact FF (hS.get (X := MJ b off 1 (ds.map Bv)) (by repeat (first | exact .head _ | refine .tail _ ?_)))); exact this) (LF _) (by omega) (fun _ => (by repeat (first | apply DY.head | apply DY.tail))) ?_); intro v29 a w hv29 hS
  obtain ⟨lb, c', rfl⟩ := Ge (hS.get (.head _)) (fun e => by have := (hv29.1 e).1; cases this)
  rw [Nat.zero_add, List.nil_append] at hS
  clear hv29
  refine Wh 1 hS ?_
  refine Lo (Sa ?_)
  refine Wn 3 ?_
  intro a w hS
  refine Ro hS Tryz.results115 ?_
  have hlk : (Dh (nv ds).toNat).length = k := by rw [← hT, List.length_take]; omega
  have hn := hS.new (X := AJ 3 1 (.slice (some ⟨lb, 0, none⟩) k c') k ((ds.take k).flatMap Bv)) (by repeat (first | exact .head _ | refine .tail _ ?_)) rfl
  refine ⟨⟨(lb, c'), by rw [D3 (B7 hin), hlk]; exact LG hn.1.now⟩, ?_, hS.chg, Di (by rw [D3 (B7 hin)]; exact hT) hn.1.now, fun q hq => hn.2 q (by obtain rfl : q = lb := hq; rfl)⟩
  show _ = Ending.returned (Gq (MA neg (nv ds)) (some (lb, 0)) c')
  rw [Gr (B7 hin) hlk, hg21]
  simp [C3]
 intro a w hS
 try (
   have hk1 : 0 < k := by omega
   have hkn : ((k : Int) - 1).toNat = k - 1 := by omega
   obtain ⟨d, hd⟩ : ∃ d, ds[k - 1]? = some d := ⟨ds[k - 1]'(by omega), List.getElem?_eq_getElem (by omega)⟩
   have hd' : (ds.map Bv)[k - 1]? = some (Bv d) := by simp [hd])
 refine Wq 11 hS ?_; intro a hS
 refine AH (AH (Aj ?_))
 refine Wh 3 hS ?_
 have hT : ds.take k = Dh (nv ds).toNat := MP hin hk (by first | exact .inl (by omega) | exact .inr ⟨d, hd, hc17⟩) hv
 refine Wn 2 ?_
 refine Gs 21 ?_ ?_ <;> intro hg21
 ·
  refine Wn 3 ?_
  refine Lo (Bz ?_); intro b25
  refine Wn 2 ?_
  refine Xp (Hu rfl rfl CN.1 Cj.1 (by omega)) ?_
  intro a w hS
  replace hS := hS.swap (X := .blk b25 [] 3) (Y := AJ 3 1 (.slice (some ⟨b25, 0, none⟩) 0 0) 0 []) (by repeat (first | apply DY.head | apply DY.tail)) (Cg (hS.get (X := .blk b25 [] 3) (by repeat (first | exact .head _ | refine .tail _ ?_)))) (fun b hb => by simpa [AJ, AT.F, Value.ownBlock, eq_comm] using hb) rfl
  refine Aa (EF hS rfl rfl CN.1 Cj.1 HY.1 KH.1 rfl rfl rfl (by repeat (first | exact .head _ | refine .tail _ ?_)) (ys := (ds.take k).flatMap Bv) (by rw [Cc Bv 1 (fun _ => rfl), List.length_take]; omega) (by have := Gt (l := ds.take k) (by rw [List.map_take]; exact FF (hS.get (X := MJ b off 1 (ds.map Bv)) (by repeat (first | exact .head _ | refine .tail _ ?_)))); exact this) (LF _) (by omega) (fun _ => (by repeat (first | apply DY.head | apply DY.tail))) ?_); intro v29 a w hv29 hS
  obtain ⟨lb, c', rfl⟩ := Ge (hS.get (.head _)) (fun e => by have := (hv29.1 e).1; cases this)
  rw [Nat.zero_add, List.nil_append] at hS
  clear hv29
  refine Wh 1 hS ?_
  refine Lo (Sa ?_)
  refine Wn 3 ?_
  intro a w hS
  refine Ro hS Tryz.results115 ?_
  have hlk : (Dh (nv ds).toNat).length = k := by rw [← hT, List.length_take]; omega
  have hn := hS.new (X := AJ 3 1 (.slice (some ⟨lb, 0, none⟩) k c') k ((ds.take k).flatMap Bv)) (by repeat (first | exact .head _ | refine .tail _ ?_)) rfl
  refine ⟨⟨(lb, c'), by rw [D3 (B7 hin), hlk]; exact LG hn.1.now⟩, ?_, hS.chg, Di (by rw [D3 (B7 hin)]; exact hT) hn.1.now, fun q hq => hn.2 q (by obtain rfl : q = lb := hq; rfl)⟩
  show _ = Ending.returned (Gq (MA neg (nv ds)) (some (lb, 0)) c')
  rw [Gr (B7 hin) hlk, hg21]
  simp [C3]
 refine Wn 3 ?_
 refine Lo (Bz ?_); intro b25
 refine Wn 2 ?_
 refine Xp (Hu rfl rfl CN.1 Cj.1 (by omega)) ?_
 intro a w hS
 replace hS := hS.swap (X := .blk b25 [] 3) (Y := AJ 3 1 (.slice (some ⟨b25, 0, none⟩) 0 0) 0 []) (by repeat (first | apply DY.head | apply DY.tail)) (Cg (hS.get (X := .blk b25 [] 3) (by repeat (first | exact .head _ | refine .tail _ ?_)))) (fun b hb => by simpa [AJ, AT.F, Value.ownBlock, eq_comm] using hb) rfl
 refine Aa (EF hS rfl rfl CN.1 Cj.1 HY.1 KH.1 rfl rfl rfl (by repeat (first | exact .head _ | refine .tail _ ?_)) (ys := (ds.take k).flatMap Bv) (by rw [Cc Bv 1 (fun _ => rfl), List.length_take]; omega) (by have := Gt (l := ds.take k) (by rw [List.map_take]; exact FF (hS.get (X := MJ b off 1 (ds.map Bv)) (by repeat (first | exact .head _ | refine .tail _ ?_)))); exact this) (LF _) (by omega) (fun _ => (by repeat (first | apply DY.head | apply DY.tail))) ?_); intro v29 a w hv29 hS
 obtain ⟨lb, c', rfl⟩ := Ge (hS.get (.head _)) (fun e => by have := (hv29.1 e).1; cases this)
 rw [Nat.zero_add, List.nil_append] at hS
 clear hv29
 refine Wh 1 hS ?_
 refine Lo (Sa ?_)
 refine Wn 3 ?_
 intro a w hS
 refine Ro hS Tryz.results115 ?_
 have hlk : (Dh (nv ds).toNat).length = k := by rw [← hT, List.length_take]; omega
 have hn := hS.new (X := AJ 3 1 (.slice (some ⟨lb, 0, none⟩) k c') k ((ds.take k).flatMap Bv)) (by repeat (first | exact .head _ | refine .tail _ ?_)) rfl
 refine ⟨⟨(lb, c'), by rw [D3 (B7 hin), hlk]; exact LG hn.1.now⟩, ?_, hS.chg, Di (by rw [D3 (B7 hin)]; exact hT) hn.1.now, fun q hq => hn.2 q (by obtain rfl : q = lb := hq; rfl)⟩
 show _ = Ending.returned (Gq (MA neg (nv ds)) (some (lb, 0)) c')
 rw [Gr (B7 hin) hlk, hg21]
 simp [C3]
theorem aE (neg : Bool) (p : Option (Nat × Nat)) (c : Nat) (hp : p = none → c = 0) (ds : List Int) (hin : TC ds) (hc : ds.length ≤ c) (hlen : ds.length ≤ 1000000) (w0 : World) (hrow : Jv p 1 (ds.map Bv) w0) (hb : ∀ q, p = some q → q.1 < w0.heap.size) :
 Bb Tryz.prog 115 [.bool neg, C3 p ds.length c] w0 (fun y : At (MA neg (nv ds)) => Gq (MA neg (nv ds)) (some (y.1.1, 0)) y.1.2) (fun y => J1 (MA neg (nv ds)) y.1.1) := by
 cases p with
 | none =>
   obtain rfl := hp rfl
   obtain rfl : ds = [] := by simpa [Jv] using hrow
   have e : MA neg (nv []) = 0 := by cases neg <;> rfl
   rw [e]
   exact Qm neg w0
 | some q => exact Qn neg q.1 q.2 c ds hin hc hlen w0 hrow (hb q rfl)
theorem MR {w : World} {v : Value} {l : List Int} (h : w.ownsRow 0 3 1 v l.length (l.flatMap Bv)) :
 ∃ p c, v = C3 p l.length c ∧ (p = none → c = 0) ∧ l.length ≤ c ∧ Jv p 1 (l.map Bv) w ∧ ∀ q, p = some q → q.1 < w.heap.size := by
 rcases h.2 with ⟨rfl, e⟩ | ⟨g, cap, cur, rfl, _, _, hc, _⟩
 ·
  refine ⟨none, 0, by rw [e]; rfl, fun _ => rfl, by omega, ?_, by simp⟩
  rw [List.eq_nil_of_length_eq_zero e]; rfl
 ·
  refine ⟨some (g, 0), cap, rfl, by simp, hc, GK (enc := Bv) (fun _ => rfl) h, fun q hq => ?_⟩
  cases hq
  exact (World.ownsRow.lt h g rfl).2
theorem Nz {p q : Option (Nat × Nat)} {m c d : Nat} (h : C3 p m c = C3 q m d) : p = q ∧ c = d := by
 unfold C3 at h
 simp only [Value.slice.injEq, true_and] at h
 refine ⟨?_, h.2⟩
 cases p <;> cases q <;> simp_all
 exact Prod.ext h.1.1 h.1.2
theorem aF {z v : Int} (h : v = z.natAbs) : MA (decide (z < 0)) v = z := by
 unfold MA
 by_cases h0 : z < 0 <;> simp [h0] <;> omega
theorem Gu {m : Int} (h : -9223372036854775808 ≤ m ∧ m ≤ 9223372036854775807) : IntKind.i64.wrap m = m := IntWalk.i64_in _ (by omega)
theorem V8 (n : Int) : (n.tdiv 10000).natAbs = n.natAbs / 10000 := Int.natAbs_tdiv n 10000
theorem V9 (n : Int) : (n.tmod 10000).natAbs = n.natAbs % 10000 := Int.natAbs_tmod n 10000
theorem LH (z : Int) (hz : -9223372036854775808 ≤ z ∧ z ≤ 9223372036854775807) (w0 : World) :
 Bb Tryz.prog 49 [.int .i64 z] w0 (fun y : At z => Gq z (some (y.1.1, 0)) y.1.2) (fun y => J1 z y.1.1) := by
 have hlz : (Dh z.natAbs).length ≤ 5 := GC (by omega)
 refine Eo Ai Tryz.func49 Tryz.ntmps49 ?_
 intro a hS
 refine Wh 2 hS ?_
 refine Lo (Al ?_); intro b2
 refine Wn 16 ?_
 intro a w hS
 refine AW (γ := (Int × List Int × Value)) (fun G a w => St 25 Ai w0 a w [(0, .int .i64 G.1), (2, .pointer (some ⟨b2, 0, none⟩)), (3, .bool (decide (z < 0))), (4, G.2.2)] [AJ 3 1 G.2.2 G.2.1.length (G.2.1.flatMap Bv), .blk b2 [.bool false, .slice none 0 0] 123] ∧ G.2.1 ++ Dh G.1.natAbs = Dh z.natAbs ∧ -9223372036854775808 ≤ G.1 ∧ G.1 ≤ 9223372036854775807) (fun G => G.1.natAbs) (z, [], .slice none 0 0) ⟨(hS.own_nil 3 1).slots ⟨rfl, rfl, rfl, rfl, trivial⟩, rfl, hz⟩ ?_
 intro G a w hI
 obtain ⟨n, l, sv⟩ := G
 obtain ⟨hS, hl, hn⟩ := hI
 simp only at hS hl hn
 refine Wh 7 hS ?_
 refine iD (fun hc9 => ?_) fun hc9 => ?_
 ·
  have hn0 : n.natAbs ≠ 0 := by omega
  have hll : l.length < 5 := by
   have := congrArg List.length hl
   rw [DT hn0, List.length_append, List.length_cons] at this
   omega
  have hq := V8 n
  have hr := V9 n
  refine Wn 6 ?_
  refine Xp (YB rfl rfl (by decide)) ?_
  refine Wn 3 ?_
  intro a w hS
  refine C1 (fun a w => ∃ d : Int, St 25 Ai w0 a w [(5, .int .i64 d), (0, .int .i64 n), (2, .pointer (some ⟨b2, 0, none⟩)), (3, .bool (decide (z < 0))), (4, sv)] [AJ 3 1 sv l.length (l.flatMap Bv), .blk b2 [.bool false, .slice none 0 0] 123] ∧ d = (n.natAbs % 10000 : Nat)) ?_ ?_
  ·
   refine Wh 6 hS ?_
   refine iD (fun hc13 => ?_) fun hc13 => ?_
   ·
    refine Wn 2 ?_
    refine Xp (YE rfl) ?_
    intro a w hS
    rw [Gu (by omega)] at hS
    refine Wq 2 hS ?_; intro a hS
    exact ⟨_, hS.slots (by exact ⟨rfl, rfl, rfl, rfl, rfl, trivial⟩), by omega⟩
   refine Wn 1 ?_
   intro a w hS
   exact ⟨_, hS.slots (by exact ⟨rfl, rfl, rfl, rfl, rfl, trivial⟩), by omega⟩
  intro a w hS
  obtain ⟨d, hS, hd⟩ := hS
  have e1 : (l ++ [d]).flatMap Bv = l.flatMap Bv ++ [.int .i64 d] := by simp [Bv]
  refine Wh 4 hS ?_
  refine Lo (Bz ?_); intro b18
  refine Lo (A1 ?_); intro v19 hv19
  refine Wn 5 ?_
  refine Xp (KC rfl rfl (by decide)) ?_
  intro a w hS
  rw [Gu (by omega)] at hS
  refine Wh 3 hS ?_
  have hq1 : (n.tdiv 10000).natAbs < n.natAbs := by omega
  intro a w hS
  refine ⟨(n.tdiv 10000, l ++ [d], v19), hq1, ?_, ?_, ?_⟩
  ·
   simp only [List.length_append, List.length_cons, List.length_nil, Nat.zero_add, e1]
   exact (hS.drop (by repeat (first | exact List.Sublist.refl _ | apply List.Sublist.cons_cons | apply List.Sublist.cons))).slots (by exact ⟨rfl, rfl, rfl, rfl, trivial⟩)
  ·
   show l ++ [d] ++ Dh (n.tdiv 10000).natAbs = _
   rw [← hl, DT hn0, hq, hd]; simp
  · simp only; omega
 obtain rfl : n = 0 := by omega
 rw [show (0 : Int).natAbs = 0 from rfl, Bo, List.append_nil] at hl
 intro a w hS
 obtain ⟨p4, c4, rfl, h4, h5, _, _⟩ := MR (hS.get (X := AJ 3 1 sv l.length (l.flatMap Bv)) (by repeat (first | exact .head _ | refine .tail _ ?_)))
 refine Wq 1 hS ?_; intro a hS
 refine AH (AH (Aj ?_))
 refine Wq 5 hS ?_; intro a hS
 obtain ⟨p5, c5, e5, _, _, h6, h7⟩ := MR (hS.get (X := AJ 3 1 (C3 p4 l.length c4) l.length (l.flatMap Bv)) (by repeat (first | exact .head _ | refine .tail _ ?_)))
 obtain ⟨rfl, rfl⟩ := Nz e5
 have hT := aE (decide (z < 0)) p4 c4 h4 l (by rw [hl]; exact PI _) h5 (by rw [hl]; omega) w h6 h7
 rw [aF (by rw [hl, TD])] at hT
 clear e5
 refine Aa (PA hS gW (hT) ?_); intro x24
 refine Lo (Sa ?_)
 refine Wn 3 ?_
 intro a w hS
 refine Ro hS Tryz.results49 ?_
 exact ⟨x24, rfl, hS.chg, hS.new (X := J1 z x24.1.1) (by repeat (first | exact .head _ | refine .tail _ ?_)) rfl⟩
theorem WA {p : Option (Nat × Nat)} {xs : List Int} {w : World} (h : Jv p 1 (xs.map Bv) w) (hx : xs ≠ []) : ∃ b off, p = some (b, off) := by
 cases p with
 | none => simp only [Jv, List.map_eq_nil_iff] at h; exact absurd h hx
 | some r => exact ⟨r.1, r.2, rfl⟩
def DU (a : Nat) (c : UInt8) : Nat := 10 * a + (c.toNat - 48)
def dv (l : List UInt8) : Nat := l.foldl DU 0
theorem PK (l : List UInt8) (c : UInt8) : dv (l ++ [c]) = 10 * dv l + (c.toNat - 48) := by unfold dv; rw [List.foldl_append]; rfl
theorem PL : ∀ (b : List UInt8) (x : Nat), x ≤ b.foldl DU x
 | [], _ => Nat.le_refl _
 | c :: r, x => by
   have := PL r (DU x c)
   rw [List.foldl_cons]
   have h : x ≤ DU x c := by unfold DU; omega
   omega
theorem PM : ∀ (b : List UInt8) (x : Nat), x * 10 ^ b.length ≤ b.foldl DU x
 | [], x => by simp
 | c :: r, x => by
   have := PM r (DU x c)
   rw [List.foldl_cons, List.length_cons, Nat.pow_succ]
   have h : 10 * x ≤ DU x c := by unfold DU; omega
   have h2 := Nat.mul_le_mul_right (10 ^ r.length) h
   rw [show x * (10 ^ r.length * 10) = 10 * x * 10 ^ r.length by rw [Nat.mul_comm (10 ^ r.length) 10, ← Nat.mul_assoc, Nat.mul_comm x 10]]
   omega
theorem WB {l : List UInt8} (k : Nat) : dv (l.take k) ≤ dv l := by
 have h := PL (l.drop k) (dv (l.take k))
 unfold dv at *
 rw [← List.foldl_append, List.take_append_drop] at h
 exact h
theorem WC {l : List UInt8} {k : Nat} (hk : k < l.length) : dv (l.take (k + 1)) = 10 * dv (l.take k) + (AY l k - 48) := by
 rw [List.take_succ_eq_append_getElem hk, PK]
 unfold AY
 rw [List.getD_eq_getElem?_getD, List.getElem?_eq_getElem hk]; rfl
theorem WD {l : List UInt8} (h : 20 ≤ l.length) (h0 : 49 ≤ AY l 0) : 9223372036854775808 < dv l := by
 cases l with
 | nil => simp at h
 | cons c r =>
   have h1 := PM r (DU 0 c)
   have h2 : 1 ≤ DU 0 c := by unfold DU; unfold AY at h0; simp at h0; omega
   have h3 : 10 ^ 19 ≤ 10 ^ r.length := Nat.pow_le_pow_right (by decide) (by simp at h; omega)
   have h4 := Nat.mul_le_mul h2 h3
   unfold dv
   rw [List.foldl_cons]
   omega
theorem Qo {m : Int} (h : 0 ≤ m ∧ m ≤ 255) : IntKind.u8.wrap m = m := IntWalk.u8_in _ h
theorem WE {m : Int} (h : 0 ≤ m) : (-m).tdiv 10 = -(m / 10) := by rw [Int.neg_tdiv, Int.tdiv_eq_ediv_of_nonneg h]
def EI (l : List UInt8) : Int := if AY l 0 = 45 then -(dv (BZ l) : Int) else dv (BZ l)
def DO (l : List UInt8) : Int × Bool := if An l ∧ -9223372036854775808 ≤ EI l ∧ EI l ≤ 9223372036854775807 then (EI l, true) else (0, false)
theorem N0 (s : ByteArray) (hs : s.size ≤ 4611686018427387904) (w0 : World) : Ae Tryz.prog 165 [.string s] w0 (.tuple [.int .i64 (DO s.data.toList).1, .bool (DO s.data.toList).2].toArray) := by
 have hl := Fs s
 refine Eo Ai Tryz.func165 Tryz.ntmps165 ?_
 intro a hS
 refine Wh 9 hS ?_
 refine Lo (cP Ye (fun _ => Gp s hs _) ?_)
 refine Wn 10 ?_
 refine iB (fun hc13 => ?_) fun hc13 => ?_
 ·
  have hF : ¬ An s.data.toList := by simpa using hc13
  refine Wn 8 ?_
  intro a w hS
  refine Rm hS Tryz.results165 ?_
  exact ⟨by unfold DO; rw [if_neg (fun h => hF h.1)], hS.chg⟩
 have hF : An s.data.toList := by simpa using hc13
 have hpos : 0 < s.size := by
  have h1 := hF.1
  by_cases h0 : s.size = 0
  ·
   have : s.data.toList = [] := List.eq_nil_of_length_eq_zero (by omega)
   rw [this] at h1
   exact absurd rfl h1
  · omega
 have hneg : AY s.data.toList 0 = 45 → 1 < s.data.toList.length := by
  intro h1
  by_cases h2 : 1 < s.data.toList.length
  · exact h2
  ·
   have h3 : BZ s.data.toList = s.data.toList := by unfold BZ; rw [if_neg (by omega)]
   have h4 := hF.2.2.2 0 (by rw [h3]; omega)
   rw [h3] at h4
   omega
 refine Wn 16 ?_
 intro a w hS
 refine C1 (fun a w => ∃ d : ByteArray, St 50 Ai w0 a w [(6, .string d), (5, .bool (decide ((AY s.data.toList 0 : Int) = 45))), (0, .string s), (2, .int .i64 0), (3, .bool false)] [] ∧ d.data.toList = BZ s.data.toList) ?_ ?_
 ·
  refine Wh 5 hS ?_
  refine iD (fun hc18 => ?_) fun hc18 => ?_
  ·
   refine Wn 2 ?_
   refine Xp (Sn rfl rfl Dp.1 (by omega)) ?_
   refine Wn 2 ?_
   have h45 : AY s.data.toList 0 = 45 := by unfold AY; rw [Int.toNat_zero] at hc18; omega
   intro a w hS
   exact ⟨_, hS.slots (by exact ⟨rfl, rfl, rfl, rfl, rfl, trivial⟩), by unfold BZ; rw [if_pos ⟨hneg h45, h45⟩]; exact MO s⟩
  refine Wn 1 ?_
  intro a w hS
  exact ⟨_, hS.slots (by exact ⟨rfl, rfl, rfl, rfl, rfl, trivial⟩), by unfold BZ; rw [if_neg (by rintro ⟨_, u⟩; unfold AY at u; rw [Int.toNat_zero] at hc18; omega)]⟩
 intro a w hS
 obtain ⟨d, hS, hd⟩ := hS
 have hld := Fs d
 have hds : d.size ≤ s.size := by
  rw [← hld, hd]; unfold BZ; split
  · rw [List.length_drop]; omega
  · omega
 have hF1 := hF.1
 have hF2 := hF.2.1
 have hF4 := hF.2.2.2
 rw [← hd] at hF1 hF2 hF4
 have hv : EI s.data.toList = if AY s.data.toList 0 = 45 then -(dv d.data.toList : Int) else dv d.data.toList := by unfold EI; rw [hd]
 refine Wh 8 hS ?_
 refine iD (fun hc23 => ?_) fun hc23 => ?_
 ·
  have hno : DO s.data.toList = (0, false) := by
   have h1 := hF4 0 (by omega)
   have h2 := WD (l := d.data.toList) (by omega) (by
     have h3 : ¬ AY d.data.toList 0 = 48 := fun e => hF2 ⟨by omega, e⟩
     omega)
   unfold DO
   rw [if_neg]
   rintro ⟨_, u, v⟩
   rw [hv] at u v
   split at u <;> omega
  refine Wn 8 ?_
  intro a w hS
  refine Rm hS Tryz.results165 ?_
  exact ⟨by rw [hno], hS.chg⟩
 refine Wn 14 ?_
 intro a w hS
 refine AW (γ := Nat) (fun k a w => St 50 Ai w0 a w [(8, .int .i64 (k : Int)), (7, .int .i64 (-(dv (d.data.toList.take k) : Int))), (6, .string d), (5, .bool (decide ((AY s.data.toList 0 : Int) = 45))), (0, .string s), (2, .int .i64 0), (3, .bool false)] [] ∧ k ≤ d.size ∧ dv (d.data.toList.take k) ≤ 9223372036854775808) (fun k => d.size - k) 0 ⟨hS.slots (by exact ⟨rfl, rfl, rfl, rfl, rfl, rfl, rfl, trivial⟩), Nat.zero_le _, by simp [dv]⟩ ?_
 intro k a w hI
 obtain ⟨hS, hk, hb⟩ := hI
 refine Wh 9 hS ?_
 refine iD (fun hc27 => ?_) fun hc27 => ?_
 ·
  have hx := hF4 k (by omega)
  have hs1 := WC (l := d.data.toList) (k := k) (by omega)
  have hxe : ((d.data.toList.getD (k : Int).toNat 0).toNat : Int) = (AY d.data.toList k : Int) := by unfold AY; rw [Int.toNat_natCast]
  refine Wn 9 ?_
  intro a w hS
  rw [hxe] at hS
  refine Wq 1 hS ?_; intro a hS
  rw [Qo (by omega)] at hS
  refine Un hS (Xp (IL rfl C7.1 Is.1 (by omega)) ?_)
  refine Wn 9 ?_
  refine Xp (KC rfl rfl (by decide)) ?_
  have hq : ((-9223372036854775808 : Int) + ((AY d.data.toList k : Int) - 48)).tdiv 10 = -((9223372036854775808 - ((AY d.data.toList k : Int) - 48)) / 10) := by
   rw [show (-9223372036854775808 : Int) + ((AY d.data.toList k : Int) - 48) = -(9223372036854775808 - ((AY d.data.toList k : Int) - 48)) by omega]
   exact WE (by omega)
  intro a w hS
  rw [hq, Gu (by omega)] at hS
  refine Wh 3 hS ?_
  refine iD (fun hc39 => ?_) fun hc39 => ?_
  ·
   have hno : DO s.data.toList = (0, false) := by
    have h2 := WB (l := d.data.toList) (k + 1)
    have h3 : 9223372036854775808 < dv (d.data.toList.take (k + 1)) := by omega
    unfold DO
    rw [if_neg]
    rintro ⟨_, u, v⟩
    rw [hv] at u v
    split at u <;> omega
   refine Wn 7 ?_
   intro a w hS
   refine AC (AD (AC (AC (AD (AC ?_)))))
   refine Rm hS Tryz.results165 ?_
   exact ⟨by rw [hno], hS.chg⟩
  refine Wn 16 ?_
  have e7 : 10 * -(dv (d.data.toList.take k) : Int) - ((AY d.data.toList k : Int) - 48) = -(dv (d.data.toList.take (k + 1)) : Int) := by rw [hs1]; omega
  intro a w hS
  rw [e7] at hS
  exact ⟨k + 1, by omega, hS.slots (by exact ⟨rfl, rfl, rfl, rfl, rfl, rfl, rfl, trivial⟩), by omega, by rw [hs1]; omega⟩
 obtain rfl : k = d.size := by omega
 intro a w hS
 rw [List.take_of_length_le (by omega)] at hS hb
 clear hk
 refine Wq 1 hS ?_; intro a hS
 refine AH (AH (Aj ?_))
 refine Wh 7 hS ?_
 refine iD (fun hc44 => ?_) fun hc44 => ?_
 ·
  refine Wn 9 ?_
  intro a w hS
  refine Rm hS Tryz.results165 ?_
  have hyes : DO s.data.toList = (-(dv d.data.toList : Int), true) := by
   have e : EI s.data.toList = -(dv d.data.toList : Int) := by rw [hv, if_pos (by omega)]
   unfold DO
   rw [e, if_pos ⟨hF, by omega, by omega⟩]
  exact ⟨by rw [hyes], hS.chg⟩
 refine Wn 9 ?_
 refine iD (fun hc47 => ?_) fun hc47 => ?_
 ·
  refine Wn 8 ?_
  intro a w hS
  refine Rm hS Tryz.results165 ?_
  have hno : DO s.data.toList = (0, false) := by
   have e : EI s.data.toList = (dv d.data.toList : Int) := by rw [hv, if_neg (by omega)]
   unfold DO
   rw [e, if_neg (by rintro ⟨_, _, u⟩; omega)]
  exact ⟨by rw [hno], hS.chg⟩
 refine Wn 5 ?_
 refine Xp (YE rfl) ?_
 intro a w hS
 rw [Gu (by omega)] at hS
 refine Wh 5 hS ?_
 intro a w hS
 refine Rm hS Tryz.results165 ?_
 have hyes : DO s.data.toList = ((dv d.data.toList : Int), true) := by
  have e : EI s.data.toList = (dv d.data.toList : Int) := by rw [hv, if_neg (by omega)]
  unfold DO
  rw [e, if_pos ⟨hF, by omega, by omega⟩]
 exact ⟨by rw [hyes]; simp, hS.chg⟩
inductive JV where
 | mk (k : Nat) (t : List UInt8) (ns : List (List UInt8)) (l : List JV)
def JV.k : JV → Nat
 | .mk k _ _ _ => k
def JV.t : JV → List UInt8
 | .mk _ t _ _ => t
def JV.ns : JV → List (List UInt8)
 | .mk _ _ ns _ => ns
def JV.l : JV → List JV
 | .mk _ _ _ l => l
def jz : JV := .mk 0 [] [] []
def Fb (s : List UInt8) : JV := .mk 4 s [] []
def DI (s : List UInt8) : JV := .mk 3 s [] []
def Yg (x : UInt8) : Bool := decide (x.toNat = 32 ∨ x.toNat = 9 ∨ x.toNat = 10 ∨ x.toNat = 13)
def MS (x : UInt8) : Bool := decide (48 ≤ x.toNat ∧ x.toNat ≤ 57)
def Ag (l : List UInt8) : Nat := (l.takeWhile Yg).length
def MT (l : List UInt8) : Nat := (l.takeWhile MS).length
def GN (l : List UInt8) : Nat := match l with
 | [] => 0
 | x :: _ => x.toNat
def one (p : UInt8 → Bool) (l : List UInt8) : Bool := match l with
 | [] => false
 | x :: _ => p x
def CZ (c : Nat) (x : UInt8) : Bool := decide (x.toNat = c)
def EJ (l : List UInt8) : Option Nat := if MT l = 0 then none else some (MT l)
def Cr (l : List UInt8) : Nat := if one (CZ 45) l then 1 else 0
def Gv (l : List UInt8) : Option Nat := if one (CZ 48) l then some 1 else EJ l
def E3 (l : List UInt8) : Option Nat := if one (CZ 46) l then (EJ (l.drop 1)).map (· + 1) else some 0
def jE (x : UInt8) : Bool := decide (x.toNat = 101 ∨ x.toNat = 69)
def jK (x : UInt8) : Bool := decide (x.toNat = 43 ∨ x.toNat = 45)
def mM (l : List UInt8) : Nat := if one jK l then 1 else 0
def ID (l : List UInt8) : Option Nat := if one jE l then (EJ (l.drop (1 + mM (l.drop 1)))).map (· + (1 + mM (l.drop 1))) else some 0
def Cs (l : List UInt8) : Option Nat :=
 match Gv (l.drop (Cr l)) with
 | none => none
 | some a => match E3 (l.drop (Cr l + a)) with
   | none => none
   | some b => match ID (l.drop (Cr l + a + b)) with
     | none => none
     | some c => if 40 < Cr l + a + b + c then none else some (Cr l + a + b + c)
def F7 (x : Nat) : Option Nat := if 48 ≤ x ∧ x ≤ 57 then some (x - 48) else if 97 ≤ x ∧ x ≤ 102 then some (x - 87) else if 65 ≤ x ∧ x ≤ 70 then some (x - 55) else none
def Ed (l : List UInt8) : Option Nat := match l with
 | a :: b :: c :: d :: _ => match F7 a.toNat, F7 b.toNat, F7 c.toNat, F7 d.toNat with
   | some x, some y, some z, some u => some (((x * 16 + y) * 16 + z) * 16 + u)
   | _, _, _, _ => none
 | _ => none
def Iw : List UInt8 := [34, 92, 47, 98, 102, 110, 114, 116]
def N1 : List UInt8 := [34, 92, 47, 8, 12, 10, 13, 9]
def Gw (l : List UInt8) : Option (Nat × Nat) := match l with
 | [] => none
 | c :: t => match Iw.findIdx? (· == c) with
   | some i => some ((N1.getD i 0).toNat, 1)
   | none => if c.toNat = 117 then match Ed t with
    | none => none
    | some x => if x < 55296 ∨ 57344 ≤ x then some (x, 5) else if 56320 ≤ x then none else
      if (t.getD 4 0).toNat = 92 ∧ (t.getD 5 0).toNat = 117 then match Ed (t.drop 6) with
       | none => none
       | some y => if y < 56320 ∨ 57344 ≤ y then none else some (65536 + (x - 55296) * 1024 + (y - 56320), 11)
      else none
     else none
def GO : Nat → List UInt8 → List UInt8 → Nat → Option (List UInt8 × Nat)
 | 0, _, _, _ => none
 | n + 1, l, acc, u => match l with
   | [] => none
   | c :: t => if c.toNat < 32 then none else if c.toNat = 34 then some (acc, u + 1) else
     if c.toNat = 92 then match Gw t with
      | none => none
      | some (r, k) => GO n (t.drop k) (acc ++ Lib.encodeRune r) (u + 1 + k)
     else if (Lib.decodeL l).1 = 65533 ∧ (Lib.decodeL l).2 = 1 then none
     else GO n (l.drop (Lib.decodeL l).2) (acc ++ l.take (Lib.decodeL l).2) (u + (Lib.decodeL l).2)
def B0 : List (List UInt8) := [[110, 117, 108, 108], [102, 97, 108, 115, 101], [116, 114, 117, 101]]
def Hx (l : List UInt8) : Option (JV × Nat) := match B0.findIdx? (fun w => w.head? == l.head?) with
 | none => none
 | some i => if (B0.getD i []).isPrefixOf l then some (.mk i [] [] [], (B0.getD i []).length) else none
def EK (x : UInt8) : Bool := [(123 : UInt8), 91, 34, 45, 48, 49, 50, 51, 52, 53, 54, 55, 56, 57, 110, 102, 116].contains x
mutual
def Dq : Nat → Nat → List UInt8 → Option (JV × Nat)
 | 0, _, _ => none
 | n + 1, d, l => match l with
   | [] => none
   | c :: t =>
     if c.toNat = 123 then if 32 ≤ d then none else
      if one (CZ 125) (t.drop (Ag t)) then some (.mk 6 [] [] [], 1 + Ag t + 1) else Iz n d t [] [] 1
     else if c.toNat = 91 then if 32 ≤ d then none else
      if one (CZ 93) (t.drop (Ag t)) then some (.mk 5 [] [] [], 1 + Ag t + 1) else Iy n d t [] 1
     else if c.toNat = 34 then (GO t.length t [] 1).map fun x => (Fb x.1, x.2)
     else if c.toNat = 45 ∨ (48 ≤ c.toNat ∧ c.toNat ≤ 57) then (Cs l).map fun k => (DI (l.take k), k)
     else Hx l
def Iy : Nat → Nat → List UInt8 → List JV → Nat → Option (JV × Nat)
 | 0, _, _, _, _ => none
 | n + 1, d, l, acc, u =>
   if acc.length = 1000 ∧ one EK (l.drop (Ag l)) then none else
   match Dq n (d + 1) (l.drop (Ag l)) with
   | none => none
   | some (v, k) =>
     if one (CZ 93) (l.drop (Ag l + k + Ag (l.drop (Ag l + k)))) then some (.mk 5 [] [] (acc ++ [v]), u + (Ag l + k + Ag (l.drop (Ag l + k)) + 1))
     else if one (CZ 44) (l.drop (Ag l + k + Ag (l.drop (Ag l + k)))) then Iy n d (l.drop (Ag l + k + Ag (l.drop (Ag l + k)) + 1)) (acc ++ [v]) (u + (Ag l + k + Ag (l.drop (Ag l + k)) + 1))
     else none
def Iz : Nat → Nat → List UInt8 → List (List UInt8) → List JV → Nat → Option (JV × Nat)
 | 0, _, _, _, _, _ => none
 | n + 1, d, l, ns, acc, u =>
   if one (CZ 34) (l.drop (Ag l)) = false then none else
   if acc.length = 1000 then none else
   match GO l.length (l.drop (Ag l + 1)) [] (Ag l + 1) with
   | none => none
   | some (nm, a) =>
     if nm ∈ ns then none else
     if one (CZ 58) (l.drop (a + Ag (l.drop a))) = false then none else
     let p1 := a + Ag (l.drop a) + 1
     let p2 := p1 + Ag (l.drop p1)
     match Dq n (d + 1) (l.drop p2) with
     | none => none
     | some (v, k) =>
       let p3 := p2 + k + Ag (l.drop (p2 + k))
       if one (CZ 125) (l.drop p3) then some (.mk 6 [] (ns ++ [nm]) (acc ++ [v]), u + (p3 + 1))
       else if one (CZ 44) (l.drop p3) then Iz n d (l.drop (p3 + 1)) (ns ++ [nm]) (acc ++ [v]) (u + (p3 + 1))
       else none
end
def Ct (l : List UInt8) : Option JV := if 65536 < l.length then none else match Dq (2 * l.length + 2) 0 (l.drop (Ag l)) with
 | none => none
 | some (v, k) => if Ag l + k + Ag (l.drop (Ag l + k)) < l.length then none else some v
theorem PN {b : UInt8} {t : List UInt8} (h : 128 ≤ b.toNat) : (Lib.decodeL (b :: t)).1 = 65533 ∨ 2 ≤ (Lib.decodeL (b :: t)).2 := by
 rw [Lib.decodeL_N]
 have h0 : ((b :: t).getD 0 0).toNat = b.toNat := rfl
 rw [h0]
 generalize (List.getD (b :: t) 1 0).toNat = y1
 generalize (List.getD (b :: t) 2 0).toNat = y2
 generalize (List.getD (b :: t) 3 0).toNat = y3
 unfold Lib.decodeN
 rw [if_neg (by omega)]
 repeat' split
 all_goals first | exact .inl rfl | exact .inr (by simp)
theorem Qp {n y0 y1 y2 y3 r k : Nat} (h : Lib.decodeN n y0 y1 y2 y3 = (r, k)) (h0 : 128 ≤ y0) (hk : 2 ≤ k) :
 (k = 2 ∧ 1 < n ∧ 128 ≤ y1 ∧ ∀ m z2 z3, 1 < m → Lib.decodeN m y0 y1 z2 z3 = (r, k)) ∨ (k = 3 ∧ 2 < n ∧ 128 ≤ y1 ∧ 128 ≤ y2 ∧ ∀ m z3, 2 < m → Lib.decodeN m y0 y1 y2 z3 = (r, k)) ∨ (k = 4 ∧ 3 < n ∧ 128 ≤ y1 ∧ 128 ≤ y2 ∧ 128 ≤ y3 ∧ ∀ m, 3 < m → Lib.decodeN m y0 y1 y2 y3 = (r, k)) := by
 unfold Lib.decodeN at h
 rw [if_neg (by omega)] at h
 by_cases c1 : y0 / 32 = 6 ∧ (1 < n ∧ y1 / 64 = 2)
 ·
  rw [if_pos c1] at h
  split at h
  ·
   rename_i c2
   refine .inl ⟨by injection h with _ e; exact e.symm, c1.2.1, by omega, fun m z2 z3 hm => ?_⟩
   unfold Lib.decodeN
   rw [if_neg (by omega), if_pos ⟨c1.1, hm, c1.2.2⟩, if_pos c2]; exact h
  · injection h with _ e; omega
 rw [if_neg c1] at h
 by_cases c2 : y0 / 16 = 14 ∧ (1 < n ∧ y1 / 64 = 2) ∧ (2 < n ∧ y2 / 64 = 2)
 ·
  rw [if_pos c2] at h
  split at h
  ·
   rename_i c3
   refine .inr (.inl ⟨by injection h with _ e; exact e.symm, c2.2.2.1, by omega, by omega, fun m z3 hm => ?_⟩)
   unfold Lib.decodeN
   rw [if_neg (by omega), if_neg (by omega), if_pos ⟨c2.1, ⟨by omega, c2.2.1.2⟩, hm, c2.2.2.2⟩, if_pos c3]; exact h
  · injection h with _ e; omega
 rw [if_neg c2] at h
 by_cases c3 : y0 / 8 = 30 ∧ (1 < n ∧ y1 / 64 = 2) ∧ (2 < n ∧ y2 / 64 = 2) ∧ (3 < n ∧ y3 / 64 = 2)
 ·
  rw [if_pos c3] at h
  split at h
  ·
   rename_i c4
   refine .inr (.inr ⟨by injection h with _ e; exact e.symm, c3.2.2.2.1, by omega, by omega, by omega, fun m hm => ?_⟩)
   unfold Lib.decodeN
   rw [if_neg (by omega), if_neg (by omega), if_neg (by omega), if_pos ⟨c3.1, ⟨by omega, c3.2.1.2⟩, ⟨by omega, c3.2.2.1.2⟩, hm, c3.2.2.2.2⟩, if_pos c4]; exact h
  · injection h with _ e; omega
 rw [if_neg c3] at h
 injection h with _ e; omega
theorem MU {b : UInt8} {t : List UInt8} (hb : 128 ≤ b.toNat) (hk : 2 ≤ (Lib.decodeL (b :: t)).2) :
 (Lib.decodeL (b :: t)).2 ≤ (b :: t).length ∧ (∀ c ∈ (b :: t).take (Lib.decodeL (b :: t)).2, 128 ≤ c.toNat) ∧ ∀ X, Lib.decodeL ((b :: t).take (Lib.decodeL (b :: t)).2 ++ X) = Lib.decodeL (b :: t) := by
 obtain ⟨r, k, e⟩ : ∃ r k, Lib.decodeL (b :: t) = (r, k) := ⟨_, _, rfl⟩
 rw [e] at hk ⊢
 rw [Lib.decodeL_N] at e
 simp only at hk ⊢
 rcases Qp e (show 128 ≤ ((b :: t).getD 0 0).toNat from hb) hk with ⟨rfl, h1, h2, h3⟩ | ⟨rfl, h1, h2, h3, h4⟩ | ⟨rfl, h1, h2, h3, h4, h5⟩
 ·
  match t, h1, h2, h3 with
  | c :: t, _, h2, h3 =>
    refine ⟨by simp, fun x hx => ?_, fun X => ?_⟩
    · simp at hx; rcases hx with rfl | rfl; exact hb; exact h2
    · rw [Lib.decodeL_N]; exact h3 _ _ _ (by simp)
 ·
  match t, h1, h2, h3, h4 with
  | c :: d :: t, _, h2, h3, h4 =>
    refine ⟨by simp, fun x hx => ?_, fun X => ?_⟩
    · simp at hx; rcases hx with rfl | rfl | rfl; exact hb; exact h2; exact h3
    · rw [Lib.decodeL_N]; exact h4 _ _ (by simp)
  | [c], h1, _, _, _ => simp at h1
 ·
  match t, h1, h2, h3, h4, h5 with
  | c :: d :: f :: t, _, h2, h3, h4, h5 =>
    refine ⟨by simp, fun x hx => ?_, fun X => ?_⟩
    · simp at hx; rcases hx with rfl | rfl | rfl | rfl; exact hb; exact h2; exact h3; exact h4
    · rw [Lib.decodeL_N]; exact h5 _ (by simp)
  | [c], h1, _, _, _, _ => simp at h1
  | [c, d], h1, _, _, _, _ => simp at h1
def HU (n : Nat) : UInt8 := if n < 10 then UInt8.ofNat (48 + n) else UInt8.ofNat (87 + n)
def qB (c : UInt8) : List UInt8 := if c.toNat = 34 ∨ c.toNat = 92 then [92, c] else if c.toNat < 32 ∨ c.toNat = 127 then [92, 117, 48, 48, HU (c.toNat / 16), HU (c.toNat % 16)] else [c]
def AV (s : List UInt8) : List UInt8 := 34 :: s.flatMap qB ++ [34]
theorem Gx {c : UInt8} (h : ¬ (c.toNat = 34 ∨ c.toNat = 92)) (h2 : ¬ (c.toNat < 32 ∨ c.toNat = 127)) : qB c = [c] := by unfold qB; rw [if_neg h, if_neg h2]
theorem aG {l : List UInt8} (h : ∀ c ∈ l, 128 ≤ c.toNat) : l.flatMap qB = l := by
 induction l with
 | nil => rfl
 | cons c t ih =>
   have := h c (.head _)
   rw [List.flatMap_cons, Gx (by omega) (by omega), ih (fun x hx => h x (.tail _ hx))]; rfl
theorem Fc (x y : List UInt8) : (x ++ y).drop x.length = y := by simp
structure aH (rest : List UInt8) : Prop where
 d : one MS rest = false
 p : one (CZ 46) rest = false
 e : one jE rest = false
theorem WF : aH [] := ⟨rfl, rfl, rfl⟩
structure I0 (t : List UInt8) : Prop where
 f : ∃ s ds, t = s ++ ds ∧ (s = [] ∨ s = [45]) ∧ (∀ x ∈ ds, MS x = true) ∧ ds ≠ [] ∧ (ds.head? = some 48 → ds = [48])
 n : t.length ≤ 40
theorem aI {ds rest : List UInt8} (h : ∀ x ∈ ds, MS x = true) (h2 : one MS rest = false) : MT (ds ++ rest) = ds.length := by
 induction ds with
 | nil =>
   cases rest with
   | nil => rfl
   | cons x t => unfold MT; rw [List.nil_append, List.takeWhile_cons_of_neg (by simpa [one] using h2)]
 | cons x ds ih =>
   unfold MT at *
   rw [List.cons_append, List.takeWhile_cons_of_pos (h x (.head _)), List.length_cons, ih (fun y hy => h y (.tail _ hy)), List.length_cons]
theorem TG {t : List UInt8} (h : I0 t) (rest : List UInt8) (he : aH rest) : Cs (t ++ rest) = some t.length := by
 obtain ⟨⟨s, ds, rfl, hs, hd, hne, h0⟩, hn⟩ := h
 have hsN : Cr (s ++ ds ++ rest) = s.length := by
  rcases hs with rfl | rfl
  ·
   cases ds with
   | nil => exact absurd rfl hne
   | cons x t =>
     have := of_decide_eq_true (hd x (.head _))
     unfold Cr
     rw [if_neg]; rfl
     show ¬ CZ 45 x = true
     unfold CZ; rw [decide_eq_true_eq]; omega
  · rfl
 have hdr : (s ++ ds ++ rest).drop s.length = ds ++ rest := by rw [List.append_assoc, Fc]
 have hi : Gv (ds ++ rest) = some ds.length := by
  cases ds with
  | nil => exact absurd rfl hne
  | cons x t =>
    unfold Gv
    by_cases hx : x = 48
    ·
     subst hx
     have := h0 rfl
     rw [this]; rfl
    · rw [if_neg (by
        show ¬ CZ 48 x = true
        unfold CZ; rw [decide_eq_true_eq]
        exact fun e => hx (UInt8.toNat_inj.1 e))]
      unfold EJ
      rw [aI hd he.d, if_neg (by simp)]
 have hdr2 : (s ++ ds ++ rest).drop (s.length + ds.length) = rest := by
  rw [show s.length + ds.length = (s ++ ds).length by simp, Fc]
 unfold Cs
 rw [hsN, hdr, hi]
 simp only
 rw [hdr2, show E3 rest = some 0 by unfold E3; rw [he.p]; rfl]
 simp only
 rw [Nat.add_zero, hdr2, show ID rest = some 0 by unfold ID; rw [he.e]; rfl]
 simp only
 rw [List.length_append] at hn ⊢
 rw [if_neg (by omega)]
 rfl
theorem HZ (s : List UInt8) : (AV s).length = (s.flatMap qB).length + 2 := by unfold AV; simp
theorem Yh (s : List UInt8) : s.length ≤ (s.flatMap qB).length := by
 induction s with
 | nil => exact Nat.le_refl _
 | cons c t ih =>
   rw [List.flatMap_cons, List.length_append, List.length_cons]
   have : 1 ≤ (qB c).length := by unfold qB; split; simp; split <;> simp
   omega
structure Rd (d N : Nat) (v : JV) (tv : List UInt8) : Prop where
 rd : ∀ n rest, N ≤ n → aH rest → Dq n d (tv ++ rest) = some (v, tv.length)
 h0 : ∀ X, one Yg (tv ++ X) = false
def D0 : Nat → JV → Prop
 | 0, _ => False
 | n + 1, .mk k t _ l => k ≤ 6 ∧ k ≠ 5 ∧ (k = 3 → I0 t) ∧ (k = 6 → ∀ x ∈ l, D0 n x)
def Cp : Nat → Nat → JV → Prop
 | 0, _, _ => False
 | n + 1, d, .mk k t ns l => (k = 3 → Cs t = some t.length) ∧ (k = 4 → Lib.validD t = true) ∧ (k = 6 → (∀ x ∈ ns, Lib.validD x = true) ∧ ns.length = l.length ∧ d < 32 ∧ l.length ≤ 1000 ∧ ns.Nodup ∧ ∀ x ∈ l, Cp n (d + 1) x)
structure Ee where
 n : List UInt8
 v : JV
 r : JV
 t : List UInt8
def GP (m : Ee) : List UInt8 := AV m.n ++ 58 :: m.t
def A2 : List Ee → List UInt8
 | [] => []
 | m :: l => GP m ++ (if l.isEmpty then [] else 44 :: A2 l)
theorem I1 (l : List Ee) (m : Ee) : A2 (l ++ [m]) = A2 l ++ ((if l.isEmpty then [] else [44]) ++ GP m) := by
 induction l with
 | nil => simp [A2]
 | cons x l ih =>
   rw [List.cons_append]
   show GP x ++ (if (l ++ [m]).isEmpty then [] else 44 :: A2 (l ++ [m])) = GP x ++ (if l.isEmpty then [] else 44 :: A2 l) ++ ([44] ++ GP m)
   rw [if_neg (by simp), ih, List.append_assoc]
   cases l with
   | nil => simp [A2]
   | cons y l => simp
def PJ : Nat → JV → JV → List UInt8 → Prop
 | 0, _, _, _ => False
 | n + 1, .mk k t ns l, r, tv => (k = 3 ∧ r = DI t ∧ tv = t) ∨ (k = 4 ∧ r = Fb t ∧ tv = AV t) ∨ (k < 3 ∧ r = .mk k [] [] [] ∧ tv = B0.getD k []) ∨
  (k = 6 ∧ ∃ ms : List Ee, (ms.map fun m => (m.n, m.v)).Perm (ns.zip l) ∧ (ms.map (·.n)).Pairwise (· ≤ ·) ∧ (∀ m ∈ ms, PJ n m.v m.r m.t) ∧ r = .mk 6 [] (ms.map (·.n)) (ms.map (·.r)) ∧ tv = 123 :: (A2 ms ++ [125]))
theorem Rd.mono {d N M : Nat} {v : JV} {tv : List UInt8} (h : Rd d N v tv) (hN : N ≤ M) : Rd d M v tv := ⟨fun n rest hn he => h.rd n rest (Nat.le_trans hN hn) he, h.h0⟩
theorem TH (m : Ee) : (GP m).length = (AV m.n).length + 1 + m.t.length := by unfold GP; rw [List.length_append, List.length_cons]; omega
theorem Ft (x : Ee) (l : List Ee) : A2 (x :: l) = GP x ++ (if l.isEmpty then [] else 44 :: A2 l) := rfl
theorem Qq {t : List UInt8} (h : I0 t) : 1 ≤ t.length := by
 obtain ⟨⟨s, ds, rfl, _, _, hne, _⟩, _⟩ := h
 cases ds with
 | nil => exact absurd rfl hne
 | cons x l => simp; omega
theorem TI {n d k : Nat} {t : List UInt8} {ns : List (List UInt8)} {l : List JV} {ms : List Ee} (hk : k = 6) (ho : Cp (n + 1) d (.mk k t ns l)) (hp : (ms.map fun m => (m.n, m.v)).Perm (ns.zip l)) :
 (∀ m ∈ ms, Lib.validD m.n = true ∧ Cp n (d + 1) m.v ∧ m.v ∈ l) ∧ (ms.map (·.n)).Nodup ∧ ms.length = ns.length ∧ d < 32 ∧ ms.length ≤ 1000 ∧ (ms.map (·.n)).Perm ns := by
 obtain ⟨_, _, ho⟩ := ho
 obtain ⟨h1, h2, h3, h4, h5, h6⟩ := ho hk
 have hn : (ms.map (·.n)).Perm ns := by
  have := hp.map Prod.fst
  rwa [List.map_map, List.map_fst_zip (by omega)] at this
 refine ⟨fun m hm => ?_, hn.nodup_iff.2 h5, by have := hn.length_eq; rwa [List.length_map] at this, h3, ?_, hn⟩
 ·
  have hz : (m.n, m.v) ∈ ns.zip l := hp.mem_iff.1 (List.mem_map.2 ⟨m, hm, rfl⟩)
  have := List.of_mem_zip hz
  exact ⟨h1 _ this.1, h6 _ this.2, this.2⟩
 · have := hn.length_eq; rw [List.length_map] at this; omega
def BY : Nat → JV → Nat
 | 0, _ => 0
 | n + 1, .mk k t ns l => if k = 3 then t.length else if k = 4 then (AV t).length else if k = 6 then (if (ns.zip l).isEmpty then 2 else ((ns.zip l).map fun p => (AV p.1).length + 2 + BY n p.2).sum + 1) else (B0.getD k []).length
theorem I2 (ms : List Ee) (h : ms ≠ []) : (A2 ms).length + 1 = (ms.map fun m => (AV m.n).length + 2 + m.t.length).sum := by
 induction ms with
 | nil => exact absurd rfl h
 | cons x l ih =>
   have hx := TH x
   rw [Ft, List.length_append, hx, List.map_cons, List.sum_cons]
   cases l with
   | nil => simp; omega
   | cons y l => rw [if_neg (by simp), List.length_cons]; have := ih (by simp); omega
theorem FG : ∀ (n : Nat) (v r : JV) (tv : List UInt8), PJ n v r tv → tv.length = BY n v := by
 intro n
 induction n with
 | zero => intro v r tv h; exact absurd h (fun h => h)
 | succ n ih =>
   intro v r tv hp
   cases v with
   | mk k t ns l =>
     unfold BY
     rcases hp with ⟨hk, rfl, rfl⟩ | ⟨hk, rfl, rfl⟩ | ⟨hk, rfl, rfl⟩ | ⟨hk, ms, hp, hs, hm, rfl, rfl⟩
     · rw [if_pos hk]
     · rw [if_neg (by omega), if_pos hk]
     · rw [if_neg (by omega), if_neg (by omega), if_neg (by omega)]
     ·
      rw [if_neg (by omega), if_neg (by omega), if_pos hk]
      by_cases he : ms = []
      ·
       subst he
       have : ns.zip l = [] := List.nil_perm.1 hp
       rw [this]; rfl
      ·
       have hz : ns.zip l ≠ [] := fun e => by rw [e] at hp; exact he (by simpa using hp.eq_nil)
       rw [if_neg (by simpa using hz)]
       have hj := I2 ms he
       have h1 : (ms.map fun m => (AV m.n).length + 2 + m.t.length) = (ms.map fun m => (m.n, m.v)).map fun p => (AV p.1).length + 2 + BY n p.2 := by
        rw [List.map_map]
        exact List.map_congr_left fun m hm' => by show _ = (AV m.n).length + 2 + BY n m.v; rw [ih m.v m.r m.t (hm m hm')]
       have h2 := (hp.map fun p : List UInt8 × JV => (AV p.1).length + 2 + BY n p.2).sum_nat
       rw [List.length_cons, List.length_append, List.length_singleton]
       rw [h1, h2] at hj
       omega
theorem KK {b : UInt8} {t : List UInt8} (h : b.toNat < 128) : Lib.decodeL (b :: t) = (b.toNat, 1) := by
 rw [Lib.decodeL_N]
 have h0 : ((b :: t).getD 0 0).toNat = b.toNat := rfl
 rw [h0]
 unfold Lib.decodeN
 rw [if_pos h]
theorem MV {b : UInt8} {t : List UInt8} (hv : ¬ ((Lib.decodeL (b :: t)).1 = 65533 ∧ (Lib.decodeL (b :: t)).2 = 1)) :
 1 ≤ (Lib.decodeL (b :: t)).2 ∧ (Lib.decodeL (b :: t)).2 ≤ (b :: t).length ∧ ∀ X, Lib.decodeL ((b :: t).take (Lib.decodeL (b :: t)).2 ++ X) = Lib.decodeL (b :: t) := by
 by_cases hb : b.toNat < 128
 ·
  rw [KK hb]
  refine ⟨Nat.le_refl _, by simp, fun X => ?_⟩
  show Lib.decodeL (b :: ([] ++ X)) = _
  rw [KK hb]
 ·
  have h1 : 2 ≤ (Lib.decodeL (b :: t)).2 := by
   have hp : 1 ≤ (Lib.decodeL (b :: t)).2 := by
    rw [Lib.decodeL_N]
    unfold Lib.decodeN
    repeat' split
    all_goals simp
   rcases PN (t := t) (show 128 ≤ b.toNat by omega) with h | h
   ·
    have : (Lib.decodeL (b :: t)).2 ≠ 1 := fun e => hv ⟨h, e⟩
    omega
   · exact h
  obtain ⟨h2, _, h3⟩ := MU (show 128 ≤ b.toNat by omega) h1
  exact ⟨by omega, h2, h3⟩
theorem WG {n b0 b1 b2 b3 : Nat} (h : 194 ≤ b0 ∧ b0 ≤ 223) : ((1 < n ∧ 128 ≤ b1 ∧ b1 ≤ 191) → (Lib.decodeN n b0 b1 b2 b3).2 = 2) ∧ (¬ (1 < n ∧ 128 ≤ b1 ∧ b1 ≤ 191) → Lib.decodeN n b0 b1 b2 b3 = (65533, 1)) := by
 unfold Lib.decodeN
 rw [if_neg (by omega)]
 by_cases hc : 1 < n ∧ 128 ≤ b1 ∧ b1 ≤ 191
 ·
  rw [if_pos (by omega), if_pos (by omega)]
  exact ⟨fun _ => rfl, fun h => absurd hc h⟩
 ·
  rw [if_neg (by omega), if_neg (by omega), if_neg (by omega)]
  exact ⟨fun h => absurd h hc, fun _ => rfl⟩
theorem Qr {n b0 b1 b2 b3 lo hi : Nat} (h : 224 ≤ b0 ∧ b0 ≤ 239) (hlo : lo = if b0 = 224 then 160 else 128) (hhi : hi = if b0 = 237 then 159 else 191) :
 ((2 < n ∧ (lo ≤ b1 ∧ b1 ≤ hi) ∧ 128 ≤ b2 ∧ b2 ≤ 191) → (Lib.decodeN n b0 b1 b2 b3).2 = 3) ∧ (¬ (2 < n ∧ (lo ≤ b1 ∧ b1 ≤ hi) ∧ 128 ≤ b2 ∧ b2 ≤ 191) → Lib.decodeN n b0 b1 b2 b3 = (65533, 1)) := by
 unfold Lib.decodeN
 rw [if_neg (by omega), if_neg (by omega)]
 by_cases hc : 2 < n ∧ (lo ≤ b1 ∧ b1 ≤ hi) ∧ 128 ≤ b2 ∧ b2 ≤ 191
 ·
  have h1 : 128 ≤ b1 ∧ b1 ≤ 191 := by split at hlo <;> split at hhi <;> omega
  rw [if_pos (by omega), if_pos (by split at hlo <;> split at hhi <;> omega)]
  exact ⟨fun _ => rfl, fun h => absurd hc h⟩
 ·
  refine ⟨fun h => absurd h hc, fun _ => ?_⟩
  by_cases hd : b0 / 16 = 14 ∧ (1 < n ∧ b1 / 64 = 2) ∧ 2 < n ∧ b2 / 64 = 2
  · rw [if_pos hd, if_neg (by split at hlo <;> split at hhi <;> omega)]
  · rw [if_neg hd, if_neg (by omega)]
theorem TJ {n b0 b1 b2 b3 lo hi : Nat} (h : 240 ≤ b0 ∧ b0 ≤ 244) (hlo : lo = if b0 = 240 then 144 else 128) (hhi : hi = if b0 = 244 then 143 else 191) :
 ((3 < n ∧ (lo ≤ b1 ∧ b1 ≤ hi) ∧ (128 ≤ b2 ∧ b2 ≤ 191) ∧ 128 ≤ b3 ∧ b3 ≤ 191) → (Lib.decodeN n b0 b1 b2 b3).2 = 4) ∧ (¬ (3 < n ∧ (lo ≤ b1 ∧ b1 ≤ hi) ∧ (128 ≤ b2 ∧ b2 ≤ 191) ∧ 128 ≤ b3 ∧ b3 ≤ 191) → Lib.decodeN n b0 b1 b2 b3 = (65533, 1)) := by
 unfold Lib.decodeN
 rw [if_neg (by omega), if_neg (by omega), if_neg (by omega)]
 by_cases hc : 3 < n ∧ (lo ≤ b1 ∧ b1 ≤ hi) ∧ (128 ≤ b2 ∧ b2 ≤ 191) ∧ 128 ≤ b3 ∧ b3 ≤ 191
 ·
  have h1 : 128 ≤ b1 ∧ b1 ≤ 191 := by split at hlo <;> split at hhi <;> omega
  rw [if_pos (by omega), if_pos (by split at hlo <;> split at hhi <;> omega)]
  exact ⟨fun _ => rfl, fun h => absurd hc h⟩
 ·
  refine ⟨fun h => absurd h hc, fun _ => ?_⟩
  by_cases hd : b0 / 8 = 30 ∧ (1 < n ∧ b1 / 64 = 2) ∧ (2 < n ∧ b2 / 64 = 2) ∧ 3 < n ∧ b3 / 64 = 2
  · rw [if_pos hd, if_neg (by split at hlo <;> split at hhi <;> omega)]
  · rw [if_neg hd]
theorem TK {n b0 b1 b2 b3 : Nat} (h : 128 ≤ b0) (h1 : b0 < 194 ∨ 244 < b0) (h2 : b0 < 256) : Lib.decodeN n b0 b1 b2 b3 = (65533, 1) := by
 unfold Lib.decodeN
 rw [if_neg (by omega)]
 by_cases hd : b0 / 32 = 6 ∧ 1 < n ∧ b1 / 64 = 2
 · rw [if_pos hd, if_neg (by omega)]
 ·
  rw [if_neg hd, if_neg (by omega)]
  by_cases he : b0 / 8 = 30 ∧ (1 < n ∧ b1 / 64 = 2) ∧ (2 < n ∧ b2 / 64 = 2) ∧ 3 < n ∧ b3 / 64 = 2
  · rw [if_pos he, if_neg (by omega)]
  · rw [if_neg he]
section
def pE (v : Value) : List PanicEntry := [{ v := v, recovered := false }]
def Du {γ : Type} (P : Program) (f : FuncId) (args : List Value) (w : World) (pan : Value → Prop) (X : AT) (V : γ → Value) (Y : γ → AT) : Prop :=
 Calls P f args.toArray w fun e w' => (∃ x, e = .returned (V x) ∧ Bd X.F w w' ∧ (Y x).ok w' ∧ ∀ b, (Y x).F b → X.F b ∨ w.heap.size ≤ b) ∨ (∃ v, pan v ∧ e = .panicked (pE v) ∧ Bd X.F w w')
section
variable {P : Program} {n : NN} {F0 : Nat → Prop} {w0 : World} {a : Act} {w : World} {L : List (Nat × Value)} {Γ : List AT}
variable {K : Act → World → Prop} {Q : Exit → Act → World → Prop} {d ty : Nat} {dst : Option Tmp} {pos : String} {af : Array Edge} {g : Option (Nat × Bool)}
theorem AS {N : Act → World → Prop} {ch : List PanicEntry} (h : Q (.panic ch) a w) : Exit.then N Q (.panic ch) a w := h
theorem AX {i : Nat} {ch : List PanicEntry} (h : Q (.panic ch) a w) : Exit.inBlock i Q (.panic ch) a w := h
theorem St.chgX (h : St n F0 w0 a w L Γ) {X : AT} {w' : World} (hX : X ∈ Γ) (hm : X.mine = true) (hc : Bd X.F w w') : Bd F0 w0 w' :=
 h.chg.trans hc fun i hi hlt => by
  rcases h.mine X hX hm i hi with h3 | h3
  · omega
  · exact h3
theorem IP {γ : Type} {pan : Value → Prop} {V : γ → Value} {X : AT} {Y : γ → AT} {Γ' : γ → List AT} {f : FuncId} {xs : List Operand} {vs : List Value} {ts : Array TypeId} (hS : St n F0 w0 a w L Γ) (hx : FR L xs vs) (hf : AA P f) (hn : Nat.blt d n.n = true)
 (hc : Du P f vs w pan X V Y) (hr : ∀ x, DY X (Y x) Γ (Γ' x)) (hm : X.mine = true) (hX : X ∈ Γ) (hp : ∀ v w', pan v → a.defers = n.D → Bd F0 w0 w' → Q (.panic (pE v)) a w') (h : ∀ x a' w', St n F0 w0 a' w' ((d, V x) :: L) (Γ' x) → K a' w') : OW P ⟨some d, .call ⟨.value (.func f), xs.toArray, ts⟩, ty, pos, af, g⟩ a w K Q := by
 refine ⟨?_⟩
 unfold Oper.wp
 have he : (execOp a.eval (⟨some d, .call ⟨.value (.func f), xs.toArray, ts⟩, ty, pos, af, g⟩ : Oper)).run P w = .ok (.enter f vs.toArray) w := by
  rw [execOp_call_go]
  rw [hS.sl.evs hx]
  simpa using hf vs.toArray w
 rw [he]
 refine Calls.mono hc fun e w' hR => ?_
 rcases hR with ⟨x, rfl, hch, hY, hF⟩ | ⟨v, hv, rfl, hch⟩
 · exact h x _ _ ((hS.upd (hr x) hch hY hF hm).put hn _)
 · exact hp v w' hv hS.sl.defers (hS.chgX hX hm hch)
theorem PO {T : TypeId} {x : Operand} {v : Value} (hx : ev L x = some v) (hT : P.concrete T = true) : Ex P n a L Γ ⟨dst, .makeInterface T x, ty, pos, af, g⟩ (.iface T v) := fun hs w _ => by
 have hr := run_makeInterface (P := P) w T v hT
 have he := hs.ev hx
 simp [execOp, he, hr]
theorem PP {x : Operand} {T : TypeId} {v : Value} (hS : St n F0 w0 a w L Γ) (hx : ev L x = some (.iface T v)) (h : Q (.panic (pE (.iface T v))) a w) : OW P ⟨dst, .panic x, ty, pos, af, g⟩ a w K Q := by
 refine ⟨?_⟩
 unfold Oper.wp
 have he : (execOp a.eval (⟨dst, .panic x, ty, pos, af, g⟩ : Oper)).run P w = .halt (.panic (.iface T v)) w := by
  have h1 := hS.sl.ev hx
  simp [execOp, h1, run_panic_iface]
 rw [he]
 exact h
end
end
def mN {β : Type} (B : Nat) (I : β → World → Prop) : Prop :=
 ∀ s W W', I s W → W'.os = W.os → W'.tape = W.tape → W'.output = W.output → W.heap.size ≤ W'.heap.size → (∀ k, k < B → W'.heap[k]? = W.heap[k]?) → I s W'
theorem mN.alloc {β : Type} {B : Nat} {I : β → World → Prop} (h : mN B I) {s : β} {W : World} (hB : B ≤ W.heap.size) (hs : I s W) (o : Obj) : I s (W.alloc o) :=
 h s W _ hs rfl rfl rfl (by simp) (fun k hk => Below.heap_alloc W o k (by omega))
theorem mN.put {β : Type} {B : Nat} {I : β → World → Prop} (h : mN B I) {s : β} {W : World} {l : Nat} (hl : B ≤ l) (hs : I s W) (o : Obj) : I s (W.putObj l o) :=
 h s W _ hs rfl rfl rfl (by simp) (fun k hk => World.putObj_heap_other (by omega))
theorem KL {W : World} {l : Nat} {o : Obj} {o' : Obj} (h : W.heap[l]? = some o) : (W.putObj l o').heap[l]? = some o' := World.putObj_heap_same (Array.getElem?_eq_some_iff.1 h).1
structure Qs (l : Nat) (W W' : World) : Prop where
 os : W'.os = W.os
 tape : W'.tape = W.tape
 output : W'.output = W.output
 size : W'.heap.size = W.heap.size
 same : ∀ k, k ≠ l → W'.heap[k]? = W.heap[k]?
theorem Qs.put (W : World) (l : Nat) (o : Obj) : Qs l W (W.putObj l o) := ⟨rfl, rfl, rfl, by simp, fun _ hk => World.putObj_heap_other hk⟩
end Go.Proofs.YtlccmgeclhdegaaGreatDoor
