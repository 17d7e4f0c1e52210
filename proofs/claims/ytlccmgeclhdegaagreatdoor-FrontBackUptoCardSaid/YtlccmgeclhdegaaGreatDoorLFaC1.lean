/- FrontBack: for every argument the law returns true, and each argument reads afterwards as it read before. No conditions. (text 1 of 6) -/
import Derived.WalkKit
import Derived.OrdersHeld
import Derived.Lib.Hide
import Derived.Laws.OwnMore
import Derived.Maps.RangeRun
import Derived.RangeFuncRecord
import Derived.Conc.MuLone
import Derived.Defers
import Derived.Test.YtlccmgeclhdegaaGreatDoorRows
import Derived.Laws.BytesArg
import Derived.Lib.SlBytesConst
import Derived.Lib.ConvBytes
import Derived.Lib.AtoiErrMem
import Derived.Lib.FrozenHead2
import Derived.RangeFuncOne
import Derived.RangeFuncLeaves
import Derived.Test.YtlccmgeclhdegaaGreatDoorShelf
import Derived.Sort.OwnSorted
import Derived.Sort.KeysCollected
import Derived.WalkSmall
import Derived.OrdersIn
import Derived.Lib.Case
import Derived.Lib.MapU
import Derived.Lib.Split
namespace Go.Proofs.YtlccmgeclhdegaaGreatDoor
open Go.RowKit
theorem nbeq_no {a b : Nat} (h : a ≠ b) : Nat.beq a b = false := by
 cases h' : Nat.beq a b
 · rfl
 · exact absurd (Nat.eq_of_beq_eq_true h') h
theorem nbeq_ne {a b : Nat} (h : Nat.beq a b = false) : a ≠ b := Nat.ne_of_beq_eq_false h
def lk : List (Nat × Value) → Nat → Option Value
 | [], _ => none
 | (t, v) :: L, s => bif Nat.beq t s then some v else lk L s
def ev (L : List (Nat × Value)) : Operand → Option Value
 | .tmp t => lk L t
 | .const v => some v
 | .global g => some (.pointer (some ⟨g, 0, none⟩))
 | .func f => some (.func (.func f) #[] #[])
inductive Evs (L : List (Nat × Value)) : List Operand → List Value → Prop
 | nil : Evs L [] []
 | cons {x : Operand} {xs : List Operand} {v : Value} {vs : List Value} (h : ev L x = some v) (t : Evs L xs vs) : Evs L (x :: xs) (v :: vs)
structure NN where
 n : Nat
 D : List Deferred
instance {k : Nat} : OfNat NN k := ⟨⟨k, []⟩⟩
structure Sl (n : NN) (a : Act) (L : List (Nat × Value)) : Prop where
 size : a.tmps.size = n.n
 defers : a.defers = n.D
 get : ∀ t v, lk L t = some v → a.tmps.getD t undef = v
theorem Sl.ev {n : NN} {a : Act} {L : List (Nat × Value)} (h : Sl n a L) {x : Operand} {v : Value} (hx : ev L x = some v) : a.eval x = v := by
 cases x with
 | tmp t => exact h.get t v hx
 | const u => simpa [Go.Proofs.YtlccmgeclhdegaaGreatDoor.ev, Act.eval] using hx
 | global g => simpa [Go.Proofs.YtlccmgeclhdegaaGreatDoor.ev, Act.eval] using hx
 | func f => simpa [Go.Proofs.YtlccmgeclhdegaaGreatDoor.ev, Act.eval] using hx
theorem Sl.evs {n : NN} {a : Act} {L : List (Nat × Value)} (h : Sl n a L) {xs : List Operand} {vs : List Value} (hx : Evs L xs vs) : xs.toArray.map a.eval = vs.toArray := by
 have : xs.map a.eval = vs := by
  induction hx with
  | nil => rfl
  | cons h1 _ ih => simp only [List.map_cons, ih, h.ev h1]
 simp [this]
theorem Sl.put {n : NN} {a : Act} {L : List (Nat × Value)} (h : Sl n a L) {d : Nat} (hd : Nat.blt d n.n = true) (v : Value) : Sl n (a.put (some d) v) ((d, v) :: L) := by
 have hlt : d < n.n := by simpa using hd
 refine ⟨by simp [Act.put, h.size], h.defers, ?_⟩
 intro t u ht
 simp only [lk] at ht
 by_cases e : d = t
 · subst e
   have : Nat.beq d d = true := by simp
   rw [this] at ht; simp at ht; subst ht
   simp [Act.put, Array.getD, h.size, hlt]
 · have : Nat.beq d t = false := nbeq_no e
   rw [this] at ht
   have h2 := h.get t u (by simpa using ht)
   rw [← h2]
   simp only [Act.put, Array.getD_eq_getD_getElem?, Array.getElem?_setIfInBounds_ne e]
def SubL (L : List (Nat × Value)) : List (Nat × Value) → Prop
 | [] => True
 | (t, v) :: r => lk L t = some v ∧ SubL L r
theorem SubL.get {L L' : List (Nat × Value)} (h : SubL L L') : ∀ t v, lk L' t = some v → lk L t = some v := by
 induction L' with
 | nil => intro t v ht; simp [lk] at ht
 | cons p r ih =>
   obtain ⟨s, u⟩ := p
   obtain ⟨h1, h2⟩ := h
   intro t v ht
   simp only [lk] at ht
   by_cases e : s = t
   · subst e
     have : Nat.beq s s = true := by simp
     rw [this] at ht; simp at ht; subst ht; exact h1
   · have : Nat.beq s t = false := nbeq_no e
     rw [this] at ht
     exact ih h2 t v (by simpa using ht)
theorem Sl.know {n : NN} {a : Act} {L : List (Nat × Value)} (h : Sl n a L) {t : Nat} {v : Value} (hl : lk L t = some v) : Sl n a ((t, v) :: L) := by
 refine ⟨h.size, h.defers, ?_⟩
 intro s u hs
 simp only [lk] at hs
 by_cases e : t = s
 · subst e
   have : Nat.beq t t = true := by simp
   rw [this] at hs; simp at hs; subst hs; exact h.get _ _ hl
 · have : Nat.beq t s = false := nbeq_no e
   rw [this] at hs
   exact h.get _ _ (by simpa using hs)
theorem Sl.sub {n : NN} {a : Act} {L L' : List (Nat × Value)} (h : Sl n a L) (hs : SubL L L') : Sl n a L' :=
 ⟨h.size, h.defers, fun t v ht => h.get t v (hs.get t v ht)⟩
def SubA (l : List Value) : List (Nat × Value) → Prop
 | [] => True
 | (t, v) :: r => l[t]? = some v ∧ SubA l r
theorem Sl.start {l : List Value} {L : List (Nat × Value)} {n m : Nat} (hA : SubA l L) (hn : l.length + m = n) : Sl ⟨n, []⟩ ⟨l.toArray ++ Array.replicate m undef, []⟩ L := by
 refine ⟨by simp [hn], rfl, ?_⟩
 induction L with
 | nil => intro t v ht; simp [lk] at ht
 | cons p r ih =>
   obtain ⟨s, u⟩ := p
   obtain ⟨h1, h2⟩ := hA
   intro t v ht
   simp only [lk] at ht
   by_cases e : s = t
   · subst e
     have : Nat.beq s s = true := by simp
     rw [this] at ht; simp at ht; subst ht
     have hlt := (List.getElem?_eq_some_iff.1 h1).1
     simp only [Array.getD]
     rw [dif_pos (by simp; omega)]
     simp only [Array.getInternal_eq_getElem]
     rw [Array.getElem_append_left (by simpa using hlt)]
     simpa using (List.getElem?_eq_some_iff.1 h1).2
   · have : Nat.beq s t = false := nbeq_no e
     rw [this] at ht
     exact ih h2 t v (by simpa using ht)
structure Chg (F : Nat → Prop) (w w' : World) : Prop where
 os : w'.os = w.os
 tape : w'.tape = w.tape
 output : w'.output = w.output
 size : w.heap.size ≤ w'.heap.size
 block : ∀ k, k < w.heap.size → ¬ F k → w'.heap[k]? = w.heap[k]?
def noB : Nat → Prop := fun _ => False
theorem Chg.refl (F : Nat → Prop) (w : World) : Chg F w w := ⟨rfl, rfl, rfl, Nat.le_refl _, fun _ _ _ => rfl⟩
theorem Chg.trans {F F' : Nat → Prop} {a b c : World} (h : Chg F a b) (k : Chg F' b c) (hF : ∀ i, F' i → i < a.heap.size → F i) : Chg F a c :=
 ⟨k.os.trans h.os, k.tape.trans h.tape, k.output.trans h.output, Nat.le_trans h.size k.size,
  fun i hi hn => (k.block i (Nat.lt_of_lt_of_le hi h.size) (fun hf => hn (hF i hf hi))).trans (h.block i hi hn)⟩
theorem Chg.ext {F : Nat → Prop} {a b c : World} (h : Chg F a b) (k : Chg noB b c) : Chg F a c := h.trans k (fun _ hf => hf.elim)
theorem Chg.mono {F F' : Nat → Prop} {a b : World} (h : Chg F a b) (hF : ∀ i, F i → F' i) : Chg F' a b :=
 ⟨h.os, h.tape, h.output, h.size, fun i hi hn => h.block i hi (fun hf => hn (hF i hf))⟩
theorem Chg.below {a b : World} (h : Chg noB a b) : Below a.heap.size a b := ⟨h.os, h.tape, h.output, h.size, fun k hk => h.block k hk (fun hf => hf)⟩
theorem Chg.of_below {a b : World} (h : Below a.heap.size a b) : Chg noB a b := ⟨h.os, h.tape, h.output, h.size, fun k hk _ => h.block k hk⟩
theorem Chg.drew (F : Nat → Prop) (w : World) : Chg F w w.drew := ⟨rfl, rfl, rfl, Nat.le_refl _, fun _ _ _ => rfl⟩
theorem Chg.alloc (F : Nat → Prop) (w : World) (o : Obj) : Chg F w (w.alloc o) :=
 ⟨rfl, rfl, rfl, by simp, fun k hk _ => Below.heap_alloc w o k hk⟩
theorem Chg.setCell (w : World) (a : Addr) (v : Value) : Chg (fun k => k = a.block) w (w.setCell a v) :=
 ⟨rfl, rfl, rfl, by simp, fun k _ hn => Below.heap_setCell w a v k hn⟩
inductive Asn where
 | blk (b : Nat) (cs : List Value) (E : TypeId)
 | any (F : Nat → Prop) (φ : World → Prop) (mine : Bool)
 | mp (b : Nat) (es : List MapEntry) (clock : Nat)
def Asn.F : Asn → Nat → Prop
 | .blk b _ _, k => k = b
 | .any F _ _, k => F k
 | .mp b _ _, k => k = b
def Asn.φ : Asn → World → Prop
 | .blk b cs E, w => w.heap[b]? = some (.cells cs.toArray E (0, 0))
 | .any _ φ _, w => φ w
 | .mp b es c, w => w.heap[b]? = some (.map es.toArray c)
def Asn.mine : Asn → Bool
 | .blk _ _ _ => true
 | .any _ _ m => m
 | .mp _ _ _ => true
structure Asn.ok (X : Asn) (w : World) : Prop where
 lt : ∀ b, X.F b → b < w.heap.size
 hold : ∀ w', (∀ b, X.F b → w'.heap[b]? = w.heap[b]?) → X.φ w'
theorem Asn.ok.now {X : Asn} {w : World} (h : X.ok w) : X.φ w := h.hold w fun _ _ => rfl
theorem Asn.ok.keep {X : Asn} {w w' : World} {F : Nat → Prop} (h : X.ok w) (hc : Chg F w w') (hd : ∀ b, X.F b → ¬ F b) : X.ok w' :=
 ⟨fun b hb => Nat.lt_of_lt_of_le (h.lt b hb) hc.size, fun w2 h2 => h.hold w2 fun b hb => (h2 b hb).trans (hc.block b (h.lt b hb) (hd b hb))⟩
theorem ok_blk {w : World} {b : Nat} {cs : List Value} {E : TypeId} (h : w.heap[b]? = some (.cells cs.toArray E (0, 0))) : (Asn.blk b cs E).ok w := by
 refine ⟨fun k hk => ?_, fun w' hw => ?_⟩
 · obtain rfl : k = b := hk
   exact (Array.getElem?_eq_some_iff.1 h).1
 · show w'.heap[b]? = _
   rw [hw b rfl]; exact h
structure St (n : NN) (F0 : Nat → Prop) (w0 : World) (a : Act) (w : World) (L : List (Nat × Value)) (Γ : List Asn) : Prop where
 sl : Sl n a L
 chg : Chg F0 w0 w
 ok : ∀ X ∈ Γ, X.ok w
 dis : Γ.Pairwise (fun X Y => ∀ b, X.F b → ¬ Y.F b)
 mine : ∀ X ∈ Γ, X.mine = true → ∀ b, X.F b → w0.heap.size ≤ b ∨ F0 b
section
variable {n : NN} {F0 : Nat → Prop} {w0 : World} {a : Act} {w : World} {L : List (Nat × Value)} {Γ : List Asn} {X : Asn}
theorem St.put (h : St n F0 w0 a w L Γ) {d : Nat} (hd : Nat.blt d n.n = true) (v : Value) : St n F0 w0 (a.put (some d) v) w ((d, v) :: L) Γ :=
 ⟨h.sl.put hd v, h.chg, h.ok, h.dis, h.mine⟩
theorem St.act (h : St n F0 w0 a w L Γ) {a' : Act} {L' : List (Nat × Value)} (hs : Sl n a' L') : St n F0 w0 a' w L' Γ :=
 ⟨hs, h.chg, h.ok, h.dis, h.mine⟩
theorem St.slots (h : St n F0 w0 a w L Γ) {L' : List (Nat × Value)} (hs : SubL L L') : St n F0 w0 a w L' Γ := h.act (h.sl.sub hs)
theorem St.ext (h : St n F0 w0 a w L Γ) {w' : World} (hc : Chg noB w w') : St n F0 w0 a w' L Γ :=
 ⟨h.sl, h.chg.ext hc, fun X hX => (h.ok X hX).keep hc (fun _ _ hf => hf), h.dis, h.mine⟩
theorem St.fresh (h : St n F0 w0 a w L Γ) {w' : World} (hc : Chg noB w w') {Y : Asn} (hY : Y.ok w') (hnew : ∀ b, Y.F b → w.heap.size ≤ b) : St n F0 w0 a w' L (Y :: Γ) := by
 have h' := h.ext hc
 refine ⟨h'.sl, h'.chg, ?_, ?_, ?_⟩
 · intro X hX
   rcases List.mem_cons.1 hX with rfl | hX
   · exact hY
   · exact h'.ok X hX
 · refine List.pairwise_cons.2 ⟨fun X hX b hb hb' => ?_, h.dis⟩
   have h1 := hnew b hb
   have h2 := (h.ok X hX).lt b hb'
   omega
 · intro X hX hm b hb
   rcases List.mem_cons.1 hX with rfl | hX
   · exact .inl (Nat.le_trans h.chg.size (hnew b hb))
   · exact h.mine X hX hm b hb
theorem St.get (h : St n F0 w0 a w L Γ) {X : Asn} (hX : X ∈ Γ) : X.φ w := (h.ok X hX).now
inductive Rep (X Y : Asn) : List Asn → List Asn → Prop
 | head {Γ : List Asn} : Rep X Y (X :: Γ) (Y :: Γ)
 | tail {Z : Asn} {Γ Γ' : List Asn} (h : Rep X Y Γ Γ') : Rep X Y (Z :: Γ) (Z :: Γ')
theorem Rep.mem {X Y : Asn} {Γ Γ' : List Asn} (h : Rep X Y Γ Γ') : X ∈ Γ := by
 induction h with
 | head => exact .head _
 | tail _ ih => exact .tail _ ih
theorem Rep.new {X Y : Asn} {Γ Γ' : List Asn} (h : Rep X Y Γ Γ') : ∀ Z ∈ Γ', Z = Y ∨ Z ∈ Γ := by
 induction h with
 | head => intro Z hZ; rcases List.mem_cons.1 hZ with rfl | hZ; exact .inl rfl; exact .inr (.tail _ hZ)
 | tail _ ih => intro Z hZ; rcases List.mem_cons.1 hZ with rfl | hZ; exact .inr (.head _); exact (ih Z hZ).imp id (.tail _)
theorem Rep.apart {X Y : Asn} {Γ Γ' : List Asn} (h : Rep X Y Γ Γ') {w w' : World} (hok : ∀ Z ∈ Γ, Z.ok w) (hd : Γ.Pairwise (fun X Y => ∀ b, X.F b → ¬ Y.F b))
 (hc : Chg X.F w w') (hY : Y.ok w') (hF : ∀ b, Y.F b → X.F b ∨ w.heap.size ≤ b) :
 (∀ Z ∈ Γ', Z.ok w') ∧ Γ'.Pairwise (fun X Y => ∀ b, X.F b → ¬ Y.F b) := by
 induction h with
 | @head Γ =>
   have hd' := List.pairwise_cons.1 hd
   refine ⟨fun Z hZ => ?_, List.pairwise_cons.2 ⟨fun Z hZ b hb hb' => ?_, hd'.2⟩⟩
   · rcases List.mem_cons.1 hZ with rfl | hZ
     · exact hY
     · exact (hok Z (.tail _ hZ)).keep hc (fun b hb hx => hd'.1 Z hZ b hx hb)
   · rcases hF b hb with h1 | h1
     · exact hd'.1 Z hZ b h1 hb'
     · have := (hok Z (.tail _ hZ)).lt b hb'; omega
 | @tail V Γ Γ' hr ih =>
   have hd' := List.pairwise_cons.1 hd
   obtain ⟨h1, h2⟩ := ih (fun Z hZ => hok Z (.tail _ hZ)) hd'.2
   have hVX := hd'.1 X hr.mem
   refine ⟨fun Z hZ => ?_, List.pairwise_cons.2 ⟨fun Z hZ b hb hb' => ?_, h2⟩⟩
   · rcases List.mem_cons.1 hZ with rfl | hZ
     · exact (hok _ (.head _)).keep hc hVX
     · exact h1 Z hZ
   · rcases hr.new Z hZ with rfl | hZ
     · rcases hF b hb' with h3 | h3
       · exact hVX b hb h3
       · have := (hok V (.head _)).lt b hb; omega
     · exact hd'.1 Z hZ b hb hb'
theorem St.upd (h : St n F0 w0 a w L Γ) {w' : World} {X Y : Asn} {Γ' : List Asn} (hr : Rep X Y Γ Γ') (hc : Chg X.F w w') (hY : Y.ok w')
 (hF : ∀ b, Y.F b → X.F b ∨ w.heap.size ≤ b) (hm : X.mine = true) : St n F0 w0 a w' L Γ' := by
 obtain ⟨h1, h2⟩ := hr.apart h.ok h.dis hc hY hF
 refine ⟨h.sl, h.chg.trans hc (fun i hi hlt => ?_), h1, h2, ?_⟩
 · rcases h.mine X hr.mem hm i hi with h3 | h3
   · omega
   · exact h3
 · intro Z hZ hmz b hb
   rcases hr.new Z hZ with rfl | hZ
   · rcases hF b hb with h3 | h3
     · exact h.mine X hr.mem hm b h3
     · exact .inl (Nat.le_trans h.chg.size h3)
   · exact h.mine Z hZ hmz b hb
theorem St.join (h : St n F0 w0 a w L (X :: Γ)) {Y Z : Asn} {Γ' : List Asn} (hr : Rep Y Z Γ Γ') (hZ : Z.ok w) (hF : ∀ b, Z.F b → X.F b ∨ Y.F b) (hm : Z.mine = true → X.mine = true ∧ Y.mine = true) : St n F0 w0 a w L Γ' := by
 have hd := List.pairwise_cons.1 h.dis
 refine ⟨h.sl, h.chg, ?_, ?_, ?_⟩
 · intro V hV
   rcases hr.new V hV with rfl | hV
   · exact hZ
   · exact h.ok V (.tail _ hV)
 · have key : ∀ {Γ Γ' : List Asn}, Rep Y Z Γ Γ' → Γ.Pairwise (fun X Y => ∀ b, X.F b → ¬ Y.F b) → (∀ V ∈ Γ, ∀ b, X.F b → ¬ V.F b) → Γ'.Pairwise (fun X Y => ∀ b, X.F b → ¬ Y.F b) := by
    intro Γ Γ' hr
    induction hr with
    | head =>
      intro hp hx
      have hp' := List.pairwise_cons.1 hp
      refine List.pairwise_cons.2 ⟨fun V hV b hb hb' => ?_, hp'.2⟩
      rcases hF b hb with h1 | h1
      · exact hx V (.tail _ hV) b h1 hb'
      · exact hp'.1 V hV b h1 hb'
    | @tail U Γ Γ' hr ih =>
      intro hp hx
      have hp' := List.pairwise_cons.1 hp
      refine List.pairwise_cons.2 ⟨fun V hV b hb hb' => ?_, ih hp'.2 (fun V hV => hx V (.tail _ hV))⟩
      rcases hr.new V hV with rfl | hV
      · rcases hF b hb' with h1 | h1
        · exact hx U (.head _) b h1 hb
        · exact hp'.1 Y hr.mem b hb h1
      · exact hp'.1 V hV b hb hb'
   exact key hr hd.2 (fun V hV => hd.1 V hV)
 · intro V hV hmV b hb
   rcases hr.new V hV with rfl | hV
   · obtain ⟨m1, m2⟩ := hm hmV
     rcases hF b hb with h1 | h1
     · exact h.mine X (.head _) m1 b h1
     · exact h.mine Y (.tail _ hr.mem) m2 b h1
   · exact h.mine V (.tail _ hV) hmV b hb
theorem St.perm (h : St n F0 w0 a w L Γ) {Γ' : List Asn} (hs : List.Perm Γ' Γ) : St n F0 w0 a w L Γ' :=
 ⟨h.sl, h.chg, fun X hX => h.ok X (hs.subset hX), (hs.pairwise_iff (fun hXY b hb hb' => hXY b hb' hb)).2 h.dis, fun X hX => h.mine X (hs.subset hX)⟩
theorem St.drop (h : St n F0 w0 a w L Γ) {Γ' : List Asn} (hs : List.Sublist Γ' Γ) : St n F0 w0 a w L Γ' :=
 ⟨h.sl, h.chg, fun X hX => h.ok X (hs.subset hX), h.dis.sublist hs, fun X hX => h.mine X (hs.subset hX)⟩
end
section
variable {P : Program} {Q : Exit → Act → World → Prop} {a : Act} {w : World}
theorem c_seq {x y : Code} (h : x.wp P (Exit.then (y.wp P Q) Q) a w) : (Code.seq x y).wp P Q a w := wp_seq h
theorem c_cut {x y : Code} (J : Act → World → Prop) (h : x.wp P (Exit.then J Q) a w) (h2 : ∀ a w, J a w → y.wp P Q a w) : (Code.seq x y).wp P Q a w :=
 wp_seq (Go.wp_mono h fun e a w hq => by cases e <;> first | exact h2 _ _ hq | exact hq)
theorem n_then {N : Act → World → Prop} (h : N a w) : Exit.then N Q .normal a w := h
theorem x_then {N : Act → World → Prop} {i : Nat} (h : Q (.exit i) a w) : Exit.then N Q (.exit i) a w := h
theorem r_then {N : Act → World → Prop} (h : Q .ret a w) : Exit.then N Q .ret a w := h
theorem n_block {i : Nat} (h : Q .normal a w) : Exit.inBlock i Q .normal a w := h
theorem r_block {i : Nat} (h : Q .ret a w) : Exit.inBlock i Q .ret a w := h
theorem x_hit {i : Nat} (h : Q .normal a w) : Exit.inBlock i Q (.exit i) a w := by simpa [Exit.inBlock] using h
theorem c_loop {γ : Type} {c : Code} (I : γ → Act → World → Prop) (μ : γ → Nat) (g0 : γ) (h0 : I g0 a w)
 (round : ∀ g a w, I g a w → c.wp P (Exit.then (fun a' w' => ∃ g', μ g' < μ g ∧ I g' a' w') Q) a w) : (Code.loop c).wp P Q a w := by
 have key : ∀ m g a w, μ g = m → I g a w → ∀ (b : Frame) (k : List Item) (cs : List Frame),
  ∃ e a' w', Q e a' w' ∧ Arrives P (lone (b.at a (.code c :: .inLoop c :: k)) cs w) b k cs e a' w' := by
  intro m
  induction m using Nat.strongRecOn with
  | _ m ih =>
    intro g a w hm hI b k cs
    obtain ⟨e, a1, w1, hq, harr⟩ := round g a w hI b (.inLoop c :: k) cs
    cases e with
    | normal =>
      obtain ⟨g', hlt, hI'⟩ := hq
      obtain ⟨e2, a2, w2, hq2, harr2⟩ := ih (μ g') (hm ▸ hlt) g' a1 w1 rfl hI' b k cs
      exact ⟨e2, a2, w2, hq2, .of_steps (Steps.trans harr (.one step_inLoop)) harr2⟩
    | exit id => exact ⟨_, a1, w1, hq, .pass (x := .inLoop c) rfl (fun _ _ => .inl (by simp)) harr⟩
    | goto l => exact ⟨_, a1, w1, hq, .pass (x := .inLoop c) rfl (fun _ _ => .inl (by simp)) harr⟩
    | ret => exact ⟨_, a1, w1, hq, .pass (x := .inLoop c) rfl (fun _ _ => .inl (by simp)) harr⟩
    | panic ch => exact ⟨_, a1, w1, hq, .pass (x := .inLoop c) rfl (fun _ _ => .inl (by simp)) harr⟩
    | outgrown => exact ⟨_, a1, w1, hq, .pass (x := .inLoop c) rfl (fun _ _ => .inl (by simp)) harr⟩
 intro b k cs
 obtain ⟨e, a', w', hq, harr⟩ := key _ g0 a w rfl h0 b k cs
 exact ⟨e, a', w', hq, .of_steps (.one step_loop) harr⟩
end
end Go.Proofs.YtlccmgeclhdegaaGreatDoor
namespace Go.Proofs.YtlccmgeclhdegaaGreatDoor
open Go.RowKit
def szOf (P : Program) (t : TypeId) : Option Nat := (P.info? t).map (·.size)
def byOf (P : Program) (t : TypeId) : Option Nat := (P.info? t).map (·.bytes)
def zeroOf (P : Program) (t : TypeId) : Option (List Value) := ((P.info? t).bind (·.zero)).map (·.cells.toList)
def scalarD : TypeDesc → Bool
 | .struct _ | .array _ _ => false
 | _ => true
def scalarT (P : Program) (t : TypeId) : Bool := match P.underlying t with | some d => scalarD d | none => false
def structT (P : Program) (t : TypeId) : Bool := match P.underlying t with | some (.struct _) => true | _ => false
def sliceT (P : Program) (t : TypeId) : Option TypeId := match P.underlying t with | some (.slice e) => some e | _ => none
def fieldOff (P : Program) (s f : Nat) : Option Nat :=
 match P.underlying s with
 | some (.struct fs) => match fs[f]? with
   | some fd => match szOf P fd.type with | some (_ + 1) => some fd.offset | _ => none
   | none => none
 | _ => none
def placesOf (P : Program) (t : TypeId) : Option (List (Nat × Nat)) :=
 match P.underlying t with
 | some (.struct fs) => fs.toList.mapM fun f => (szOf P f.type).map fun s => (f.offset, s)
 | _ => none
def CallsTo (P : Program) (f : FuncId) : Prop := ∀ (args : Array Value) (w : World), (callFunc f args).run P w = .ok (.enter f args) w
theorem callsTo {P : Program} {f : FuncId} {fn : Func} (hf : P.funcs[f]? = some fn) (hname : (fn.name == "runtime.NumGoroutine") = false) (hb : fn.body.isNone = false) : CallsTo P f := by
 intro args w
 simp only [callFunc, Sem.run_bind, run_program, Result.andThen_ok, hf, hname, hb, Bool.false_eq_true, if_false]
 rfl
def nth : List Value → Nat → Option Value
 | [], _ => none
 | v :: l, i => bif Nat.beq i 0 then some v else nth l (i - 1)
theorem nth_eq (l : List Value) (i : Nat) : nth l i = l[i]? := by
 induction l generalizing i with
 | nil => simp [nth]
 | cons v l ih =>
   cases i with
   | zero => simp [nth]
   | succ i => exact (ih i).trans (by simp)
inductive Upd : List Value → Nat → Value → List Value → Prop
 | z {x v : Value} {xs : List Value} : Upd (x :: xs) 0 v (v :: xs)
 | s {x v : Value} {xs ys : List Value} {k : Nat} (h : Upd xs k v ys) : Upd (x :: xs) (k + 1) v (x :: ys)
theorem Upd.eq {l l' : List Value} {k : Nat} {v : Value} (h : Upd l k v l') : l' = l.set k v ∧ k < l.length := by
 induction h with
 | z => simp
 | s _ ih => simp [ih.1, ih.2]
def isOne : Value → Bool
 | .agg _ | .tuple _ => false
 | _ => true
theorem isOne_oneCell {v : Value} (h : isOne v = true) : v.oneCell' = true := by cases v <;> simp_all [isOne, Value.oneCell']
theorem isOne_cells {v : Value} (h : isOne v = true) : v.cells = #[v] := by cases v <;> simp_all [isOne, Value.cells]
theorem sizeOf_run {P : Program} {t : TypeId} {s : Nat} (h : szOf P t = some s) (w : World) : (Go.sizeOf t).run P w = .ok s w := by
 unfold szOf at h
 cases hi : P.info? t with
 | none => simp [hi] at h
 | some i => simp [hi] at h; simp [Go.sizeOf, typeInfo, hi, h]
theorem isAgg_scalar {P : Program} {t : TypeId} (h : scalarT P t = true) (w : World) : (isAgg t).run P w = .ok false w := by
 unfold scalarT at h
 cases hi : P.underlying t with
 | none => simp [hi] at h
 | some d => simp [hi] at h; cases d <;> simp_all [isAgg, underlying, scalarD]
theorem isAgg_struct {P : Program} {t : TypeId} (h : structT P t = true) (w : World) : (isAgg t).run P w = .ok true w := by
 unfold structT at h
 cases hi : P.underlying t with
 | none => simp [hi] at h
 | some d => cases d <;> simp_all [isAgg, underlying]
theorem zero_run {P : Program} {t : TypeId} {zs : List Value} (h : zeroOf P t = some zs) (w : World) : ∃ z, (zeroValue t).run P w = .ok z w ∧ z.cells = zs.toArray := by
 unfold zeroOf at h
 cases hi : P.info? t with
 | none => simp [hi] at h
 | some i =>
   cases hz : i.zero with
   | none => simp [hi, hz] at h
   | some z => simp [hi, hz] at h; exact ⟨z, by simp [zeroValue, typeInfo, hi, hz], by simp [← h]⟩
theorem addr_add (b k j : Nat) : (⟨b, k, none⟩ : Addr).add j = ⟨b, k + j, none⟩ := by
 unfold Addr.add; split <;> simp_all
theorem loadVar_scalar {P : Program} {t : TypeId} (ht : scalarT P t = true) {w : World} {p : Addr} {v : Value} (h : w.cell? p = some v) : (loadVar t p).run P w = .ok v w := by
 simp [loadVar, isAgg_scalar ht, h]
theorem loadVar_struct {P : Program} {t : TypeId} (ht : structT P t = true) {l : List Value} (hs : szOf P t = some l.length) {w : World} {p : Addr}
 (h : ∀ j v, l[j]? = some v → w.cell? (p.add j) = some v) : (loadVar t p).run P w = .ok (.agg l.toArray) w := by
 have := run_loadCells_list (P := P) (w := w) p l h
 simp [loadVar, isAgg_struct ht, sizeOf_run hs, this]
theorem cell_of_blk {w : World} {b k : Nat} {cs : List Value} {E : TypeId} {v : Value} (h : w.heap[b]? = some (.cells cs.toArray E (0, 0))) (hv : cs[k]? = some v) : w.cell? ⟨b, k, none⟩ = some v := by
 simp [World.cell?, h, hv]
theorem frozen_of_blk {w : World} {b k : Nat} {cs : List Value} {E : TypeId} (h : w.heap[b]? = some (.cells cs.toArray E (0, 0))) : w.frozen? ⟨b, k, none⟩ = false := by
 simp [World.frozen?, h]
theorem setCell_of_blk {w : World} {b k : Nat} {cs : List Value} {E : TypeId} (h : w.heap[b]? = some (.cells cs.toArray E (0, 0))) (v : Value) :
 (w.setCell ⟨b, k, none⟩ v).heap[b]? = some (.cells (cs.set k v).toArray E (0, 0)) := by
 simp only [World.setCell, Array.getElem?_modify, h]
 simp
structure OW (P : Program) (o : Oper) (a : Act) (w : World) (K : Act → World → Prop) (Q : Exit → Act → World → Prop) : Prop where
 h : o.wp P a w K Q
section
variable {P : Program} {n : NN} {F0 : Nat → Prop} {w0 : World} {a : Act} {w : World} {L : List (Nat × Value)} {Γ : List Asn}
variable {K : Act → World → Prop} {Q : Exit → Act → World → Prop} {d ty : Nat} {dst : Option Tmp} {pos : String} {af : Array Edge} {g : Option (Nat × Bool)}
def Hd (Γ : List Asn) (w : World) : Prop := ∀ X ∈ Γ, X.φ w
theorem St.hd (h : St n F0 w0 a w L Γ) : Hd Γ w := fun _ hX => h.get hX
def Ex (P : Program) (n : NN) (a : Act) (L : List (Nat × Value)) (Γ : List Asn) (o : Oper) (v : Value) : Prop :=
 Sl n a L → ∀ w, Hd Γ w → (execOp a.eval o).run P w = .ok (.value v) w
theorem s_e {op : Op} {v : Value} (hS : St n F0 w0 a w L Γ) (he : Ex P n a L Γ ⟨some d, op, ty, pos, af, g⟩ v) (hn : Nat.blt d n.n = true)
 (h : ∀ a', St n F0 w0 a' w ((d, v) :: L) Γ → K a' w) : OW P ⟨some d, op, ty, pos, af, g⟩ a w K Q := by
 refine ⟨?_⟩
 unfold Oper.wp
 rw [he hS.sl w hS.hd]
 exact h _ (hS.put hn v)
theorem e_move {x : Operand} {v : Value} (hx : ev L x = some v) : Ex P n a L Γ ⟨dst, .move x, ty, pos, af, g⟩ v := fun hs w hh =>
 (by simp [execOp, hs.ev hx])
theorem e_assign {x : Operand} {v : Value} (hx : ev L x = some v) : Ex P n a L Γ ⟨dst, .assign x, ty, pos, af, g⟩ v := fun hs w hh =>
 (by simp [execOp, hs.ev hx])
theorem e_pick_t {c x y : Operand} {v : Value} (hc : ev L c = some (.bool true)) (hx : ev L x = some v) : Ex P n a L Γ ⟨dst, .pick c x y, ty, pos, af, g⟩ v := fun hs w hh =>
 (by simp [execOp, hs.ev hc, hs.ev hx, asBool])
theorem e_pick_f {c x y : Operand} {v : Value} (hc : ev L c = some (.bool false)) (hx : ev L y = some v) : Ex P n a L Γ ⟨dst, .pick c x y, ty, pos, af, g⟩ v := fun hs w hh =>
 (by simp [execOp, hs.ev hc, hs.ev hx, asBool])
def binI (op : BinOp) (k : IntKind) (x y : Int) : Option Value :=
 match op with
 | .add => some (.int k (k.wrap (x + y)))
 | .sub => some (.int k (k.wrap (x - y)))
 | .mul => some (.int k (k.wrap (x * y)))
 | .eql => some (.bool (decide (x = y)))
 | .neq => some (.bool (decide (x ≠ y)))
 | .lss => some (.bool (decide (x < y)))
 | .leq => some (.bool (decide (x ≤ y)))
 | .gtr => some (.bool (decide (y < x)))
 | .geq => some (.bool (decide (y ≤ x)))
 | _ => none
theorem binI_run {op : BinOp} {k : IntKind} {x y : Int} {v : Value} (hv : binI op k x y = some v) (t : TypeId) (p q : Operand) :
 ((do eqGuard op t p q (.int k x) (.int k y); binOp op t (.int k x) (.int k y)) : Sem Value).run P w = .ok v w := by
 cases op <;> simp [binI] at hv <;> subst hv <;> simp [eqGuard, binOp, Op.intArith, Op.intCmp]
 · by_cases h : x = y <;> simp [h]
 · by_cases h : x = y <;> simp [h]
theorem e_bin {op : BinOp} {t t' : TypeId} {x y : Operand} {k : IntKind} {i j : Int} {v : Value} (hx : ev L x = some (.int k i)) (hy : ev L y = some (.int k j))
 (hv : binI op k i j = some v) : Ex P n a L Γ ⟨dst, .binOp op t x y t', ty, pos, af, g⟩ v := fun hs w hh =>
 (by
   have := binI_run (P := P) (w := w) hv t x y
   simp only [execOp, hs.ev hx, hs.ev hy, Sem.run_bind] at this ⊢
   rw [this]; rfl)
def binN (op : BinOp) (x y : Int) : Option Int :=
 match op with
 | .add => some (x + y)
 | .sub => some (x - y)
 | .mul => some (x * y)
 | _ => none
theorem e_binN {op : BinOp} {t t' : TypeId} {x y : Operand} {i j m : Int} (hx : ev L x = some (.int .i64 i)) (hy : ev L y = some (.int .i64 j))
 (hv : binN op i j = some m) (hm : -9223372036854775808 ≤ m ∧ m ≤ 9223372036854775807) : Ex P n a L Γ ⟨dst, .binOp op t x y t', ty, pos, af, g⟩ (.int .i64 m) := by
 have hw : IntKind.i64.wrap m = m := IntWalk.i64_in _ (by omega)
 refine e_bin hx hy (v := .int .i64 m) ?_
 cases op <;> simp [binN] at hv <;> subst hv <;> simp [binI, hw]
theorem e_rem {t t' : TypeId} {x y : Operand} {k : IntKind} {i j : Int} (hx : ev L x = some (.int k i)) (hy : ev L y = some (.int k j))
 (hj : j ≠ 0) : Ex P n a L Γ ⟨dst, .binOp .rem t x y t', ty, pos, af, g⟩ (.int k (i.tmod j)) := fun hs w hh =>
 (by simp [execOp, hs.ev hx, hs.ev hy, eqGuard, binOp, Op.intDiv, hj])
theorem e_quo {t t' : TypeId} {x y : Operand} {k : IntKind} {i j : Int} (hx : ev L x = some (.int k i)) (hy : ev L y = some (.int k j))
 (hj : j ≠ 0) : Ex P n a L Γ ⟨dst, .binOp .quo t x y t', ty, pos, af, g⟩ (.int k (k.wrap (i.tdiv j))) := fun hs w hh =>
 (by simp [execOp, hs.ev hx, hs.ev hy, eqGuard, binOp, Op.intDiv, hj])
theorem e_remN {t t' : TypeId} {x y : Operand} {k : IntKind} {i j : Int} (hx : ev L x = some (.int k i)) (hy : ev L y = some (.int k j))
 (hi : 0 ≤ i ∧ 0 < j) : Ex P n a L Γ ⟨dst, .binOp .rem t x y t', ty, pos, af, g⟩ (.int k (i % j)) := by
 rw [← Int.tmod_eq_emod_of_nonneg hi.1]; exact e_rem hx hy (by omega)
def binS (op : BinOp) (x y : ByteArray) : Option Value :=
 match op with
 | .eql => some (.bool (decide (x = y)))
 | .neq => some (.bool (decide (x ≠ y)))
 | _ => none
theorem bytes_beq (x y : ByteArray) : (x.toList == y.toList) = decide (x = y) := by
 rw [ByteArray.toList_eq, ByteArray.toList_eq]
 by_cases h : x = y
 · subst h; simp
 · have : x.data.toList ≠ y.data.toList := fun e => h (by cases x; cases y; simp_all)
   simp only [h, decide_false]
   exact beq_eq_false_iff_ne.2 this
theorem e_binS {op : BinOp} {t t' : TypeId} {x y : Operand} {i j : ByteArray} {v : Value} (hx : ev L x = some (.string i)) (hy : ev L y = some (.string j))
 (hv : binS op i j = some v) : Ex P n a L Γ ⟨dst, .binOp op t x y t', ty, pos, af, g⟩ v := fun hs w hh =>
 (by
   cases op <;> simp only [binS, Option.some.injEq, reduceCtorEq] at hv <;> subst hv <;> simp only [execOp, hs.ev hx, hs.ev hy, eqGuard, binOp, Op.stringOp, bytes_beq]
   · rfl
   · by_cases e : i = j <;> simp [e])
theorem e_nil {t t' : TypeId} {x : Operand} {p : Option Addr} (hx : ev L x = some (.pointer p)) (hu : P.underlying t = some (.pointer (P.pointee t)))
 : Ex P n a L Γ ⟨dst, .binOp .eql t x (.const (.pointer none)) t', ty, pos, af, g⟩ (.bool p.isNone) := fun hs w hh =>
 (by
   have := run_eql_pointer_nil (P := P) w t p hu
   have he : a.eval (.const (.pointer none)) = .pointer none := rfl
   simp [execOp, hs.ev hx, he, eqGuard, this])
theorem e_not {t : TypeId} {x : Operand} {b : Bool} (hx : ev L x = some (.bool b)) : Ex P n a L Γ ⟨dst, .unOp .not t x, ty, pos, af, g⟩ (.bool (!b)) := fun hs w hh =>
 (by simp [execOp, hs.ev hx, Op.unary])
theorem e_conv {t t' : TypeId} {x : Operand} {k k' : IntKind} {i : Int} {D : TypeDesc} (hx : ev L x = some (.int k i)) (hD : P.underlying t = some D) (hu : P.underlying t' = some (.int k'))
 : Ex P n a L Γ ⟨dst, .convert t t' x, ty, pos, af, g⟩ (.int k' (k'.wrap i)) := fun hs w hh =>
 (by simp [execOp, hs.ev hx, convert, underlying, hD, hu, Conv.intToInt])
theorem e_nilCheck {x : Operand} {p : Addr} (hx : ev L x = some (.pointer (some p))) : Ex P n a L Γ ⟨dst, .nilCheck x, ty, pos, af, g⟩ (.pointer (some p)) := fun hs w hh =>
 (by simp [execOp, hs.ev hx])
theorem e_extract {x : Operand} {i : Nat} {l : List Value} {v : Value} (hx : ev L x = some (.tuple l.toArray)) (hv : nth l i = some v) : Ex P n a L Γ ⟨dst, .extract x i, ty, pos, af, g⟩ v := fun hs w hh =>
 (by rw [nth_eq] at hv; simp [execOp, hs.ev hx, Instr.extract, hv])
theorem e_makeFunc {f : Fn} {fs xs : List Operand} {us vs : List Value} (hf : Evs L fs us) (hx : Evs L xs vs) : Ex P n a L Γ ⟨dst, .makeFunc f fs.toArray xs.toArray, ty, pos, af, g⟩ (.func f us.toArray vs.toArray) := fun hs w hh =>
 (by
   have h1 := hs.evs hx
   have h2 := hs.evs hf
   unfold execOp
   show ((do pure (.value (← Instr.makeFunc f (fs.toArray.map a.eval) (xs.toArray.map a.eval)))) : Sem Next).run P w = _
   rw [h1, h2]; rfl)
theorem e_len {x : Operand} {ts : Array TypeId} {T E : TypeId} {p : Option Addr} {m c : Nat} (hx : ev L x = some (.slice p m c)) (ht : ts[0]? = some T) (hu : sliceT P T = some E) : Ex P n a L Γ ⟨dst, .call ⟨.builtin .len, #[x], ts⟩, ty, pos, af, g⟩ (.int .i64 (m : Int)) := fun hs w hh =>
 (by
   have hu' : P.underlying T = some (.slice E) := by
     unfold sliceT at hu; cases hi : P.underlying T with
     | none => simp [hi] at hu
     | some D => cases D <;> simp_all
   simp [execOp, resolve, invoke, builtin, Builtin.len_, hs.ev hx, ht, underlying, hu', goInt])
theorem e_lenS {x : Operand} {ts : Array TypeId} {T : TypeId} {s : ByteArray} (hx : ev L x = some (.string s)) (ht : ts[0]? = some T) (hu : P.underlying T = some .string) : Ex P n a L Γ ⟨dst, .call ⟨.builtin .len, #[x], ts⟩, ty, pos, af, g⟩ (.int .i64 (s.size : Int)) := fun hs w hh =>
 (by simp [execOp, resolve, invoke, builtin, Builtin.len_, hs.ev hx, ht, underlying, hu, goInt])
theorem e_fa0 {s f b off : Nat} {x : Operand} (hx : ev L x = some (.pointer (some ⟨b, 0, none⟩))) (ho : fieldOff P s f = some off) : Ex P n a L Γ ⟨dst, .fieldAddr s x f, ty, pos, af, g⟩ (.pointer (some ⟨b, off, none⟩)) := fun hs w hh =>
 (by
   unfold fieldOff at ho
   cases hi : P.underlying s with
   | none => simp [hi] at ho
   | some D =>
     cases D <;> simp [hi] at ho
     rename_i fs
     cases hf : fs[f]? with
     | none => simp [hf] at ho
     | some fd =>
       simp [hf] at ho
       cases hz : szOf P fd.type with
       | none => simp [hz] at ho
       | some m =>
         cases m with
         | zero => simp [hz] at ho
         | succ m =>
           simp [hz] at ho
           simp [execOp, hs.ev hx, Instr.fieldAt, underlying, hi, hf, Instr.sureAddr, fieldPlace, sizeOf_run hz, addr_add, ho])
theorem e_faK {s f b k off : Nat} {x : Operand} (hx : ev L x = some (.pointer (some ⟨b, k, none⟩))) (ho : fieldOff P s f = some off) : Ex P n a L Γ ⟨dst, .fieldAddr s x f, ty, pos, af, g⟩ (.pointer (some ⟨b, k + off, none⟩)) := fun hs w hh =>
 (by
   unfold fieldOff at ho
   cases hi : P.underlying s with
   | none => simp [hi] at ho
   | some D =>
     cases D <;> simp [hi] at ho
     rename_i fs
     cases hf : fs[f]? with
     | none => simp [hf] at ho
     | some fd =>
       simp [hf] at ho
       cases hz : szOf P fd.type with
       | none => simp [hz] at ho
       | some m =>
         cases m with
         | zero => simp [hz] at ho
         | succ m =>
           simp [hz] at ho
           simp [execOp, hs.ev hx, Instr.fieldAt, underlying, hi, hf, Instr.sureAddr, fieldPlace, sizeOf_run hz, addr_add, ho])
theorem e_load {T b k : Nat} {x : Operand} {cs : List Value} {E : TypeId} {v : Value} (hx : ev L x = some (.pointer (some ⟨b, k, none⟩))) (hm : Asn.blk b cs E ∈ Γ) (hT : scalarT P T = true)
 (hv : nth cs k = some v) : Ex P n a L Γ ⟨dst, .load T x, ty, pos, af, g⟩ v := fun hs w hh =>
 (by
   rw [nth_eq] at hv
   have hc := cell_of_blk (hh _ hm) hv
   simp [execOp, hs.ev hx, Instr.loadAt, Instr.sureAddr, loadVar_scalar hT hc])
theorem e_loadC {T : Nat} {p : Addr} {x : Operand} {v : Value} (hx : ev L x = some (.pointer (some p))) (hT : scalarT P T = true)
 (hc : ∀ w, Hd Γ w → w.cell? p = some v) : Ex P n a L Γ ⟨dst, .load T x, ty, pos, af, g⟩ v := fun hs w hh =>
 (by simp [execOp, hs.ev hx, Instr.loadAt, Instr.sureAddr, loadVar_scalar hT (hc w hh)])
theorem e_loadA {T b m : Nat} {x : Operand} {cs : List Value} {E : TypeId} (hx : ev L x = some (.pointer (some ⟨b, 0, none⟩))) (hm : Asn.blk b cs E ∈ Γ) (hT : structT P T = true) (hz : szOf P T = some m)
 (hl : Nat.beq cs.length m = true) : Ex P n a L Γ ⟨dst, .load T x, ty, pos, af, g⟩ (.agg cs.toArray) := fun hs w hh =>
 (by
   obtain rfl := Nat.eq_of_beq_eq_true hl
   have hc := loadVar_struct (P := P) hT hz (w := w) (p := ⟨b, 0, none⟩) (fun j v hj => by rw [addr_add, Nat.zero_add]; exact cell_of_blk (hh _ hm) hj)
   simp [execOp, hs.ev hx, Instr.loadAt, Instr.sureAddr, hc])
theorem e_loadAC {T b k : Nat} {x : Operand} {l : List Value} (hx : ev L x = some (.pointer (some ⟨b, k, none⟩))) (hT : structT P T = true)  (hz : szOf P T = some l.length)
 (hc : ∀ w, Hd Γ w → ∀ j v, l[j]? = some v → w.cell? ⟨b, k + j, none⟩ = some v) : Ex P n a L Γ ⟨dst, .load T x, ty, pos, af, g⟩ (.agg l.toArray) := fun hs w hh =>
 (by
   have hc := loadVar_struct (P := P) hT hz (w := w) (p := ⟨b, k, none⟩) (fun j v hj => by rw [addr_add]; exact hc w hh j v hj)
   simp [execOp, hs.ev hx, Instr.loadAt, Instr.sureAddr, hc])
theorem s_new {o : Oper} {cs : List Value} {E : TypeId} (hS : St n F0 w0 a w L Γ)
 (he : (execOp a.eval o).run P w = .ok (.value (.pointer (some ⟨w.heap.size, 0, none⟩))) (w.alloc (.cells cs.toArray E))) (hd : o.dst = some d) (hn : Nat.blt d n.n = true)
 (h : ∀ a' w' b, St n F0 w0 a' w' ((d, .pointer (some ⟨b, 0, none⟩)) :: L) (.blk b cs E :: Γ) → K a' w') : OW P o a w K Q := by
 refine ⟨?_⟩
 unfold Oper.wp
 rw [he]
 show K (a.put o.dst _) _
 rw [hd]
 refine h _ _ w.heap.size ((hS.fresh (Chg.alloc _ _ _) (Y := .blk w.heap.size cs E) (ok_blk ?_) ?_).put hn _)
 · show (w.heap.push _)[w.heap.size]? = _
   simp
 · intro b hb; obtain rfl : b = w.heap.size := hb; exact Nat.le_refl _
theorem s_alloc {E : TypeId} {zs : List Value} (hS : St n F0 w0 a w L Γ) (hz : zeroOf P E = some zs) (hn : Nat.blt d n.n = true)
 (h : ∀ a' w' b, St n F0 w0 a' w' ((d, .pointer (some ⟨b, 0, none⟩)) :: L) (.blk b zs E :: Γ) → K a' w') : OW P ⟨some d, .alloc E, ty, pos, af, g⟩ a w K Q :=
 s_new hS (by
   obtain ⟨z, h1, h2⟩ := zero_run hz w
   simp [execOp, Instr.alloc, h1, newVar, newRow, h2]) rfl hn h
theorem s_box1 {E : TypeId} {x : Operand} {v : Value} (hS : St n F0 w0 a w L Γ) (hx : ev L x = some v) (h1 : isOne v = true) (hn : Nat.blt d n.n = true)
 (h : ∀ a' w' b, St n F0 w0 a' w' ((d, .pointer (some ⟨b, 0, none⟩)) :: L) (.blk b [v] E :: Γ) → K a' w') : OW P ⟨some d, .box E x, ty, pos, af, g⟩ a w K Q :=
 s_new hS (by simp [execOp, Instr.box, hS.sl.ev hx, newVar, newRow, isOne_cells h1]) rfl hn h
theorem s_boxA {E : TypeId} {x : Operand} {l : List Value} (hS : St n F0 w0 a w L Γ) (hx : ev L x = some (.agg l.toArray)) (hn : Nat.blt d n.n = true)
 (h : ∀ a' w' b, St n F0 w0 a' w' ((d, .pointer (some ⟨b, 0, none⟩)) :: L) (.blk b l E :: Γ) → K a' w') : OW P ⟨some d, .box E x, ty, pos, af, g⟩ a w K Q :=
 s_new hS (by simp [execOp, Instr.box, hS.sl.ev hx, newVar, newRow, Value.cells]) rfl hn h
theorem s_store {T b k : Nat} {x y : Operand} {cs cs' : List Value} {E : TypeId} {v : Value} {Γ' : List Asn} (hS : St n F0 w0 a w L Γ) (hx : ev L x = some (.pointer (some ⟨b, k, none⟩))) (hy : ev L y = some v) (h1 : isOne v = true)
 (hz : szOf P T = some 1) (hr : Rep (.blk b cs E) (.blk b cs' E) Γ Γ') (hu : Upd cs k v cs') (h : ∀ w', St n F0 w0 a w' L Γ' → K a w') : OW P ⟨none, .store T x y, ty, pos, af, g⟩ a w K Q := by
 obtain ⟨rfl, hk⟩ := hu.eq
 have hb : w.heap[b]? = some (.cells cs.toArray E (0, 0)) := hS.get hr.mem
 have hc : ∃ u, cs[k]? = some u := ⟨cs[k], by simp [hk]⟩
 obtain ⟨u, hu⟩ := hc
 have hcell := cell_of_blk hb hu
 have he : (execOp a.eval (⟨none, .store T x y, ty, pos, af, g⟩ : Oper)).run P w = .ok .skip (w.setCell ⟨b, k, none⟩ v) := by
  simp [execOp, hS.sl.ev hx, hS.sl.ev hy, Instr.storeAt, Instr.sureAddr, storeVar, isOne_cells h1, sizeOf_run hz, storeCells, addr_add, run_store _ _ _ _ _ (isOne_oneCell h1), hcell, frozen_of_blk hb]
 refine ⟨?_⟩
 unfold Oper.wp
 rw [he]
 refine h _ (hS.upd hr (Chg.setCell w ⟨b, k, none⟩ v) (ok_blk (setCell_of_blk hb v)) (fun i hi => .inl hi) rfl)
theorem storeCells_run {P : Program} {E : TypeId} {b : Nat} : ∀ (vs pre : List Value) (w : World) (old : List Value), w.heap[b]? = some (.cells (pre ++ old).toArray E (0, 0)) → old.length = vs.length → (∀ v ∈ vs, isOne v = true) →
 ∃ w', (storeCells ⟨b, 0, none⟩ vs pre.length).run P w = .ok () w' ∧ w'.heap[b]? = some (.cells (pre ++ vs).toArray E (0, 0)) ∧ Chg (fun k => k = b) w w' := by
 intro vs
 induction vs with
 | nil =>
   intro pre w old hb hl _
   have : old = [] := by simpa using hl
   subst this
   exact ⟨w, by simp [storeCells], hb, Chg.refl _ _⟩
 | cons v vs ih =>
   intro pre w old hb hl h1
   cases old with
   | nil => simp at hl
   | cons o old =>
     have hv := h1 v (by simp)
     have hcell : w.cell? ⟨b, pre.length, none⟩ = some o := cell_of_blk hb (by simp)
     have hs := setCell_of_blk (k := pre.length) hb v
     have he : (pre ++ o :: old).set pre.length v = (pre ++ [v]) ++ old := by simp
     rw [he] at hs
     obtain ⟨w', h2, h3, h4⟩ := ih (pre ++ [v]) _ old hs (by simpa using hl) (fun u hu => h1 u (by simp [hu]))
     refine ⟨w', ?_, by simpa using h3, (Chg.setCell w ⟨b, pre.length, none⟩ v).trans h4 (fun i hi _ => hi)⟩
     simp only [List.length_append, List.length_cons, List.length_nil, Nat.zero_add] at h2
     simp [storeCells, addr_add, run_store _ _ _ _ _ (isOne_oneCell hv), hcell, frozen_of_blk hb, h2]
theorem s_storeA {T b m : Nat} {x y : Operand} {cs l : List Value} {E : TypeId} {Γ' : List Asn} (hS : St n F0 w0 a w L Γ) (hx : ev L x = some (.pointer (some ⟨b, 0, none⟩))) (hy : ev L y = some (.agg l.toArray))
 (hz : szOf P T = some m) (hr : Rep (.blk b cs E) (.blk b l E) Γ Γ') (hl : Nat.beq cs.length m = true) (hl' : Nat.beq l.length m = true) (h1 : l.all isOne = true) (h : ∀ w', St n F0 w0 a w' L Γ' → K a w') : OW P ⟨none, .store T x y, ty, pos, af, g⟩ a w K Q := by
 have e1 := Nat.eq_of_beq_eq_true hl
 have e2 := Nat.eq_of_beq_eq_true hl'
 have hb : w.heap[b]? = some (.cells ([] ++ cs).toArray E (0, 0)) := hS.get hr.mem
 obtain ⟨w', h2, h3, h4⟩ := storeCells_run (P := P) l [] w cs hb (by omega) (by simpa using h1)
 have he : (execOp a.eval (⟨none, .store T x y, ty, pos, af, g⟩ : Oper)).run P w = .ok .skip w' := by
  simp only [List.length_nil] at h2
  simp [execOp, hS.sl.ev hx, hS.sl.ev hy, Instr.storeAt, Instr.sureAddr, storeVar, sizeOf_run hz, Value.cells, e2, h2]
 refine ⟨?_⟩
 unfold Oper.wp
 rw [he]
 refine h _ (hS.upd hr h4 (ok_blk (by simpa using h3)) (fun i hi => .inl hi) rfl)
theorem s_call {f : FuncId} {xs : List Operand} {vs : List Value} {ts : Array TypeId} {dst : Option Tmp} {R : Ending → World → Prop} (hS : St n F0 w0 a w L Γ) (hx : Evs L xs vs) (hf : CallsTo P f)
 (hc : Calls P f vs.toArray w R) (h : ∀ e w', R e w' → ∃ v, e = .returned v ∧ K (a.put dst v) w') : OW P ⟨dst, .call ⟨.value (.func f), xs.toArray, ts⟩, ty, pos, af, g⟩ a w K Q := by
 refine ⟨?_⟩
 unfold Oper.wp
 have he : (execOp a.eval (⟨dst, .call ⟨.value (.func f), xs.toArray, ts⟩, ty, pos, af, g⟩ : Oper)).run P w = .ok (.enter f vs.toArray) w := by
  rw [execOp_call_go]
  rw [hS.sl.evs hx]
  simpa using hf vs.toArray w
 rw [he]
 refine hc.mono fun e w' hR => ?_
 obtain ⟨v, rfl, hK⟩ := h e w' hR
 exact hK
theorem s_callv {f : FuncId} {x : Operand} {cs : List Value} {xs : List Operand} {vs : List Value} {ts : Array TypeId} {dst : Option Tmp} {R : Ending → World → Prop} (hS : St n F0 w0 a w L Γ) (hv : ev L x = some (.func (.func f) #[] cs.toArray)) (hx : Evs L xs vs) (hf : CallsTo P f)
 (hc : Calls P f (vs ++ cs).toArray w R) (h : ∀ e w', R e w' → ∃ v, e = .returned v ∧ K (a.put dst v) w') : OW P ⟨dst, .call ⟨.value x, xs.toArray, ts⟩, ty, pos, af, g⟩ a w K Q := by
 refine ⟨?_⟩
 unfold Oper.wp
 have he : (execOp a.eval (⟨dst, .call ⟨.value x, xs.toArray, ts⟩, ty, pos, af, g⟩ : Oper)).run P w = .ok (.enter f (vs ++ cs).toArray) w := by
  have h1 := hS.sl.evs hx
  have h2 := hf (vs ++ cs).toArray w
  have e1 : (#[] ++ vs.toArray) ++ cs.toArray = (vs ++ cs).toArray := by simp
  have hr : (resolve a.eval ⟨.value x, xs.toArray, ts⟩ ty).run P w = .ok ⟨.fn (.func f) cs.toArray, #[] ++ vs.toArray⟩ w := by
   simp only [resolve, hS.sl.ev hv, h1, Deferred.ofValue]; rfl
  show ((resolve a.eval ⟨.value x, xs.toArray, ts⟩ ty) >>= fun d => invoke d.target d.args).run P w = _
  rw [Sem.run_bind, hr]
  show (callFunc f ((#[] ++ vs.toArray) ++ cs.toArray)).run P w = _
  rw [e1]; exact h2
 rw [he]
 refine hc.mono fun e w' hR => ?_
 obtain ⟨v, rfl, hK⟩ := h e w' hR
 exact hK
end
end Go.Proofs.YtlccmgeclhdegaaGreatDoor
namespace Go.Proofs.YtlccmgeclhdegaaGreatDoor
open Go.RowKit
section
variable {P : Program} {n : NN} {F0 : Nat → Prop} {w0 : World} {a : Act} {w : World} {L : List (Nat × Value)} {Γ : List Asn}
variable {K : Act → World → Prop} {Q : Exit → Act → World → Prop} {d ty : Nat} {dst : Option Tmp} {pos : String} {af : Array Edge} {g : Option (Nat × Bool)} {op : Op} {rest l : List Oper}
def opDst : List Oper → Nat → Option Nat
 | [], _ => none
 | o :: r, i => bif Nat.beq i 0 then o.dst else opDst r (i - 1)
theorem opDst_eq (l : List Oper) (i : Nat) : opDst l i = (l[i]?).bind (·.dst) := by
 induction l generalizing i with
 | nil => simp [opDst]
 | cons v l ih =>
   cases i with
   | zero => simp [opDst]
   | succ i => exact (ih i).trans (by simp)
theorem yielded_of {j t : Nat} {b : Bool} (hs : Sl n a L) (hj : opDst l j = some t) (hv : lk L t = some (.bool b)) : yielded l.toArray a.tmps j = some b := by
 rw [opDst_eq] at hj
 have h := hs.get _ _ hv
 unfold yielded
 have h1 : (l.toArray[j]?).bind (·.dst) = some t := by simpa using hj
 rw [h1]
 simp only [Option.bind_some]
 rw [Array.getD_eq_getD_getElem?] at h
 cases ht : a.tmps[t]? with
 | none => rw [ht] at h; simp [undef] at h
 | some v => rw [ht] at h; simp at h; subst h; rfl
theorem L_nil {ops : Array Oper} (h : Q .normal a w) : wpList P ops Q [] a w := h
theorem L_op {ops : Array Oper} (h : OW P ⟨dst, op, ty, pos, af, none⟩ a w (wpList P ops Q rest) Q) : wpList P ops Q (⟨dst, op, ty, pos, af, none⟩ :: rest) a w := by
 unfold wpList
 rw [if_pos (by simp [Region.wanted])]
 exact .inl h.h
theorem L_go {j t : Nat} {b : Bool} (hS : St n F0 w0 a w L Γ) (hj : opDst l j = some t) (hv : lk L t = some (.bool b))
 (h : OW P ⟨dst, op, ty, pos, af, some (j, b)⟩ a w (wpList P l.toArray Q rest) Q) : wpList P l.toArray Q (⟨dst, op, ty, pos, af, some (j, b)⟩ :: rest) a w := by
 unfold wpList
 rw [if_pos (by simp [Region.wanted, yielded_of hS.sl hj hv])]
 exact .inl h.h
theorem L_skip_t {j t : Nat} (hS : St n F0 w0 a w L Γ) (hj : opDst l j = some t) (hv : lk L t = some (.bool false)) (hn : Nat.blt d n.n = true)
 (h : ∀ a', St n F0 w0 a' w ((d, undef) :: L) Γ → wpList P l.toArray Q rest a' w) : wpList P l.toArray Q (⟨some d, op, ty, pos, af, some (j, true)⟩ :: rest) a w := by
 unfold wpList
 rw [if_neg (by simp [Region.wanted, yielded_of hS.sl hj hv])]
 exact h _ (hS.put hn _)
theorem L_skip_f {j t : Nat} (hS : St n F0 w0 a w L Γ) (hj : opDst l j = some t) (hv : lk L t = some (.bool true)) (hn : Nat.blt d n.n = true)
 (h : ∀ a', St n F0 w0 a' w ((d, undef) :: L) Γ → wpList P l.toArray Q rest a' w) : wpList P l.toArray Q (⟨some d, op, ty, pos, af, some (j, false)⟩ :: rest) a w := by
 unfold wpList
 rw [if_neg (by simp [Region.wanted, yielded_of hS.sl hj hv])]
 exact h _ (hS.put hn _)
theorem yielded_undef {j t : Nat} (hs : Sl n a L) (hj : opDst l j = some t) (hv : lk L t = some undef) : yielded l.toArray a.tmps j = none := by
 rw [opDst_eq] at hj
 have h := hs.get _ _ hv
 unfold yielded
 have h1 : (l.toArray[j]?).bind (·.dst) = some t := by simpa using hj
 rw [h1]
 simp only [Option.bind_some]
 rw [Array.getD_eq_getD_getElem?] at h
 cases ht : a.tmps[t]? with
 | none => rfl
 | some v => rw [ht] at h; simp [undef] at h; subst h; rfl
theorem L_skip_u {j t : Nat} {b : Bool} (hS : St n F0 w0 a w L Γ) (hj : opDst l j = some t) (hv : lk L t = some undef) (hn : Nat.blt d n.n = true)
 (h : ∀ a', St n F0 w0 a' w ((d, undef) :: L) Γ → wpList P l.toArray Q rest a' w) : wpList P l.toArray Q (⟨some d, op, ty, pos, af, some (j, b)⟩ :: rest) a w := by
 unfold wpList
 rw [if_neg (by simp [Region.wanted, yielded_undef hS.sl hj hv])]
 exact h _ (hS.put hn _)
theorem St.is {t : Nat} {b c : Bool} (hS : St n F0 w0 a w L Γ) (hl : lk L t = some (.bool b)) (hb : b = c) : St n F0 w0 a w ((t, .bool c) :: L) Γ :=
 hS.act (hS.sl.know (by rw [hl, hb]))
theorem g_split {t : Nat} {b : Bool} {G : Prop} (hS : St n F0 w0 a w L Γ) (hl : lk L t = some (.bool b))
 (h1 : b = true → St n F0 w0 a w ((t, .bool true) :: L) Γ → G) (h2 : b = false → St n F0 w0 a w ((t, .bool false) :: L) Γ → G) : G := by
 cases hb : b
 · exact h2 hb (hS.is hl hb)
 · exact h1 hb (hS.is hl hb)
theorem g_splitD {t : Nat} {p : Prop} [hp : Decidable p] {G : Prop} (hS : St n F0 w0 a w L Γ) (hl : lk L t = some (.bool (decide p)))
 (h1 : p → St n F0 w0 a w ((t, .bool true) :: L) Γ → G) (h2 : ¬ p → St n F0 w0 a w ((t, .bool false) :: L) Γ → G) : G :=
 g_split hS hl (fun h => h1 (of_decide_eq_true h)) (fun h => h2 (of_decide_eq_false h))
theorem c_region {id : Nat} {l : List Oper} (h : wpList P l.toArray Q l a w) : (Code.region id l.toArray false).wp P Q a w := wp_region_lit h
theorem c_if_t {c : Operand} {x y : Code} (hS : St n F0 w0 a w L Γ) (hc : ev L c = some (.bool true)) (h : x.wp P Q a w) : (Code.cond c x y).wp P Q a w := wp_cond_true (hS.sl.ev hc) h
theorem c_if_f {c : Operand} {x y : Code} (hS : St n F0 w0 a w L Γ) (hc : ev L c = some (.bool false)) (h : y.wp P Q a w) : (Code.cond c x y).wp P Q a w := wp_cond_false (hS.sl.ev hc) h
theorem c_if {c : Operand} {x y : Code} {b : Bool} (hS : St n F0 w0 a w L Γ) (hc : ev L c = some (.bool b)) (h1 : b = true → x.wp P Q a w) (h2 : b = false → y.wp P Q a w) : (Code.cond c x y).wp P Q a w :=
 wp_cond_split (hS.sl.ev hc) h1 h2
theorem c_ifD {c : Operand} {x y : Code} {p : Prop} [hp : Decidable p] (hS : St n F0 w0 a w L Γ) (hc : ev L c = some (.bool (decide p))) (h1 : p → x.wp P Q a w) (h2 : ¬ p → y.wp P Q a w) : (Code.cond c x y).wp P Q a w :=
 wp_cond_split (hS.sl.ev hc) (fun h => h1 (of_decide_eq_true h)) (fun h => h2 (of_decide_eq_false h))
theorem c_enter {f : FuncId} {fn : Func} {c : Code} {args : List Value} {R : Ending → World → Prop} {m : Nat} (L : List (Nat × Value)) (Γ : List Asn) (F0 : Nat → Prop) (hf : P.funcs[f]? = some fn) (hb : fn.body = some c) (hm : fn.ntmps = m)
 (hA : SubA args L) (hn : Nat.ble args.length m = true) (ok : ∀ X ∈ Γ, X.ok w) (dis : Γ.Pairwise (fun X Y => ∀ b, X.F b → ¬ Y.F b)) (mine : ∀ X ∈ Γ, X.mine = true → ∀ b, X.F b → w.heap.size ≤ b ∨ F0 b)
 (h : ∀ a, St ⟨m, []⟩ F0 w a w L Γ → c.wp P (bodyPost P fn R) a w) : Calls P f args.toArray w R := by
 refine calls_of_wp hf hb (h _ ⟨?_, Chg.refl _ _, ok, dis, mine⟩)
 have hle : args.length ≤ m := Nat.le_of_ble_eq_true hn
 have := Sl.start (l := args) (L := L) (n := m) (m := m - args.length) hA (by omega)
 simpa [hm] using this
inductive Res1 (P : Program) (L : List (Nat × Value)) (Γ : List Asn) : ResultVar → Value → Prop
 | tmp {t : Nat} {v : Value} (h : lk L t = some v) : Res1 P L Γ (.tmp t) v
 | cell {t T b : Nat} {cs : List Value} {E : TypeId} {v : Value} (h : lk L t = some (.pointer (some ⟨b, 0, none⟩))) (hm : Asn.blk b cs E ∈ Γ) (hT : scalarT P T = true) (hv : nth cs 0 = some v) : Res1 P L Γ (.cell t T) v
 | cellA {t T b m : Nat} {cs : List Value} {E : TypeId} (h : lk L t = some (.pointer (some ⟨b, 0, none⟩))) (hm : Asn.blk b cs E ∈ Γ) (hT : structT P T = true) (hz : szOf P T = some m) (hl : Nat.beq cs.length m = true) : Res1 P L Γ (.cell t T) (.agg cs.toArray)
inductive ResL (P : Program) (L : List (Nat × Value)) (Γ : List Asn) : List ResultVar → List Value → Prop
 | nil : ResL P L Γ [] []
 | cons {r : ResultVar} {rs : List ResultVar} {v : Value} {vs : List Value} (h : Res1 P L Γ r v) (t : ResL P L Γ rs vs) : ResL P L Γ (r :: rs) (v :: vs)
def rvS (a : Act) : ResultVar → Sem Value
 | .tmp t => pure (a.tmps.getD t undef)
 | .cell q t => do loadVar t (← asAddr (a.tmps.getD q undef))
theorem results_rvS (fn : Func) (a : Act) : results fn a.tmps = (do
    let vs ← fn.results.mapM (rvS a)
    pure (if h : vs.size = 1 then vs[0] else .tuple vs)) := by
 unfold results
 congr 1
theorem Res1.run {r : ResultVar} {v : Value} (hS : St n F0 w0 a w L Γ) (h : Res1 P L Γ r v) :
 (rvS a r).run P w = .ok v w := by
 cases h with
 | tmp h => simp only [rvS, hS.sl.get _ _ h]; rfl
 | cell h hm hT hv =>
   rw [nth_eq] at hv
   have hc := cell_of_blk (hS.get hm) hv
   simp only [rvS, hS.sl.get _ _ h, asAddr, Sem.run_bind, Sem.run_pure, Result.andThen_ok, loadVar_scalar hT hc]
 | cellA h hm hT hz hl =>
   obtain rfl := Nat.eq_of_beq_eq_true hl
   have hc := loadVar_struct (P := P) hT hz (w := w) (p := ⟨_, 0, none⟩) (fun j v hj => by rw [addr_add, Nat.zero_add]; exact cell_of_blk (hS.get hm) hj)
   simp only [rvS, hS.sl.get _ _ h, asAddr, Sem.run_bind, Sem.run_pure, Result.andThen_ok, hc]
theorem ResL.run {rs : List ResultVar} {vs : List Value} (hS : St n F0 w0 a w L Γ) (h : ResL P L Γ rs vs) :
 (rs.mapM (rvS a)).run P w = .ok vs w := by
 induction h with
 | nil => rfl
 | cons h _ ih =>
   simp only [List.mapM_cons, Sem.run_bind, Res1.run hS h, Result.andThen_ok, ih, Sem.run_pure]
theorem c_ret1 {fn : Func} {R : Ending → World → Prop} {r : ResultVar} {v : Value} {m : Nat} (hS : St ⟨m, []⟩ F0 w0 a w L Γ) (hr : fn.results = #[r]) (hv : Res1 P L Γ r v) (h : R (.returned v) w) : bodyPost P fn R .ret a w := by
 refine ⟨hS.sl.defers, v, ?_, h⟩
 have := ResL.run hS (.cons hv .nil)
 rw [results_rvS, hr, show (#[r] : Array ResultVar) = [r].toArray from rfl, List.mapM_toArray, Sem.run_bind, Sem.run_map, this]
 rfl
theorem c_retN {fn : Func} {R : Ending → World → Prop} {rs : List ResultVar} {vs : List Value} {m : Nat} (hS : St ⟨m, []⟩ F0 w0 a w L Γ) (hr : fn.results = rs.toArray) (hv : ResL P L Γ rs vs) (hne : Nat.beq vs.length 1 = false) (h : R (.returned (.tuple vs.toArray)) w) : bodyPost P fn R .ret a w := by
 refine ⟨hS.sl.defers, _, ?_, h⟩
 have h1 := ResL.run hS hv
 have h2 : ¬ vs.toArray.size = 1 := by simpa using nbeq_ne hne
 rw [results_rvS, hr, List.mapM_toArray, Sem.run_bind, Sem.run_map, h1]
 simp only [Result.andThen_ok, h2, dite_false]
 rfl
theorem r_norm {fn : Func} {R : Ending → World → Prop} (h : bodyPost P fn R .ret a w) : bodyPost P fn R .normal a w := h
def PureC (P : Program) (f : FuncId) (args : List Value) (w : World) (v : Value) : Prop := Calls P f args.toArray w fun e w' => e = .returned v ∧ Chg noB w w'
def NewC {γ : Type} (P : Program) (f : FuncId) (args : List Value) (w : World) (V : γ → Value) (Y : γ → Asn) : Prop :=
 Calls P f args.toArray w fun e w' => ∃ x, e = .returned (V x) ∧ Chg noB w w' ∧ (Y x).ok w' ∧ ∀ b, (Y x).F b → w.heap.size ≤ b
def MutC {γ : Type} (P : Program) (f : FuncId) (args : List Value) (w : World) (X : Asn) (V : γ → Value) (Y : γ → Asn) : Prop :=
 Calls P f args.toArray w fun e w' => ∃ x, e = .returned (V x) ∧ Chg X.F w w' ∧ (Y x).ok w' ∧ ∀ b, (Y x).F b → X.F b ∨ w.heap.size ≤ b
theorem s_callP {f : FuncId} {xs : List Operand} {vs : List Value} {ts : Array TypeId} {v : Value} (hS : St n F0 w0 a w L Γ) (hx : Evs L xs vs) (hf : CallsTo P f) (hn : Nat.blt d n.n = true)
 (hc : PureC P f vs w v) (h : ∀ a' w', St n F0 w0 a' w' ((d, v) :: L) Γ → K a' w') : OW P ⟨some d, .call ⟨.value (.func f), xs.toArray, ts⟩, ty, pos, af, g⟩ a w K Q :=
 s_call hS hx hf hc fun _ _ ⟨he, hch⟩ => ⟨_, he, h _ _ ((hS.ext hch).put hn _)⟩
theorem s_callN {γ : Type} {V : γ → Value} {Y : γ → Asn} {f : FuncId} {xs : List Operand} {vs : List Value} {ts : Array TypeId} (hS : St n F0 w0 a w L Γ) (hx : Evs L xs vs) (hf : CallsTo P f) (hn : Nat.blt d n.n = true)
 (hc : NewC P f vs w V Y) (h : ∀ x a' w', St n F0 w0 a' w' ((d, V x) :: L) (Y x :: Γ) → K a' w') : OW P ⟨some d, .call ⟨.value (.func f), xs.toArray, ts⟩, ty, pos, af, g⟩ a w K Q :=
 s_call hS hx hf hc fun _ _ ⟨x, he, hch, hY, hF⟩ => ⟨_, he, h x _ _ ((hS.fresh hch hY hF).put hn _)⟩
theorem s_callM {γ : Type} {V : γ → Value} {X : Asn} {Y : γ → Asn} {Γ' : γ → List Asn} {f : FuncId} {xs : List Operand} {vs : List Value} {ts : Array TypeId} (hS : St n F0 w0 a w L Γ) (hx : Evs L xs vs) (hf : CallsTo P f) (hn : Nat.blt d n.n = true)
 (hc : MutC P f vs w X V Y) (hr : ∀ x, Rep X (Y x) Γ (Γ' x)) (hm : X.mine = true) (h : ∀ x a' w', St n F0 w0 a' w' ((d, V x) :: L) (Γ' x) → K a' w') : OW P ⟨some d, .call ⟨.value (.func f), xs.toArray, ts⟩, ty, pos, af, g⟩ a w K Q :=
 s_call hS hx hf hc fun _ _ ⟨x, he, hch, hY, hF⟩ => ⟨_, he, h x _ _ ((hS.upd (hr x) hch hY hF hm).put hn _)⟩
theorem s_callvP {f : FuncId} {x : Operand} {cs : List Value} {xs : List Operand} {vs : List Value} {ts : Array TypeId} {v : Value} (hS : St n F0 w0 a w L Γ) (hv : ev L x = some (.func (.func f) #[] cs.toArray)) (hx : Evs L xs vs) (hf : CallsTo P f) (hn : Nat.blt d n.n = true)
 (hc : PureC P f (vs ++ cs) w v) (h : ∀ a' w', St n F0 w0 a' w' ((d, v) :: L) Γ → K a' w') : OW P ⟨some d, .call ⟨.value x, xs.toArray, ts⟩, ty, pos, af, g⟩ a w K Q :=
 s_callv hS hv hx hf hc fun _ _ ⟨he, hch⟩ => ⟨_, he, h _ _ ((hS.ext hch).put hn _)⟩
def ExtC (P : Program) (f : FuncId) (vs : List Value) (v : Value) : Prop := ∀ w, (callFunc f vs.toArray).run P w = .ok (.value v) w
theorem e_extern {f : FuncId} {xs : List Operand} {vs : List Value} {ts : Array TypeId} {v : Value} (hx : Evs L xs vs) (hf : ExtC P f vs v) :
 Ex P n a L Γ ⟨dst, .call ⟨.value (.func f), xs.toArray, ts⟩, ty, pos, af, g⟩ v := fun hs w _ => by
 rw [execOp_call_go, hs.evs hx]
 simpa using hf w
def wpZ (P : Program) (ops : Array Oper) (Q : Exit → Act → World → Prop) (S : World → Prop) (Z : List Nat) : Nat → Array Bool → Act → World → Prop
 | 0, listed, a, w => Region.ready .any ops listed = [] ∧ Q .normal a w
 | fuel + 1, listed, a, w =>
   (Region.ready .any ops listed = [] → Q .normal a w) ∧
   ∀ i ∈ Region.ready .any ops listed, wpOp P ops Q i (fun a' w' => (S w → i ∈ Z ∨ S w') ∧ wpZ P ops Q S Z fuel (listed.setIfInBounds i true) a' w') a w
theorem wpAny_of_Z {ops : Array Oper} {S : World → Prop} {Z : List Nat} : ∀ (fuel : Nat) (listed : Array Bool) (a : Act) (w : World), wpZ P ops Q S Z fuel listed a w → wpAny P .any ops Q fuel listed a w
 | 0, _, _, _, h => h
 | fuel + 1, _, _, _, h => ⟨h.1, fun i hi => wpOp_mono (fun a' w' h' => wpAny_of_Z fuel _ a' w' h'.2) (h.2 i hi)⟩
def reachB (ops : Array Oper) : Nat → Nat → Nat → Bool
 | 0, _, _ => false
 | f + 1, z, i => match ops[z]? with
   | none => false
   | some o => (o.after.any fun e => Region.binds .any e && e.on == i) || (o.after.any fun e => Region.binds .any e && reachB ops f e.on i)
def waits (ops : Array Oper) (Z : List Nat) (i : Nat) : Bool := Z.all fun z => reachB ops ops.size z i
def Closed (ops : Array Oper) (listed : Array Bool) : Prop := ∀ m o, ops[m]? = some o → listed.getD m false = true → ∀ e ∈ o.after, Region.binds .any e = true → listed.getD e.on false = true
def closedB (ops : Array Oper) (listed : Array Bool) : Bool := (List.range ops.size).all fun m => !listed.getD m false || match ops[m]? with
 | some o => o.after.all fun e => !Region.binds .any e || listed.getD e.on false
 | none => true
theorem closed_of {ops : Array Oper} {listed : Array Bool} (h : closedB ops listed = true) : Closed ops listed := by
 intro m o hm hl e he hb
 have hlt := (Array.getElem?_eq_some_iff.1 hm).1
 have h1 := List.all_eq_true.1 h m (by simpa using hlt)
 rw [hl, hm] at h1
 simp only [Bool.not_true, Bool.false_or, Array.all_eq_true_iff_forall_mem] at h1
 have h2 := h1 e he
 rw [hb] at h2
 simpa using h2
theorem getD_set_true {l : Array Bool} {j m : Nat} (h : l.getD m false = true) : (l.setIfInBounds j true).getD m false = true := by
 by_cases e : j = m
 · subst e
   have hlt : j < l.size := by
    apply Classical.byContradiction; intro hn
    simp [Array.getD, hn] at h
   simp [Array.getD, hlt]
 · rw [getD_set_ne false e]; exact h
theorem closed_set {ops : Array Oper} {listed : Array Bool} (h : Closed ops listed) {j : Nat} (hj : j ∈ Region.ready .any ops listed) : Closed ops (listed.setIfInBounds j true) := by
 intro m o hm hl e he hb
 obtain ⟨_, oj, hoj, hall⟩ := mem_ready.1 hj
 by_cases e1 : j = m
 · subst e1
   rw [hoj] at hm; cases hm
   exact getD_set_true (hall e he hb)
 · rw [getD_set_ne false e1] at hl
   exact getD_set_true (h m o hm hl e he hb)
theorem reach_listed {ops : Array Oper} {listed : Array Bool} (hc : Closed ops listed) : ∀ (f z i : Nat) (o : Oper), ops[z]? = some o → (∀ e ∈ o.after, Region.binds .any e = true → listed.getD e.on false = true) → reachB ops f z i = true → listed.getD i false = true := by
 intro f
 induction f with
 | zero => intro z i o _ _ h; simp [reachB] at h
 | succ f ih =>
   intro z i o hz hall h
   simp only [reachB, hz, Bool.or_eq_true, Array.any_eq_true', Bool.and_eq_true, beq_iff_eq] at h
   rcases h with ⟨e, he, hb, rfl⟩ | ⟨e, he, hb, hr⟩
   · exact hall e he hb
   · have h1 := hall e he hb
     cases ho : ops[e.on]? with
     | none => cases f <;> simp [reachB, ho] at hr
     | some oe => exact ih e.on i oe ho (fun e' he' hb' => hc e.on oe ho h1 e' he' hb') hr
theorem wpZ_first {ops : Array Oper} {S : World → Prop} {Z : List Nat} {i : Nat} {oi : Oper} {v : Value} (hi : ops[i]? = some oi) (hsel : ∀ (j : Nat) (o : Oper) cs b, ops[j]? = some o → o.op ≠ .select cs b)
 (hQ : ∀ c a w, Q (.panic c) (a.put oi.dst v) w → Q (.panic c) a w) (hZ : waits ops Z i = true) :
 ∀ (fuel : Nat) (listed : Array Bool) (a : Act) (w : World),
  (∀ j oj, ops[j]? = some oj → j ≠ i → listed.getD j true = false → (∀ e ∈ oj.after, Region.binds .any e = true → e.on ≠ i) → oi.apart ops oj = true) →
  Closed ops listed → i ∈ Region.ready .any ops listed → YieldsIf P ops S oi v a → S w →
  wpZ P ops Q S Z fuel (listed.setIfInBounds i true) (a.put oi.dst v) w → wpZ P ops Q S Z (fuel + 1) listed a w := by
 intro fuel
 induction fuel with
 | zero =>
   intro listed a w _ _ hr hy hS H
   refine ⟨fun h => (by rw [h] at hr; cases hr), fun j hj => ?_⟩
   by_cases hji : j = i
   · subst hji; exact hy.wpOp hi hS ⟨fun h => .inr h, H⟩
   · have := ready_mono hj hji
     rw [H.1] at this
     cases this
 | succ fuel ih =>
   intro listed a w hfree hcl hr hy hS H
   refine ⟨fun h => (by rw [h] at hr; cases hr), fun j hj => ?_⟩
   by_cases hji : j = i
   · subst hji; exact hy.wpOp hi hS ⟨fun h => .inr h, H⟩
   · have h1 := H.2 j (ready_mono hj hji)
     obtain ⟨hjun, oj, hoj, hall⟩ := mem_ready.1 hj
     have hnot : ∀ e ∈ oj.after, Region.binds .any e = true → e.on ≠ i := fun e he hb heq => by
      have h1 := hall e he hb
      have h0 := (mem_ready.1 hr).1
      rw [heq] at h1
      rcases Nat.lt_or_ge i listed.size with h' | h'
      · simp [h'] at h0 h1; rw [h0] at h1; cases h1
      · simp [Array.getElem?_eq_none h'] at h1
     have hjZ : j ∉ Z := fun hz => by
      have h5 := List.all_eq_true.1 hZ j hz
      have h6 := reach_listed hcl _ _ _ _ hoj hall h5
      have h7 := (mem_ready.1 hr).1
      rcases Nat.lt_or_ge i listed.size with h' | h'
      · simp [h'] at h6 h7; rw [h6] at h7; cases h7
      · simp [Array.getElem?_eq_none h'] at h6
     have h2 := wpOp_putIf hoj (hfree j oj hoj hji hjun hnot) (fun cs b => hsel i oi cs b hi) (fun cs b => hsel j oj cs b hoj) hQ hy h1
     have hfree' : ∀ k ok, ops[k]? = some ok → k ≠ i → (listed.setIfInBounds j true).getD k true = false →
      (∀ e ∈ ok.after, Region.binds .any e = true → e.on ≠ i) → oi.apart ops ok = true := fun k ok hk hki hun hno => by
      refine hfree k ok hk hki ?_ hno
      by_cases hjk : j = k
      · subst hjk; exact hjun
      · rw [getD_set_ne true hjk] at hun; exact hun
     refine wpOp_mono (fun a' w' h3 => ⟨fun _ => .inr ((h3.2.1 hS).resolve_left hjZ), ih (listed.setIfInBounds j true) a' w' hfree' (closed_set hcl hj) (ready_mono hr (Ne.symm hji)) h3.1 ((h3.2.1 hS).resolve_left hjZ) ?_⟩) h2
     rw [Array.setIfInBounds_comm _ _ hji]
     exact h3.2.2
theorem wpZ_first0 {ops : Array Oper} {S : World → Prop} {Z : List Nat} {i : Nat} {oi : Oper} {v : Value} (hi : ops[i]? = some oi) (hsel : ∀ (j : Nat) (o : Oper) cs b, ops[j]? = some o → o.op ≠ .select cs b)
 (hQ : ∀ c a w, Q (.panic c) (a.put oi.dst v) w → Q (.panic c) a w) :
 ∀ (fuel : Nat) (listed : Array Bool) (a : Act) (w : World),
  (∀ j oj, ops[j]? = some oj → j ≠ i → listed.getD j true = false → (∀ e ∈ oj.after, Region.binds .any e = true → e.on ≠ i) → oi.apart ops oj = true) →
  i ∈ Region.ready .any ops listed → Yields P ops oi v a →
  wpZ P ops Q S Z fuel (listed.setIfInBounds i true) (a.put oi.dst v) w → wpZ P ops Q S Z (fuel + 1) listed a w := by
 intro fuel
 induction fuel with
 | zero =>
   intro listed a w _ hr hy H
   refine ⟨fun h => (by rw [h] at hr; cases hr), fun j hj => ?_⟩
   by_cases hji : j = i
   · subst hji; exact hy.wpOp hi ⟨fun h => .inr h, H⟩
   · have := ready_mono hj hji
     rw [H.1] at this
     cases this
 | succ fuel ih =>
   intro listed a w hfree hr hy H
   refine ⟨fun h => (by rw [h] at hr; cases hr), fun j hj => ?_⟩
   by_cases hji : j = i
   · subst hji; exact hy.wpOp hi ⟨fun h => .inr h, H⟩
   · have h1 := H.2 j (ready_mono hj hji)
     obtain ⟨hjun, oj, hoj, hall⟩ := mem_ready.1 hj
     have hnot : ∀ e ∈ oj.after, Region.binds .any e = true → e.on ≠ i := fun e he hb heq => by
      have h1 := hall e he hb
      have h0 := (mem_ready.1 hr).1
      rw [heq] at h1
      rcases Nat.lt_or_ge i listed.size with h' | h'
      · simp [h'] at h0 h1; rw [h0] at h1; cases h1
      · simp [Array.getElem?_eq_none h'] at h1
     have h2 := wpOp_put hoj (hfree j oj hoj hji hjun hnot) (fun cs b => hsel i oi cs b hi) (fun cs b => hsel j oj cs b hoj) hQ hy h1
     have hfree' : ∀ k ok, ops[k]? = some ok → k ≠ i → (listed.setIfInBounds j true).getD k true = false →
      (∀ e ∈ ok.after, Region.binds .any e = true → e.on ≠ i) → oi.apart ops ok = true := fun k ok hk hki hun hno => by
      refine hfree k ok hk hki ?_ hno
      by_cases hjk : j = k
      · subst hjk; exact hjun
      · rw [getD_set_ne true hjk] at hun; exact hun
     refine wpOp_mono (fun a' w' h3 => ⟨h3.2.1, ih (listed.setIfInBounds j true) a' w' hfree' (ready_mono hr (Ne.symm hji)) h3.1 ?_⟩) h2
     rw [Array.setIfInBounds_comm _ _ hji]
     exact h3.2.2
theorem c_draw {id : Nat} {l : List Oper} (Γs : List Asn) (Z : List Nat) (hm : P.follows .mixedOrders = true) (hS : St n F0 w0 a w L Γ)
 (h : ∀ w', St n F0 w0 a w' L Γ → wpZ P l.toArray Q (Hd Γs) Z l.length (List.replicate l.length false).toArray a w') : (Code.region id l.toArray true).wp P Q a w := by
 refine wp_region_any hm (wpAny_of_Z (S := Hd Γs) (Z := Z) _ _ _ _ ?_)
 have := h w.drew (hS.ext (Chg.drew _ _))
 simpa using this
theorem c_draw1 {id : Nat} {l : List Oper} (Z : List Nat) (hm : P.follows .mixedOrders = true) (hS : St n F0 w0 a w L Γ)
 (h : ∀ w', St n F0 w0 a w' L Γ → wpZ P l.toArray Q (Hd Γ) Z l.length (List.replicate l.length false).toArray a w') : (Code.region id l.toArray true).wp P Q a w := c_draw Γ Z hm hS h
theorem sub_nil {Γ : List Asn} : ∀ Y ∈ ([] : List Asn), Y ∈ Γ := fun _ h => by cases h
theorem sub_cons {Γ Γs : List Asn} {X : Asn} (h : X ∈ Γ) (t : ∀ Y ∈ Γs, Y ∈ Γ) : ∀ Y ∈ X :: Γs, Y ∈ Γ := fun Y hY => by
 rcases List.mem_cons.1 hY with rfl | hY
 · exact h
 · exact t Y hY
theorem c_drawS {id : Nat} {l : List Oper} {Γs : List Asn} (Z : List Nat) (hm : P.follows .mixedOrders = true) (hS : St n F0 w0 a w L Γ) (_hsub : ∀ X ∈ Γs, X ∈ Γ)
 (h : ∀ w', St n F0 w0 a w' L Γ → wpZ P l.toArray Q (Hd Γs) Z l.length (List.replicate l.length false).toArray a w') : (Code.region id l.toArray true).wp P Q a w := c_draw Γs Z hm hS h
theorem Z_take {i fuel : Nat} {l : List Oper} {Γs : List Asn} {Z : List Nat} {listed listed' : List Bool} {v : Value} (hS : St n F0 w0 a w L Γ) (hi : l[i]? = some ⟨some d, op, ty, pos, af, g⟩) (hw : ∀ a, Sl n a L → Region.wanted ⟨some d, op, ty, pos, af, g⟩ (yielded l.toArray a.tmps) = true) (he : Ex P n a L Γs ⟨some d, op, ty, pos, af, g⟩ v)
 (hl : listed.set i true = listed') (hns : Region.noSelect l.toArray = true) (hf : Region.free .any l.toArray listed.toArray i = true) (hr : (Region.ready .any l.toArray listed.toArray).contains i = true) (hcl : closedB l.toArray listed.toArray = true) (hZ : waits l.toArray Z i = true)
 (hsub : ∀ X ∈ Γs, X ∈ Γ) (hQ : ∀ c a w, Q (.panic c) (a.put (some d) v) w → Q (.panic c) a w) (hn : Nat.blt d n.n = true)
 (h : ∀ a', St n F0 w0 a' w ((d, v) :: L) Γ → wpZ P l.toArray Q (Hd Γs) Z fuel listed'.toArray a' w) : wpZ P l.toArray Q (Hd Γs) Z (fuel + 1) listed.toArray a w := by
 have hi' : l.toArray[i]? = some ⟨some d, op, ty, pos, af, g⟩ := by simpa using hi
 refine wpZ_first hi' (Region.noSelect_spec hns) hQ hZ fuel _ a w (Region.free_spec hi' hf) (closed_of hcl) (by simpa using hr) (.inl ⟨hw a hS.sl, fun w' hh => he hS.sl w' hh⟩) (fun X hX => hS.get (hsub X hX)) ?_
 have := h _ (hS.put hn v)
 subst hl
 simpa using this
theorem Z_take0 {i fuel : Nat} {l : List Oper} {Γs : List Asn} {Z : List Nat} {listed listed' : List Bool} {v : Value} (hS : St n F0 w0 a w L Γ) (hi : l[i]? = some ⟨some d, op, ty, pos, af, g⟩) (hw : ∀ a, Sl n a L → Region.wanted ⟨some d, op, ty, pos, af, g⟩ (yielded l.toArray a.tmps) = true) (he : Ex P n a L [] ⟨some d, op, ty, pos, af, g⟩ v)
 (hl : listed.set i true = listed') (hns : Region.noSelect l.toArray = true) (hf : Region.free .any l.toArray listed.toArray i = true) (hr : (Region.ready .any l.toArray listed.toArray).contains i = true)
 (hQ : ∀ c a w, Q (.panic c) (a.put (some d) v) w → Q (.panic c) a w) (hn : Nat.blt d n.n = true)
 (h : ∀ a', St n F0 w0 a' w ((d, v) :: L) Γ → wpZ P l.toArray Q (Hd Γs) Z fuel listed'.toArray a' w) : wpZ P l.toArray Q (Hd Γs) Z (fuel + 1) listed.toArray a w := by
 have hi' : l.toArray[i]? = some ⟨some d, op, ty, pos, af, g⟩ := by simpa using hi
 refine wpZ_first0 hi' (Region.noSelect_spec hns) hQ fuel _ a w (Region.free_spec hi' hf) (by simpa using hr) (.inl ⟨hw a hS.sl, fun w' => he hS.sl w' (fun _ hX => by cases hX)⟩) ?_
 have := h _ (hS.put hn v)
 subst hl
 simpa using this
theorem Z_none_t {i j t fuel : Nat} {l : List Oper} {Γs : List Asn} {Z : List Nat} {listed listed' : List Bool} (hS : St n F0 w0 a w L Γ) (hi : l[i]? = some ⟨some d, op, ty, pos, af, some (j, true)⟩) (hj : opDst l j = some t) (hv : lk L t = some (.bool false))
 (hl : listed.set i true = listed') (hns : Region.noSelect l.toArray = true) (hf : Region.free .any l.toArray listed.toArray i = true) (hr : (Region.ready .any l.toArray listed.toArray).contains i = true)
 (hQ : ∀ c a w, Q (.panic c) (a.put (some d) undef) w → Q (.panic c) a w) (hn : Nat.blt d n.n = true)
 (h : ∀ a', St n F0 w0 a' w ((d, undef) :: L) Γ → wpZ P l.toArray Q (Hd Γs) Z fuel listed'.toArray a' w) : wpZ P l.toArray Q (Hd Γs) Z (fuel + 1) listed.toArray a w := by
 have hi' : l.toArray[i]? = some ⟨some d, op, ty, pos, af, some (j, true)⟩ := by simpa using hi
 refine wpZ_first0 hi' (Region.noSelect_spec hns) hQ fuel _ a w (Region.free_spec hi' hf) (by simpa using hr) (.inr ⟨by simp [Region.wanted, yielded_of hS.sl hj hv], rfl⟩) ?_
 have := h _ (hS.put hn undef)
 subst hl
 simpa using this
theorem Z_none_f {i j t fuel : Nat} {l : List Oper} {Γs : List Asn} {Z : List Nat} {listed listed' : List Bool} (hS : St n F0 w0 a w L Γ) (hi : l[i]? = some ⟨some d, op, ty, pos, af, some (j, false)⟩) (hj : opDst l j = some t) (hv : lk L t = some (.bool true))
 (hl : listed.set i true = listed') (hns : Region.noSelect l.toArray = true) (hf : Region.free .any l.toArray listed.toArray i = true) (hr : (Region.ready .any l.toArray listed.toArray).contains i = true)
 (hQ : ∀ c a w, Q (.panic c) (a.put (some d) undef) w → Q (.panic c) a w) (hn : Nat.blt d n.n = true)
 (h : ∀ a', St n F0 w0 a' w ((d, undef) :: L) Γ → wpZ P l.toArray Q (Hd Γs) Z fuel listed'.toArray a' w) : wpZ P l.toArray Q (Hd Γs) Z (fuel + 1) listed.toArray a w := by
 have hi' : l.toArray[i]? = some ⟨some d, op, ty, pos, af, some (j, false)⟩ := by simpa using hi
 refine wpZ_first0 hi' (Region.noSelect_spec hns) hQ fuel _ a w (Region.free_spec hi' hf) (by simpa using hr) (.inr ⟨by simp [Region.wanted, yielded_of hS.sl hj hv], rfl⟩) ?_
 have := h _ (hS.put hn undef)
 subst hl
 simpa using this
theorem Z_none_u {i j t fuel : Nat} {b : Bool} {l : List Oper} {Γs : List Asn} {Z : List Nat} {listed listed' : List Bool} (hS : St n F0 w0 a w L Γ) (hi : l[i]? = some ⟨some d, op, ty, pos, af, some (j, b)⟩) (hj : opDst l j = some t) (hv : lk L t = some undef)
 (hl : listed.set i true = listed') (hns : Region.noSelect l.toArray = true) (hf : Region.free .any l.toArray listed.toArray i = true) (hr : (Region.ready .any l.toArray listed.toArray).contains i = true)
 (hQ : ∀ c a w, Q (.panic c) (a.put (some d) undef) w → Q (.panic c) a w) (hn : Nat.blt d n.n = true)
 (h : ∀ a', St n F0 w0 a' w ((d, undef) :: L) Γ → wpZ P l.toArray Q (Hd Γs) Z fuel listed'.toArray a' w) : wpZ P l.toArray Q (Hd Γs) Z (fuel + 1) listed.toArray a w := by
 have hi' : l.toArray[i]? = some ⟨some d, op, ty, pos, af, some (j, b)⟩ := by simpa using hi
 refine wpZ_first0 hi' (Region.noSelect_spec hns) hQ fuel _ a w (Region.free_spec hi' hf) (by simpa using hr) (.inr ⟨by simp [Region.wanted, yielded_undef hS.sl hj hv], rfl⟩) ?_
 have := h _ (hS.put hn undef)
 subst hl
 simpa using this
theorem Z_one {i fuel : Nat} {l : List Oper} {Γs : List Asn} {Z : List Nat} {listed listed' : List Bool} (hi : l[i]? = some ⟨dst, op, ty, pos, af, g⟩) (hw : Region.wanted ⟨dst, op, ty, pos, af, g⟩ (yielded l.toArray a.tmps) = true) (hl : listed.set i true = listed') (hr : Region.ready .any l.toArray listed.toArray = [i])
 (h : OW P ⟨dst, op, ty, pos, af, g⟩ a w (fun a' w' => (Hd Γs w → i ∈ Z ∨ Hd Γs w') ∧ wpZ P l.toArray Q (Hd Γs) Z fuel listed'.toArray a' w') Q) : wpZ P l.toArray Q (Hd Γs) Z (fuel + 1) listed.toArray a w := by
 have hi' : l.toArray[i]? = some ⟨dst, op, ty, pos, af, g⟩ := by simpa using hi
 refine ⟨fun h0 => (by rw [hr] at h0; cases h0), fun j hj => ?_⟩
 rw [hr] at hj
 obtain rfl := List.mem_singleton.1 hj
 unfold wpOp
 simp only [hi']
 rw [if_pos hw]
 subst hl
 refine .inl ?_
 have h := h.h
 simpa using h
theorem Z_done {l : List Oper} {Γs : List Asn} {Z : List Nat} {listed : List Bool} (hr : Region.ready .any l.toArray listed.toArray = []) (h : Q .normal a w) : wpZ P l.toArray Q (Hd Γs) Z 0 listed.toArray a w := ⟨hr, h⟩
theorem Z_and {i : Nat} {Γs : List Asn} {Z : List Nat} {G S0 : Prop} (hS : St n F0 w0 a w L Γ) (hsub : ∀ X ∈ Γs, X ∈ Γ) (h : G) : (S0 → i ∈ Z ∨ Hd Γs w) ∧ G := ⟨fun _ => .inr fun X hX => hS.get (hsub X hX), h⟩
theorem Z_last {i : Nat} {Γs : List Asn} {Z : List Nat} {G S0 : Prop} (hi : i ∈ Z) (h : G) : (S0 → i ∈ Z ∨ Hd Γs w) ∧ G := ⟨fun _ => .inl hi, h⟩
theorem want_none (b : Act) (_h : Sl n b L) : Region.wanted ⟨dst, op, ty, pos, af, none⟩ (yielded l.toArray b.tmps) = true := rfl
theorem want_go {j t : Nat} {c : Bool} (hj : opDst l j = some t) (hv : lk L t = some (.bool c)) (b : Act) (h : Sl n b L) : Region.wanted ⟨dst, op, ty, pos, af, some (j, c)⟩ (yielded l.toArray b.tmps) = true := by
 simp [Region.wanted, yielded_of h hj hv]
end
end Go.Proofs.YtlccmgeclhdegaaGreatDoor
namespace Go.Proofs.YtlccmgeclhdegaaGreatDoor
open Go.RowKit
section
variable {P : Program} {n : NN} {F0 : Nat → Prop} {w0 : World} {a : Act} {w : World} {L : List (Nat × Value)} {Γ : List Asn}
variable {K : Act → World → Prop} {Q : Exit → Act → World → Prop} {d ty : Nat} {dst : Option Tmp} {pos : String} {af : Array Edge} {g : Option (Nat × Bool)}
theorem sliceT_eq {T E : TypeId} (h : sliceT P T = some E) : P.underlying T = some (.slice E) := by
 unfold sliceT at h; cases hi : P.underlying T with
 | none => simp [hi] at h
 | some D => cases D <;> simp_all
theorem info_of {E s b : Nat} {zs : List Value} (h1 : szOf P E = some s) (h2 : byOf P E = some b) (h3 : zeroOf P E = some zs) :
 ∃ i z, P.info? E = some i ∧ i.zero = some z ∧ i.size = s ∧ i.bytes = b ∧ z.cells = zs.toArray := by
 unfold szOf at h1; unfold byOf at h2; unfold zeroOf at h3
 cases hi : P.info? E with
 | none => simp [hi] at h1
 | some i =>
   cases hz : i.zero with
   | none => simp [hi, hz] at h3
   | some z => simp [hi, hz] at h1 h2 h3; exact ⟨i, z, rfl, hz, h1, h2, by simp [← h3]⟩
theorem e_ix {T E s b off m c : Nat} {x y : Operand} {k : IntKind} {i : Int} (hx : ev L x = some (.slice (some ⟨b, off, none⟩) m c)) (hy : ev L y = some (.int k i)) (hT : sliceT P T = some E) (hs : szOf P E = some s)
 (hi : 0 ≤ i ∧ i < m) : Ex P n a L Γ ⟨dst, .indexAddr T x y, ty, pos, af, g⟩ (.pointer (some ⟨b, off + i.toNat * s, none⟩)) := fun hs' w _ => by
 simp [execOp, hs'.ev hx, hs'.ev hy, Instr.indexAt, asIntOf, underlying, sliceT_eq hT, hi.1, hi.2, sizeOf_run hs, addr_add]
theorem e_ixN {T E s b off m c : Nat} {x y : Operand} {k : IntKind} {i : Nat} (hx : ev L x = some (.slice (some ⟨b, off, none⟩) m c)) (hy : ev L y = some (.int k (i : Int))) (hT : sliceT P T = some E) (hs : szOf P E = some s)
 (hi : i < m) : Ex P n a L Γ ⟨dst, .indexAddr T x y, ty, pos, af, g⟩ (.pointer (some ⟨b, off + i * s, none⟩)) := by
 have h := e_ix (P := P) (n := n) (a := a) (Γ := Γ) (dst := dst) (ty := ty) (pos := pos) (af := af) (g := g) hx hy hT hs (by omega)
 rwa [Int.toNat_natCast] at h
theorem e_ixS {T : Nat} {x y : Operand} {k : IntKind} {i : Int} {s : ByteArray} (hx : ev L x = some (.string s)) (hy : ev L y = some (.int k i)) (hT : P.underlying T = some .string)
 (hi : 0 ≤ i ∧ i < s.size) : Ex P n a L Γ ⟨dst, .index T x y, ty, pos, af, g⟩ (.int .u8 ((s.data.toList.getD i.toNat 0).toNat : Int)) := fun hs' w _ => by
 have h := run_index_string (P := P) (w := w) T s k i hT
 rw [dif_pos hi] at h
 have e : s.data.toList.getD i.toNat 0 = s[i.toNat]'(by omega) := by
  have hl : i.toNat < s.data.toList.length := by have := hi.2; simp; omega
  rw [List.getD_eq_getElem?_getD, List.getElem?_eq_getElem hl]; rfl
 rw [e]
 simp [execOp, hs'.ev hx, hs'.ev hy, h]
def RowAt (b off s : Nat) (xs : List (List Value)) (w : World) : Prop :=
 ∀ i x, xs[i]? = some x → ∀ j v, x[j]? = some v → w.cell? ⟨b, off + i * s + j, none⟩ = some v
def ownA (E s : Nat) (v : Value) (m : Nat) (xs : List Value) : Asn := .any (fun k => v.ownBlock = some k) (fun w => w.ownsRow 0 E s v m xs) true
theorem ok_own {w : World} {E s : Nat} {v : Value} {m : Nat} {xs : List Value} (h : w.ownsRow 0 E s v m xs) : (ownA E s v m xs).ok w := by
 refine ⟨fun b hb => (h.lt b hb).2, fun w' hw => ?_⟩
 refine ⟨h.1, h.2.imp id ?_⟩
 rintro ⟨g, cap, cur, rfl, h1, h2, h3⟩
 exact ⟨g, cap, cur, rfl, h1, by rw [hw g rfl]; exact h2, h3⟩
theorem own_nil (w : World) (E s : Nat) : (ownA E s (.slice none 0 0) 0 []).ok w := ok_own (World.ownsRow_nil w 0 E s)
theorem St.more (h : St n F0 w0 a w L Γ) {Y : Asn} (hY : Y.ok w) (hnew : ∀ b, Y.F b → False) : St n F0 w0 a w L (Y :: Γ) :=
 h.fresh (Chg.refl _ _) hY (fun b hb => (hnew b hb).elim)
theorem St.own_nil (h : St n F0 w0 a w L Γ) (E s : Nat) : St n F0 w0 a w L (ownA E s (.slice none 0 0) 0 [] :: Γ) :=
 h.more (Go.Proofs.YtlccmgeclhdegaaGreatDoor.own_nil w E s) (fun b hb => by simp [ownA, Asn.F, Value.ownBlock] at hb)
theorem Chg.grown {w w' : World} {v : Value} (h : w.grownBy w' v.ownBlock) : Chg (fun k => v.ownBlock = some k) w w' :=
 ⟨h.os, h.tape, h.output, h.size, fun k hk hn => h.block k hk (fun e => hn e.symm)⟩
theorem Chg.grown0 {w w' : World} (h : w.grownBy w' none) : Chg noB w w' :=
 ⟨h.os, h.tape, h.output, h.size, fun k hk _ => h.block k hk (by simp)⟩
theorem own_slice {w : World} {E s : Nat} {v : Value} {m : Nat} {xs : List Value} (h : w.ownsRow 0 E s v m xs) : ∃ p c, v = .slice p m c := by
 rcases h.2 with ⟨rfl, rfl⟩ | ⟨g, cap, cur, rfl, _⟩
 · exact ⟨none, 0, rfl⟩
 · exact ⟨_, _, rfl⟩
theorem append_own {t ty e : TypeId} {i : TypeInfo} {z : Value} {size bytes : Nat} (ht : P.underlying t = some (.slice e)) (hi : P.info? e = some i) (hz : i.zero = some z)
 (hsize : i.size = size) (hby : i.bytes = bytes) (hzs : z.cells.size = size) (hsz : 0 < size)
 {v : Value} {m : Nat} {xs : List Value} (hown : w.ownsRow 0 e size v m xs) {ad : Addr} {k c : Nat} {news : List Value} (hl : news.length = k * size) (hnews : ∀ j u, news[j]? = some u → w.cell? (ad.add j) = some u) (h1 : ∀ u ∈ news, u.oneCell' = true)
 (h63 : m + k ≤ 4611686018427387904) (hbytes : (m + k) * bytes ≤ 140737488355328) :
 ∃ v' w', (Builtin.append_ #[t, t] ty #[v, .slice (some ad) k c]).run P w = .ok v' w' ∧ w'.ownsRow 0 e size v' (m + k) (xs ++ news) ∧ w.grownBy w' v.ownBlock ∧
  (∀ q, v'.ownBlock = some q → v.ownBlock = some q ∨ w.heap.size ≤ q) ∧ (v' = .slice none 0 0 ↔ v = .slice none 0 0 ∧ k = 0) := by
 obtain ⟨v', w', hrun, hown', hgr, hnil⟩ := run_append_own (P := P) w 0 t ty e i z size bytes ht hi hz hsize hby hzs hsz v m xs hown ad k c news hl hnews h1 (by unfold maxLen; omega) hbytes (Nat.zero_le _)
 refine ⟨v', w', hrun, hown', hgr, ?_, hnil⟩
 subst hsize
 subst hby
 rcases hown.2 with ⟨rfl, rfl⟩ | ⟨g, cap, cur, rfl, _, hg, hnc, hcm, hcs, htake⟩
 · by_cases hk : k = 0
   · intro q hq; rw [hnil.2 ⟨rfl, hk⟩] at hq; simp [Value.ownBlock] at hq
   · have hr := run_append_nil (P := P) w t ty e i z ht hi hz ad k c news hl hnews (by omega) (by omega) (by simp only [Nat.zero_add] at hbytes; omega)
     have := hrun.symm.trans hr
     injection this with e1 _
     intro q hq; rw [e1] at hq; simp [Value.ownBlock] at hq; right; omega
 · by_cases hroom : m + k ≤ cap
   · have hfit : m * i.size + news.length ≤ cur.size := by rw [hl, hcs, ← Nat.add_mul]; exact Nat.mul_le_mul_right _ hroom
     have hr := run_append_room (P := P) w t ty e i ht hi g m cap cur hg ad k c news hl hnews h1 hroom hfit
     have := hrun.symm.trans hr
     injection this with e1 _
     intro q hq; rw [e1] at hq; left; simpa [Value.ownBlock] using hq
   · have holds : ∀ j u, xs[j]? = some u → w.cell? ((⟨g, 0, none⟩ : Addr).add j) = some u := hown.cells (g := g) rfl
     have hr := run_append_grow (P := P) w t ty e i z ht hi hz ⟨g, 0, none⟩ m cap xs hown.1 holds ad k c news hl hnews (by omega) (by omega) (growslice_fits (by omega) hbytes)
     have := hrun.symm.trans hr
     injection this with e1 _
     intro q hq; rw [e1] at hq; simp [Value.ownBlock] at hq; right; omega
theorem s_append {T E s b : Nat} {zs : List Value} {x y : Operand} {v : Value} {m bx ox k c : Nat} {cs ys : List Value} {Γ' : Value → List Asn} (hS : St n F0 w0 a w L Γ) (hx : ev L x = some v) (hy : ev L y = some (.slice (some ⟨bx, ox, none⟩) k c))
 (hT : sliceT P T = some E) (hs : szOf P E = some s) (hb : byOf P E = some b) (hz : zeroOf P E = some zs) (hzl : Nat.beq zs.length s = true) (hs0 : Nat.blt 0 s = true) (hn : Nat.blt d n.n = true)
 (hm : ownA E s v m cs ∈ Γ) (hyl : ys.length = k * s) (hys : ∀ j u, ys[j]? = some u → w.cell? ⟨bx, ox + j, none⟩ = some u) (h1 : ∀ u ∈ ys, isOne u = true) (hbd : (m + k) * b ≤ 140737488355328 ∧ m + k ≤ 4611686018427387904)
 (hr : ∀ v', Rep (ownA E s v m cs) (ownA E s v' (m + k) (cs ++ ys)) Γ (Γ' v'))
 (h : ∀ v' a' w', (v' = .slice none 0 0 ↔ v = .slice none 0 0 ∧ k = 0) → St n F0 w0 a' w' ((d, v') :: L) (Γ' v') → K a' w') : OW P ⟨some d, .call ⟨.builtin .append, #[x, y], #[T, T]⟩, ty, pos, af, g⟩ a w K Q := by
 obtain ⟨i, z, hi, hz', hsz, hby, hzc⟩ := info_of hs hb hz
 have hown : w.ownsRow 0 E s v m cs := hS.get hm
 have e1 := Nat.eq_of_beq_eq_true hzl
 have e2 : 0 < s := by simpa using hs0
 obtain ⟨v', w', hrun, hown', hgr, hblk, hnil⟩ := append_own (P := P) (ty := ty) (sliceT_eq hT) hi hz' hsz hby (by rw [hzc]; simpa using e1) e2 hown (ad := ⟨bx, ox, none⟩) (c := c) hyl
  (fun j u hj => by rw [addr_add]; exact hys j u hj) (fun u hu => isOne_oneCell (h1 u hu)) hbd.2 hbd.1
 have he : (execOp a.eval (⟨some d, .call ⟨.builtin .append, #[x, y], #[T, T]⟩, ty, pos, af, g⟩ : Oper)).run P w = .ok (.value v') w' := by
  simp [execOp, resolve, invoke, builtin, hS.sl.ev hx, hS.sl.ev hy, hrun]
 refine ⟨?_⟩
 unfold Oper.wp
 rw [he]
 exact h v' _ _ hnil ((hS.upd (hr v') (Chg.grown hgr) (ok_own hown') (fun k hk => hblk k hk) rfl).put hn _)
theorem s_append1 {T E s b : Nat} {zs : List Value} {x y : Operand} {v : Value} {m bx k c Ex : Nat} {cs ys : List Value} {Γ' : Value → List Asn} (hS : St n F0 w0 a w L Γ) (hx : ev L x = some v) (hy : ev L y = some (.slice (some ⟨bx, 0, none⟩) k c))
 (hT : sliceT P T = some E) (hs : szOf P E = some s) (hb : byOf P E = some b) (hz : zeroOf P E = some zs) (hzl : Nat.beq zs.length s = true) (hs0 : Nat.blt 0 s = true) (hn : Nat.blt d n.n = true)
 (hm : ownA E s v m cs ∈ Γ) (hbx : Asn.blk bx ys Ex ∈ Γ) (hyl : Nat.beq ys.length (k * s) = true) (h1 : ys.all isOne = true) (hr : ∀ v', Rep (ownA E s v m cs) (ownA E s v' (m + k) (cs ++ ys)) Γ (Γ' v')) (hbd : (m + k) * b ≤ 140737488355328 ∧ m + k ≤ 4611686018427387904)
 (h : ∀ v' a' w', (v' = .slice none 0 0 ↔ v = .slice none 0 0 ∧ k = 0) → St n F0 w0 a' w' ((d, v') :: L) (Γ' v') → K a' w') : OW P ⟨some d, .call ⟨.builtin .append, #[x, y], #[T, T]⟩, ty, pos, af, g⟩ a w K Q :=
 s_append hS hx hy hT hs hb hz hzl hs0 hn hm (Nat.eq_of_beq_eq_true hyl) (fun j u hj => by rw [Nat.zero_add]; exact cell_of_blk (hS.get hbx) hj) (by simpa using h1) hbd hr h
def mapT (P : Program) (T : TypeId) : Option (TypeId × TypeId) := match P.underlying T with | some (.map k e) => some (k, e) | _ => none
theorem mapT_eq {T K E : TypeId} (h : mapT P T = some (K, E)) : P.underlying T = some (.map K E) := by
 unfold mapT at h; cases hi : P.underlying T with
 | none => simp [hi] at h
 | some D => cases D <;> simp_all
def plainKey : TypeDesc → Bool
 | .int _ | .string | .bool => true
 | _ => false
theorem checkKey_plain {t : TypeId} {D : TypeDesc} (h : P.underlying t = some D) (hp : plainKey D = true) (em : Bool) (m : Nat) (v : Value) : (Instr.checkKey em (m + 1) t v).run P w = .ok () w := by
 cases D <;> simp [plainKey] at hp <;> simp [Instr.checkKey, underlying, h]
theorem s_makeMap {T : TypeId} (hS : St n F0 w0 a w L Γ) (hn : Nat.blt d n.n = true)
 (h : ∀ a' w' b, St n F0 w0 a' w' ((d, .map (some b)) :: L) (.mp b [] 0 :: Γ) → K a' w') : OW P ⟨some d, .makeMap T none, ty, pos, af, g⟩ a w K Q := by
 have he : (execOp a.eval (⟨some d, .makeMap T none, ty, pos, af, g⟩ : Oper)).run P w = .ok (.value (.map (some w.heap.size))) (w.alloc (.map #[] 0)) := by
  simp [execOp, Instr.makeMap]
 refine ⟨?_⟩
 unfold Oper.wp
 rw [he]
 refine h _ _ w.heap.size ((hS.fresh (Chg.alloc _ _ _) (Y := .mp w.heap.size [] 0) ⟨fun b hb => ?_, fun w' hw => ?_⟩ ?_).put hn _)
 · obtain rfl : b = w.heap.size := hb; simp
 · show w'.heap[w.heap.size]? = _
   rw [hw _ rfl]; show (w.heap.push _)[w.heap.size]? = _
   simp
 · intro b hb; obtain rfl : b = w.heap.size := hb; exact Nat.le_refl _
theorem s_make0 {T E s b : Nat} {zs : List Value} {x y : Operand} {k k' : IntKind} {c : Nat} (hS : St n F0 w0 a w L Γ) (hx : ev L x = some (.int k 0)) (hy : ev L y = some (.int k' (c : Int)))
 (hT : sliceT P T = some E) (hs : szOf P E = some s) (hb : byOf P E = some b) (hz : zeroOf P E = some zs) (hn : Nat.blt d n.n = true) (hbd : b * c ≤ 281474976710656 ∧ c ≤ 4611686018427387904)
 (h : ∀ b' a' w', St n F0 w0 a' w' ((d, .slice (some ⟨b', 0, none⟩) 0 c) :: L) (ownA E s (.slice (some ⟨b', 0, none⟩) 0 c) 0 [] :: Γ) → K a' w') : OW P ⟨some d, .makeSlice T x y, ty, pos, af, g⟩ a w K Q := by
 obtain ⟨i, z, hi, hz', hsz, hby, hzc⟩ := info_of hs hb hz
 obtain ⟨w', hrun, hown, hgr⟩ := run_make_own (P := P) w 0 T E i z s (sliceT_eq hT) hi hz' hsz k k' c (by rw [hby]; exact hbd.1) (by unfold maxLen; omega) (Nat.zero_le _)
 have he : (execOp a.eval (⟨some d, .makeSlice T x y, ty, pos, af, g⟩ : Oper)).run P w = .ok (.value (.slice (some ⟨w.heap.size, 0, none⟩) 0 c)) w' := by
  simp [execOp, hS.sl.ev hx, hS.sl.ev hy, hrun]
 refine ⟨?_⟩
 unfold Oper.wp
 rw [he]
 exact h _ _ _ ((hS.fresh (Chg.grown0 hgr) (ok_own hown) (fun q hq => by
   have : Value.ownBlock (.slice (some ⟨w.heap.size, 0, none⟩) 0 c) = some q := hq
   simp [Value.ownBlock] at this; omega)).put hn _)
def setL : List Value → Nat → List Value → List Value
 | l, _, [] => l
 | l, off, v :: vs => setL (l.set off v) (off + 1) vs
theorem fold_set (off : Nat) (vs : List Value) (k : Nat) (cs : Array Value) :
 (vs.toArray.zipIdx k).foldl (fun cs (c, j) => cs.setIfInBounds (off + j) c) cs = (setL cs.toList (off + k) vs).toArray := by
 rw [Array.zipIdx_toArray, List.foldl_toArray]
 induction vs generalizing k cs with
 | nil => simp [setL]
 | cons v vs ih =>
   rw [List.zipIdx_cons, List.foldl_cons, ih]
   simp only [setL, Array.toList_setIfInBounds, Nat.add_assoc]
theorem setL_full : ∀ (vs pre old : List Value), old.length = vs.length → setL (pre ++ old) pre.length vs = pre ++ vs := by
 intro vs
 induction vs with
 | nil => intro pre old h; have : old = [] := by simpa using h
          subst this; rfl
 | cons v vs ih =>
   intro pre old h
   cases old with
   | nil => simp at h
   | cons o old =>
     have := ih (pre ++ [v]) old (by simpa using h)
     simp only [setL]
     rw [show (pre ++ o :: old).set pre.length v = (pre ++ [v]) ++ old by simp]
     simpa using this
inductive UpdA : List Value → Nat → List Value → List Value → Prop
 | nil {cs : List Value} {k : Nat} : UpdA cs k [] cs
 | cons {cs cs1 cs2 vs : List Value} {k : Nat} {v : Value} (h : Upd cs k v cs1) (t : UpdA cs1 (k + 1) vs cs2) : UpdA cs k (v :: vs) cs2
theorem UpdA.eq {cs vs cs' : List Value} {k : Nat} (h : UpdA cs k vs cs') : cs' = setL cs k vs ∧ (vs = [] ∨ k + vs.length ≤ cs.length) := by
 induction h with
 | nil => exact ⟨rfl, .inl rfl⟩
 | cons h _ ih =>
   obtain ⟨rfl, h2⟩ := h.eq
   refine ⟨by rw [ih.1]; rfl, .inr ?_⟩
   rcases ih.2 with rfl | h3
   · simp; omega
   · simp at h3 ⊢; omega
def nthP : List (Nat × Nat) → Nat → Option (Nat × Nat)
 | [], _ => none
 | v :: l, i => bif Nat.beq i 0 then some v else nthP l (i - 1)
theorem nthP_eq (l : List (Nat × Nat)) (i : Nat) : nthP l i = l[i]? := by
 induction l generalizing i with
 | nil => simp [nthP]
 | cons v l ih =>
   cases i with
   | zero => simp [nthP]
   | succ i => exact (ih i).trans (by simp)
inductive FillR (L : List (Nat × Value)) (pl : List (Nat × Nat)) : List Value → List (Nat × Operand) → List Value → Prop
 | nil {cs : List Value} : FillR L pl cs [] cs
 | one {cs cs1 l : List Value} {i off : Nat} {x : Operand} {v : Value} {r : List (Nat × Operand)} (hx : ev L x = some v) (h1 : isOne v = true) (hp : nthP pl i = some (off, 1)) (hu : Upd cs off v cs1) (t : FillR L pl cs1 r l) : FillR L pl cs ((i, x) :: r) l
 | agg {cs cs1 l vs : List Value} {i off m : Nat} {x : Operand} {r : List (Nat × Operand)} (hx : ev L x = some (.agg vs.toArray)) (hp : nthP pl i = some (off, m)) (hl : Nat.beq vs.length m = true) (hm : Nat.blt 0 m = true) (hu : UpdA cs off vs cs1) (t : FillR L pl cs1 r l) : FillR L pl cs ((i, x) :: r) l
theorem fill_cons {place : Nat → Option (Nat × Nat)} {cells : Array Value} {i off size : Nat} {v : Value} {rest : List (Nat × Value)} {vs : List Value} (hp : place i = some (off, size)) (hc : v.cells = vs.toArray) (h1 : vs.length = size) (h2 : off + vs.length ≤ cells.size) :
 Instr.fill place cells ((i, v) :: rest) = Instr.fill place (setL cells.toList off vs).toArray rest := by
 have hf := fold_set off vs 0 cells
 have h3 : ¬ off + vs.length > cells.size := by omega
 simp only [Instr.fill, hp, hc, hf, Nat.add_zero]
 simp [h1] at h3 ⊢
 omega
theorem FillR.run {pl : List (Nat × Nat)} {cs l : List Value} {r : List (Nat × Operand)} (hs : Sl n a L) (h : FillR L pl cs r l) {place : Nat → Option (Nat × Nat)} (hp : ∀ i, place i = pl[i]?) :
 Instr.fill place cs.toArray (r.map fun p => (p.1, a.eval p.2)) = some l.toArray := by
 induction h with
 | nil => simp [Instr.fill]
 | @one cs cs1 l i off x v r hx h1 hp' hu _ ih =>
   obtain ⟨e1, e2⟩ := hu.eq
   rw [nthP_eq] at hp'
   rw [List.map_cons, hs.ev hx, fill_cons (vs := [v]) (off := off) (size := 1) (by rw [hp, hp']) (isOne_cells h1) rfl (by simp; omega)]
   rw [e1] at ih; exact ih
 | @agg cs cs1 l vs i off m x r hx hp' hl hm hu _ ih =>
   obtain ⟨e1, e2⟩ := hu.eq
   have e3 := Nat.eq_of_beq_eq_true hl
   have e4 : 0 < m := by simpa using hm
   rw [nthP_eq] at hp'
   have e5 : off + vs.length ≤ cs.length := by
    rcases e2 with rfl | e2
    · simp at e3; omega
    · exact e2
   rw [List.map_cons, hs.ev hx, fill_cons (vs := vs) (by rw [hp, hp']) rfl e3 (by simpa using e5)]
   rw [← e1]; exact ih
theorem places_list : ∀ (fs : List Field) (pl : List (Nat × Nat)) (w : World), (fs.mapM fun f => (szOf P f.type).map fun s => (f.offset, s)) = some pl →
 (fs.mapM fun f => do pure (f.offset, ← Go.sizeOf f.type) : Sem (List (Nat × Nat))).run P w = .ok pl w := by
 intro fs
 induction fs with
 | nil => intro pl w h; simp at h; subst h; rfl
 | cons f fs ih =>
   intro pl w h
   simp only [List.mapM_cons] at h
   cases hz : szOf P f.type with
   | none => simp [hz] at h
   | some m =>
     cases hr : (fs.mapM fun f => (szOf P f.type).map fun s => (f.offset, s)) with
     | none => simp [hz, hr] at h
     | some r =>
       simp [hz, hr] at h; subst h
       have ih' := ih r w hr
       rw [List.mapM_cons, Sem.run_bind]
       rw [show ((do pure (f.offset, ← Go.sizeOf f.type) : Sem (Nat × Nat))).run P w = .ok (f.offset, m) w by simp [sizeOf_run hz]]
       simp only [Result.andThen_ok, Sem.run_bind]
       rw [ih']; rfl
theorem places_run {t : TypeId} {pl : List (Nat × Nat)} (h : placesOf P t = some pl) (w : World) : ∃ fs : Array Field, P.underlying t = some (.struct fs) ∧
 (fs.mapM fun f => do pure (f.offset, ← Go.sizeOf f.type) : Sem (Array (Nat × Nat))).run P w = .ok pl.toArray w := by
 unfold placesOf at h
 cases hi : P.underlying t with
 | none => simp [hi] at h
 | some D =>
   cases D <;> simp [hi] at h
   rename_i fs
   refine ⟨fs, rfl, ?_⟩
   obtain ⟨fs⟩ := fs
   simp only at h
   rw [show (⟨fs⟩ : Array Field) = fs.toArray from rfl, List.mapM_toArray, Sem.run_map]
   rw [places_list fs pl w h]; rfl
theorem e_build {T : Nat} {zs l : List Value} {pl : List (Nat × Nat)} {r : List (Nat × Operand)} (hz : zeroOf P T = some zs) (hp : placesOf P T = some pl) (hf : FillR L pl zs r l) : Ex P n a L Γ ⟨dst, .build T r.toArray, ty, pos, af, g⟩ (.agg l.toArray) := fun hs w _ => by
 obtain ⟨z, hz1, hz2⟩ := zero_run hz w
 obtain ⟨fs, hu, hrun⟩ := places_run hp w
 have h := hf.run hs (place := fun i => pl.toArray[i]?) (fun i => by simp)
 have hb : (Instr.build T (r.toArray.map fun (i, x) => (i, a.eval x))).run P w = .ok (.agg l.toArray) w := by
  simp only [Instr.build, Sem.run_bind, hz1, Result.andThen_ok, hz2, underlying, run_program, hu, Sem.run_pure]
  rw [hrun]
  simp only [Result.andThen_ok]
  rw [show (r.toArray.map fun (i, x) => (i, a.eval x)).toList = r.map fun p => (p.1, a.eval p.2) by simp]
  rw [h]; rfl
 unfold execOp
 show ((do pure (.value (← Instr.build T (r.toArray.map fun (i, x) => (i, a.eval x)))) : Sem Next)).run P w = _
 rw [Sem.run_bind, hb]; rfl
inductive PartsR (L : List (Nat × Value)) (m : Nat) : Nat → List (Nat × Operand) → List Value → Prop
 | nil {k : Nat} : PartsR L m k [] []
 | agg {k : Nat} {l vs : List Value} {x : Operand} {r : List (Nat × Operand)} (hx : ev L x = some (.agg l.toArray)) (hl : Nat.beq l.length m = true) (t : PartsR L m (k + 1) r vs) : PartsR L m k ((k, x) :: r) (l ++ vs)
 | one {k : Nat} {v : Value} {vs : List Value} {x : Operand} {r : List (Nat × Operand)} (hx : ev L x = some v) (h1 : isOne v = true) (hm : Nat.beq m 1 = true) (t : PartsR L m (k + 1) r vs) : PartsR L m k ((k, x) :: r) (v :: vs)
theorem PartsR.run {m k : Nat} {r : List (Nat × Operand)} {vs : List Value} (hs : Sl n a L) (h : PartsR L m k r vs) : ∀ (pre old : List Value), pre.length = k * m → old.length = r.length * m →
 Instr.fill (fun i => some (i * m, m)) (pre ++ old).toArray (r.map fun p => (p.1, a.eval p.2)) = some (pre ++ vs).toArray ∧ vs.length = r.length * m := by
 induction h with
 | nil => intro pre old h1 h2; have : old = [] := by simpa using h2
          subst this; simp [Instr.fill]
 | @agg k l vs x r hx hl _ ih =>
   intro pre old h1 h2
   have e1 := Nat.eq_of_beq_eq_true hl
   have h3 : old.length = m + r.length * m := by rw [h2, List.length_cons, Nat.add_mul, Nat.one_mul, Nat.add_comm]
   obtain ⟨o1, o2, rfl, ho⟩ : ∃ o1 o2, old = o1 ++ o2 ∧ o1.length = m := ⟨old.take m, old.drop m, by simp, by simp; omega⟩
   have hfull := setL_full l pre o1 (by omega)
   have hgen : ∀ (vs x y : List Value) (q : Nat), q + vs.length ≤ x.length → setL (x ++ y) q vs = setL x q vs ++ y := by
    intro vs
    induction vs with
    | nil => intro x y q _; rfl
    | cons v vs ih2 =>
      intro x y q hq
      simp only [setL]
      rw [List.set_append_left _ _ (by simp at hq; omega)]
      exact ih2 _ _ _ (by simp at hq ⊢; omega)
   obtain ⟨i1, i2⟩ := ih (pre ++ l) o2 (by simp [h1, e1, Nat.add_mul]) (by simp at h3; omega)
   refine ⟨?_, by simp [i2, e1, Nat.add_mul]; omega⟩
   rw [List.map_cons, hs.ev hx, fill_cons (vs := l) (off := k * m) (size := m) rfl rfl e1 (by simp; simp at h3; omega)]
   rw [← h1, ← List.append_assoc, hgen l (pre ++ o1) o2 pre.length (by simp; omega), hfull]
   simpa using i1
 | @one k v vs x r hx h1' hm _ ih =>
   intro pre old h1 h2
   have e1 : m = 1 := Nat.eq_of_beq_eq_true hm
   subst e1
   cases old with
   | nil => simp at h2
   | cons o old =>
     obtain ⟨i1, i2⟩ := ih (pre ++ [v]) old (by simp at h1 ⊢; omega) (by simp at h2 ⊢; omega)
     refine ⟨?_, by simp at i2 ⊢; omega⟩
     rw [List.map_cons, hs.ev hx, fill_cons (vs := [v]) (off := k * 1) (size := 1) rfl (isOne_cells h1') rfl (by simp at h1 ⊢; omega)]
     simp only [setL]
     have : k * 1 = pre.length := by omega
     rw [this, show (pre ++ o :: old).set pre.length v = (pre ++ [v]) ++ old by simp]
     simpa using i1
theorem s_bslice {T E m q : Nat} {zs vs : List Value} {r : List (Nat × Operand)} (hS : St n F0 w0 a w L Γ) (hT : sliceT P T = some E) (hs : szOf P E = some m) (hz : zeroOf P E = some zs) (hzl : Nat.beq zs.length m = true) (hm : Nat.blt 0 m = true) (hm2 : Nat.ble (q * m) 16777216 = true) (hq : Nat.beq r.length q = true) (hp : PartsR L m 0 r vs) (hn : Nat.blt d n.n = true)
 (h : ∀ a' w' b, St n F0 w0 a' w' ((d, .slice (some ⟨b, 0, none⟩) q q) :: L) (.blk b vs E :: Γ) → K a' w') : OW P ⟨some d, .buildSlice T q r.toArray, ty, pos, af, g⟩ a w K Q := by
 have e2 := Nat.eq_of_beq_eq_true hzl
 have e3 : 0 < m := by simpa using hm
 have e4 := Nat.le_of_ble_eq_true hm2
 have e5 := Nat.eq_of_beq_eq_true hq
 obtain ⟨z, hz1, hz2⟩ := zero_run hz w
 have hfill : ∀ cs : Array Value, cs.size = q * m → Instr.fill (fun i => some (i * m, m)) cs (r.map fun p => (p.1, a.eval p.2)) = some vs.toArray := fun cs hc => by
  have := (hp.run hS.sl [] cs.toList (by simp) (by simp [hc, e5])).1
  simpa using this
 have he : (execOp a.eval (⟨some d, .buildSlice T q r.toArray, ty, pos, af, g⟩ : Oper)).run P w = .ok (.value (.slice (some ⟨w.heap.size, 0, none⟩) q q)) (w.alloc (.cells vs.toArray E)) := by
  by_cases h0 : q * m = 0
  · simp [execOp, Instr.buildSlice, underlying, sliceT_eq hT, sizeOf_run hs, h0, newRow]
    rw [hfill _ (by simp [h0])]; rfl
  · have h5 : ¬ (16777216 < q * m) := by omega
    simp [execOp, Instr.buildSlice, underlying, sliceT_eq hT, sizeOf_run hs, h0, h5, newRow, hz1, hz2]
    rw [hfill _ (by simp)]; rfl
 refine ⟨?_⟩
 unfold Oper.wp
 rw [he]
 refine h _ _ w.heap.size ((hS.fresh (Chg.alloc _ _ _) (Y := .blk w.heap.size vs E) (ok_blk ?_) ?_).put hn _)
 · show (w.heap.push _)[w.heap.size]? = _
   simp
 · intro b hb; obtain rfl : b = w.heap.size := hb; exact Nat.le_refl _
theorem e_cat {t t' : TypeId} {x y : Operand} {i j : ByteArray} (hx : ev L x = some (.string i)) (hy : ev L y = some (.string j)) (hb : i.size + j.size ≤ 9223372036854775807) :
 Ex P n a L Γ ⟨dst, .binOp .add t x y t', ty, pos, af, g⟩ (.string (i ++ j)) := fun hs w _ => by
 have h := run_string_add_sum (P := P) (w := w) i j hb
 simp [execOp, hs.ev hx, hs.ev hy, eqGuard, binOp, h]
theorem e_slS {T : Nat} {x y z : Operand} {s : ByteArray} {k k' : IntKind} {i j : Int} (hx : ev L x = some (.string s)) (hy : ev L y = some (.int k i)) (hz : ev L z = some (.int k' j)) (hT : P.underlying T = some .string) (hb : 0 ≤ i ∧ i ≤ j ∧ j ≤ s.size) :
 Ex P n a L Γ ⟨dst, .slice T x (some y) (some z) none, ty, pos, af, g⟩ (.string (s.extract i.toNat j.toNat)) := fun hs w _ => by
 have h := run_slice_string (P := P) (w := w) T s k k' i j hT hb.1 hb.2.1 hb.2.2
 have h2 := run_sliceAt_string (P := P) (w := w) T (.string s) (some (.int k i)) (some (.int k' j)) none hT
 simp [execOp, hs.ev hx, hs.ev hy, hs.ev hz, h2, h]
theorem e_convN {t t' : TypeId} {x : Operand} {k : IntKind} {i : Int} {D : TypeDesc} (hx : ev L x = some (.int k i)) (hD : P.underlying t = some D) (hu : P.underlying t' = some (.int .i64))
 (hm : -9223372036854775808 ≤ i ∧ i ≤ 9223372036854775807) : Ex P n a L Γ ⟨dst, .convert t t' x, ty, pos, af, g⟩ (.int .i64 i) := by
 have h := e_conv (P := P) (n := n) (a := a) (Γ := Γ) (dst := dst) (ty := ty) (pos := pos) (af := af) (g := g) hx hD hu
 rwa [IntWalk.i64_in _ (by omega)] at h
end
end Go.Proofs.YtlccmgeclhdegaaGreatDoor
namespace Go.Proofs.YtlccmgeclhdegaaGreatDoor
open Go.RowKit
section
variable {P : Program} {n : NN} {F0 : Nat → Prop} {w0 : World} {a : Act} {w : World} {L : List (Nat × Value)} {Γ : List Asn}
theorem St.new (h : St n noB w0 a w L Γ) {X : Asn} (hX : X ∈ Γ) (hm : X.mine = true) : X.ok w ∧ ∀ b, X.F b → w0.heap.size ≤ b :=
 ⟨h.ok X hX, fun b hb => (h.mine X hX hm b hb).resolve_right (fun hf => hf)⟩
theorem RowAt.keep {b off s : Nat} {xs : List (List Value)} {w w' : World} (h : RowAt b off s xs w) (hw : w'.heap[b]? = w.heap[b]?) : RowAt b off s xs w' := by
 intro i x hi j v hj
 rw [World.cell?_of_block (w := w) hw]; exact h i x hi j v hj
theorem row_of_blk {w : World} {b E s : Nat} {xs : List (List Value)} {cs : List Value} (h : w.heap[b]? = some (.cells cs.toArray E (0, 0))) (hx : ∀ i x, xs[i]? = some x → ∀ j v, x[j]? = some v → cs[i * s + j]? = some v) : RowAt b 0 s xs w := by
 intro i x hi j v hj
 rw [Nat.zero_add]; exact cell_of_blk h (hx i x hi j v hj)
theorem flat_get {α : Type} (enc : α → List Value) (s : Nat) (hl : ∀ x, (enc x).length = s) : ∀ (xs : List α) (i : Nat) (x : α), xs[i]? = some x → ∀ j v, (enc x)[j]? = some v → (xs.flatMap enc)[i * s + j]? = some v := by
 intro xs
 induction xs with
 | nil => intro i x h; simp at h
 | cons y ys ih =>
   intro i x h j v hj
   cases i with
   | zero =>
     simp at h; subst h
     rw [List.flatMap_cons, Nat.zero_mul, Nat.zero_add, List.getElem?_append_left]
     · exact hj
     · exact (List.getElem?_eq_some_iff.1 hj).1
   | succ i =>
     simp at h
     rw [List.flatMap_cons, List.getElem?_append_right (by rw [hl, Nat.add_mul]; omega)]
     have := ih i x h j v hj
     rw [hl, show (i + 1) * s + j - s = i * s + j by rw [Nat.add_mul]; omega]
     exact this
theorem flat_len {α : Type} (enc : α → List Value) (s : Nat) (hl : ∀ x, (enc x).length = s) (xs : List α) : (xs.flatMap enc).length = xs.length * s := by
 induction xs with
 | nil => simp
 | cons y ys ih => rw [List.flatMap_cons, List.length_append, ih, hl, List.length_cons, Nat.add_mul]; omega
theorem blkrow_get {α : Type} {enc : α → List Value} {s b E : Nat} {xs : List α} (hm : Asn.blk b (xs.flatMap enc) E ∈ Γ) (hl : ∀ x, (enc x).length = s) {i : Nat} {x : α} (hx : xs[i]? = some x) :
 ∀ w, Hd Γ w → ∀ j v, (enc x)[j]? = some v → w.cell? ⟨b, 0 + i * s + j, none⟩ = some v := fun _ hh j v hj => by
 rw [Nat.zero_add]; exact cell_of_blk (hh _ hm) (flat_get enc s hl xs i x hx j v hj)
theorem row_of_flat {α : Type} {enc : α → List Value} {s : Nat} (hl : ∀ x, (enc x).length = s) {w : World} {b E : Nat} {xs : List α} (h : w.heap[b]? = some (.cells (xs.flatMap enc).toArray E (0, 0))) : RowAt b 0 s (xs.map enc) w := by
 refine row_of_blk h fun i x hx j v hj => ?_
 rw [List.getElem?_map] at hx
 cases hy : xs[i]? with
 | none => simp [hy] at hx
 | some y => simp [hy] at hx; subst hx; exact flat_get enc s hl xs i y hy j v hj
theorem row_of_own {α : Type} {enc : α → List Value} {s : Nat} (hl : ∀ x, (enc x).length = s) {w : World} {b c E m : Nat} {xs : List α} (h : w.ownsRow 0 E s (.slice (some ⟨b, 0, none⟩) m c) m (xs.flatMap enc)) : RowAt b 0 s (xs.map enc) w := by
 intro i x hx j v hj
 rw [List.getElem?_map] at hx
 cases hy : xs[i]? with
 | none => simp [hy] at hx
 | some y =>
   simp [hy] at hx; subst hx
   have h1 := flat_get enc s hl xs i y hy j v hj
   have h2 := h.cells (g := b) rfl _ _ h1
   rw [addr_add] at h2
   rw [← h2]; congr 2; omega
theorem St.split (h : St n F0 w0 a w L Γ) {X Y Z : Asn} {Γ' : List Asn} (hr : Rep Z Y Γ Γ') (hX : X.ok w) (hY : Y.ok w) (hXF : ∀ b, X.F b → Z.F b) (hYF : ∀ b, Y.F b → Z.F b) (hd : ∀ b, X.F b → ¬ Y.F b) (hm : Z.mine = true) : St n F0 w0 a w L (X :: Γ') := by
 have key : ∀ {Γ Γ' : List Asn}, Rep Z Y Γ Γ' → (∀ V ∈ Γ, V.ok w) → Γ.Pairwise (fun X Y => ∀ b, X.F b → ¬ Y.F b) → (∀ V ∈ Γ', V.ok w) ∧ Γ'.Pairwise (fun X Y => ∀ b, X.F b → ¬ Y.F b) ∧ ∀ V ∈ Γ', ∀ b, X.F b → ¬ V.F b := by
  intro Γ Γ' hr
  induction hr with
  | head =>
    intro hok hp
    have hp' := List.pairwise_cons.1 hp
    refine ⟨fun V hV => ?_, List.pairwise_cons.2 ⟨fun V hV b hb hb' => hp'.1 V hV b (hYF b hb) hb', hp'.2⟩, fun V hV b hb hb' => ?_⟩
    · rcases List.mem_cons.1 hV with rfl | hV
      · exact hY
      · exact hok V (.tail _ hV)
    · rcases List.mem_cons.1 hV with rfl | hV
      · exact hd b hb hb'
      · exact hp'.1 V hV b (hXF b hb) hb'
  | @tail U Γ Γ' hr ih =>
    intro hok hp
    have hp' := List.pairwise_cons.1 hp
    obtain ⟨h1, h2, h3⟩ := ih (fun V hV => hok V (.tail _ hV)) hp'.2
    refine ⟨fun V hV => ?_, List.pairwise_cons.2 ⟨fun V hV b hb hb' => ?_, h2⟩, fun V hV b hb hb' => ?_⟩
    · rcases List.mem_cons.1 hV with rfl | hV
      · exact hok _ (.head _)
      · exact h1 V hV
    · rcases hr.new V hV with rfl | hV
      · exact hp'.1 Z hr.mem b hb (hYF b hb')
      · exact hp'.1 V hV b hb hb'
    · rcases List.mem_cons.1 hV with rfl | hV
      · exact hp'.1 Z hr.mem b hb' (hXF b hb)
      · exact h3 V hV b hb hb'
 obtain ⟨h1, h2, h3⟩ := key hr h.ok h.dis
 refine ⟨h.sl, h.chg, fun V hV => ?_, List.pairwise_cons.2 ⟨h3, h2⟩, fun V hV hmV b hb => ?_⟩
 · rcases List.mem_cons.1 hV with rfl | hV
   · exact hX
   · exact h1 V hV
 · rcases List.mem_cons.1 hV with rfl | hV
   · exact h.mine Z hr.mem hm b (hXF b hb)
   · rcases hr.new V hV with rfl | hV
     · exact h.mine Z hr.mem hm b (hYF b hb)
     · exact h.mine V hV hmV b hb
theorem PureC.of_below {f : FuncId} {args : List Value} {v : Value} (h : Calls P f args.toArray w fun e w' => e = .returned v ∧ Below w.heap.size w w') : PureC P f args w v :=
 h.mono fun _ _ ⟨he, hb⟩ => ⟨he, Chg.of_below hb⟩
end
end Go.Proofs.YtlccmgeclhdegaaGreatDoor
namespace Go.Proofs.YtlccmgeclhdegaaGreatDoor
open Go.RowKit
variable {P : Program} {n : NN} {F0 : Nat → Prop} {w0 w : World} {a : Act} {L : List (Nat × Value)} {Γ : List Asn} {dst : Option Nat}
variable {ty : Nat} {pos : String} {af : Array Edge} {g : Option (Nat × Bool)}
theorem sliceT_elem {T E : TypeId} (h : sliceT P T = some E) : P.underlying T = some (.slice (P.elem T)) ∧ P.elem T = E := by
 have h1 := sliceT_eq h
 have h2 : P.elem T = E := by simp [Program.elem, h1]
 exact ⟨by rw [h2]; exact h1, h2⟩
theorem St.swap (h : St n F0 w0 a w L Γ) {X Y : Asn} {Γ' : List Asn} (hr : Rep X Y Γ Γ') (hY : Y.ok w) (hF : ∀ b, Y.F b → X.F b) (hm : X.mine = true) : St n F0 w0 a w L Γ' :=
 h.upd hr (Chg.refl _ _) hY (fun b hb => .inl (hF b hb)) hm
section
variable {Q : Exit → Act → World → Prop} {op : Op}
def ZOp (P : Program) (l : List Oper) (Γs : List Asn) (Z : List Nat) (fuel : Nat) (listed : List Bool) (Q : Exit → Act → World → Prop) (a : Act) (w : World) (i : Nat) : Prop :=
 wpOp P l.toArray Q i (fun a' w' => (Hd Γs w → i ∈ Z ∨ Hd Γs w') ∧ wpZ P l.toArray Q (Hd Γs) Z fuel (listed.toArray.setIfInBounds i true) a' w') a w
def ZAll (P : Program) (l : List Oper) (Γs : List Asn) (Z : List Nat) (fuel : Nat) (listed : List Bool) (Q : Exit → Act → World → Prop) (a : Act) (w : World) : List Nat → Prop
 | [] => True
 | i :: r => ZOp P l Γs Z fuel listed Q a w i ∧ ZAll P l Γs Z fuel listed Q a w r
theorem ZAll.mem {l : List Oper} {Γs : List Asn} {Z : List Nat} {fuel : Nat} {listed : List Bool} : ∀ {js : List Nat}, ZAll P l Γs Z fuel listed Q a w js → ∀ i ∈ js, ZOp P l Γs Z fuel listed Q a w i
 | _ :: _, h, i, hi => by
   rcases List.mem_cons.1 hi with rfl | hi
   · exact h.1
   · exact ZAll.mem h.2 i hi
theorem Z_many {j : Nat} {js : List Nat} {fuel : Nat} {l : List Oper} {Γs : List Asn} {Z : List Nat} {listed : List Bool} (hr : Region.ready .any l.toArray listed.toArray = j :: js) (h : ZAll P l Γs Z fuel listed Q a w (j :: js)) : wpZ P l.toArray Q (Hd Γs) Z (fuel + 1) listed.toArray a w := by
 refine ⟨fun h0 => (by rw [hr] at h0; cases h0), fun i hi => ?_⟩
 rw [hr] at hi
 exact h.mem i hi
theorem Z_op {i fuel : Nat} {l : List Oper} {Γs : List Asn} {Z : List Nat} {listed listed' : List Bool} (hi : l[i]? = some ⟨dst, op, ty, pos, af, g⟩) (hw : Region.wanted ⟨dst, op, ty, pos, af, g⟩ (yielded l.toArray a.tmps) = true) (hl : listed.set i true = listed')
 (h : OW P ⟨dst, op, ty, pos, af, g⟩ a w (fun a' w' => (Hd Γs w → i ∈ Z ∨ Hd Γs w') ∧ wpZ P l.toArray Q (Hd Γs) Z fuel listed'.toArray a' w') Q) : ZOp P l Γs Z fuel listed Q a w i := by
 have hi' : l.toArray[i]? = some ⟨dst, op, ty, pos, af, g⟩ := by simpa using hi
 unfold ZOp wpOp
 simp only [hi']
 rw [if_pos hw]
 subst hl
 refine .inl ?_
 have h := h.h
 simpa using h
end
end Go.Proofs.YtlccmgeclhdegaaGreatDoor
namespace Go.Proofs.YtlccmgeclhdegaaGreatDoor
open Go.RowKit
variable {n : NN} {F0 : Nat → Prop} {w0 w : World} {a : Act} {L : List (Nat × Value)} {Γ : List Asn}
inductive Rem (X : Asn) : List Asn → List Asn → Prop
 | head {Γ : List Asn} : Rem X (X :: Γ) Γ
 | tail {Y : Asn} {Γ Δ : List Asn} (h : Rem X Γ Δ) : Rem X (Y :: Γ) (Y :: Δ)
inductive Pick : List Asn → List Asn → Prop
 | nil {Γ : List Asn} : Pick Γ []
 | cons {X : Asn} {Γ Δ Γ' : List Asn} (h : Rem X Γ Δ) (h2 : Pick Δ Γ') : Pick Γ (X :: Γ')
theorem Rem.perm {X : Asn} {Γ Δ : List Asn} (h : Rem X Γ Δ) : List.Perm Γ (X :: Δ) := by
 induction h with
 | head => exact List.Perm.refl _
 | tail _ ih => exact (List.Perm.cons _ ih).trans (List.Perm.swap _ _ _)
theorem Pick.perm {Γ Γ' : List Asn} (h : Pick Γ Γ') : ∃ Δ, List.Perm Γ (Γ' ++ Δ) := by
 induction h with
 | nil => exact ⟨_, List.Perm.refl _⟩
 | cons h _ ih =>
   obtain ⟨Δ, hd⟩ := ih
   exact ⟨Δ, h.perm.trans (List.Perm.cons _ hd)⟩
theorem St.pick (h : St n F0 w0 a w L Γ) {Γ' : List Asn} (hp : Pick Γ Γ') : St n F0 w0 a w L Γ' := by
 obtain ⟨Δ, hd⟩ := hp.perm
 exact (h.perm hd.symm).drop (List.sublist_append_left _ _)
end Go.Proofs.YtlccmgeclhdegaaGreatDoor
namespace Go.Proofs.YtlccmgeclhdegaaGreatDoor
open Go.RowKit
variable {n : NN} {F0 : Nat → Prop} {w0 w : World} {a : Act} {L : List (Nat × Value)} {Γ : List Asn} {X Y : Asn}
theorem okN : ∀ X ∈ ([] : List Asn), X.ok w := fun _ h => by cases h
theorem okC (h : X.ok w) (t : ∀ Y ∈ Γ, Y.ok w) : ∀ Y ∈ X :: Γ, Y.ok w := fun Y hY => by
 rcases List.mem_cons.1 hY with rfl | hY
 · exact h
 · exact t Y hY
theorem mineN : ∀ X ∈ ([] : List Asn), X.mine = true → ∀ b, X.F b → w.heap.size ≤ b ∨ F0 b := fun _ h => by cases h
theorem mineC (h : X.mine = false) (t : ∀ Y ∈ Γ, Y.mine = true → ∀ b, Y.F b → w.heap.size ≤ b ∨ F0 b) : ∀ Y ∈ X :: Γ, Y.mine = true → ∀ b, Y.F b → w.heap.size ≤ b ∨ F0 b := fun Y hY hm b hb => by
 rcases List.mem_cons.1 hY with rfl | hY
 · rw [h] at hm; cases hm
 · exact t Y hY hm b hb
theorem mineO (h : ∀ b, X.F b → F0 b) (t : ∀ Y ∈ Γ, Y.mine = true → ∀ b, Y.F b → w.heap.size ≤ b ∨ F0 b) : ∀ Y ∈ X :: Γ, Y.mine = true → ∀ b, Y.F b → w.heap.size ≤ b ∨ F0 b := fun Y hY hm b hb => by
 rcases List.mem_cons.1 hY with rfl | hY
 · exact .inr (h b hb)
 · exact t Y hY hm b hb
theorem disN : ([] : List Asn).Pairwise (fun X Y => ∀ b, X.F b → ¬ Y.F b) := .nil
theorem dis1 : [X].Pairwise (fun X Y => ∀ b, X.F b → ¬ Y.F b) := List.pairwise_singleton _ _
theorem disC (h : ∀ Y ∈ Γ, ∀ b, X.F b → ¬ Y.F b) (t : Γ.Pairwise (fun X Y => ∀ b, X.F b → ¬ Y.F b)) : (X :: Γ).Pairwise (fun X Y => ∀ b, X.F b → ¬ Y.F b) := List.pairwise_cons.2 ⟨h, t⟩
theorem sepN : ∀ Y ∈ ([] : List Asn), ∀ b, X.F b → ¬ Y.F b := fun _ h => by cases h
theorem sepC (h : ∀ b, X.F b → ¬ Y.F b) (t : ∀ Z ∈ Γ, ∀ b, X.F b → ¬ Z.F b) : ∀ Z ∈ Y :: Γ, ∀ b, X.F b → ¬ Z.F b := fun Z hZ => by
 rcases List.mem_cons.1 hZ with rfl | hZ
 · exact h
 · exact t Z hZ
theorem St.sep (h : St n F0 w0 a w L Γ) {Γ' : List Asn} (hr : Rem X Γ Γ') (hm : Y ∈ Γ') : ∀ b, X.F b → ¬ Y.F b := by
 have hp := hr.perm
 have h2 := (h.perm hp.symm).dis
 exact (List.pairwise_cons.1 h2).1 Y hm
theorem lk_append {E L : List (Nat × Value)} {t : Nat} (h : ∀ q ∈ E, q.1 ≠ t) : lk (E ++ L) t = lk L t := by
 induction E with
 | nil => rfl
 | cons q E ih =>
   obtain ⟨s, u⟩ := q
   have h1 : Nat.beq s t = false := nbeq_no (h _ (.head _))
   show (bif Nat.beq s t then some u else lk (E ++ L) t) = _
   rw [h1]
   exact ih (fun q hq => h q (.tail _ hq))
def freshX (g : Nat) (E L : List (Nat × Value)) : Bool := E.all fun q => Nat.beq q.1 g || L.all fun p => !Nat.beq q.1 p.1
theorem lk_mem {L : List (Nat × Value)} {t : Nat} {v : Value} (h : lk L t = some v) : ∃ p ∈ L, p.1 = t := by
 induction L with
 | nil => cases h
 | cons q L ih =>
   obtain ⟨s, u⟩ := q
   by_cases e : s = t
   · exact ⟨_, .head _, e⟩
   · have h1 : Nat.beq s t = false := nbeq_no e
     have h2 : lk L t = some v := by
      have h3 : (bif Nat.beq s t then some u else lk L t) = some v := h
      rw [h1] at h3; exact h3
     obtain ⟨p, hp, e2⟩ := ih h2
     exact ⟨p, .tail _ hp, e2⟩
theorem St.ends {L' : List (Nat × Value)} (hS : St n F0 w0 a w L' Γ) (m t g : Nat) {u v x y : Value} (h : lk L' t = some u) (he : u = v) (hg : lk L' g = some x) (hg2 : lk (L'.drop m) g = some y) (hxy : x = y) (hk : freshX g (L'.take m) (L'.drop m) = true) :
 St n F0 w0 a w ((t, v) :: L'.drop m) Γ := by
 refine hS.act ⟨hS.sl.size, hS.sl.defers, fun s z hz => ?_⟩
 have hz : (bif Nat.beq t s then some v else lk (L'.drop m) s) = some z := hz
 by_cases e : t = s
 · subst e
   have h1 : Nat.beq t t = true := by simp
   rw [h1] at hz; cases hz
   rw [← he]; exact hS.sl.get _ _ h
 · rw [nbeq_no e] at hz
   have hz : lk (L'.drop m) s = some z := hz
   by_cases e2 : g = s
   · subst e2
     rw [hg2] at hz; cases hz
     rw [← hxy]; exact hS.sl.get _ _ hg
   · refine hS.sl.get _ _ ?_
     obtain ⟨p, hp, e3⟩ := lk_mem hz
     rw [← List.take_append_drop m L', lk_append, hz]
     intro q hq e4
     have h1 := List.all_eq_true.1 hk q hq
     have h2 : Nat.beq q.1 g = false := nbeq_no (by rw [e4]; exact fun e5 => e2 e5.symm)
     rw [h2, Bool.false_or] at h1
     have h3 := List.all_eq_true.1 h1 p hp
     rw [e4, e3] at h3
     have h4 : Nat.beq s s = true := by simp
     rw [h4] at h3; cases h3
theorem L_merge {P : Program} {Q : Exit → Act → World → Prop} {ops : Array Oper} {l : List Oper} (m t : Nat) (v : Value) (_hS : St n F0 w0 a w L Γ) (hseg : (∀ a w, St n F0 w0 a w ((t, v) :: L) Γ → wpList P ops Q (l.drop m) a w) → wpList P ops Q l a w) (hcont : ∀ a w, St n F0 w0 a w ((t, v) :: L) Γ → wpList P ops Q (l.drop m) a w) : wpList P ops Q l a w := hseg hcont
theorem Z_merge {P : Program} {Q : Exit → Act → World → Prop} {ops : Array Oper} {S : World → Prop} {Z : List Nat} {fuel : Nat} {listed : Array Bool} (fuel' : Nat) (listed' : List Bool) (t : Nat) (v : Value) (_hS : St n F0 w0 a w L Γ) (hseg : (∀ a w, St n F0 w0 a w ((t, v) :: L) Γ → wpZ P ops Q S Z fuel' listed'.toArray a w) → wpZ P ops Q S Z fuel listed a w) (hcont : ∀ a w, St n F0 w0 a w ((t, v) :: L) Γ → wpZ P ops Q S Z fuel' listed'.toArray a w) : wpZ P ops Q S Z fuel listed a w := hseg hcont
end Go.Proofs.YtlccmgeclhdegaaGreatDoor
namespace Go.Proofs.YtlccmgeclhdegaaGreatDoor
open Go.RowKit
def mkM : Nat → List (ByteArray × Value) → List MapEntry
 | _, [] => []
 | j, (k, v) :: r => ⟨.string k, v, j⟩ :: mkM (j + 1) r
def smapA (b : Nat) (l : List (ByteArray × Value)) : Asn := .mp b (mkM 0 l) l.length
def idxM : List (ByteArray × Value) → ByteArray → Nat → Option (Nat × Value)
 | [], _, _ => none
 | (k', v) :: r, k, m => if k' = k then some (m, v) else idxM r k (m + 1)
def lkM (l : List (ByteArray × Value)) (k : ByteArray) (z : Value) : Value := match idxM l k 0 with | some (_, v) => v | none => z
def setM : List (ByteArray × Value) → ByteArray → Value → List (ByteArray × Value)
 | [], k, v => [(k, v)]
 | (k', u) :: r, k, v => if k' = k then (k, v) :: r else (k', u) :: setM r k v
theorem ba_beq (a b : ByteArray) : (a == b) = decide (a = b) := by
 obtain ⟨x⟩ := a
 obtain ⟨y⟩ := b
 show ByteArray.beq _ _ = _
 simp only [ByteArray.beq, ByteArray.mk.injEq]
 by_cases h : x = y
 · subst h; simp
 · simp [h]
theorem find_M (k : ByteArray) (l : List (ByteArray × Value)) : ∀ j m, Instr.findNow .string (.string k) (mkM j l) m = some (idxM l k m) := by
 induction l with
 | nil => intro j m; rfl
 | cons p l ih =>
   obtain ⟨k', v⟩ := p
   intro j m
   simp only [mkM, Instr.findNow, Instr.sameNow, idxM]
   rw [ba_beq]
   by_cases h : k' = k
   · subst h; simp
   · have h2 : decide (k = k') = false := decide_eq_false (fun e => h e.symm)
     rw [h2, if_neg h]
     exact ih _ _
theorem idxM_some {l : List (ByteArray × Value)} {k : ByteArray} {m i : Nat} {v : Value} (h : idxM l k m = some (i, v)) : m ≤ i ∧ l[i - m]? = some (k, v) := by
 induction l generalizing m with
 | nil => cases h
 | cons p l ih =>
   obtain ⟨k', u⟩ := p
   simp only [idxM] at h
   split at h
   · rename_i e; subst e; cases h; simp
   · obtain ⟨h1, h2⟩ := ih h
     refine ⟨by omega, ?_⟩
     rw [show i - m = (i - (m + 1)) + 1 by omega]
     simpa using h2
theorem mkM_get {l : List (ByteArray × Value)} {i j : Nat} {k : ByteArray} {v : Value} (h : l[i]? = some (k, v)) : (mkM j l)[i]? = some ⟨.string k, v, j + i⟩ := by
 induction l generalizing i j with
 | nil => cases h
 | cons p l ih =>
   obtain ⟨k', u⟩ := p
   cases i with
   | zero => simp at h; obtain ⟨rfl, rfl⟩ := h; rfl
   | succ i =>
     have := ih (j := j + 1) (by simpa using h)
     show (mkM (j + 1) l)[i]? = _
     rw [this]; congr 2; omega
theorem setM_some {l : List (ByteArray × Value)} {k : ByteArray} {m i : Nat} {u : Value} (v : Value) (h : idxM l k m = some (i, u)) : setM l k v = l.set (i - m) (k, v) := by
 induction l generalizing m with
 | nil => cases h
 | cons p l ih =>
   obtain ⟨k', x⟩ := p
   simp only [idxM] at h
   simp only [setM]
   split at h
   · rename_i e; cases h; rw [if_pos e]; simp
   · rename_i e
     rw [if_neg e, ih h]
     have := (idxM_some h).1
     rw [show i - m = (i - (m + 1)) + 1 by omega]; rfl
theorem setM_none {l : List (ByteArray × Value)} {k : ByteArray} {m : Nat} (v : Value) (h : idxM l k m = none) : setM l k v = l ++ [(k, v)] := by
 induction l generalizing m with
 | nil => rfl
 | cons p l ih =>
   obtain ⟨k', x⟩ := p
   simp only [idxM] at h
   simp only [setM]
   split at h
   · cases h
   · rename_i e; rw [if_neg e, ih h]; rfl
theorem mkM_snoc (l : List (ByteArray × Value)) (k : ByteArray) (v : Value) : ∀ j, mkM j (l ++ [(k, v)]) = mkM j l ++ [⟨.string k, v, j + l.length⟩] := by
 induction l with
 | nil => intro j; rfl
 | cons p l ih => intro j; simp only [List.cons_append, mkM, ih, List.length_cons]; congr 4; omega
theorem mkM_set {l : List (ByteArray × Value)} {i : Nat} {k : ByteArray} {u v : Value} : ∀ j, l[i]? = some (k, u) → mkM j (l.set i (k, v)) = (mkM j l).modify i fun e => { e with key := .string k, val := v } := by
 induction l generalizing i with
 | nil => intro j h; cases h
 | cons p l ih =>
   obtain ⟨k', x⟩ := p
   intro j h
   cases i with
   | zero => rfl
   | succ i => simp only [List.set_cons_succ, mkM, List.modify_succ_cons]; rw [ih (j + 1) (by simpa using h)]
def zvOf (P : Program) (t : TypeId) : Option Value := (P.info? t).bind (·.zero)
section
variable {P : Program} {n : NN} {F0 : Nat → Prop} {w0 : World} {a : Act} {w : World} {L : List (Nat × Value)} {Γ : List Asn}
variable {K : Act → World → Prop} {Q : Exit → Act → World → Prop} {d ty : Nat} {dst : Option Tmp} {pos : String} {af : Array Edge} {g : Option (Nat × Bool)}
theorem zv_run {t : TypeId} {z : Value} (h : zvOf P t = some z) (w : World) : (zeroValue t).run P w = .ok z w := by
 unfold zvOf at h
 cases hi : P.info? t with
 | none => simp [hi] at h
 | some i => simp [hi] at h; simp [zeroValue, typeInfo, hi, h]
theorem e_lookupS {T Kt Et b : Nat} {x y : Operand} {k : ByteArray} {l : List (ByteArray × Value)} {z : Value} (hx : ev L x = some (.map (some b))) (hy : ev L y = some (.string k))
 (hT : mapT P T = some (Kt, Et)) (hD : P.underlying Kt = some .string) (hz : zvOf P Et = some z) (hm : smapA b l ∈ Γ) : Ex P n a L Γ ⟨dst, .lookup T x y false, ty, pos, af, g⟩ (lkM l k z) := fun hs w hh => by
 have hb : w.heap[b]? = some (.map (mkM 0 l).toArray l.length) := hh _ hm
 have hck := checkKey_plain (P := P) (w := w) hD rfl ((mkM 0 l).isEmpty) 9999 (.string k)
 have hf := find_M k l 0 0
 simp only [execOp, hs.ev hx, hs.ev hy, Instr.lookup, Sem.run_bind, underlying, run_program, Result.andThen_ok, mapT_eq hT, Sem.run_pure]
 unfold lkM
 cases hi : idxM l k 0 with
 | none => rw [hi] at hf; simp [getObj, Sem.run, hb, hck, Instr.findKey, underlying, hD, hf, zv_run hz]
 | some p => obtain ⟨i, v⟩ := p; rw [hi] at hf; simp [getObj, Sem.run, hb, hck, Instr.findKey, underlying, hD, hf]
theorem s_mapUp {T Kt Et b : Nat} {x y z : Operand} {k : ByteArray} {v : Value} {l : List (ByteArray × Value)} {Γ' : List Asn} (hS : St n F0 w0 a w L Γ) (hx : ev L x = some (.map (some b))) (hy : ev L y = some (.string k)) (hz : ev L z = some v)
 (hT : mapT P T = some (Kt, Et)) (hD : P.underlying Kt = some .string) (hr : Rep (smapA b l) (smapA b (setM l k v)) Γ Γ')
 (h : ∀ w', St n F0 w0 a w' L Γ' → K a w') : OW P ⟨none, .mapUpdate T x y z, ty, pos, af, g⟩ a w K Q := by
 have hb : w.heap[b]? = some (.map (mkM 0 l).toArray l.length) := hS.get hr.mem
 have hlt := (Array.getElem?_eq_some_iff.1 hb).1
 have hck := checkKey_plain (P := P) (w := w) hD rfl false 9999 (.string k)
 have hf := find_M k l 0 0
 have hres : ∃ w', (execOp a.eval (⟨none, .mapUpdate T x y z, ty, pos, af, g⟩ : Oper)).run P w = .ok .skip w' ∧ w' = { w with heap := w.heap.setIfInBounds b (.map (mkM 0 (setM l k v)).toArray (setM l k v).length) } := by
  refine ⟨_, ?_, rfl⟩
  simp only [execOp, hS.sl.ev hx, hS.sl.ev hy, hS.sl.ev hz, Instr.mapUpdate, Sem.run_bind, underlying, run_program, Result.andThen_ok, mapT_eq hT, Sem.run_pure]
  cases hi : idxM l k 0 with
  | none =>
    rw [hi] at hf
    rw [setM_none v hi, mkM_snoc]
    simp [getObj, Sem.run, hb, hck, Instr.findKey, underlying, hD, hf, setObj]
  | some p =>
    obtain ⟨i, u⟩ := p
    rw [hi] at hf
    obtain ⟨_, hg⟩ := idxM_some hi
    rw [Nat.sub_zero] at hg
    have hsm := setM_some v hi
    rw [Nat.sub_zero] at hsm
    have hmk := mkM_get (j := 0) hg
    rw [hsm, mkM_set (u := u) 0 hg]
    simp [getObj, Sem.run, hb, hck, Instr.findKey, underlying, hD, hf, setObj, Instr.keyThatStays, hmk, Instr.sameBits, ba_beq]
 obtain ⟨w', he, rfl⟩ := hres
 refine ⟨?_⟩
 unfold Oper.wp
 rw [he]
 refine h _ (hS.upd hr ⟨rfl, rfl, rfl, by simp, fun q hq hne => ?_⟩ ⟨fun q hq => ?_, fun w' hw => ?_⟩ (fun q hq => .inl hq) rfl)
 · have : b ≠ q := fun e => hne e.symm
   simp [Array.getElem?_setIfInBounds_ne this]
 · obtain rfl : q = b := hq; simpa using hlt
 · show w'.heap[b]? = _
   rw [hw _ rfl]; simp [hlt]
theorem s_makeMapS {T : TypeId} (hS : St n F0 w0 a w L Γ) (hn : Nat.blt d n.n = true)
 (h : ∀ a' w' b, St n F0 w0 a' w' ((d, .map (some b)) :: L) (smapA b [] :: Γ) → K a' w') : OW P ⟨some d, .makeMap T none, ty, pos, af, g⟩ a w K Q :=
 s_makeMap hS hn h
end
end Go.Proofs.YtlccmgeclhdegaaGreatDoor
namespace Go.Proofs.YtlccmgeclhdegaaGreatDoor
open Go.RowKit
section
variable {P : Program} {n : NN} {F0 : Nat → Prop} {w0 w : World} {a : Act} {L : List (Nat × Value)} {Γ : List Asn} {Q : Exit → Act → World → Prop} {d : Nat} {ops : Array Oper} {rest : List Oper}
variable {op : Op} {ty : TypeId} {pos : String} {af : Array Edge} {g : Option (Nat × Bool)}
def tf (a b : Nat) : List Bool := List.replicate a true ++ List.replicate b false
theorem L_e {v : Value} (hS : St n F0 w0 a w L Γ) (he : Ex P n a L Γ ⟨some d, op, ty, pos, af, none⟩ v) (hn : Nat.blt d n.n = true)
 (h : ∀ a', St n F0 w0 a' w ((d, v) :: L) Γ → wpList P ops Q rest a' w) : wpList P ops Q (⟨some d, op, ty, pos, af, none⟩ :: rest) a w := L_op (s_e hS he hn h)
theorem L_ge {l : List Oper} {j t : Nat} {b : Bool} {v : Value} (hS : St n F0 w0 a w L Γ) (hj : opDst l j = some t) (hv : lk L t = some (.bool b)) (he : Ex P n a L Γ ⟨some d, op, ty, pos, af, some (j, b)⟩ v) (hn : Nat.blt d n.n = true)
 (h : ∀ a', St n F0 w0 a' w ((d, v) :: L) Γ → wpList P l.toArray Q rest a' w) : wpList P l.toArray Q (⟨some d, op, ty, pos, af, some (j, b)⟩ :: rest) a w := L_go hS hj hv (s_e hS he hn h)
theorem e_pk {dst : Option Nat} {g : Option (Nat × Bool)} {c x y : Operand} {b : Bool} {v : Value} (hc : ev L c = some (.bool b)) (hv : ev L (bif b then x else y) = some v) : Ex P n a L Γ ⟨dst, .pick c x y, ty, pos, af, g⟩ v := by
 cases b
 · exact e_pick_f hc hv
 · exact e_pick_t hc hv
def okZ (l : List Oper) (m : List Bool) (i : Nat) : Bool := Region.noSelect l.toArray && Region.free .any l.toArray m.toArray i && (Region.ready .any l.toArray m.toArray).contains i
def okY (l : List Oper) (m : List Bool) (Z : List Nat) (i : Nat) : Bool := okZ l m i && (closedB l.toArray m.toArray && waits l.toArray Z i)
theorem okZ_of {l : List Oper} {m : List Bool} {i : Nat} (h : okZ l m i = true) : Region.noSelect l.toArray = true ∧ Region.free .any l.toArray m.toArray i = true ∧ (Region.ready .any l.toArray m.toArray).contains i = true := by
 unfold okZ at h
 rw [Bool.and_eq_true, Bool.and_eq_true] at h
 exact ⟨h.1.1, h.1.2, h.2⟩
theorem okY_of {l : List Oper} {m : List Bool} {Z : List Nat} {i : Nat} (h : okY l m Z i = true) : okZ l m i = true ∧ closedB l.toArray m.toArray = true ∧ waits l.toArray Z i = true := by
 unfold okY at h
 rw [Bool.and_eq_true, Bool.and_eq_true] at h
 exact ⟨h.1, h.2.1, h.2.2⟩
theorem Zt0 (i : Nat) (m : List Bool) {fuel : Nat} {l : List Oper} {Γs : List Asn} {Z : List Nat} {listed : List Bool} {v : Value} (hS : St n F0 w0 a w L Γ) (hi : l[i]? = some ⟨some d, op, ty, pos, af, g⟩) (hw : ∀ a, Sl n a L → Region.wanted ⟨some d, op, ty, pos, af, g⟩ (yielded l.toArray a.tmps) = true) (he : Ex P n a L [] ⟨some d, op, ty, pos, af, g⟩ v)
 (hl : listed.set i true = m) (hk : okZ l listed i = true) (hn : Nat.blt d n.n = true)
 (h : ∀ a', St n F0 w0 a' w ((d, v) :: L) Γ → wpZ P l.toArray Q (Hd Γs) Z fuel m.toArray a' w) (hQ : ∀ c a w, Q (.panic c) (a.put (some d) v) w → Q (.panic c) a w := by exact fun _ _ _ h => h) : wpZ P l.toArray Q (Hd Γs) Z (fuel + 1) listed.toArray a w :=
 Z_take0 hS hi hw he hl (okZ_of hk).1 (okZ_of hk).2.1 (okZ_of hk).2.2 hQ hn h
theorem Zt (i : Nat) (m : List Bool) {fuel : Nat} {l : List Oper} {Γs : List Asn} {Z : List Nat} {listed : List Bool} {v : Value} (hS : St n F0 w0 a w L Γ) (hi : l[i]? = some ⟨some d, op, ty, pos, af, g⟩) (hw : ∀ a, Sl n a L → Region.wanted ⟨some d, op, ty, pos, af, g⟩ (yielded l.toArray a.tmps) = true) (he : Ex P n a L Γs ⟨some d, op, ty, pos, af, g⟩ v)
 (hl : listed.set i true = m) (hk : okY l listed Z i = true) (hsub : ∀ X ∈ Γs, X ∈ Γ) (hn : Nat.blt d n.n = true)
 (h : ∀ a', St n F0 w0 a' w ((d, v) :: L) Γ → wpZ P l.toArray Q (Hd Γs) Z fuel m.toArray a' w) (hQ : ∀ c a w, Q (.panic c) (a.put (some d) v) w → Q (.panic c) a w := by exact fun _ _ _ h => h) : wpZ P l.toArray Q (Hd Γs) Z (fuel + 1) listed.toArray a w :=
 Z_take hS hi hw he hl (okZ_of (okY_of hk).1).1 (okZ_of (okY_of hk).1).2.1 (okZ_of (okY_of hk).1).2.2 (okY_of hk).2.1 (okY_of hk).2.2 hsub hQ hn h
theorem Zn_t (i : Nat) (m : List Bool) {j t fuel : Nat} {l : List Oper} {Γs : List Asn} {Z : List Nat} {listed : List Bool} (hS : St n F0 w0 a w L Γ) (hi : l[i]? = some ⟨some d, op, ty, pos, af, some (j, true)⟩) (hj : opDst l j = some t) (hv : lk L t = some (.bool false))
 (hl : listed.set i true = m) (hk : okZ l listed i = true) (hn : Nat.blt d n.n = true)
 (h : ∀ a', St n F0 w0 a' w ((d, undef) :: L) Γ → wpZ P l.toArray Q (Hd Γs) Z fuel m.toArray a' w) (hQ : ∀ c a w, Q (.panic c) (a.put (some d) undef) w → Q (.panic c) a w := by exact fun _ _ _ h => h) : wpZ P l.toArray Q (Hd Γs) Z (fuel + 1) listed.toArray a w :=
 Z_none_t hS hi hj hv hl (okZ_of hk).1 (okZ_of hk).2.1 (okZ_of hk).2.2 hQ hn h
theorem Zn_f (i : Nat) (m : List Bool) {j t fuel : Nat} {l : List Oper} {Γs : List Asn} {Z : List Nat} {listed : List Bool} (hS : St n F0 w0 a w L Γ) (hi : l[i]? = some ⟨some d, op, ty, pos, af, some (j, false)⟩) (hj : opDst l j = some t) (hv : lk L t = some (.bool true))
 (hl : listed.set i true = m) (hk : okZ l listed i = true) (hn : Nat.blt d n.n = true)
 (h : ∀ a', St n F0 w0 a' w ((d, undef) :: L) Γ → wpZ P l.toArray Q (Hd Γs) Z fuel m.toArray a' w) (hQ : ∀ c a w, Q (.panic c) (a.put (some d) undef) w → Q (.panic c) a w := by exact fun _ _ _ h => h) : wpZ P l.toArray Q (Hd Γs) Z (fuel + 1) listed.toArray a w :=
 Z_none_f hS hi hj hv hl (okZ_of hk).1 (okZ_of hk).2.1 (okZ_of hk).2.2 hQ hn h
theorem Zn_u (i : Nat) (m : List Bool) {j t fuel : Nat} {b : Bool} {l : List Oper} {Γs : List Asn} {Z : List Nat} {listed : List Bool} (hS : St n F0 w0 a w L Γ) (hi : l[i]? = some ⟨some d, op, ty, pos, af, some (j, b)⟩) (hj : opDst l j = some t) (hv : lk L t = some undef)
 (hl : listed.set i true = m) (hk : okZ l listed i = true) (hn : Nat.blt d n.n = true)
 (h : ∀ a', St n F0 w0 a' w ((d, undef) :: L) Γ → wpZ P l.toArray Q (Hd Γs) Z fuel m.toArray a' w) (hQ : ∀ c a w, Q (.panic c) (a.put (some d) undef) w → Q (.panic c) a w := by exact fun _ _ _ h => h) : wpZ P l.toArray Q (Hd Γs) Z (fuel + 1) listed.toArray a w :=
 Z_none_u hS hi hj hv hl (okZ_of hk).1 (okZ_of hk).2.1 (okZ_of hk).2.2 hQ hn h
inductive Run (P : Program) (n : NN) (l : List Oper) (Γ : List Asn) : List (Nat × Value) → List Oper → List (Nat × Value) → List Oper → Prop
 | n {L : List (Nat × Value)} {os : List Oper} : Run P n l Γ L os L os
 | c {L L' : List (Nat × Value)} {d : Nat} {op : Op} {ty : TypeId} {pos : String} {af : Array Edge} {v : Value} {os os' : List Oper} (he : ∀ {a : Act}, Ex P n a L Γ ⟨some d, op, ty, pos, af, none⟩ v) (h : Run P n l Γ ((d, v) :: L) os L' os') (hn : Nat.blt d n.n = true := by rfl) : Run P n l Γ L (⟨some d, op, ty, pos, af, none⟩ :: os) L' os'
 | m {L L' : List (Nat × Value)} {d : Nat} {x : Operand} {ty : TypeId} {pos : String} {af : Array Edge} {v : Value} {os os' : List Oper} (hx : ev L x = some v) (h : Run P n l Γ ((d, v) :: L) os L' os') (hn : Nat.blt d n.n = true := by rfl) : Run P n l Γ L (⟨some d, .move x, ty, pos, af, none⟩ :: os) L' os'
 | a {L L' : List (Nat × Value)} {d : Nat} {x : Operand} {ty : TypeId} {pos : String} {af : Array Edge} {v : Value} {os os' : List Oper} (hx : ev L x = some v) (h : Run P n l Γ ((d, v) :: L) os L' os') (hn : Nat.blt d n.n = true := by rfl) : Run P n l Γ L (⟨some d, .assign x, ty, pos, af, none⟩ :: os) L' os'
 | g {L L' : List (Nat × Value)} {d j t : Nat} {b : Bool} {op : Op} {ty : TypeId} {pos : String} {af : Array Edge} {v : Value} {os os' : List Oper} (hj : opDst l j = some t) (hv : lk L t = some (.bool b)) (he : ∀ {a : Act}, Ex P n a L Γ ⟨some d, op, ty, pos, af, some (j, b)⟩ v) (h : Run P n l Γ ((d, v) :: L) os L' os') (hn : Nat.blt d n.n = true := by rfl) : Run P n l Γ L (⟨some d, op, ty, pos, af, some (j, b)⟩ :: os) L' os'
 | t {L L' : List (Nat × Value)} {d j t : Nat} {op : Op} {ty : TypeId} {pos : String} {af : Array Edge} {os os' : List Oper} (hj : opDst l j = some t) (hv : lk L t = some (.bool false)) (h : Run P n l Γ ((d, undef) :: L) os L' os') (hn : Nat.blt d n.n = true := by rfl) : Run P n l Γ L (⟨some d, op, ty, pos, af, some (j, true)⟩ :: os) L' os'
 | f {L L' : List (Nat × Value)} {d j t : Nat} {op : Op} {ty : TypeId} {pos : String} {af : Array Edge} {os os' : List Oper} (hj : opDst l j = some t) (hv : lk L t = some (.bool true)) (h : Run P n l Γ ((d, undef) :: L) os L' os') (hn : Nat.blt d n.n = true := by rfl) : Run P n l Γ L (⟨some d, op, ty, pos, af, some (j, false)⟩ :: os) L' os'
theorem Rn {l os os' : List Oper} {L' : List (Nat × Value)} (hS : St n F0 w0 a w L Γ) (h : Run P n l Γ L os L' os') (hk : ∀ a', St n F0 w0 a' w L' Γ → wpList P l.toArray Q os' a' w) : wpList P l.toArray Q os a w := by
 induction h generalizing a with
 | n => exact hk a hS
 | c he _ hn ih => exact L_e hS he hn fun a' hS' => ih hS' hk
 | m hx _ hn ih => exact L_e hS (e_move hx) hn fun a' hS' => ih hS' hk
 | a hx _ hn ih => exact L_e hS (e_assign hx) hn fun a' hS' => ih hS' hk
 | g hj hv he _ hn ih => exact L_ge hS hj hv he hn fun a' hS' => ih hS' hk
 | t hj hv _ hn ih => exact L_skip_t hS hj hv hn fun a' hS' => ih hS' hk
 | f hj hv _ hn ih => exact L_skip_f hS hj hv hn fun a' hS' => ih hS' hk
inductive RunZ (P : Program) (n : NN) (l : List Oper) (Z : List Nat) (Γs : List Asn) : List (Nat × Value) → List Bool → Nat → List (Nat × Value) → List Bool → Nat → Prop
 | n {L : List (Nat × Value)} {m : List Bool} {k : Nat} : RunZ P n l Z Γs L m k L m k
 | o (i : Nat) (m : List Bool) {L L' : List (Nat × Value)} {ld m' : List Bool} {k k' d : Nat} {op : Op} {ty : TypeId} {pos : String} {af : Array Edge} {g : Option (Nat × Bool)} {v : Value} (hi : l[i]? = some ⟨some d, op, ty, pos, af, g⟩) (hw : ∀ a, Sl n a L → Region.wanted ⟨some d, op, ty, pos, af, g⟩ (yielded l.toArray a.tmps) = true) (he : ∀ {a : Act}, Ex P n a L [] ⟨some d, op, ty, pos, af, g⟩ v) (hl : ld.set i true = m)
  (h : RunZ P n l Z Γs ((d, v) :: L) m k L' m' k') (hk : okZ l ld i = true := by kernel_rfl) (hn : Nat.blt d n.n = true := by rfl) : RunZ P n l Z Γs L ld (k + 1) L' m' k'
 | y (i : Nat) (m : List Bool) {L L' : List (Nat × Value)} {ld m' : List Bool} {k k' d : Nat} {op : Op} {ty : TypeId} {pos : String} {af : Array Edge} {g : Option (Nat × Bool)} {v : Value} (hi : l[i]? = some ⟨some d, op, ty, pos, af, g⟩) (hw : ∀ a, Sl n a L → Region.wanted ⟨some d, op, ty, pos, af, g⟩ (yielded l.toArray a.tmps) = true) (he : ∀ {a : Act}, Ex P n a L Γs ⟨some d, op, ty, pos, af, g⟩ v) (hl : ld.set i true = m)
  (h : RunZ P n l Z Γs ((d, v) :: L) m k L' m' k') (hk : okY l ld Z i = true := by kernel_rfl) (hn : Nat.blt d n.n = true := by rfl) : RunZ P n l Z Γs L ld (k + 1) L' m' k'
 | t (i : Nat) (m : List Bool) {L L' : List (Nat × Value)} {ld m' : List Bool} {k k' d j t : Nat} {op : Op} {ty : TypeId} {pos : String} {af : Array Edge} (hi : l[i]? = some ⟨some d, op, ty, pos, af, some (j, true)⟩) (hj : opDst l j = some t) (hv : lk L t = some (.bool false)) (hl : ld.set i true = m)
  (h : RunZ P n l Z Γs ((d, undef) :: L) m k L' m' k') (hk : okZ l ld i = true := by kernel_rfl) (hn : Nat.blt d n.n = true := by rfl) : RunZ P n l Z Γs L ld (k + 1) L' m' k'
 | f (i : Nat) (m : List Bool) {L L' : List (Nat × Value)} {ld m' : List Bool} {k k' d j t : Nat} {op : Op} {ty : TypeId} {pos : String} {af : Array Edge} (hi : l[i]? = some ⟨some d, op, ty, pos, af, some (j, false)⟩) (hj : opDst l j = some t) (hv : lk L t = some (.bool true)) (hl : ld.set i true = m)
  (h : RunZ P n l Z Γs ((d, undef) :: L) m k L' m' k') (hk : okZ l ld i = true := by kernel_rfl) (hn : Nat.blt d n.n = true := by rfl) : RunZ P n l Z Γs L ld (k + 1) L' m' k'
 | u (i : Nat) (m : List Bool) {L L' : List (Nat × Value)} {ld m' : List Bool} {k k' d j t : Nat} {b : Bool} {op : Op} {ty : TypeId} {pos : String} {af : Array Edge} (hi : l[i]? = some ⟨some d, op, ty, pos, af, some (j, b)⟩) (hj : opDst l j = some t) (hv : lk L t = some undef) (hl : ld.set i true = m)
  (h : RunZ P n l Z Γs ((d, undef) :: L) m k L' m' k') (hk : okZ l ld i = true := by kernel_rfl) (hn : Nat.blt d n.n = true := by rfl) : RunZ P n l Z Γs L ld (k + 1) L' m' k'
theorem Rz {l : List Oper} {Z : List Nat} {Γs : List Asn} {ld m : List Bool} {k k' : Nat} {L' : List (Nat × Value)} (hS : St n F0 w0 a w L Γ) (hs : ∀ X ∈ Γs, X ∈ Γ) (h : RunZ P n l Z Γs L ld k L' m k') (hc : ∀ a', St n F0 w0 a' w L' Γ → wpZ P l.toArray Q (Hd Γs) Z k' m.toArray a' w) (hQ : ∀ d v c a w, Q (.panic c) (a.put (some d) v) w → Q (.panic c) a w := by exact fun _ _ _ _ _ h => h) : wpZ P l.toArray Q (Hd Γs) Z k ld.toArray a w := by
 induction h generalizing a with
 | n => exact hc a hS
 | o i m hi hw he hl _ hk hn ih => exact Zt0 i m hS hi hw he hl hk hn (fun a' hS' => ih hS' hc) (hQ _ _)
 | y i m hi hw he hl _ hk hn ih => exact Zt i m hS hi hw he hl hk hs hn (fun a' hS' => ih hS' hc) (hQ _ _)
 | t i m hi hj hv hl _ hk hn ih => exact Zn_t i m hS hi hj hv hl hk hn (fun a' hS' => ih hS' hc) (hQ _ _)
 | f i m hi hj hv hl _ hk hn ih => exact Zn_f i m hS hi hj hv hl hk hn (fun a' hS' => ih hS' hc) (hQ _ _)
 | u i m hi hj hv hl _ hk hn ih => exact Zn_u i m hS hi hj hv hl hk hn (fun a' hS' => ih hS' hc) (hQ _ _)
theorem Ry {l : List Oper} {Z : List Nat} {Γs : List Asn} {ld m : List Bool} {k k' : Nat} {L' : List (Nat × Value)} (hS : St n F0 w0 a w L Γ) (h : RunZ P n l Z [] L ld k L' m k') (hc : ∀ a', St n F0 w0 a' w L' Γ → wpZ P l.toArray Q (Hd Γs) Z k' m.toArray a' w) (hQ : ∀ d v c a w, Q (.panic c) (a.put (some d) v) w → Q (.panic c) a w := by exact fun _ _ _ _ _ h => h) : wpZ P l.toArray Q (Hd Γs) Z k ld.toArray a w := by
 induction h generalizing a with
 | n => exact hc a hS
 | o i m hi hw he hl _ hk hn ih => exact Zt0 i m hS hi hw he hl hk hn (fun a' hS' => ih hS' hc) (hQ _ _)
 | y i m hi hw he hl _ hk hn ih => exact Zt0 i m hS hi hw he hl (okY_of hk).1 hn (fun a' hS' => ih hS' hc) (hQ _ _)
 | t i m hi hj hv hl _ hk hn ih => exact Zn_t i m hS hi hj hv hl hk hn (fun a' hS' => ih hS' hc) (hQ _ _)
 | f i m hi hj hv hl _ hk hn ih => exact Zn_f i m hS hi hj hv hl hk hn (fun a' hS' => ih hS' hc) (hQ _ _)
 | u i m hi hj hv hl _ hk hn ih => exact Zn_u i m hS hi hj hv hl hk hn (fun a' hS' => ih hS' hc) (hQ _ _)
end
section
variable {P : Program} {n : NN} {F0 : Nat → Prop} {w0 w : World} {a : Act} {L : List (Nat × Value)} {Γ : List Asn} {Q : Exit → Act → World → Prop}
variable {op : Op} {ty : TypeId} {pos : String} {af : Array Edge} {g : Option (Nat × Bool)} {dst : Option Nat}
theorem Zo (i : Nat) (m : List Bool) {fuel : Nat} {l : List Oper} {Γs : List Asn} {Z : List Nat} {listed : List Bool} (hS : St n F0 w0 a w L Γ) (hi : l[i]? = some ⟨dst, op, ty, pos, af, g⟩) (hw : ∀ a, Sl n a L → Region.wanted ⟨dst, op, ty, pos, af, g⟩ (yielded l.toArray a.tmps) = true) (hl : listed.set i true = m)
 (h : OW P ⟨dst, op, ty, pos, af, g⟩ a w (fun a' w' => (Hd Γs w → i ∈ Z ∨ Hd Γs w') ∧ wpZ P l.toArray Q (Hd Γs) Z fuel m.toArray a' w') Q) (hr : Region.ready .any l.toArray listed.toArray = [i] := by kernel_rfl) : wpZ P l.toArray Q (Hd Γs) Z (fuel + 1) listed.toArray a w :=
 Z_one hi (hw a hS.sl) hl hr h
theorem St.gg {X : Asn} (h : St n F0 w0 a w L Γ) (hm : X ∈ Γ := by repeat constructor) : X.φ w := h.get hm
end
abbrev nL := @L_nil
abbrev nT := @n_then
abbrev cS := @c_seq
abbrev cR := @c_region
abbrev wS := @wp_skip
abbrev wB := @wp_block
abbrev wN := @want_none
end Go.Proofs.YtlccmgeclhdegaaGreatDoor
namespace Go.Proofs.YtlccmgeclhdegaaGreatDoor
open Go.RowKit
section
variable {P : Program} {n : NN} {F0 : Nat → Prop} {w0 : World} {a : Act} {w : World} {L : List (Nat × Value)} {Γ : List Asn}
variable {K : Act → World → Prop} {Q : Exit → Act → World → Prop} {d ty : Nat} {dst : Option Tmp} {pos : String} {af : Array Edge} {g : Option (Nat × Bool)}
end
section
variable {P : Program} {n : NN} {F0 : Nat → Prop} {w0 : World} {a : Act} {w : World} {L : List (Nat × Value)} {Γ : List Asn}
variable {K : Act → World → Prop} {Q : Exit → Act → World → Prop} {d ty : Nat} {pos : String} {af : Array Edge} {g : Option (Nat × Bool)}
end
end Go.Proofs.YtlccmgeclhdegaaGreatDoor
namespace Go.Proofs.YtlccmgeclhdegaaGreatDoor
open Go.RowKit
section
variable {P : Program} {n : NN} {F0 : Nat → Prop} {w0 : World} {a : Act} {w : World} {L : List (Nat × Value)} {Γ : List Asn}
variable {K : Act → World → Prop} {Q : Exit → Act → World → Prop} {d ty : Nat} {dst : Option Tmp} {pos : String} {af : Array Edge} {g : Option (Nat × Bool)}
theorem St.moreD (hS : St n F0 w0 a w L Γ) (D : Deferred) : St ⟨n.n, D :: n.D⟩ F0 w0 { a with defers := D :: a.defers } w L Γ :=
 ⟨⟨hS.sl.size, by show _ :: a.defers = _; rw [hS.sl.defers], fun t v h => hS.sl.get t v h⟩, hS.chg, hS.ok, hS.dis, hS.mine⟩
theorem d_retN {fn : Func} {R : Ending → World → Prop} {rs : List ResultVar} {vs : List Value} (hS : St n F0 w0 a w L Γ) (hr : fn.results = rs.toArray) (hv : ResL P L Γ rs vs) (hne : Nat.beq vs.length 1 = false) (h : R (.returned (.tuple vs.toArray)) w) : Leaves P fn a.tmps R [] .returning w := by
 refine ⟨_, ?_, h⟩
 have h1 := ResL.run hS hv
 have h2 : ¬ vs.toArray.size = 1 := by simpa using nbeq_ne hne
 show (results fn a.tmps).run P w = _
 rw [results_rvS, hr, List.mapM_toArray, Sem.run_bind, Sem.run_map, h1]
 simp only [Result.andThen_ok, h2, dite_false]
 rfl
end
section
variable {P : Program} {n : NN} {F0 : Nat → Prop} {w0 : World} {a : Act} {w : World} {L : List (Nat × Value)} {Γ : List Asn}
variable {K : Act → World → Prop} {Q : Exit → Act → World → Prop} {d ty : Nat} {dst : Option Tmp} {pos : String} {af : Array Edge} {g : Option (Nat × Bool)}
end
section
variable {P : Program} {n : NN} {F0 : Nat → Prop} {w0 : World} {a : Act} {w : World} {L : List (Nat × Value)} {Γ : List Asn}
variable {K : Act → World → Prop} {Q : Exit → Act → World → Prop} {d ty : Nat} {dst : Option Tmp} {pos : String} {af : Array Edge} {g : Option (Nat × Bool)}
end
section
variable {P : Program}
end
def duo (X Y : Asn) : Asn := .any (fun k => X.F k ∨ Y.F k) (fun w => X.ok w ∧ Y.ok w ∧ ∀ k, X.F k → ¬ Y.F k) true
theorem Asn.ok.agree {X : Asn} {w w' : World} (h : X.ok w) (hw : ∀ k, X.F k → w'.heap[k]? = w.heap[k]?) : X.ok w' :=
 ⟨fun b hb => by
   have h1 := hw b hb
   rw [Array.getElem?_eq_getElem (h.lt b hb)] at h1
   exact (Array.getElem?_eq_some_iff.1 h1).1, fun w2 h2 => h.hold w2 fun b hb => (h2 b hb).trans (hw b hb)⟩
theorem duo_ok {X Y : Asn} {w : World} (hX : X.ok w) (hY : Y.ok w) (hd : ∀ k, X.F k → ¬ Y.F k) : (duo X Y).ok w :=
 ⟨fun b hb => hb.elim (hX.lt b) (hY.lt b), fun _ hw => ⟨hX.agree fun k hk => hw k (.inl hk), hY.agree fun k hk => hw k (.inr hk), hd⟩⟩
def none_ : Asn := .any (fun _ => False) (fun _ => True) true
theorem none_ok (w : World) : none_.ok w := ⟨fun _ h => h.elim, fun _ _ => trivial⟩
section
variable {n : NN} {F0 : Nat → Prop} {w0 : World} {a : Act} {w : World} {L : List (Nat × Value)} {Γ : List Asn} {X Y : Asn}
theorem St.duo (hS : St n F0 w0 a w L (X :: Y :: Γ)) (hX : X.mine = true) (hY : Y.mine = true) : St n F0 w0 a w L (Go.Proofs.YtlccmgeclhdegaaGreatDoor.duo X Y :: Γ) := by
 have h1 := List.pairwise_cons.1 hS.dis
 have h2 := List.pairwise_cons.1 h1.2
 refine ⟨hS.sl, hS.chg, fun Z hZ => ?_, List.pairwise_cons.2 ⟨fun Z hZ b hb hz => ?_, h2.2⟩, fun Z hZ hm b hb => ?_⟩
 · rcases List.mem_cons.1 hZ with rfl | hZ
   · exact duo_ok (hS.ok X (.head _)) (hS.ok Y (.tail _ (.head _))) (fun b hb => h1.1 Y (.head _) b hb)
   · exact hS.ok Z (.tail _ (.tail _ hZ))
 · rcases hb with hb | hb
   · exact h1.1 Z (.tail _ hZ) b hb hz
   · exact h2.1 Z hZ b hb hz
 · rcases List.mem_cons.1 hZ with rfl | hZ
   · rcases hb with hb | hb
     · exact hS.mine X (.head _) hX b hb
     · exact hS.mine Y (.tail _ (.head _)) hY b hb
   · exact hS.mine Z (.tail _ (.tail _ hZ)) hm b hb
theorem St.unduo (hS : St n F0 w0 a w L (Go.Proofs.YtlccmgeclhdegaaGreatDoor.duo X Y :: Γ)) : St n F0 w0 a w L (X :: Y :: Γ) := by
 have h1 := List.pairwise_cons.1 hS.dis
 have hφ : X.ok w ∧ Y.ok w ∧ ∀ k, X.F k → ¬ Y.F k := (hS.ok _ (.head _)).now
 refine ⟨hS.sl, hS.chg, fun Z hZ => ?_, List.pairwise_cons.2 ⟨fun Z hZ b hb hz => ?_, List.pairwise_cons.2 ⟨fun Z hZ b hb hz => h1.1 Z hZ b (.inr hb) hz, h1.2⟩⟩, fun Z hZ hm b hb => ?_⟩
 · rcases List.mem_cons.1 hZ with rfl | hZ
   · exact hφ.1
   · rcases List.mem_cons.1 hZ with rfl | hZ
     · exact hφ.2.1
     · exact hS.ok Z (.tail _ hZ)
 · rcases List.mem_cons.1 hZ with rfl | hZ
   · exact hφ.2.2 b hb hz
   · exact h1.1 Z hZ b (.inl hb) hz
 · rcases List.mem_cons.1 hZ with rfl | hZ
   · exact hS.mine _ (.head _) rfl b (.inl hb)
   · rcases List.mem_cons.1 hZ with rfl | hZ
     · exact hS.mine _ (.head _) rfl b (.inr hb)
     · exact hS.mine Z (.tail _ hZ) hm b hb
theorem St.none_ (hS : St n F0 w0 a w L Γ) : St n F0 w0 a w L (Go.Proofs.YtlccmgeclhdegaaGreatDoor.none_ :: Γ) :=
 ⟨hS.sl, hS.chg, fun Z hZ => by
   rcases List.mem_cons.1 hZ with rfl | hZ
   · exact none_ok w
   · exact hS.ok Z hZ, List.pairwise_cons.2 ⟨fun _ _ _ h => h.elim, hS.dis⟩, fun Z hZ hm b hb => by
   rcases List.mem_cons.1 hZ with rfl | hZ
   · exact hb.elim
   · exact hS.mine Z hZ hm b hb⟩
end
end Go.Proofs.YtlccmgeclhdegaaGreatDoor
namespace Go.Proofs.YtlccmgeclhdegaaGreatDoor
open Go.RowKit
theorem ty_sz24 : szOf Tryz.prog 24 = some 15 := by kernel_rfl
theorem ty_st24 : structT Tryz.prog 24 = true := by kernel_rfl
theorem ty_pl24 : placesOf Tryz.prog 24 = some [(0, 1), (1, 1), (2, 1), (3, 1), (4, 1), (5, 1), (6, 1), (7, 1), (8, 1), (9, 1), (10, 1), (11, 1), (12, 1), (13, 1), (14, 1)] := by kernel_rfl
theorem ty_z24 : zeroOf Tryz.prog 24 = some [.int .i64 0, .string ⟨#[]⟩, .string ⟨#[]⟩, .string ⟨#[]⟩, .string ⟨#[]⟩, .string ⟨#[]⟩, .string ⟨#[]⟩, .int .i64 0, .int .i64 0, .int .i64 0, .int .i64 0, .int .i64 0, .int .i64 0, .int .i64 0, .slice none 0 0] := by kernel_rfl
theorem cf7 : CallsTo Tryz.prog 7 := callsTo Tryz.func7 (by kernel_rfl) (by kernel_rfl)
theorem ty_sc4 : scalarT Tryz.prog 4 = true := by kernel_rfl
theorem cf8 : CallsTo Tryz.prog 8 := callsTo Tryz.func8 (by kernel_rfl) (by kernel_rfl)
theorem cf9 : CallsTo Tryz.prog 9 := callsTo Tryz.func9 (by kernel_rfl) (by kernel_rfl)
theorem ty_sz29 : szOf Tryz.prog 29 = some 4 := by kernel_rfl
theorem ty_st29 : structT Tryz.prog 29 = true := by kernel_rfl
theorem ty_pl29 : placesOf Tryz.prog 29 = some [(0, 1), (1, 1), (2, 1), (3, 1)] := by kernel_rfl
theorem ty_z29 : zeroOf Tryz.prog 29 = some [.string ⟨#[]⟩, .string ⟨#[]⟩, .slice none 0 0, .bool false] := by kernel_rfl
theorem ty_sc30 : scalarT Tryz.prog 30 = true := by kernel_rfl
theorem cf10 : CallsTo Tryz.prog 10 := callsTo Tryz.func10 (by kernel_rfl) (by kernel_rfl)
theorem ty_sz3 : szOf Tryz.prog 3 = some 1 := by kernel_rfl
theorem ty_sc3 : scalarT Tryz.prog 3 = true := by kernel_rfl
theorem ty_z3 : zeroOf Tryz.prog 3 = some [.int .i64 0] := by kernel_rfl
theorem ty_u3 : Tryz.prog.underlying 3 = some (.int .i64) := by kernel_rfl
theorem ty_sz27 : szOf Tryz.prog 27 = some 1 := by kernel_rfl
theorem ty_sc27 : scalarT Tryz.prog 27 = true := by kernel_rfl
theorem ty_sl27 : sliceT Tryz.prog 27 = some 5 := by kernel_rfl
theorem ty_sz5 : szOf Tryz.prog 5 = some 1 := by kernel_rfl
theorem ty_sc5 : scalarT Tryz.prog 5 = true := by kernel_rfl
theorem ty_z5 : zeroOf Tryz.prog 5 = some [.int .u8 0] := by kernel_rfl
theorem ty_u5 : Tryz.prog.underlying 5 = some (.int .u8) := by kernel_rfl
theorem ty_by5 : byOf Tryz.prog 5 = some 1 := by kernel_rfl
theorem ty_fo29_2 : fieldOff Tryz.prog 29 2 = some 2 := by kernel_rfl
theorem cf11 : CallsTo Tryz.prog 11 := callsTo Tryz.func11 (by kernel_rfl) (by kernel_rfl)
theorem ty_sz37 : szOf Tryz.prog 37 = some 4 := by kernel_rfl
theorem ty_st37 : structT Tryz.prog 37 = true := by kernel_rfl
theorem ty_pl37 : placesOf Tryz.prog 37 = some [(0, 1), (1, 1), (2, 1), (3, 1)] := by kernel_rfl
theorem ty_z37 : zeroOf Tryz.prog 37 = some [.int .i64 0, .string ⟨#[]⟩, .slice none 0 0, .slice none 0 0] := by kernel_rfl
theorem ty_sz34 : szOf Tryz.prog 34 = some 1 := by kernel_rfl
theorem ty_sc34 : scalarT Tryz.prog 34 = true := by kernel_rfl
theorem ty_sl34 : sliceT Tryz.prog 34 = some 37 := by kernel_rfl
theorem ty_by37 : byOf Tryz.prog 37 = some 72 := by kernel_rfl
theorem ty_fo37_2 : fieldOff Tryz.prog 37 2 = some 2 := by kernel_rfl
theorem cf12 : CallsTo Tryz.prog 12 := callsTo Tryz.func12 (by kernel_rfl) (by kernel_rfl)
theorem ty_sz35 : szOf Tryz.prog 35 = some 1 := by kernel_rfl
theorem ty_sc35 : scalarT Tryz.prog 35 = true := by kernel_rfl
theorem ty_sl35 : sliceT Tryz.prog 35 = some 9 := by kernel_rfl
theorem ty_sz9 : szOf Tryz.prog 9 = some 1 := by kernel_rfl
theorem ty_sc9 : scalarT Tryz.prog 9 = true := by kernel_rfl
theorem ty_z9 : zeroOf Tryz.prog 9 = some [.string ⟨#[]⟩] := by kernel_rfl
theorem ty_u9 : Tryz.prog.underlying 9 = some (.string) := by kernel_rfl
theorem ty_by9 : byOf Tryz.prog 9 = some 16 := by kernel_rfl
theorem ty_fo37_3 : fieldOff Tryz.prog 37 3 = some 3 := by kernel_rfl
theorem cf13 : CallsTo Tryz.prog 13 := callsTo Tryz.func13 (by kernel_rfl) (by kernel_rfl)
theorem cf14 : CallsTo Tryz.prog 14 := callsTo Tryz.func14 (by kernel_rfl) (by kernel_rfl)
theorem cf16 : CallsTo Tryz.prog 16 := callsTo Tryz.func16 (by kernel_rfl) (by kernel_rfl)
theorem ty_sz48 : szOf Tryz.prog 48 = some 15 := by kernel_rfl
theorem ty_st48 : structT Tryz.prog 48 = true := by kernel_rfl
theorem ty_pl48 : placesOf Tryz.prog 48 = some [(0, 1), (1, 1), (2, 1), (3, 1), (4, 1), (5, 1), (6, 1), (7, 1), (8, 1), (9, 1), (10, 1), (11, 1), (12, 1), (13, 1), (14, 1)] := by kernel_rfl
theorem ty_z48 : zeroOf Tryz.prog 48 = some [.int .i64 0, .string ⟨#[]⟩, .string ⟨#[]⟩, .string ⟨#[]⟩, .string ⟨#[]⟩, .string ⟨#[]⟩, .string ⟨#[]⟩, .int .i64 0, .int .i64 0, .int .i64 0, .int .i64 0, .int .i64 0, .int .i64 0, .int .i64 0, .slice none 0 0] := by kernel_rfl
theorem cf15 : CallsTo Tryz.prog 15 := callsTo Tryz.func15 (by kernel_rfl) (by kernel_rfl)
theorem cf18 : CallsTo Tryz.prog 18 := callsTo Tryz.func18 (by kernel_rfl) (by kernel_rfl)
theorem ty_fo29_0 : fieldOff Tryz.prog 29 0 = some 0 := by kernel_rfl
theorem ty_fo29_1 : fieldOff Tryz.prog 29 1 = some 1 := by kernel_rfl
theorem cf22 : CallsTo Tryz.prog 22 := callsTo Tryz.func22 (by kernel_rfl) (by kernel_rfl)
theorem ty_pl72 : placesOf Tryz.prog 72 = some [(0, 1), (1, 1), (2, 1), (3, 1), (4, 13), (17, 3), (20, 1), (21, 1)] := by kernel_rfl
theorem ty_z72 : zeroOf Tryz.prog 72 = some [.int .i64 0, .int .i64 0, .int .i64 0, .bool false, .int .i64 0, .int .i64 0, .int .i64 0, .int .i64 0, .string ⟨#[]⟩, .string ⟨#[]⟩, .slice none 0 0, .int .i64 0, .int .i64 0, .int .i64 0, .int .i64 0, .int .i64 0, .int .i64 0, .string ⟨#[]⟩, .int .i64 0, .int .i64 0, .slice none 0 0, .slice none 0 0] := by kernel_rfl
theorem cf23 : CallsTo Tryz.prog 23 := callsTo Tryz.func23 (by kernel_rfl) (by kernel_rfl)
theorem ty_sz62 : szOf Tryz.prog 62 = some 3 := by kernel_rfl
theorem ty_st62 : structT Tryz.prog 62 = true := by kernel_rfl
theorem ty_pl62 : placesOf Tryz.prog 62 = some [(0, 1), (1, 1), (2, 1)] := by kernel_rfl
theorem ty_z62 : zeroOf Tryz.prog 62 = some [.int .i64 0, .slice none 0 0, .bool false] := by kernel_rfl
theorem ty_fo24_0 : fieldOff Tryz.prog 24 0 = some 0 := by kernel_rfl
theorem ty_fo24_12 : fieldOff Tryz.prog 24 12 = some 12 := by kernel_rfl
theorem ty_fo24_8 : fieldOff Tryz.prog 24 8 = some 8 := by kernel_rfl
theorem ty_fo24_11 : fieldOff Tryz.prog 24 11 = some 11 := by kernel_rfl
theorem ty_fo62_0 : fieldOff Tryz.prog 62 0 = some 0 := by kernel_rfl
theorem ty_fo62_1 : fieldOff Tryz.prog 62 1 = some 1 := by kernel_rfl
theorem ty_fo62_2 : fieldOff Tryz.prog 62 2 = some 2 := by kernel_rfl
theorem ty_sl74 : sliceT Tryz.prog 74 = some 24 := by kernel_rfl
theorem cf24 : CallsTo Tryz.prog 24 := callsTo Tryz.func24 (by kernel_rfl) (by kernel_rfl)
theorem ty_fo24_6 : fieldOff Tryz.prog 24 6 = some 6 := by kernel_rfl
theorem cf25 : CallsTo Tryz.prog 25 := callsTo Tryz.func25 (by kernel_rfl) (by kernel_rfl)
theorem cf26 : CallsTo Tryz.prog 26 := callsTo Tryz.func26 (by kernel_rfl) (by kernel_rfl)
theorem cf28 : CallsTo Tryz.prog 28 := callsTo Tryz.func28 (by kernel_rfl) (by kernel_rfl)
theorem ty_sl78 : sliceT Tryz.prog 78 = some 83 := by kernel_rfl
theorem ty_sz83 : szOf Tryz.prog 83 = some 3 := by kernel_rfl
theorem ty_st83 : structT Tryz.prog 83 = true := by kernel_rfl
theorem ty_pl83 : placesOf Tryz.prog 83 = some [(0, 1), (1, 1), (2, 1)] := by kernel_rfl
theorem ty_z83 : zeroOf Tryz.prog 83 = some [.string ⟨#[]⟩, .int .i64 0, .slice none 0 0] := by kernel_rfl
theorem cf27 : CallsTo Tryz.prog 27 := callsTo Tryz.func27 (by kernel_rfl) (by kernel_rfl)
theorem ty_sc81 : scalarT Tryz.prog 81 = true := by kernel_rfl
theorem ty_sl81 : sliceT Tryz.prog 81 = some 88 := by kernel_rfl
theorem ty_sz88 : szOf Tryz.prog 88 = some 3 := by kernel_rfl
theorem ty_st88 : structT Tryz.prog 88 = true := by kernel_rfl
theorem ty_pl88 : placesOf Tryz.prog 88 = some [(0, 1), (1, 1), (2, 1)] := by kernel_rfl
theorem ty_z88 : zeroOf Tryz.prog 88 = some [.string ⟨#[]⟩, .nilFunc, .nilFunc] := by kernel_rfl
theorem ty_fo83_2 : fieldOff Tryz.prog 83 2 = some 2 := by kernel_rfl
theorem cf29 : CallsTo Tryz.prog 29 := callsTo Tryz.func29 (by kernel_rfl) (by kernel_rfl)
theorem ty_fo88_0 : fieldOff Tryz.prog 88 0 = some 0 := by kernel_rfl
theorem cf30 : CallsTo Tryz.prog 30 := callsTo Tryz.func30 (by kernel_rfl) (by kernel_rfl)
theorem ty_fo83_0 : fieldOff Tryz.prog 83 0 = some 0 := by kernel_rfl
theorem ty_pl93 : placesOf Tryz.prog 93 = some [(0, 1), (1, 1)] := by kernel_rfl
theorem ty_z93 : zeroOf Tryz.prog 93 = some [.slice none 0 0, .int .i64 0] := by kernel_rfl
theorem ty_sz91 : szOf Tryz.prog 91 = some 1 := by kernel_rfl
theorem ty_sc91 : scalarT Tryz.prog 91 = true := by kernel_rfl
theorem ty_z91 : zeroOf Tryz.prog 91 = some [.pointer none] := by kernel_rfl
theorem cf32 : CallsTo Tryz.prog 32 := callsTo Tryz.func32 (by kernel_rfl) (by kernel_rfl)
theorem cf31 : CallsTo Tryz.prog 31 := callsTo Tryz.func31 (by kernel_rfl) (by kernel_rfl)
theorem ty_sz95 : szOf Tryz.prog 95 = some 2 := by kernel_rfl
theorem ty_st95 : structT Tryz.prog 95 = true := by kernel_rfl
theorem ty_pl95 : placesOf Tryz.prog 95 = some [(0, 1), (1, 1)] := by kernel_rfl
theorem ty_z95 : zeroOf Tryz.prog 95 = some [.int .i64 0, .int .i64 0] := by kernel_rfl
theorem ty_fo95_0 : fieldOff Tryz.prog 95 0 = some 0 := by kernel_rfl
theorem ty_fo95_1 : fieldOff Tryz.prog 95 1 = some 1 := by kernel_rfl
theorem cf36 : CallsTo Tryz.prog 36 := callsTo Tryz.func36 (by kernel_rfl) (by kernel_rfl)
theorem ty_pl106 : placesOf Tryz.prog 106 = some [(0, 2)] := by kernel_rfl
theorem ty_z106 : zeroOf Tryz.prog 106 = some [.pointer none, .slice none 0 0] := by kernel_rfl
theorem cf38 : CallsTo Tryz.prog 38 := callsTo Tryz.func38 (by kernel_rfl) (by kernel_rfl)
theorem ty_z104 : zeroOf Tryz.prog 104 = some [.pointer none, .slice none 0 0] := by kernel_rfl
theorem ty_fo106_0 : fieldOff Tryz.prog 106 0 = some 0 := by kernel_rfl
theorem cf39 : CallsTo Tryz.prog 39 := callsTo Tryz.func39 (by kernel_rfl) (by kernel_rfl)
theorem cf40 : CallsTo Tryz.prog 40 := callsTo Tryz.func40 (by kernel_rfl) (by kernel_rfl)
theorem cf41 : CallsTo Tryz.prog 41 := callsTo Tryz.func41 (by kernel_rfl) (by kernel_rfl)
theorem cf42 : CallsTo Tryz.prog 42 := callsTo Tryz.func42 (by kernel_rfl) (by kernel_rfl)
theorem cf43 : CallsTo Tryz.prog 43 := callsTo Tryz.func43 (by kernel_rfl) (by kernel_rfl)
theorem cf44 : CallsTo Tryz.prog 44 := callsTo Tryz.func44 (by kernel_rfl) (by kernel_rfl)
theorem ty_fo37_0 : fieldOff Tryz.prog 37 0 = some 0 := by kernel_rfl
theorem cf45 : CallsTo Tryz.prog 45 := callsTo Tryz.func45 (by kernel_rfl) (by kernel_rfl)
theorem ty_fo24_1 : fieldOff Tryz.prog 24 1 = some 1 := by kernel_rfl
theorem ty_fo48_1 : fieldOff Tryz.prog 48 1 = some 1 := by kernel_rfl
theorem ty_fo24_2 : fieldOff Tryz.prog 24 2 = some 2 := by kernel_rfl
theorem ty_fo48_2 : fieldOff Tryz.prog 48 2 = some 2 := by kernel_rfl
theorem ty_fo24_3 : fieldOff Tryz.prog 24 3 = some 3 := by kernel_rfl
theorem ty_fo48_3 : fieldOff Tryz.prog 48 3 = some 3 := by kernel_rfl
theorem ty_fo24_4 : fieldOff Tryz.prog 24 4 = some 4 := by kernel_rfl
theorem ty_fo48_4 : fieldOff Tryz.prog 48 4 = some 4 := by kernel_rfl
theorem ty_fo24_5 : fieldOff Tryz.prog 24 5 = some 5 := by kernel_rfl
theorem ty_fo48_5 : fieldOff Tryz.prog 48 5 = some 5 := by kernel_rfl
theorem ty_fo48_6 : fieldOff Tryz.prog 48 6 = some 6 := by kernel_rfl
theorem ty_fo24_7 : fieldOff Tryz.prog 24 7 = some 7 := by kernel_rfl
theorem ty_fo48_7 : fieldOff Tryz.prog 48 7 = some 7 := by kernel_rfl
theorem ty_fo48_8 : fieldOff Tryz.prog 48 8 = some 8 := by kernel_rfl
theorem ty_fo24_9 : fieldOff Tryz.prog 24 9 = some 9 := by kernel_rfl
theorem ty_fo48_9 : fieldOff Tryz.prog 48 9 = some 9 := by kernel_rfl
theorem ty_fo24_10 : fieldOff Tryz.prog 24 10 = some 10 := by kernel_rfl
theorem ty_fo48_10 : fieldOff Tryz.prog 48 10 = some 10 := by kernel_rfl
theorem ty_fo48_11 : fieldOff Tryz.prog 48 11 = some 11 := by kernel_rfl
theorem ty_fo48_12 : fieldOff Tryz.prog 48 12 = some 12 := by kernel_rfl
theorem ty_fo24_13 : fieldOff Tryz.prog 24 13 = some 13 := by kernel_rfl
theorem ty_fo48_13 : fieldOff Tryz.prog 48 13 = some 13 := by kernel_rfl
theorem ty_fo48_0 : fieldOff Tryz.prog 48 0 = some 0 := by kernel_rfl
theorem ty_sz22 : szOf Tryz.prog 22 = some 1 := by kernel_rfl
theorem ty_sc22 : scalarT Tryz.prog 22 = true := by kernel_rfl
theorem ty_sl22 : sliceT Tryz.prog 22 = some 160 := by kernel_rfl
theorem ty_sz160 : szOf Tryz.prog 160 = some 4 := by kernel_rfl
theorem ty_st160 : structT Tryz.prog 160 = true := by kernel_rfl
theorem ty_pl160 : placesOf Tryz.prog 160 = some [(0, 1), (1, 1), (2, 1), (3, 1)] := by kernel_rfl
theorem ty_z160 : zeroOf Tryz.prog 160 = some [.string ⟨#[]⟩, .int .i64 0, .int .i64 0, .string ⟨#[]⟩] := by kernel_rfl
theorem ty_by160 : byOf Tryz.prog 160 = some 48 := by kernel_rfl
theorem ty_fo24_14 : fieldOff Tryz.prog 24 14 = some 14 := by kernel_rfl
theorem ty_sc46 : scalarT Tryz.prog 46 = true := by kernel_rfl
theorem ty_sl46 : sliceT Tryz.prog 46 = some 139 := by kernel_rfl
theorem ty_sz139 : szOf Tryz.prog 139 = some 4 := by kernel_rfl
theorem ty_pl139 : placesOf Tryz.prog 139 = some [(0, 1), (1, 1), (2, 1), (3, 1)] := by kernel_rfl
theorem ty_z139 : zeroOf Tryz.prog 139 = some [.string ⟨#[]⟩, .int .i64 0, .int .i64 0, .string ⟨#[]⟩] := by kernel_rfl
theorem ty_by139 : byOf Tryz.prog 139 = some 48 := by kernel_rfl
theorem ty_fo48_14 : fieldOff Tryz.prog 48 14 = some 14 := by kernel_rfl
theorem cf46 : CallsTo Tryz.prog 46 := callsTo Tryz.func46 (by kernel_rfl) (by kernel_rfl)
theorem cf47 : CallsTo Tryz.prog 47 := callsTo Tryz.func47 (by kernel_rfl) (by kernel_rfl)
theorem ty_fo139_3 : fieldOff Tryz.prog 139 3 = some 3 := by kernel_rfl
theorem ty_fo139_1 : fieldOff Tryz.prog 139 1 = some 1 := by kernel_rfl
theorem ty_fo139_2 : fieldOff Tryz.prog 139 2 = some 2 := by kernel_rfl
theorem ty_fo139_0 : fieldOff Tryz.prog 139 0 = some 0 := by kernel_rfl
theorem cf61 : CallsTo Tryz.prog 61 := callsTo Tryz.func61 (by kernel_rfl) (by kernel_rfl)
theorem cf62 : CallsTo Tryz.prog 62 := callsTo Tryz.func62 (by kernel_rfl) (by kernel_rfl)
theorem cf63 : CallsTo Tryz.prog 63 := callsTo Tryz.func63 (by kernel_rfl) (by kernel_rfl)
theorem ty_fo72_0 : fieldOff Tryz.prog 72 0 = some 0 := by kernel_rfl
theorem ty_fo72_2 : fieldOff Tryz.prog 72 2 = some 2 := by kernel_rfl
theorem cf64 : CallsTo Tryz.prog 64 := callsTo Tryz.func64 (by kernel_rfl) (by kernel_rfl)
theorem cf66 : CallsTo Tryz.prog 66 := callsTo Tryz.func66 (by kernel_rfl) (by kernel_rfl)
theorem cf68 : CallsTo Tryz.prog 68 := callsTo Tryz.func68 (by kernel_rfl) (by kernel_rfl)
theorem cf69 : CallsTo Tryz.prog 69 := callsTo Tryz.func69 (by kernel_rfl) (by kernel_rfl)
theorem cf70 : CallsTo Tryz.prog 70 := callsTo Tryz.func70 (by kernel_rfl) (by kernel_rfl)
theorem cf71 : CallsTo Tryz.prog 71 := callsTo Tryz.func71 (by kernel_rfl) (by kernel_rfl)
theorem cf72 : CallsTo Tryz.prog 72 := callsTo Tryz.func72 (by kernel_rfl) (by kernel_rfl)
theorem cf73 : CallsTo Tryz.prog 73 := callsTo Tryz.func73 (by kernel_rfl) (by kernel_rfl)
theorem cf74 : CallsTo Tryz.prog 74 := callsTo Tryz.func74 (by kernel_rfl) (by kernel_rfl)
theorem cf75 : CallsTo Tryz.prog 75 := callsTo Tryz.func75 (by kernel_rfl) (by kernel_rfl)
theorem cf76 : CallsTo Tryz.prog 76 := callsTo Tryz.func76 (by kernel_rfl) (by kernel_rfl)
theorem cf78 : CallsTo Tryz.prog 78 := callsTo Tryz.func78 (by kernel_rfl) (by kernel_rfl)
theorem cf79 : CallsTo Tryz.prog 79 := callsTo Tryz.func79 (by kernel_rfl) (by kernel_rfl)
theorem cf80 : CallsTo Tryz.prog 80 := callsTo Tryz.func80 (by kernel_rfl) (by kernel_rfl)
theorem cf81 : CallsTo Tryz.prog 81 := callsTo Tryz.func81 (by kernel_rfl) (by kernel_rfl)
theorem cf82 : CallsTo Tryz.prog 82 := callsTo Tryz.func82 (by kernel_rfl) (by kernel_rfl)
theorem cf83 : CallsTo Tryz.prog 83 := callsTo Tryz.func83 (by kernel_rfl) (by kernel_rfl)
theorem cf84 : CallsTo Tryz.prog 84 := callsTo Tryz.func84 (by kernel_rfl) (by kernel_rfl)
theorem ty_fo83_1 : fieldOff Tryz.prog 83 1 = some 1 := by kernel_rfl
theorem ty_sc85 : scalarT Tryz.prog 85 = true := by kernel_rfl
theorem ty_fo88_1 : fieldOff Tryz.prog 88 1 = some 1 := by kernel_rfl
theorem cf85 : CallsTo Tryz.prog 85 := callsTo Tryz.func85 (by kernel_rfl) (by kernel_rfl)
theorem ty_fo37_1 : fieldOff Tryz.prog 37 1 = some 1 := by kernel_rfl
theorem cf86 : CallsTo Tryz.prog 86 := callsTo Tryz.func86 (by kernel_rfl) (by kernel_rfl)
theorem ty_sc86 : scalarT Tryz.prog 86 = true := by kernel_rfl
theorem ty_fo88_2 : fieldOff Tryz.prog 88 2 = some 2 := by kernel_rfl
theorem cf87 : CallsTo Tryz.prog 87 := callsTo Tryz.func87 (by kernel_rfl) (by kernel_rfl)
theorem cf88 : CallsTo Tryz.prog 88 := callsTo Tryz.func88 (by kernel_rfl) (by kernel_rfl)
theorem ty_fo160_0 : fieldOff Tryz.prog 160 0 = some 0 := by kernel_rfl
theorem ty_sl121 : sliceT Tryz.prog 121 = some 3 := by kernel_rfl
theorem ty_by3 : byOf Tryz.prog 3 = some 8 := by kernel_rfl
theorem cf89 : CallsTo Tryz.prog 89 := callsTo Tryz.func89 (by kernel_rfl) (by kernel_rfl)
theorem cf90 : CallsTo Tryz.prog 90 := callsTo Tryz.func90 (by kernel_rfl) (by kernel_rfl)
theorem cf91 : CallsTo Tryz.prog 91 := callsTo Tryz.func91 (by kernel_rfl) (by kernel_rfl)
theorem cf33 : CallsTo Tryz.prog 33 := callsTo Tryz.func33 (by kernel_rfl) (by kernel_rfl)
theorem cf34 : CallsTo Tryz.prog 34 := callsTo Tryz.func34 (by kernel_rfl) (by kernel_rfl)
theorem ty_fo93_1 : fieldOff Tryz.prog 93 1 = some 1 := by kernel_rfl
theorem ty_fo93_0 : fieldOff Tryz.prog 93 0 = some 0 := by kernel_rfl
theorem cf35 : CallsTo Tryz.prog 35 := callsTo Tryz.func35 (by kernel_rfl) (by kernel_rfl)
theorem cf92 : CallsTo Tryz.prog 92 := callsTo Tryz.func92 (by kernel_rfl) (by kernel_rfl)
theorem cf93 : CallsTo Tryz.prog 93 := callsTo Tryz.func93 (by kernel_rfl) (by kernel_rfl)
theorem cf94 : CallsTo Tryz.prog 94 := callsTo Tryz.func94 (by kernel_rfl) (by kernel_rfl)
theorem cf95 : CallsTo Tryz.prog 95 := callsTo Tryz.func95 (by kernel_rfl) (by kernel_rfl)
theorem cf96 : CallsTo Tryz.prog 96 := callsTo Tryz.func96 (by kernel_rfl) (by kernel_rfl)
theorem cf97 : CallsTo Tryz.prog 97 := callsTo Tryz.func97 (by kernel_rfl) (by kernel_rfl)
theorem cf98 : CallsTo Tryz.prog 98 := callsTo Tryz.func98 (by kernel_rfl) (by kernel_rfl)
theorem cf99 : CallsTo Tryz.prog 99 := callsTo Tryz.func99 (by kernel_rfl) (by kernel_rfl)
theorem cf100 : CallsTo Tryz.prog 100 := callsTo Tryz.func100 (by kernel_rfl) (by kernel_rfl)
theorem cf37 : CallsTo Tryz.prog 37 := callsTo Tryz.func37 (by kernel_rfl) (by kernel_rfl)
theorem cf101 : CallsTo Tryz.prog 101 := callsTo Tryz.func101 (by kernel_rfl) (by kernel_rfl)
theorem cf102 : CallsTo Tryz.prog 102 := callsTo Tryz.func102 (by kernel_rfl) (by kernel_rfl)
theorem cf103 : CallsTo Tryz.prog 103 := callsTo Tryz.func103 (by kernel_rfl) (by kernel_rfl)
theorem cf104 : CallsTo Tryz.prog 104 := callsTo Tryz.func104 (by kernel_rfl) (by kernel_rfl)
theorem cf106 : CallsTo Tryz.prog 106 := callsTo Tryz.func106 (by kernel_rfl) (by kernel_rfl)
theorem cf105 : CallsTo Tryz.prog 105 := callsTo Tryz.func105 (by kernel_rfl) (by kernel_rfl)
theorem cf107 : CallsTo Tryz.prog 107 := callsTo Tryz.func107 (by kernel_rfl) (by kernel_rfl)
theorem cf108 : CallsTo Tryz.prog 108 := callsTo Tryz.func108 (by kernel_rfl) (by kernel_rfl)
theorem ty_fo104_1 : fieldOff Tryz.prog 104 1 = some 1 := by kernel_rfl
theorem ty_sz102 : szOf Tryz.prog 102 = some 1 := by kernel_rfl
theorem ty_sc102 : scalarT Tryz.prog 102 = true := by kernel_rfl
theorem ty_u102 : Tryz.prog.underlying 102 = some (.pointer (Tryz.prog.pointee 102)) := by kernel_rfl
theorem cf109 : CallsTo Tryz.prog 109 := callsTo Tryz.func109 (by kernel_rfl) (by kernel_rfl)
theorem cf110 : CallsTo Tryz.prog 110 := callsTo Tryz.func110 (by kernel_rfl) (by kernel_rfl)
theorem cf111 : CallsTo Tryz.prog 111 := callsTo Tryz.func111 (by kernel_rfl) (by kernel_rfl)
theorem cf112 : CallsTo Tryz.prog 112 := callsTo Tryz.func112 (by kernel_rfl) (by kernel_rfl)
theorem cf113 : CallsTo Tryz.prog 113 := callsTo Tryz.func113 (by kernel_rfl) (by kernel_rfl)
theorem cf114 : CallsTo Tryz.prog 114 := callsTo Tryz.func114 (by kernel_rfl) (by kernel_rfl)
theorem ty_fo160_1 : fieldOff Tryz.prog 160 1 = some 1 := by kernel_rfl
theorem ty_fo160_2 : fieldOff Tryz.prog 160 2 = some 2 := by kernel_rfl
theorem ty_fo160_3 : fieldOff Tryz.prog 160 3 = some 3 := by kernel_rfl
theorem cf126 : CallsTo Tryz.prog 126 := callsTo Tryz.func126 (by kernel_rfl) (by kernel_rfl)
theorem cf127 : CallsTo Tryz.prog 127 := callsTo Tryz.func127 (by kernel_rfl) (by kernel_rfl)
theorem cf128 : CallsTo Tryz.prog 128 := callsTo Tryz.func128 (by kernel_rfl) (by kernel_rfl)
theorem cf132 : CallsTo Tryz.prog 132 := callsTo Tryz.func132 (by kernel_rfl) (by kernel_rfl)
theorem cf133 : CallsTo Tryz.prog 133 := callsTo Tryz.func133 (by kernel_rfl) (by kernel_rfl)
theorem cf77 : CallsTo Tryz.prog 77 := callsTo Tryz.func77 (by kernel_rfl) (by kernel_rfl)
theorem ty_u204 : Tryz.prog.underlying 204 = some (.int .u64) := by kernel_rfl
theorem ty_sz202 : szOf Tryz.prog 202 = some 2 := by kernel_rfl
theorem ty_st202 : structT Tryz.prog 202 = true := by kernel_rfl
theorem ty_z202 : zeroOf Tryz.prog 202 = some [.int .u8 0, .int .u8 0] := by kernel_rfl
theorem ty_fo202_0 : fieldOff Tryz.prog 202 0 = some 0 := by kernel_rfl
theorem ty_fo202_1 : fieldOff Tryz.prog 202 1 = some 1 := by kernel_rfl
theorem cf135 : CallsTo Tryz.prog 135 := callsTo Tryz.func135 (by kernel_rfl) (by kernel_rfl)
theorem ty_if20 : Tryz.prog.underlying 20 = some (.interface (Tryz.prog.methodsAt 20)) := by kernel_rfl
theorem cf136 : CallsTo Tryz.prog 136 := callsTo Tryz.func136 (by kernel_rfl) (by kernel_rfl)
theorem ty_cc95 : Tryz.prog.concrete 95 = true := by kernel_rfl
theorem ty_mp207 : mapT Tryz.prog 207 = some (9, 3) := by kernel_rfl
theorem ty_zv3 : zvOf Tryz.prog 3 = some (.int .i64 0) := by kernel_rfl
theorem cf137 : CallsTo Tryz.prog 137 := callsTo Tryz.func137 (by kernel_rfl) (by kernel_rfl)
theorem cf139 : CallsTo Tryz.prog 139 := callsTo Tryz.func139 (by kernel_rfl) (by kernel_rfl)
theorem ty_u21 : Tryz.prog.underlying 21 = some (.int .i32) := by kernel_rfl
theorem cf138 : CallsTo Tryz.prog 138 := callsTo Tryz.func138 (by kernel_rfl) (by kernel_rfl)
theorem cf140 : CallsTo Tryz.prog 140 := callsTo Tryz.func140 (by kernel_rfl) (by kernel_rfl)
theorem cf141 : CallsTo Tryz.prog 141 := callsTo Tryz.func141 (by kernel_rfl) (by kernel_rfl)
theorem cf142 : CallsTo Tryz.prog 142 := callsTo Tryz.func142 (by kernel_rfl) (by kernel_rfl)
theorem cf143 : CallsTo Tryz.prog 143 := callsTo Tryz.func143 (by kernel_rfl) (by kernel_rfl)
theorem cf144 : CallsTo Tryz.prog 144 := callsTo Tryz.func144 (by kernel_rfl) (by kernel_rfl)
theorem cf145 : CallsTo Tryz.prog 145 := callsTo Tryz.func145 (by kernel_rfl) (by kernel_rfl)
theorem cf146 : CallsTo Tryz.prog 146 := callsTo Tryz.func146 (by kernel_rfl) (by kernel_rfl)
theorem cf147 : CallsTo Tryz.prog 147 := callsTo Tryz.func147 (by kernel_rfl) (by kernel_rfl)
theorem cf149 : CallsTo Tryz.prog 149 := callsTo Tryz.func149 (by kernel_rfl) (by kernel_rfl)
theorem cf148 : CallsTo Tryz.prog 148 := callsTo Tryz.func148 (by kernel_rfl) (by kernel_rfl)
theorem ty_fo104_0 : fieldOff Tryz.prog 104 0 = some 0 := by kernel_rfl
theorem cf153 : CallsTo Tryz.prog 153 := callsTo Tryz.func153 (by kernel_rfl) (by kernel_rfl)
theorem ty_if111 : Tryz.prog.underlying 111 = some (.interface (Tryz.prog.methodsAt 111)) := by kernel_rfl
theorem cf154 : CallsTo Tryz.prog 154 := callsTo Tryz.func154 (by kernel_rfl) (by kernel_rfl)
theorem cf155 : CallsTo Tryz.prog 155 := callsTo Tryz.func155 (by kernel_rfl) (by kernel_rfl)
theorem cf156 : CallsTo Tryz.prog 156 := callsTo Tryz.func156 (by kernel_rfl) (by kernel_rfl)
theorem cf157 : CallsTo Tryz.prog 157 := callsTo Tryz.func157 (by kernel_rfl) (by kernel_rfl)
theorem cf158 : CallsTo Tryz.prog 158 := callsTo Tryz.func158 (by kernel_rfl) (by kernel_rfl)
theorem cf159 : CallsTo Tryz.prog 159 := callsTo Tryz.func159 (by kernel_rfl) (by kernel_rfl)
theorem cf184 : CallsTo Tryz.prog 184 := callsTo Tryz.func184 (by kernel_rfl) (by kernel_rfl)
theorem cf186 : CallsTo Tryz.prog 186 := callsTo Tryz.func186 (by kernel_rfl) (by kernel_rfl)
theorem cf188 : CallsTo Tryz.prog 188 := callsTo Tryz.func188 (by kernel_rfl) (by kernel_rfl)
theorem cf189 : CallsTo Tryz.prog 189 := callsTo Tryz.func189 (by kernel_rfl) (by kernel_rfl)
theorem cf194 : CallsTo Tryz.prog 194 := callsTo Tryz.func194 (by kernel_rfl) (by kernel_rfl)
theorem cf195 : CallsTo Tryz.prog 195 := callsTo Tryz.func195 (by kernel_rfl) (by kernel_rfl)
theorem cf224 : CallsTo Tryz.prog 224 := callsTo Tryz.func224 (by kernel_rfl) (by kernel_rfl)
theorem cf238 : CallsTo Tryz.prog 238 := callsTo Tryz.func238 (by kernel_rfl) (by kernel_rfl)
variable {P : Program} {n : NN} {w : World} {a : Act} {L : List (Nat × Value)} {Γ : List Asn} {dst : Option Nat}
variable {ty : Nat} {pos : String} {af : Array Edge} {g : Option (Nat × Bool)}
theorem run_append_nothing (t ty e : TypeId) (i : TypeInfo) (size : Nat) (ht : P.underlying t = some (.slice e)) (hi : P.info? e = some i) (v : Value) (m : Nat) (xs : List Value) (hown : w.ownsRow 0 e size v m xs) (ad : Option Addr) (c : Nat) :
 (Builtin.append_ #[t, t] ty #[v, .slice ad 0 c]).run P w = .ok v w := by
 rcases hown.2 with ⟨rfl, rfl⟩ | ⟨g, cap, cur, rfl, _, _, hnc, _⟩
 · cases ad <;> simp [Builtin.append_, run_underlying ht, sizeOf, typeInfo, hi, Builtin.lenOf, Builtin.firstCells, loadCells, loadCellsFrom]
 · cases ad <;> simp [Builtin.append_, run_underlying ht, sizeOf, typeInfo, hi, Builtin.lenOf, Builtin.firstCells, loadCells, loadCellsFrom, hnc, storeCells]
theorem e_appendE {T E s b m c : Nat} {zs : List Value} {x y : Operand} {v : Value} {ad : Option Addr} {cs : List Value} (hx : ev L x = some v) (hy : ev L y = some (.slice ad 0 c))
 (hT : sliceT P T = some E) (hs : szOf P E = some s) (hb : byOf P E = some b) (hz : zeroOf P E = some zs) (hm : ownA E s v m cs ∈ Γ) : Ex P n a L Γ ⟨dst, .call ⟨.builtin .append, #[x, y], #[T, T]⟩, ty, pos, af, g⟩ v := fun hs' w hh => by
 obtain ⟨i, z, hi, hz', hsz, hby, hzc⟩ := info_of hs hb hz
 have hown : w.ownsRow 0 E s v m cs := hh _ hm
 have h := run_append_nothing (P := P) (w := w) T ty E i s (sliceT_eq hT) hi v m cs hown ad c
 simp [execOp, resolve, invoke, builtin, hs'.ev hx, hs'.ev hy, h]
section
variable {F0 : Nat → Prop} {w0 : World} {K : Act → World → Prop} {Q : Exit → Act → World → Prop} {d : Nat}
theorem s_appendL {T E s b : Nat} {zs : List Value} {x y : Operand} {v : Value} {m k c : Nat} {q : Option Addr} {cs ys : List Value} {Γ' : Value → List Asn} (hS : St n F0 w0 a w L Γ) (hx : ev L x = some v) (hy : ev L y = some (.slice q k c))
 (hT : sliceT P T = some E) (hs : szOf P E = some s) (hb : byOf P E = some b) (hz : zeroOf P E = some zs) (hzl : Nat.beq zs.length s = true) (hs0 : Nat.blt 0 s = true) (hn : Nat.blt d n.n = true)
 (hm : ownA E s v m cs ∈ Γ) (hyl : ys.length = k * s) (hq : (k = 0 ∧ ys = []) ∨ ∃ bx ox, q = some ⟨bx, ox, none⟩ ∧ ∀ j u, ys[j]? = some u → w.cell? ⟨bx, ox + j, none⟩ = some u) (h1 : ∀ u ∈ ys, isOne u = true) (hbd : (m + k) * b ≤ 140737488355328 ∧ m + k ≤ 4611686018427387904)
 (hr : ∀ v', Rep (ownA E s v m cs) (ownA E s v' (m + k) (cs ++ ys)) Γ (Γ' v'))
 (h : ∀ v' a' w', (v' = .slice none 0 0 ↔ v = .slice none 0 0 ∧ k = 0) → St n F0 w0 a' w' ((d, v') :: L) (Γ' v') → K a' w') : OW P ⟨some d, .call ⟨.builtin .append, #[x, y], #[T, T]⟩, ty, pos, af, g⟩ a w K Q := by
 rcases hq with ⟨rfl, rfl⟩ | ⟨bx, ox, rfl, hys⟩
 · refine s_e hS (e_appendE hx hy hT hs hb hz hm) hn (fun a' hS' => h v a' w (by simp) ?_)
   have hown : w.ownsRow 0 E s v m cs := hS.get hm
   refine hS'.upd (hr v) (Chg.refl _ _) ?_ (fun b hb => .inl hb) rfl
   have := ok_own (w := w) (E := E) (s := s) (v := v) (m := m) (xs := cs) hown
   rwa [Nat.add_zero, List.append_nil]
 · exact s_append hS hx hy hT hs hb hz hzl hs0 hn hm hyl hys h1 hbd hr h
end
end Go.Proofs.YtlccmgeclhdegaaGreatDoor
namespace Go.Proofs.YtlccmgeclhdegaaGreatDoor
open Go.RowKit
variable {P : Program} {n : NN} {F0 : Nat → Prop} {w0 w : World} {a : Act} {L : List (Nat × Value)} {Γ : List Asn} {dst : Option Nat}
variable {ty : Nat} {pos : String} {af : Array Edge} {g : Option (Nat × Bool)} {K : Act → World → Prop} {Q : Exit → Act → World → Prop} {d : Nat}
def leS (x y : ByteArray) : Bool := Go.Op.bytesLess x.toList y.toList || (x.toList == y.toList)
theorem e_leS {t t' : TypeId} {x y : Operand} {i j : ByteArray} (hx : ev L x = some (.string i)) (hy : ev L y = some (.string j)) : Ex P n a L Γ ⟨dst, .binOp .leq t x y t', ty, pos, af, g⟩ (.bool (leS i j)) := fun hs w hh => by
 simp only [execOp, hs.ev hx, hs.ev hy, eqGuard, binOp, Op.stringOp]
 rfl
def tailP (q : Option Addr) (k c s : Nat) : Option Addr := if c = k then q else q.map (·.add (k * s))
theorem e_slT {T E s m c : Nat} {p : Option Addr} {x y : Operand} {k : IntKind} {j : Nat} (hx : ev L x = some (.slice p m c)) (hy : ev L y = some (.int k (j : Int))) (hT : sliceT P T = some E) (hs : szOf P E = some s) (hj : j ≤ m) :
 Ex P n a L Γ ⟨dst, .slice T x (some y) none none, ty, pos, af, g⟩ (.slice (tailP p j c s) (m - j) (c - j)) := fun hs' w hh => by
 obtain ⟨h1, h2⟩ := sliceT_elem hT
 have h3 := run_sliceAt_slice (P := P) (w := w) T (.slice p m c) (some (.int k (j : Int))) none none h1
 have h4 := run_slice_l (P := P) (w := w) T p m c h1 k (j : Int) (by omega) (by omega)
 rw [h2, sizeOf_run hs] at h4
 simp [execOp, hs'.ev hx, hs'.ev hy, h3, h4, Result.andThen, sliced, tailP]
end Go.Proofs.YtlccmgeclhdegaaGreatDoor
namespace Go.Proofs.YtlccmgeclhdegaaGreatDoor
open Go.RowKit
def ByAt (v : Value) (l : List Int) (w : World) : Prop := (l = [] ∧ ∃ a c, v = .slice a 0 c) ∨ ∃ b off c, l ≠ [] ∧ v = .slice (some ⟨b, off, none⟩) l.length c ∧ l.length ≤ c ∧ (∀ j x, l[j]? = some x → w.cell? ⟨b, off + j, none⟩ = some (.int .u8 x)) ∧ b < w.heap.size
def byF (v : Value) (l : List Int) (k : Nat) : Prop := l ≠ [] ∧ ∃ off m c, v = .slice (some ⟨k, off, none⟩) m c
theorem ByAt.shape {v : Value} {l : List Int} {w : World} (h : ByAt v l w) : ∃ a c, v = .slice a l.length c := by
 rcases h with ⟨rfl, a, c, rfl⟩ | ⟨b, off, c, _, rfl, _, _, _⟩
 · exact ⟨a, c, rfl⟩
 · exact ⟨_, c, rfl⟩
theorem ByAt.some {v : Value} {l : List Int} {w : World} (h : ByAt v l w) (hne : l ≠ []) : ∃ b off c, v = .slice (some ⟨b, off, none⟩) l.length c ∧ l.length ≤ c ∧ ∀ j x, l[j]? = some x → w.cell? ⟨b, off + j, none⟩ = some (.int .u8 x) := by
 rcases h with ⟨h0, _⟩ | ⟨b, off, c, _, h1, h2, h3, _⟩
 · exact absurd h0 hne
 · exact ⟨b, off, c, h1, h2, h3⟩
theorem ByAt.lt {v : Value} {l : List Int} {w : World} (h : ByAt v l w) (k : Nat) (hk : byF v l k) : k < w.heap.size := by
 obtain ⟨hne, off, m, c, e⟩ := hk
 rcases h with ⟨h0, _⟩ | ⟨b, off', c', _, h1, _, _, h3⟩
 · exact absurd h0 hne
 · rw [h1] at e; injection e with e1; injection e1 with e2; injection e2 with e3; omega
theorem cell_keep {w w' : World} {b k : Nat} (hb : w'.heap[b]? = w.heap[b]?) : w'.cell? ⟨b, k, none⟩ = w.cell? ⟨b, k, none⟩ := by
 unfold World.cell?; rw [hb]
theorem ByAt.keep {v : Value} {l : List Int} {w w' : World} (h : ByAt v l w) (hw : ∀ k, byF v l k → w'.heap[k]? = w.heap[k]?) : ByAt v l w' := by
 rcases h with h | ⟨b, off, c, h0, h1, h2, h3, h4⟩
 · exact .inl h
 · have hb := hw b ⟨h0, off, _, c, h1⟩
   refine .inr ⟨b, off, c, h0, h1, h2, fun j x hj => (cell_keep hb).trans (h3 j x hj), ?_⟩
   rw [Array.getElem?_eq_getElem h4] at hb
   exact (Array.getElem?_eq_some_iff.1 hb).1
theorem ByAt.piece {q : Option Addr} {n c : Nat} {l : List Int} {w : World} (h : ByAt (.slice q n c) l w) {j k : Nat} (hjk : j ≤ k) (hk : k ≤ n) : ByAt (.slice (tailP q j c 1) (k - j) (c - j)) ((l.take k).drop j) w := by
 have hn : n = l.length := by obtain ⟨a, c', e⟩ := h.shape; injection e
 have hlen : ((l.take k).drop j).length = k - j := by rw [List.length_drop, List.length_take]; omega
 by_cases he : j = k
 · refine .inl ⟨?_, tailP q j c 1, c - j, by rw [he, Nat.sub_self]⟩
   apply List.eq_nil_of_length_eq_zero; omega
 · have hne : l ≠ [] := fun e => by rw [e] at hn; simp at hn; omega
   rcases h with ⟨h0, _⟩ | ⟨b, off, c', _, h1, h2, h3, h4⟩
   · exact absurd h0 hne
   · injection h1 with e1 e2 e3
     subst e1; subst e3
     have hcj : ¬ c = j := by omega
     refine .inr ⟨b, off + j, c - j, fun e => ?_, ?_, by omega, fun i x hi => ?_, h4⟩
     · have := congrArg List.length e; rw [hlen] at this; simp at this; omega
     · unfold tailP; rw [if_neg hcj, hlen, Nat.mul_one]; simp only [Option.map_some, addr_add]
     · rw [List.getElem?_drop, List.getElem?_take] at hi
       split at hi
       · rw [Nat.add_assoc]; exact h3 _ _ hi
       · cases hi
section
variable {P : Program} {n : NN} {F0 : Nat → Prop} {w0 w : World} {a : Act} {L : List (Nat × Value)} {Γ : List Asn} {dst : Option Nat}
variable {K : Act → World → Prop} {Q : Exit → Act → World → Prop} {d ty : Nat} {pos : String} {af : Array Edge} {g : Option (Nat × Bool)}
theorem e_slB {T E s m c : Nat} {p : Option Addr} {x y z : Operand} {k k' : IntKind} {i j : Nat} (hx : ev L x = some (.slice p m c)) (hy : ev L y = some (.int k (i : Int))) (hz : ev L z = some (.int k' (j : Int))) (hT : sliceT P T = some E) (hs : szOf P E = some s) (hj : i ≤ j ∧ j ≤ c) :
 Ex P n a L Γ ⟨dst, .slice T x (some y) (some z) none, ty, pos, af, g⟩ (.slice (tailP p i c s) (j - i) (c - i)) := fun hs' w hh => by
 obtain ⟨h1, h2⟩ := sliceT_elem hT
 have h3 := run_sliceAt_slice (P := P) (w := w) T (.slice p m c) (some (.int k (i : Int))) (some (.int k' (j : Int))) none h1
 have h4 := run_slice_lh (P := P) (w := w) T p m c h1 k k' (i : Int) (j : Int) (by omega) (by omega) (by omega)
 rw [h2, sizeOf_run hs] at h4
 simp [execOp, hs'.ev hx, hs'.ev hy, hs'.ev hz, h3, h4, Result.andThen, sliced, tailP]
theorem e_str {T T' E : Nat} {x : Operand} {v : Value} {l : List Int} (hx : ev L x = some v) (hT : sliceT P T = some E) (hE : P.underlying E = some (.int .u8)) (hT' : P.underlying T' = some .string) (hb : ∀ w, Hd Γ w → ByAt v l w) : Ex P n a L Γ ⟨dst, .convert T T' x, ty, pos, af, g⟩ (.string (strOfNums l)) := fun hs w hh => by
 have hcv : (convert T T' v).run P w = .ok (.string (strOfNums l)) w := by
  rcases hb w hh with ⟨rfl, a, c, rfl⟩ | ⟨b, off, c, _, rfl, _, h3, _⟩
  · rw [run_convert_bytes_string w T T' E a 0 c (sliceT_eq hT) hE hT']
    cases a with
    | none => simp [Conv.bytesToString]; rfl
    | some ad => simp [Conv.bytesToString, loadCells]; rfl
  · exact run_convert_bytes_arg w T E (sliceT_eq hT) hE b off l.length c l rfl (fun i hi => by
      have := h3 i (l.getD i 0) (by rw [List.getD_eq_getElem?_getD, List.getElem?_eq_getElem hi]; rfl)
      exact this) T' hT'
 simp [execOp, hs.ev hx, hcv]
def rkA (b : Nat) (cs : List Value) (E : Nat) : Asn := .any (fun k => k = b) (fun w => ∃ f, w.heap[b]? = some (.cells cs.toArray E f)) true
theorem s_convConst {T E b m c : Nat} {cs : List Value} {x : Operand} {Γ' : List Asn} (hS : St n F0 w0 a w L Γ) (hx : ev L x = some (.slice (some ⟨b, 0, none⟩) m c)) (hT : sliceT P T = some E) (hE : P.underlying E = some (.int .u8)) (hn : Nat.blt d n.n = true)
 (hr : Rep (.blk b cs E) (rkA b cs E) Γ Γ') (h : ∀ a' w', St n F0 w0 a' w' ((d, .slice (some ⟨b, 0, none⟩) m c) :: L) Γ' → K a' w') : OW P ⟨some d, .convert T T x, ty, pos, af, g⟩ a w K Q := by
 have hb : w.heap[b]? = some (.cells cs.toArray E (0, 0)) := hS.get hr.mem
 have hlt := (Array.getElem?_eq_some_iff.1 hb).1
 have hsh : w.shape? b = some (E, cs.length) := by unfold World.shape?; rw [hb]; simp
 have hcv : (convert T T (.slice (some ⟨b, 0, none⟩) m c)).run P w = .ok (.slice (some ⟨b, 0, none⟩) m c) (w.freeze ⟨b, cs.length, none⟩ 1) := by
  simp [convert, run_underlying (sliceT_eq hT), run_underlying hE, markStringish, hsh]
 have he : (execOp a.eval (⟨some d, .convert T T x, ty, pos, af, g⟩ : Oper)).run P w = .ok (.value (.slice (some ⟨b, 0, none⟩) m c)) (w.freeze ⟨b, cs.length, none⟩ 1) := by
  simp [execOp, hS.sl.ev hx, hcv]
 refine ⟨?_⟩
 unfold Oper.wp
 rw [he]
 have hfr : (w.freeze ⟨b, cs.length, none⟩ 1).heap[b]? = some (.cells cs.toArray E (cs.length, cs.length + 1)) := by
  unfold World.freeze
  rw [if_neg (by decide)]
  simp [Array.getElem?_modify, hb]
 refine h _ _ ((hS.upd hr ⟨?_, ?_, ?_, ?_, fun k hk hne => ?_⟩ ⟨fun k hk => ?_, fun w' hw => ⟨_, (hw b rfl).trans hfr⟩⟩ (fun k hk => .inl hk) rfl).put hn _)
 · unfold World.freeze; rw [if_neg (by decide)]
 · unfold World.freeze; rw [if_neg (by decide)]
 · unfold World.freeze; rw [if_neg (by decide)]
 · unfold World.freeze; rw [if_neg (by decide)]; simp
 · unfold World.freeze; rw [if_neg (by decide)]
   have : b ≠ k := fun e => hne e.symm
   simp [Array.getElem?_modify, this]
 · obtain rfl : k = b := hk
   exact (Array.getElem?_eq_some_iff.1 hfr).1
end
end Go.Proofs.YtlccmgeclhdegaaGreatDoor
namespace Go.Proofs.YtlccmgeclhdegaaGreatDoor
open Go.RowKit
variable {P : Program} {n : NN} {F0 : Nat → Prop} {w0 w : World} {a : Act} {L : List (Nat × Value)} {Γ : List Asn} {dst : Option Nat}
variable {ty : Nat} {pos : String} {af : Array Edge} {g : Option (Nat × Bool)} {K : Act → World → Prop} {Q : Exit → Act → World → Prop} {d : Nat}
end Go.Proofs.YtlccmgeclhdegaaGreatDoor
namespace Go.Proofs.YtlccmgeclhdegaaGreatDoor
open Go.RowKit
variable {Γ : List Asn}
end Go.Proofs.YtlccmgeclhdegaaGreatDoor
namespace Go.Proofs.YtlccmgeclhdegaaGreatDoor
open Go.RowKit
def oldφ (W w : World) : Prop := W.heap.size ≤ w.heap.size ∧ ∀ k, k < W.heap.size → w.heap[k]? = W.heap[k]?
def oldA (W : World) : Asn := .any (fun k => k < W.heap.size) (oldφ W) false
theorem old_ok {W w : World} (h : oldφ W w) : (oldA W).ok w := ⟨fun _ hk => Nat.lt_of_lt_of_le hk h.1, fun w' hw => by
  refine ⟨?_, fun k hk => (hw k hk).trans (h.2 k hk)⟩
  rcases Nat.eq_zero_or_pos W.heap.size with h0 | h0
  · omega
  · have h1 := (hw (W.heap.size - 1) (show W.heap.size - 1 < W.heap.size by omega)).trans (h.2 (W.heap.size - 1) (by omega))
    rw [Array.getElem?_eq_getElem (show W.heap.size - 1 < W.heap.size by omega)] at h1
    have := (Array.getElem?_eq_some_iff.1 h1).1
    omega⟩
theorem old_refl (W : World) : oldφ W W := ⟨Nat.le_refl _, fun _ _ => rfl⟩
theorem old_chg {W w w' : World} (h : oldφ W w) (hc : Chg noB w w') : oldφ W w' := ⟨Nat.le_trans h.1 hc.size, fun k hk => (hc.block k (Nat.lt_of_lt_of_le hk h.1) (fun h => h)).trans (h.2 k hk)⟩
theorem old_cell {W w : World} (h : oldφ W w) {a : Addr} {v : Value} (hc : W.cell? a = some v) : w.cell? a = some v := by
 have hlt := World.block_lt_of_cell? W a hc
 unfold World.cell? at *
 rw [h.2 _ hlt]; exact hc
theorem old_by {W w : World} (h : oldφ W w) {v : Value} {l : List Int} (hb : ByAt v l W) : ByAt v l w := hb.keep fun k hk => h.2 k (hb.lt k hk)
def tx (l : List UInt8) : ByteArray := ⟨l.toArray⟩
theorem tx_list (l : List UInt8) : (tx l).data.toList = l := rfl
theorem tx_size (l : List UInt8) : (tx l).size = l.length := by show l.toArray.size = l.length; simp
theorem by_read {q : Option Addr} {m c : Nat} {l : List Int} {w : World} (hm : ByAt (.slice q m c) l w) : (m = 0 ∧ l.map (Value.int .u8) = []) ∨ ∃ bx ox, q = some ⟨bx, ox, none⟩ ∧ ∀ j u, (l.map (Value.int .u8))[j]? = some u → w.cell? ⟨bx, ox + j, none⟩ = some u := by
 rcases hm with ⟨rfl, a, c', e⟩ | ⟨b, off, c', _, e, _, hr, _⟩
 · injection e with _ e2; exact .inl ⟨e2, rfl⟩
 · injection e with e1
   subst e1
   refine .inr ⟨b, off, rfl, fun j u hj => ?_⟩
   rw [List.getElem?_map, Option.map_eq_some_iff] at hj
   obtain ⟨x, hx, rfl⟩ := hj
   exact hr j x hx
theorem one_B (l : List Int) : ∀ u ∈ l.map (Value.int .u8), isOne u = true := fun u hu => by
 obtain ⟨x, _, rfl⟩ := List.mem_map.1 hu; rfl
theorem own_at {w : World} {E s m c : Nat} {q : Option Addr} {xs : List Value} (h : w.ownsRow 0 E s (.slice q m c) m xs) (hm : m ≠ 0) : ∃ g, q = some ⟨g, 0, none⟩ := by
 rcases h.2 with ⟨_, e2⟩ | ⟨g, cap, cur, e1, _⟩
 · exact absurd e2 hm
 · injection e1 with e3; exact ⟨g, e3⟩
theorem by_of_own {E : Nat} {v : Value} {l : List Int} {w : World} (h : (ownA E 1 v l.length (l.map (Value.int .u8))).ok w) : ByAt v l w := by
 have hn : w.ownsRow 0 E 1 v l.length (l.map (Value.int .u8)) := h.now
 rcases hn.2 with ⟨rfl, h0⟩ | ⟨g, cap, cur, rfl, _, _, hc, _⟩
 · exact .inl ⟨List.eq_nil_of_length_eq_zero h0, _, _, rfl⟩
 · by_cases hl : l = []
   · subst hl; exact .inl ⟨rfl, _, _, rfl⟩
   · refine .inr ⟨g, 0, cap, hl, rfl, hc, fun j x hj => ?_, h.lt g rfl⟩
     have h2 := hn.cells (g := g) rfl j (.int .u8 x) (by rw [List.getElem?_map, hj]; rfl)
     rw [addr_add] at h2
     exact h2
section
variable {P : Program} {n : NN} {F0 : Nat → Prop} {w0 w : World} {a : Act} {L : List (Nat × Value)} {Γ : List Asn}
variable {dst : Option Nat} {K : Act → World → Prop} {Q : Exit → Act → World → Prop} {ty : Nat} {pos : String} {af : Array Edge} {g : Option (Nat × Bool)}
theorem storeAt_run {E b k : Nat} : ∀ (vs : List Value) (i : Nat) (w : World) (cs cs' : List Value), w.heap[b]? = some (.cells cs.toArray E (0, 0)) → UpdA cs (k + i) vs cs' → (∀ v ∈ vs, isOne v = true) →
 ∃ w', (storeCells ⟨b, k, none⟩ vs i).run P w = .ok () w' ∧ w'.heap[b]? = some (.cells cs'.toArray E (0, 0)) ∧ Chg (fun k => k = b) w w' := by
 intro vs
 induction vs with
 | nil => intro i w cs cs' hb hu _; cases hu; exact ⟨w, by simp [storeCells], hb, Chg.refl _ _⟩
 | cons v vs ih =>
   intro i w cs cs' hb hu h1
   cases hu with
   | cons h t =>
     obtain ⟨e, hk⟩ := h.eq
     have hv := h1 v (by simp)
     have hc : ∃ u, cs[k + i]? = some u := ⟨cs[k + i], by simp [hk]⟩
     obtain ⟨u, hu⟩ := hc
     have hcell := cell_of_blk hb hu
     have hs := setCell_of_blk (k := k + i) hb v
     rw [← e] at hs
     obtain ⟨w', h2, h3, h4⟩ := ih (i + 1) _ _ _ hs t (fun u hu => h1 u (by simp [hu]))
     refine ⟨w', ?_, h3, (Chg.setCell w ⟨b, k + i, none⟩ v).trans h4 (fun i hi _ => hi)⟩
     simp [storeCells, addr_add, run_store _ _ _ _ _ (isOne_oneCell hv), hcell, frozen_of_blk hb, h2]
theorem s_storeB {T b k m : Nat} {x y : Operand} {cs cs' l : List Value} {E : TypeId} {Γ' : List Asn} (hS : St n F0 w0 a w L Γ) (hx : ev L x = some (.pointer (some ⟨b, k, none⟩))) (hy : ev L y = some (.agg l.toArray))
 (hz : szOf P T = some m) (hr : Rep (.blk b cs E) (.blk b cs' E) Γ Γ') (hl : Nat.beq l.length m = true) (hu : UpdA cs k l cs') (h1 : l.all isOne = true) (h : ∀ w', St n F0 w0 a w' L Γ' → K a w') : OW P ⟨none, .store T x y, ty, pos, af, g⟩ a w K Q := by
 have e2 := Nat.eq_of_beq_eq_true hl
 have hb : w.heap[b]? = some (.cells cs.toArray E (0, 0)) := hS.get hr.mem
 obtain ⟨w', h2, h3, h4⟩ := storeAt_run (P := P) (k := k) l 0 w cs cs' hb hu (by simpa using h1)
 have he : (execOp a.eval (⟨none, .store T x y, ty, pos, af, g⟩ : Oper)).run P w = .ok .skip w' := by
  simp [execOp, hS.sl.ev hx, hS.sl.ev hy, Instr.storeAt, Instr.sureAddr, storeVar, sizeOf_run hz, Value.cells, e2, h2]
 refine ⟨?_⟩
 unfold Oper.wp
 rw [he]
 exact h _ (hS.upd hr h4 (ok_blk h3) (fun i hi => .inl hi) rfl)
end
end Go.Proofs.YtlccmgeclhdegaaGreatDoor
namespace Go.Proofs.YtlccmgeclhdegaaGreatDoor
open Go.RowKit
def bbφ (E b : Nat) (l : List Int) (w : World) : Prop := ∃ (sp : List Value) (N : Nat), w.heap[b]? = some (.cells (l.map (Value.int .u8) ++ sp).toArray E (N, N + 1)) ∧ l.length ≤ N
def bbA (E b : Nat) (l : List Int) : Asn := .any (fun k => k = b) (bbφ E b l) true
theorem bb_ok {E b : Nat} {l : List Int} {w : World} (h : bbφ E b l w) : (bbA E b l).ok w := by
 obtain ⟨sp, N, h1, h2⟩ := h
 exact ⟨fun k hk => by obtain rfl : k = b := hk; exact (Array.getElem?_eq_some_iff.1 h1).1, fun w' hw => ⟨sp, N, (hw b rfl).trans h1, h2⟩⟩
theorem bb_cell {E b : Nat} {l : List Int} {w : World} (h : bbφ E b l w) {i : Nat} {x : Int} (hx : l[i]? = some x) : w.cell? ⟨b, i, none⟩ = some (.int .u8 x) := by
 obtain ⟨sp, N, h1, h2⟩ := h
 have hi := (List.getElem?_eq_some_iff.1 hx).1
 unfold World.cell?
 rw [h1]
 simp only [List.getElem?_toArray]
 rw [List.getElem?_append_left (by rw [List.length_map]; exact hi), List.getElem?_map, hx]; rfl
theorem bb_by {E b c : Nat} {l : List Int} {w : World} (h : bbφ E b l w) (hc : l.length ≤ c) : ByAt (.slice (some ⟨b, 0, none⟩) l.length c) l w := by
 by_cases hl : l = []
 · subst hl; exact .inl ⟨rfl, _, _, rfl⟩
 · refine .inr ⟨b, 0, c, hl, rfl, hc, fun j x hj => by rw [Nat.zero_add]; exact bb_cell h hj, ?_⟩
   obtain ⟨sp, N, h1, _⟩ := h
   exact (Array.getElem?_eq_some_iff.1 h1).1
def bytesI (s : ByteArray) : List Int := s.data.toList.map fun b => (b.toNat : Int)
theorem bytesI_len (s : ByteArray) : (bytesI s).length = s.size := by unfold bytesI; simp
section
variable {P : Program} {n : NN} {F0 : Nat → Prop} {w0 w : World} {a : Act} {L : List (Nat × Value)} {Γ : List Asn}
variable {K : Act → World → Prop} {Q : Exit → Act → World → Prop} {d ty : Nat} {pos : String} {af : Array Edge} {g : Option (Nat × Bool)}
theorem s_toBytes {T T' E : Nat} {x : Operand} {s : ByteArray} {u : TypeDesc} (hS : St n F0 w0 a w L Γ) (hx : ev L x = some (.string s)) (hu : P.underlying T = some u) (hT : sliceT P T' = some E) (hE : P.underlying E = some (.int .u8)) (hn : Nat.blt d n.n = true)
 (h : ∀ b c a' w', (bytesI s).length ≤ c → St n F0 w0 a' w' ((d, .slice (some ⟨b, 0, none⟩) (bytesI s).length c) :: L) (bbA E b (bytesI s) :: Γ) → K a' w') : OW P ⟨some d, .convert T T' x, ty, pos, af, g⟩ a w K Q := by
 have hcv := Lib.run_convert_string_bytes (P := P) w T T' E s hu (sliceT_eq hT) hE
 have he : (execOp a.eval (⟨some d, .convert T T' x, ty, pos, af, g⟩ : Oper)).run P w = .ok (.value (.slice (some ⟨w.heap.size, 0, none⟩) s.size (grownCap w s.size 0 E))) (Lib.bytesWorld w E s) := by
  simp [execOp, hS.sl.ev hx, hcv]
 refine ⟨?_⟩
 unfold Oper.wp
 rw [he]
 have hcap : s.size ≤ grownCap w s.size 0 E := grownCap_ge w s.size 0 E
 have hcs : Lib.bytesCells w E s = ((bytesI s).map (Value.int .u8) ++ List.replicate (grownCap w s.size 0 E - s.size) (Value.int .u8 0)).toArray := by
  unfold Lib.bytesCells bytesI
  apply Array.ext'
  simp
 rw [← bytesI_len s]
 refine h w.heap.size _ _ _ (by rw [bytesI_len]; exact hcap) ((hS.fresh (Chg.of_below (Lib.bytesWorld_below w E s)) (bb_ok ⟨List.replicate (grownCap w s.size 0 E - s.size) (Value.int .u8 0), (Lib.bytesCells w E s).size, ?_, ?_⟩) (fun b hb => by have : b = w.heap.size := hb; omega)).put hn _)
 · rw [Lib.bytesWorld_at_new, ← hcs]
 · rw [hcs]; simp
theorem St.toOld {n : NN} {F0 : Nat → Prop} (h : St n F0 w0 a w L Γ) : St n F0 w0 a w L [oldA w] := ⟨h.sl, h.chg, okC (old_ok (old_refl w)) okN, dis1, mineC rfl mineN⟩
end
end Go.Proofs.YtlccmgeclhdegaaGreatDoor
namespace Go.Proofs.YtlccmgeclhdegaaGreatDoor
open Go.RowKit
theorem run_storeCells_atB (P : Program) (g o : Nat) (t : TypeId) (fz : Nat × Nat) : ∀ (vs : List Value) (i : Nat) (cur : Array Value) (w : World), w.heap[g]? = some (.cells cur t fz) → cur.size ≤ fz.1 → o + i + vs.length ≤ cur.size → (∀ v ∈ vs, v.oneCell' = true) →
 (storeCells ⟨g, o, none⟩ vs i).run P w = .ok () (w.setRow g (cur.toList.take (o + i) ++ vs ++ cur.toList.drop (o + i + vs.length)).toArray)
 | [], i, cur, w, hg, _, _, _ => by
   simp only [storeCells, List.append_nil, List.length_nil, Nat.add_zero, List.take_append_drop, Array.toArray_toList]
   rw [setRow_self w g cur t fz hg]
   rfl
 | v :: rest, i, cur, w, hg, hfz, hl, h1 => by
   have hi : o + i < cur.size := by simp at hl; omega
   have hadd : (⟨g, o, none⟩ : Addr).add i = ⟨g, o + i, none⟩ := by unfold Addr.add; split <;> simp_all
   have hcell : w.cell? ⟨g, o + i, none⟩ = some cur[o + i] := by simp [World.cell?, hg, hi]
   have hfro : w.frozen? ⟨g, o + i, none⟩ = false := by
    obtain ⟨lo, hi'⟩ := fz
    simp only [World.frozen?, hg, Bool.and_eq_false_iff, decide_eq_false_iff_not]
    left
    simp only at hfz
    omega
   have hst : (store ((⟨g, o, none⟩ : Addr).add i) v).run P w = .ok () (w.setRow g (cur.setIfInBounds (o + i) v)) := by
    rw [hadd, run_store P w _ v _ (h1 v (by simp)), hcell]
    simp [hfro, setCell_eq_setRow w g (o + i) cur t fz v hg]
   have ih := run_storeCells_atB P g o t fz rest (i + 1) (cur.setIfInBounds (o + i) v) (w.setRow g (cur.setIfInBounds (o + i) v)) (setRow_heap w g cur _ t _ hg) (by simpa using hfz) (by simp at hl ⊢; omega) (fun x hx => h1 x (by simp [hx]))
   simp only [storeCells, Sem.run_bind, hst, Result.andThen_ok, ih, setRow_setRow]
   congr 3
   have e := list_seg_step cur.toList (o + i) v rest (by simp at hl ⊢; omega)
   simpa [Array.toList_setIfInBounds, Nat.add_assoc] using e
def bcφ (E b c : Nat) (l : List Int) (w : World) : Prop := ∃ sp : List Value, w.heap[b]? = some (.cells (l.map (Value.int .u8) ++ sp).toArray E (c, c + 1)) ∧ l.length + sp.length = c
def bcA (E b c : Nat) (l : List Int) : Asn := .any (fun k => k = b) (bcφ E b c l) true
theorem bc_ok {E b c : Nat} {l : List Int} {w : World} (h : bcφ E b c l w) : (bcA E b c l).ok w := by
 obtain ⟨sp, h1, h2⟩ := h
 exact ⟨fun k hk => by obtain rfl : k = b := hk; exact (Array.getElem?_eq_some_iff.1 h1).1, fun w' hw => ⟨sp, (hw b rfl).trans h1, h2⟩⟩
def bmA (v : Value) (l : List Int) : Asn := .any (fun k => v.ownBlock = some k) (ByAt v l) true
theorem bm_ok {v : Value} {l : List Int} {w : World} (h : ByAt v l w) (hne : l ≠ []) : (bmA v l).ok w := by
 rcases h with ⟨h, _⟩ | ⟨b, off, c, h1, rfl, h2, h3, h4⟩
 · exact absurd h hne
 · exact ⟨fun k hk => by have hk : (Value.slice (some ⟨b, off, none⟩) l.length c).ownBlock = some k := hk
                         obtain rfl : b = k := by simpa [Value.ownBlock] using hk
                         exact h4, fun w' hw => (show ByAt _ l w from .inr ⟨b, off, c, h1, rfl, h2, h3, h4⟩).keep fun k hk => by
     obtain ⟨_, _, _, _, e⟩ := hk
     injection e with e _ _
     injection e with e
     injection e with e _ _
     exact hw k (by rw [e]; rfl)⟩
section
variable {P : Program} {n : NN} {F0 : Nat → Prop} {w0 w : World} {a : Act} {L : List (Nat × Value)} {Γ : List Asn}
variable {K : Act → World → Prop} {Q : Exit → Act → World → Prop} {d ty : Nat} {pos : String} {af : Array Edge} {g : Option (Nat × Bool)}
theorem s_toBytesC {T T' E : Nat} {x : Operand} {s : ByteArray} {u : TypeDesc} (hS : St n F0 w0 a w L Γ) (hx : ev L x = some (.string s)) (hs : s.size ≤ 1000000000) (hu : P.underlying T = some u) (hT : sliceT P T' = some E) (hE : P.underlying E = some (.int .u8)) (hn : Nat.blt d n.n = true)
 (h : ∀ b c a' w', (bytesI s).length ≤ c → c ≤ 9223372036854775807 → St n F0 w0 a' w' ((d, .slice (some ⟨b, 0, none⟩) (bytesI s).length c) :: L) (bcA E b c (bytesI s) :: Γ) → K a' w') : OW P ⟨some d, .convert T T' x, ty, pos, af, g⟩ a w K Q := by
 have hcv := Lib.run_convert_string_bytes (P := P) w T T' E s hu (sliceT_eq hT) hE
 have he : (execOp a.eval (⟨some d, .convert T T' x, ty, pos, af, g⟩ : Oper)).run P w = .ok (.value (.slice (some ⟨w.heap.size, 0, none⟩) s.size (grownCap w s.size 0 E))) (Lib.bytesWorld w E s) := by
  simp [execOp, hS.sl.ev hx, hcv]
 refine ⟨?_⟩
 unfold Oper.wp
 rw [he]
 have hcap : s.size ≤ grownCap w s.size 0 E := grownCap_ge w s.size 0 E
 have hcm : grownCap w s.size 0 E ≤ maxLen := grownCap_le_maxLen w s.size 0 E (by unfold maxLen; omega)
 have hcs : Lib.bytesCells w E s = ((bytesI s).map (Value.int .u8) ++ List.replicate (grownCap w s.size 0 E - s.size) (Value.int .u8 0)).toArray := by
  unfold Lib.bytesCells bytesI
  apply Array.ext'
  simp
 have hsz : (Lib.bytesCells w E s).size = grownCap w s.size 0 E := by
  rw [hcs, List.size_toArray, List.length_append, List.length_map, bytesI_len, List.length_replicate]; omega
 rw [← bytesI_len s]
 refine h w.heap.size _ _ _ (by rw [bytesI_len]; exact hcap) (by rw [bytesI_len]; unfold maxLen at hcm; omega) ((hS.fresh (Chg.of_below (Lib.bytesWorld_below w E s)) (bc_ok ⟨List.replicate (grownCap w s.size 0 E - s.size) (Value.int .u8 0), ?_, ?_⟩) (fun b hb => by have : b = w.heap.size := hb; omega)).put hn _)
 · rw [Lib.bytesWorld_at_new, ← hcs, hsz, bytesI_len]
 · rw [bytesI_len, List.length_replicate]; omega
theorem s_appendC {T E b c k c2 : Nat} {zs : List Value} {x y : Operand} {q : Option Addr} {l ys : List Int} {Γ' : Value → List Asn} (hS : St n F0 w0 a w L Γ) (hx : ev L x = some (.slice (some ⟨b, 0, none⟩) l.length c)) (hy : ev L y = some (.slice q k c2))
 (hT : sliceT P T = some E) (hs : szOf P E = some 1) (hb : byOf P E = some 1) (hz : zeroOf P E = some zs) (hn : Nat.blt d n.n = true)
 (hm : bcA E b c l ∈ Γ) (hcm : c ≤ 9223372036854775807) (hlc : l.length ≤ c) (hyl : ys.length = k) (hyq : ByAt (.slice q k c2) ys w) (hne : l ≠ []) (hbd : l.length + k ≤ 1000000000)
 (hr : ∀ v', Rep (bcA E b c l) (bmA v' (l ++ ys)) Γ (Γ' v'))
 (h : ∀ q' c' a' w', l.length + k ≤ c' → St n F0 w0 a' w' ((d, .slice q' (l.length + k) c') :: L) (Γ' (.slice q' (l.length + k) c')) → K a' w') : OW P ⟨some d, .call ⟨.builtin .append, #[x, y], #[T, T]⟩, ty, pos, af, g⟩ a w K Q := by
 obtain ⟨i, z, hi, hz', hsz, hby, hzc⟩ := info_of hs hb hz
 obtain ⟨sp, hg, hsp⟩ := (hS.get hm : bcφ E b c l w)
 have hbl := (Array.getElem?_eq_some_iff.1 hg).1
 have hlne : l ++ ys ≠ [] := by simp [hne]
 have hll : (l ++ ys).length = l.length + k := by rw [List.length_append, hyl]
 have hcells : ∀ (j : Nat) (u : Int), l[j]? = some u → w.cell? ⟨b, j, none⟩ = some (.int .u8 u) := fun j u hj => by
  unfold World.cell?
  rw [hg]
  simp only [List.getElem?_toArray]
  rw [List.getElem?_append_left (by rw [List.length_map]; exact (List.getElem?_eq_some_iff.1 hj).1), List.getElem?_map, hj]; rfl
 suffices hfin : ∃ q' c' w', (Builtin.append_ #[T, T] ty #[.slice (some ⟨b, 0, none⟩) l.length c, .slice q k c2]).run P w = .ok (.slice q' (l.length + k) c') w' ∧ l.length + k ≤ c' ∧ ByAt (.slice q' (l.length + k) c') (l ++ ys) w' ∧ Chg (bcA E b c l).F w w' ∧ ∀ b', (bmA (.slice q' (l.length + k) c') (l ++ ys)).F b' → (bcA E b c l).F b' ∨ w.heap.size ≤ b' by
  obtain ⟨q', c', w', hrun, hc', hby', hchg, hF⟩ := hfin
  have he : (execOp a.eval (⟨some d, .call ⟨.builtin .append, #[x, y], #[T, T]⟩, ty, pos, af, g⟩ : Oper)).run P w = .ok (.value (.slice q' (l.length + k) c')) w' := by
   simp [execOp, resolve, invoke, builtin, hS.sl.ev hx, hS.sl.ev hy, hrun]
  refine ⟨?_⟩
  unfold Oper.wp
  rw [he]
  exact h q' c' _ _ hc' ((hS.upd (hr _) hchg (bm_ok hby' hlne) hF rfl).put hn _)
 rcases hyq with ⟨rfl, qa, ca, hqe⟩ | ⟨bx, ox, cx, hyne, hqe, _, hyc, _⟩
 · -- nothing is appended
   injection hqe with h1 h2 h3
   subst h1 h2 h3
   refine ⟨some ⟨b, 0, none⟩, c, w, ?_, by omega, ?_, Chg.refl _ _, fun b' hb' => .inl ?_⟩
   · have : l.length + 0 ≤ c := by omega
     cases q <;> simp [Builtin.append_, run_underlying (sliceT_eq hT), sizeOf, typeInfo, hi, Builtin.lenOf, Builtin.firstCells, hlc, storeCells, loadCells, loadCellsFrom]
     all_goals rfl
   · rw [List.append_nil, Nat.add_zero]
     exact .inr ⟨b, 0, c, hne, rfl, hlc, fun j u hj => by rw [Nat.zero_add]; exact hcells j u hj, hbl⟩
   · have hb' : (Value.slice (some ⟨b, 0, none⟩) (l.length + 0) c).ownBlock = some b' := hb'
     show b' = b
     simpa [Value.ownBlock, eq_comm] using hb'
 · injection hqe with h1 h2 h3
   subst h1 h3
   have hk : k = ys.length := h2
   have hnl : (ys.map (Value.int .u8)).length = k * i.size := by rw [List.length_map, hsz, hyl, Nat.mul_one]
   have hnews : ∀ j u, (ys.map (Value.int .u8))[j]? = some u → w.cell? ((⟨bx, ox, none⟩ : Addr).add j) = some u := fun j u hj => by
    rw [List.getElem?_map, Option.map_eq_some_iff] at hj
    obtain ⟨v, hv, rfl⟩ := hj
    rw [addr_add]; exact hyc j v hv
   have hone : ∀ u ∈ ys.map (Value.int .u8), u.oneCell' = true := fun u hu => by
    obtain ⟨v, _, rfl⟩ := List.mem_map.1 hu; rfl
   by_cases hroom : l.length + k ≤ c
   · have hcur : (l.map (Value.int .u8) ++ sp).toArray.size = c := by rw [List.size_toArray, List.length_append, List.length_map]; exact hsp
     have hst := run_storeCells_atB P b (l.length * i.size) E (c, c + 1) (ys.map (Value.int .u8)) 0 _ w hg (by rw [hcur]; exact Nat.le_refl _) (by rw [hcur, hsz, List.length_map]; omega) hone
     have hf := run_firstCells_some (P := P) w i.size k ⟨bx, ox, none⟩ k c2 (ys.map (Value.int .u8)) hnl hnews
     simp only [Nat.add_zero] at hst
     have hrun : (Builtin.append_ #[T, T] ty #[.slice (some ⟨b, 0, none⟩) l.length c, .slice (some ⟨bx, ox, none⟩) k c2]).run P w = .ok (.slice (some ⟨b, 0, none⟩) (l.length + k) c) (w.setRow b ((l.map (Value.int .u8) ++ sp).toArray.toList.take (l.length * i.size) ++ ys.map (Value.int .u8) ++ (l.map (Value.int .u8) ++ sp).toArray.toList.drop (l.length * i.size + (ys.map (Value.int .u8)).length)).toArray) := by
      simp [Builtin.append_, run_underlying (sliceT_eq hT), sizeOf, typeInfo, hi, Builtin.lenOf, hroom, hf, Addr.add_lit, hst]
     refine ⟨_, _, _, hrun, hroom, ?_, ⟨rfl, rfl, rfl, by simp, fun k' _ hk' => setRow_other w b k' _ hk'⟩, fun b' hb' => .inl ?_⟩
     · refine .inr ⟨b, 0, c, hlne, by rw [hll], by rw [hll]; exact hroom, fun j u hj => ?_, by simp; exact hbl⟩
       rw [Nat.zero_add]
       unfold World.cell?
       rw [setRow_heap w b _ _ E _ hg]
       simp only [List.getElem?_toArray]
       rw [hsz, Nat.mul_one, List.take_left' (by rw [List.length_map]), ← List.map_append]
       rw [List.getElem?_append_left (by rw [List.length_map]; exact (List.getElem?_eq_some_iff.1 hj).1), List.getElem?_map, hj]; rfl
     · have hb' : (Value.slice (some ⟨b, 0, none⟩) (l.length + k) c).ownBlock = some b' := hb'
       show b' = b
       simpa [Value.ownBlock, eq_comm] using hb'
   · have holds : ∀ j u, (l.map (Value.int .u8))[j]? = some u → w.cell? ((⟨b, 0, none⟩ : Addr).add j) = some u := fun j u hj => by
      rw [List.getElem?_map, Option.map_eq_some_iff] at hj
      obtain ⟨v, hv, rfl⟩ := hj
      rw [addr_add, Nat.zero_add]; exact hcells j v hv
     have hr := run_append_grow (P := P) w T ty E i z (sliceT_eq hT) hi hz' ⟨b, 0, none⟩ l.length c (l.map (Value.int .u8)) (by rw [List.length_map, hsz, Nat.mul_one]) holds ⟨bx, ox, none⟩ k c2 (ys.map (Value.int .u8)) hnl hnews (by omega) (by omega) (growslice_fits (by omega) (by rw [hby]; omega))
     refine ⟨_, _, _, hr, grownCap_ge w (l.length + k) c E, ?_, ⟨rfl, rfl, rfl, by simp, fun k' hk' _ => heap_alloc_old w.drew _ hk'⟩, fun b' hb' => .inr ?_⟩
     · refine .inr ⟨w.heap.size, 0, _, hlne, by rw [hll], by rw [hll]; exact grownCap_ge w (l.length + k) c E, fun j u hj => ?_, by simp⟩
       rw [Nat.zero_add]
       unfold World.cell?
       rw [show (World.alloc w.drew _).heap[w.heap.size]? = some _ from heap_alloc_new w.drew _]
       simp only [Array.getElem?_append, List.getElem?_toArray, List.size_toArray, Array.size_append, List.length_map, Option.isSome_none, Bool.false_eq_true, if_false]
       have hj2 := (List.getElem?_eq_some_iff.1 hj).1
       rw [List.length_append] at hj2
       rw [if_pos (by omega)]
       rcases Nat.lt_or_ge j l.length with h1 | h1
       · rw [if_pos h1, List.getElem?_map]
         rw [List.getElem?_append_left h1] at hj
         rw [hj]; rfl
       · rw [if_neg (by omega), List.getElem?_map]
         rw [List.getElem?_append_right h1] at hj
         rw [hj]; rfl
     · have hb' : (Value.slice (some ⟨w.heap.size, 0, none⟩) (l.length + k) (grownCap w (l.length + k) c E)).ownBlock = some b' := hb'
       have : w.heap.size = b' := by simpa [Value.ownBlock] using hb'
       omega
end
end Go.Proofs.YtlccmgeclhdegaaGreatDoor
namespace Go.Proofs.YtlccmgeclhdegaaGreatDoor
open Go.RowKit
section
variable {P : Program} {n : NN} {F0 : Nat → Prop} {w0 : World} {a : Act} {w : World} {L : List (Nat × Value)} {Γ : List Asn}
variable {Q : Exit → Act → World → Prop}
def SupL (L1 L : List (Nat × Value)) : Prop := ∀ t v, lk L t = some v → lk L1 t = some v
def keyless (L : List (Nat × Value)) (t : Nat) : Bool := L.all fun p => !Nat.beq p.1 t
theorem lk_keyless {L : List (Nat × Value)} {t : Nat} (h : keyless L t = true) : lk L t = none := by
 induction L with
 | nil => rfl
 | cons p L ih =>
   obtain ⟨s, v⟩ := p
   simp only [keyless, List.all_cons, Bool.and_eq_true, Bool.not_eq_true'] at h
   simp only [lk, h.1, cond_false]
   exact ih h.2
theorem beq_ne {a b : Nat} (h : a ≠ b) : Nat.beq a b = false := by
 cases hb : Nat.beq a b with
 | false => rfl
 | true => exact absurd (Nat.eq_of_beq_eq_true hb) h
theorem SupL.put {L1 L : List (Nat × Value)} (h : SupL L1 L) {t : Nat} (v : Value) (hk : keyless L t = true) : SupL ((t, v) :: L1) L := by
 intro s u hs
 by_cases e : t = s
 · subst e; rw [lk_keyless hk] at hs; cases hs
 · simp only [lk, beq_ne e, cond_false]
   exact h s u hs
structure StepOk (P : Program) (n : NN) (l : List Oper) (R : List Nat) (D : Nat → Nat) (Φ : Nat → Value → World → Prop) (Q : Exit → Act → World → Prop) (w : World) (L : List (Nat × Value)) (i : Nat) : Prop where
 h : ∃ dst op ty pos af, l[i]? = some ⟨dst, op, ty, pos, af, none⟩ ∧
  ∀ a1 w1 L1, Chg noB w w1 → SupL L1 L → (∀ j ∈ R, (af.any fun e => Region.binds .any e && Nat.beq e.on j) = true → ∃ v, lk L1 (D j) = some v ∧ Φ j v w1) → St n noB w1 a1 w1 L1 [] →
   OW P ⟨dst, op, ty, pos, af, none⟩ a1 w1 (fun a2 w2 => ∃ v, Chg noB w1 w2 ∧ Sl n a2 ((D i, v) :: L1) ∧ Φ i v w2) Q
def ordered (l : List Oper) : Bool := (List.range l.length).all fun i => match l[i]? with
 | some o => o.after.all fun e => Nat.blt e.on i
 | none => true
theorem ordered_of {l : List Oper} (h : ordered l = true) {i : Nat} {o : Oper} (ho : l[i]? = some o) : ∀ e ∈ o.after, e.on < i := by
 have hi : i < l.length := (List.getElem?_eq_some_iff.1 ho).1
 have := List.all_eq_true.1 h i (List.mem_range.2 hi)
 rw [ho] at this
 intro e he
 have := (Array.all_eq_true'.1 this) e he
 simpa using this
def doneB (R : List Nat) (N : Nat) (listed : List Bool) : Bool := Nat.beq listed.length N && (List.range N).all fun i => R.contains i || listed.getD i true
def Inv1 (n : NN) (l : List Oper) (R : List Nat) (D : Nat → Nat) (Φ : Nat → Value → World → Prop) (w : World) (L : List (Nat × Value)) (listed : Array Bool) (a1 : Act) (w1 : World) : Prop :=
 ∃ L1, listed.size = l.length ∧ (∀ i, i ∉ R → listed.getD i true = true) ∧ Chg noB w w1 ∧ SupL L1 L ∧ Sl n a1 L1 ∧ ∀ i ∈ R, listed.getD i false = true → ∃ v, lk L1 (D i) = some v ∧ Φ i v w1
theorem getD_tf {A : Array Bool} {i : Nat} (hi : i < A.size) (x y : Bool) : A.getD i x = A.getD i y := by
 simp [Array.getD, hi]
theorem count_pos {A : Array Bool} {j : Nat} (h : A.getD j true = false) : 0 < A.toList.count false := by
 have hj : j < A.size := by
  rcases Nat.lt_or_ge j A.size with h' | h'
  · exact h'
  · simp [Array.getD, Nat.not_lt.2 h'] at h
 refine List.count_pos_iff.2 ?_
 have : A[j] = false := by simpa [Array.getD, hj] using h
 exact this ▸ (by simp)
theorem count_set {A : Array Bool} {j : Nat} (h : A.getD j true = false) : (A.setIfInBounds j true).toList.count false + 1 = A.toList.count false := by
 have hj : j < A.size := by
  rcases Nat.lt_or_ge j A.size with h' | h'
  · exact h'
  · simp [Array.getD, Nat.not_lt.2 h'] at h
 have e : A[j] = false := by simpa [Array.getD, hj] using h
 have hp := count_pos h
 rw [Array.toList_setIfInBounds, List.count_set (by simpa using hj)]
 have e2 : A.toList[j]'(by simpa using hj) = false := by simpa using e
 simp only [e2]
 have e3 : ((false == false) = true) := rfl
 have e4 : ¬ ((true == false) = true) := by decide
 rw [if_pos e3, if_neg e4]
 omega
theorem Z_inv {l : List Oper} {Γs : List Asn} {Z : List Nat} (R : List Nat) (D : Nat → Nat) (Φ : Nat → Value → World → Prop)
 (hok : ∀ X ∈ Γs, X.ok w)
 (hmono : ∀ i v w1 w2, Chg noB w1 w2 → Φ i v w1 → Φ i v w2) (hord : ordered l = true) (hkey : ∀ i ∈ R, keyless L (D i) = true) (hinj : ∀ i ∈ R, ∀ j ∈ R, D i = D j → i = j)
 (hstep : ∀ i ∈ R, StepOk P n l R D Φ Q w L i)
 (hend : ∀ a1 w1 L1, Chg noB w w1 → SupL L1 L → Sl n a1 L1 → (∀ i ∈ R, ∃ v, lk L1 (D i) = some v ∧ Φ i v w1) → Q .normal a1 w1) :
 ∀ (fuel : Nat) (listed : Array Bool) (a1 : Act) (w1 : World), listed.toList.count false ≤ fuel → Inv1 n l R D Φ w L listed a1 w1 → wpZ P l.toArray Q (Hd Γs) Z fuel listed a1 w1 := by
 have hfin : ∀ (listed : Array Bool) (a1 : Act) (w1 : World), Inv1 n l R D Φ w L listed a1 w1 → Region.ready .any l.toArray listed = [] → Q .normal a1 w1 := by
  intro listed a1 w1 hI hr
  obtain ⟨L1, hsz, hdone, hc, hsup, hsl, hk⟩ := hI
  have hall : ∀ N i, i < N → i < l.length → listed.getD i false = true := by
   intro N
   induction N with
   | zero => exact fun i hi => absurd hi (Nat.not_lt_zero _)
   | succ N ih =>
     intro i hi hil
     rcases Nat.lt_succ_iff_lt_or_eq.1 hi with h | rfl
     · exact ih i h hil
     · by_cases hlt : listed.getD i false = true
       · exact hlt
       · exfalso
         have : i ∈ Region.ready .any l.toArray listed := by
          refine mem_ready.2 ⟨?_, l[i], by simp [hil], fun e he _ => ?_⟩
          · rw [getD_tf (by omega) true false]; simpa using hlt
          · exact ih e.on (ordered_of hord (List.getElem?_eq_getElem hil) e he) (Nat.lt_trans (ordered_of hord (List.getElem?_eq_getElem hil) e he) hil)
         rw [hr] at this; cases this
  refine hend a1 w1 L1 hc hsup hsl fun i hi => ?_
  obtain ⟨dst, op, ty, pos, af, hl, -⟩ := (hstep i hi).h
  exact hk i hi (hall (i + 1) i (Nat.lt_succ_self _) (List.getElem?_eq_some_iff.1 hl).1)
 intro fuel
 induction fuel with
 | zero =>
   intro listed a1 w1 hf hI
   have hr : Region.ready .any l.toArray listed = [] := by
    refine List.eq_nil_iff_forall_not_mem.2 fun j hj => ?_
    have := count_pos (mem_ready.1 hj).1
    omega
   exact ⟨hr, hfin listed a1 w1 hI hr⟩
 | succ fuel ih =>
   intro listed a1 w1 hf hI
   refine ⟨hfin listed a1 w1 hI, fun i hi => ?_⟩
   obtain ⟨hun, o, ho, hall⟩ := mem_ready.1 hi
   obtain ⟨L1, hsz, hdone, hc, hsup, hsl, hk⟩ := hI
   have hiR : i ∈ R := by
    by_cases h : i ∈ R
    · exact h
    · rw [hdone i h] at hun; cases hun
   obtain ⟨dst, op, ty, pos, af, hl, hgo⟩ := (hstep i hiR).h
   have hl' : l.toArray[i]? = some ⟨dst, op, ty, pos, af, none⟩ := by simpa using hl
   rw [hl'] at ho
   injection ho with ho
   subst ho
   have hil : i < listed.size := by rw [hsz]; exact (List.getElem?_eq_some_iff.1 hl).1
   have hpre : ∀ j ∈ R, (af.any fun e => Region.binds .any e && Nat.beq e.on j) = true → ∃ v, lk L1 (D j) = some v ∧ Φ j v w1 := by
    intro j hj he
    obtain ⟨e, hem, h2⟩ := Array.any_eq_true'.1 he
    simp only [Bool.and_eq_true] at h2
    have := hall e hem h2.1
    rw [Nat.eq_of_beq_eq_true h2.2] at this
    exact hk j hj this
   have hS1 : St n noB w1 a1 w1 L1 [] := ⟨hsl, Chg.refl _ _, (fun X hX => by cases hX), List.Pairwise.nil, (fun X hX => by cases hX)⟩
   have hw := hgo a1 w1 L1 hc hsup hpre hS1
   unfold wpOp
   simp only [hl']
   rw [if_pos (by rfl)]
   refine .inl (Oper.wp_mono (fun a2 w2 h2 => ?_) hw.h)
   obtain ⟨v, hc2, hsl2, hΦ⟩ := h2
   refine ⟨fun _ => .inr fun X hX => ((hok X hX).keep (hc.ext hc2) (fun _ _ hf => hf)).now, ih _ a2 w2 (by have := count_set hun; omega) ⟨_, by simpa using hsz, ?_, hc.ext hc2, hsup.put v (hkey i hiR), hsl2, ?_⟩⟩
   · intro j hj
     rw [getD_set_ne (i := i) (j := j) true (fun e => hj (e ▸ hiR))]
     exact hdone j hj
   · intro j hj hjl
     by_cases e : i = j
     · subst e
       exact ⟨v, by simp [lk], hΦ⟩
     · rw [getD_set_ne false e] at hjl
       obtain ⟨u, hu1, hu2⟩ := hk j hj hjl
       refine ⟨u, ?_, hmono j u w1 w2 hc2 hu2⟩
       have : Nat.beq (D i) (D j) = false := beq_ne fun h => e (hinj i hiR j hj h)
       simp only [lk, this, cond_false]
       exact hu1
theorem Z_invS {l : List Oper} {Γs : List Asn} {Z : List Nat} {fuel : Nat} {listed : List Bool} (hS : St n F0 w0 a w L Γ) (hsub : ∀ X ∈ Γs, X ∈ Γ) (R : List Nat) (D : Nat → Nat) (Φ : Nat → Value → World → Prop)
 (hmono : ∀ i v w1 w2, Chg noB w1 w2 → Φ i v w1 → Φ i v w2) (hord : ordered l = true) (hkey : (R.all fun i => keyless L (D i)) = true) (hinj : ∀ i ∈ R, ∀ j ∈ R, D i = D j → i = j)
 (hdone : doneB R l.length listed = true) (hcnt : Nat.ble (listed.count false) fuel = true) (hnone : ∀ i ∈ R, listed.getD i false = false)
 (hstep : ∀ i ∈ R, StepOk P n l R D Φ Q w L i)
 (hend : ∀ a1 w1 L1, Chg noB w w1 → SupL L1 L → Sl n a1 L1 → (∀ i ∈ R, ∃ v, lk L1 (D i) = some v ∧ Φ i v w1) → Q .normal a1 w1) :
 wpZ P l.toArray Q (Hd Γs) Z fuel listed.toArray a w := by
 simp only [doneB, Bool.and_eq_true] at hdone
 have hlen := Nat.eq_of_beq_eq_true hdone.1
 refine Z_inv R D Φ (fun X hX => hS.ok X (hsub X hX)) hmono hord (fun i hi => List.all_eq_true.1 hkey i hi) hinj hstep hend fuel _ a w (by simpa using Nat.le_of_ble_eq_true hcnt) ⟨L, by simpa using hlen, ?_, Chg.refl _ _, fun _ _ h => h, hS.sl, ?_⟩
 · intro i hi
   rcases Nat.lt_or_ge i l.length with h | h
   · have := List.all_eq_true.1 hdone.2 i (List.mem_range.2 h)
     simp only [Bool.or_eq_true, List.contains_iff_mem] at this
     rcases this with h' | h'
     · exact absurd h' hi
     · simpa using h'
   · simp [Array.getD, hlen, Nat.not_lt.2 h]
 · intro i hi hl
   have := hnone i hi
   have : listed.toArray.getD i false = false := by simpa using this
   rw [this] at hl; cases hl
end
end Go.Proofs.YtlccmgeclhdegaaGreatDoor
namespace Go.Proofs.YtlccmgeclhdegaaGreatDoor
open Go.RowKit
def AbB {β : Type} (B : Nat) (I : β → World → Prop) : Prop :=
 ∀ s W W', I s W → W'.os = W.os → W'.tape = W.tape → W'.output = W.output → W.heap.size ≤ W'.heap.size → (∀ k, k < B → W'.heap[k]? = W.heap[k]?) → I s W'
theorem AbB.alloc {β : Type} {B : Nat} {I : β → World → Prop} (h : AbB B I) {s : β} {W : World} (hB : B ≤ W.heap.size) (hs : I s W) (o : Obj) : I s (W.alloc o) :=
 h s W _ hs rfl rfl rfl (by simp) (fun k hk => Below.heap_alloc W o k (by omega))
theorem AbB.put {β : Type} {B : Nat} {I : β → World → Prop} (h : AbB B I) {s : β} {W : World} {l : Nat} (hl : B ≤ l) (hs : I s W) (o : Obj) : I s (W.putObj l o) :=
 h s W _ hs rfl rfl rfl (by simp) (fun k hk => World.putObj_heap_other (by omega))
theorem putObj_at {W : World} {l : Nat} {o : Obj} {o' : Obj} (h : W.heap[l]? = some o) : (W.putObj l o').heap[l]? = some o' := World.putObj_heap_same (Array.getElem?_eq_some_iff.1 h).1
structure Turn (l : Nat) (W W' : World) : Prop where
 os : W'.os = W.os
 tape : W'.tape = W.tape
 output : W'.output = W.output
 size : W'.heap.size = W.heap.size
 same : ∀ k, k ≠ l → W'.heap[k]? = W.heap[k]?
theorem Turn.put (W : World) (l : Nat) (o : Obj) : Turn l W (W.putObj l o) := ⟨rfl, rfl, rfl, by simp, fun _ hk => World.putObj_heap_other hk⟩
def FW (r : Option Nat) : Fence := { Fence.wide with round := r }
section
variable {P : Program} {n : NN} {F0 : Nat → Prop} {w0 : World} {a : Act} {w : World} {L : List (Nat × Value)} {Γ : List Asn} {r : Option Nat} {N : Nat}
variable {K : Act → World → Prop} {Q : Exit → Act → World → Prop} {d ty : Nat} {dst : Option Tmp} {pos : String} {af : Array Edge} {g : Option (Nat × Bool)} {op : Op} {rest l : List Oper}
theorem oper_in {o : Oper} (hd : ∀ c, o.op ≠ .defer c) (h : o.wp P a w K Q) : o.wpIn (FW r) N P a w K Q := by
 refine ⟨fun _ _ => trivial, ?_⟩
 rw [Oper.semAt_eq _ _ _ hd]
 unfold Oper.wp at h
 generalize (execOp a.eval o).run P w = res at h
 cases res with
 | ok nx w' =>
   cases nx with
   | value v => exact h
   | skip => exact h
   | defer d => exact h
   | enter f args => exact ⟨fun hh => (by cases hh), CallsIn.mono (F := Fence.wide) (callsIn_wide.2 h) (fun e w2 hr => by cases e <;> exact hr)⟩
   | row nm args => exact ⟨fun hh => (by cases hh), fun c cs _ => let ⟨v, w2, hr, s⟩ := h c cs; ⟨v, w2, hr, stepsIn_wide.2 s⟩⟩
   | _ => exact h.elim
 | halt s w' => cases s <;> first | exact h | exact h.elim
def notDefer : Op → Bool
 | .defer _ => false
 | _ => true
theorem notDefer_ne {o : Op} (h : notDefer o = true) : ∀ c, o ≠ .defer c := fun c e => by subst e; cases h
theorem R_nil {ops : Array Oper} (h : Q .normal a w) : wpListIn (FW r) N P ops Q [] a w := h
theorem R_op {ops : Array Oper} (hd : notDefer op = true) (h : OW P ⟨dst, op, ty, pos, af, none⟩ a w (wpListIn (FW r) N P ops Q rest) Q) : wpListIn (FW r) N P ops Q (⟨dst, op, ty, pos, af, none⟩ :: rest) a w := by
 unfold wpListIn
 rw [if_pos (by simp [Region.wanted])]
 exact oper_in (notDefer_ne hd) h.h
theorem R_yield {ops : Array Oper} {x : Operand} {xs : List Operand} {vs : List Value} {ts : Array TypeId} {y : Nat} {R : Ending → World → Prop} (hS : St n F0 w0 a w L Γ) (hx : ev L x = some (.func (.yield y) #[] #[])) (hxs : Evs L xs vs)
 (hy : YieldAt Fence.wide 0 P y vs.toArray w R) (h : ∀ e w', R e w' → ∃ v, e = .returned v ∧ wpListIn (FW none) 0 P ops Q rest (a.put dst v) w') :
 wpListIn (FW none) 0 P ops Q (⟨dst, .call ⟨.value x, xs.toArray, ts⟩, ty, pos, af, none⟩ :: rest) a w := by
 unfold wpListIn
 rw [if_pos (by simp [Region.wanted])]
 obtain ⟨fn, tmps, assign, body, hrun, hround⟩ := hy
 refine ⟨fun _ _ => trivial, ?_⟩
 have he : (execOp a.eval (⟨dst, .call ⟨.value x, xs.toArray, ts⟩, ty, pos, af, none⟩ : Oper)).run P w = .ok (.round y fn tmps assign body) w := by
  have h1 := hS.sl.evs hxs
  have hr : (resolve a.eval ⟨.value x, xs.toArray, ts⟩ ty).run P w = .ok ⟨.fn (.yield y) #[], #[] ++ vs.toArray⟩ w := by
   simp only [resolve, hS.sl.ev hx, h1, Deferred.ofValue]; rfl
  show ((resolve a.eval ⟨.value x, xs.toArray, ts⟩ ty) >>= fun d => invoke d.target d.args).run P w = _
  rw [Sem.run_bind, hr]
  show (invoke (.fn (.yield y) #[]) (#[] ++ vs.toArray)).run P w = _
  have e1 : (#[] ++ vs.toArray : Array Value) = vs.toArray := by simp
  rw [e1]
  simpa [invoke] using hrun
 rw [Oper.semAt_eq _ _ _ (fun c e => by cases e), he]
 refine ⟨fun hh => (by cases hh), hround.mono fun e w' hR => ?_⟩
 obtain ⟨v, rfl, hK⟩ := h e w' hR
 exact hK
theorem R_region {id : Nat} {l : List Oper} (h : wpListIn (FW r) N P l.toArray Q l a w) : (Code.region id l.toArray false).wpIn (FW r) N P Q a w := wpIn_region_lit h
theorem R_seq {x y : Code} (h : x.wpIn (FW r) N P (Exit.then (y.wpIn (FW r) N P Q) Q) a w) : (Code.seq x y).wpIn (FW r) N P Q a w := wpIn_seq h
theorem R_skip (h : Q .normal a w) : Code.skip.wpIn (FW r) N P Q a w := wpIn_skip h
theorem R_block {id : Nat} {c : Code} (h : c.wpIn (FW r) N P (Exit.inBlock id Q) a w) : (Code.block id c).wpIn (FW r) N P Q a w := wpIn_block h
theorem R_ret (h : Q .ret a w) : Code.ret.wpIn (FW r) N P Q a w := wpIn_ret h
theorem R_exit {id : Nat} (h : Q (.exit id) a w) : (Code.exit id).wpIn (FW r) N P Q a w := wpIn_exit h
theorem R_if {c : Operand} {x y : Code} {b : Bool} (hS : St n F0 w0 a w L Γ) (hc : ev L c = some (.bool b)) (h1 : b = true → x.wpIn (FW r) N P Q a w) (h2 : b = false → y.wpIn (FW r) N P Q a w) : (Code.cond c x y).wpIn (FW r) N P Q a w :=
 wpIn_cond_split (hS.sl.ev hc) h1 h2
theorem R_ifD {c : Operand} {x y : Code} {p : Prop} [hp : Decidable p] (hS : St n F0 w0 a w L Γ) (hc : ev L c = some (.bool (decide p))) (h1 : p → x.wpIn (FW r) N P Q a w) (h2 : ¬ p → y.wpIn (FW r) N P Q a w) : (Code.cond c x y).wpIn (FW r) N P Q a w :=
 wpIn_cond_split (hS.sl.ev hc) (fun h => h1 (of_decide_eq_true h)) (fun h => h2 (of_decide_eq_false h))
theorem R_loop {γ : Type} {c : Code} (I : γ → Act → World → Prop) (μ : γ → Nat) (g0 : γ) (h0 : I g0 a w)
 (round : ∀ g a w, I g a w → c.wpIn (FW r) N P (Exit.then (fun a' w' => ∃ g', μ g' < μ g ∧ I g' a' w') Q) a w) : (Code.loop c).wpIn (FW r) N P Q a w := by
 intro b k cs hro hb hr
 have key : ∀ m g a w, μ g = m → I g a w → ∃ e a' w', Q e a' w' ∧ ArrivesIn (Machine.fenced P (FW r)) P (lone (b.atR a (.code c :: .inLoop c :: k)) cs w) b k cs e a' w' := by
  intro m
  induction m using Nat.strongRecOn with
  | _ m ih =>
    intro g a w hm hI
    obtain ⟨e, a1, w1, hq, harr⟩ := round g a w hI b (.inLoop c :: k) cs hro hb hr
    cases e with
    | normal =>
      obtain ⟨g', hlt, hI'⟩ := hq
      obtain ⟨e2, a2, w2, hq2, harr2⟩ := ih (μ g') (hm ▸ hlt) g' a1 w1 rfl hI'
      exact ⟨e2, a2, w2, hq2, .of_steps (StepsIn.trans harr (.one (fenced_calm hb hr rfl) stepR_inLoop)) harr2⟩
    | exit id => exact ⟨_, a1, w1, hq, .pass (x := .inLoop c) rfl (fun _ _ => .inl (by simp)) harr⟩
    | goto l => exact ⟨_, a1, w1, hq, .pass (x := .inLoop c) rfl (fun _ _ => .inl (by simp)) harr⟩
    | ret => exact ⟨_, a1, w1, hq, .pass (x := .inLoop c) rfl (fun _ _ => .inl (by simp)) harr⟩
    | panic ch => exact ⟨_, a1, w1, hq, .pass (x := .inLoop c) rfl (fun _ _ => .inl (by simp)) harr⟩
    | outgrown => exact ⟨_, a1, w1, hq, .pass (x := .inLoop c) rfl (fun _ _ => .inl (by simp)) harr⟩
 obtain ⟨e, a', w', hq, harr⟩ := key _ g0 a w rfl h0
 exact ⟨e, a', w', hq, .of_steps (.one (fenced_calm hb hr rfl) stepR_loop) harr⟩
theorem callsM_enter {f : FuncId} {fn : Func} {c : Code} {args : List Value} {R : Ending → World → Prop} {m : Nat} (L : List (Nat × Value)) (Γ : List Asn) (F0 : Nat → Prop) (hf : P.funcs[f]? = some fn) (hb : fn.body = some c) (hm : fn.ntmps = m)
 (hA : SubA args L) (hn : Nat.ble args.length m = true) (ok : ∀ X ∈ Γ, X.ok w) (dis : Γ.Pairwise (fun X Y => ∀ b, X.F b → ¬ Y.F b)) (mine : ∀ X ∈ Γ, X.mine = true → ∀ b, X.F b → w.heap.size ≤ b ∨ F0 b)
 (h : ∀ a, St ⟨m, []⟩ F0 w a w L Γ → c.wpIn (FW none) 0 P (bodyPostM Fence.wide 0 P fn R) a w) : Calls P f args.toArray w R := by
 refine callsIn_wide.1 (callsIn_of_wp_marks (n := 0) hf hb trivial (h _ ⟨?_, Chg.refl _ _, ok, dis, mine⟩))
 have hle : args.length ≤ m := Nat.le_of_ble_eq_true hn
 have := Sl.start (l := args) (L := L) (n := m) (m := m - args.length) hA (by omega)
 simpa [hm] using this
theorem endM {fn : Func} {R : Ending → World → Prop} {D : Nat} {v : Value} {e : Exit} (he : e = .ret ∨ e = .normal) (hd : a.defers = [{ target := .collected D, args := #[] }]) (hD : w.heap[D]? = some (.deferred (some [])))
 (hr : (results fn a.tmps).run P (w.putObj D (.deferred none)) = .ok v (w.putObj D (.deferred none))) (h : R (.returned v) (w.putObj D (.deferred none))) : bodyPostM Fence.wide 0 P fn R e a w := by
 have key : LeavesInM Fence.wide 0 P fn a.tmps R a.defers .returning w := by
  rw [hd]
  exact ⟨by simp, .inl ⟨_, _, rfl, run_takeDeferred hD, v, hr, h⟩⟩
 rcases he with rfl | rfl <;> exact key
theorem callsIn_enter {f : FuncId} {fn : Func} {c : Code} {args : List Value} {R : Ending → World → Prop} {m : Nat} (L : List (Nat × Value)) (Γ : List Asn) (F0 : Nat → Prop) (hf : P.funcs[f]? = some fn) (hb : fn.body = some c) (hm : fn.ntmps = m)
 (hA : SubA args L) (hn : Nat.ble args.length m = true) (ok : ∀ X ∈ Γ, X.ok w) (dis : Γ.Pairwise (fun X Y => ∀ b, X.F b → ¬ Y.F b)) (mine : ∀ X ∈ Γ, X.mine = true → ∀ b, X.F b → w.heap.size ≤ b ∨ F0 b)
 (h : ∀ a, St ⟨m, []⟩ F0 w a w L Γ → c.wpIn (FW none) 0 P (bodyPost P fn R) a w) : CallsIn Fence.wide 0 P f args.toArray w R := by
 refine callsIn_of_wp hf hb trivial (h _ ⟨?_, Chg.refl _ _, ok, dis, mine⟩)
 have hle : args.length ≤ m := Nat.le_of_ble_eq_true hn
 have := Sl.start (l := args) (L := L) (n := m) (m := m - args.length) hA (by omega)
 simpa [hm] using this
theorem St.putD (hS : St n F0 w0 a w L Γ) {D : Nat} {o : Obj} (hD : w0.heap.size ≤ D) (hn : ∀ X ∈ Γ, ∀ b, X.F b → b ≠ D) : St n F0 w0 a (w.putObj D o) L Γ := by
 have hc : Chg (fun k => k = D) w (w.putObj D o) := ⟨rfl, rfl, rfl, by simp, fun k _ hk => World.putObj_heap_other hk⟩
 exact ⟨hS.sl, hS.chg.trans hc (fun i hi hlt => by omega), fun X hX => (hS.ok X hX).keep hc (fun b hb e => hn X hX b hb e), hS.dis, hS.mine⟩
theorem put_defers {ds : List Deferred} {v : Value} : Act.put { a with defers := ds } dst v = { a.put dst v with defers := ds } := by cases dst <;> rfl
end
end Go.Proofs.YtlccmgeclhdegaaGreatDoor
namespace Go.Proofs.YtlccmgeclhdegaaGreatDoor
open Go.RowKit
def AbR {β : Type} (B hi : Nat) (I : β → World → Prop) : Prop :=
 ∀ s W W', I s W → W'.os = W.os → W'.tape = W.tape → W'.output = W.output → W.heap.size ≤ W'.heap.size → (∀ k, k < W.heap.size → (k < B ∨ hi ≤ k) → W'.heap[k]? = W.heap[k]?) → I s W'
theorem AbR.alloc {β : Type} {B hi : Nat} {I : β → World → Prop} (h : AbR B hi I) {s : β} {W : World} (hs : I s W) (o : Obj) : I s (W.alloc o) :=
 h s W _ hs rfl rfl rfl (by simp) (fun k hk _ => Below.heap_alloc W o k hk)
theorem AbR.put {β : Type} {B hi : Nat} {I : β → World → Prop} (h : AbR B hi I) {s : β} {W : World} {l : Nat} (hl : B ≤ l) (hl2 : l < hi) (hs : I s W) (o : Obj) : I s (W.putObj l o) :=
 h s W _ hs rfl rfl rfl (by simp) (fun k _ hk => World.putObj_heap_other (by omega))
def Kp (B hi : Nat) (W W' : World) : Prop := W.heap.size ≤ W'.heap.size ∧ ∀ k, B ≤ k → k < hi → W'.heap[k]? = W.heap[k]?
def SeqD {α : Type} (P : Program) (gf : Nat) (lb : Array Value) (encs : α → Array Value) (S Sp : List α → Prop) (N : Nat) (K0 : World → Prop) : Prop :=
 ∀ (l : Nat) (J Jx : Nat → List α → World → Prop) (W : World), (∀ hi pre W', J hi pre W' → K0 W') → (∀ hi, W.heap.size ≤ hi → AbR W.heap.size hi (J hi)) → (∀ hi, W.heap.size ≤ hi → AbR W.heap.size hi (Jx hi)) →
  (∀ hi pre x W1, W.heap.size ≤ hi → hi ≤ W1.heap.size → J hi pre W1 → pre.length < N → YieldAt Fence.wide 0 P l (encs x) W1 fun e W' => Kp W.heap.size hi W1 W' ∧ ((e = .returned (.bool true) ∧ J hi (pre ++ [x]) W') ∨ (e = .returned (.bool false) ∧ Jx hi (pre ++ [x]) W'))) →
  (∀ hi, W.heap.size ≤ hi → J hi [] W) → CallsIn Fence.wide 0 P gf (#[.func (.yield l) #[] #[]] ++ lb) W fun e W' => (∃ v, e = .returned v) ∧ ∃ hi, W.heap.size ≤ hi ∧ ((∃ xs, S xs ∧ J hi xs W') ∨ ∃ pre, Sp pre ∧ Jx hi pre W')
def postD {α : Type} (B hi : Nat) (I : List α → World → Prop) (Ix : Code → List α → World → Prop) (xs : List α) (W : World) : Exit → Act → World → Prop
 | .normal, _, W' => Kp B hi W W' ∧ I xs W'
 | .ret, _, W' => Kp B hi W W' ∧ Ix .ret xs W'
 | .exit id, _, W' => Kp B hi W W' ∧ Ix (.exit id) xs W'
 | .goto t, _, W' => Kp B hi W W' ∧ Ix (.goto t) xs W'
 | .panic _, _, _ => False
 | .outgrown, _, _ => False
theorem rangeFunc_D {P : Program} {α : Type} {g : Operand} {ps : Array Tmp} {assign body : Code} {Q : Exit → Act → World → Prop} {a : Act} {w : World}
 {gf : Nat} {lb : Array Value} (hg : a.eval g = .func (.func gf) #[] lb) (eg : CallsTo P gf) {encs : α → Array Value} {S Sp : List α → Prop} {N : Nat} {K0 : World → Prop}
 (hseq : SeqD P gf lb encs S Sp N K0) (hps : ∀ x, (encs x).size = ps.size) (I : Nat → List α → World → Prop) (Ix : Nat → Code → List α → World → Prop)
 (hI : ∀ hi, w.heap.size + 2 ≤ hi → AbR w.heap.size hi (I hi)) (hIx : ∀ hi c, w.heap.size + 2 ≤ hi → AbR w.heap.size hi (Ix hi c)) (hK : ∀ hi pre W', I hi pre W' → K0 W') (h0 : ∀ hi, w.heap.size + 2 ≤ hi → I hi [] w)
 (hround : ∀ (hi l : Nat) (pre : List α) (x : α) (W : World), w.heap.size + 2 ≤ hi → hi ≤ W.heap.size → I hi pre W → pre.length < N →
   assign.wpIn (Fence.wide.inRound l) 0 P (Exit.then (fun a1 W1 => Kp w.heap.size hi W W1 ∧ ∀ W2, Turn (w.heap.size + 1) W1 W2 → body.wpIn (Fence.wide.inRound l) 0 P (postD w.heap.size hi (I hi) (Ix hi) (pre ++ [x]) W2) a1 W2) (fun _ _ _ => False))
     { tmps := (ps.zip (encs x)).foldl (fun t (p, v) => t.setIfInBounds p v) a.tmps, defers := [] } W)
 (hdone : ∀ (hi D : Nat) (xs : List α) (W : World), w.heap.size + 2 ≤ hi → w.heap.size ≤ D → D < hi → S xs → I hi xs W → W.heap[D]? = some (.deferred (some [])) → Q .normal { a with defers := { target := .collected D, args := #[] } :: a.defers } W)
 (hstop : ∀ (hi D : Nat) (c : Code) (pre : List α) (W : World), w.heap.size + 2 ≤ hi → w.heap.size ≤ D → D < hi → Sp pre → Ix hi c pre W → W.heap[D]? = some (.deferred (some [])) → c.wpIn Fence.wide 0 P Q { a with defers := { target := .collected D, args := #[] } :: a.defers } W) :
 (Code.rangeFunc g ps assign body).wpIn Fence.wide 0 P Q a w := by
 refine wpIn_rangeFunc fun fn hfn => ?_
 obtain ⟨rec, hrec⟩ : ∃ rec : LoopState → Option Code → Loop, rec = fun st pe => { state := st, pending := pe, fn, tmps := a.tmps, params := ps, assign, body, defers := w.heap.size } := ⟨_, rfl⟩
 obtain ⟨W1, hW1⟩ : ∃ W1, (w.alloc (.deferred (some []))).alloc (.loop (rec .ready none)) = W1 := ⟨_, rfl⟩
 have hs1 : W1.heap.size = w.heap.size + 2 := by rw [← hW1]; simp
 have hL : W1.heap[w.heap.size + 1]? = some (.loop (rec .ready none)) := by
  rw [← hW1]; have := World.alloc_heap_new (w.alloc (.deferred (some []))) (.loop (rec .ready none)); rwa [World.size_alloc] at this
 have hD : W1.heap[w.heap.size]? = some (.deferred (some [])) := by
  rw [← hW1]; exact (Below.heap_alloc _ _ _ (by simp)).trans (World.alloc_heap_new w _)
 have hI1 : ∀ hi, w.heap.size + 2 ≤ hi → I hi [] W1 := fun hi hh => by rw [← hW1]; exact (hI hi hh).alloc ((hI hi hh).alloc (h0 hi hh) _) _
 refine ⟨w.heap.size + 1, [{ target := .collected w.heap.size, args := #[] }], W1, { target := .fn (.func gf) lb, args := #[.func (.yield (w.heap.size + 1)) #[] #[]] }, W1, gf,
   #[.func (.yield (w.heap.size + 1)) #[] #[]] ++ lb, W1, ?_, ?_, fun _ _ => trivial, ?_, fun h => (by cases h), ?_⟩
 · rw [← hW1, hrec]; exact run_enterLoop_outer _ _ _ _ _
 · simp only [resolve, hg]
   simp [go_sem]
 · have := eg (#[.func (.yield (w.heap.size + 1)) #[] #[]] ++ lb) W1
   exact this
 have key := hseq (w.heap.size + 1) (fun hi pre W => w.heap.size + 2 ≤ W.heap.size ∧ I hi pre W ∧ W.heap[w.heap.size + 1]? = some (.loop (rec .ready none)) ∧ W.heap[w.heap.size]? = some (.deferred (some [])))
  (fun hi pre W => w.heap.size + 2 ≤ W.heap.size ∧ ∃ c, Ix hi c pre W ∧ W.heap[w.heap.size + 1]? = some (.loop (rec .done (some c))) ∧ W.heap[w.heap.size]? = some (.deferred (some []))) W1
  (fun hi pre W' h => hK hi pre W' h.2.1)
  (fun hi hh s A B h e1 e2 e3 e4 e5 => by
    have h1 := h.1
    exact ⟨Nat.le_trans h.1 e4, hI hi (by omega) s A B h.2.1 e1 e2 e3 e4 (fun k hk hk2 => e5 k hk (by omega)), (e5 _ (by omega) (by omega)).trans h.2.2.1, (e5 _ (by omega) (by omega)).trans h.2.2.2⟩)
  (fun hi hh s A B h e1 e2 e3 e4 e5 => by
    obtain ⟨hz, c, h1, h2, h3⟩ := h
    exact ⟨Nat.le_trans hz e4, c, hIx hi c (by omega) s A B h1 e1 e2 e3 e4 (fun k hk hk2 => e5 k hk (by omega)), (e5 _ (by omega) (by omega)).trans h2, (e5 _ (by omega) (by omega)).trans h3⟩)
  ?_ (fun hi hh => ⟨by omega, hI1 hi (by omega), hL, hD⟩)
 · refine key.mono ?_
   rintro e W2 ⟨⟨v, rfl⟩, hh, hhl, (⟨xs, hS, hz, hi, hl, hk⟩ | ⟨pre, hSp, hz, c, hi, hl, hk⟩)⟩
   · exact ⟨none, _, by have := run_endLoop (P := P) hl (by rw [hrec]; simp); rw [hrec] at this; exact this, hdone hh _ xs _ (by omega) (Nat.le_refl _) (by omega) hS ((hI hh (by omega)).put (by omega) (by omega) hi _) ((World.putObj_heap_other (by omega)).trans hk)⟩
   · exact ⟨some c, _, by have := run_endLoop (P := P) hl (by rw [hrec]; simp); rw [hrec] at this; exact this, hstop hh _ c pre _ (by omega) (Nat.le_refl _) (by omega) hSp ((hIx hh c (by omega)).put (by omega) (by omega) hi _) ((World.putObj_heap_other (by omega)).trans hk)⟩
 · rintro hh pre x W hhl hhW ⟨hz, hi, hl, hk⟩ hlen
   have hy := run_yield (P := P) (args := encs x) hl (by rw [hrec]; exact hps x)
   rw [hrec] at hy
   refine ⟨fn, _, assign, body, hy, roundIn_of_wpIn hfn (wpIn_mono (hround hh _ pre x W (by omega) hhW hi hlen) ?_)⟩
   rintro e a1 W1' hp1
   cases e with
   | exit _ => exact hp1.elim
   | goto _ => exact hp1.elim
   | ret => exact hp1.elim
   | panic _ => exact hp1.elim
   | outgrown => exact hp1.elim
   | normal => ?_
   obtain ⟨⟨hzz, hkeep⟩, hbody⟩ := hp1
   have hl1 := (hkeep (w.heap.size + 1) (by omega) (by omega)).trans hl
   have hk1 := (hkeep w.heap.size (Nat.le_refl _) (by omega)).trans hk
   refine ⟨_, run_beginRound hl1 (by rw [hrec]), ?_⟩
   obtain ⟨W2, hW2⟩ : ∃ W2, W1'.putObj (w.heap.size + 1) (.loop { rec .ready none with state := .busy }) = W2 := ⟨_, rfl⟩
   have hl2 : W2.heap[w.heap.size + 1]? = some (.loop { rec .ready none with state := .busy }) := by rw [← hW2]; exact putObj_at hl1
   have hk2 : W2.heap[w.heap.size]? = some (.deferred (some [])) := by rw [← hW2]; exact (World.putObj_heap_other (by omega)).trans hk1
   have hz2 : w.heap.size + 2 ≤ W2.heap.size := by rw [← hW2]; simp; omega
   rw [hW2]
   refine wpIn_mono (hbody W2 (by rw [← hW2]; exact Turn.put _ _ _)) ?_
   have fin : ∀ (jump : Option Code) (W3 : World), Kp w.heap.size hh W2 W3 → w.heap.size + 2 ≤ W3.heap.size ∧
    (Instr.endRound (w.heap.size + 1) jump).run P W3 = .ok (.bool jump.isNone) (W3.putObj (w.heap.size + 1) (.loop (rec (if jump.isNone then .ready else .done) jump))) ∧
    (W3.putObj (w.heap.size + 1) (.loop (rec (if jump.isNone then .ready else .done) jump))).heap[w.heap.size + 1]? = some (.loop (rec (if jump.isNone then .ready else .done) jump)) ∧
    (W3.putObj (w.heap.size + 1) (.loop (rec (if jump.isNone then .ready else .done) jump))).heap[w.heap.size]? = some (.deferred (some [])) ∧
    Kp W1.heap.size hh W (W3.putObj (w.heap.size + 1) (.loop (rec (if jump.isNone then .ready else .done) jump))) := fun jump W3 ⟨hsz, hk3⟩ => by
    have hl3 := (hk3 _ (by omega) (by omega)).trans hl2
    have hd3 := (hk3 _ (Nat.le_refl _) (by omega)).trans hk2
    have hr := run_endRound (P := P) jump hl3
    rw [hrec] at hr ⊢
    have hw2 : W2.heap.size = W1'.heap.size := by rw [← hW2]; simp
    refine ⟨by have := (Array.getElem?_eq_some_iff.1 hl3).1; omega, hr, putObj_at hl3, (World.putObj_heap_other (by omega)).trans hd3, by simp; omega, fun k hk1 hk2' => ?_⟩
    rw [World.putObj_heap_other (by omega), hk3 k (by omega) (by omega), ← hW2, World.putObj_heap_other (by omega)]
    exact hkeep k (by omega) hk2'
   rintro e a3 W3 hp
   cases e with
   | normal =>
     obtain ⟨hk3, hi3⟩ := hp
     obtain ⟨hz3, hr, hl4, hk4, hkp⟩ := fin none W3 hk3
     exact ⟨_, _, hr, hkp, .inl ⟨rfl, by simpa using hz3, (hI hh (by omega)).put (by omega) (by omega) hi3 _, hl4, hk4⟩⟩
   | ret =>
     obtain ⟨hk3, hi3⟩ := hp
     obtain ⟨hz3, hr, hl4, hk4, hkp⟩ := fin (some .ret) W3 hk3
     exact ⟨_, _, hr, hkp, .inr ⟨rfl, by simpa using hz3, .ret, (hIx hh _ (by omega)).put (by omega) (by omega) hi3 _, hl4, hk4⟩⟩
   | exit id =>
     obtain ⟨hk3, hi3⟩ := hp
     obtain ⟨hz3, hr, hl4, hk4, hkp⟩ := fin (some (.exit id)) W3 hk3
     exact ⟨_, _, hr, hkp, .inr ⟨rfl, by simpa using hz3, .exit id, (hIx hh _ (by omega)).put (by omega) (by omega) hi3 _, hl4, hk4⟩⟩
   | goto t =>
     obtain ⟨hk3, hi3⟩ := hp
     obtain ⟨hz3, hr, hl4, hk4, hkp⟩ := fin (some (.goto t)) W3 hk3
     exact ⟨_, _, hr, hkp, .inr ⟨rfl, by simpa using hz3, .goto t, (hIx hh _ (by omega)).put (by omega) (by omega) hi3 _, hl4, hk4⟩⟩
   | panic ch => exact hp.elim
   | outgrown => exact hp.elim
theorem rangeFunc_D2 {B : Nat} {P : Program} {α : Type} {g : Operand} {ps : Array Tmp} {assign body : Code} {Q : Exit → Act → World → Prop} {a : Act} {w : World} (hB : w.heap.size = B)
 {gf : Nat} {lb : Array Value} (hg : a.eval g = .func (.func gf) #[] lb) (eg : CallsTo P gf) {encs : α → Array Value} {S Sp : List α → Prop} {N : Nat} {K0 : World → Prop}
 (hseq : SeqD P gf lb encs S Sp N K0) (hps : ∀ x, (encs x).size = ps.size) (I : Nat → List α → World → Prop) (Ix : Nat → Code → List α → World → Prop)
 (hI : ∀ hi, B + 2 ≤ hi → AbR B hi (I hi)) (hIx : ∀ hi c, B + 2 ≤ hi → AbR B hi (Ix hi c)) (hK : ∀ hi pre W', I hi pre W' → K0 W') (h0 : ∀ hi, B + 2 ≤ hi → I hi [] w)
 (hround : ∀ (hi l : Nat) (pre : List α) (x : α) (W : World), B + 2 ≤ hi → hi ≤ W.heap.size → I hi pre W → pre.length < N →
   assign.wpIn (Fence.wide.inRound l) 0 P (Exit.then (fun a1 W1 => Kp B hi W W1 ∧ ∀ W2, Turn (B + 1) W1 W2 → body.wpIn (Fence.wide.inRound l) 0 P (postD B hi (I hi) (Ix hi) (pre ++ [x]) W2) a1 W2) (fun _ _ _ => False))
     { tmps := (ps.zip (encs x)).foldl (fun t (p, v) => t.setIfInBounds p v) a.tmps, defers := [] } W)
 (hdone : ∀ (hi D : Nat) (xs : List α) (W : World), B + 2 ≤ hi → B ≤ D → D < hi → S xs → I hi xs W → W.heap[D]? = some (.deferred (some [])) → Q .normal { a with defers := { target := .collected D, args := #[] } :: a.defers } W)
 (hstop : ∀ (hi D : Nat) (c : Code) (pre : List α) (W : World), B + 2 ≤ hi → B ≤ D → D < hi → Sp pre → Ix hi c pre W → W.heap[D]? = some (.deferred (some [])) → c.wpIn Fence.wide 0 P Q { a with defers := { target := .collected D, args := #[] } :: a.defers } W) :
 (Code.rangeFunc g ps assign body).wpIn Fence.wide 0 P Q a w := by
 subst hB
 exact rangeFunc_D hg eg hseq hps I Ix hI hIx hK h0 hround hdone hstop
section
variable {P : Program} {n : NN} {F0 : Nat → Prop} {w0 : World} {a : Act} {w : World} {L : List (Nat × Value)} {Γ : List Asn}
variable {K : Act → World → Prop} {Q : Exit → Act → World → Prop} {d ty : Nat} {pos : String} {af : Array Edge} {g : Option (Nat × Bool)}
theorem s_eD {op : Op} {v : Value} {ds : List Deferred} (hS : St n F0 w0 a w L Γ) (he : Ex P n a L Γ ⟨some d, op, ty, pos, af, g⟩ v) (hn : Nat.blt d n.n = true)
 (h : ∀ a', St n F0 w0 a' w ((d, v) :: L) Γ → K { a' with defers := ds } w) : OW P ⟨some d, op, ty, pos, af, g⟩ { a with defers := ds } w K Q := by
 refine ⟨?_⟩
 unfold Oper.wp
 have e : (execOp (Act.eval { a with defers := ds }) ⟨some d, op, ty, pos, af, g⟩) = execOp a.eval ⟨some d, op, ty, pos, af, g⟩ := rfl
 rw [e, he hS.sl w hS.hd]
 show K (Act.put { a with defers := ds } (some d) v) w
 rw [put_defers]
 exact h _ (hS.put hn v)
theorem end1 {fn : Func} {R : Ending → World → Prop} {D : Nat} {e : Exit} {rs : List ResultVar} {v : Value} (hS : St n F0 w0 a (w.putObj D (.deferred none)) L Γ) (he : e = .ret ∨ e = .normal) (hD : w.heap[D]? = some (.deferred (some [])))
 (hr : fn.results = rs.toArray) (hv : ResL P L Γ rs [v]) (h : R (.returned v) (w.putObj D (.deferred none))) :
 bodyPostM Fence.wide 0 P fn R e { a with defers := [{ target := .collected D, args := #[] }] } w := by
 refine endM he rfl hD ?_ h
 have h1 := ResL.run hS hv
 show (results fn a.tmps).run P _ = _
 rw [results_rvS, hr, List.mapM_toArray, Sem.run_bind, Sem.run_map, h1]
 simp [Result.andThen_ok]
end
end Go.Proofs.YtlccmgeclhdegaaGreatDoor
namespace Go.Proofs.YtlccmgeclhdegaaGreatDoor
open Go.RowKit
def keyV (k : ByteArray) : Array Value := [.string k].toArray
theorem St.bareK {n : NN} {a : Act} {w : World} {L : List (Nat × Value)} (h : Sl n a L) : St n noB w a w L [] := ⟨h, Chg.refl _ _, okN, disN, mineN⟩
def strA (v : Value) (xs : List ByteArray) : Asn := ownA 9 1 v xs.length (xs.map .string)
theorem owns_keepK {w w' : World} {E s : Nat} {v : Value} {m : Nat} {xs : List Value} (h : w.ownsRow 0 E s v m xs) (hw : ∀ b, v.ownBlock = some b → w'.heap[b]? = w.heap[b]?) : w'.ownsRow 0 E s v m xs :=
 (ok_own h).hold w' hw
structure apI (w0 : World) (bx hi : Nat) (xs : List ByteArray) (W : World) : Prop where
 chg : Chg noB w0 W
 row : ∃ v, W.heap[bx]? = some (.cells [v].toArray 35 (0, 0)) ∧ W.ownsRow 0 9 1 v xs.length (xs.map .string) ∧ ∀ k, v.ownBlock = some k → hi ≤ k
theorem apI_ab {w0 : World} {bx B hi : Nat} (hB : w0.heap.size ≤ B) (h2 : bx < B) : AbR B hi (apI w0 bx hi) := fun _ _ _ h e1 e2 e3 e4 e5 => by
 obtain ⟨v, q1, q2, q3⟩ := h.row
 have hs := h.chg.size
 refine ⟨⟨e1.trans h.chg.os, e2.trans h.chg.tape, e3.trans h.chg.output, Nat.le_trans hs e4, fun k hk hn => (e5 k (by omega) (.inl (by omega))).trans (h.chg.block k hk hn)⟩, v, ?_, ?_, q3⟩
 · exact (e5 bx (Array.getElem?_eq_some_iff.1 q1).1 (.inl h2)).trans q1
 · exact owns_keepK q2 (fun k hk => e5 k (World.ownsRow.lt q2 k hk).2 (.inr (q3 k hk)))
theorem chg_roundK {w0 W W1 W2 W3 : World} {B : Nat} {F : Nat → Prop} (h : Chg noB w0 W) (hB : w0.heap.size ≤ B) (h1 : Chg noB W W1) (hT : Turn (B + 1) W1 W2) (h3 : Chg F W2 W3) (hF : ∀ k, F k → w0.heap.size ≤ k) : Chg noB w0 W3 := by
 refine ⟨h3.os.trans (hT.os.trans (h1.os.trans h.os)), h3.tape.trans (hT.tape.trans (h1.tape.trans h.tape)), h3.output.trans (hT.output.trans (h1.output.trans h.output)), ?_, fun k hk _ => ?_⟩
 · have := h.size; have := h1.size; have := hT.size; have := h3.size; omega
 · have e1 := h.block k hk (fun hf => hf)
   have e2 := h1.block k (by have := h.size; omega) (fun hf => hf)
   have e3 := hT.same k (by omega)
   have e4 := h3.block k (by have := h.size; have := h1.size; have := hT.size; omega) (fun hf => by have := hF k hf; omega)
   exact e4.trans (e3.trans (e2.trans e1))
set_option maxRecDepth 100000 in
theorem AppendSeq_P {gf : Nat} {lb : Array Value} (eg : CallsTo Tryz.prog gf) {S Sp : List ByteArray → Prop} {N : Nat} (hN : N ≤ 1000000) (X : Asn) (hXm : X.mine = false) (hseq : SeqD Tryz.prog gf lb keyV S Sp N X.φ) (w0 : World) (hX : X.ok w0) :
 NewC Tryz.prog 186 [.slice none 0 0, .func (.func gf) #[] lb] w0 (fun y : { y : Value × List ByteArray // S y.2 } => y.1.1) (fun y => strA y.1.1 y.1.2) := by
 refine callsM_enter [(0, .slice none 0 0), (1, .func (.func gf) #[] lb)] [X] noB Tryz.func186 rfl Tryz.ntmps186 ⟨rfl, rfl, trivial⟩ rfl (okC (hX) okN) dis1 (mineC hXm mineN) ?_
 intro a hS
 refine R_seq (R_region ?_)
 refine R_op rfl (s_box1 hS rfl rfl rfl ?_); clear hS a; intro a w b2 hS
 refine R_op rfl (s_e hS (e_assign rfl) rfl ?_); clear hS a; intro a hS
 refine R_nil (nT (R_seq (R_seq (R_region ?_))))
 refine R_op rfl (s_e hS (e_move rfl) rfl ?_); clear hS a; intro a hS
 refine R_nil (nT (R_block ?_))
 obtain ⟨B, hB⟩ : ∃ B, w.heap.size = B := ⟨_, rfl⟩
 have g2 := hS.gg (X := .blk b2 [.slice none 0 0] 35)
 have l2 : b2 < B := by rw [← hB]; exact (Array.getElem?_eq_some_iff.1 g2).1
 have m2 : w0.heap.size ≤ b2 := (hS.mine (.blk b2 [.slice none 0 0] 35) (by repeat constructor) rfl b2 rfl).resolve_right (fun h => h)
 have hB0 : w0.heap.size ≤ B := by rw [← hB]; exact hS.chg.size
 refine rangeFunc_D2 (α := ByteArray) hB (hS.sl.ev rfl) eg hseq (fun _ => rfl) (apI w0 b2) (fun _ _ _ _ => False) (fun hi hh => apI_ab hB0 l2) (fun _ _ _ _ _ _ h => h.elim)
  (fun hi pre W h => hX.hold W (fun b hb => h.chg.block b (hX.lt b hb) (fun e => e))) (fun hi hh => ⟨hS.chg, .slice none 0 0, g2, World.ownsRow_nil _ _ _ _, fun k hk => (by cases hk)⟩) ?_ ?_ ?_
 · intro hi l pre x W hh hhW hI hlen
   obtain ⟨v, q1, q2, q3⟩ := hI.row
   have hR : St 13 noB W (a.put (some 7) (.string x)) W [(7, .string x), (2, .pointer (some ⟨b2, 0, none⟩))] [] :=
    ⟨(hS.sl.put rfl _).sub (by repeat (first | exact trivial | refine ⟨rfl, ?_⟩)), Chg.refl _ _, okN, disN, mineN⟩
   have hact : ({ tmps := (#[7].zip (keyV x)).foldl (fun t (p, v) => t.setIfInBounds p v) a.tmps, defers := [] } : Act) = a.put (some 7) (.string x) := by
    simp [Act.put, hS.sl.defers, keyV]
   rw [hact]
   clear hS hact g2 hB
   generalize a.put (some 7) (.string x) = a2 at hR ⊢
   clear a; rename Act => a
   clear w
   have hS := hR
   clear hR
   refine R_region ?_
   refine R_op rfl (s_e hS (e_assign rfl) rfl ?_); clear hS a; intro a hS
   refine R_nil (nT ?_)
   have hCW := hS.chg
   have hC1 := hCW.size
   refine ⟨⟨hC1, fun k h1 h2 => hCW.block k (by omega) (fun h => h)⟩, fun W2 hT => ?_⟩
   have hT1 := hT.size
   have hlow : ∀ k, k < W.heap.size → (k < B ∨ hi ≤ k) → W2.heap[k]? = W.heap[k]? := fun k hk hk2 => (hT.same k (by omega)).trans (hCW.block k hk (fun h => h))
   have hR : St 13 (fun k => k = b2 ∨ v.ownBlock = some k) W2 a W2 [(5, .string x), (2, .pointer (some ⟨b2, 0, none⟩))] [.blk b2 [v] 35, ownA 9 1 v pre.length (pre.map .string)] :=
    ⟨hS.sl.sub (by repeat (first | exact trivial | refine ⟨rfl, ?_⟩)), Chg.refl _ _, okC (ok_blk ((hlow b2 (by omega) (.inl l2)).trans q1)) (okC (ok_own (owns_keepK q2 (fun k hk => hlow k (World.ownsRow.lt q2 k hk).2 (.inr (q3 k hk))))) okN),
     disC (sepC (fun b h1 h2 => by have h1 : b = b2 := h1; have := q3 b h2; omega) sepN) dis1, mineO (fun b hb => .inl hb) (mineO (fun b hb => .inr hb) mineN)⟩
   clear hS
   have hS := hR
   clear hR
   refine R_block (R_region ?_)
   refine R_op rfl (s_e hS (e_load rfl (by repeat constructor) ty_sc35 (by rfl)) rfl ?_); clear hS a; intro a hS
   refine R_op rfl (s_e hS (e_move rfl) rfl ?_); clear hS a; intro a hS
   refine R_op rfl (s_bslice hS ty_sl35 ty_sz9 ty_z9 rfl rfl rfl rfl (.one rfl rfl rfl .nil) rfl ?_); clear hS a; intro a w b10 hS
   refine R_op rfl (s_append1 hS rfl rfl ty_sl35 ty_sz9 ty_by9 ty_z9 rfl rfl rfl (by repeat constructor) (by repeat constructor) (by rfl) (by rfl) (fun _ => (by repeat constructor)) (by omega) ?_); clear hS a; intro v11 a w hv11 hS
   obtain ⟨q11, c11, rfl⟩ := own_slice (hS.gg (X := ownA 9 1 v11 (pre.length + 1) (pre.map .string ++ [.string x])))
   refine R_op rfl (s_store hS rfl rfl rfl ty_sz35 (by repeat constructor) (by repeat constructor) ?_); clear hS; intro w hS
   refine R_nil (n_block ?_)
   have hC2 := hS.chg
   have hnew : ∀ k, (Value.slice q11 (pre.length + 1) c11).ownBlock = some k → hi ≤ k := fun k hk => by
    rcases hS.mine (ownA 9 1 (.slice q11 (pre.length + 1) c11) (pre.length + 1) (pre.map Value.string ++ [Value.string x])) (by repeat constructor) rfl k hk with h | h | h
    · omega
    · exact absurd h.symm (fun e => hS.sep (X := ownA 9 1 (.slice q11 (pre.length + 1) c11) (pre.length + 1) (pre.map Value.string ++ [Value.string x])) (Y := .blk b2 [(.slice q11 (pre.length + 1) c11)] 35) (by repeat (first | exact Rem.head | apply Rem.tail)) (by repeat constructor) k hk e.symm)
    · exact q3 k h
   have hrow : World.ownsRow w 0 9 1 (.slice q11 (pre.length + 1) c11) (pre.length + 1) (pre.map Value.string ++ [Value.string x]) := hS.gg (X := ownA 9 1 (.slice q11 (pre.length + 1) c11) (pre.length + 1) (pre.map Value.string ++ [Value.string x]))
   refine ⟨⟨hC2.size, fun k h1 h2 => hC2.block k (by omega) (fun h => h.elim (fun h => by omega) (fun h => by have := q3 k h; omega))⟩, ⟨chg_roundK hI.chg hB0 hCW hT hC2 (fun k h => h.elim (fun h => by omega) (fun h => by have := q3 k h; omega)), (.slice q11 (pre.length + 1) c11), hS.gg (X := .blk b2 [(.slice q11 (pre.length + 1) c11)] 35), by simpa using hrow, hnew⟩⟩
 · intro hi D xs W hh hBD hDh hxs hI hDc
   obtain ⟨v, q1, q2, q3⟩ := hI.row
   have hd : St 13 noB w0 a W [(2, .pointer (some ⟨b2, 0, none⟩))] [.blk b2 [v] 35, strA v xs] :=
    ⟨hS.sl.sub (by repeat (first | exact trivial | refine ⟨rfl, ?_⟩)), hI.chg, okC (ok_blk q1) (okC (ok_own q2) okN), disC (sepC (fun b h1 h2 => by have h1 : b = b2 := h1; have := q3 b h2; omega) sepN) dis1, fun X hX _ k hk => .inl (by
      rcases List.mem_cons.1 hX with rfl | hX
      · have : k = b2 := hk; omega
      · obtain rfl := List.mem_singleton.1 hX; have := q3 k hk; omega)⟩
   clear hS
   refine n_block (nT (R_seq (R_region ?_)))
   obtain ⟨p1, c1, rfl⟩ := own_slice q2
   rw [hd.sl.defers]
   refine R_op rfl (s_eD hd (e_loadC rfl ty_sc35 (fun w hh => cell_of_blk (cs := [.slice p1 xs.length c1]) (hh (.blk b2 [.slice p1 xs.length c1] 35) (by repeat constructor)) rfl)) rfl ?_); clear hd a; intro a hd
   refine R_op rfl (s_eD hd (e_assign rfl) rfl ?_); clear hd a; intro a hd
   refine R_nil (nT (R_ret ?_))
   have hd3 := hd.putD (D := D) (o := .deferred none) (by omega) (fun X hX k hk => by
     rcases List.mem_cons.1 hX with rfl | hX
     · have : k = b2 := hk; omega
     · obtain rfl := List.mem_singleton.1 hX; have := q3 k hk; omega)
   exact end1 hd3 (.inl rfl) hDc Tryz.results186 (.cons (.tmp rfl) .nil) ⟨⟨(.slice p1 xs.length c1, xs), hxs⟩, rfl, hd3.chg, hd3.new (X := strA (.slice p1 xs.length c1) xs) (by repeat constructor) rfl⟩
 · intro hi D c pre W _ _ _ _ hF; exact hF.elim
def bytesL (xs : List ByteArray) : List (List UInt8) := xs.map (·.data.toList)
def srt (xs : List ByteArray) : List ByteArray := ((bytesL xs).mergeSort fun x y => decide (x ≤ y)).map fun l => ⟨l.toArray⟩
theorem srt_len (xs : List ByteArray) : (srt xs).length = xs.length := by simp [srt, bytesL]
theorem encStr_map (xs : List ByteArray) : (bytesL xs).map encStr = xs.map Value.string := by
 unfold bytesL
 rw [List.map_map]
 apply List.map_congr_left
 intro x _
 show Value.string ⟨x.data.toList.toArray⟩ = _
 simp
theorem SortS_P (v : Value) (xs : List ByteArray) (hx : xs.length ≤ 1000000) (w0 : World) (h : w0.ownsRow 0 9 1 v xs.length (xs.map .string)) :
 MutC Tryz.prog 146 [v] w0 (strA v xs) (fun _ : Unit => .tuple #[]) (fun _ => strA v (srt xs)) := by
 have hl : (bytesL xs).length = xs.length := by simp [bytesL]
 rcases h.2 with ⟨rfl, h0⟩ | ⟨g, cap, cur, rfl, hbase, hb, h1, h2, h3, h4⟩
 · obtain rfl : xs = [] := List.eq_nil_of_length_eq_zero h0
   refine (Tryz.slices_Sort_string_none none 0 w0).mono fun e w' ⟨he, hw⟩ => ?_
   subst hw
   exact ⟨(), he, Chg.refl _ _, (by have e : srt [] = [] := List.eq_nil_of_length_eq_zero (srt_len []); rw [e]; exact ok_own (World.ownsRow_nil _ _ _ _)), fun b hb => (by cases hb)⟩
 · have hH := Go.holds_of_block (ss := bytesL xs) hb (by rw [hl, encStr_map]; simpa using h4)
   have hc := Tryz.slices_Sort_string g 0 cap (bytesL xs) w0 hH (Array.getElem?_eq_some_iff.1 hb).1 (by omega)
   rw [hl] at hc
   refine hc.mono fun e w' ⟨he, n, os, hw⟩ => ?_
   have hgb : w0.grownBy w' (some g) := by rw [hw]; exact Go.grownBy_sorted _
   have hrow := Go.ownsRow_sorted (n := n) (os := os) (ss := bytesL xs) (ts := (bytesL xs).mergeSort fun x y => decide (x ≤ y)) (by simp) hbase hb (by omega) h2 h3
   rw [← hw, hl] at hrow
   have hsm : ((bytesL xs).mergeSort fun x y => decide (x ≤ y)).map encStr = (srt xs).map Value.string := by unfold srt; rw [List.map_map]; rfl
   rw [hsm] at hrow
   refine ⟨(), he, ?_, ?_, fun b hb2 => .inl hb2⟩
   · exact ⟨hgb.os, hgb.tape, hgb.output, hgb.size, fun k hk hn => hgb.block k hk (fun e => hn (congrArg some (Option.some.inj e).symm))⟩
   · have e1 := srt_len xs
     refine ok_own ?_
     rw [e1]; exact hrow
set_option maxRecDepth 100000 in
theorem CollectS_P {gf : Nat} {lb : Array Value} (eg : CallsTo Tryz.prog gf) {S Sp : List ByteArray → Prop} {N : Nat} (hN : N ≤ 1000000) (X : Asn) (hXm : X.mine = false) (hseq : SeqD Tryz.prog gf lb keyV S Sp N X.φ) (w0 : World) (hX : X.ok w0) :
 NewC Tryz.prog 145 [.func (.func gf) #[] lb] w0 (fun y : { y : Value × List ByteArray // S y.2 } => y.1.1) (fun y => strA y.1.1 y.1.2) := by
 refine c_enter [(0, .func (.func gf) #[] lb)] [X] noB Tryz.func145 rfl Tryz.ntmps145 ⟨rfl, trivial⟩ rfl (okC (hX) okN) dis1 (mineC hXm mineN) ?_
 intro a hS
 refine cS (cR ?_)
 refine L_e hS (e_assign rfl) rfl ?_; clear hS a; intro a hS
 refine nL (nT (cS (cR ?_)))
 refine L_e hS (e_move rfl) rfl ?_; clear hS a; intro a hS
 refine L_op (s_callN hS (.cons rfl (.cons rfl .nil)) cf186 rfl (AppendSeq_P eg hN X hXm hseq _ (hS.ok X (by repeat constructor))) ?_); clear hS a; intro x4 a w hS
 refine L_e hS (e_assign rfl) rfl ?_; clear hS a; intro a hS
 refine nL (nT (wp_ret ?_))
 refine c_ret1 hS Tryz.results145 (.tmp rfl) ?_
 exact ⟨x4, rfl, hS.chg, hS.new (X := strA x4.1.1 x4.1.2) (by repeat constructor) rfl⟩
set_option maxRecDepth 100000 in
theorem SortedS_P {gf : Nat} {lb : Array Value} (eg : CallsTo Tryz.prog gf) {S Sp : List ByteArray → Prop} {N : Nat} (hN : N ≤ 1000000) (hSN : ∀ xs, S xs → xs.length ≤ N) (X : Asn) (hXm : X.mine = false) (hseq : SeqD Tryz.prog gf lb keyV S Sp N X.φ) (w0 : World) (hX : X.ok w0) :
 NewC Tryz.prog 105 [.func (.func gf) #[] lb] w0 (fun y : { y : Value × List ByteArray // ∃ xs, S xs ∧ y.2 = srt xs } => y.1.1) (fun y => strA y.1.1 y.1.2) := by
 refine c_enter [(0, .func (.func gf) #[] lb)] [X] noB Tryz.func105 rfl Tryz.ntmps105 ⟨rfl, trivial⟩ rfl (okC (hX) okN) dis1 (mineC hXm mineN) ?_
 intro a hS
 refine cS (cR ?_)
 refine L_e hS (e_assign rfl) rfl ?_; clear hS a; intro a hS
 refine nL (nT (cS (cR ?_)))
 refine L_e hS (e_move rfl) rfl ?_; clear hS a; intro a hS
 refine L_op (s_callN hS (.cons rfl .nil) cf145 rfl (CollectS_P eg hN X hXm hseq _ (hS.ok X (by repeat constructor))) ?_); clear hS a; intro x5 a w hS
 obtain ⟨⟨v5, xs5⟩, hs5⟩ := x5
 simp only at hs5 hS
 have hn5 := hSN _ hs5
 refine L_e hS (e_assign rfl) rfl ?_; clear hS a; intro a hS
 refine nL (nT (cS (cR ?_)))
 refine L_e hS (e_move rfl) rfl ?_; clear hS a; intro a hS
 refine L_op (s_callM hS (.cons rfl .nil) cf146 rfl (SortS_P v5 xs5 (by omega) _ (hS.gg (X := strA v5 xs5))) (fun x => (by repeat constructor)) rfl ?_); clear hS a; intro x7 a w hS
 refine nL (nT (cS (cR ?_)))
 refine Rn hS (.m rfl <| .a rfl .n) ?_; clear hS a; intro a hS
 refine nL (nT (wp_ret ?_))
 refine c_ret1 hS Tryz.results105 (.tmp rfl) ?_
 exact ⟨⟨(v5, srt xs5), xs5, hs5, rfl⟩, rfl, hS.chg, hS.new (X := strA v5 (srt xs5)) (by repeat constructor) rfl⟩
structure valK (W0 : World) (b : Nat) (sv : Value) (w : World) : Prop where
 box : w.heap[b]? = some (.cells [sv].toArray 35 (0, 0))
 old : oldφ W0 w
def valA (W0 : World) (b : Nat) (sv : Value) : Asn := .any (fun k => k = b ∨ k < W0.heap.size) (valK W0 b sv) false
theorem val_ok {W0 : World} {b : Nat} {sv : Value} {w : World} (h : valK W0 b sv w) : (valA W0 b sv).ok w := by
 have h1 := old_ok h.old
 refine ⟨fun k hk => ?_, fun w' hw => ⟨(hw b (.inl rfl)).trans h.box, h1.hold w' fun k hk => hw k (.inr hk)⟩⟩
 rcases hk with rfl | hk
 · exact (Array.getElem?_eq_some_iff.1 h.box).1
 · exact h1.lt k hk
structure TxsAt (W0 : World) (sa : Option Addr) (names : List (List UInt8)) : Prop where
 at_ : names ≠ [] → ∃ nb no, sa = some ⟨nb, no, none⟩ ∧ ∀ (i : Nat) (x : List UInt8), names[i]? = some x → W0.cell? ⟨nb, no + i, none⟩ = some (.string (tx x))
set_option maxRecDepth 100000 in
theorem Values_N (sa : Option Addr) (m sc : Nat) (w0 : World) : NewC Tryz.prog 106 [.slice sa m sc] w0 (fun b : Nat => .func (.func 147) #[] [.pointer (some ⟨b, 0, none⟩)].toArray) (fun b => .blk b [.slice sa m sc] 35) := by
 refine c_enter [(0, .slice sa m sc)] [] noB Tryz.func106 rfl Tryz.ntmps106 ⟨rfl, trivial⟩ rfl (by simp) (by simp) (by simp) ?_
 intro a hS
 refine cS (cR ?_)
 refine L_op (s_box1 hS rfl rfl rfl ?_); clear hS a; intro a w b1 hS
 refine L_e hS (e_assign rfl) rfl ?_; clear hS a; intro a hS
 refine nL (nT (cS (cR ?_)))
 refine Rn hS (.c (e_makeFunc .nil (.cons rfl .nil)) <| .a rfl .n) ?_; clear hS a; intro a hS
 refine nL (nT (wp_ret ?_))
 refine c_ret1 hS Tryz.results106 (.tmp rfl) ?_
 exact ⟨b1, rfl, hS.chg, hS.new (X := .blk b1 [.slice sa m sc] 35) (by repeat constructor) rfl⟩
set_option maxRecDepth 100000 in
theorem Values_seq (W0 : World) (b : Nat) (sa : Option Addr) (sc : Nat) (names : List (List UInt8)) (hT : TxsAt W0 sa names) (hn : names.length ≤ 1000000) : SeqD Tryz.prog 147 #[.pointer (some ⟨b, 0, none⟩)] keyV (fun xs => xs = names.map tx) (fun _ => True) names.length (valK W0 b (.slice sa names.length sc)) := by
 intro ly J Jx W hK hJ hJx hY h0
 have hk0 := hK _ _ _ (h0 W.heap.size (Nat.le_refl _))
 rw [show (#[Value.func (.yield ly) #[] #[]] ++ #[Value.pointer (some ⟨b, 0, none⟩)] : Array Value) = [Value.func (.yield ly) #[] #[], Value.pointer (some ⟨b, 0, none⟩)].toArray from rfl]
 refine callsIn_enter [(0, .func (.yield ly) #[] #[]), (1, .pointer (some ⟨b, 0, none⟩))] [valA W0 b (.slice sa names.length sc)] noB Tryz.func147 rfl Tryz.ntmps147 ⟨rfl, rfl, trivial⟩ rfl (okC (val_ok hk0) okN) dis1 (mineC (by rfl) mineN) ?_
 intro a hS
 refine R_seq (R_region ?_)
 refine R_op rfl (s_e hS (e_loadC rfl ty_sc35 (fun w hh => cell_of_blk (cs := [.slice sa names.length sc]) (hh (valA W0 b (.slice sa names.length sc)) (by repeat constructor)).box rfl)) rfl ?_); clear hS a; intro a hS
 refine R_op rfl (s_e hS (e_len rfl rfl ty_sl35) rfl ?_); clear hS a; intro a hS
 refine R_op rfl (s_e hS (e_move rfl) rfl ?_); clear hS a; intro a hS
 refine R_nil (nT (R_block ?_))
 skip
 refine R_loop (γ := Nat) (fun k a w => St 16 noB w a w [(7, .int .i64 (k : Int)), (6, .int .i64 (names.length : Int)), (5, .slice sa names.length sc), (0, .func (.yield ly) #[] #[]), (1, .pointer (some ⟨b, 0, none⟩))] [valA W0 b (.slice sa names.length sc)] ∧ W.heap.size ≤ w.heap.size ∧ k ≤ names.length ∧ J W.heap.size ((names.take k).map tx) w) (fun k => names.length - k) 0 ⟨⟨hS.sl.sub (by repeat (first | exact trivial | refine ⟨rfl, ?_⟩)), Chg.refl _ _, okC (hS.ok _ (by repeat constructor)) okN, dis1, mineC rfl mineN⟩, Nat.le_refl _, Nat.zero_le _, h0 _ (Nat.le_refl _)⟩ ?_
 clear hS a; intro k a w hI
 obtain ⟨hS, hWw, hk, hj⟩ := hI
 refine R_seq (R_region ?_)
 refine R_op rfl (s_e hS (e_bin rfl rfl rfl) rfl ?_); clear hS a; intro a hS
 refine R_nil (nT (R_seq ?_))
 first | refine R_ifD hS rfl (fun hc8 => ?_) (fun hc8 => ?_) | refine R_if hS rfl (fun hc8 => ?_) (fun hc8 => ?_)
 ·
  have hkn : k < names.length := by omega
  obtain ⟨nb, no, rfl, hcn⟩ := hT.at_ (fun e => by rw [e] at hkn; exact absurd hkn (Nat.not_lt_zero _))
  obtain ⟨nm, hnm⟩ : ∃ x, names[k]? = some x := ⟨_, List.getElem?_eq_getElem hkn⟩
  have hsl : ((names.take k).map tx).length < names.length := by rw [List.length_map, List.length_take]; omega
  have hy := hY W.heap.size ((names.take k).map tx) (tx nm) w (Nat.le_refl _) hWw hj hsl
  unfold keyV at hy
  have hka : (names.take k).map tx ++ [tx nm] = (names.take (k + 1)).map tx := by rw [List.take_add_one, hnm]; simp
  rw [hka] at hy
  refine R_skip (nT (R_seq (R_block (R_seq (R_region ?_)))))
  refine R_op rfl (s_e hS (e_ixN rfl rfl ty_sl35 ty_sz9 (by omega)) rfl ?_); clear hS a; intro a hS
  refine R_op rfl (s_e hS (e_loadC rfl ty_sc9 (fun w hh => by rw [Nat.mul_one]; exact old_cell (hh (valA W0 b (.slice (some ⟨nb, no, none⟩) names.length sc)) (by repeat constructor)).old (hcn k nm hnm))) rfl ?_); clear hS a; intro a hS
  refine R_op rfl (s_e hS (e_assign rfl) rfl ?_); clear hS a; intro a hS
  refine R_nil (nT (R_seq (R_region ?_)))
  refine R_op rfl (s_e hS (e_move rfl) rfl ?_); clear hS a; intro a hS
  refine R_op rfl (s_e hS (e_move rfl) rfl ?_); clear hS a; intro a hS
  refine R_yield hS rfl (.cons rfl .nil) hy (fun e' w' hR => ?_)
  obtain ⟨hKp, hR⟩ := hR
  have hW2 : W.heap.size ≤ w'.heap.size := Nat.le_trans hWw hKp.1
  obtain ⟨y, rfl, hR2⟩ : ∃ y : Bool, e' = .returned (.bool y) ∧ ((y = true ∧ J W.heap.size ((names.take (k + 1)).map tx) w') ∨ (y = false ∧ Jx W.heap.size ((names.take (k + 1)).map tx) w')) := by
   rcases hR with ⟨h1, h2⟩ | ⟨h1, h2⟩
   · exact ⟨true, h1, .inl ⟨rfl, h2⟩⟩
   · exact ⟨false, h1, .inr ⟨rfl, h2⟩⟩
  refine ⟨_, rfl, ?_⟩
  replace hS := St.bareK (w := w') (hS.sl.put (d := 13) rfl (.bool y))
  clear hj hy hKp
  generalize a.put (some 13) (Value.bool y) = a2 at hS ⊢
  clear a; revert a2; intro a hS
  refine R_op rfl (s_e hS (e_not rfl) rfl ?_); clear hS a; intro a hS
  refine R_nil (nT ?_)
  first | refine R_ifD hS rfl (fun hc14 => ?_) (fun hc14 => ?_) | refine R_if hS rfl (fun hc14 => ?_) (fun hc14 => ?_)
  ·
   refine R_ret ?_
   refine r_block (r_then (r_then (r_block ?_)))
   refine c_retN hS Tryz.results147 .nil rfl ?_
   have hx2 : Jx W.heap.size ((names.take (k + 1)).map tx) w' := by
    rcases hR2 with ⟨h1, _⟩ | ⟨_, h2⟩
    · rw [h1] at hc14; cases hc14
    · exact h2
   exact ⟨⟨_, rfl⟩, W.heap.size, Nat.le_refl _, .inr ⟨_, trivial, hx2⟩⟩
  refine R_skip (n_block (nT (R_region ?_)))
  refine R_op rfl (s_e hS (e_binN rfl rfl rfl (by omega)) rfl ?_); clear hS a; intro a hS
  refine R_op rfl (s_e hS (e_move rfl) rfl ?_); clear hS a; intro a hS
  refine R_nil ?_
  have hx2 : J W.heap.size ((names.take (k + 1)).map tx) w' := by
   rcases hR2 with ⟨_, h2⟩ | ⟨h1, _⟩
   · exact h2
   · rw [h1] at hc14; cases hc14
  exact ⟨k + 1, by omega, ⟨hS.sl.sub (by repeat (first | exact trivial | refine ⟨rfl, ?_⟩)), Chg.refl _ _, okC (val_ok (hK _ _ _ hx2)) okN, dis1, mineC rfl mineN⟩, hW2, hkn, hx2⟩
 refine R_exit ?_
 refine x_then (x_then (x_hit ?_))
 refine r_norm ?_
 refine c_retN hS Tryz.results147 .nil rfl ?_
 have hk2 : k = names.length := by omega
 rw [hk2, List.take_length] at hj
 exact ⟨⟨_, rfl⟩, W.heap.size, Nat.le_refl _, .inl ⟨_, rfl, hj⟩⟩
def pE (v : Value) : List PanicEntry := [{ v := v, recovered := false }]
def MayC {γ : Type} (P : Program) (f : FuncId) (args : List Value) (w : World) (pan : Value → Prop) (X : Asn) (V : γ → Value) (Y : γ → Asn) : Prop :=
 Calls P f args.toArray w fun e w' => (∃ x, e = .returned (V x) ∧ Chg X.F w w' ∧ (Y x).ok w' ∧ ∀ b, (Y x).F b → X.F b ∨ w.heap.size ≤ b) ∨ (∃ v, pan v ∧ e = .panicked (pE v) ∧ Chg X.F w w')
section
variable {P : Program} {n : NN} {F0 : Nat → Prop} {w0 : World} {a : Act} {w : World} {L : List (Nat × Value)} {Γ : List Asn}
variable {K : Act → World → Prop} {Q : Exit → Act → World → Prop} {d ty : Nat} {dst : Option Tmp} {pos : String} {af : Array Edge} {g : Option (Nat × Bool)}
theorem p_then {N : Act → World → Prop} {ch : List PanicEntry} (h : Q (.panic ch) a w) : Exit.then N Q (.panic ch) a w := h
theorem p_block {i : Nat} {ch : List PanicEntry} (h : Q (.panic ch) a w) : Exit.inBlock i Q (.panic ch) a w := h
theorem St.chgX (h : St n F0 w0 a w L Γ) {X : Asn} {w' : World} (hX : X ∈ Γ) (hm : X.mine = true) (hc : Chg X.F w w') : Chg F0 w0 w' :=
 h.chg.trans hc fun i hi hlt => by
  rcases h.mine X hX hm i hi with h3 | h3
  · omega
  · exact h3
theorem s_callY {γ : Type} {pan : Value → Prop} {V : γ → Value} {X : Asn} {Y : γ → Asn} {Γ' : γ → List Asn} {f : FuncId} {xs : List Operand} {vs : List Value} {ts : Array TypeId} (hS : St n F0 w0 a w L Γ) (hx : Evs L xs vs) (hf : CallsTo P f) (hn : Nat.blt d n.n = true)
 (hc : MayC P f vs w pan X V Y) (hr : ∀ x, Rep X (Y x) Γ (Γ' x)) (hm : X.mine = true) (hX : X ∈ Γ) (hp : ∀ v w', pan v → a.defers = n.D → Chg F0 w0 w' → Q (.panic (pE v)) a w') (h : ∀ x a' w', St n F0 w0 a' w' ((d, V x) :: L) (Γ' x) → K a' w') : OW P ⟨some d, .call ⟨.value (.func f), xs.toArray, ts⟩, ty, pos, af, g⟩ a w K Q := by
 refine ⟨?_⟩
 unfold Oper.wp
 have he : (execOp a.eval (⟨some d, .call ⟨.value (.func f), xs.toArray, ts⟩, ty, pos, af, g⟩ : Oper)).run P w = .ok (.enter f vs.toArray) w := by
  rw [execOp_call_go]
  rw [hS.sl.evs hx]
  simpa using hf vs.toArray w
 rw [he]
 refine Calls.mono hc fun e w' hR => ?_
 rcases hR with ⟨x, rfl, hch, hY, hF⟩ | ⟨v, hv, rfl, hch⟩
 · exact h x _ _ ((hS.upd (hr x) hch hY hF hm).put hn _)
 · exact hp v w' hv hS.sl.defers (hS.chgX hX hm hch)
theorem e_mkIfS {T : TypeId} {x : Operand} {v : Value} (hx : ev L x = some v) (hT : P.concrete T = true) : Ex P n a L Γ ⟨dst, .makeInterface T x, ty, pos, af, g⟩ (.iface T v) := fun hs w _ => by
 have hr := run_makeInterface (P := P) w T v hT
 have he := hs.ev hx
 simp [execOp, he, hr]
theorem s_panic {x : Operand} {T : TypeId} {v : Value} (hS : St n F0 w0 a w L Γ) (hx : ev L x = some (.iface T v)) (h : Q (.panic (pE (.iface T v))) a w) : OW P ⟨dst, .panic x, ty, pos, af, g⟩ a w K Q := by
 refine ⟨?_⟩
 unfold Oper.wp
 have he : (execOp a.eval (⟨dst, .panic x, ty, pos, af, g⟩ : Oper)).run P w = .halt (.panic (.iface T v)) w := by
  have h1 := hS.sl.ev hx
  simp [execOp, h1, run_panic_iface]
 rw [he]
 exact h
end
end Go.Proofs.YtlccmgeclhdegaaGreatDoor
namespace Go.Proofs.YtlccmgeclhdegaaGreatDoor
open Go.RowKit
variable {P : Program} {n : NN} {F0 : Nat → Prop} {w0 w : World} {a : Act} {L : List (Nat × Value)} {Γ : List Asn} {Q : Exit → Act → World → Prop}
end Go.Proofs.YtlccmgeclhdegaaGreatDoor
namespace Go.Proofs.YtlccmgeclhdegaaGreatDoor
open Go.RowKit
section
variable {P : Program} {n : NN} {F0 : Nat → Prop} {w0 : World} {a : Act} {w : World} {L : List (Nat × Value)} {Γ : List Asn} {r : Option Nat} {N : Nat} {Q : Exit → Act → World → Prop}
end
end Go.Proofs.YtlccmgeclhdegaaGreatDoor
namespace Go.Proofs.YtlccmgeclhdegaaGreatDoor
open Go.RowKit
inductive JV where
 | mk (k : Nat) (t : List UInt8) (ns : List (List UInt8)) (l : List JV)
def JV.k : JV → Nat
 | .mk k _ _ _ => k
def JV.t : JV → List UInt8
 | .mk _ t _ _ => t
def JV.ns : JV → List (List UInt8)
 | .mk _ _ ns _ => ns
def JV.l : JV → List JV
 | .mk _ _ _ l => l
def jz : JV := .mk 0 [] [] []
def jStr (s : List UInt8) : JV := .mk 4 s [] []
def jNum (s : List UInt8) : JV := .mk 3 s [] []
def jBl (x : UInt8) : Bool := decide (x.toNat = 32 ∨ x.toNat = 9 ∨ x.toNat = 10 ∨ x.toNat = 13)
def jDg (x : UInt8) : Bool := decide (48 ≤ x.toNat ∧ x.toNat ≤ 57)
def blN (l : List UInt8) : Nat := (l.takeWhile jBl).length
def dgN (l : List UInt8) : Nat := (l.takeWhile jDg).length
def hd0 (l : List UInt8) : Nat := match l with
 | [] => 0
 | x :: _ => x.toNat
def one (p : UInt8 → Bool) (l : List UInt8) : Bool := match l with
 | [] => false
 | x :: _ => p x
def isB (c : Nat) (x : UInt8) : Bool := decide (x.toNat = c)
def someF (l : List UInt8) : Option Nat := if dgN l = 0 then none else some (dgN l)
def signN (l : List UInt8) : Nat := if one (isB 45) l then 1 else 0
def intF (l : List UInt8) : Option Nat := if one (isB 48) l then some 1 else someF l
def fracF (l : List UInt8) : Option Nat := if one (isB 46) l then (someF (l.drop 1)).map (· + 1) else some 0
def jE (x : UInt8) : Bool := decide (x.toNat = 101 ∨ x.toNat = 69)
def jPM (x : UInt8) : Bool := decide (x.toNat = 43 ∨ x.toNat = 45)
def pmN (l : List UInt8) : Nat := if one jPM l then 1 else 0
def expF (l : List UInt8) : Option Nat := if one jE l then (someF (l.drop (1 + pmN (l.drop 1)))).map (· + (1 + pmN (l.drop 1))) else some 0
def numF (l : List UInt8) : Option Nat :=
 match intF (l.drop (signN l)) with
 | none => none
 | some a => match fracF (l.drop (signN l + a)) with
   | none => none
   | some b => match expF (l.drop (signN l + a + b)) with
     | none => none
     | some c => if 40 < signN l + a + b + c then none else some (signN l + a + b + c)
def hexV (x : Nat) : Option Nat := if 48 ≤ x ∧ x ≤ 57 then some (x - 48) else if 97 ≤ x ∧ x ≤ 102 then some (x - 87) else if 65 ≤ x ∧ x ≤ 70 then some (x - 55) else none
def fourF (l : List UInt8) : Option Nat := match l with
 | a :: b :: c :: d :: _ => match hexV a.toNat, hexV b.toNat, hexV c.toNat, hexV d.toNat with
   | some x, some y, some z, some u => some (((x * 16 + y) * 16 + z) * 16 + u)
   | _, _, _, _ => none
 | _ => none
def marksL : List UInt8 := [34, 92, 47, 98, 102, 110, 114, 116]
def meantL : List UInt8 := [34, 92, 47, 8, 12, 10, 13, 9]
def escF (l : List UInt8) : Option (Nat × Nat) := match l with
 | [] => none
 | c :: t => match marksL.findIdx? (· == c) with
   | some i => some ((meantL.getD i 0).toNat, 1)
   | none => if c.toNat = 117 then match fourF t with
    | none => none
    | some x => if x < 55296 ∨ 57344 ≤ x then some (x, 5) else if 56320 ≤ x then none else
      if (t.getD 4 0).toNat = 92 ∧ (t.getD 5 0).toNat = 117 then match fourF (t.drop 6) with
       | none => none
       | some y => if y < 56320 ∨ 57344 ≤ y then none else some (65536 + (x - 55296) * 1024 + (y - 56320), 11)
      else none
     else none
def strF : Nat → List UInt8 → List UInt8 → Nat → Option (List UInt8 × Nat)
 | 0, _, _, _ => none
 | n + 1, l, acc, u => match l with
   | [] => none
   | c :: t => if c.toNat < 32 then none else if c.toNat = 34 then some (acc, u + 1) else
     if c.toNat = 92 then match escF t with
      | none => none
      | some (r, k) => strF n (t.drop k) (acc ++ Lib.encodeRune r) (u + 1 + k)
     else if (Lib.decodeL l).1 = 65533 ∧ (Lib.decodeL l).2 = 1 then none
     else strF n (l.drop (Lib.decodeL l).2) (acc ++ l.take (Lib.decodeL l).2) (u + (Lib.decodeL l).2)
def wordsJ : List (List UInt8) := [[110, 117, 108, 108], [102, 97, 108, 115, 101], [116, 114, 117, 101]]
def wordF (l : List UInt8) : Option (JV × Nat) := match wordsJ.findIdx? (fun w => w.head? == l.head?) with
 | none => none
 | some i => if (wordsJ.getD i []).isPrefixOf l then some (.mk i [] [] [], (wordsJ.getD i []).length) else none
def jBegin (x : UInt8) : Bool := [(123 : UInt8), 91, 34, 45, 48, 49, 50, 51, 52, 53, 54, 55, 56, 57, 110, 102, 116].contains x
mutual
def valF : Nat → Nat → List UInt8 → Option (JV × Nat)
 | 0, _, _ => none
 | n + 1, d, l => match l with
   | [] => none
   | c :: t =>
     if c.toNat = 123 then if 32 ≤ d then none else
      if one (isB 125) (t.drop (blN t)) then some (.mk 6 [] [] [], 1 + blN t + 1) else objL n d t [] [] 1
     else if c.toNat = 91 then if 32 ≤ d then none else
      if one (isB 93) (t.drop (blN t)) then some (.mk 5 [] [] [], 1 + blN t + 1) else arrL n d t [] 1
     else if c.toNat = 34 then (strF t.length t [] 1).map fun x => (jStr x.1, x.2)
     else if c.toNat = 45 ∨ (48 ≤ c.toNat ∧ c.toNat ≤ 57) then (numF l).map fun k => (jNum (l.take k), k)
     else wordF l
def arrL : Nat → Nat → List UInt8 → List JV → Nat → Option (JV × Nat)
 | 0, _, _, _, _ => none
 | n + 1, d, l, acc, u =>
   if acc.length = 1000 ∧ one jBegin (l.drop (blN l)) then none else
   match valF n (d + 1) (l.drop (blN l)) with
   | none => none
   | some (v, k) =>
     if one (isB 93) (l.drop (blN l + k + blN (l.drop (blN l + k)))) then some (.mk 5 [] [] (acc ++ [v]), u + (blN l + k + blN (l.drop (blN l + k)) + 1))
     else if one (isB 44) (l.drop (blN l + k + blN (l.drop (blN l + k)))) then arrL n d (l.drop (blN l + k + blN (l.drop (blN l + k)) + 1)) (acc ++ [v]) (u + (blN l + k + blN (l.drop (blN l + k)) + 1))
     else none
def objL : Nat → Nat → List UInt8 → List (List UInt8) → List JV → Nat → Option (JV × Nat)
 | 0, _, _, _, _, _ => none
 | n + 1, d, l, ns, acc, u =>
   if one (isB 34) (l.drop (blN l)) = false then none else
   if acc.length = 1000 then none else
   match strF l.length (l.drop (blN l + 1)) [] (blN l + 1) with
   | none => none
   | some (nm, a) =>
     if nm ∈ ns then none else
     if one (isB 58) (l.drop (a + blN (l.drop a))) = false then none else
     let p1 := a + blN (l.drop a) + 1
     let p2 := p1 + blN (l.drop p1)
     match valF n (d + 1) (l.drop p2) with
     | none => none
     | some (v, k) =>
       let p3 := p2 + k + blN (l.drop (p2 + k))
       if one (isB 125) (l.drop p3) then some (.mk 6 [] (ns ++ [nm]) (acc ++ [v]), u + (p3 + 1))
       else if one (isB 44) (l.drop p3) then objL n d (l.drop (p3 + 1)) (ns ++ [nm]) (acc ++ [v]) (u + (p3 + 1))
       else none
end
def parseF (l : List UInt8) : Option JV := if 65536 < l.length then none else match valF (2 * l.length + 2) 0 (l.drop (blN l)) with
 | none => none
 | some (v, k) => if blN l + k + blN (l.drop (blN l + k)) < l.length then none else some v
end Go.Proofs.YtlccmgeclhdegaaGreatDoor
