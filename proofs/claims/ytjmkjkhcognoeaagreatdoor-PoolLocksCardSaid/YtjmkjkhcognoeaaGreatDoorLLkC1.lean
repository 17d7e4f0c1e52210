/- PoolLocks: for every argument the law returns true, and each argument reads afterwards as it read before. No conditions. (text 1 of 2) -/
import Derived.WalkKit
import Derived.OrdersHeld
import Derived.Lib.Hide
import Derived.Laws.OwnMore
import Derived.Maps.RangeRun
import Derived.RangeFuncRecord
import Derived.Conc.MuLone
import Derived.Defers
import Derived.Test.YtjmkjkhcognoeaaGreatDoorRows
import Derived.Laws.BytesArg
import Derived.Lib.SlBytesConst
import Derived.Test.YtjmkjkhcognoeaaGreatDoorShelf
import Derived.RangeFuncOne
import Derived.RangeFuncLeaves
import Derived.OrdersIn
namespace Go.Proofs.YtjmkjkhcognoeaaGreatDoor
open Go.RowKit

theorem nbeq_no {a b : Nat} (h : a ≠ b) : Nat.beq a b = false := by
  cases h' : Nat.beq a b
  · rfl
  · exact absurd (Nat.eq_of_beq_eq_true h') h
theorem nbeq_ne {a b : Nat} (h : Nat.beq a b = false) : a ≠ b := Nat.ne_of_beq_eq_false h

/-- the newest value of a slot in a list of writes. -/
def lk : List (Nat × Value) → Nat → Option Value
  | [], _ => none
  | (t, v) :: L, s => bif Nat.beq t s then some v else lk L s

def ev (L : List (Nat × Value)) : Operand → Option Value
  | .tmp t => lk L t
  | .const v => some v
  | .global g => some (.pointer (some ⟨g, 0, none⟩))
  | .func f => some (.func (.func f) #[] #[])

inductive Evs (L : List (Nat × Value)) : List Operand → List Value → Prop
  | nil : Evs L [] []
  | cons {x : Operand} {xs : List Operand} {v : Value} {vs : List Value} (h : ev L x = some v) (t : Evs L xs vs) : Evs L (x :: xs) (v :: vs)

/-- how many slots a function has, and what it has deferred. -/
structure NN where
  n : Nat
  D : List Deferred
instance {k : Nat} : OfNat NN k := ⟨⟨k, []⟩⟩

structure Sl (n : NN) (a : Act) (L : List (Nat × Value)) : Prop where
  size : a.tmps.size = n.n
  defers : a.defers = n.D
  get : ∀ t v, lk L t = some v → a.tmps.getD t undef = v

theorem Sl.ev {n : NN} {a : Act} {L : List (Nat × Value)} (h : Sl n a L) {x : Operand} {v : Value} (hx : ev L x = some v) : a.eval x = v := by
  cases x with
  | tmp t => exact h.get t v hx
  | const u => simpa [Go.Proofs.YtjmkjkhcognoeaaGreatDoor.ev, Act.eval] using hx
  | global g => simpa [Go.Proofs.YtjmkjkhcognoeaaGreatDoor.ev, Act.eval] using hx
  | func f => simpa [Go.Proofs.YtjmkjkhcognoeaaGreatDoor.ev, Act.eval] using hx

theorem Sl.evs {n : NN} {a : Act} {L : List (Nat × Value)} (h : Sl n a L) {xs : List Operand} {vs : List Value} (hx : Evs L xs vs) : xs.toArray.map a.eval = vs.toArray := by
  have : xs.map a.eval = vs := by
    induction hx with
    | nil => rfl
    | cons h1 _ ih => simp only [List.map_cons, ih, h.ev h1]
  simp [this]

theorem Sl.put {n : NN} {a : Act} {L : List (Nat × Value)} (h : Sl n a L) {d : Nat} (hd : Nat.blt d n.n = true) (v : Value) : Sl n (a.put (some d) v) ((d, v) :: L) := by
  have hlt : d < n.n := by simpa using hd
  refine ⟨by simp [Act.put, h.size], h.defers, ?_⟩
  intro t u ht
  simp only [lk] at ht
  by_cases e : d = t
  · subst e
    have : Nat.beq d d = true := by simp
    rw [this] at ht; simp at ht; subst ht
    simp [Act.put, Array.getD, h.size, hlt]
  · have : Nat.beq d t = false := nbeq_no e
    rw [this] at ht
    have h2 := h.get t u (by simpa using ht)
    rw [← h2]
    simp only [Act.put, Array.getD_eq_getD_getElem?, Array.getElem?_setIfInBounds_ne e]

/-- every entry of the second list is what the first list holds. -/
def SubL (L : List (Nat × Value)) : List (Nat × Value) → Prop
  | [] => True
  | (t, v) :: r => lk L t = some v ∧ SubL L r

theorem SubL.get {L L' : List (Nat × Value)} (h : SubL L L') : ∀ t v, lk L' t = some v → lk L t = some v := by
  induction L' with
  | nil => intro t v ht; simp [lk] at ht
  | cons p r ih =>
    obtain ⟨s, u⟩ := p
    obtain ⟨h1, h2⟩ := h
    intro t v ht
    simp only [lk] at ht
    by_cases e : s = t
    · subst e
      have : Nat.beq s s = true := by simp
      rw [this] at ht; simp at ht; subst ht; exact h1
    · have : Nat.beq s t = false := nbeq_no e
      rw [this] at ht
      exact ih h2 t v (by simpa using ht)

theorem Sl.know {n : NN} {a : Act} {L : List (Nat × Value)} (h : Sl n a L) {t : Nat} {v : Value} (hl : lk L t = some v) : Sl n a ((t, v) :: L) := by
  refine ⟨h.size, h.defers, ?_⟩
  intro s u hs
  simp only [lk] at hs
  by_cases e : t = s
  · subst e
    have : Nat.beq t t = true := by simp
    rw [this] at hs; simp at hs; subst hs; exact h.get _ _ hl
  · have : Nat.beq t s = false := nbeq_no e
    rw [this] at hs
    exact h.get _ _ (by simpa using hs)

theorem Sl.sub {n : NN} {a : Act} {L L' : List (Nat × Value)} (h : Sl n a L) (hs : SubL L L') : Sl n a L' :=
  ⟨h.size, h.defers, fun t v ht => h.get t v (hs.get t v ht)⟩

/-- the arguments as slots. -/
def SubA (l : List Value) : List (Nat × Value) → Prop
  | [] => True
  | (t, v) :: r => l[t]? = some v ∧ SubA l r

theorem Sl.start {l : List Value} {L : List (Nat × Value)} {n m : Nat} (hA : SubA l L) (hn : l.length + m = n) : Sl ⟨n, []⟩ ⟨l.toArray ++ Array.replicate m undef, []⟩ L := by
  refine ⟨by simp [hn], rfl, ?_⟩
  induction L with
  | nil => intro t v ht; simp [lk] at ht
  | cons p r ih =>
    obtain ⟨s, u⟩ := p
    obtain ⟨h1, h2⟩ := hA
    intro t v ht
    simp only [lk] at ht
    by_cases e : s = t
    · subst e
      have : Nat.beq s s = true := by simp
      rw [this] at ht; simp at ht; subst ht
      have hlt := (List.getElem?_eq_some_iff.1 h1).1
      simp only [Array.getD]
      rw [dif_pos (by simp; omega)]
      simp only [Array.getInternal_eq_getElem]
      rw [Array.getElem_append_left (by simpa using hlt)]
      simpa using (List.getElem?_eq_some_iff.1 h1).2
    · have : Nat.beq s t = false := nbeq_no e
      rw [this] at ht
      exact ih h2 t v (by simpa using ht)

/-! ### worlds -/

/-- only blocks of F, of those that were, may have turned. -/
structure Chg (F : Nat → Prop) (w w' : World) : Prop where
  os : w'.os = w.os
  tape : w'.tape = w.tape
  output : w'.output = w.output
  size : w.heap.size ≤ w'.heap.size
  block : ∀ k, k < w.heap.size → ¬ F k → w'.heap[k]? = w.heap[k]?

def noB : Nat → Prop := fun _ => False

theorem Chg.refl (F : Nat → Prop) (w : World) : Chg F w w := ⟨rfl, rfl, rfl, Nat.le_refl _, fun _ _ _ => rfl⟩
theorem Chg.trans {F F' : Nat → Prop} {a b c : World} (h : Chg F a b) (k : Chg F' b c) (hF : ∀ i, F' i → i < a.heap.size → F i) : Chg F a c :=
  ⟨k.os.trans h.os, k.tape.trans h.tape, k.output.trans h.output, Nat.le_trans h.size k.size,
   fun i hi hn => (k.block i (Nat.lt_of_lt_of_le hi h.size) (fun hf => hn (hF i hf hi))).trans (h.block i hi hn)⟩
theorem Chg.ext {F : Nat → Prop} {a b c : World} (h : Chg F a b) (k : Chg noB b c) : Chg F a c := h.trans k (fun _ hf => hf.elim)
theorem Chg.mono {F F' : Nat → Prop} {a b : World} (h : Chg F a b) (hF : ∀ i, F i → F' i) : Chg F' a b :=
  ⟨h.os, h.tape, h.output, h.size, fun i hi hn => h.block i hi (fun hf => hn (hF i hf))⟩
theorem Chg.below {a b : World} (h : Chg noB a b) : Below a.heap.size a b := ⟨h.os, h.tape, h.output, h.size, fun k hk => h.block k hk (fun hf => hf)⟩
theorem Chg.drew (F : Nat → Prop) (w : World) : Chg F w w.drew := ⟨rfl, rfl, rfl, Nat.le_refl _, fun _ _ _ => rfl⟩
theorem Chg.alloc (F : Nat → Prop) (w : World) (o : Obj) : Chg F w (w.alloc o) :=
  ⟨rfl, rfl, rfl, by simp, fun k hk _ => Below.heap_alloc w o k hk⟩
theorem Chg.setCell (w : World) (a : Addr) (v : Value) : Chg (fun k => k = a.block) w (w.setCell a v) :=
  ⟨rfl, rfl, rfl, by simp, fun k _ hn => Below.heap_setCell w a v k hn⟩

/-- what is known: a block of the walk's own, cell by cell; or a fact with its blocks. -/
inductive Asn where
  | blk (b : Nat) (cs : List Value) (E : TypeId)
  | any (F : Nat → Prop) (φ : World → Prop) (mine : Bool)
  | mp (b : Nat) (es : List MapEntry) (clock : Nat)

def Asn.F : Asn → Nat → Prop
  | .blk b _ _, k => k = b
  | .any F _ _, k => F k
  | .mp b _ _, k => k = b
def Asn.φ : Asn → World → Prop
  | .blk b cs E, w => w.heap[b]? = some (.cells cs.toArray E (0, 0))
  | .any _ φ _, w => φ w
  | .mp b es c, w => w.heap[b]? = some (.map es.toArray c)
def Asn.mine : Asn → Bool
  | .blk _ _ _ => true
  | .any _ _ m => m
  | .mp _ _ _ => true

/-- it holds, in whatever world has these blocks. -/
structure Asn.ok (X : Asn) (w : World) : Prop where
  lt : ∀ b, X.F b → b < w.heap.size
  hold : ∀ w', (∀ b, X.F b → w'.heap[b]? = w.heap[b]?) → X.φ w'

theorem Asn.ok.now {X : Asn} {w : World} (h : X.ok w) : X.φ w := h.hold w fun _ _ => rfl
theorem Asn.ok.keep {X : Asn} {w w' : World} {F : Nat → Prop} (h : X.ok w) (hc : Chg F w w') (hd : ∀ b, X.F b → ¬ F b) : X.ok w' :=
  ⟨fun b hb => Nat.lt_of_lt_of_le (h.lt b hb) hc.size, fun w2 h2 => h.hold w2 fun b hb => (h2 b hb).trans (hc.block b (h.lt b hb) (hd b hb))⟩

theorem ok_blk {w : World} {b : Nat} {cs : List Value} {E : TypeId} (h : w.heap[b]? = some (.cells cs.toArray E (0, 0))) : (Asn.blk b cs E).ok w := by
  refine ⟨fun k hk => ?_, fun w' hw => ?_⟩
  · obtain rfl : k = b := hk
    exact (Array.getElem?_eq_some_iff.1 h).1
  · show w'.heap[b]? = _
    rw [hw b rfl]; exact h

structure St (n : NN) (F0 : Nat → Prop) (w0 : World) (a : Act) (w : World) (L : List (Nat × Value)) (Γ : List Asn) : Prop where
  sl : Sl n a L
  chg : Chg F0 w0 w
  ok : ∀ X ∈ Γ, X.ok w
  dis : Γ.Pairwise (fun X Y => ∀ b, X.F b → ¬ Y.F b)
  mine : ∀ X ∈ Γ, X.mine = true → ∀ b, X.F b → w0.heap.size ≤ b ∨ F0 b

section
variable {n : NN} {F0 : Nat → Prop} {w0 : World} {a : Act} {w : World} {L : List (Nat × Value)} {Γ : List Asn} {X : Asn}

theorem St.put (h : St n F0 w0 a w L Γ) {d : Nat} (hd : Nat.blt d n.n = true) (v : Value) : St n F0 w0 (a.put (some d) v) w ((d, v) :: L) Γ :=
  ⟨h.sl.put hd v, h.chg, h.ok, h.dis, h.mine⟩
theorem St.act (h : St n F0 w0 a w L Γ) {a' : Act} {L' : List (Nat × Value)} (hs : Sl n a' L') : St n F0 w0 a' w L' Γ :=
  ⟨hs, h.chg, h.ok, h.dis, h.mine⟩
theorem St.slots (h : St n F0 w0 a w L Γ) {L' : List (Nat × Value)} (hs : SubL L L') : St n F0 w0 a w L' Γ := h.act (h.sl.sub hs)

/-- all that was stays: the world grew. -/
theorem St.ext (h : St n F0 w0 a w L Γ) {w' : World} (hc : Chg noB w w') : St n F0 w0 a w' L Γ :=
  ⟨h.sl, h.chg.ext hc, fun X hX => (h.ok X hX).keep hc (fun _ _ hf => hf), h.dis, h.mine⟩

/-- the world grew, and something new is known of new blocks. -/
theorem St.fresh (h : St n F0 w0 a w L Γ) {w' : World} (hc : Chg noB w w') {Y : Asn} (hY : Y.ok w') (hnew : ∀ b, Y.F b → w.heap.size ≤ b) : St n F0 w0 a w' L (Y :: Γ) := by
  have h' := h.ext hc
  refine ⟨h'.sl, h'.chg, ?_, ?_, ?_⟩
  · intro X hX
    rcases List.mem_cons.1 hX with rfl | hX
    · exact hY
    · exact h'.ok X hX
  · refine List.pairwise_cons.2 ⟨fun X hX b hb hb' => ?_, h.dis⟩
    have h1 := hnew b hb
    have h2 := (h.ok X hX).lt b hb'
    omega
  · intro X hX hm b hb
    rcases List.mem_cons.1 hX with rfl | hX
    · exact .inl (Nat.le_trans h.chg.size (hnew b hb))
    · exact h.mine X hX hm b hb

theorem St.get (h : St n F0 w0 a w L Γ) {X : Asn} (hX : X ∈ Γ) : X.φ w := (h.ok X hX).now

/-- one entry is changed, with its own blocks and new ones. -/
inductive Rep (X Y : Asn) : List Asn → List Asn → Prop
  | head {Γ : List Asn} : Rep X Y (X :: Γ) (Y :: Γ)
  | tail {Z : Asn} {Γ Γ' : List Asn} (h : Rep X Y Γ Γ') : Rep X Y (Z :: Γ) (Z :: Γ')

theorem Rep.mem {X Y : Asn} {Γ Γ' : List Asn} (h : Rep X Y Γ Γ') : X ∈ Γ := by
  induction h with
  | head => exact .head _
  | tail _ ih => exact .tail _ ih
theorem Rep.new {X Y : Asn} {Γ Γ' : List Asn} (h : Rep X Y Γ Γ') : ∀ Z ∈ Γ', Z = Y ∨ Z ∈ Γ := by
  induction h with
  | head => intro Z hZ; rcases List.mem_cons.1 hZ with rfl | hZ; exact .inl rfl; exact .inr (.tail _ hZ)
  | tail _ ih => intro Z hZ; rcases List.mem_cons.1 hZ with rfl | hZ; exact .inr (.head _); exact (ih Z hZ).imp id (.tail _)

theorem Rep.apart {X Y : Asn} {Γ Γ' : List Asn} (h : Rep X Y Γ Γ') {w w' : World} (hok : ∀ Z ∈ Γ, Z.ok w) (hd : Γ.Pairwise (fun X Y => ∀ b, X.F b → ¬ Y.F b))
    (hc : Chg X.F w w') (hY : Y.ok w') (hF : ∀ b, Y.F b → X.F b ∨ w.heap.size ≤ b) :
    (∀ Z ∈ Γ', Z.ok w') ∧ Γ'.Pairwise (fun X Y => ∀ b, X.F b → ¬ Y.F b) := by
  induction h with
  | @head Γ =>
    have hd' := List.pairwise_cons.1 hd
    refine ⟨fun Z hZ => ?_, List.pairwise_cons.2 ⟨fun Z hZ b hb hb' => ?_, hd'.2⟩⟩
    · rcases List.mem_cons.1 hZ with rfl | hZ
      · exact hY
      · exact (hok Z (.tail _ hZ)).keep hc (fun b hb hx => hd'.1 Z hZ b hx hb)
    · rcases hF b hb with h1 | h1
      · exact hd'.1 Z hZ b h1 hb'
      · have := (hok Z (.tail _ hZ)).lt b hb'; omega
  | @tail V Γ Γ' hr ih =>
    have hd' := List.pairwise_cons.1 hd
    obtain ⟨h1, h2⟩ := ih (fun Z hZ => hok Z (.tail _ hZ)) hd'.2
    have hVX := hd'.1 X hr.mem
    refine ⟨fun Z hZ => ?_, List.pairwise_cons.2 ⟨fun Z hZ b hb hb' => ?_, h2⟩⟩
    · rcases List.mem_cons.1 hZ with rfl | hZ
      · exact (hok _ (.head _)).keep hc hVX
      · exact h1 Z hZ
    · rcases hr.new Z hZ with rfl | hZ
      · rcases hF b hb' with h3 | h3
        · exact hVX b hb h3
        · have := (hok V (.head _)).lt b hb; omega
      · exact hd'.1 Z hZ b hb hb'

theorem St.upd (h : St n F0 w0 a w L Γ) {w' : World} {X Y : Asn} {Γ' : List Asn} (hr : Rep X Y Γ Γ') (hc : Chg X.F w w') (hY : Y.ok w')
    (hF : ∀ b, Y.F b → X.F b ∨ w.heap.size ≤ b) (hm : X.mine = true) : St n F0 w0 a w' L Γ' := by
  obtain ⟨h1, h2⟩ := hr.apart h.ok h.dis hc hY hF
  refine ⟨h.sl, h.chg.trans hc (fun i hi hlt => ?_), h1, h2, ?_⟩
  · rcases h.mine X hr.mem hm i hi with h3 | h3
    · omega
    · exact h3
  · intro Z hZ hmz b hb
    rcases hr.new Z hZ with rfl | hZ
    · rcases hF b hb with h3 | h3
      · exact h.mine X hr.mem hm b h3
      · exact .inl (Nat.le_trans h.chg.size h3)
    · exact h.mine Z hZ hmz b hb

/-- two entries become one. -/
theorem St.join (h : St n F0 w0 a w L (X :: Γ)) {Y Z : Asn} {Γ' : List Asn} (hr : Rep Y Z Γ Γ') (hZ : Z.ok w) (hF : ∀ b, Z.F b → X.F b ∨ Y.F b) (hm : Z.mine = true → X.mine = true ∧ Y.mine = true) : St n F0 w0 a w L Γ' := by
  have hd := List.pairwise_cons.1 h.dis
  refine ⟨h.sl, h.chg, ?_, ?_, ?_⟩
  · intro V hV
    rcases hr.new V hV with rfl | hV
    · exact hZ
    · exact h.ok V (.tail _ hV)
  · have key : ∀ {Γ Γ' : List Asn}, Rep Y Z Γ Γ' → Γ.Pairwise (fun X Y => ∀ b, X.F b → ¬ Y.F b) → (∀ V ∈ Γ, ∀ b, X.F b → ¬ V.F b) → Γ'.Pairwise (fun X Y => ∀ b, X.F b → ¬ Y.F b) := by
      intro Γ Γ' hr
      induction hr with
      | head =>
        intro hp hx
        have hp' := List.pairwise_cons.1 hp
        refine List.pairwise_cons.2 ⟨fun V hV b hb hb' => ?_, hp'.2⟩
        rcases hF b hb with h1 | h1
        · exact hx V (.tail _ hV) b h1 hb'
        · exact hp'.1 V hV b h1 hb'
      | @tail U Γ Γ' hr ih =>
        intro hp hx
        have hp' := List.pairwise_cons.1 hp
        refine List.pairwise_cons.2 ⟨fun V hV b hb hb' => ?_, ih hp'.2 (fun V hV => hx V (.tail _ hV))⟩
        rcases hr.new V hV with rfl | hV
        · rcases hF b hb' with h1 | h1
          · exact hx U (.head _) b h1 hb
          · exact hp'.1 Y hr.mem b hb h1
        · exact hp'.1 V hV b hb hb'
    exact key hr hd.2 (fun V hV => hd.1 V hV)
  · intro V hV hmV b hb
    rcases hr.new V hV with rfl | hV
    · obtain ⟨m1, m2⟩ := hm hmV
      rcases hF b hb with h1 | h1
      · exact h.mine X (.head _) m1 b h1
      · exact h.mine Y (.tail _ hr.mem) m2 b h1
    · exact h.mine V (.tail _ hV) hmV b hb

/-- the entries may stand in any order, and some may go. -/
theorem St.perm (h : St n F0 w0 a w L Γ) {Γ' : List Asn} (hs : List.Perm Γ' Γ) : St n F0 w0 a w L Γ' :=
  ⟨h.sl, h.chg, fun X hX => h.ok X (hs.subset hX), (hs.pairwise_iff (fun hXY b hb hb' => hXY b hb' hb)).2 h.dis, fun X hX => h.mine X (hs.subset hX)⟩

/-- fewer entries are kept. -/
theorem St.drop (h : St n F0 w0 a w L Γ) {Γ' : List Asn} (hs : List.Sublist Γ' Γ) : St n F0 w0 a w L Γ' :=
  ⟨h.sl, h.chg, fun X hX => h.ok X (hs.subset hX), h.dis.sublist hs, fun X hX => h.mine X (hs.subset hX)⟩
end

/-! ### code -/
section
variable {P : Program} {Q : Exit → Act → World → Prop} {a : Act} {w : World}

theorem c_seq {x y : Code} (h : x.wp P (Exit.then (y.wp P Q) Q) a w) : (Code.seq x y).wp P Q a w := wp_seq h
theorem c_cut {x y : Code} (J : Act → World → Prop) (h : x.wp P (Exit.then J Q) a w) (h2 : ∀ a w, J a w → y.wp P Q a w) : (Code.seq x y).wp P Q a w :=
  wp_seq (Go.wp_mono h fun e a w hq => by cases e <;> first | exact h2 _ _ hq | exact hq)
theorem n_then {N : Act → World → Prop} (h : N a w) : Exit.then N Q .normal a w := h
theorem x_then {N : Act → World → Prop} {i : Nat} (h : Q (.exit i) a w) : Exit.then N Q (.exit i) a w := h
theorem r_then {N : Act → World → Prop} (h : Q .ret a w) : Exit.then N Q .ret a w := h
theorem n_block {i : Nat} (h : Q .normal a w) : Exit.inBlock i Q .normal a w := h
theorem r_block {i : Nat} (h : Q .ret a w) : Exit.inBlock i Q .ret a w := h
theorem x_hit {i : Nat} (h : Q .normal a w) : Exit.inBlock i Q (.exit i) a w := by simpa [Exit.inBlock] using h
theorem c_loop {γ : Type} {c : Code} (I : γ → Act → World → Prop) (μ : γ → Nat) (g0 : γ) (h0 : I g0 a w)
    (round : ∀ g a w, I g a w → c.wp P (Exit.then (fun a' w' => ∃ g', μ g' < μ g ∧ I g' a' w') Q) a w) : (Code.loop c).wp P Q a w := by
  have key : ∀ m g a w, μ g = m → I g a w → ∀ (b : Frame) (k : List Item) (cs : List Frame),
      ∃ e a' w', Q e a' w' ∧ Arrives P (lone (b.at a (.code c :: .inLoop c :: k)) cs w) b k cs e a' w' := by
    intro m
    induction m using Nat.strongRecOn with
    | _ m ih =>
      intro g a w hm hI b k cs
      obtain ⟨e, a1, w1, hq, harr⟩ := round g a w hI b (.inLoop c :: k) cs
      cases e with
      | normal =>
        obtain ⟨g', hlt, hI'⟩ := hq
        obtain ⟨e2, a2, w2, hq2, harr2⟩ := ih (μ g') (hm ▸ hlt) g' a1 w1 rfl hI' b k cs
        exact ⟨e2, a2, w2, hq2, .of_steps (Steps.trans harr (.one step_inLoop)) harr2⟩
      | exit id => exact ⟨_, a1, w1, hq, .pass (x := .inLoop c) rfl (fun _ _ => .inl (by simp)) harr⟩
      | goto l => exact ⟨_, a1, w1, hq, .pass (x := .inLoop c) rfl (fun _ _ => .inl (by simp)) harr⟩
      | ret => exact ⟨_, a1, w1, hq, .pass (x := .inLoop c) rfl (fun _ _ => .inl (by simp)) harr⟩
      | panic ch => exact ⟨_, a1, w1, hq, .pass (x := .inLoop c) rfl (fun _ _ => .inl (by simp)) harr⟩
      | outgrown => exact ⟨_, a1, w1, hq, .pass (x := .inLoop c) rfl (fun _ _ => .inl (by simp)) harr⟩
  intro b k cs
  obtain ⟨e, a', w', hq, harr⟩ := key _ g0 a w rfl h0 b k cs
  exact ⟨e, a', w', hq, .of_steps (.one step_loop) harr⟩
end
end Go.Proofs.YtjmkjkhcognoeaaGreatDoor

namespace Go.Proofs.YtjmkjkhcognoeaaGreatDoor
open Go.RowKit

/-! ### facts on types -/
def szOf (P : Program) (t : TypeId) : Option Nat := (P.info? t).map (·.size)
def byOf (P : Program) (t : TypeId) : Option Nat := (P.info? t).map (·.bytes)
def zeroOf (P : Program) (t : TypeId) : Option (List Value) := ((P.info? t).bind (·.zero)).map (·.cells.toList)
def scalarD : TypeDesc → Bool
  | .struct _ | .array _ _ => false
  | _ => true
def scalarT (P : Program) (t : TypeId) : Bool := match P.underlying t with | some d => scalarD d | none => false
def structT (P : Program) (t : TypeId) : Bool := match P.underlying t with | some (.struct _) => true | _ => false
def sliceT (P : Program) (t : TypeId) : Option TypeId := match P.underlying t with | some (.slice e) => some e | _ => none
def fieldOff (P : Program) (s f : Nat) : Option Nat :=
  match P.underlying s with
  | some (.struct fs) => match fs[f]? with
    | some fd => match szOf P fd.type with | some (_ + 1) => some fd.offset | _ => none
    | none => none
  | _ => none
def placesOf (P : Program) (t : TypeId) : Option (List (Nat × Nat)) :=
  match P.underlying t with
  | some (.struct fs) => fs.toList.mapM fun f => (szOf P f.type).map fun s => (f.offset, s)
  | _ => none
def CallsTo (P : Program) (f : FuncId) : Prop := ∀ (args : Array Value) (w : World), (callFunc f args).run P w = .ok (.enter f args) w

theorem callsTo {P : Program} {f : FuncId} {fn : Func} (hf : P.funcs[f]? = some fn) (hname : (fn.name == "runtime.NumGoroutine") = false) (hb : fn.body.isNone = false) : CallsTo P f := by
  intro args w
  simp only [callFunc, Sem.run_bind, run_program, Result.andThen_ok, hf, hname, hb, Bool.false_eq_true, if_false]
  rfl

def nth : List Value → Nat → Option Value
  | [], _ => none
  | v :: l, i => bif Nat.beq i 0 then some v else nth l (i - 1)

theorem nth_eq (l : List Value) (i : Nat) : nth l i = l[i]? := by
  induction l generalizing i with
  | nil => simp [nth]
  | cons v l ih =>
    cases i with
    | zero => simp [nth]
    | succ i => exact (ih i).trans (by simp)

inductive Upd : List Value → Nat → Value → List Value → Prop
  | z {x v : Value} {xs : List Value} : Upd (x :: xs) 0 v (v :: xs)
  | s {x v : Value} {xs ys : List Value} {k : Nat} (h : Upd xs k v ys) : Upd (x :: xs) (k + 1) v (x :: ys)

theorem Upd.eq {l l' : List Value} {k : Nat} {v : Value} (h : Upd l k v l') : l' = l.set k v ∧ k < l.length := by
  induction h with
  | z => simp
  | s _ ih => simp [ih.1, ih.2]

def isOne : Value → Bool
  | .agg _ | .tuple _ => false
  | _ => true

theorem isOne_oneCell {v : Value} (h : isOne v = true) : v.oneCell' = true := by cases v <;> simp_all [isOne, Value.oneCell']
theorem isOne_cells {v : Value} (h : isOne v = true) : v.cells = #[v] := by cases v <;> simp_all [isOne, Value.cells]

theorem typeInfo_run {P : Program} {t : TypeId} {i : TypeInfo} (h : P.info? t = some i) (w : World) : (typeInfo t).run P w = .ok i w := by
  simp [typeInfo, h]
theorem sizeOf_run {P : Program} {t : TypeId} {s : Nat} (h : szOf P t = some s) (w : World) : (Go.sizeOf t).run P w = .ok s w := by
  unfold szOf at h
  cases hi : P.info? t with
  | none => simp [hi] at h
  | some i => simp [hi] at h; simp [Go.sizeOf, typeInfo, hi, h]
theorem isAgg_scalar {P : Program} {t : TypeId} (h : scalarT P t = true) (w : World) : (isAgg t).run P w = .ok false w := by
  unfold scalarT at h
  cases hi : P.underlying t with
  | none => simp [hi] at h
  | some d => simp [hi] at h; cases d <;> simp_all [isAgg, underlying, scalarD]
theorem isAgg_struct {P : Program} {t : TypeId} (h : structT P t = true) (w : World) : (isAgg t).run P w = .ok true w := by
  unfold structT at h
  cases hi : P.underlying t with
  | none => simp [hi] at h
  | some d => cases d <;> simp_all [isAgg, underlying]
theorem zero_run {P : Program} {t : TypeId} {zs : List Value} (h : zeroOf P t = some zs) (w : World) : ∃ z, (zeroValue t).run P w = .ok z w ∧ z.cells = zs.toArray := by
  unfold zeroOf at h
  cases hi : P.info? t with
  | none => simp [hi] at h
  | some i =>
    cases hz : i.zero with
    | none => simp [hi, hz] at h
    | some z => simp [hi, hz] at h; exact ⟨z, by simp [zeroValue, typeInfo, hi, hz], by simp [← h]⟩

theorem addr_add (b k j : Nat) : (⟨b, k, none⟩ : Addr).add j = ⟨b, k + j, none⟩ := by
  unfold Addr.add; split <;> simp_all

theorem loadVar_scalar {P : Program} {t : TypeId} (ht : scalarT P t = true) {w : World} {p : Addr} {v : Value} (h : w.cell? p = some v) : (loadVar t p).run P w = .ok v w := by
  simp [loadVar, isAgg_scalar ht, h]
theorem loadVar_struct {P : Program} {t : TypeId} (ht : structT P t = true) {l : List Value} (hs : szOf P t = some l.length) {w : World} {p : Addr}
    (h : ∀ j v, l[j]? = some v → w.cell? (p.add j) = some v) : (loadVar t p).run P w = .ok (.agg l.toArray) w := by
  have := run_loadCells_list (P := P) (w := w) p l h
  simp [loadVar, isAgg_struct ht, sizeOf_run hs, this]

theorem cell_of_blk {w : World} {b k : Nat} {cs : List Value} {E : TypeId} {v : Value} (h : w.heap[b]? = some (.cells cs.toArray E (0, 0))) (hv : cs[k]? = some v) : w.cell? ⟨b, k, none⟩ = some v := by
  simp [World.cell?, h, hv]
theorem frozen_of_blk {w : World} {b k : Nat} {cs : List Value} {E : TypeId} (h : w.heap[b]? = some (.cells cs.toArray E (0, 0))) : w.frozen? ⟨b, k, none⟩ = false := by
  simp [World.frozen?, h]
theorem setCell_of_blk {w : World} {b k : Nat} {cs : List Value} {E : TypeId} (h : w.heap[b]? = some (.cells cs.toArray E (0, 0))) (v : Value) :
    (w.setCell ⟨b, k, none⟩ v).heap[b]? = some (.cells (cs.set k v).toArray E (0, 0)) := by
  simp only [World.setCell, Array.getElem?_modify, h]
  simp

/-- an operation's goal, closed to the elaborator's eye. -/
structure OW (P : Program) (o : Oper) (a : Act) (w : World) (K : Act → World → Prop) (Q : Exit → Act → World → Prop) : Prop where
  h : o.wp P a w K Q

section
variable {P : Program} {n : NN} {F0 : Nat → Prop} {w0 : World} {a : Act} {w : World} {L : List (Nat × Value)} {Γ : List Asn}
variable {K : Act → World → Prop} {Q : Exit → Act → World → Prop} {d ty : Nat} {dst : Option Tmp} {pos : String} {af : Array Edge} {g : Option (Nat × Bool)}

/-- what is known of a world. -/
def Hd (Γ : List Asn) (w : World) : Prop := ∀ X ∈ Γ, X.φ w
theorem St.hd (h : St n F0 w0 a w L Γ) : Hd Γ w := fun _ hX => h.get hX
/-- the operation yields this value in whatever world all that holds. -/
def Ex (P : Program) (n : NN) (a : Act) (L : List (Nat × Value)) (Γ : List Asn) (o : Oper) (v : Value) : Prop :=
  Sl n a L → ∀ w, Hd Γ w → (execOp a.eval o).run P w = .ok (.value v) w

theorem s_e {op : Op} {v : Value} (hS : St n F0 w0 a w L Γ) (he : Ex P n a L Γ ⟨some d, op, ty, pos, af, g⟩ v) (hn : Nat.blt d n.n = true)
    (h : ∀ a', St n F0 w0 a' w ((d, v) :: L) Γ → K a' w) : OW P ⟨some d, op, ty, pos, af, g⟩ a w K Q := by
  refine ⟨?_⟩
  unfold Oper.wp
  rw [he hS.sl w hS.hd]
  exact h _ (hS.put hn v)

theorem e_move {x : Operand} {v : Value} (hx : ev L x = some v) : Ex P n a L Γ ⟨dst, .move x, ty, pos, af, g⟩ v := fun hs w hh =>
  (by simp [execOp, hs.ev hx])
theorem e_assign {x : Operand} {v : Value} (hx : ev L x = some v) : Ex P n a L Γ ⟨dst, .assign x, ty, pos, af, g⟩ v := fun hs w hh =>
  (by simp [execOp, hs.ev hx])
theorem e_pick_t {c x y : Operand} {v : Value} (hc : ev L c = some (.bool true)) (hx : ev L x = some v) : Ex P n a L Γ ⟨dst, .pick c x y, ty, pos, af, g⟩ v := fun hs w hh =>
  (by simp [execOp, hs.ev hc, hs.ev hx, asBool])
theorem e_pick_f {c x y : Operand} {v : Value} (hc : ev L c = some (.bool false)) (hx : ev L y = some v) : Ex P n a L Γ ⟨dst, .pick c x y, ty, pos, af, g⟩ v := fun hs w hh =>
  (by simp [execOp, hs.ev hc, hs.ev hx, asBool])
/-- operations on two integers. -/
def binI (op : BinOp) (k : IntKind) (x y : Int) : Option Value :=
  match op with
  | .add => some (.int k (k.wrap (x + y)))
  | .sub => some (.int k (k.wrap (x - y)))
  | .mul => some (.int k (k.wrap (x * y)))
  | .eql => some (.bool (decide (x = y)))
  | .neq => some (.bool (decide (x ≠ y)))
  | .lss => some (.bool (decide (x < y)))
  | .leq => some (.bool (decide (x ≤ y)))
  | .gtr => some (.bool (decide (y < x)))
  | .geq => some (.bool (decide (y ≤ x)))
  | _ => none

theorem binI_run {op : BinOp} {k : IntKind} {x y : Int} {v : Value} (hv : binI op k x y = some v) (t : TypeId) (p q : Operand) :
    ((do eqGuard op t p q (.int k x) (.int k y); binOp op t (.int k x) (.int k y)) : Sem Value).run P w = .ok v w := by
  cases op <;> simp [binI] at hv <;> subst hv <;> simp [eqGuard, binOp, Op.intArith, Op.intCmp]
  · by_cases h : x = y <;> simp [h]
  · by_cases h : x = y <;> simp [h]

theorem e_bin {op : BinOp} {t t' : TypeId} {x y : Operand} {k : IntKind} {i j : Int} {v : Value} (hx : ev L x = some (.int k i)) (hy : ev L y = some (.int k j))
    (hv : binI op k i j = some v) : Ex P n a L Γ ⟨dst, .binOp op t x y t', ty, pos, af, g⟩ v := fun hs w hh =>
  (by
    have := binI_run (P := P) (w := w) hv t x y
    simp only [execOp, hs.ev hx, hs.ev hy, Sem.run_bind] at this ⊢
    rw [this]; rfl)
/-- sums that stay ints. -/
def binN (op : BinOp) (x y : Int) : Option Int :=
  match op with
  | .add => some (x + y)
  | .sub => some (x - y)
  | .mul => some (x * y)
  | _ => none
theorem e_binN {op : BinOp} {t t' : TypeId} {x y : Operand} {i j m : Int} (hx : ev L x = some (.int .i64 i)) (hy : ev L y = some (.int .i64 j))
    (hv : binN op i j = some m) (hm : -9223372036854775808 ≤ m ∧ m ≤ 9223372036854775807) : Ex P n a L Γ ⟨dst, .binOp op t x y t', ty, pos, af, g⟩ (.int .i64 m) := by
  have hw : IntKind.i64.wrap m = m := IntWalk.i64_in _ (by omega)
  refine e_bin hx hy (v := .int .i64 m) ?_
  cases op <;> simp [binN] at hv <;> subst hv <;> simp [binI, hw]

/-- comparisons of strings. -/
def binS (op : BinOp) (x y : ByteArray) : Option Value :=
  match op with
  | .eql => some (.bool (decide (x = y)))
  | .neq => some (.bool (decide (x ≠ y)))
  | _ => none
theorem bytes_beq (x y : ByteArray) : (x.toList == y.toList) = decide (x = y) := by
  rw [ByteArray.toList_eq, ByteArray.toList_eq]
  by_cases h : x = y
  · subst h; simp
  · have : x.data.toList ≠ y.data.toList := fun e => h (by cases x; cases y; simp_all)
    simp only [h, decide_false]
    exact beq_eq_false_iff_ne.2 this
theorem e_binS {op : BinOp} {t t' : TypeId} {x y : Operand} {i j : ByteArray} {v : Value} (hx : ev L x = some (.string i)) (hy : ev L y = some (.string j))
    (hv : binS op i j = some v) : Ex P n a L Γ ⟨dst, .binOp op t x y t', ty, pos, af, g⟩ v := fun hs w hh =>
  (by
    cases op <;> simp only [binS, Option.some.injEq, reduceCtorEq] at hv <;> subst hv <;> simp only [execOp, hs.ev hx, hs.ev hy, eqGuard, binOp, Op.stringOp, bytes_beq]
    · rfl
    · by_cases e : i = j <;> simp [e])
theorem e_nil {t t' : TypeId} {x : Operand} {p : Option Addr} (hx : ev L x = some (.pointer p)) (hu : P.underlying t = some (.pointer (P.pointee t)))
    : Ex P n a L Γ ⟨dst, .binOp .eql t x (.const (.pointer none)) t', ty, pos, af, g⟩ (.bool p.isNone) := fun hs w hh =>
  (by
    have := run_eql_pointer_nil (P := P) w t p hu
    have he : a.eval (.const (.pointer none)) = .pointer none := rfl
    simp [execOp, hs.ev hx, he, eqGuard, this])
theorem e_nnil {t t' : TypeId} {x : Operand} {p : Option Addr} (hx : ev L x = some (.pointer p)) (hu : P.underlying t = some (.pointer (P.pointee t)))
    : Ex P n a L Γ ⟨dst, .binOp .neq t x (.const (.pointer none)) t', ty, pos, af, g⟩ (.bool p.isSome) := fun hs w hh =>
  (by
    have := run_neq_pointer_nil (P := P) w t p hu
    have he : a.eval (.const (.pointer none)) = .pointer none := rfl
    cases p <;> simp_all [execOp, hs.ev hx, eqGuard])
theorem e_not {t : TypeId} {x : Operand} {b : Bool} (hx : ev L x = some (.bool b)) : Ex P n a L Γ ⟨dst, .unOp .not t x, ty, pos, af, g⟩ (.bool (!b)) := fun hs w hh =>
  (by simp [execOp, hs.ev hx, Op.unary])
theorem e_neg {t : TypeId} {x : Operand} {k : IntKind} {i : Int} (hx : ev L x = some (.int k i)) : Ex P n a L Γ ⟨dst, .unOp .neg t x, ty, pos, af, g⟩ (.int k (k.wrap (0 - i))) := fun hs w hh =>
  (by simp [execOp, hs.ev hx, Op.unary, Op.intArith])
theorem e_nilCheck {x : Operand} {p : Addr} (hx : ev L x = some (.pointer (some p))) : Ex P n a L Γ ⟨dst, .nilCheck x, ty, pos, af, g⟩ (.pointer (some p)) := fun hs w hh =>
  (by simp [execOp, hs.ev hx])
theorem e_extract {x : Operand} {i : Nat} {l : List Value} {v : Value} (hx : ev L x = some (.tuple l.toArray)) (hv : nth l i = some v) : Ex P n a L Γ ⟨dst, .extract x i, ty, pos, af, g⟩ v := fun hs w hh =>
  (by rw [nth_eq] at hv; simp [execOp, hs.ev hx, Instr.extract, hv])
theorem e_makeFunc {f : Fn} {fs xs : List Operand} {us vs : List Value} (hf : Evs L fs us) (hx : Evs L xs vs) : Ex P n a L Γ ⟨dst, .makeFunc f fs.toArray xs.toArray, ty, pos, af, g⟩ (.func f us.toArray vs.toArray) := fun hs w hh =>
  (by
    have h1 := hs.evs hx
    have h2 := hs.evs hf
    unfold execOp
    show ((do pure (.value (← Instr.makeFunc f (fs.toArray.map a.eval) (xs.toArray.map a.eval)))) : Sem Next).run P w = _
    rw [h1, h2]; rfl)
theorem e_len {x : Operand} {ts : Array TypeId} {T E : TypeId} {p : Option Addr} {m c : Nat} (hx : ev L x = some (.slice p m c)) (ht : ts[0]? = some T) (hu : sliceT P T = some E) : Ex P n a L Γ ⟨dst, .call ⟨.builtin .len, #[x], ts⟩, ty, pos, af, g⟩ (.int .i64 (m : Int)) := fun hs w hh =>
  (by
    have hu' : P.underlying T = some (.slice E) := by
      unfold sliceT at hu; cases hi : P.underlying T with
      | none => simp [hi] at hu
      | some D => cases D <;> simp_all
    simp [execOp, resolve, invoke, builtin, Builtin.len_, hs.ev hx, ht, underlying, hu', goInt])
theorem e_lenS {x : Operand} {ts : Array TypeId} {T : TypeId} {s : ByteArray} (hx : ev L x = some (.string s)) (ht : ts[0]? = some T) (hu : P.underlying T = some .string) : Ex P n a L Γ ⟨dst, .call ⟨.builtin .len, #[x], ts⟩, ty, pos, af, g⟩ (.int .i64 (s.size : Int)) := fun hs w hh =>
  (by simp [execOp, resolve, invoke, builtin, Builtin.len_, hs.ev hx, ht, underlying, hu, goInt])
/-! ### memory -/
theorem e_fa0 {s f b off : Nat} {x : Operand} (hx : ev L x = some (.pointer (some ⟨b, 0, none⟩))) (ho : fieldOff P s f = some off) : Ex P n a L Γ ⟨dst, .fieldAddr s x f, ty, pos, af, g⟩ (.pointer (some ⟨b, off, none⟩)) := fun hs w hh =>
  (by
    unfold fieldOff at ho
    cases hi : P.underlying s with
    | none => simp [hi] at ho
    | some D =>
      cases D <;> simp [hi] at ho
      rename_i fs
      cases hf : fs[f]? with
      | none => simp [hf] at ho
      | some fd =>
        simp [hf] at ho
        cases hz : szOf P fd.type with
        | none => simp [hz] at ho
        | some m =>
          cases m with
          | zero => simp [hz] at ho
          | succ m =>
            simp [hz] at ho
            simp [execOp, hs.ev hx, Instr.fieldAt, underlying, hi, hf, Instr.sureAddr, fieldPlace, sizeOf_run hz, addr_add, ho])
theorem e_faK {s f b k off : Nat} {x : Operand} (hx : ev L x = some (.pointer (some ⟨b, k, none⟩))) (ho : fieldOff P s f = some off) : Ex P n a L Γ ⟨dst, .fieldAddr s x f, ty, pos, af, g⟩ (.pointer (some ⟨b, k + off, none⟩)) := fun hs w hh =>
  (by
    unfold fieldOff at ho
    cases hi : P.underlying s with
    | none => simp [hi] at ho
    | some D =>
      cases D <;> simp [hi] at ho
      rename_i fs
      cases hf : fs[f]? with
      | none => simp [hf] at ho
      | some fd =>
        simp [hf] at ho
        cases hz : szOf P fd.type with
        | none => simp [hz] at ho
        | some m =>
          cases m with
          | zero => simp [hz] at ho
          | succ m =>
            simp [hz] at ho
            simp [execOp, hs.ev hx, Instr.fieldAt, underlying, hi, hf, Instr.sureAddr, fieldPlace, sizeOf_run hz, addr_add, ho])
theorem e_load {T b k : Nat} {x : Operand} {cs : List Value} {E : TypeId} {v : Value} (hx : ev L x = some (.pointer (some ⟨b, k, none⟩))) (hm : Asn.blk b cs E ∈ Γ) (hT : scalarT P T = true)
    (hv : nth cs k = some v) : Ex P n a L Γ ⟨dst, .load T x, ty, pos, af, g⟩ v := fun hs w hh =>
  (by
    rw [nth_eq] at hv
    have hc := cell_of_blk (hh _ hm) hv
    simp [execOp, hs.ev hx, Instr.loadAt, Instr.sureAddr, loadVar_scalar hT hc])
theorem e_loadC {T : Nat} {p : Addr} {x : Operand} {v : Value} (hx : ev L x = some (.pointer (some p))) (hT : scalarT P T = true) 
    (hc : ∀ w, Hd Γ w → w.cell? p = some v) : Ex P n a L Γ ⟨dst, .load T x, ty, pos, af, g⟩ v := fun hs w hh =>
  (by simp [execOp, hs.ev hx, Instr.loadAt, Instr.sureAddr, loadVar_scalar hT (hc w hh)])
/-- a struct, whole, out of a block that is it. -/
theorem e_loadA {T b m : Nat} {x : Operand} {cs : List Value} {E : TypeId} (hx : ev L x = some (.pointer (some ⟨b, 0, none⟩))) (hm : Asn.blk b cs E ∈ Γ) (hT : structT P T = true) (hz : szOf P T = some m)
    (hl : Nat.beq cs.length m = true) : Ex P n a L Γ ⟨dst, .load T x, ty, pos, af, g⟩ (.agg cs.toArray) := fun hs w hh =>
  (by
    obtain rfl := Nat.eq_of_beq_eq_true hl
    have hc := loadVar_struct (P := P) hT hz (w := w) (p := ⟨b, 0, none⟩) (fun j v hj => by rw [addr_add, Nat.zero_add]; exact cell_of_blk (hh _ hm) hj)
    simp [execOp, hs.ev hx, Instr.loadAt, Instr.sureAddr, hc])
theorem e_loadAC {T b k : Nat} {x : Operand} {l : List Value} (hx : ev L x = some (.pointer (some ⟨b, k, none⟩))) (hT : structT P T = true)  (hz : szOf P T = some l.length)
    (hc : ∀ w, Hd Γ w → ∀ j v, l[j]? = some v → w.cell? ⟨b, k + j, none⟩ = some v) : Ex P n a L Γ ⟨dst, .load T x, ty, pos, af, g⟩ (.agg l.toArray) := fun hs w hh =>
  (by
    have hc := loadVar_struct (P := P) hT hz (w := w) (p := ⟨b, k, none⟩) (fun j v hj => by rw [addr_add]; exact hc w hh j v hj)
    simp [execOp, hs.ev hx, Instr.loadAt, Instr.sureAddr, hc])
/-- a new block. -/
theorem s_new {o : Oper} {cs : List Value} {E : TypeId} (hS : St n F0 w0 a w L Γ)
    (he : (execOp a.eval o).run P w = .ok (.value (.pointer (some ⟨w.heap.size, 0, none⟩))) (w.alloc (.cells cs.toArray E))) (hd : o.dst = some d) (hn : Nat.blt d n.n = true)
    (h : ∀ a' w' b, St n F0 w0 a' w' ((d, .pointer (some ⟨b, 0, none⟩)) :: L) (.blk b cs E :: Γ) → K a' w') : OW P o a w K Q := by
  refine ⟨?_⟩
  unfold Oper.wp
  rw [he]
  show K (a.put o.dst _) _
  rw [hd]
  refine h _ _ w.heap.size ((hS.fresh (Chg.alloc _ _ _) (Y := .blk w.heap.size cs E) (ok_blk ?_) ?_).put hn _)
  · show (w.heap.push _)[w.heap.size]? = _
    simp
  · intro b hb; obtain rfl : b = w.heap.size := hb; exact Nat.le_refl _

theorem s_alloc {E : TypeId} {zs : List Value} (hS : St n F0 w0 a w L Γ) (hz : zeroOf P E = some zs) (hn : Nat.blt d n.n = true)
    (h : ∀ a' w' b, St n F0 w0 a' w' ((d, .pointer (some ⟨b, 0, none⟩)) :: L) (.blk b zs E :: Γ) → K a' w') : OW P ⟨some d, .alloc E, ty, pos, af, g⟩ a w K Q :=
  s_new hS (by
    obtain ⟨z, h1, h2⟩ := zero_run hz w
    simp [execOp, Instr.alloc, h1, newVar, newRow, h2]) rfl hn h
theorem s_box1 {E : TypeId} {x : Operand} {v : Value} (hS : St n F0 w0 a w L Γ) (hx : ev L x = some v) (h1 : isOne v = true) (hn : Nat.blt d n.n = true)
    (h : ∀ a' w' b, St n F0 w0 a' w' ((d, .pointer (some ⟨b, 0, none⟩)) :: L) (.blk b [v] E :: Γ) → K a' w') : OW P ⟨some d, .box E x, ty, pos, af, g⟩ a w K Q :=
  s_new hS (by simp [execOp, Instr.box, hS.sl.ev hx, newVar, newRow, isOne_cells h1]) rfl hn h
theorem s_boxA {E : TypeId} {x : Operand} {l : List Value} (hS : St n F0 w0 a w L Γ) (hx : ev L x = some (.agg l.toArray)) (hn : Nat.blt d n.n = true)
    (h : ∀ a' w' b, St n F0 w0 a' w' ((d, .pointer (some ⟨b, 0, none⟩)) :: L) (.blk b l E :: Γ) → K a' w') : OW P ⟨some d, .box E x, ty, pos, af, g⟩ a w K Q :=
  s_new hS (by simp [execOp, Instr.box, hS.sl.ev hx, newVar, newRow, Value.cells]) rfl hn h

theorem s_store {T b k : Nat} {x y : Operand} {cs cs' : List Value} {E : TypeId} {v : Value} {Γ' : List Asn} (hS : St n F0 w0 a w L Γ) (hx : ev L x = some (.pointer (some ⟨b, k, none⟩))) (hy : ev L y = some v) (h1 : isOne v = true)
    (hz : szOf P T = some 1) (hr : Rep (.blk b cs E) (.blk b cs' E) Γ Γ') (hu : Upd cs k v cs') (h : ∀ w', St n F0 w0 a w' L Γ' → K a w') : OW P ⟨none, .store T x y, ty, pos, af, g⟩ a w K Q := by
  obtain ⟨rfl, hk⟩ := hu.eq
  have hb : w.heap[b]? = some (.cells cs.toArray E (0, 0)) := hS.get hr.mem
  have hc : ∃ u, cs[k]? = some u := ⟨cs[k], by simp [hk]⟩
  obtain ⟨u, hu⟩ := hc
  have hcell := cell_of_blk hb hu
  have he : (execOp a.eval (⟨none, .store T x y, ty, pos, af, g⟩ : Oper)).run P w = .ok .skip (w.setCell ⟨b, k, none⟩ v) := by
    simp [execOp, hS.sl.ev hx, hS.sl.ev hy, Instr.storeAt, Instr.sureAddr, storeVar, isOne_cells h1, sizeOf_run hz, storeCells, addr_add, run_store _ _ _ _ _ (isOne_oneCell h1), hcell, frozen_of_blk hb]
  refine ⟨?_⟩
  unfold Oper.wp
  rw [he]
  refine h _ (hS.upd hr (Chg.setCell w ⟨b, k, none⟩ v) (ok_blk (setCell_of_blk hb v)) (fun i hi => .inl hi) rfl)

theorem storeCells_run {P : Program} {E : TypeId} {b : Nat} : ∀ (vs pre : List Value) (w : World) (old : List Value), w.heap[b]? = some (.cells (pre ++ old).toArray E (0, 0)) → old.length = vs.length → (∀ v ∈ vs, isOne v = true) →
    ∃ w', (storeCells ⟨b, 0, none⟩ vs pre.length).run P w = .ok () w' ∧ w'.heap[b]? = some (.cells (pre ++ vs).toArray E (0, 0)) ∧ Chg (fun k => k = b) w w' := by
  intro vs
  induction vs with
  | nil =>
    intro pre w old hb hl _
    have : old = [] := by simpa using hl
    subst this
    exact ⟨w, by simp [storeCells], hb, Chg.refl _ _⟩
  | cons v vs ih =>
    intro pre w old hb hl h1
    cases old with
    | nil => simp at hl
    | cons o old =>
      have hv := h1 v (by simp)
      have hcell : w.cell? ⟨b, pre.length, none⟩ = some o := cell_of_blk hb (by simp)
      have hs := setCell_of_blk (k := pre.length) hb v
      have he : (pre ++ o :: old).set pre.length v = (pre ++ [v]) ++ old := by simp
      rw [he] at hs
      obtain ⟨w', h2, h3, h4⟩ := ih (pre ++ [v]) _ old hs (by simpa using hl) (fun u hu => h1 u (by simp [hu]))
      refine ⟨w', ?_, by simpa using h3, (Chg.setCell w ⟨b, pre.length, none⟩ v).trans h4 (fun i hi _ => hi)⟩
      simp only [List.length_append, List.length_cons, List.length_nil, Nat.zero_add] at h2
      simp [storeCells, addr_add, run_store _ _ _ _ _ (isOne_oneCell hv), hcell, frozen_of_blk hb, h2]

/-- a struct stored whole into a block that is it. -/
theorem s_storeA {T b m : Nat} {x y : Operand} {cs l : List Value} {E : TypeId} {Γ' : List Asn} (hS : St n F0 w0 a w L Γ) (hx : ev L x = some (.pointer (some ⟨b, 0, none⟩))) (hy : ev L y = some (.agg l.toArray))
    (hz : szOf P T = some m) (hr : Rep (.blk b cs E) (.blk b l E) Γ Γ') (hl : Nat.beq cs.length m = true) (hl' : Nat.beq l.length m = true) (h1 : l.all isOne = true) (h : ∀ w', St n F0 w0 a w' L Γ' → K a w') : OW P ⟨none, .store T x y, ty, pos, af, g⟩ a w K Q := by
  have e1 := Nat.eq_of_beq_eq_true hl
  have e2 := Nat.eq_of_beq_eq_true hl'
  have hb : w.heap[b]? = some (.cells ([] ++ cs).toArray E (0, 0)) := hS.get hr.mem
  obtain ⟨w', h2, h3, h4⟩ := storeCells_run (P := P) l [] w cs hb (by omega) (by simpa using h1)
  have he : (execOp a.eval (⟨none, .store T x y, ty, pos, af, g⟩ : Oper)).run P w = .ok .skip w' := by
    simp only [List.length_nil] at h2
    simp [execOp, hS.sl.ev hx, hS.sl.ev hy, Instr.storeAt, Instr.sureAddr, storeVar, sizeOf_run hz, Value.cells, e2, h2]
  refine ⟨?_⟩
  unfold Oper.wp
  rw [he]
  refine h _ (hS.upd hr h4 (ok_blk (by simpa using h3)) (fun i hi => .inl hi) rfl)

/-! ### calls -/
theorem s_call {f : FuncId} {xs : List Operand} {vs : List Value} {ts : Array TypeId} {dst : Option Tmp} {R : Ending → World → Prop} (hS : St n F0 w0 a w L Γ) (hx : Evs L xs vs) (hf : CallsTo P f)
    (hc : Calls P f vs.toArray w R) (h : ∀ e w', R e w' → ∃ v, e = .returned v ∧ K (a.put dst v) w') : OW P ⟨dst, .call ⟨.value (.func f), xs.toArray, ts⟩, ty, pos, af, g⟩ a w K Q := by
  refine ⟨?_⟩
  unfold Oper.wp
  have he : (execOp a.eval (⟨dst, .call ⟨.value (.func f), xs.toArray, ts⟩, ty, pos, af, g⟩ : Oper)).run P w = .ok (.enter f vs.toArray) w := by
    rw [execOp_call_go]
    rw [hS.sl.evs hx]
    simpa using hf vs.toArray w
  rw [he]
  refine hc.mono fun e w' hR => ?_
  obtain ⟨v, rfl, hK⟩ := h e w' hR
  exact hK
theorem s_callv {f : FuncId} {x : Operand} {cs : List Value} {xs : List Operand} {vs : List Value} {ts : Array TypeId} {dst : Option Tmp} {R : Ending → World → Prop} (hS : St n F0 w0 a w L Γ) (hv : ev L x = some (.func (.func f) #[] cs.toArray)) (hx : Evs L xs vs) (hf : CallsTo P f)
    (hc : Calls P f (vs ++ cs).toArray w R) (h : ∀ e w', R e w' → ∃ v, e = .returned v ∧ K (a.put dst v) w') : OW P ⟨dst, .call ⟨.value x, xs.toArray, ts⟩, ty, pos, af, g⟩ a w K Q := by
  refine ⟨?_⟩
  unfold Oper.wp
  have he : (execOp a.eval (⟨dst, .call ⟨.value x, xs.toArray, ts⟩, ty, pos, af, g⟩ : Oper)).run P w = .ok (.enter f (vs ++ cs).toArray) w := by
    have h1 := hS.sl.evs hx
    have h2 := hf (vs ++ cs).toArray w
    have e1 : (#[] ++ vs.toArray) ++ cs.toArray = (vs ++ cs).toArray := by simp
    have hr : (resolve a.eval ⟨.value x, xs.toArray, ts⟩ ty).run P w = .ok ⟨.fn (.func f) cs.toArray, #[] ++ vs.toArray⟩ w := by
      simp only [resolve, hS.sl.ev hv, h1, Deferred.ofValue]; rfl
    show ((resolve a.eval ⟨.value x, xs.toArray, ts⟩ ty) >>= fun d => invoke d.target d.args).run P w = _
    rw [Sem.run_bind, hr]
    show (callFunc f ((#[] ++ vs.toArray) ++ cs.toArray)).run P w = _
    rw [e1]; exact h2
  rw [he]
  refine hc.mono fun e w' hR => ?_
  obtain ⟨v, rfl, hK⟩ := h e w' hR
  exact hK
end
end Go.Proofs.YtjmkjkhcognoeaaGreatDoor

namespace Go.Proofs.YtjmkjkhcognoeaaGreatDoor
open Go.RowKit

section
variable {P : Program} {n : NN} {F0 : Nat → Prop} {w0 : World} {a : Act} {w : World} {L : List (Nat × Value)} {Γ : List Asn}
variable {K : Act → World → Prop} {Q : Exit → Act → World → Prop} {d ty : Nat} {dst : Option Tmp} {pos : String} {af : Array Edge} {g : Option (Nat × Bool)} {op : Op} {rest l : List Oper}

def opDst : List Oper → Nat → Option Nat
  | [], _ => none
  | o :: r, i => bif Nat.beq i 0 then o.dst else opDst r (i - 1)
theorem opDst_eq (l : List Oper) (i : Nat) : opDst l i = (l[i]?).bind (·.dst) := by
  induction l generalizing i with
  | nil => simp [opDst]
  | cons v l ih =>
    cases i with
    | zero => simp [opDst]
    | succ i => exact (ih i).trans (by simp)

theorem yielded_of {j t : Nat} {b : Bool} (hs : Sl n a L) (hj : opDst l j = some t) (hv : lk L t = some (.bool b)) : yielded l.toArray a.tmps j = some b := by
  rw [opDst_eq] at hj
  have h := hs.get _ _ hv
  unfold yielded
  have h1 : (l.toArray[j]?).bind (·.dst) = some t := by simpa using hj
  rw [h1]
  simp only [Option.bind_some]
  rw [Array.getD_eq_getD_getElem?] at h
  cases ht : a.tmps[t]? with
  | none => rw [ht] at h; simp [undef] at h
  | some v => rw [ht] at h; simp at h; subst h; rfl

theorem L_nil {ops : Array Oper} (h : Q .normal a w) : wpList P ops Q [] a w := h
theorem L_op {ops : Array Oper} (h : OW P ⟨dst, op, ty, pos, af, none⟩ a w (wpList P ops Q rest) Q) : wpList P ops Q (⟨dst, op, ty, pos, af, none⟩ :: rest) a w := by
  unfold wpList
  rw [if_pos (by simp [Region.wanted])]
  exact .inl h.h
theorem L_go {j t : Nat} {b : Bool} (hS : St n F0 w0 a w L Γ) (hj : opDst l j = some t) (hv : lk L t = some (.bool b))
    (h : OW P ⟨dst, op, ty, pos, af, some (j, b)⟩ a w (wpList P l.toArray Q rest) Q) : wpList P l.toArray Q (⟨dst, op, ty, pos, af, some (j, b)⟩ :: rest) a w := by
  unfold wpList
  rw [if_pos (by simp [Region.wanted, yielded_of hS.sl hj hv])]
  exact .inl h.h
theorem L_skip_t {j t : Nat} (hS : St n F0 w0 a w L Γ) (hj : opDst l j = some t) (hv : lk L t = some (.bool false)) (hn : Nat.blt d n.n = true)
    (h : ∀ a', St n F0 w0 a' w ((d, undef) :: L) Γ → wpList P l.toArray Q rest a' w) : wpList P l.toArray Q (⟨some d, op, ty, pos, af, some (j, true)⟩ :: rest) a w := by
  unfold wpList
  rw [if_neg (by simp [Region.wanted, yielded_of hS.sl hj hv])]
  exact h _ (hS.put hn _)

theorem L_skip_f {j t : Nat} (hS : St n F0 w0 a w L Γ) (hj : opDst l j = some t) (hv : lk L t = some (.bool true)) (hn : Nat.blt d n.n = true)
    (h : ∀ a', St n F0 w0 a' w ((d, undef) :: L) Γ → wpList P l.toArray Q rest a' w) : wpList P l.toArray Q (⟨some d, op, ty, pos, af, some (j, false)⟩ :: rest) a w := by
  unfold wpList
  rw [if_neg (by simp [Region.wanted, yielded_of hS.sl hj hv])]
  exact h _ (hS.put hn _)

theorem yielded_undef {j t : Nat} (hs : Sl n a L) (hj : opDst l j = some t) (hv : lk L t = some undef) : yielded l.toArray a.tmps j = none := by
  rw [opDst_eq] at hj
  have h := hs.get _ _ hv
  unfold yielded
  have h1 : (l.toArray[j]?).bind (·.dst) = some t := by simpa using hj
  rw [h1]
  simp only [Option.bind_some]
  rw [Array.getD_eq_getD_getElem?] at h
  cases ht : a.tmps[t]? with
  | none => rfl
  | some v => rw [ht] at h; simp [undef] at h; subst h; rfl
theorem L_skip_u {j t : Nat} {b : Bool} (hS : St n F0 w0 a w L Γ) (hj : opDst l j = some t) (hv : lk L t = some undef) (hn : Nat.blt d n.n = true)
    (h : ∀ a', St n F0 w0 a' w ((d, undef) :: L) Γ → wpList P l.toArray Q rest a' w) : wpList P l.toArray Q (⟨some d, op, ty, pos, af, some (j, b)⟩ :: rest) a w := by
  unfold wpList
  rw [if_neg (by simp [Region.wanted, yielded_undef hS.sl hj hv])]
  exact h _ (hS.put hn _)

/-- a Bool slot becomes known. -/
theorem St.is {t : Nat} {b c : Bool} (hS : St n F0 w0 a w L Γ) (hl : lk L t = some (.bool b)) (hb : b = c) : St n F0 w0 a w ((t, .bool c) :: L) Γ :=
  hS.act (hS.sl.know (by rw [hl, hb]))

theorem g_split {t : Nat} {b : Bool} {G : Prop} (hS : St n F0 w0 a w L Γ) (hl : lk L t = some (.bool b))
    (h1 : b = true → St n F0 w0 a w ((t, .bool true) :: L) Γ → G) (h2 : b = false → St n F0 w0 a w ((t, .bool false) :: L) Γ → G) : G := by
  cases hb : b
  · exact h2 hb (hS.is hl hb)
  · exact h1 hb (hS.is hl hb)
theorem g_splitD {t : Nat} {p : Prop} [hp : Decidable p] {G : Prop} (hS : St n F0 w0 a w L Γ) (hl : lk L t = some (.bool (decide p)))
    (h1 : p → St n F0 w0 a w ((t, .bool true) :: L) Γ → G) (h2 : ¬ p → St n F0 w0 a w ((t, .bool false) :: L) Γ → G) : G :=
  g_split hS hl (fun h => h1 (of_decide_eq_true h)) (fun h => h2 (of_decide_eq_false h))

theorem c_region {id : Nat} {l : List Oper} (h : wpList P l.toArray Q l a w) : (Code.region id l.toArray false).wp P Q a w := wp_region_lit h

theorem c_if_t {c : Operand} {x y : Code} (hS : St n F0 w0 a w L Γ) (hc : ev L c = some (.bool true)) (h : x.wp P Q a w) : (Code.cond c x y).wp P Q a w := wp_cond_true (hS.sl.ev hc) h
theorem c_if_f {c : Operand} {x y : Code} (hS : St n F0 w0 a w L Γ) (hc : ev L c = some (.bool false)) (h : y.wp P Q a w) : (Code.cond c x y).wp P Q a w := wp_cond_false (hS.sl.ev hc) h
theorem c_if {c : Operand} {x y : Code} {b : Bool} (hS : St n F0 w0 a w L Γ) (hc : ev L c = some (.bool b)) (h1 : b = true → x.wp P Q a w) (h2 : b = false → y.wp P Q a w) : (Code.cond c x y).wp P Q a w :=
  wp_cond_split (hS.sl.ev hc) h1 h2
theorem c_ifD {c : Operand} {x y : Code} {p : Prop} [hp : Decidable p] (hS : St n F0 w0 a w L Γ) (hc : ev L c = some (.bool (decide p))) (h1 : p → x.wp P Q a w) (h2 : ¬ p → y.wp P Q a w) : (Code.cond c x y).wp P Q a w :=
  wp_cond_split (hS.sl.ev hc) (fun h => h1 (of_decide_eq_true h)) (fun h => h2 (of_decide_eq_false h))

/-! ### in and out -/
theorem c_enter {f : FuncId} {fn : Func} {c : Code} {args : List Value} {R : Ending → World → Prop} {m : Nat} (L : List (Nat × Value)) (Γ : List Asn) (F0 : Nat → Prop) (hf : P.funcs[f]? = some fn) (hb : fn.body = some c) (hm : fn.ntmps = m)
    (hA : SubA args L) (hn : Nat.ble args.length m = true) (ok : ∀ X ∈ Γ, X.ok w) (dis : Γ.Pairwise (fun X Y => ∀ b, X.F b → ¬ Y.F b)) (mine : ∀ X ∈ Γ, X.mine = true → ∀ b, X.F b → w.heap.size ≤ b ∨ F0 b)
    (h : ∀ a, St ⟨m, []⟩ F0 w a w L Γ → c.wp P (bodyPost P fn R) a w) : Calls P f args.toArray w R := by
  refine calls_of_wp hf hb (h _ ⟨?_, Chg.refl _ _, ok, dis, mine⟩)
  have hle : args.length ≤ m := Nat.le_of_ble_eq_true hn
  have := Sl.start (l := args) (L := L) (n := m) (m := m - args.length) hA (by omega)
  simpa [hm] using this

/-- what a result variable holds. -/
inductive Res1 (P : Program) (L : List (Nat × Value)) (Γ : List Asn) : ResultVar → Value → Prop
  | tmp {t : Nat} {v : Value} (h : lk L t = some v) : Res1 P L Γ (.tmp t) v
  | cell {t T b : Nat} {cs : List Value} {E : TypeId} {v : Value} (h : lk L t = some (.pointer (some ⟨b, 0, none⟩))) (hm : Asn.blk b cs E ∈ Γ) (hT : scalarT P T = true) (hv : nth cs 0 = some v) : Res1 P L Γ (.cell t T) v
  | cellA {t T b m : Nat} {cs : List Value} {E : TypeId} (h : lk L t = some (.pointer (some ⟨b, 0, none⟩))) (hm : Asn.blk b cs E ∈ Γ) (hT : structT P T = true) (hz : szOf P T = some m) (hl : Nat.beq cs.length m = true) : Res1 P L Γ (.cell t T) (.agg cs.toArray)
inductive ResL (P : Program) (L : List (Nat × Value)) (Γ : List Asn) : List ResultVar → List Value → Prop
  | nil : ResL P L Γ [] []
  | cons {r : ResultVar} {rs : List ResultVar} {v : Value} {vs : List Value} (h : Res1 P L Γ r v) (t : ResL P L Γ rs vs) : ResL P L Γ (r :: rs) (v :: vs)

def rvS (a : Act) : ResultVar → Sem Value
  | .tmp t => pure (a.tmps.getD t undef)
  | .cell q t => do loadVar t (← asAddr (a.tmps.getD q undef))
theorem results_rvS (fn : Func) (a : Act) : results fn a.tmps = (do
    let vs ← fn.results.mapM (rvS a)
    pure (if h : vs.size = 1 then vs[0] else .tuple vs)) := by
  unfold results
  congr 1

theorem Res1.run {r : ResultVar} {v : Value} (hS : St n F0 w0 a w L Γ) (h : Res1 P L Γ r v) :
    (rvS a r).run P w = .ok v w := by
  cases h with
  | tmp h => simp only [rvS, hS.sl.get _ _ h]; rfl
  | cell h hm hT hv =>
    rw [nth_eq] at hv
    have hc := cell_of_blk (hS.get hm) hv
    simp only [rvS, hS.sl.get _ _ h, asAddr, Sem.run_bind, Sem.run_pure, Result.andThen_ok, loadVar_scalar hT hc]
  | cellA h hm hT hz hl =>
    obtain rfl := Nat.eq_of_beq_eq_true hl
    have hc := loadVar_struct (P := P) hT hz (w := w) (p := ⟨_, 0, none⟩) (fun j v hj => by rw [addr_add, Nat.zero_add]; exact cell_of_blk (hS.get hm) hj)
    simp only [rvS, hS.sl.get _ _ h, asAddr, Sem.run_bind, Sem.run_pure, Result.andThen_ok, hc]

theorem ResL.run {rs : List ResultVar} {vs : List Value} (hS : St n F0 w0 a w L Γ) (h : ResL P L Γ rs vs) :
    (rs.mapM (rvS a)).run P w = .ok vs w := by
  induction h with
  | nil => rfl
  | cons h _ ih =>
    simp only [List.mapM_cons, Sem.run_bind, Res1.run hS h, Result.andThen_ok, ih, Sem.run_pure]

theorem c_ret1 {fn : Func} {R : Ending → World → Prop} {r : ResultVar} {v : Value} {m : Nat} (hS : St ⟨m, []⟩ F0 w0 a w L Γ) (hr : fn.results = #[r]) (hv : Res1 P L Γ r v) (h : R (.returned v) w) : bodyPost P fn R .ret a w := by
  refine ⟨hS.sl.defers, v, ?_, h⟩
  have := ResL.run hS (.cons hv .nil)
  rw [results_rvS, hr, show (#[r] : Array ResultVar) = [r].toArray from rfl, List.mapM_toArray, Sem.run_bind, Sem.run_map, this]
  rfl
theorem c_retN {fn : Func} {R : Ending → World → Prop} {rs : List ResultVar} {vs : List Value} {m : Nat} (hS : St ⟨m, []⟩ F0 w0 a w L Γ) (hr : fn.results = rs.toArray) (hv : ResL P L Γ rs vs) (hne : Nat.beq vs.length 1 = false) (h : R (.returned (.tuple vs.toArray)) w) : bodyPost P fn R .ret a w := by
  refine ⟨hS.sl.defers, _, ?_, h⟩
  have h1 := ResL.run hS hv
  have h2 : ¬ vs.toArray.size = 1 := by simpa using nbeq_ne hne
  rw [results_rvS, hr, List.mapM_toArray, Sem.run_bind, Sem.run_map, h1]
  simp only [Result.andThen_ok, h2, dite_false]
  rfl
theorem r_norm {fn : Func} {R : Ending → World → Prop} (h : bodyPost P fn R .ret a w) : bodyPost P fn R .normal a w := h

/-! ### calls by contract -/
/-- it answers v; what was stays. -/
def PureC (P : Program) (f : FuncId) (args : List Value) (w : World) (v : Value) : Prop := Calls P f args.toArray w fun e w' => e = .returned v ∧ Chg noB w w'
/-- it answers one of those; what was stays; of new blocks something is known. -/
def NewC {γ : Type} (P : Program) (f : FuncId) (args : List Value) (w : World) (V : γ → Value) (Y : γ → Asn) : Prop :=
  Calls P f args.toArray w fun e w' => ∃ x, e = .returned (V x) ∧ Chg noB w w' ∧ (Y x).ok w' ∧ ∀ b, (Y x).F b → w.heap.size ≤ b
/-- it may change what belongs to X; behind it that is Y. -/
def MutC {γ : Type} (P : Program) (f : FuncId) (args : List Value) (w : World) (X : Asn) (V : γ → Value) (Y : γ → Asn) : Prop :=
  Calls P f args.toArray w fun e w' => ∃ x, e = .returned (V x) ∧ Chg X.F w w' ∧ (Y x).ok w' ∧ ∀ b, (Y x).F b → X.F b ∨ w.heap.size ≤ b

theorem s_callP {f : FuncId} {xs : List Operand} {vs : List Value} {ts : Array TypeId} {v : Value} (hS : St n F0 w0 a w L Γ) (hx : Evs L xs vs) (hf : CallsTo P f) (hn : Nat.blt d n.n = true)
    (hc : PureC P f vs w v) (h : ∀ a' w', St n F0 w0 a' w' ((d, v) :: L) Γ → K a' w') : OW P ⟨some d, .call ⟨.value (.func f), xs.toArray, ts⟩, ty, pos, af, g⟩ a w K Q :=
  s_call hS hx hf hc fun _ _ ⟨he, hch⟩ => ⟨_, he, h _ _ ((hS.ext hch).put hn _)⟩
theorem s_callN {γ : Type} {V : γ → Value} {Y : γ → Asn} {f : FuncId} {xs : List Operand} {vs : List Value} {ts : Array TypeId} (hS : St n F0 w0 a w L Γ) (hx : Evs L xs vs) (hf : CallsTo P f) (hn : Nat.blt d n.n = true)
    (hc : NewC P f vs w V Y) (h : ∀ x a' w', St n F0 w0 a' w' ((d, V x) :: L) (Y x :: Γ) → K a' w') : OW P ⟨some d, .call ⟨.value (.func f), xs.toArray, ts⟩, ty, pos, af, g⟩ a w K Q :=
  s_call hS hx hf hc fun _ _ ⟨x, he, hch, hY, hF⟩ => ⟨_, he, h x _ _ ((hS.fresh hch hY hF).put hn _)⟩
theorem s_callM {γ : Type} {V : γ → Value} {X : Asn} {Y : γ → Asn} {Γ' : γ → List Asn} {f : FuncId} {xs : List Operand} {vs : List Value} {ts : Array TypeId} (hS : St n F0 w0 a w L Γ) (hx : Evs L xs vs) (hf : CallsTo P f) (hn : Nat.blt d n.n = true)
    (hc : MutC P f vs w X V Y) (hr : ∀ x, Rep X (Y x) Γ (Γ' x)) (hm : X.mine = true) (h : ∀ x a' w', St n F0 w0 a' w' ((d, V x) :: L) (Γ' x) → K a' w') : OW P ⟨some d, .call ⟨.value (.func f), xs.toArray, ts⟩, ty, pos, af, g⟩ a w K Q :=
  s_call hS hx hf hc fun _ _ ⟨x, he, hch, hY, hF⟩ => ⟨_, he, h x _ _ ((hS.upd (hr x) hch hY hF hm).put hn _)⟩
theorem s_callvP {f : FuncId} {x : Operand} {cs : List Value} {xs : List Operand} {vs : List Value} {ts : Array TypeId} {v : Value} (hS : St n F0 w0 a w L Γ) (hv : ev L x = some (.func (.func f) #[] cs.toArray)) (hx : Evs L xs vs) (hf : CallsTo P f) (hn : Nat.blt d n.n = true)
    (hc : PureC P f (vs ++ cs) w v) (h : ∀ a' w', St n F0 w0 a' w' ((d, v) :: L) Γ → K a' w') : OW P ⟨some d, .call ⟨.value x, xs.toArray, ts⟩, ty, pos, af, g⟩ a w K Q :=
  s_callv hS hv hx hf hc fun _ _ ⟨he, hch⟩ => ⟨_, he, h _ _ ((hS.ext hch).put hn _)⟩
theorem s_callvM {γ : Type} {V : γ → Value} {X : Asn} {Y : γ → Asn} {Γ' : γ → List Asn} {f : FuncId} {x : Operand} {cs : List Value} {xs : List Operand} {vs : List Value} {ts : Array TypeId} (hS : St n F0 w0 a w L Γ) (hv : ev L x = some (.func (.func f) #[] cs.toArray)) (hx : Evs L xs vs) (hf : CallsTo P f) (hn : Nat.blt d n.n = true)
    (hc : MutC P f (vs ++ cs) w X V Y) (hr : ∀ x, Rep X (Y x) Γ (Γ' x)) (hm : X.mine = true) (h : ∀ x a' w', St n F0 w0 a' w' ((d, V x) :: L) (Γ' x) → K a' w') : OW P ⟨some d, .call ⟨.value x, xs.toArray, ts⟩, ty, pos, af, g⟩ a w K Q :=
  s_callv hS hv hx hf hc fun _ _ ⟨x, he, hch, hY, hF⟩ => ⟨_, he, h x _ _ ((hS.upd (hr x) hch hY hF hm).put hn _)⟩
/-! ### a region that draws its order: those that only look are taken first, as long as nobody has broken S -/
/-- whichever order; behind each operation but those of Z the condition holds. -/
def wpZ (P : Program) (ops : Array Oper) (Q : Exit → Act → World → Prop) (S : World → Prop) (Z : List Nat) : Nat → Array Bool → Act → World → Prop
  | 0, listed, a, w => Region.ready .any ops listed = [] ∧ Q .normal a w
  | fuel + 1, listed, a, w =>
    (Region.ready .any ops listed = [] → Q .normal a w) ∧
    ∀ i ∈ Region.ready .any ops listed, wpOp P ops Q i (fun a' w' => (S w → i ∈ Z ∨ S w') ∧ wpZ P ops Q S Z fuel (listed.setIfInBounds i true) a' w') a w

theorem wpAny_of_Z {ops : Array Oper} {S : World → Prop} {Z : List Nat} : ∀ (fuel : Nat) (listed : Array Bool) (a : Act) (w : World), wpZ P ops Q S Z fuel listed a w → wpAny P .any ops Q fuel listed a w
  | 0, _, _, _, h => h
  | fuel + 1, _, _, _, h => ⟨h.1, fun i hi => wpOp_mono (fun a' w' h' => wpAny_of_Z fuel _ a' w' h'.2) (h.2 i hi)⟩

/-- number z waits for number i, by way of others too. -/
def reachB (ops : Array Oper) : Nat → Nat → Nat → Bool
  | 0, _, _ => false
  | f + 1, z, i => match ops[z]? with
    | none => false
    | some o => (o.after.any fun e => Region.binds .any e && e.on == i) || (o.after.any fun e => Region.binds .any e && reachB ops f e.on i)
/-- those of Z wait for number i. -/
def waits (ops : Array Oper) (Z : List Nat) (i : Nat) : Bool := Z.all fun z => reachB ops ops.size z i
/-- whatever has come up waited for nothing that has not. -/
def Closed (ops : Array Oper) (listed : Array Bool) : Prop := ∀ m o, ops[m]? = some o → listed.getD m false = true → ∀ e ∈ o.after, Region.binds .any e = true → listed.getD e.on false = true
def closedB (ops : Array Oper) (listed : Array Bool) : Bool := (List.range ops.size).all fun m => !listed.getD m false || match ops[m]? with
  | some o => o.after.all fun e => !Region.binds .any e || listed.getD e.on false
  | none => true
theorem closed_of {ops : Array Oper} {listed : Array Bool} (h : closedB ops listed = true) : Closed ops listed := by
  intro m o hm hl e he hb
  have hlt := (Array.getElem?_eq_some_iff.1 hm).1
  have h1 := List.all_eq_true.1 h m (by simpa using hlt)
  rw [hl, hm] at h1
  simp only [Bool.not_true, Bool.false_or, Array.all_eq_true_iff_forall_mem] at h1
  have h2 := h1 e he
  rw [hb] at h2
  simpa using h2
theorem getD_set_true {l : Array Bool} {j m : Nat} (h : l.getD m false = true) : (l.setIfInBounds j true).getD m false = true := by
  by_cases e : j = m
  · subst e
    have hlt : j < l.size := by
      apply Classical.byContradiction; intro hn
      simp [Array.getD, hn] at h
    simp [Array.getD, hlt]
  · rw [getD_set_ne false e]; exact h
theorem closed_set {ops : Array Oper} {listed : Array Bool} (h : Closed ops listed) {j : Nat} (hj : j ∈ Region.ready .any ops listed) : Closed ops (listed.setIfInBounds j true) := by
  intro m o hm hl e he hb
  obtain ⟨_, oj, hoj, hall⟩ := mem_ready.1 hj
  by_cases e1 : j = m
  · subst e1
    rw [hoj] at hm; cases hm
    exact getD_set_true (hall e he hb)
  · rw [getD_set_ne false e1] at hl
    exact getD_set_true (h m o hm hl e he hb)
theorem reach_listed {ops : Array Oper} {listed : Array Bool} (hc : Closed ops listed) : ∀ (f z i : Nat) (o : Oper), ops[z]? = some o → (∀ e ∈ o.after, Region.binds .any e = true → listed.getD e.on false = true) → reachB ops f z i = true → listed.getD i false = true := by
  intro f
  induction f with
  | zero => intro z i o _ _ h; simp [reachB] at h
  | succ f ih =>
    intro z i o hz hall h
    simp only [reachB, hz, Bool.or_eq_true, Array.any_eq_true', Bool.and_eq_true, beq_iff_eq] at h
    rcases h with ⟨e, he, hb, rfl⟩ | ⟨e, he, hb, hr⟩
    · exact hall e he hb
    · have h1 := hall e he hb
      cases ho : ops[e.on]? with
      | none => cases f <;> simp [reachB, ho] at hr
      | some oe => exact ih e.on i oe ho (fun e' he' hb' => hc e.on oe ho h1 e' he' hb') hr

theorem wpZ_first {ops : Array Oper} {S : World → Prop} {Z : List Nat} {i : Nat} {oi : Oper} {v : Value} (hi : ops[i]? = some oi) (hsel : ∀ (j : Nat) (o : Oper) cs b, ops[j]? = some o → o.op ≠ .select cs b)
    (hQ : ∀ c a w, Q (.panic c) (a.put oi.dst v) w → Q (.panic c) a w) (hZ : waits ops Z i = true) :
    ∀ (fuel : Nat) (listed : Array Bool) (a : Act) (w : World),
      (∀ j oj, ops[j]? = some oj → j ≠ i → listed.getD j true = false → (∀ e ∈ oj.after, Region.binds .any e = true → e.on ≠ i) → oi.apart ops oj = true) →
      Closed ops listed → i ∈ Region.ready .any ops listed → YieldsIf P ops S oi v a → S w →
      wpZ P ops Q S Z fuel (listed.setIfInBounds i true) (a.put oi.dst v) w → wpZ P ops Q S Z (fuel + 1) listed a w := by
  intro fuel
  induction fuel with
  | zero =>
    intro listed a w _ _ hr hy hS H
    refine ⟨fun h => (by rw [h] at hr; cases hr), fun j hj => ?_⟩
    by_cases hji : j = i
    · subst hji; exact hy.wpOp hi hS ⟨fun h => .inr h, H⟩
    · have := ready_mono hj hji
      rw [H.1] at this
      cases this
  | succ fuel ih =>
    intro listed a w hfree hcl hr hy hS H
    refine ⟨fun h => (by rw [h] at hr; cases hr), fun j hj => ?_⟩
    by_cases hji : j = i
    · subst hji; exact hy.wpOp hi hS ⟨fun h => .inr h, H⟩
    · have h1 := H.2 j (ready_mono hj hji)
      obtain ⟨hjun, oj, hoj, hall⟩ := mem_ready.1 hj
      have hnot : ∀ e ∈ oj.after, Region.binds .any e = true → e.on ≠ i := fun e he hb heq => by
        have h1 := hall e he hb
        have h0 := (mem_ready.1 hr).1
        rw [heq] at h1
        rcases Nat.lt_or_ge i listed.size with h' | h'
        · simp [h'] at h0 h1; rw [h0] at h1; cases h1
        · simp [Array.getElem?_eq_none h'] at h1
      have hjZ : j ∉ Z := fun hz => by
        have h5 := List.all_eq_true.1 hZ j hz
        have h6 := reach_listed hcl _ _ _ _ hoj hall h5
        have h7 := (mem_ready.1 hr).1
        rcases Nat.lt_or_ge i listed.size with h' | h'
        · simp [h'] at h6 h7; rw [h6] at h7; cases h7
        · simp [Array.getElem?_eq_none h'] at h6
      have h2 := wpOp_putIf hoj (hfree j oj hoj hji hjun hnot) (fun cs b => hsel i oi cs b hi) (fun cs b => hsel j oj cs b hoj) hQ hy h1
      have hfree' : ∀ k ok, ops[k]? = some ok → k ≠ i → (listed.setIfInBounds j true).getD k true = false →
          (∀ e ∈ ok.after, Region.binds .any e = true → e.on ≠ i) → oi.apart ops ok = true := fun k ok hk hki hun hno => by
        refine hfree k ok hk hki ?_ hno
        by_cases hjk : j = k
        · subst hjk; exact hjun
        · rw [getD_set_ne true hjk] at hun; exact hun
      refine wpOp_mono (fun a' w' h3 => ⟨fun _ => .inr ((h3.2.1 hS).resolve_left hjZ), ih (listed.setIfInBounds j true) a' w' hfree' (closed_set hcl hj) (ready_mono hr (Ne.symm hji)) h3.1 ((h3.2.1 hS).resolve_left hjZ) ?_⟩) h2
      rw [Array.setIfInBounds_comm _ _ hji]
      exact h3.2.2

/-- the same for one that looks at nothing. -/
theorem wpZ_first0 {ops : Array Oper} {S : World → Prop} {Z : List Nat} {i : Nat} {oi : Oper} {v : Value} (hi : ops[i]? = some oi) (hsel : ∀ (j : Nat) (o : Oper) cs b, ops[j]? = some o → o.op ≠ .select cs b)
    (hQ : ∀ c a w, Q (.panic c) (a.put oi.dst v) w → Q (.panic c) a w) :
    ∀ (fuel : Nat) (listed : Array Bool) (a : Act) (w : World),
      (∀ j oj, ops[j]? = some oj → j ≠ i → listed.getD j true = false → (∀ e ∈ oj.after, Region.binds .any e = true → e.on ≠ i) → oi.apart ops oj = true) →
      i ∈ Region.ready .any ops listed → Yields P ops oi v a →
      wpZ P ops Q S Z fuel (listed.setIfInBounds i true) (a.put oi.dst v) w → wpZ P ops Q S Z (fuel + 1) listed a w := by
  intro fuel
  induction fuel with
  | zero =>
    intro listed a w _ hr hy H
    refine ⟨fun h => (by rw [h] at hr; cases hr), fun j hj => ?_⟩
    by_cases hji : j = i
    · subst hji; exact hy.wpOp hi ⟨fun h => .inr h, H⟩
    · have := ready_mono hj hji
      rw [H.1] at this
      cases this
  | succ fuel ih =>
    intro listed a w hfree hr hy H
    refine ⟨fun h => (by rw [h] at hr; cases hr), fun j hj => ?_⟩
    by_cases hji : j = i
    · subst hji; exact hy.wpOp hi ⟨fun h => .inr h, H⟩
    · have h1 := H.2 j (ready_mono hj hji)
      obtain ⟨hjun, oj, hoj, hall⟩ := mem_ready.1 hj
      have hnot : ∀ e ∈ oj.after, Region.binds .any e = true → e.on ≠ i := fun e he hb heq => by
        have h1 := hall e he hb
        have h0 := (mem_ready.1 hr).1
        rw [heq] at h1
        rcases Nat.lt_or_ge i listed.size with h' | h'
        · simp [h'] at h0 h1; rw [h0] at h1; cases h1
        · simp [Array.getElem?_eq_none h'] at h1
      have h2 := wpOp_put hoj (hfree j oj hoj hji hjun hnot) (fun cs b => hsel i oi cs b hi) (fun cs b => hsel j oj cs b hoj) hQ hy h1
      have hfree' : ∀ k ok, ops[k]? = some ok → k ≠ i → (listed.setIfInBounds j true).getD k true = false →
          (∀ e ∈ ok.after, Region.binds .any e = true → e.on ≠ i) → oi.apart ops ok = true := fun k ok hk hki hun hno => by
        refine hfree k ok hk hki ?_ hno
        by_cases hjk : j = k
        · subst hjk; exact hjun
        · rw [getD_set_ne true hjk] at hun; exact hun
      refine wpOp_mono (fun a' w' h3 => ⟨h3.2.1, ih (listed.setIfInBounds j true) a' w' hfree' (ready_mono hr (Ne.symm hji)) h3.1 ?_⟩) h2
      rw [Array.setIfInBounds_comm _ _ hji]
      exact h3.2.2

/-- the beginning. -/
theorem c_draw {id : Nat} {l : List Oper} (Γs : List Asn) (Z : List Nat) (hm : P.follows .mixedOrders = true) (hS : St n F0 w0 a w L Γ)
    (h : ∀ w', St n F0 w0 a w' L Γ → wpZ P l.toArray Q (Hd Γs) Z l.length (List.replicate l.length false).toArray a w') : (Code.region id l.toArray true).wp P Q a w := by
  refine wp_region_any hm (wpAny_of_Z (S := Hd Γs) (Z := Z) _ _ _ _ ?_)
  have := h w.drew (hS.ext (Chg.drew _ _))
  simpa using this

theorem c_draw1 {id : Nat} {l : List Oper} (Z : List Nat) (hm : P.follows .mixedOrders = true) (hS : St n F0 w0 a w L Γ)
    (h : ∀ w', St n F0 w0 a w' L Γ → wpZ P l.toArray Q (Hd Γ) Z l.length (List.replicate l.length false).toArray a w') : (Code.region id l.toArray true).wp P Q a w := c_draw Γ Z hm hS h

theorem sub_nil {Γ : List Asn} : ∀ Y ∈ ([] : List Asn), Y ∈ Γ := fun _ h => by cases h
theorem sub_cons {Γ Γs : List Asn} {X : Asn} (h : X ∈ Γ) (t : ∀ Y ∈ Γs, Y ∈ Γ) : ∀ Y ∈ X :: Γs, Y ∈ Γ := fun Y hY => by
  rcases List.mem_cons.1 hY with rfl | hY
  · exact h
  · exact t Y hY
theorem c_drawS {id : Nat} {l : List Oper} {Γs : List Asn} (Z : List Nat) (hm : P.follows .mixedOrders = true) (hS : St n F0 w0 a w L Γ) (_hsub : ∀ X ∈ Γs, X ∈ Γ)
    (h : ∀ w', St n F0 w0 a w' L Γ → wpZ P l.toArray Q (Hd Γs) Z l.length (List.replicate l.length false).toArray a w') : (Code.region id l.toArray true).wp P Q a w := c_draw Γs Z hm hS h

/-- number i only looks: it is taken first. -/
theorem Z_take {i fuel : Nat} {l : List Oper} {Γs : List Asn} {Z : List Nat} {listed listed' : List Bool} {v : Value} (hS : St n F0 w0 a w L Γ) (hi : l[i]? = some ⟨some d, op, ty, pos, af, g⟩) (hw : ∀ a, Sl n a L → Region.wanted ⟨some d, op, ty, pos, af, g⟩ (yielded l.toArray a.tmps) = true) (he : Ex P n a L Γs ⟨some d, op, ty, pos, af, g⟩ v)
    (hl : listed.set i true = listed') (hns : Region.noSelect l.toArray = true) (hf : Region.free .any l.toArray listed.toArray i = true) (hr : (Region.ready .any l.toArray listed.toArray).contains i = true) (hcl : closedB l.toArray listed.toArray = true) (hZ : waits l.toArray Z i = true)
    (hsub : ∀ X ∈ Γs, X ∈ Γ) (hQ : ∀ c a w, Q (.panic c) (a.put (some d) v) w → Q (.panic c) a w) (hn : Nat.blt d n.n = true)
    (h : ∀ a', St n F0 w0 a' w ((d, v) :: L) Γ → wpZ P l.toArray Q (Hd Γs) Z fuel listed'.toArray a' w) : wpZ P l.toArray Q (Hd Γs) Z (fuel + 1) listed.toArray a w := by
  have hi' : l.toArray[i]? = some ⟨some d, op, ty, pos, af, g⟩ := by simpa using hi
  refine wpZ_first hi' (Region.noSelect_spec hns) hQ hZ fuel _ a w (Region.free_spec hi' hf) (closed_of hcl) (by simpa using hr) (.inl ⟨hw a hS.sl, fun w' hh => he hS.sl w' hh⟩) (fun X hX => hS.get (hsub X hX)) ?_
  have := h _ (hS.put hn v)
  subst hl
  simpa using this
theorem Z_take0 {i fuel : Nat} {l : List Oper} {Γs : List Asn} {Z : List Nat} {listed listed' : List Bool} {v : Value} (hS : St n F0 w0 a w L Γ) (hi : l[i]? = some ⟨some d, op, ty, pos, af, g⟩) (hw : ∀ a, Sl n a L → Region.wanted ⟨some d, op, ty, pos, af, g⟩ (yielded l.toArray a.tmps) = true) (he : Ex P n a L [] ⟨some d, op, ty, pos, af, g⟩ v)
    (hl : listed.set i true = listed') (hns : Region.noSelect l.toArray = true) (hf : Region.free .any l.toArray listed.toArray i = true) (hr : (Region.ready .any l.toArray listed.toArray).contains i = true)
    (hQ : ∀ c a w, Q (.panic c) (a.put (some d) v) w → Q (.panic c) a w) (hn : Nat.blt d n.n = true)
    (h : ∀ a', St n F0 w0 a' w ((d, v) :: L) Γ → wpZ P l.toArray Q (Hd Γs) Z fuel listed'.toArray a' w) : wpZ P l.toArray Q (Hd Γs) Z (fuel + 1) listed.toArray a w := by
  have hi' : l.toArray[i]? = some ⟨some d, op, ty, pos, af, g⟩ := by simpa using hi
  refine wpZ_first0 hi' (Region.noSelect_spec hns) hQ fuel _ a w (Region.free_spec hi' hf) (by simpa using hr) (.inl ⟨hw a hS.sl, fun w' => he hS.sl w' (fun _ hX => by cases hX)⟩) ?_
  have := h _ (hS.put hn v)
  subst hl
  simpa using this
/-- a guarded one whose guard says no. -/
theorem Z_none_t {i j t fuel : Nat} {l : List Oper} {Γs : List Asn} {Z : List Nat} {listed listed' : List Bool} (hS : St n F0 w0 a w L Γ) (hi : l[i]? = some ⟨some d, op, ty, pos, af, some (j, true)⟩) (hj : opDst l j = some t) (hv : lk L t = some (.bool false))
    (hl : listed.set i true = listed') (hns : Region.noSelect l.toArray = true) (hf : Region.free .any l.toArray listed.toArray i = true) (hr : (Region.ready .any l.toArray listed.toArray).contains i = true)
    (hQ : ∀ c a w, Q (.panic c) (a.put (some d) undef) w → Q (.panic c) a w) (hn : Nat.blt d n.n = true)
    (h : ∀ a', St n F0 w0 a' w ((d, undef) :: L) Γ → wpZ P l.toArray Q (Hd Γs) Z fuel listed'.toArray a' w) : wpZ P l.toArray Q (Hd Γs) Z (fuel + 1) listed.toArray a w := by
  have hi' : l.toArray[i]? = some ⟨some d, op, ty, pos, af, some (j, true)⟩ := by simpa using hi
  refine wpZ_first0 hi' (Region.noSelect_spec hns) hQ fuel _ a w (Region.free_spec hi' hf) (by simpa using hr) (.inr ⟨by simp [Region.wanted, yielded_of hS.sl hj hv], rfl⟩) ?_
  have := h _ (hS.put hn undef)
  subst hl
  simpa using this
theorem Z_none_f {i j t fuel : Nat} {l : List Oper} {Γs : List Asn} {Z : List Nat} {listed listed' : List Bool} (hS : St n F0 w0 a w L Γ) (hi : l[i]? = some ⟨some d, op, ty, pos, af, some (j, false)⟩) (hj : opDst l j = some t) (hv : lk L t = some (.bool true))
    (hl : listed.set i true = listed') (hns : Region.noSelect l.toArray = true) (hf : Region.free .any l.toArray listed.toArray i = true) (hr : (Region.ready .any l.toArray listed.toArray).contains i = true)
    (hQ : ∀ c a w, Q (.panic c) (a.put (some d) undef) w → Q (.panic c) a w) (hn : Nat.blt d n.n = true)
    (h : ∀ a', St n F0 w0 a' w ((d, undef) :: L) Γ → wpZ P l.toArray Q (Hd Γs) Z fuel listed'.toArray a' w) : wpZ P l.toArray Q (Hd Γs) Z (fuel + 1) listed.toArray a w := by
  have hi' : l.toArray[i]? = some ⟨some d, op, ty, pos, af, some (j, false)⟩ := by simpa using hi
  refine wpZ_first0 hi' (Region.noSelect_spec hns) hQ fuel _ a w (Region.free_spec hi' hf) (by simpa using hr) (.inr ⟨by simp [Region.wanted, yielded_of hS.sl hj hv], rfl⟩) ?_
  have := h _ (hS.put hn undef)
  subst hl
  simpa using this
theorem Z_none_u {i j t fuel : Nat} {b : Bool} {l : List Oper} {Γs : List Asn} {Z : List Nat} {listed listed' : List Bool} (hS : St n F0 w0 a w L Γ) (hi : l[i]? = some ⟨some d, op, ty, pos, af, some (j, b)⟩) (hj : opDst l j = some t) (hv : lk L t = some undef)
    (hl : listed.set i true = listed') (hns : Region.noSelect l.toArray = true) (hf : Region.free .any l.toArray listed.toArray i = true) (hr : (Region.ready .any l.toArray listed.toArray).contains i = true)
    (hQ : ∀ c a w, Q (.panic c) (a.put (some d) undef) w → Q (.panic c) a w) (hn : Nat.blt d n.n = true)
    (h : ∀ a', St n F0 w0 a' w ((d, undef) :: L) Γ → wpZ P l.toArray Q (Hd Γs) Z fuel listed'.toArray a' w) : wpZ P l.toArray Q (Hd Γs) Z (fuel + 1) listed.toArray a w := by
  have hi' : l.toArray[i]? = some ⟨some d, op, ty, pos, af, some (j, b)⟩ := by simpa using hi
  refine wpZ_first0 hi' (Region.noSelect_spec hns) hQ fuel _ a w (Region.free_spec hi' hf) (by simpa using hr) (.inr ⟨by simp [Region.wanted, yielded_undef hS.sl hj hv], rfl⟩) ?_
  have := h _ (hS.put hn undef)
  subst hl
  simpa using this
/-- number i alone may come up. -/
theorem Z_one {i fuel : Nat} {l : List Oper} {Γs : List Asn} {Z : List Nat} {listed listed' : List Bool} (hi : l[i]? = some ⟨dst, op, ty, pos, af, g⟩) (hw : Region.wanted ⟨dst, op, ty, pos, af, g⟩ (yielded l.toArray a.tmps) = true) (hl : listed.set i true = listed') (hr : Region.ready .any l.toArray listed.toArray = [i])
    (h : OW P ⟨dst, op, ty, pos, af, g⟩ a w (fun a' w' => (Hd Γs w → i ∈ Z ∨ Hd Γs w') ∧ wpZ P l.toArray Q (Hd Γs) Z fuel listed'.toArray a' w') Q) : wpZ P l.toArray Q (Hd Γs) Z (fuel + 1) listed.toArray a w := by
  have hi' : l.toArray[i]? = some ⟨dst, op, ty, pos, af, g⟩ := by simpa using hi
  refine ⟨fun h0 => (by rw [hr] at h0; cases h0), fun j hj => ?_⟩
  rw [hr] at hj
  obtain rfl := List.mem_singleton.1 hj
  unfold wpOp
  simp only [hi']
  rw [if_pos hw]
  subst hl
  refine .inl ?_
  have h := h.h
  simpa using h
theorem Z_done {l : List Oper} {Γs : List Asn} {Z : List Nat} {listed : List Bool} (hr : Region.ready .any l.toArray listed.toArray = []) (h : Q .normal a w) : wpZ P l.toArray Q (Hd Γs) Z 0 listed.toArray a w := ⟨hr, h⟩
theorem Z_and {i : Nat} {Γs : List Asn} {Z : List Nat} {G S0 : Prop} (hS : St n F0 w0 a w L Γ) (hsub : ∀ X ∈ Γs, X ∈ Γ) (h : G) : (S0 → i ∈ Z ∨ Hd Γs w) ∧ G := ⟨fun _ => .inr fun X hX => hS.get (hsub X hX), h⟩
theorem Z_last {i : Nat} {Γs : List Asn} {Z : List Nat} {G S0 : Prop} (hi : i ∈ Z) (h : G) : (S0 → i ∈ Z ∨ Hd Γs w) ∧ G := ⟨fun _ => .inl hi, h⟩
theorem want_none (b : Act) (_h : Sl n b L) : Region.wanted ⟨dst, op, ty, pos, af, none⟩ (yielded l.toArray b.tmps) = true := rfl
theorem want_go {j t : Nat} {c : Bool} (hj : opDst l j = some t) (hv : lk L t = some (.bool c)) (b : Act) (h : Sl n b L) : Region.wanted ⟨dst, op, ty, pos, af, some (j, c)⟩ (yielded l.toArray b.tmps) = true := by
  simp [Region.wanted, yielded_of h hj hv]
end
end Go.Proofs.YtjmkjkhcognoeaaGreatDoor

namespace Go.Proofs.YtjmkjkhcognoeaaGreatDoor
open Go.RowKit

section
variable {P : Program} {n : NN} {F0 : Nat → Prop} {w0 : World} {a : Act} {w : World} {L : List (Nat × Value)} {Γ : List Asn}
variable {K : Act → World → Prop} {Q : Exit → Act → World → Prop} {d ty : Nat} {dst : Option Tmp} {pos : String} {af : Array Edge} {g : Option (Nat × Bool)}

theorem sliceT_eq {T E : TypeId} (h : sliceT P T = some E) : P.underlying T = some (.slice E) := by
  unfold sliceT at h; cases hi : P.underlying T with
  | none => simp [hi] at h
  | some D => cases D <;> simp_all

theorem info_of {E s b : Nat} {zs : List Value} (h1 : szOf P E = some s) (h2 : byOf P E = some b) (h3 : zeroOf P E = some zs) :
    ∃ i z, P.info? E = some i ∧ i.zero = some z ∧ i.size = s ∧ i.bytes = b ∧ z.cells = zs.toArray := by
  unfold szOf at h1; unfold byOf at h2; unfold zeroOf at h3
  cases hi : P.info? E with
  | none => simp [hi] at h1
  | some i =>
    cases hz : i.zero with
    | none => simp [hi, hz] at h3
    | some z => simp [hi, hz] at h1 h2 h3; exact ⟨i, z, rfl, hz, h1, h2, by simp [← h3]⟩

/-! ### element addresses -/
theorem e_ix {T E s b off m c : Nat} {x y : Operand} {k : IntKind} {i : Int} (hx : ev L x = some (.slice (some ⟨b, off, none⟩) m c)) (hy : ev L y = some (.int k i)) (hT : sliceT P T = some E) (hs : szOf P E = some s)
    (hi : 0 ≤ i ∧ i < m) : Ex P n a L Γ ⟨dst, .indexAddr T x y, ty, pos, af, g⟩ (.pointer (some ⟨b, off + i.toNat * s, none⟩)) := fun hs' w _ => by
  simp [execOp, hs'.ev hx, hs'.ev hy, Instr.indexAt, asIntOf, underlying, sliceT_eq hT, hi.1, hi.2, sizeOf_run hs, addr_add]
theorem e_ixN {T E s b off m c : Nat} {x y : Operand} {k : IntKind} {i : Nat} (hx : ev L x = some (.slice (some ⟨b, off, none⟩) m c)) (hy : ev L y = some (.int k (i : Int))) (hT : sliceT P T = some E) (hs : szOf P E = some s)
    (hi : i < m) : Ex P n a L Γ ⟨dst, .indexAddr T x y, ty, pos, af, g⟩ (.pointer (some ⟨b, off + i * s, none⟩)) := by
  have h := e_ix (P := P) (n := n) (a := a) (Γ := Γ) (dst := dst) (ty := ty) (pos := pos) (af := af) (g := g) hx hy hT hs (by omega)
  rwa [Int.toNat_natCast] at h
theorem e_ixS {T : Nat} {x y : Operand} {k : IntKind} {i : Int} {s : ByteArray} (hx : ev L x = some (.string s)) (hy : ev L y = some (.int k i)) (hT : P.underlying T = some .string)
    (hi : 0 ≤ i ∧ i < s.size) : Ex P n a L Γ ⟨dst, .index T x y, ty, pos, af, g⟩ (.int .u8 ((s.data.toList.getD i.toNat 0).toNat : Int)) := fun hs' w _ => by
  have h := run_index_string (P := P) (w := w) T s k i hT
  rw [dif_pos hi] at h
  have e : s.data.toList.getD i.toNat 0 = s[i.toNat]'(by omega) := by
    have hl : i.toNat < s.data.toList.length := by have := hi.2; simp; omega
    rw [List.getD_eq_getElem?_getD, List.getElem?_eq_getElem hl]; rfl
  rw [e]
  simp [execOp, hs'.ev hx, hs'.ev hy, h]

/-! ### rows -/
/-- a row that can be read: element i holds xs[i]. -/
def RowAt (b off s : Nat) (xs : List (List Value)) (w : World) : Prop :=
  ∀ i x, xs[i]? = some x → ∀ j v, x[j]? = some v → w.cell? ⟨b, off + i * s + j, none⟩ = some v

/-- a slice of the walk's own. -/
def ownA (E s : Nat) (v : Value) (m : Nat) (xs : List Value) : Asn := .any (fun k => v.ownBlock = some k) (fun w => w.ownsRow 0 E s v m xs) true

theorem ok_own {w : World} {E s : Nat} {v : Value} {m : Nat} {xs : List Value} (h : w.ownsRow 0 E s v m xs) : (ownA E s v m xs).ok w := by
  refine ⟨fun b hb => (h.lt b hb).2, fun w' hw => ?_⟩
  refine ⟨h.1, h.2.imp id ?_⟩
  rintro ⟨g, cap, cur, rfl, h1, h2, h3⟩
  exact ⟨g, cap, cur, rfl, h1, by rw [hw g rfl]; exact h2, h3⟩

theorem own_nil (w : World) (E s : Nat) : (ownA E s (.slice none 0 0) 0 []).ok w := ok_own (World.ownsRow_nil w 0 E s)

/-- an entry that owns no block, or only new ones, may be added at any time. -/
theorem St.more (h : St n F0 w0 a w L Γ) {Y : Asn} (hY : Y.ok w) (hnew : ∀ b, Y.F b → False) : St n F0 w0 a w L (Y :: Γ) :=
  h.fresh (Chg.refl _ _) hY (fun b hb => (hnew b hb).elim)

theorem St.own_nil (h : St n F0 w0 a w L Γ) (E s : Nat) : St n F0 w0 a w L (ownA E s (.slice none 0 0) 0 [] :: Γ) :=
  h.more (Go.Proofs.YtjmkjkhcognoeaaGreatDoor.own_nil w E s) (fun b hb => by simp [ownA, Asn.F, Value.ownBlock] at hb)

theorem Chg.grown {w w' : World} {v : Value} (h : w.grownBy w' v.ownBlock) : Chg (fun k => v.ownBlock = some k) w w' :=
  ⟨h.os, h.tape, h.output, h.size, fun k hk hn => h.block k hk (fun e => hn e.symm)⟩
theorem Chg.grown0 {w w' : World} (h : w.grownBy w' none) : Chg noB w w' :=
  ⟨h.os, h.tape, h.output, h.size, fun k hk _ => h.block k hk (by simp)⟩

theorem own_slice {w : World} {E s : Nat} {v : Value} {m : Nat} {xs : List Value} (h : w.ownsRow 0 E s v m xs) : ∃ p c, v = .slice p m c := by
  rcases h.2 with ⟨rfl, rfl⟩ | ⟨g, cap, cur, rfl, _⟩
  · exact ⟨none, 0, rfl⟩
  · exact ⟨_, _, rfl⟩

theorem append_own {t ty e : TypeId} {i : TypeInfo} {z : Value} {size bytes : Nat} (ht : P.underlying t = some (.slice e)) (hi : P.info? e = some i) (hz : i.zero = some z)
    (hsize : i.size = size) (hby : i.bytes = bytes) (hzs : z.cells.size = size) (hsz : 0 < size)
    {v : Value} {m : Nat} {xs : List Value} (hown : w.ownsRow 0 e size v m xs) {ad : Addr} {k c : Nat} {news : List Value} (hl : news.length = k * size) (hnews : ∀ j u, news[j]? = some u → w.cell? (ad.add j) = some u) (h1 : ∀ u ∈ news, u.oneCell' = true)
    (h63 : m + k ≤ 4611686018427387904) (hbytes : (m + k) * bytes ≤ 140737488355328) :
    ∃ v' w', (Builtin.append_ #[t, t] ty #[v, .slice (some ad) k c]).run P w = .ok v' w' ∧ w'.ownsRow 0 e size v' (m + k) (xs ++ news) ∧ w.grownBy w' v.ownBlock ∧
      (∀ q, v'.ownBlock = some q → v.ownBlock = some q ∨ w.heap.size ≤ q) ∧ (v' = .slice none 0 0 ↔ v = .slice none 0 0 ∧ k = 0) := by
  obtain ⟨v', w', hrun, hown', hgr, hnil⟩ := run_append_own (P := P) w 0 t ty e i z size bytes ht hi hz hsize hby hzs hsz v m xs hown ad k c news hl hnews h1 (by unfold maxLen; omega) hbytes (Nat.zero_le _)
  refine ⟨v', w', hrun, hown', hgr, ?_, hnil⟩
  subst hsize
  subst hby
  rcases hown.2 with ⟨rfl, rfl⟩ | ⟨g, cap, cur, rfl, _, hg, hnc, hcm, hcs, htake⟩
  · by_cases hk : k = 0
    · intro q hq; rw [hnil.2 ⟨rfl, hk⟩] at hq; simp [Value.ownBlock] at hq
    · have hr := run_append_nil (P := P) w t ty e i z ht hi hz ad k c news hl hnews (by omega) (by omega) (by simp only [Nat.zero_add] at hbytes; omega)
      have := hrun.symm.trans hr
      injection this with e1 _
      intro q hq; rw [e1] at hq; simp [Value.ownBlock] at hq; right; omega
  · by_cases hroom : m + k ≤ cap
    · have hfit : m * i.size + news.length ≤ cur.size := by rw [hl, hcs, ← Nat.add_mul]; exact Nat.mul_le_mul_right _ hroom
      have hr := run_append_room (P := P) w t ty e i ht hi g m cap cur hg ad k c news hl hnews h1 hroom hfit
      have := hrun.symm.trans hr
      injection this with e1 _
      intro q hq; rw [e1] at hq; left; simpa [Value.ownBlock] using hq
    · have holds : ∀ j u, xs[j]? = some u → w.cell? ((⟨g, 0, none⟩ : Addr).add j) = some u := hown.cells (g := g) rfl
      have hr := run_append_grow (P := P) w t ty e i z ht hi hz ⟨g, 0, none⟩ m cap xs hown.1 holds ad k c news hl hnews (by omega) (by omega) (growslice_fits (by omega) hbytes)
      have := hrun.symm.trans hr
      injection this with e1 _
      intro q hq; rw [e1] at hq; simp [Value.ownBlock] at hq; right; omega

/-- 'append(s, x..)': s is the walk's own, the new cells can be read where they lie. -/
theorem s_append {T E s b : Nat} {zs : List Value} {x y : Operand} {v : Value} {m bx ox k c : Nat} {cs ys : List Value} {Γ' : Value → List Asn} (hS : St n F0 w0 a w L Γ) (hx : ev L x = some v) (hy : ev L y = some (.slice (some ⟨bx, ox, none⟩) k c))
    (hT : sliceT P T = some E) (hs : szOf P E = some s) (hb : byOf P E = some b) (hz : zeroOf P E = some zs) (hzl : Nat.beq zs.length s = true) (hs0 : Nat.blt 0 s = true) (hn : Nat.blt d n.n = true)
    (hm : ownA E s v m cs ∈ Γ) (hyl : ys.length = k * s) (hys : ∀ j u, ys[j]? = some u → w.cell? ⟨bx, ox + j, none⟩ = some u) (h1 : ∀ u ∈ ys, isOne u = true) (hbd : (m + k) * b ≤ 140737488355328 ∧ m + k ≤ 4611686018427387904)
    (hr : ∀ v', Rep (ownA E s v m cs) (ownA E s v' (m + k) (cs ++ ys)) Γ (Γ' v'))
    (h : ∀ v' a' w', (v' = .slice none 0 0 ↔ v = .slice none 0 0 ∧ k = 0) → St n F0 w0 a' w' ((d, v') :: L) (Γ' v') → K a' w') : OW P ⟨some d, .call ⟨.builtin .append, #[x, y], #[T, T]⟩, ty, pos, af, g⟩ a w K Q := by
  obtain ⟨i, z, hi, hz', hsz, hby, hzc⟩ := info_of hs hb hz
  have hown : w.ownsRow 0 E s v m cs := hS.get hm
  have e1 := Nat.eq_of_beq_eq_true hzl
  have e2 : 0 < s := by simpa using hs0
  obtain ⟨v', w', hrun, hown', hgr, hblk, hnil⟩ := append_own (P := P) (ty := ty) (sliceT_eq hT) hi hz' hsz hby (by rw [hzc]; simpa using e1) e2 hown (ad := ⟨bx, ox, none⟩) (c := c) hyl
    (fun j u hj => by rw [addr_add]; exact hys j u hj) (fun u hu => isOne_oneCell (h1 u hu)) hbd.2 hbd.1
  have he : (execOp a.eval (⟨some d, .call ⟨.builtin .append, #[x, y], #[T, T]⟩, ty, pos, af, g⟩ : Oper)).run P w = .ok (.value v') w' := by
    simp [execOp, resolve, invoke, builtin, hS.sl.ev hx, hS.sl.ev hy, hrun]
  refine ⟨?_⟩
  unfold Oper.wp
  rw [he]
  exact h v' _ _ hnil ((hS.upd (hr v') (Chg.grown hgr) (ok_own hown') (fun k hk => hblk k hk) rfl).put hn _)

/-- 'append(s, x)': the one new element lies in a block of its own. -/
theorem s_append1 {T E s b : Nat} {zs : List Value} {x y : Operand} {v : Value} {m bx k c Ex : Nat} {cs ys : List Value} {Γ' : Value → List Asn} (hS : St n F0 w0 a w L Γ) (hx : ev L x = some v) (hy : ev L y = some (.slice (some ⟨bx, 0, none⟩) k c))
    (hT : sliceT P T = some E) (hs : szOf P E = some s) (hb : byOf P E = some b) (hz : zeroOf P E = some zs) (hzl : Nat.beq zs.length s = true) (hs0 : Nat.blt 0 s = true) (hn : Nat.blt d n.n = true)
    (hm : ownA E s v m cs ∈ Γ) (hbx : Asn.blk bx ys Ex ∈ Γ) (hyl : Nat.beq ys.length (k * s) = true) (h1 : ys.all isOne = true) (hr : ∀ v', Rep (ownA E s v m cs) (ownA E s v' (m + k) (cs ++ ys)) Γ (Γ' v')) (hbd : (m + k) * b ≤ 140737488355328 ∧ m + k ≤ 4611686018427387904)
    (h : ∀ v' a' w', (v' = .slice none 0 0 ↔ v = .slice none 0 0 ∧ k = 0) → St n F0 w0 a' w' ((d, v') :: L) (Γ' v') → K a' w') : OW P ⟨some d, .call ⟨.builtin .append, #[x, y], #[T, T]⟩, ty, pos, af, g⟩ a w K Q :=
  s_append hS hx hy hT hs hb hz hzl hs0 hn hm (Nat.eq_of_beq_eq_true hyl) (fun j u hj => by rw [Nat.zero_add]; exact cell_of_blk (hS.get hbx) hj) (by simpa using h1) hbd hr h

/-! ### maps -/
def mapT (P : Program) (T : TypeId) : Option (TypeId × TypeId) := match P.underlying T with | some (.map k e) => some (k, e) | _ => none
theorem mapT_eq {T K E : TypeId} (h : mapT P T = some (K, E)) : P.underlying T = some (.map K E) := by
  unfold mapT at h; cases hi : P.underlying T with
  | none => simp [hi] at h
  | some D => cases D <;> simp_all
def plainKey : TypeDesc → Bool
  | .int _ | .string | .bool => true
  | _ => false
theorem checkKey_plain {t : TypeId} {D : TypeDesc} (h : P.underlying t = some D) (hp : plainKey D = true) (em : Bool) (m : Nat) (v : Value) : (Instr.checkKey em (m + 1) t v).run P w = .ok () w := by
  cases D <;> simp [plainKey] at hp <;> simp [Instr.checkKey, underlying, h]

theorem s_makeMap {T : TypeId} (hS : St n F0 w0 a w L Γ) (hn : Nat.blt d n.n = true)
    (h : ∀ a' w' b, St n F0 w0 a' w' ((d, .map (some b)) :: L) (.mp b [] 0 :: Γ) → K a' w') : OW P ⟨some d, .makeMap T none, ty, pos, af, g⟩ a w K Q := by
  have he : (execOp a.eval (⟨some d, .makeMap T none, ty, pos, af, g⟩ : Oper)).run P w = .ok (.value (.map (some w.heap.size))) (w.alloc (.map #[] 0)) := by
    simp [execOp, Instr.makeMap]
  refine ⟨?_⟩
  unfold Oper.wp
  rw [he]
  refine h _ _ w.heap.size ((hS.fresh (Chg.alloc _ _ _) (Y := .mp w.heap.size [] 0) ⟨fun b hb => ?_, fun w' hw => ?_⟩ ?_).put hn _)
  · obtain rfl : b = w.heap.size := hb; simp
  · show w'.heap[w.heap.size]? = _
    rw [hw _ rfl]; show (w.heap.push _)[w.heap.size]? = _
    simp
  · intro b hb; obtain rfl : b = w.heap.size := hb; exact Nat.le_refl _

/-- 'make([]T, 0, c)'. -/
theorem s_make0 {T E s b : Nat} {zs : List Value} {x y : Operand} {k k' : IntKind} {c : Nat} (hS : St n F0 w0 a w L Γ) (hx : ev L x = some (.int k 0)) (hy : ev L y = some (.int k' (c : Int)))
    (hT : sliceT P T = some E) (hs : szOf P E = some s) (hb : byOf P E = some b) (hz : zeroOf P E = some zs) (hn : Nat.blt d n.n = true) (hbd : b * c ≤ 281474976710656 ∧ c ≤ 4611686018427387904)
    (h : ∀ b' a' w', St n F0 w0 a' w' ((d, .slice (some ⟨b', 0, none⟩) 0 c) :: L) (ownA E s (.slice (some ⟨b', 0, none⟩) 0 c) 0 [] :: Γ) → K a' w') : OW P ⟨some d, .makeSlice T x y, ty, pos, af, g⟩ a w K Q := by
  obtain ⟨i, z, hi, hz', hsz, hby, hzc⟩ := info_of hs hb hz
  obtain ⟨w', hrun, hown, hgr⟩ := run_make_own (P := P) w 0 T E i z s (sliceT_eq hT) hi hz' hsz k k' c (by rw [hby]; exact hbd.1) (by unfold maxLen; omega) (Nat.zero_le _)
  have he : (execOp a.eval (⟨some d, .makeSlice T x y, ty, pos, af, g⟩ : Oper)).run P w = .ok (.value (.slice (some ⟨w.heap.size, 0, none⟩) 0 c)) w' := by
    simp [execOp, hS.sl.ev hx, hS.sl.ev hy, hrun]
  refine ⟨?_⟩
  unfold Oper.wp
  rw [he]
  exact h _ _ _ ((hS.fresh (Chg.grown0 hgr) (ok_own hown) (fun q hq => by
    have : Value.ownBlock (.slice (some ⟨w.heap.size, 0, none⟩) 0 c) = some q := hq
    simp [Value.ownBlock] at this; omega)).put hn _)

/-! ### slices of structs, structs built -/
/-- cells overwritten from 'off' on. -/
def setL : List Value → Nat → List Value → List Value
  | l, _, [] => l
  | l, off, v :: vs => setL (l.set off v) (off + 1) vs

theorem fold_set (off : Nat) (vs : List Value) (k : Nat) (cs : Array Value) :
    (vs.toArray.zipIdx k).foldl (fun cs (c, j) => cs.setIfInBounds (off + j) c) cs = (setL cs.toList (off + k) vs).toArray := by
  rw [Array.zipIdx_toArray, List.foldl_toArray]
  induction vs generalizing k cs with
  | nil => simp [setL]
  | cons v vs ih =>
    rw [List.zipIdx_cons, List.foldl_cons, ih]
    simp only [setL, Array.toList_setIfInBounds, Nat.add_assoc]

theorem setL_full : ∀ (vs pre old : List Value), old.length = vs.length → setL (pre ++ old) pre.length vs = pre ++ vs := by
  intro vs
  induction vs with
  | nil => intro pre old h; have : old = [] := by simpa using h
           subst this; rfl
  | cons v vs ih =>
    intro pre old h
    cases old with
    | nil => simp at h
    | cons o old =>
      have := ih (pre ++ [v]) old (by simpa using h)
      simp only [setL]
      rw [show (pre ++ o :: old).set pre.length v = (pre ++ [v]) ++ old by simp]
      simpa using this
inductive UpdA : List Value → Nat → List Value → List Value → Prop
  | nil {cs : List Value} {k : Nat} : UpdA cs k [] cs
  | cons {cs cs1 cs2 vs : List Value} {k : Nat} {v : Value} (h : Upd cs k v cs1) (t : UpdA cs1 (k + 1) vs cs2) : UpdA cs k (v :: vs) cs2
theorem UpdA.eq {cs vs cs' : List Value} {k : Nat} (h : UpdA cs k vs cs') : cs' = setL cs k vs ∧ (vs = [] ∨ k + vs.length ≤ cs.length) := by
  induction h with
  | nil => exact ⟨rfl, .inl rfl⟩
  | cons h _ ih =>
    obtain ⟨rfl, h2⟩ := h.eq
    refine ⟨by rw [ih.1]; rfl, .inr ?_⟩
    rcases ih.2 with rfl | h3
    · simp; omega
    · simp at h3 ⊢; omega

def nthP : List (Nat × Nat) → Nat → Option (Nat × Nat)
  | [], _ => none
  | v :: l, i => bif Nat.beq i 0 then some v else nthP l (i - 1)
theorem nthP_eq (l : List (Nat × Nat)) (i : Nat) : nthP l i = l[i]? := by
  induction l generalizing i with
  | nil => simp [nthP]
  | cons v l ih =>
    cases i with
    | zero => simp [nthP]
    | succ i => exact (ih i).trans (by simp)

/-- a struct's fields set one by one. -/
inductive FillR (L : List (Nat × Value)) (pl : List (Nat × Nat)) : List Value → List (Nat × Operand) → List Value → Prop
  | nil {cs : List Value} : FillR L pl cs [] cs
  | one {cs cs1 l : List Value} {i off : Nat} {x : Operand} {v : Value} {r : List (Nat × Operand)} (hx : ev L x = some v) (h1 : isOne v = true) (hp : nthP pl i = some (off, 1)) (hu : Upd cs off v cs1) (t : FillR L pl cs1 r l) : FillR L pl cs ((i, x) :: r) l
  | agg {cs cs1 l vs : List Value} {i off m : Nat} {x : Operand} {r : List (Nat × Operand)} (hx : ev L x = some (.agg vs.toArray)) (hp : nthP pl i = some (off, m)) (hl : Nat.beq vs.length m = true) (hm : Nat.blt 0 m = true) (hu : UpdA cs off vs cs1) (t : FillR L pl cs1 r l) : FillR L pl cs ((i, x) :: r) l

theorem fill_cons {place : Nat → Option (Nat × Nat)} {cells : Array Value} {i off size : Nat} {v : Value} {rest : List (Nat × Value)} {vs : List Value} (hp : place i = some (off, size)) (hc : v.cells = vs.toArray) (h1 : vs.length = size) (h2 : off + vs.length ≤ cells.size) :
    Instr.fill place cells ((i, v) :: rest) = Instr.fill place (setL cells.toList off vs).toArray rest := by
  have hf := fold_set off vs 0 cells
  have h3 : ¬ off + vs.length > cells.size := by omega
  simp only [Instr.fill, hp, hc, hf, Nat.add_zero]
  simp [h1] at h3 ⊢
  omega

theorem FillR.run {pl : List (Nat × Nat)} {cs l : List Value} {r : List (Nat × Operand)} (hs : Sl n a L) (h : FillR L pl cs r l) {place : Nat → Option (Nat × Nat)} (hp : ∀ i, place i = pl[i]?) :
    Instr.fill place cs.toArray (r.map fun p => (p.1, a.eval p.2)) = some l.toArray := by
  induction h with
  | nil => simp [Instr.fill]
  | @one cs cs1 l i off x v r hx h1 hp' hu _ ih =>
    obtain ⟨e1, e2⟩ := hu.eq
    rw [nthP_eq] at hp'
    rw [List.map_cons, hs.ev hx, fill_cons (vs := [v]) (off := off) (size := 1) (by rw [hp, hp']) (isOne_cells h1) rfl (by simp; omega)]
    rw [e1] at ih; exact ih
  | @agg cs cs1 l vs i off m x r hx hp' hl hm hu _ ih =>
    obtain ⟨e1, e2⟩ := hu.eq
    have e3 := Nat.eq_of_beq_eq_true hl
    have e4 : 0 < m := by simpa using hm
    rw [nthP_eq] at hp'
    have e5 : off + vs.length ≤ cs.length := by
      rcases e2 with rfl | e2
      · simp at e3; omega
      · exact e2
    rw [List.map_cons, hs.ev hx, fill_cons (vs := vs) (by rw [hp, hp']) rfl e3 (by simpa using e5)]
    rw [← e1]; exact ih

theorem places_list : ∀ (fs : List Field) (pl : List (Nat × Nat)) (w : World), (fs.mapM fun f => (szOf P f.type).map fun s => (f.offset, s)) = some pl →
    (fs.mapM fun f => do pure (f.offset, ← Go.sizeOf f.type) : Sem (List (Nat × Nat))).run P w = .ok pl w := by
  intro fs
  induction fs with
  | nil => intro pl w h; simp at h; subst h; rfl
  | cons f fs ih =>
    intro pl w h
    simp only [List.mapM_cons] at h
    cases hz : szOf P f.type with
    | none => simp [hz] at h
    | some m =>
      cases hr : (fs.mapM fun f => (szOf P f.type).map fun s => (f.offset, s)) with
      | none => simp [hz, hr] at h
      | some r =>
        simp [hz, hr] at h; subst h
        have ih' := ih r w hr
        rw [List.mapM_cons, Sem.run_bind]
        rw [show ((do pure (f.offset, ← Go.sizeOf f.type) : Sem (Nat × Nat))).run P w = .ok (f.offset, m) w by simp [sizeOf_run hz]]
        simp only [Result.andThen_ok, Sem.run_bind]
        rw [ih']; rfl

theorem places_run {t : TypeId} {pl : List (Nat × Nat)} (h : placesOf P t = some pl) (w : World) : ∃ fs : Array Field, P.underlying t = some (.struct fs) ∧
    (fs.mapM fun f => do pure (f.offset, ← Go.sizeOf f.type) : Sem (Array (Nat × Nat))).run P w = .ok pl.toArray w := by
  unfold placesOf at h
  cases hi : P.underlying t with
  | none => simp [hi] at h
  | some D =>
    cases D <;> simp [hi] at h
    rename_i fs
    refine ⟨fs, rfl, ?_⟩
    obtain ⟨fs⟩ := fs
    simp only at h
    rw [show (⟨fs⟩ : Array Field) = fs.toArray from rfl, List.mapM_toArray, Sem.run_map]
    rw [places_list fs pl w h]; rfl

theorem e_build {T : Nat} {zs l : List Value} {pl : List (Nat × Nat)} {r : List (Nat × Operand)} (hz : zeroOf P T = some zs) (hp : placesOf P T = some pl) (hf : FillR L pl zs r l) : Ex P n a L Γ ⟨dst, .build T r.toArray, ty, pos, af, g⟩ (.agg l.toArray) := fun hs w _ => by
  obtain ⟨z, hz1, hz2⟩ := zero_run hz w
  obtain ⟨fs, hu, hrun⟩ := places_run hp w
  have h := hf.run hs (place := fun i => pl.toArray[i]?) (fun i => by simp)
  have hb : (Instr.build T (r.toArray.map fun (i, x) => (i, a.eval x))).run P w = .ok (.agg l.toArray) w := by
    simp only [Instr.build, Sem.run_bind, hz1, Result.andThen_ok, hz2, underlying, run_program, hu, Sem.run_pure]
    rw [hrun]
    simp only [Result.andThen_ok]
    rw [show (r.toArray.map fun (i, x) => (i, a.eval x)).toList = r.map fun p => (p.1, a.eval p.2) by simp]
    rw [h]; rfl
  unfold execOp
  show ((do pure (.value (← Instr.build T (r.toArray.map fun (i, x) => (i, a.eval x)))) : Sem Next)).run P w = _
  rw [Sem.run_bind, hb]; rfl

/-- a slice's elements set one behind the other. -/
inductive PartsR (L : List (Nat × Value)) (m : Nat) : Nat → List (Nat × Operand) → List Value → Prop
  | nil {k : Nat} : PartsR L m k [] []
  | agg {k : Nat} {l vs : List Value} {x : Operand} {r : List (Nat × Operand)} (hx : ev L x = some (.agg l.toArray)) (hl : Nat.beq l.length m = true) (t : PartsR L m (k + 1) r vs) : PartsR L m k ((k, x) :: r) (l ++ vs)
  | one {k : Nat} {v : Value} {vs : List Value} {x : Operand} {r : List (Nat × Operand)} (hx : ev L x = some v) (h1 : isOne v = true) (hm : Nat.beq m 1 = true) (t : PartsR L m (k + 1) r vs) : PartsR L m k ((k, x) :: r) (v :: vs)

theorem PartsR.run {m k : Nat} {r : List (Nat × Operand)} {vs : List Value} (hs : Sl n a L) (h : PartsR L m k r vs) : ∀ (pre old : List Value), pre.length = k * m → old.length = r.length * m →
    Instr.fill (fun i => some (i * m, m)) (pre ++ old).toArray (r.map fun p => (p.1, a.eval p.2)) = some (pre ++ vs).toArray ∧ vs.length = r.length * m := by
  induction h with
  | nil => intro pre old h1 h2; have : old = [] := by simpa using h2
           subst this; simp [Instr.fill]
  | @agg k l vs x r hx hl _ ih =>
    intro pre old h1 h2
    have e1 := Nat.eq_of_beq_eq_true hl
    have h3 : old.length = m + r.length * m := by rw [h2, List.length_cons, Nat.add_mul, Nat.one_mul, Nat.add_comm]
    obtain ⟨o1, o2, rfl, ho⟩ : ∃ o1 o2, old = o1 ++ o2 ∧ o1.length = m := ⟨old.take m, old.drop m, by simp, by simp; omega⟩
    have hfull := setL_full l pre o1 (by omega)
    have hgen : ∀ (vs x y : List Value) (q : Nat), q + vs.length ≤ x.length → setL (x ++ y) q vs = setL x q vs ++ y := by
      intro vs
      induction vs with
      | nil => intro x y q _; rfl
      | cons v vs ih2 =>
        intro x y q hq
        simp only [setL]
        rw [List.set_append_left _ _ (by simp at hq; omega)]
        exact ih2 _ _ _ (by simp at hq ⊢; omega)
    obtain ⟨i1, i2⟩ := ih (pre ++ l) o2 (by simp [h1, e1, Nat.add_mul]) (by simp at h3; omega)
    refine ⟨?_, by simp [i2, e1, Nat.add_mul]; omega⟩
    rw [List.map_cons, hs.ev hx, fill_cons (vs := l) (off := k * m) (size := m) rfl rfl e1 (by simp; simp at h3; omega)]
    rw [← h1, ← List.append_assoc, hgen l (pre ++ o1) o2 pre.length (by simp; omega), hfull]
    simpa using i1
  | @one k v vs x r hx h1' hm _ ih =>
    intro pre old h1 h2
    have e1 : m = 1 := Nat.eq_of_beq_eq_true hm
    subst e1
    cases old with
    | nil => simp at h2
    | cons o old =>
      obtain ⟨i1, i2⟩ := ih (pre ++ [v]) old (by simp at h1 ⊢; omega) (by simp at h2 ⊢; omega)
      refine ⟨?_, by simp at i2 ⊢; omega⟩
      rw [List.map_cons, hs.ev hx, fill_cons (vs := [v]) (off := k * 1) (size := 1) rfl (isOne_cells h1') rfl (by simp at h1 ⊢; omega)]
      simp only [setL]
      have : k * 1 = pre.length := by omega
      rw [this, show (pre ++ o :: old).set pre.length v = (pre ++ [v]) ++ old by simp]
      simpa using i1

theorem s_bslice {T E m q : Nat} {zs vs : List Value} {r : List (Nat × Operand)} (hS : St n F0 w0 a w L Γ) (hT : sliceT P T = some E) (hs : szOf P E = some m) (hz : zeroOf P E = some zs) (hzl : Nat.beq zs.length m = true) (hm : Nat.blt 0 m = true) (hm2 : Nat.ble (q * m) 16777216 = true) (hq : Nat.beq r.length q = true) (hp : PartsR L m 0 r vs) (hn : Nat.blt d n.n = true)
    (h : ∀ a' w' b, St n F0 w0 a' w' ((d, .slice (some ⟨b, 0, none⟩) q q) :: L) (.blk b vs E :: Γ) → K a' w') : OW P ⟨some d, .buildSlice T q r.toArray, ty, pos, af, g⟩ a w K Q := by
  have e2 := Nat.eq_of_beq_eq_true hzl
  have e3 : 0 < m := by simpa using hm
  have e4 := Nat.le_of_ble_eq_true hm2
  have e5 := Nat.eq_of_beq_eq_true hq
  obtain ⟨z, hz1, hz2⟩ := zero_run hz w
  have hfill : ∀ cs : Array Value, cs.size = q * m → Instr.fill (fun i => some (i * m, m)) cs (r.map fun p => (p.1, a.eval p.2)) = some vs.toArray := fun cs hc => by
    have := (hp.run hS.sl [] cs.toList (by simp) (by simp [hc, e5])).1
    simpa using this
  have he : (execOp a.eval (⟨some d, .buildSlice T q r.toArray, ty, pos, af, g⟩ : Oper)).run P w = .ok (.value (.slice (some ⟨w.heap.size, 0, none⟩) q q)) (w.alloc (.cells vs.toArray E)) := by
    by_cases h0 : q * m = 0
    · simp [execOp, Instr.buildSlice, underlying, sliceT_eq hT, sizeOf_run hs, h0, newRow]
      rw [hfill _ (by simp [h0])]; rfl
    · have h5 : ¬ (16777216 < q * m) := by omega
      simp [execOp, Instr.buildSlice, underlying, sliceT_eq hT, sizeOf_run hs, h0, h5, newRow, hz1, hz2]
      rw [hfill _ (by simp)]; rfl
  refine ⟨?_⟩
  unfold Oper.wp
  rw [he]
  refine h _ _ w.heap.size ((hS.fresh (Chg.alloc _ _ _) (Y := .blk w.heap.size vs E) (ok_blk ?_) ?_).put hn _)
  · show (w.heap.push _)[w.heap.size]? = _
    simp
  · intro b hb; obtain rfl : b = w.heap.size := hb; exact Nat.le_refl _

/-! ### strings -/
end
end Go.Proofs.YtjmkjkhcognoeaaGreatDoor

namespace Go.Proofs.YtjmkjkhcognoeaaGreatDoor
open Go.RowKit

section
variable {P : Program} {n : NN} {F0 : Nat → Prop} {w0 : World} {a : Act} {w : World} {L : List (Nat × Value)} {Γ : List Asn}

/-- an entry of a walk that changes nothing old is of new blocks. -/
theorem St.new (h : St n noB w0 a w L Γ) {X : Asn} (hX : X ∈ Γ) (hm : X.mine = true) : X.ok w ∧ ∀ b, X.F b → w0.heap.size ≤ b :=
  ⟨h.ok X hX, fun b hb => (h.mine X hX hm b hb).resolve_right (fun hf => hf)⟩

theorem RowAt.keep {b off s : Nat} {xs : List (List Value)} {w w' : World} (h : RowAt b off s xs w) (hw : w'.heap[b]? = w.heap[b]?) : RowAt b off s xs w' := by
  intro i x hi j v hj
  rw [World.cell?_of_block (w := w) hw]; exact h i x hi j v hj
/-- a slice value that came in: none, or a row at a place. -/
def sliceV (p : Option (Nat × Nat)) (m c : Nat) : Value := .slice (p.map fun q => ⟨q.1, q.2, none⟩) m c
def RowP (p : Option (Nat × Nat)) (s : Nat) (xs : List (List Value)) (w : World) : Prop := match p with | none => xs = [] | some q => RowAt q.1 q.2 s xs w
def rowP (p : Option (Nat × Nat)) (s : Nat) (xs : List (List Value)) : Asn := .any (fun k => ∃ off, p = some (k, off)) (RowP p s xs) false
theorem ok_rowP {p : Option (Nat × Nat)} {s : Nat} {xs : List (List Value)} {w : World} (h : RowP p s xs w) (hb : ∀ q, p = some q → q.1 < w.heap.size) : (rowP p s xs).ok w := by
  refine ⟨fun k hk => ?_, fun w' hw => ?_⟩
  · obtain ⟨off, rfl⟩ := hk; exact hb _ rfl
  · show RowP p s xs w'
    cases p with
    | none => exact h
    | some q => exact RowAt.keep h (hw q.1 ⟨q.2, rfl⟩)
theorem rowP_some {p : Option (Nat × Nat)} {s : Nat} {xs : List (List Value)} {w : World} (h : RowP p s xs w) {i : Nat} {x : List Value} (hx : xs[i]? = some x) : ∃ b off, p = some (b, off) := by
  cases p with
  | none => simp only [RowP] at h; subst h; simp at hx
  | some q => exact ⟨q.1, q.2, rfl⟩

/-- cells of a row of structs laid end to end. -/
theorem flat_get {α : Type} (enc : α → List Value) (s : Nat) (hl : ∀ x, (enc x).length = s) : ∀ (xs : List α) (i : Nat) (x : α), xs[i]? = some x → ∀ j v, (enc x)[j]? = some v → (xs.flatMap enc)[i * s + j]? = some v := by
  intro xs
  induction xs with
  | nil => intro i x h; simp at h
  | cons y ys ih =>
    intro i x h j v hj
    cases i with
    | zero =>
      simp at h; subst h
      rw [List.flatMap_cons, Nat.zero_mul, Nat.zero_add, List.getElem?_append_left]
      · exact hj
      · exact (List.getElem?_eq_some_iff.1 hj).1
    | succ i =>
      simp at h
      rw [List.flatMap_cons, List.getElem?_append_right (by rw [hl, Nat.add_mul]; omega)]
      have := ih i x h j v hj
      rw [hl, show (i + 1) * s + j - s = i * s + j by rw [Nat.add_mul]; omega]
      exact this
theorem flat_len {α : Type} (enc : α → List Value) (s : Nat) (hl : ∀ x, (enc x).length = s) (xs : List α) : (xs.flatMap enc).length = xs.length * s := by
  induction xs with
  | nil => simp
  | cons y ys ih => rw [List.flatMap_cons, List.length_append, ih, hl, List.length_cons, Nat.add_mul]; omega

/-- a row of the walk's own, read. -/
theorem row_of_own {α : Type} {enc : α → List Value} {s : Nat} (hl : ∀ x, (enc x).length = s) {w : World} {b c E m : Nat} {xs : List α} (h : w.ownsRow 0 E s (.slice (some ⟨b, 0, none⟩) m c) m (xs.flatMap enc)) : RowAt b 0 s (xs.map enc) w := by
  intro i x hx j v hj
  rw [List.getElem?_map] at hx
  cases hy : xs[i]? with
  | none => simp [hy] at hx
  | some y =>
    simp [hy] at hx; subst hx
    have h1 := flat_get enc s hl xs i y hy j v hj
    have h2 := h.cells (g := b) rfl _ _ h1
    rw [addr_add] at h2
    rw [← h2]; congr 2; omega

/-- one entry is taken apart. -/
theorem St.split (h : St n F0 w0 a w L Γ) {X Y Z : Asn} {Γ' : List Asn} (hr : Rep Z Y Γ Γ') (hX : X.ok w) (hY : Y.ok w) (hXF : ∀ b, X.F b → Z.F b) (hYF : ∀ b, Y.F b → Z.F b) (hd : ∀ b, X.F b → ¬ Y.F b) (hm : Z.mine = true) : St n F0 w0 a w L (X :: Γ') := by
  have key : ∀ {Γ Γ' : List Asn}, Rep Z Y Γ Γ' → (∀ V ∈ Γ, V.ok w) → Γ.Pairwise (fun X Y => ∀ b, X.F b → ¬ Y.F b) → (∀ V ∈ Γ', V.ok w) ∧ Γ'.Pairwise (fun X Y => ∀ b, X.F b → ¬ Y.F b) ∧ ∀ V ∈ Γ', ∀ b, X.F b → ¬ V.F b := by
    intro Γ Γ' hr
    induction hr with
    | head =>
      intro hok hp
      have hp' := List.pairwise_cons.1 hp
      refine ⟨fun V hV => ?_, List.pairwise_cons.2 ⟨fun V hV b hb hb' => hp'.1 V hV b (hYF b hb) hb', hp'.2⟩, fun V hV b hb hb' => ?_⟩
      · rcases List.mem_cons.1 hV with rfl | hV
        · exact hY
        · exact hok V (.tail _ hV)
      · rcases List.mem_cons.1 hV with rfl | hV
        · exact hd b hb hb'
        · exact hp'.1 V hV b (hXF b hb) hb'
    | @tail U Γ Γ' hr ih =>
      intro hok hp
      have hp' := List.pairwise_cons.1 hp
      obtain ⟨h1, h2, h3⟩ := ih (fun V hV => hok V (.tail _ hV)) hp'.2
      refine ⟨fun V hV => ?_, List.pairwise_cons.2 ⟨fun V hV b hb hb' => ?_, h2⟩, fun V hV b hb hb' => ?_⟩
      · rcases List.mem_cons.1 hV with rfl | hV
        · exact hok _ (.head _)
        · exact h1 V hV
      · rcases hr.new V hV with rfl | hV
        · exact hp'.1 Z hr.mem b hb (hYF b hb')
        · exact hp'.1 V hV b hb hb'
      · rcases List.mem_cons.1 hV with rfl | hV
        · exact hp'.1 Z hr.mem b hb' (hXF b hb)
        · exact h3 V hV b hb hb'
  obtain ⟨h1, h2, h3⟩ := key hr h.ok h.dis
  refine ⟨h.sl, h.chg, fun V hV => ?_, List.pairwise_cons.2 ⟨h3, h2⟩, fun V hV hmV b hb => ?_⟩
  · rcases List.mem_cons.1 hV with rfl | hV
    · exact hX
    · exact h1 V hV
  · rcases List.mem_cons.1 hV with rfl | hV
    · exact h.mine Z hr.mem hm b (hXF b hb)
    · rcases hr.new V hV with rfl | hV
      · exact h.mine Z hr.mem hm b (hYF b hb)
      · exact h.mine V hV hmV b hb

end
end Go.Proofs.YtjmkjkhcognoeaaGreatDoor

namespace Go.Proofs.YtjmkjkhcognoeaaGreatDoor
open Go.RowKit
variable {P : Program} {n : NN} {F0 : Nat → Prop} {w0 w : World} {a : Act} {L : List (Nat × Value)} {Γ : List Asn} {dst : Option Nat}
variable {ty : Nat} {pos : String} {af : Array Edge} {g : Option (Nat × Bool)}

theorem sliceT_elem {T E : TypeId} (h : sliceT P T = some E) : P.underlying T = some (.slice (P.elem T)) ∧ P.elem T = E := by
  have h1 := sliceT_eq h
  have h2 : P.elem T = E := by simp [Program.elem, h1]
  exact ⟨by rw [h2]; exact h1, h2⟩

/-- an entry is read as another of the same blocks. -/
theorem St.swap (h : St n F0 w0 a w L Γ) {X Y : Asn} {Γ' : List Asn} (hr : Rep X Y Γ Γ') (hY : Y.ok w) (hF : ∀ b, Y.F b → X.F b) (hm : X.mine = true) : St n F0 w0 a w L Γ' :=
  h.upd hr (Chg.refl _ _) hY (fun b hb => .inl (hF b hb)) hm
/-! ### drawn regions in which several operations may come next -/
section
variable {Q : Exit → Act → World → Prop} {op : Op}
def ZOp (P : Program) (l : List Oper) (Γs : List Asn) (Z : List Nat) (fuel : Nat) (listed : List Bool) (Q : Exit → Act → World → Prop) (a : Act) (w : World) (i : Nat) : Prop :=
  wpOp P l.toArray Q i (fun a' w' => (Hd Γs w → i ∈ Z ∨ Hd Γs w') ∧ wpZ P l.toArray Q (Hd Γs) Z fuel (listed.toArray.setIfInBounds i true) a' w') a w
def ZAll (P : Program) (l : List Oper) (Γs : List Asn) (Z : List Nat) (fuel : Nat) (listed : List Bool) (Q : Exit → Act → World → Prop) (a : Act) (w : World) : List Nat → Prop
  | [] => True
  | i :: r => ZOp P l Γs Z fuel listed Q a w i ∧ ZAll P l Γs Z fuel listed Q a w r
theorem ZAll.mem {l : List Oper} {Γs : List Asn} {Z : List Nat} {fuel : Nat} {listed : List Bool} : ∀ {js : List Nat}, ZAll P l Γs Z fuel listed Q a w js → ∀ i ∈ js, ZOp P l Γs Z fuel listed Q a w i
  | _ :: _, h, i, hi => by
    rcases List.mem_cons.1 hi with rfl | hi
    · exact h.1
    · exact ZAll.mem h.2 i hi
end
end Go.Proofs.YtjmkjkhcognoeaaGreatDoor

namespace Go.Proofs.YtjmkjkhcognoeaaGreatDoor
open Go.RowKit
variable {n : NN} {F0 : Nat → Prop} {w0 w : World} {a : Act} {L : List (Nat × Value)} {Γ : List Asn}

inductive Rem (X : Asn) : List Asn → List Asn → Prop
  | head {Γ : List Asn} : Rem X (X :: Γ) Γ
  | tail {Y : Asn} {Γ Δ : List Asn} (h : Rem X Γ Δ) : Rem X (Y :: Γ) (Y :: Δ)
inductive Pick : List Asn → List Asn → Prop
  | nil {Γ : List Asn} : Pick Γ []
  | cons {X : Asn} {Γ Δ Γ' : List Asn} (h : Rem X Γ Δ) (h2 : Pick Δ Γ') : Pick Γ (X :: Γ')
theorem Rem.perm {X : Asn} {Γ Δ : List Asn} (h : Rem X Γ Δ) : List.Perm Γ (X :: Δ) := by
  induction h with
  | head => exact List.Perm.refl _
  | tail _ ih => exact (List.Perm.cons _ ih).trans (List.Perm.swap _ _ _)
theorem Pick.perm {Γ Γ' : List Asn} (h : Pick Γ Γ') : ∃ Δ, List.Perm Γ (Γ' ++ Δ) := by
  induction h with
  | nil => exact ⟨_, List.Perm.refl _⟩
  | cons h _ ih =>
    obtain ⟨Δ, hd⟩ := ih
    exact ⟨Δ, h.perm.trans (List.Perm.cons _ hd)⟩
/-- some of the entries, in whatever order. -/
theorem St.pick (h : St n F0 w0 a w L Γ) {Γ' : List Asn} (hp : Pick Γ Γ') : St n F0 w0 a w L Γ' := by
  obtain ⟨Δ, hd⟩ := hp.perm
  exact (h.perm hd.symm).drop (List.sublist_append_left _ _)
end Go.Proofs.YtjmkjkhcognoeaaGreatDoor

namespace Go.Proofs.YtjmkjkhcognoeaaGreatDoor
open Go.RowKit
variable {n : NN} {F0 : Nat → Prop} {w0 w : World} {a : Act} {L : List (Nat × Value)} {Γ : List Asn} {X Y : Asn}

theorem okN : ∀ X ∈ ([] : List Asn), X.ok w := fun _ h => by cases h
theorem okC (h : X.ok w) (t : ∀ Y ∈ Γ, Y.ok w) : ∀ Y ∈ X :: Γ, Y.ok w := fun Y hY => by
  rcases List.mem_cons.1 hY with rfl | hY
  · exact h
  · exact t Y hY
theorem mineN : ∀ X ∈ ([] : List Asn), X.mine = true → ∀ b, X.F b → w.heap.size ≤ b ∨ F0 b := fun _ h => by cases h
/-- an entry that is only read. -/
theorem mineC (h : X.mine = false) (t : ∀ Y ∈ Γ, Y.mine = true → ∀ b, Y.F b → w.heap.size ≤ b ∨ F0 b) : ∀ Y ∈ X :: Γ, Y.mine = true → ∀ b, Y.F b → w.heap.size ≤ b ∨ F0 b := fun Y hY hm b hb => by
  rcases List.mem_cons.1 hY with rfl | hY
  · rw [h] at hm; cases hm
  · exact t Y hY hm b hb
/-- an entry that may change. -/
theorem mineO (h : ∀ b, X.F b → F0 b) (t : ∀ Y ∈ Γ, Y.mine = true → ∀ b, Y.F b → w.heap.size ≤ b ∨ F0 b) : ∀ Y ∈ X :: Γ, Y.mine = true → ∀ b, Y.F b → w.heap.size ≤ b ∨ F0 b := fun Y hY hm b hb => by
  rcases List.mem_cons.1 hY with rfl | hY
  · exact .inr (h b hb)
  · exact t Y hY hm b hb
theorem disN : ([] : List Asn).Pairwise (fun X Y => ∀ b, X.F b → ¬ Y.F b) := .nil
theorem dis1 : [X].Pairwise (fun X Y => ∀ b, X.F b → ¬ Y.F b) := List.pairwise_singleton _ _
theorem disC (h : ∀ Y ∈ Γ, ∀ b, X.F b → ¬ Y.F b) (t : Γ.Pairwise (fun X Y => ∀ b, X.F b → ¬ Y.F b)) : (X :: Γ).Pairwise (fun X Y => ∀ b, X.F b → ¬ Y.F b) := List.pairwise_cons.2 ⟨h, t⟩
theorem sepN : ∀ Y ∈ ([] : List Asn), ∀ b, X.F b → ¬ Y.F b := fun _ h => by cases h
theorem sepC (h : ∀ b, X.F b → ¬ Y.F b) (t : ∀ Z ∈ Γ, ∀ b, X.F b → ¬ Z.F b) : ∀ Z ∈ Y :: Γ, ∀ b, X.F b → ¬ Z.F b := fun Z hZ => by
  rcases List.mem_cons.1 hZ with rfl | hZ
  · exact h
  · exact t Z hZ
/-- two entries of a state have no block in common. -/
theorem St.sep (h : St n F0 w0 a w L Γ) {Γ' : List Asn} (hr : Rem X Γ Γ') (hm : Y ∈ Γ') : ∀ b, X.F b → ¬ Y.F b := by
  have hp := hr.perm
  have h2 := (h.perm hp.symm).dis
  exact (List.pairwise_cons.1 h2).1 Y hm

/-! ### two ways that meet again -/
theorem lk_append {E L : List (Nat × Value)} {t : Nat} (h : ∀ q ∈ E, q.1 ≠ t) : lk (E ++ L) t = lk L t := by
  induction E with
  | nil => rfl
  | cons q E ih =>
    obtain ⟨s, u⟩ := q
    have h1 : Nat.beq s t = false := nbeq_no (h _ (.head _))
    show (bif Nat.beq s t then some u else lk (E ++ L) t) = _
    rw [h1]
    exact ih (fun q hq => h q (.tail _ hq))
/-- no slot of the first list, but for the one of the guard, is one of the second. -/
def freshX (g : Nat) (E L : List (Nat × Value)) : Bool := E.all fun q => Nat.beq q.1 g || L.all fun p => !Nat.beq q.1 p.1
theorem lk_mem {L : List (Nat × Value)} {t : Nat} {v : Value} (h : lk L t = some v) : ∃ p ∈ L, p.1 = t := by
  induction L with
  | nil => cases h
  | cons q L ih =>
    obtain ⟨s, u⟩ := q
    by_cases e : s = t
    · exact ⟨_, .head _, e⟩
    · have h1 : Nat.beq s t = false := nbeq_no e
      have h2 : lk L t = some v := by
        have h3 : (bif Nat.beq s t then some u else lk L t) = some v := h
        rw [h1] at h3; exact h3
      obtain ⟨p, hp, e2⟩ := ih h2
      exact ⟨p, .tail _ hp, e2⟩
theorem St.ends {L' : List (Nat × Value)} (hS : St n F0 w0 a w L' Γ) (m t g : Nat) {u v x y : Value} (h : lk L' t = some u) (he : u = v) (hg : lk L' g = some x) (hg2 : lk (L'.drop m) g = some y) (hxy : x = y) (hk : freshX g (L'.take m) (L'.drop m) = true) :
    St n F0 w0 a w ((t, v) :: L'.drop m) Γ := by
  refine hS.act ⟨hS.sl.size, hS.sl.defers, fun s z hz => ?_⟩
  have hz : (bif Nat.beq t s then some v else lk (L'.drop m) s) = some z := hz
  by_cases e : t = s
  · subst e
    have h1 : Nat.beq t t = true := by simp
    rw [h1] at hz; cases hz
    rw [← he]; exact hS.sl.get _ _ h
  · rw [nbeq_no e] at hz
    have hz : lk (L'.drop m) s = some z := hz
    by_cases e2 : g = s
    · subst e2
      rw [hg2] at hz; cases hz
      rw [← hxy]; exact hS.sl.get _ _ hg
    · refine hS.sl.get _ _ ?_
      obtain ⟨p, hp, e3⟩ := lk_mem hz
      rw [← List.take_append_drop m L', lk_append, hz]
      intro q hq e4
      have h1 := List.all_eq_true.1 hk q hq
      have h2 : Nat.beq q.1 g = false := nbeq_no (by rw [e4]; exact fun e5 => e2 e5.symm)
      rw [h2, Bool.false_or] at h1
      have h3 := List.all_eq_true.1 h1 p hp
      rw [e4, e3] at h3
      have h4 : Nat.beq s s = true := by simp
      rw [h4] at h3; cases h3
theorem L_merge {P : Program} {Q : Exit → Act → World → Prop} {ops : Array Oper} {l : List Oper} (m t : Nat) (v : Value) (_hS : St n F0 w0 a w L Γ) (hseg : (∀ a w, St n F0 w0 a w ((t, v) :: L) Γ → wpList P ops Q (l.drop m) a w) → wpList P ops Q l a w) (hcont : ∀ a w, St n F0 w0 a w ((t, v) :: L) Γ → wpList P ops Q (l.drop m) a w) : wpList P ops Q l a w := hseg hcont
theorem Z_merge {P : Program} {Q : Exit → Act → World → Prop} {ops : Array Oper} {S : World → Prop} {Z : List Nat} {fuel : Nat} {listed : Array Bool} (fuel' : Nat) (listed' : List Bool) (t : Nat) (v : Value) (_hS : St n F0 w0 a w L Γ) (hseg : (∀ a w, St n F0 w0 a w ((t, v) :: L) Γ → wpZ P ops Q S Z fuel' listed'.toArray a w) → wpZ P ops Q S Z fuel listed a w) (hcont : ∀ a w, St n F0 w0 a w ((t, v) :: L) Γ → wpZ P ops Q S Z fuel' listed'.toArray a w) : wpZ P ops Q S Z fuel listed a w := hseg hcont
end Go.Proofs.YtjmkjkhcognoeaaGreatDoor

namespace Go.Proofs.YtjmkjkhcognoeaaGreatDoor
open Go.RowKit

/-- a map's entries, in the order in which they came. -/
def mkM : Nat → List (ByteArray × Value) → List MapEntry
  | _, [] => []
  | j, (k, v) :: r => ⟨.string k, v, j⟩ :: mkM (j + 1) r
def smapA (b : Nat) (l : List (ByteArray × Value)) : Asn := .mp b (mkM 0 l) l.length
def zvOf (P : Program) (t : TypeId) : Option Value := (P.info? t).bind (·.zero)
section
variable {P : Program} {n : NN} {F0 : Nat → Prop} {w0 : World} {a : Act} {w : World} {L : List (Nat × Value)} {Γ : List Asn}
variable {K : Act → World → Prop} {Q : Exit → Act → World → Prop} {d ty : Nat} {dst : Option Tmp} {pos : String} {af : Array Edge} {g : Option (Nat × Bool)}
theorem zv_run {t : TypeId} {z : Value} (h : zvOf P t = some z) (w : World) : (zeroValue t).run P w = .ok z w := by
  unfold zvOf at h
  cases hi : P.info? t with
  | none => simp [hi] at h
  | some i => simp [hi] at h; simp [zeroValue, typeInfo, hi, h]
theorem s_makeMapS {T : TypeId} (hS : St n F0 w0 a w L Γ) (hn : Nat.blt d n.n = true)
    (h : ∀ a' w' b, St n F0 w0 a' w' ((d, .map (some b)) :: L) (smapA b [] :: Γ) → K a' w') : OW P ⟨some d, .makeMap T none, ty, pos, af, g⟩ a w K Q :=
  s_makeMap hS hn h
end
end Go.Proofs.YtjmkjkhcognoeaaGreatDoor

namespace Go.Proofs.YtjmkjkhcognoeaaGreatDoor
open Go.RowKit

/-- a range's own place: what it has seen. -/
def itA (it m : Nat) (seen : List Nat) (n : Nat) : Asn := .any (fun k => k = it) (fun w => w.heap[it]? = some (.mapIter (some m) n seen.toArray n)) true
theorem it_ok {it m n : Nat} {seen : List Nat} {w : World} (h : w.heap[it]? = some (.mapIter (some m) n seen.toArray n)) : (itA it m seen n).ok w :=
  ⟨fun k hk => by obtain rfl : k = it := hk; exact (Array.getElem?_eq_some_iff.1 h).1, fun w' hw => by show w'.heap[it]? = _; rw [hw it rfl]; exact h⟩
section
variable {P : Program} {n : NN} {F0 : Nat → Prop} {w0 : World} {a : Act} {w : World} {L : List (Nat × Value)} {Γ : List Asn}
variable {K : Act → World → Prop} {Q : Exit → Act → World → Prop} {d ty : Nat} {dst : Option Tmp} {pos : String} {af : Array Edge} {g : Option (Nat × Bool)}
end

section
variable {P : Program} {n : NN} {F0 : Nat → Prop} {w0 : World} {a : Act} {w : World} {L : List (Nat × Value)} {Γ : List Asn}
variable {K : Act → World → Prop} {Q : Exit → Act → World → Prop} {d ty : Nat} {pos : String} {af : Array Edge} {g : Option (Nat × Bool)}
end
end Go.Proofs.YtjmkjkhcognoeaaGreatDoor

namespace Go.Proofs.YtjmkjkhcognoeaaGreatDoor
open Go.RowKit

/-! ### deferred calls -/
/-- a deferred call's contract, entered where the caller returns. -/
def MutD (P : Program) (f : FuncId) (args : List Value) (w : World) (X Y : Asn) : Prop :=
  CallsD P f args.toArray .returning w fun e u' w' => u' = .returning ∧ (∃ v, e = .returned v) ∧ Chg X.F w w' ∧ Y.ok w' ∧ ∀ b, Y.F b → X.F b ∨ w.heap.size ≤ b

section
variable {P : Program} {n : NN} {F0 : Nat → Prop} {w0 : World} {a : Act} {w : World} {L : List (Nat × Value)} {Γ : List Asn}
variable {K : Act → World → Prop} {Q : Exit → Act → World → Prop} {d ty : Nat} {dst : Option Tmp} {pos : String} {af : Array Edge} {g : Option (Nat × Bool)}
/-- how a function that defers is left: never by a panic of its own. -/
def bodyPostX (P : Program) (fn : Func) (R : Ending → World → Prop) : Exit → Act → World → Prop
  | .normal, a, w => Leaves P fn a.tmps R a.defers .returning w
  | .ret, a, w => Leaves P fn a.tmps R a.defers .returning w
  | .panic _, _, _ => False
  | .exit _, _, _ => False
  | .goto _, _, _ => False
  | .outgrown, _, _ => False
theorem c_enterD {f : FuncId} {fn : Func} {c : Code} {args : List Value} {R : Ending → World → Prop} {m : Nat} (L : List (Nat × Value)) (Γ : List Asn) (F0 : Nat → Prop) (hf : P.funcs[f]? = some fn) (hb : fn.body = some c) (hm : fn.ntmps = m)
    (hA : SubA args L) (hn : Nat.ble args.length m = true) (ok : ∀ X ∈ Γ, X.ok w) (dis : Γ.Pairwise (fun X Y => ∀ b, X.F b → ¬ Y.F b)) (mine : ∀ X ∈ Γ, X.mine = true → ∀ b, X.F b → w.heap.size ≤ b ∨ F0 b)
    (h : ∀ a, St ⟨m, []⟩ F0 w a w L Γ → c.wp P (bodyPostX P fn R) a w) : Calls P f args.toArray w R := by
  refine calls_of_wp_defers hf hb (Go.wp_mono (h _ ⟨?_, Chg.refl _ _, ok, dis, mine⟩) fun e a w hq => by cases e <;> first | exact hq | exact hq.elim)
  have hle : args.length ≤ m := Nat.le_of_ble_eq_true hn
  have := Sl.start (l := args) (L := L) (n := m) (m := m - args.length) hA (by omega)
  simpa [hm] using this
theorem St.moreD (hS : St n F0 w0 a w L Γ) (D : Deferred) : St ⟨n.n, D :: n.D⟩ F0 w0 { a with defers := D :: a.defers } w L Γ :=
  ⟨⟨hS.sl.size, by show _ :: a.defers = _; rw [hS.sl.defers], fun t v h => hS.sl.get t v h⟩, hS.chg, hS.ok, hS.dis, hS.mine⟩
/-- a call is laid by. -/
theorem s_defer {f : FuncId} {xs : List Operand} {vs : List Value} {ts : Array TypeId} (hS : St n F0 w0 a w L Γ) (hx : Evs L xs vs)
    (h : ∀ a', St ⟨n.n, ⟨.fn (.func f) #[], vs.toArray⟩ :: n.D⟩ F0 w0 a' w L Γ → K a' w) : OW P ⟨none, .defer ⟨.value (.func f), xs.toArray, ts⟩, ty, pos, af, g⟩ a w K Q := by
  refine ⟨?_⟩
  unfold Oper.wp
  have h1 := hS.sl.evs hx
  have he : (execOp a.eval (⟨none, .defer ⟨.value (.func f), xs.toArray, ts⟩, ty, pos, af, g⟩ : Oper)).run P w = .ok (.defer ⟨.fn (.func f) #[], vs.toArray⟩) w := by
    have hr : (resolve a.eval ⟨.value (.func f), xs.toArray, ts⟩ ty).run P w = .ok ⟨.fn (.func f) #[], #[] ++ vs.toArray⟩ w := by
      have ef : a.eval (.func f) = .func (.func f) #[] #[] := rfl
      simp only [resolve, ef, h1, Deferred.ofValue]; rfl
    show ((resolve a.eval ⟨.value (.func f), xs.toArray, ts⟩ ty) >>= fun d => pure (Next.defer d)).run P w = _
    rw [Sem.run_bind, hr]
    simp
  rw [he]
  exact h _ (hS.moreD _)
theorem d_open {fn : Func} {R : Ending → World → Prop} (hS : St n F0 w0 a w L Γ) (h : Leaves P fn a.tmps R n.D .returning w) : bodyPostX P fn R .ret a w := by
  show Leaves P fn a.tmps R a.defers .returning w
  rw [hS.sl.defers]; exact h
theorem d_norm {fn : Func} {R : Ending → World → Prop} (h : bodyPostX P fn R .ret a w) : bodyPostX P fn R .normal a w := h
theorem d_call {fn : Func} {R : Ending → World → Prop} {f : FuncId} {args : List Value} {ds : List Deferred} {X Y : Asn} {Γ' : List Asn} (hS : St n F0 w0 a w L Γ) (hf : CallsTo P f) (hc : MutD P f args w X Y) (hr : Rep X Y Γ Γ') (hm : X.mine = true)
    (h : ∀ w', St n F0 w0 a w' L Γ' → Leaves P fn a.tmps R ds .returning w') : Leaves P fn a.tmps R (⟨.fn (.func f) #[], args.toArray⟩ :: ds) .returning w := by
  refine ⟨by simp, .func f, #[], f, args.toArray, rfl, ?_, ?_⟩
  · have := hf (args.toArray ++ #[]) w
    simpa [invoke] using this
  · refine hc.mono fun e u' w' hR => ?_
    obtain ⟨rfl, ⟨v, rfl⟩, hch, hY, hF⟩ := hR
    exact h _ (hS.upd hr hch hY hF hm)
theorem d_ret1 {fn : Func} {R : Ending → World → Prop} {r : ResultVar} {v : Value} (hS : St n F0 w0 a w L Γ) (hr : fn.results = #[r]) (hv : Res1 P L Γ r v) (h : R (.returned v) w) : Leaves P fn a.tmps R [] .returning w := by
  refine ⟨v, ?_, h⟩
  have := ResL.run hS (.cons hv .nil)
  show (results fn a.tmps).run P w = _
  rw [results_rvS, hr, show (#[r] : Array ResultVar) = [r].toArray from rfl, List.mapM_toArray, Sem.run_bind, Sem.run_map, this]
  rfl
theorem d_retN {fn : Func} {R : Ending → World → Prop} {rs : List ResultVar} {vs : List Value} (hS : St n F0 w0 a w L Γ) (hr : fn.results = rs.toArray) (hv : ResL P L Γ rs vs) (hne : Nat.beq vs.length 1 = false) (h : R (.returned (.tuple vs.toArray)) w) : Leaves P fn a.tmps R [] .returning w := by
  refine ⟨_, ?_, h⟩
  have h1 := ResL.run hS hv
  have h2 : ¬ vs.toArray.size = 1 := by simpa using nbeq_ne hne
  show (results fn a.tmps).run P w = _
  rw [results_rvS, hr, List.mapM_toArray, Sem.run_bind, Sem.run_map, h1]
  simp only [Result.andThen_ok, h2, dite_false]
  rfl

/-! ### locks -/
theorem one_cell {b k E : Nat} {cs cs' : List Value} {v : Value} {w w' : World} (hb : (Asn.blk b cs E).φ w) (hu : Upd cs k v cs') (hw : w' = w.setCell ⟨b, k, none⟩ v) : Chg (Asn.blk b cs E).F w w' ∧ (Asn.blk b cs' E).ok w' ∧ ∀ c, (Asn.blk b cs' E).F c → (Asn.blk b cs E).F c ∨ w.heap.size ≤ c := by
  obtain ⟨rfl, hk⟩ := hu.eq
  subst hw
  exact ⟨Chg.setCell w ⟨b, k, none⟩ v, ok_blk (setCell_of_blk hb v), fun c hc => .inl hc⟩
theorem lock_M {Lk : Go.Conc.Locks.MuLink} (H : Go.Conc.Locks.MuLib P Lk) {b k E : Nat} {cs cs' : List Value} {w : World} (hb : (Asn.blk b cs E).φ w) (hv : nth cs k = some (.int .i32 0)) (hu : Upd cs k (.int .i32 1) cs') :
    MutC P Lk.lock [.pointer (some ⟨b, k, none⟩)] w (.blk b cs E) (fun _ : Unit => .tuple [].toArray) (fun _ => .blk b cs' E) := by
  rw [nth_eq] at hv
  exact (Go.MuLone.lock_free H ⟨b, k, none⟩ w (cell_of_blk hb hv) (frozen_of_blk hb)).mono fun e w' ⟨he, hw⟩ => ⟨(), he, one_cell hb hu hw⟩
theorem unlock_D {Lk : Go.Conc.Locks.MuLink} (H : Go.Conc.Locks.MuLib P Lk) {b k E : Nat} {cs cs' : List Value} {w : World} (hb : (Asn.blk b cs E).φ w) (hv : nth cs k = some (.int .i32 1)) (hu : Upd cs k (.int .i32 0) cs') :
    MutD P Lk.unlock [.pointer (some ⟨b, k, none⟩)] w (.blk b cs E) (.blk b cs' E) := by
  rw [nth_eq] at hv
  exact (Go.MuLone.unlock_deferred H ⟨b, k, none⟩ .returning w (cell_of_blk hb hv) (frozen_of_blk hb)).mono fun e u' w' ⟨hu', he, hw⟩ => ⟨hu', ⟨_, he⟩, one_cell hb hu hw⟩

/-! ### channels -/
def chA (b : Nat) (closed : Bool) : Asn := .any (fun k => k = b) (fun w => w.heap[b]? = some (.chan 0 #[] closed 0 0 false)) true
theorem ch_ok {b : Nat} {c : Bool} {w : World} (h : w.heap[b]? = some (.chan 0 #[] c 0 0 false)) : (chA b c).ok w :=
  ⟨fun k hk => by obtain rfl : k = b := hk; exact (Array.getElem?_eq_some_iff.1 h).1, fun w' hw => by show w'.heap[b]? = _; rw [hw b rfl]; exact h⟩
def chanT (P : Program) (T : TypeId) : Option TypeId := match P.underlying T with | some (.chan _ e) => some e | _ => none
theorem s_makeChan {T E y : Nat} (hS : St n F0 w0 a w L Γ) (hT : chanT P T = some E) (hb : byOf P E = some y) (hn : Nat.blt d n.n = true)
    (h : ∀ a' w' b, St n F0 w0 a' w' ((d, .chan (some b)) :: L) (chA b false :: Γ) → K a' w') : OW P ⟨some d, .makeChan T (.const (.int .i64 0)), ty, pos, af, g⟩ a w K Q := by
  have hu : ∃ dr, P.underlying T = some (.chan dr E) := by
    unfold chanT at hT; cases hi : P.underlying T with
    | none => simp [hi] at hT
    | some D => cases D <;> simp_all
  obtain ⟨dr, hu⟩ := hu
  have hi : ∃ i, P.info? E = some i := by
    unfold byOf at hb; cases hi : P.info? E with
    | none => simp [hi] at hb
    | some i => exact ⟨i, rfl⟩
  obtain ⟨i, hi⟩ := hi
  have he : (execOp a.eval (⟨some d, .makeChan T (.const (.int .i64 0)), ty, pos, af, g⟩ : Oper)).run P w = .ok (.value (.chan (some w.heap.size))) (w.alloc (.chan 0 #[] false 0 0 false)) := by
    have e0 : a.eval (.const (.int .i64 0)) = .int .i64 0 := rfl
    have hmax : IntKind.i64.max = 9223372036854775807 := rfl
    simp [execOp, e0, Instr.makeChan, underlying, hu, typeInfo_run hi, hmax, asInt, asIntOf]
  refine ⟨?_⟩
  unfold Oper.wp
  rw [he]
  refine h _ _ w.heap.size ((hS.fresh (Chg.alloc _ _ _) (Y := chA w.heap.size false) (ch_ok (Go.World.alloc_heap_new w _)) ?_).put hn _)
  intro b hb2
  have : b = w.heap.size := hb2
  omega
theorem s_close {x : Operand} {b : Nat} {ts : Array TypeId} {Γ' : List Asn} (hS : St n F0 w0 a w L Γ) (hx : ev L x = some (.chan (some b))) (hr : Rep (chA b false) (chA b true) Γ Γ')
    (h : ∀ w', St n F0 w0 a w' L Γ' → K a w') : OW P ⟨none, .call ⟨.builtin .close, #[x], ts⟩, ty, pos, af, g⟩ a w K Q := by
  have hb : w.heap[b]? = some (.chan 0 #[] false 0 0 false) := hS.get hr.mem
  have hlt := (Array.getElem?_eq_some_iff.1 hb).1
  have he : (execOp a.eval (⟨none, .call ⟨.builtin .close, #[x], ts⟩, ty, pos, af, g⟩ : Oper)).run P w = .ok (.value (.tuple #[])) { w with heap := w.heap.setIfInBounds b (.chan 0 #[] true 0 0 false) } := by
    have hc : (Builtin.close_ ts ty #[.chan (some b)]).run P w = .ok (.tuple #[]) { w with heap := w.heap.setIfInBounds b (.chan 0 #[] true 0 0 false) } := by
      show ((getObj b) >>= fun o => _).run P w = _
      rw [Sem.run_bind]
      have hg : (getObj b).run P w = .ok (.chan 0 #[] false 0 0 false) w := by simp [getObj, Sem.run, hb]
      rw [hg]
      simp [setObj, Sem.run, hb]
    simp [execOp, resolve, invoke, builtin, hS.sl.ev hx, hc]
  refine ⟨?_⟩
  unfold Oper.wp
  rw [he]
  refine h _ (hS.upd hr ⟨rfl, rfl, rfl, by simp, fun q hq hne => ?_⟩ (ch_ok ?_) (fun q hq => .inl hq) rfl)
  · have : b ≠ q := fun e => hne e.symm
    simp [Array.getElem?_setIfInBounds_ne this]
  · simp [hlt]
end

/-! ### maps with ints as keys -/
structure IE where
  k : Int
  v : Value
  b : Nat
def mkI (l : List IE) : List MapEntry := l.map fun e => ⟨.int .i64 e.k, e.v, e.b⟩
structure goodI (l : List IE) (c : Nat) : Prop where
  lt : ∀ e ∈ l, e.b < c
  nd : (l.map (·.b)).Nodup
  keys : (l.map (·.k)).Nodup
def fI : List IE → Int → Nat → Option (Nat × Value)
  | [], _, _ => none
  | e :: l, k, j => if k = e.k then some (j, e.v) else fI l k (j + 1)
theorem find_I (l : List IE) (k : Int) : ∀ j, Instr.findNow (.int .i64) (.int .i64 k) (mkI l) j = some (fI l k j) := by
  induction l with
  | nil => intro j; rfl
  | cons e l ih =>
    intro j
    show (match Instr.sameNow (.int .i64) (.int .i64 k) (.int .i64 e.k) with | some true => _ | some false => _ | none => _) = _
    unfold Instr.sameNow fI
    by_cases h : k = e.k
    · simp [h]
    · have : (k == e.k) = false := by simpa using h
      simp only [if_true, this, h, if_false]; exact ih (j + 1)
theorem fI_none {l : List IE} {k : Int} (h : ∀ e ∈ l, e.k ≠ k) : ∀ j, fI l k j = none := by
  induction l with
  | nil => intro j; rfl
  | cons e l ih => intro j; unfold fI; rw [if_neg (fun hh => h e (by simp) hh.symm)]; exact ih (fun x hx => h x (by simp [hx])) _
theorem fI_some {l : List IE} {k : Int} {i : Nat} {v : Value} : ∀ {j : Nat}, fI l k j = some (i, v) → j ≤ i ∧ ∃ e, l[i - j]? = some e ∧ e.k = k ∧ e.v = v := by
  induction l with
  | nil => intro j h; cases h
  | cons e l ih =>
    intro j h
    unfold fI at h
    by_cases hk : k = e.k
    · rw [if_pos hk] at h; cases h; exact ⟨Nat.le_refl _, e, by simp, hk.symm, rfl⟩
    · rw [if_neg hk] at h
      obtain ⟨h1, x, h2, h3, h4⟩ := ih h
      refine ⟨by omega, x, ?_, h3, h4⟩
      rw [show i - j = (i - (j + 1)) + 1 by omega]; simpa using h2
theorem fI_has {l : List IE} {k : Int} : ∀ {j : Nat}, fI l k j = none → ∀ e ∈ l, e.k ≠ k := by
  induction l with
  | nil => intro j _ e he; cases he
  | cons x l ih =>
    intro j h e he
    unfold fI at h
    by_cases hk : k = x.k
    · rw [if_pos hk] at h; cases h
    · rw [if_neg hk] at h
      rcases List.mem_cons.1 he with rfl | he
      · exact fun hh => hk hh.symm
      · exact ih h e he
theorem mkI_erase (l : List IE) : ∀ i, (mkI l).eraseIdx i = mkI (l.eraseIdx i) := by
  induction l with
  | nil => intro i; rfl
  | cons e l ih =>
    intro i
    cases i with
    | zero => rfl
    | succ i => show _ :: (mkI l).eraseIdx i = _ :: mkI (l.eraseIdx i); rw [ih]
theorem erase_I {l : List IE} {k : Int} {i : Nat} {v : Value} (hk : (l.map (·.k)).Nodup) : ∀ {j : Nat}, fI l k j = some (i, v) → l.eraseIdx (i - j) = l.filter (fun e => decide (e.k ≠ k)) := by
  induction l with
  | nil => intro j h; cases h
  | cons e l ih =>
    intro j h
    have hk2 := List.nodup_cons.1 (by simpa using hk : (e.k :: l.map (·.k)).Nodup)
    unfold fI at h
    by_cases he : k = e.k
    · rw [if_pos he] at h; cases h
      rw [Nat.sub_self, List.eraseIdx_cons_zero, List.filter_cons_of_neg (by simp [he])]
      symm; rw [List.filter_eq_self]
      intro x hx
      have : e.k ≠ x.k := fun hh => hk2.1 (hh ▸ List.mem_map.2 ⟨x, hx, rfl⟩)
      simp only [ne_eq, decide_not, Bool.not_eq_true', decide_eq_false_iff_not]
      intro hh; exact this (by rw [hh, he])
    · rw [if_neg he] at h
      have h1 := (fI_some h).1
      rw [show i - j = (i - (j + 1)) + 1 by omega, List.eraseIdx_cons_succ, ih hk2.2 h, List.filter_cons_of_pos (by simp; exact fun hh => he hh.symm)]

section
variable {P : Program} {n : NN} {F0 : Nat → Prop} {w0 : World} {a : Act} {w : World} {L : List (Nat × Value)} {Γ : List Asn}
variable {K : Act → World → Prop} {Q : Exit → Act → World → Prop} {d ty : Nat} {dst : Option Tmp} {pos : String} {af : Array Edge} {g : Option (Nat × Bool)}
theorem e_lookupI {T Kt Et b c : Nat} {x y : Operand} {k : Int} {l : List IE} {z : Value} (hx : ev L x = some (.map (some b))) (hy : ev L y = some (.int .i64 k))
    (hT : mapT P T = some (Kt, Et)) (hD : P.underlying Kt = some (.int .i64)) (hz : zvOf P Et = some z) (hm : ∀ w, Hd Γ w → w.heap[b]? = some (.map (mkI l).toArray c)) : Ex P n a L Γ ⟨dst, .lookup T x y true, ty, pos, af, g⟩ (match fI l k 0 with | some p => .tuple [p.2, .bool true].toArray | none => .tuple [z, .bool false].toArray) := fun hs w hh => by
  have hb := hm w hh
  have hck := checkKey_plain (P := P) (w := w) hD rfl ((mkI l).isEmpty) 9999 (.int .i64 k)
  have hf := find_I l k 0
  simp only [execOp, hs.ev hx, hs.ev hy, Instr.lookup, Sem.run_bind, underlying, run_program, Result.andThen_ok, mapT_eq hT, Sem.run_pure]
  cases hi : fI l k 0 with
  | none => rw [hi] at hf; simp [getObj, Sem.run, hb, hck, Instr.findKey, underlying, hD, hf, zv_run hz]
  | some p => obtain ⟨i, v⟩ := p; rw [hi] at hf; simp [getObj, Sem.run, hb, hck, Instr.findKey, underlying, hD, hf]
theorem e_lookupIn {T Kt Et b c : Nat} {x y : Operand} {k : Int} {l : List IE} {z : Value} (hx : ev L x = some (.map (some b))) (hy : ev L y = some (.int .i64 k))
    (hT : mapT P T = some (Kt, Et)) (hD : P.underlying Kt = some (.int .i64)) (hz : zvOf P Et = some z) (hm : ∀ w, Hd Γ w → w.heap[b]? = some (.map (mkI l).toArray c)) (hf : fI l k 0 = none) : Ex P n a L Γ ⟨dst, .lookup T x y true, ty, pos, af, g⟩ (.tuple [z, .bool false].toArray) := by
  have h := e_lookupI (P := P) (n := n) (a := a) (Γ := Γ) (dst := dst) (ty := ty) (pos := pos) (af := af) (g := g) hx hy hT hD hz hm
  rw [hf] at h; exact h
theorem e_lookupIy {T Kt Et b c i : Nat} {x y : Operand} {k : Int} {l : List IE} {v : Value} (hx : ev L x = some (.map (some b))) (hy : ev L y = some (.int .i64 k))
    (hT : mapT P T = some (Kt, Et)) (hD : P.underlying Kt = some (.int .i64)) (hm : ∀ w, Hd Γ w → w.heap[b]? = some (.map (mkI l).toArray c)) (hf : fI l k 0 = some (i, v)) : Ex P n a L Γ ⟨dst, .lookup T x y true, ty, pos, af, g⟩ (.tuple [v, .bool true].toArray) := fun hs w hh => by
  have hb := hm w hh
  have hck := checkKey_plain (P := P) (w := w) hD rfl ((mkI l).isEmpty) 9999 (.int .i64 k)
  have hf2 := find_I l k 0
  rw [hf] at hf2
  simp only [execOp, hs.ev hx, hs.ev hy, Instr.lookup, Sem.run_bind, underlying, run_program, Result.andThen_ok, mapT_eq hT, Sem.run_pure]
  simp [getObj, Sem.run, hb, hck, Instr.findKey, underlying, hD, hf2]
/-- a new key. -/
theorem s_mapUpI {T Kt Et b c : Nat} {x y z : Operand} {k : Int} {v : Value} {l : List IE} {Γ' : List Asn} (hS : St n F0 w0 a w L Γ) (hx : ev L x = some (.map (some b))) (hy : ev L y = some (.int .i64 k)) (hz : ev L z = some v)
    (hT : mapT P T = some (Kt, Et)) (hD : P.underlying Kt = some (.int .i64)) (hnew : fI l k 0 = none) (hr : Rep (.mp b (mkI l) c) (.mp b (mkI (l ++ [⟨k, v, c⟩])) (c + 1)) Γ Γ')
    (h : ∀ w', St n F0 w0 a w' L Γ' → K a w') : OW P ⟨none, .mapUpdate T x y z, ty, pos, af, g⟩ a w K Q := by
  have hb : w.heap[b]? = some (.map (mkI l).toArray c) := hS.get hr.mem
  have hlt := (Array.getElem?_eq_some_iff.1 hb).1
  have hck := checkKey_plain (P := P) (w := w) hD rfl false 9999 (.int .i64 k)
  have hf := find_I l k 0
  rw [hnew] at hf
  have happ : mkI (l ++ [⟨k, v, c⟩]) = mkI l ++ [⟨.int .i64 k, v, c⟩] := by simp [mkI]
  have he : (execOp a.eval (⟨none, .mapUpdate T x y z, ty, pos, af, g⟩ : Oper)).run P w = .ok .skip { w with heap := w.heap.setIfInBounds b (.map (mkI (l ++ [⟨k, v, c⟩])).toArray (c + 1)) } := by
    rw [happ]
    simp only [execOp, hS.sl.ev hx, hS.sl.ev hy, hS.sl.ev hz, Instr.mapUpdate, Sem.run_bind, underlying, run_program, Result.andThen_ok, mapT_eq hT, Sem.run_pure]
    simp [getObj, Sem.run, hb, hck, Instr.findKey, underlying, hD, hf, setObj]
  refine ⟨?_⟩
  unfold Oper.wp
  rw [he]
  refine h _ (hS.upd hr ⟨rfl, rfl, rfl, by simp, fun q hq hne => ?_⟩ ⟨fun q hq => ?_, fun w' hw => ?_⟩ (fun q hq => .inl hq) rfl)
  · have : b ≠ q := fun e => hne e.symm
    simp [Array.getElem?_setIfInBounds_ne this]
  · obtain rfl : q = b := hq; simpa using hlt
  · show w'.heap[b]? = _
    rw [hw _ rfl]; simp [hlt]
theorem s_deleteI {T Kt Et b c : Nat} {x y : Operand} {k : Int} {l : List IE} {tt : List TypeId} {Γ' : List Asn} (hS : St n F0 w0 a w L Γ) (hx : ev L x = some (.map (some b))) (hy : ev L y = some (.int .i64 k))
    (ht : tt[0]? = some T) (hT : mapT P T = some (Kt, Et)) (hD : P.underlying Kt = some (.int .i64)) (hk : (l.map (·.k)).Nodup) (hr : Rep (.mp b (mkI l) c) (.mp b (mkI (l.filter fun e => decide (e.k ≠ k))) c) Γ Γ')
    (h : ∀ w', St n F0 w0 a w' L Γ' → K a w') : OW P ⟨none, .call ⟨.builtin .delete, #[x, y], tt.toArray⟩, ty, pos, af, g⟩ a w K Q := by
  have hb : w.heap[b]? = some (.map (mkI l).toArray c) := hS.get hr.mem
  have hlt := (Array.getElem?_eq_some_iff.1 hb).1
  have hck := checkKey_plain (P := P) (w := w) hD rfl ((mkI l).isEmpty) 9999 (.int .i64 k)
  have hf := find_I l k 0
  have hT0 : tt[0]? = some T := ht
  have he : (execOp a.eval (⟨none, .call ⟨.builtin .delete, #[x, y], tt.toArray⟩, ty, pos, af, g⟩ : Oper)).run P w = .ok (.value (.tuple #[])) { w with heap := w.heap.setIfInBounds b (.map (mkI (l.filter fun e => decide (e.k ≠ k))).toArray c) } := by
    cases hi : fI l k 0 with
    | none =>
      rw [hi] at hf
      have hflt : l.filter (fun e => decide (e.k ≠ k)) = l := by
        rw [List.filter_eq_self]; intro e he; simpa using fI_has hi e he
      rw [hflt]
      simp [execOp, resolve, invoke, builtin, hS.sl.ev hx, hS.sl.ev hy, Builtin.delete_, hT0, underlying, mapT_eq hT, getObj, Sem.run, hb, hck, Instr.findKey, hD, hf, setObj]
    | some p =>
      obtain ⟨i, v⟩ := p
      rw [hi] at hf
      have hsz := (fI_some hi)
      obtain ⟨_, e, hg, _, _⟩ := hsz
      rw [Nat.sub_zero] at hg
      have hil := (List.getElem?_eq_some_iff.1 hg).1
      have her := erase_I hk hi
      rw [Nat.sub_zero] at her
      simp [execOp, resolve, invoke, builtin, hS.sl.ev hx, hS.sl.ev hy, Builtin.delete_, hT0, underlying, mapT_eq hT, getObj, Sem.run, hb, hck, Instr.findKey, hD, hf, setObj]
      simp only [mkI_erase, her, ne_eq, decide_not]
  refine ⟨?_⟩
  unfold Oper.wp
  rw [he]
  refine h _ (hS.upd hr ⟨rfl, rfl, rfl, by simp, fun q hq hne => ?_⟩ ⟨fun q hq => ?_, fun w' hw => ?_⟩ (fun q hq => .inl hq) rfl)
  · have : b ≠ q := fun e => hne e.symm
    simp [Array.getElem?_setIfInBounds_ne this]
  · obtain rfl : q = b := hq; simpa using hlt
  · show w'.heap[b]? = _
    rw [hw _ rfl]; simp [hlt]
theorem e_lenI {x : Operand} {ts : Array TypeId} {T Kt Et b c : Nat} {l : List IE} (hx : ev L x = some (.map (some b))) (ht : ts[0]? = some T) (hT : mapT P T = some (Kt, Et)) (hm : ∀ w, Hd Γ w → w.heap[b]? = some (.map (mkI l).toArray c)) :
    Ex P n a L Γ ⟨dst, .call ⟨.builtin .len, #[x], ts⟩, ty, pos, af, g⟩ (.int .i64 (l.length : Int)) := fun hs w hh => by
  have hb := hm w hh
  simp [execOp, resolve, invoke, builtin, Builtin.len_, hs.ev hx, ht, underlying, mapT_eq hT, goInt, getObj, Sem.run, hb, mkI]
theorem s_rangeI {T Kt Et m c : Nat} {l : List IE} {x : Operand} (hS : St n F0 w0 a w L Γ) (hx : ev L x = some (.map (some m))) (hT : mapT P T = some (Kt, Et))
    (hm : ∀ w, Hd Γ w → w.heap[m]? = some (.map (mkI l).toArray c)) (hn : Nat.blt d n.n = true)
    (h : ∀ a' w' b, St n F0 w0 a' w' ((d, .pointer (some ⟨b, 0, none⟩)) :: L) (itA b m [] c :: Γ) → K a' w') : OW P ⟨some d, .range T x, ty, pos, af, g⟩ a w K Q := by
  have hb := hm w hS.hd
  have he : (execOp a.eval (⟨some d, .range T x, ty, pos, af, g⟩ : Oper)).run P w = .ok (.value (.pointer (some ⟨w.heap.size, 0, none⟩))) (w.alloc (.mapIter (some m) c #[] c)) := by
    simp only [execOp, hS.sl.ev hx, Instr.range, Sem.run_bind, underlying, run_program, Result.andThen_ok, mapT_eq hT, Sem.run_pure]
    simp [getObj, newObj, Sem.run, hb]
  refine ⟨?_⟩
  unfold Oper.wp
  rw [he]
  refine h _ _ w.heap.size ((hS.fresh (Chg.alloc _ _ _) (Y := itA w.heap.size m [] c) (it_ok (Go.World.alloc_heap_new w _)) ?_).put hn _)
  intro b hb2
  have : b = w.heap.size := hb2
  omega
/-- what a step yields: nothing, or an entry. -/
def nyL : Option IE → List Value
  | none => [.bool false]
  | some e => [.bool true, .int .i64 e.k, e.v]
def nyS (seen : List Nat) : Option IE → List Nat
  | none => seen
  | some e => seen ++ [e.b]
def nyO (l : List IE) (seen : List Nat) : Option IE → Prop
  | none => ∀ e ∈ l, e.b ∈ seen
  | some e => e ∈ l ∧ e.b ∉ seen
theorem ny0 (o : Option IE) : nth (nyL o) 0 = some (.bool o.isSome) := by cases o <;> rfl
theorem s_nextI {it m c : Nat} {l : List IE} {seen : List Nat} {x : Operand} {Γ' : List Nat → List Asn} (hS : St n F0 w0 a w L Γ) (hx : ev L x = some (.pointer (some ⟨it, 0, none⟩)))
    (hm : ∀ w, Hd Γ w → w.heap[m]? = some (.map (mkI l).toArray c)) (hg : goodI l c) (hn : Nat.blt d n.n = true)
    (hr : ∀ s, Rep (itA it m seen c) (itA it m s c) Γ (Γ' s))
    (h : ∀ o, nyO l seen o → ∀ a' w', St n F0 w0 a' w' ((d, .tuple (nyL o).toArray) :: L) (Γ' (nyS seen o)) → K a' w') :
    OW P ⟨some d, .next x false, ty, pos, af, g⟩ a w K Q := by
  have hb := hm w hS.hd
  have hi : w.heap[it]? = some (.mapIter (some m) c seen.toArray c) := hS.get (hr seen).mem
  have hlt := (Array.getElem?_eq_some_iff.1 hi).1
  have hid : ∀ {Γ Γ' : List Asn} {X : Asn}, Rep X X Γ Γ' → Γ = Γ' := by
    intro Γ Γ' X hR
    induction hR with
    | head => rfl
    | tail _ ih => rw [ih]
  refine ⟨?_⟩
  unfold Oper.wp
  have hop : (execOp a.eval (⟨some d, .next x false, ty, pos, af, g⟩ : Oper)).run P w = ((Instr.next (.pointer (some ⟨it, 0, none⟩)) false ty).run P w).andThen (fun v w' => .ok (.value v) w') := by
    simp only [execOp, hS.sl.ev hx, Sem.run_bind, Sem.run_pure]
  rw [hop]
  rcases run_next_at (P := P) w ty it m c c seen.toArray (mkI l).toArray c hi hb (fun e he => by
      obtain ⟨x, hx2, rfl⟩ := List.mem_map.1 (by simpa [mkI] using he : e ∈ l.map fun e => (⟨.int .i64 e.k, e.v, e.b⟩ : MapEntry))
      exact hg.lt x hx2) (Nat.le_refl _) with ⟨hz, hrun⟩ | ⟨e, he, w1, hw1, hrun⟩
  · rw [hrun]
    refine h none (fun e he => ?_) _ _ ?_
    · unfold leftOf at hz
      have hemp := Array.eq_empty_of_size_eq_zero hz
      rw [Array.filter_eq_empty_iff] at hemp
      have := hemp ⟨.int .i64 e.k, e.v, e.b⟩ (by simp [mkI]; exact ⟨e, he, rfl, rfl, rfl⟩)
      simpa using this
    · show St n F0 w0 _ w _ (Γ' seen)
      rw [← hid (hr seen)]; exact hS.put hn _
  · rw [hrun]
    unfold leftOf at he
    have he2 : e ∈ mkI l ∧ e.born ∉ seen := by simpa using he
    obtain ⟨x, hx2, h3⟩ := List.mem_map.1 (by simpa [mkI] using he2.1 : e ∈ l.map fun e => (⟨.int .i64 e.k, e.v, e.b⟩ : MapEntry))
    subst h3
    have hch : Chg (itA it m seen c).F w (Go.ChangeMaps.setBlock w1 it (.mapIter (some m) c (seen.toArray.push x.b) c)) ∧ (Go.ChangeMaps.setBlock w1 it (.mapIter (some m) c (seen.toArray.push x.b) c)).heap[it]? = some (.mapIter (some m) c (seen ++ [x.b]).toArray c) := by
      have hpush : seen.toArray.push x.b = (seen ++ [x.b]).toArray := by simp
      have hq : w1.heap = w.heap ∧ w1.os = w.os ∧ w1.tape = w.tape ∧ w1.output = w.output := by
        rcases hw1 with rfl | rfl
        · exact ⟨rfl, rfl, rfl, rfl⟩
        · exact ⟨rfl, rfl, rfl, rfl⟩
      obtain ⟨q1, q2, q3, q4⟩ := hq
      refine ⟨⟨q2, q3, q4, by simp [Go.ChangeMaps.setBlock, q1], fun q hq hne => ?_⟩, ?_⟩
      · have : it ≠ q := fun e => hne e.symm
        simp [Go.ChangeMaps.setBlock, Array.getElem?_setIfInBounds_ne this, q1]
      · simp [Go.ChangeMaps.setBlock, hlt, q1]
    exact h (some x) ⟨hx2, he2.2⟩ _ _ ((hS.upd (hr _) hch.1 (it_ok hch.2) (fun q hq => .inl hq) rfl).put hn _)
theorem e_entryI {it m c : Nat} {l : List IE} {seen : List Nat} {x : Operand} {e : IE} (hx : ev L x = some (.pointer (some ⟨it, 0, none⟩)))
    (hm : ∀ w, Hd Γ w → w.heap[m]? = some (.map (mkI l).toArray c)) (hi : itA it m (seen ++ [e.b]) c ∈ Γ) (he : e ∈ l) (hg : goodI l c) :
    Ex P n a L Γ ⟨dst, .entry x, ty, pos, af, g⟩ (.tuple [.int .i64 e.k, e.v].toArray) := fun hs w hh => by
  have hb := hm w hh
  have hit : w.heap[it]? = some (.mapIter (some m) c (seen.toArray.push e.b) c) := by
    have : w.heap[it]? = some (.mapIter (some m) c (seen ++ [e.b]).toArray c) := hh _ hi
    rw [this]; simp
  have hrun := run_entry_at (P := P) w it m c seen.toArray (mkI l).toArray c ⟨.int .i64 e.k, e.v, e.b⟩ hit hb (by simp [mkI]; exact ⟨e, he, rfl, rfl, rfl⟩) (by
    show (((mkI l).toArray.toList).map (·.born)).Nodup
    have : (mkI l).toArray.toList.map (·.born) = l.map (·.b) := by simp [mkI]
    rw [this]; exact hg.nd)
  simp only [execOp, hs.ev hx, Sem.run_bind, hrun, Result.andThen_ok, Sem.run_pure]
end
/-! ### functions of the library without a body, that read or write a cell -/
section
variable {P : Program} {n : NN} {F0 : Nat → Prop} {w0 : World} {a : Act} {w : World} {L : List (Nat × Value)} {Γ : List Asn}
variable {K : Act → World → Prop} {Q : Exit → Act → World → Prop} {d ty : Nat} {dst : Option Tmp} {pos : String} {af : Array Edge} {g : Option (Nat × Bool)}
theorem e_externH {f : FuncId} {xs : List Operand} {vs : List Value} {ts : Array TypeId} {v : Value} (hx : Evs L xs vs) (hf : ∀ w, Hd Γ w → (callFunc f vs.toArray).run P w = .ok (.value v) w) :
    Ex P n a L Γ ⟨dst, .call ⟨.value (.func f), xs.toArray, ts⟩, ty, pos, af, g⟩ v := fun hs w hh => by
  rw [execOp_call_go, hs.evs hx]
  simpa using hf w hh
theorem s_externS {d : Nat} {f : FuncId} {xs : List Operand} {vs : List Value} {ts : Array TypeId} {v x : Value} {b k E : Nat} {cs cs' : List Value} {Γ' : List Asn} (hS : St n F0 w0 a w L Γ) (hx : Evs L xs vs) (hr : Rep (.blk b cs E) (.blk b cs' E) Γ Γ') (hu : Upd cs k x cs')
    (hn : Nat.blt d n.n = true) (hf : (callFunc f vs.toArray).run P w = .ok (.value v) (w.setCell ⟨b, k, none⟩ x)) (h : ∀ a' w', St n F0 w0 a' w' ((d, v) :: L) Γ' → K a' w') : OW P ⟨some d, .call ⟨.value (.func f), xs.toArray, ts⟩, ty, pos, af, g⟩ a w K Q := by
  have he : (execOp a.eval (⟨some d, .call ⟨.value (.func f), xs.toArray, ts⟩, ty, pos, af, g⟩ : Oper)).run P w = .ok (.value v) (w.setCell ⟨b, k, none⟩ x) := by
    rw [execOp_call_go, hS.sl.evs hx]
    simpa using hf
  obtain ⟨h1, h2, h3⟩ := one_cell (hS.get hr.mem) hu rfl
  refine ⟨?_⟩
  unfold Oper.wp
  rw [he]
  exact h _ _ ((hS.upd hr h1 h2 h3 rfl).put hn _)
end
/-! ### entered by a call or where the caller returns -/
section
variable {P : Program}
theorem c_enterB {f : FuncId} {fn : Func} {c : Code} {args : List Value} {w : World} {R : Ending → World → Prop} {m : Nat} (L : List (Nat × Value)) (Γ : List Asn) (F0 : Nat → Prop) (hf : P.funcs[f]? = some fn) (hb : fn.body = some c) (hm : fn.ntmps = m)
    (hA : SubA args L) (hn : Nat.ble args.length m = true) (ok : ∀ X ∈ Γ, X.ok w) (dis : Γ.Pairwise (fun X Y => ∀ b, X.F b → ¬ Y.F b)) (mine : ∀ X ∈ Γ, X.mine = true → ∀ b, X.F b → w.heap.size ≤ b ∨ F0 b)
    (h : ∀ a, St ⟨m, []⟩ F0 w a w L Γ → c.wp P (bodyPost P fn R) a w) : Calls P f args.toArray w R ∧ ∀ u, CallsD P f args.toArray u w fun e u' w' => u' = u ∧ R e w' := by
  have hle : args.length ≤ m := Nat.le_of_ble_eq_true hn
  have hs := Sl.start (l := args) (L := L) (n := m) (m := m - args.length) hA (by omega)
  have hw := h _ ⟨hs, Chg.refl _ _, ok, dis, mine⟩
  exact ⟨calls_of_wp hf hb (by simpa [hm] using hw), fun u => callsD_of_wp hf hb (by simpa [hm] using hw)⟩
end

/-! ### one cell that is only read; two entries as one; nothing -/
def ceA (b k : Nat) (v : Value) : Asn := .any (fun i => i = b) (fun w => w.cell? ⟨b, k, none⟩ = some v) false
theorem ce_ok {b k : Nat} {v : Value} {w : World} (h : w.cell? ⟨b, k, none⟩ = some v) : (ceA b k v).ok w := by
  refine ⟨fun i hi => ?_, fun w' hw => ?_⟩
  · obtain rfl : i = b := hi
    unfold World.cell? at h
    cases hb : w.heap[i]? with
    | none => simp [hb] at h
    | some o => exact (Array.getElem?_eq_some_iff.1 hb).1
  · show w'.cell? _ = _
    unfold World.cell? at h ⊢
    rw [hw b rfl]; exact h
def duo (X Y : Asn) : Asn := .any (fun k => X.F k ∨ Y.F k) (fun w => X.ok w ∧ Y.ok w ∧ ∀ k, X.F k → ¬ Y.F k) true
theorem Asn.ok.agree {X : Asn} {w w' : World} (h : X.ok w) (hw : ∀ k, X.F k → w'.heap[k]? = w.heap[k]?) : X.ok w' :=
  ⟨fun b hb => by
    have h1 := hw b hb
    rw [Array.getElem?_eq_getElem (h.lt b hb)] at h1
    exact (Array.getElem?_eq_some_iff.1 h1).1, fun w2 h2 => h.hold w2 fun b hb => (h2 b hb).trans (hw b hb)⟩
theorem duo_ok {X Y : Asn} {w : World} (hX : X.ok w) (hY : Y.ok w) (hd : ∀ k, X.F k → ¬ Y.F k) : (duo X Y).ok w :=
  ⟨fun b hb => hb.elim (hX.lt b) (hY.lt b), fun _ hw => ⟨hX.agree fun k hk => hw k (.inl hk), hY.agree fun k hk => hw k (.inr hk), hd⟩⟩
def none_ : Asn := .any (fun _ => False) (fun _ => True) true
theorem none_ok (w : World) : none_.ok w := ⟨fun _ h => h.elim, fun _ _ => trivial⟩
section
variable {n : NN} {F0 : Nat → Prop} {w0 : World} {a : Act} {w : World} {L : List (Nat × Value)} {Γ : List Asn} {X Y : Asn}
theorem St.duo (hS : St n F0 w0 a w L (X :: Y :: Γ)) (hX : X.mine = true) (hY : Y.mine = true) : St n F0 w0 a w L (Go.Proofs.YtjmkjkhcognoeaaGreatDoor.duo X Y :: Γ) := by
  have h1 := List.pairwise_cons.1 hS.dis
  have h2 := List.pairwise_cons.1 h1.2
  refine ⟨hS.sl, hS.chg, fun Z hZ => ?_, List.pairwise_cons.2 ⟨fun Z hZ b hb hz => ?_, h2.2⟩, fun Z hZ hm b hb => ?_⟩
  · rcases List.mem_cons.1 hZ with rfl | hZ
    · exact duo_ok (hS.ok X (.head _)) (hS.ok Y (.tail _ (.head _))) (fun b hb => h1.1 Y (.head _) b hb)
    · exact hS.ok Z (.tail _ (.tail _ hZ))
  · rcases hb with hb | hb
    · exact h1.1 Z (.tail _ hZ) b hb hz
    · exact h2.1 Z hZ b hb hz
  · rcases List.mem_cons.1 hZ with rfl | hZ
    · rcases hb with hb | hb
      · exact hS.mine X (.head _) hX b hb
      · exact hS.mine Y (.tail _ (.head _)) hY b hb
    · exact hS.mine Z (.tail _ (.tail _ hZ)) hm b hb
theorem St.unduo (hS : St n F0 w0 a w L (Go.Proofs.YtjmkjkhcognoeaaGreatDoor.duo X Y :: Γ)) : St n F0 w0 a w L (X :: Y :: Γ) := by
  have h1 := List.pairwise_cons.1 hS.dis
  have hφ : X.ok w ∧ Y.ok w ∧ ∀ k, X.F k → ¬ Y.F k := (hS.ok _ (.head _)).now
  refine ⟨hS.sl, hS.chg, fun Z hZ => ?_, List.pairwise_cons.2 ⟨fun Z hZ b hb hz => ?_, List.pairwise_cons.2 ⟨fun Z hZ b hb hz => h1.1 Z hZ b (.inr hb) hz, h1.2⟩⟩, fun Z hZ hm b hb => ?_⟩
  · rcases List.mem_cons.1 hZ with rfl | hZ
    · exact hφ.1
    · rcases List.mem_cons.1 hZ with rfl | hZ
      · exact hφ.2.1
      · exact hS.ok Z (.tail _ hZ)
  · rcases List.mem_cons.1 hZ with rfl | hZ
    · exact hφ.2.2 b hb hz
    · exact h1.1 Z hZ b (.inl hb) hz
  · rcases List.mem_cons.1 hZ with rfl | hZ
    · exact hS.mine _ (.head _) rfl b (.inl hb)
    · rcases List.mem_cons.1 hZ with rfl | hZ
      · exact hS.mine _ (.head _) rfl b (.inr hb)
      · exact hS.mine Z (.tail _ hZ) hm b hb
/-- something that is always so. -/
theorem St.none_ (hS : St n F0 w0 a w L Γ) : St n F0 w0 a w L (Go.Proofs.YtjmkjkhcognoeaaGreatDoor.none_ :: Γ) :=
  ⟨hS.sl, hS.chg, fun Z hZ => by
    rcases List.mem_cons.1 hZ with rfl | hZ
    · exact none_ok w
    · exact hS.ok Z hZ, List.pairwise_cons.2 ⟨fun _ _ _ h => h.elim, hS.dis⟩, fun Z hZ hm b hb => by
    rcases List.mem_cons.1 hZ with rfl | hZ
    · exact hb.elim
    · exact hS.mine Z hZ hm b hb⟩
end
end Go.Proofs.YtjmkjkhcognoeaaGreatDoor

namespace Go.Proofs.YtjmkjkhcognoeaaGreatDoor
open Go.RowKit
theorem cf6 : CallsTo Tryz.prog 6 := callsTo Tryz.func6 (by kernel_rfl) (by kernel_rfl)
theorem ty_sz4 : szOf Tryz.prog 4 = some 1 := by kernel_rfl
theorem ty_sc4 : scalarT Tryz.prog 4 = true := by kernel_rfl
theorem ty_z4 : zeroOf Tryz.prog 4 = some [.bool false] := by kernel_rfl
theorem ty_sz22 : szOf Tryz.prog 22 = some 1 := by kernel_rfl
theorem ty_sc22 : scalarT Tryz.prog 22 = true := by kernel_rfl
theorem ty_sl22 : sliceT Tryz.prog 22 = some 5 := by kernel_rfl
theorem ty_sz5 : szOf Tryz.prog 5 = some 1 := by kernel_rfl
theorem ty_sc5 : scalarT Tryz.prog 5 = true := by kernel_rfl
theorem ty_z5 : zeroOf Tryz.prog 5 = some [.int .u8 0] := by kernel_rfl
theorem ty_u5 : Tryz.prog.underlying 5 = some (.int .u8) := by kernel_rfl
theorem ty_by5 : byOf Tryz.prog 5 = some 1 := by kernel_rfl
theorem ty_sz3 : szOf Tryz.prog 3 = some 1 := by kernel_rfl
theorem ty_sc3 : scalarT Tryz.prog 3 = true := by kernel_rfl
theorem ty_z3 : zeroOf Tryz.prog 3 = some [.int .i64 0] := by kernel_rfl
theorem ty_u3 : Tryz.prog.underlying 3 = some (.int .i64) := by kernel_rfl
theorem cf7 : CallsTo Tryz.prog 7 := callsTo Tryz.func7 (by kernel_rfl) (by kernel_rfl)
theorem ty_sl24 : sliceT Tryz.prog 24 = some 35 := by kernel_rfl
theorem ty_sz35 : szOf Tryz.prog 35 = some 4 := by kernel_rfl
theorem ty_st35 : structT Tryz.prog 35 = true := by kernel_rfl
theorem ty_pl35 : placesOf Tryz.prog 35 = some [(0, 1), (1, 1), (2, 1), (3, 1)] := by kernel_rfl
theorem ty_z35 : zeroOf Tryz.prog 35 = some [.string ⟨#[]⟩, .string ⟨#[]⟩, .slice none 0 0, .bool false] := by kernel_rfl
theorem ty_by35 : byOf Tryz.prog 35 = some 64 := by kernel_rfl
theorem ty_sz25 : szOf Tryz.prog 25 = some 1 := by kernel_rfl
theorem ty_sc25 : scalarT Tryz.prog 25 = true := by kernel_rfl
theorem ty_z25 : zeroOf Tryz.prog 25 = some [.int .i64 0] := by kernel_rfl
theorem cf9 : CallsTo Tryz.prog 9 := callsTo Tryz.func9 (by kernel_rfl) (by kernel_rfl)
theorem ty_sc39 : scalarT Tryz.prog 39 = true := by kernel_rfl
theorem cf11 : CallsTo Tryz.prog 11 := callsTo Tryz.func11 (by kernel_rfl) (by kernel_rfl)
theorem ty_sc37 : scalarT Tryz.prog 37 = true := by kernel_rfl
theorem ty_u37 : Tryz.prog.underlying 37 = some (.pointer (Tryz.prog.pointee 37)) := by kernel_rfl
theorem cf13 : CallsTo Tryz.prog 13 := callsTo Tryz.func13 (by kernel_rfl) (by kernel_rfl)
theorem cf14 : CallsTo Tryz.prog 14 := callsTo Tryz.func14 (by kernel_rfl) (by kernel_rfl)
theorem cf15 : CallsTo Tryz.prog 15 := callsTo Tryz.func15 (by kernel_rfl) (by kernel_rfl)
theorem ty_u42 : Tryz.prog.underlying 42 = some (.pointer (Tryz.prog.pointee 42)) := by kernel_rfl
theorem ty_sl41 : sliceT Tryz.prog 41 = some 47 := by kernel_rfl
theorem ty_sz47 : szOf Tryz.prog 47 = some 4 := by kernel_rfl
theorem ty_st47 : structT Tryz.prog 47 = true := by kernel_rfl
theorem ty_z47 : zeroOf Tryz.prog 47 = some [.slice none 0 0, .bool false, .bool false, .int .i64 0] := by kernel_rfl
theorem ty_sc45 : scalarT Tryz.prog 45 = true := by kernel_rfl
theorem ty_sl45 : sliceT Tryz.prog 45 = some 9 := by kernel_rfl
theorem ty_sz9 : szOf Tryz.prog 9 = some 1 := by kernel_rfl
theorem ty_sc9 : scalarT Tryz.prog 9 = true := by kernel_rfl
theorem ty_z9 : zeroOf Tryz.prog 9 = some [.string ⟨#[]⟩] := by kernel_rfl
theorem ty_u9 : Tryz.prog.underlying 9 = some (.string) := by kernel_rfl
theorem ty_by9 : byOf Tryz.prog 9 = some 16 := by kernel_rfl
theorem ty_fo47_0 : fieldOff Tryz.prog 47 0 = some 0 := by kernel_rfl
theorem ty_fo47_2 : fieldOff Tryz.prog 47 2 = some 2 := by kernel_rfl
theorem ty_fo47_3 : fieldOff Tryz.prog 47 3 = some 3 := by kernel_rfl
theorem cf16 : CallsTo Tryz.prog 16 := callsTo Tryz.func16 (by kernel_rfl) (by kernel_rfl)
theorem ty_sl44 : sliceT Tryz.prog 44 = some 50 := by kernel_rfl
theorem ty_sz50 : szOf Tryz.prog 50 = some 3 := by kernel_rfl
theorem ty_st50 : structT Tryz.prog 50 = true := by kernel_rfl
theorem ty_pl50 : placesOf Tryz.prog 50 = some [(0, 1), (1, 1), (2, 1)] := by kernel_rfl
theorem ty_z50 : zeroOf Tryz.prog 50 = some [.int .i64 0, .slice none 0 0, .bool false] := by kernel_rfl
theorem ty_by50 : byOf Tryz.prog 50 = some 40 := by kernel_rfl
theorem ty_fo50_0 : fieldOff Tryz.prog 50 0 = some 0 := by kernel_rfl
theorem ty_fo50_1 : fieldOff Tryz.prog 50 1 = some 1 := by kernel_rfl
theorem cf17 : CallsTo Tryz.prog 17 := callsTo Tryz.func17 (by kernel_rfl) (by kernel_rfl)
theorem ty_fo50_2 : fieldOff Tryz.prog 50 2 = some 2 := by kernel_rfl
theorem ty_fo47_1 : fieldOff Tryz.prog 47 1 = some 1 := by kernel_rfl
theorem cf18 : CallsTo Tryz.prog 18 := callsTo Tryz.func18 (by kernel_rfl) (by kernel_rfl)
theorem cf19 : CallsTo Tryz.prog 19 := callsTo Tryz.func19 (by kernel_rfl) (by kernel_rfl)
theorem cf20 : CallsTo Tryz.prog 20 := callsTo Tryz.func20 (by kernel_rfl) (by kernel_rfl)
theorem cf21 : CallsTo Tryz.prog 21 := callsTo Tryz.func21 (by kernel_rfl) (by kernel_rfl)
theorem cf22 : CallsTo Tryz.prog 22 := callsTo Tryz.func22 (by kernel_rfl) (by kernel_rfl)
theorem ty_fo35_2 : fieldOff Tryz.prog 35 2 = some 2 := by kernel_rfl
theorem ty_pl81 : placesOf Tryz.prog 81 = some [(0, 3), (3, 1), (4, 1), (5, 1)] := by kernel_rfl
theorem ty_z81 : zeroOf Tryz.prog 81 = some [.int .u32 0, .int .i32 0, .int .u32 0, .int .u32 0, .nilFunc, .int .i64 0] := by kernel_rfl
theorem ty_fo81_1 : fieldOff Tryz.prog 81 1 = some 3 := by kernel_rfl
theorem cf31 : CallsTo Tryz.prog 31 := callsTo Tryz.func31 (by kernel_rfl) (by kernel_rfl)
theorem ty_fo81_0 : fieldOff Tryz.prog 81 0 = some 0 := by kernel_rfl
theorem cf33 : CallsTo Tryz.prog 33 := callsTo Tryz.func33 (by kernel_rfl) (by kernel_rfl)
theorem cf32 : CallsTo Tryz.prog 32 := callsTo Tryz.func32 (by kernel_rfl) (by kernel_rfl)
theorem ty_fo81_3 : fieldOff Tryz.prog 81 3 = some 5 := by kernel_rfl
theorem ty_sc84 : scalarT Tryz.prog 84 = true := by kernel_rfl
theorem ty_mp84 : mapT Tryz.prog 84 = some (3, 89) := by kernel_rfl
theorem ty_sz89 : szOf Tryz.prog 89 = some 2 := by kernel_rfl
theorem ty_pl89 : placesOf Tryz.prog 89 = some [(0, 1), (1, 1)] := by kernel_rfl
theorem ty_z89 : zeroOf Tryz.prog 89 = some [.slice none 0 0, .bool false] := by kernel_rfl
theorem ty_zv89 : zvOf Tryz.prog 89 = some (.agg #[.slice none 0 0, .bool false]) := by kernel_rfl
theorem ty_sz85 : szOf Tryz.prog 85 = some 1 := by kernel_rfl
theorem ty_sc85 : scalarT Tryz.prog 85 = true := by kernel_rfl
theorem ty_ch85 : chanT Tryz.prog 85 = some 3 := by kernel_rfl
theorem ty_by3 : byOf Tryz.prog 3 = some 8 := by kernel_rfl
theorem ty_pl87 : placesOf Tryz.prog 87 = some [(0, 2), (2, 1), (3, 1), (4, 1)] := by kernel_rfl
theorem ty_z87 : zeroOf Tryz.prog 87 = some [.int .i32 0, .int .u32 0, .map none, .int .i64 0, .chan none] := by kernel_rfl
theorem ty_fo87_0 : fieldOff Tryz.prog 87 0 = some 0 := by kernel_rfl
theorem cf35 : CallsTo Tryz.prog 35 := callsTo Tryz.func35 (by kernel_rfl) (by kernel_rfl)
theorem cf36 : CallsTo Tryz.prog 36 := callsTo Tryz.func36 (by kernel_rfl) (by kernel_rfl)
theorem ty_fo87_1 : fieldOff Tryz.prog 87 1 = some 2 := by kernel_rfl
theorem ty_fo87_3 : fieldOff Tryz.prog 87 3 = some 4 := by kernel_rfl
theorem cf37 : CallsTo Tryz.prog 37 := callsTo Tryz.func37 (by kernel_rfl) (by kernel_rfl)
theorem ty_fo87_2 : fieldOff Tryz.prog 87 2 = some 3 := by kernel_rfl
theorem ty_pl96 : placesOf Tryz.prog 96 = some [(0, 4), (4, 1), (5, 1), (6, 1), (7, 1)] := by kernel_rfl
theorem ty_z96 : zeroOf Tryz.prog 96 = some [.string ⟨#[]⟩, .string ⟨#[]⟩, .slice none 0 0, .bool false, .int .i64 0, .int .i64 0, .map none, .bool false] := by kernel_rfl
theorem ty_sz93 : szOf Tryz.prog 93 = some 1 := by kernel_rfl
theorem ty_sc93 : scalarT Tryz.prog 93 = true := by kernel_rfl
theorem ty_z93 : zeroOf Tryz.prog 93 = some [.pointer none] := by kernel_rfl
theorem cf38 : CallsTo Tryz.prog 38 := callsTo Tryz.func38 (by kernel_rfl) (by kernel_rfl)
theorem cf39 : CallsTo Tryz.prog 39 := callsTo Tryz.func39 (by kernel_rfl) (by kernel_rfl)
theorem ty_fo96_4 : fieldOff Tryz.prog 96 4 = some 7 := by kernel_rfl
theorem ty_fo96_2 : fieldOff Tryz.prog 96 2 = some 5 := by kernel_rfl
theorem ty_fo96_0 : fieldOff Tryz.prog 96 0 = some 0 := by kernel_rfl
theorem ty_fo73_1 : fieldOff Tryz.prog 73 1 = some 0 := by kernel_rfl
theorem ty_fo79_1 : fieldOff Tryz.prog 79 1 = some 0 := by kernel_rfl
theorem cf45 : CallsTo Tryz.prog 45 := callsTo Tryz.func45 (by kernel_rfl) (by kernel_rfl)
theorem ty_fo81_2 : fieldOff Tryz.prog 81 2 = some 4 := by kernel_rfl
theorem cf34 : CallsTo Tryz.prog 34 := callsTo Tryz.func34 (by kernel_rfl) (by kernel_rfl)
theorem cf47 : CallsTo Tryz.prog 47 := callsTo Tryz.func47 (by kernel_rfl) (by kernel_rfl)
theorem cf50 : CallsTo Tryz.prog 50 := callsTo Tryz.func50 (by kernel_rfl) (by kernel_rfl)
theorem cf51 : CallsTo Tryz.prog 51 := callsTo Tryz.func51 (by kernel_rfl) (by kernel_rfl)
theorem ty_fo96_1 : fieldOff Tryz.prog 96 1 = some 4 := by kernel_rfl
theorem cf53 : CallsTo Tryz.prog 53 := callsTo Tryz.func53 (by kernel_rfl) (by kernel_rfl)
theorem ty_fo79_2 : fieldOff Tryz.prog 79 2 = some 1 := by kernel_rfl
theorem ty_fo89_1 : fieldOff Tryz.prog 89 1 = some 1 := by kernel_rfl
theorem ty_fo89_0 : fieldOff Tryz.prog 89 0 = some 0 := by kernel_rfl
theorem cf65 : CallsTo Tryz.prog 65 := callsTo Tryz.func65 (by kernel_rfl) (by kernel_rfl)
theorem cf52 : CallsTo Tryz.prog 52 := callsTo Tryz.func52 (by kernel_rfl) (by kernel_rfl)
theorem cf66 : CallsTo Tryz.prog 66 := callsTo Tryz.func66 (by kernel_rfl) (by kernel_rfl)
theorem cf67 : CallsTo Tryz.prog 67 := callsTo Tryz.func67 (by kernel_rfl) (by kernel_rfl)
theorem cf68 : CallsTo Tryz.prog 68 := callsTo Tryz.func68 (by kernel_rfl) (by kernel_rfl)
theorem cf69 : CallsTo Tryz.prog 69 := callsTo Tryz.func69 (by kernel_rfl) (by kernel_rfl)
theorem cf92 : CallsTo Tryz.prog 92 := callsTo Tryz.func92 (by kernel_rfl) (by kernel_rfl)
end Go.Proofs.YtjmkjkhcognoeaaGreatDoor

namespace Go.Proofs.YtjmkjkhcognoeaaGreatDoor
open Go.RowKit
variable {P : Program} {n : NN} {w : World} {a : Act} {L : List (Nat × Value)} {Γ : List Asn} {dst : Option Nat}
variable {ty : Nat} {pos : String} {af : Array Edge} {g : Option (Nat × Bool)}

theorem run_append_nothing (t ty e : TypeId) (i : TypeInfo) (size : Nat) (ht : P.underlying t = some (.slice e)) (hi : P.info? e = some i) (v : Value) (m : Nat) (xs : List Value) (hown : w.ownsRow 0 e size v m xs) (ad : Option Addr) (c : Nat) :
    (Builtin.append_ #[t, t] ty #[v, .slice ad 0 c]).run P w = .ok v w := by
  rcases hown.2 with ⟨rfl, rfl⟩ | ⟨g, cap, cur, rfl, _, _, hnc, _⟩
  · cases ad <;> simp [Builtin.append_, run_underlying ht, sizeOf, typeInfo, hi, Builtin.lenOf, Builtin.firstCells, loadCells, loadCellsFrom]
  · cases ad <;> simp [Builtin.append_, run_underlying ht, sizeOf, typeInfo, hi, Builtin.lenOf, Builtin.firstCells, loadCells, loadCellsFrom, hnc, storeCells]
theorem e_appendE {T E s b m c : Nat} {zs : List Value} {x y : Operand} {v : Value} {ad : Option Addr} {cs : List Value} (hx : ev L x = some v) (hy : ev L y = some (.slice ad 0 c))
    (hT : sliceT P T = some E) (hs : szOf P E = some s) (hb : byOf P E = some b) (hz : zeroOf P E = some zs) (hm : ownA E s v m cs ∈ Γ) : Ex P n a L Γ ⟨dst, .call ⟨.builtin .append, #[x, y], #[T, T]⟩, ty, pos, af, g⟩ v := fun hs' w hh => by
  obtain ⟨i, z, hi, hz', hsz, hby, hzc⟩ := info_of hs hb hz
  have hown : w.ownsRow 0 E s v m cs := hh _ hm
  have h := run_append_nothing (P := P) (w := w) T ty E i s (sliceT_eq hT) hi v m cs hown ad c
  simp [execOp, resolve, invoke, builtin, hs'.ev hx, hs'.ev hy, h]
section
variable {F0 : Nat → Prop} {w0 : World} {K : Act → World → Prop} {Q : Exit → Act → World → Prop} {d : Nat}
/-- 'append(s, x..)' of what can be read, or of nothing. -/
theorem s_appendL {T E s b : Nat} {zs : List Value} {x y : Operand} {v : Value} {m k c : Nat} {q : Option Addr} {cs ys : List Value} {Γ' : Value → List Asn} (hS : St n F0 w0 a w L Γ) (hx : ev L x = some v) (hy : ev L y = some (.slice q k c))
    (hT : sliceT P T = some E) (hs : szOf P E = some s) (hb : byOf P E = some b) (hz : zeroOf P E = some zs) (hzl : Nat.beq zs.length s = true) (hs0 : Nat.blt 0 s = true) (hn : Nat.blt d n.n = true)
    (hm : ownA E s v m cs ∈ Γ) (hyl : ys.length = k * s) (hq : (k = 0 ∧ ys = []) ∨ ∃ bx ox, q = some ⟨bx, ox, none⟩ ∧ ∀ j u, ys[j]? = some u → w.cell? ⟨bx, ox + j, none⟩ = some u) (h1 : ∀ u ∈ ys, isOne u = true) (hbd : (m + k) * b ≤ 140737488355328 ∧ m + k ≤ 4611686018427387904)
    (hr : ∀ v', Rep (ownA E s v m cs) (ownA E s v' (m + k) (cs ++ ys)) Γ (Γ' v'))
    (h : ∀ v' a' w', (v' = .slice none 0 0 ↔ v = .slice none 0 0 ∧ k = 0) → St n F0 w0 a' w' ((d, v') :: L) (Γ' v') → K a' w') : OW P ⟨some d, .call ⟨.builtin .append, #[x, y], #[T, T]⟩, ty, pos, af, g⟩ a w K Q := by
  rcases hq with ⟨rfl, rfl⟩ | ⟨bx, ox, rfl, hys⟩
  · refine s_e hS (e_appendE hx hy hT hs hb hz hm) hn (fun a' hS' => h v a' w (by simp) ?_)
    have hown : w.ownsRow 0 E s v m cs := hS.get hm
    refine hS'.upd (hr v) (Chg.refl _ _) ?_ (fun b hb => .inl hb) rfl
    have := ok_own (w := w) (E := E) (s := s) (v := v) (m := m) (xs := cs) hown
    rwa [Nat.add_zero, List.append_nil]
  · exact s_append hS hx hy hT hs hb hz hzl hs0 hn hm hyl hys h1 hbd hr h
end
end Go.Proofs.YtjmkjkhcognoeaaGreatDoor

namespace Go.Proofs.YtjmkjkhcognoeaaGreatDoor
open Go.RowKit
variable {P : Program} {n : NN} {F0 : Nat → Prop} {w0 w : World} {a : Act} {L : List (Nat × Value)} {Γ : List Asn} {dst : Option Nat}
variable {ty : Nat} {pos : String} {af : Array Edge} {g : Option (Nat × Bool)} {K : Act → World → Prop} {Q : Exit → Act → World → Prop} {d : Nat}

/-- where a slice's tail lies. -/
def tailP (q : Option Addr) (k c s : Nat) : Option Addr := if c = k then q else q.map (·.add (k * s))
theorem e_slT {T E s m c : Nat} {p : Option Addr} {x y : Operand} {k : IntKind} {j : Nat} (hx : ev L x = some (.slice p m c)) (hy : ev L y = some (.int k (j : Int))) (hT : sliceT P T = some E) (hs : szOf P E = some s) (hj : j ≤ m) :
    Ex P n a L Γ ⟨dst, .slice T x (some y) none none, ty, pos, af, g⟩ (.slice (tailP p j c s) (m - j) (c - j)) := fun hs' w hh => by
  obtain ⟨h1, h2⟩ := sliceT_elem hT
  have h3 := run_sliceAt_slice (P := P) (w := w) T (.slice p m c) (some (.int k (j : Int))) none none h1
  have h4 := run_slice_l (P := P) (w := w) T p m c h1 k (j : Int) (by omega) (by omega)
  rw [h2, sizeOf_run hs] at h4
  simp [execOp, hs'.ev hx, hs'.ev hy, h3, h4, Result.andThen, sliced, tailP]

end Go.Proofs.YtjmkjkhcognoeaaGreatDoor

namespace Go.Proofs.YtjmkjkhcognoeaaGreatDoor
open Go.RowKit

/-- a slice of bytes, wherever it lies. -/
def ByAt (v : Value) (l : List Int) (w : World) : Prop := (l = [] ∧ ∃ a c, v = .slice a 0 c) ∨ ∃ b off c, l ≠ [] ∧ v = .slice (some ⟨b, off, none⟩) l.length c ∧ l.length ≤ c ∧ (∀ j x, l[j]? = some x → w.cell? ⟨b, off + j, none⟩ = some (.int .u8 x)) ∧ b < w.heap.size
def byF (v : Value) (l : List Int) (k : Nat) : Prop := l ≠ [] ∧ ∃ off m c, v = .slice (some ⟨k, off, none⟩) m c
theorem ByAt.shape {v : Value} {l : List Int} {w : World} (h : ByAt v l w) : ∃ a c, v = .slice a l.length c := by
  rcases h with ⟨rfl, a, c, rfl⟩ | ⟨b, off, c, _, rfl, _, _, _⟩
  · exact ⟨a, c, rfl⟩
  · exact ⟨_, c, rfl⟩
theorem ByAt.some {v : Value} {l : List Int} {w : World} (h : ByAt v l w) (hne : l ≠ []) : ∃ b off c, v = .slice (some ⟨b, off, none⟩) l.length c ∧ l.length ≤ c ∧ ∀ j x, l[j]? = some x → w.cell? ⟨b, off + j, none⟩ = some (.int .u8 x) := by
  rcases h with ⟨h0, _⟩ | ⟨b, off, c, _, h1, h2, h3, _⟩
  · exact absurd h0 hne
  · exact ⟨b, off, c, h1, h2, h3⟩
theorem ByAt.lt {v : Value} {l : List Int} {w : World} (h : ByAt v l w) (k : Nat) (hk : byF v l k) : k < w.heap.size := by
  obtain ⟨hne, off, m, c, e⟩ := hk
  rcases h with ⟨h0, _⟩ | ⟨b, off', c', _, h1, _, _, h3⟩
  · exact absurd h0 hne
  · rw [h1] at e; injection e with e1; injection e1 with e2; injection e2 with e3; omega
theorem cell_keep {w w' : World} {b k : Nat} (hb : w'.heap[b]? = w.heap[b]?) : w'.cell? ⟨b, k, none⟩ = w.cell? ⟨b, k, none⟩ := by
  unfold World.cell?; rw [hb]
theorem ByAt.keep {v : Value} {l : List Int} {w w' : World} (h : ByAt v l w) (hw : ∀ k, byF v l k → w'.heap[k]? = w.heap[k]?) : ByAt v l w' := by
  rcases h with h | ⟨b, off, c, h0, h1, h2, h3, h4⟩
  · exact .inl h
  · have hb := hw b ⟨h0, off, _, c, h1⟩
    refine .inr ⟨b, off, c, h0, h1, h2, fun j x hj => (cell_keep hb).trans (h3 j x hj), ?_⟩
    rw [Array.getElem?_eq_getElem h4] at hb
    exact (Array.getElem?_eq_some_iff.1 hb).1
def byA (v : Value) (l : List Int) : Asn := .any (byF v l) (ByAt v l) false
theorem by_ok {v : Value} {l : List Int} {w : World} (h : ByAt v l w) : (byA v l).ok w := ⟨h.lt, fun _ hw => h.keep hw⟩
/-- a piece of it. -/
theorem ByAt.piece {q : Option Addr} {n c : Nat} {l : List Int} {w : World} (h : ByAt (.slice q n c) l w) {j k : Nat} (hjk : j ≤ k) (hk : k ≤ n) : ByAt (.slice (tailP q j c 1) (k - j) (c - j)) ((l.take k).drop j) w := by
  have hn : n = l.length := by obtain ⟨a, c', e⟩ := h.shape; injection e
  have hlen : ((l.take k).drop j).length = k - j := by rw [List.length_drop, List.length_take]; omega
  by_cases he : j = k
  · refine .inl ⟨?_, tailP q j c 1, c - j, by rw [he, Nat.sub_self]⟩
    apply List.eq_nil_of_length_eq_zero; omega
  · have hne : l ≠ [] := fun e => by rw [e] at hn; simp at hn; omega
    rcases h with ⟨h0, _⟩ | ⟨b, off, c', _, h1, h2, h3, h4⟩
    · exact absurd h0 hne
    · injection h1 with e1 e2 e3
      subst e1; subst e3
      have hcj : ¬ c = j := by omega
      refine .inr ⟨b, off + j, c - j, fun e => ?_, ?_, by omega, fun i x hi => ?_, h4⟩
      · have := congrArg List.length e; rw [hlen] at this; simp at this; omega
      · unfold tailP; rw [if_neg hcj, hlen, Nat.mul_one]; simp only [Option.map_some, addr_add]
      · rw [List.getElem?_drop, List.getElem?_take] at hi
        split at hi
        · rw [Nat.add_assoc]; exact h3 _ _ hi
        · cases hi
section
variable {P : Program} {n : NN} {F0 : Nat → Prop} {w0 w : World} {a : Act} {L : List (Nat × Value)} {Γ : List Asn} {dst : Option Nat}
variable {K : Act → World → Prop} {Q : Exit → Act → World → Prop} {d ty : Nat} {pos : String} {af : Array Edge} {g : Option (Nat × Bool)}
/-- 's[i:j]'. -/
theorem e_slB {T E s m c : Nat} {p : Option Addr} {x y z : Operand} {k k' : IntKind} {i j : Nat} (hx : ev L x = some (.slice p m c)) (hy : ev L y = some (.int k (i : Int))) (hz : ev L z = some (.int k' (j : Int))) (hT : sliceT P T = some E) (hs : szOf P E = some s) (hj : i ≤ j ∧ j ≤ c) :
    Ex P n a L Γ ⟨dst, .slice T x (some y) (some z) none, ty, pos, af, g⟩ (.slice (tailP p i c s) (j - i) (c - i)) := fun hs' w hh => by
  obtain ⟨h1, h2⟩ := sliceT_elem hT
  have h3 := run_sliceAt_slice (P := P) (w := w) T (.slice p m c) (some (.int k (i : Int))) (some (.int k' (j : Int))) none h1
  have h4 := run_slice_lh (P := P) (w := w) T p m c h1 k k' (i : Int) (j : Int) (by omega) (by omega) (by omega)
  rw [h2, sizeOf_run hs] at h4
  simp [execOp, hs'.ev hx, hs'.ev hy, hs'.ev hz, h3, h4, Result.andThen, sliced, tailP]
/-- 'string(b)'. -/
theorem e_str {T T' E : Nat} {x : Operand} {v : Value} {l : List Int} (hx : ev L x = some v) (hT : sliceT P T = some E) (hE : P.underlying E = some (.int .u8)) (hT' : P.underlying T' = some .string) (hb : ∀ w, Hd Γ w → ByAt v l w) : Ex P n a L Γ ⟨dst, .convert T T' x, ty, pos, af, g⟩ (.string (strOfNums l)) := fun hs w hh => by
  have hcv : (convert T T' v).run P w = .ok (.string (strOfNums l)) w := by
    rcases hb w hh with ⟨rfl, a, c, rfl⟩ | ⟨b, off, c, _, rfl, _, h3, _⟩
    · rw [run_convert_bytes_string w T T' E a 0 c (sliceT_eq hT) hE hT']
      cases a with
      | none => simp [Conv.bytesToString]; rfl
      | some ad => simp [Conv.bytesToString, loadCells]; rfl
    · exact run_convert_bytes_arg w T E (sliceT_eq hT) hE b off l.length c l rfl (fun i hi => by
        have := h3 i (l.getD i 0) (by rw [List.getD_eq_getElem?_getD, List.getElem?_eq_getElem hi]; rfl)
        exact this) T' hT'
  simp [execOp, hs.ev hx, hcv]
/-- bytes that the text of the program lays. -/
def rkA (b : Nat) (cs : List Value) (E : Nat) : Asn := .any (fun k => k = b) (fun w => ∃ f, w.heap[b]? = some (.cells cs.toArray E f)) true
theorem s_convConst {T E b m c : Nat} {cs : List Value} {x : Operand} {Γ' : List Asn} (hS : St n F0 w0 a w L Γ) (hx : ev L x = some (.slice (some ⟨b, 0, none⟩) m c)) (hT : sliceT P T = some E) (hE : P.underlying E = some (.int .u8)) (hn : Nat.blt d n.n = true)
    (hr : Rep (.blk b cs E) (rkA b cs E) Γ Γ') (h : ∀ a' w', St n F0 w0 a' w' ((d, .slice (some ⟨b, 0, none⟩) m c) :: L) Γ' → K a' w') : OW P ⟨some d, .convert T T x, ty, pos, af, g⟩ a w K Q := by
  have hb : w.heap[b]? = some (.cells cs.toArray E (0, 0)) := hS.get hr.mem
  have hlt := (Array.getElem?_eq_some_iff.1 hb).1
  have hsh : w.shape? b = some (E, cs.length) := by unfold World.shape?; rw [hb]; simp
  have hcv : (convert T T (.slice (some ⟨b, 0, none⟩) m c)).run P w = .ok (.slice (some ⟨b, 0, none⟩) m c) (w.freeze ⟨b, cs.length, none⟩ 1) := by
    simp [convert, run_underlying (sliceT_eq hT), run_underlying hE, markStringish, hsh]
  have he : (execOp a.eval (⟨some d, .convert T T x, ty, pos, af, g⟩ : Oper)).run P w = .ok (.value (.slice (some ⟨b, 0, none⟩) m c)) (w.freeze ⟨b, cs.length, none⟩ 1) := by
    simp [execOp, hS.sl.ev hx, hcv]
  refine ⟨?_⟩
  unfold Oper.wp
  rw [he]
  have hfr : (w.freeze ⟨b, cs.length, none⟩ 1).heap[b]? = some (.cells cs.toArray E (cs.length, cs.length + 1)) := by
    unfold World.freeze
    rw [if_neg (by decide)]
    simp [Array.getElem?_modify, hb]
  refine h _ _ ((hS.upd hr ⟨?_, ?_, ?_, ?_, fun k hk hne => ?_⟩ ⟨fun k hk => ?_, fun w' hw => ⟨_, (hw b rfl).trans hfr⟩⟩ (fun k hk => .inl hk) rfl).put hn _)
  · unfold World.freeze; rw [if_neg (by decide)]
  · unfold World.freeze; rw [if_neg (by decide)]
  · unfold World.freeze; rw [if_neg (by decide)]
  · unfold World.freeze; rw [if_neg (by decide)]; simp
  · unfold World.freeze; rw [if_neg (by decide)]
    have : b ≠ k := fun e => hne e.symm
    simp [Array.getElem?_modify, this]
  · obtain rfl : k = b := hk
    exact (Array.getElem?_eq_some_iff.1 hfr).1
end
end Go.Proofs.YtjmkjkhcognoeaaGreatDoor

namespace Go.Proofs.YtjmkjkhcognoeaaGreatDoor
open Go.RowKit

set_option maxRecDepth 100000 in
theorem big_P (c : Int) (w0 : World) : PureC Tryz.prog 68 [.int .u8 c] w0 (.bool (decide (65 ≤ c ∧ c ≤ 90))) := by
  refine c_enter [(0, .int .u8 c)] [] noB Tryz.func68 rfl Tryz.ntmps68 ⟨rfl, trivial⟩ rfl (by simp) (by simp) (by simp) ?_
  intro a hS
  refine c_seq ?_
  refine c_region ?_
  refine L_op (s_e hS (e_assign rfl) rfl ?_); clear hS a; intro a hS
  refine L_nil ?_
  refine n_then ?_
  refine c_seq ?_
  refine c_region ?_
  refine L_op (s_e hS (e_move rfl) rfl ?_); clear hS a; intro a hS
  refine L_op (s_e hS (e_bin rfl rfl rfl) rfl ?_); clear hS a; intro a hS
  refine L_op (s_e hS (e_move rfl) rfl ?_); clear hS a; intro a hS
  refine L_merge 3 8 (.bool (decide (65 ≤ c ∧ c ≤ 90))) hS ?_ ?_
  · intro hcM8
    (first | refine g_splitD (t := 5) hS rfl ?_ ?_ | refine g_split (t := 5) hS rfl ?_ ?_) <;> (clear hS; intro hg5 hS)
    ·
      refine L_go hS rfl rfl (s_e hS (e_move rfl) rfl ?_); clear hS a; intro a hS
      refine L_go hS rfl rfl (s_e hS (e_bin rfl rfl rfl) rfl ?_); clear hS a; intro a hS
      first | (refine L_op (s_e hS (e_pick_t rfl rfl) rfl ?_); clear hS a; intro a hS) | (refine L_op (s_e hS (e_pick_f rfl rfl) rfl ?_); clear hS a; intro a hS)
      exact hcM8 _ _ (hS.ends 4 8 5 rfl (congrArg Value.bool (by first | rfl | (simp [hg5]; done) | (simp [hg5]; omega) | grind)) rfl rfl (by first | exact congrArg Value.bool (decide_eq_true hg5).symm | exact congrArg Value.bool hg5.symm | simp [hg5]) rfl)
    ·
      refine L_skip_t hS rfl rfl rfl ?_; clear hS a; intro a hS
      refine L_skip_t hS rfl rfl rfl ?_; clear hS a; intro a hS
      first | (refine L_op (s_e hS (e_pick_t rfl rfl) rfl ?_); clear hS a; intro a hS) | (refine L_op (s_e hS (e_pick_f rfl rfl) rfl ?_); clear hS a; intro a hS)
      exact hcM8 _ _ (hS.ends 4 8 5 rfl (congrArg Value.bool (by first | rfl | (simp [hg5]; done) | (simp [hg5]; omega) | grind)) rfl rfl (by first | exact congrArg Value.bool (decide_eq_false hg5).symm | exact congrArg Value.bool hg5.symm | simp [hg5]) rfl)
  · clear hS a; (try clear w); intro a w hS
    simp only [List.drop_succ_cons, List.drop_zero]
    refine L_op (s_e hS (e_assign rfl) rfl ?_); clear hS a; intro a hS
    refine L_nil ?_
    refine n_then ?_
    refine wp_ret ?_
    refine c_ret1 hS Tryz.results68 (.tmp rfl) ?_
    exact ⟨rfl, hS.chg⟩
set_option maxRecDepth 100000 in
theorem seen_P (c : Int) (w0 : World) : PureC Tryz.prog 92 [.int .u8 c] w0 (.bool (decide (32 < c ∧ c < 127))) := by
  refine c_enter [(0, .int .u8 c)] [] noB Tryz.func92 rfl Tryz.ntmps92 ⟨rfl, trivial⟩ rfl (by simp) (by simp) (by simp) ?_
  intro a hS
  refine c_seq ?_
  refine c_region ?_
  refine L_op (s_e hS (e_assign rfl) rfl ?_); clear hS a; intro a hS
  refine L_nil ?_
  refine n_then ?_
  refine c_seq ?_
  refine c_region ?_
  refine L_op (s_e hS (e_move rfl) rfl ?_); clear hS a; intro a hS
  refine L_op (s_e hS (e_bin rfl rfl rfl) rfl ?_); clear hS a; intro a hS
  refine L_op (s_e hS (e_move rfl) rfl ?_); clear hS a; intro a hS
  refine L_merge 3 8 (.bool (decide (32 < c ∧ c < 127))) hS ?_ ?_
  · intro hcM8
    (first | refine g_splitD (t := 5) hS rfl ?_ ?_ | refine g_split (t := 5) hS rfl ?_ ?_) <;> (clear hS; intro hg5 hS)
    ·
      refine L_go hS rfl rfl (s_e hS (e_move rfl) rfl ?_); clear hS a; intro a hS
      refine L_go hS rfl rfl (s_e hS (e_bin rfl rfl rfl) rfl ?_); clear hS a; intro a hS
      first | (refine L_op (s_e hS (e_pick_t rfl rfl) rfl ?_); clear hS a; intro a hS) | (refine L_op (s_e hS (e_pick_f rfl rfl) rfl ?_); clear hS a; intro a hS)
      exact hcM8 _ _ (hS.ends 4 8 5 rfl (congrArg Value.bool (by first | rfl | (simp [hg5]; done) | (simp [hg5]; omega) | grind)) rfl rfl (by first | exact congrArg Value.bool (decide_eq_true hg5).symm | exact congrArg Value.bool hg5.symm | simp [hg5]) rfl)
    ·
      refine L_skip_t hS rfl rfl rfl ?_; clear hS a; intro a hS
      refine L_skip_t hS rfl rfl rfl ?_; clear hS a; intro a hS
      first | (refine L_op (s_e hS (e_pick_t rfl rfl) rfl ?_); clear hS a; intro a hS) | (refine L_op (s_e hS (e_pick_f rfl rfl) rfl ?_); clear hS a; intro a hS)
      exact hcM8 _ _ (hS.ends 4 8 5 rfl (congrArg Value.bool (by first | rfl | (simp [hg5]; done) | (simp [hg5]; omega) | grind)) rfl rfl (by first | exact congrArg Value.bool (decide_eq_false hg5).symm | exact congrArg Value.bool hg5.symm | simp [hg5]) rfl)
  · clear hS a; (try clear w); intro a w hS
    simp only [List.drop_succ_cons, List.drop_zero]
    refine L_op (s_e hS (e_assign rfl) rfl ?_); clear hS a; intro a hS
    refine L_nil ?_
    refine n_then ?_
    refine wp_ret ?_
    refine c_ret1 hS Tryz.results92 (.tmp rfl) ?_
    exact ⟨rfl, hS.chg⟩
/-- some bytes, so many at most, and no others. -/
def someB (s : ByteArray) (most : Int) (p : Int → Bool) : Bool := decide (s.size ≠ 0 ∧ (s.size : Int) ≤ most) && (List.range s.size).all fun j => p ((s.data.toList.getD j 0).toNat : Int)
theorem b_empty {s : ByteArray} (h : s = ⟨#[]⟩) : s.size = 0 := by subst h; rfl
theorem b_full {s : ByteArray} (h : ¬ s = ⟨#[]⟩) : s.size ≠ 0 := fun e => h (by
  cases s with
  | mk d => have : d = #[] := Array.eq_empty_of_size_eq_zero e
            rw [this])

set_option maxRecDepth 100000 in
theorem some_P (s : ByteArray) (most : Int) (f : Nat) (p : Int → Bool) (hs : s.size ≤ 4611686018427387904) (cff : CallsTo Tryz.prog f) (hf : ∀ (c : Int) w, PureC Tryz.prog f [.int .u8 c] w (.bool (p c))) (w0 : World) :
    PureC Tryz.prog 67 [.string s, .int .i64 most, .func (.func f) #[] #[]] w0 (.bool (someB s most p)) := by
  refine c_enter [(0, .string s), (1, .int .i64 most), (2, .func (.func f) #[] #[])] [] noB Tryz.func67 rfl Tryz.ntmps67 ⟨rfl, rfl, rfl, trivial⟩ rfl (by simp) (by simp) (by simp) ?_
  intro a hS
  refine c_seq ?_
  refine c_region ?_
  refine L_op (s_e hS (e_assign rfl) rfl ?_); clear hS a; intro a hS
  refine L_nil ?_
  refine n_then ?_
  refine c_seq ?_
  refine c_seq ?_
  refine c_region ?_
  refine L_op (s_e hS (e_move rfl) rfl ?_); clear hS a; intro a hS
  refine L_op (s_e hS (e_binS rfl rfl rfl) rfl ?_); clear hS a; intro a hS
  refine L_op (s_e hS (e_move rfl) rfl ?_); clear hS a; intro a hS
  refine L_merge 5 15 (.bool (!decide (s.size ≠ 0 ∧ (s.size : Int) ≤ most))) hS ?_ ?_
  · intro hcM15
    (first | refine g_splitD (t := 10) hS rfl ?_ ?_ | refine g_split (t := 10) hS rfl ?_ ?_) <;> (clear hS; intro hg10 hS)
    ·
      refine L_skip_f hS rfl rfl rfl ?_; clear hS a; intro a hS
      refine L_skip_f hS rfl rfl rfl ?_; clear hS a; intro a hS
      refine L_skip_f hS rfl rfl rfl ?_; clear hS a; intro a hS
      refine L_skip_f hS rfl rfl rfl ?_; clear hS a; intro a hS
      first | (refine L_op (s_e hS (e_pick_t rfl rfl) rfl ?_); clear hS a; intro a hS) | (refine L_op (s_e hS (e_pick_f rfl rfl) rfl ?_); clear hS a; intro a hS)
      exact hcM15 _ _ (hS.ends 6 15 10 rfl (congrArg Value.bool (by rw [decide_eq_false (fun h => h.1 (b_empty hg10))]; rfl)) rfl rfl (by first | exact congrArg Value.bool (decide_eq_true hg10).symm | exact congrArg Value.bool hg10.symm | simp [hg10]) rfl)
    ·
      refine L_go hS rfl rfl (s_e hS (e_move rfl) rfl ?_); clear hS a; intro a hS
      refine L_go hS rfl rfl (s_e hS (e_lenS rfl rfl ty_u9) rfl ?_); clear hS a; intro a hS
      refine L_go hS rfl rfl (s_e hS (e_move rfl) rfl ?_); clear hS a; intro a hS
      refine L_go hS rfl rfl (s_e hS (e_bin rfl rfl rfl) rfl ?_); clear hS a; intro a hS
      first | (refine L_op (s_e hS (e_pick_t rfl rfl) rfl ?_); clear hS a; intro a hS) | (refine L_op (s_e hS (e_pick_f rfl rfl) rfl ?_); clear hS a; intro a hS)
      exact hcM15 _ _ (hS.ends 6 15 10 rfl (congrArg Value.bool (by have := b_full hg10; by_cases h : (s.size : Int) ≤ most; (rw [decide_eq_true (p := s.size ≠ 0 ∧ (s.size : Int) ≤ most) ⟨this, h⟩]; exact decide_eq_false (by omega)); (rw [decide_eq_false (p := s.size ≠ 0 ∧ (s.size : Int) ≤ most) (fun hh => h hh.2)]; exact decide_eq_true (by omega)))) rfl rfl (by first | exact congrArg Value.bool (decide_eq_false hg10).symm | exact congrArg Value.bool hg10.symm | simp [hg10]) rfl)
  · clear hS a; (try clear w); intro a w hS
    simp only [List.drop_succ_cons, List.drop_zero]
    refine L_nil ?_
    refine n_then ?_
    first | refine c_ifD hS rfl (fun hc15 => ?_) (fun hc15 => ?_) | refine c_if hS rfl (fun hc15 => ?_) (fun hc15 => ?_)
    ·
      have hc15 : ¬ (s.size ≠ 0 ∧ (s.size : Int) ≤ most) := of_decide_eq_false (by cases h : decide (s.size ≠ 0 ∧ (s.size : Int) ≤ most) <;> rw [h] at hc15 <;> first | rfl | cases hc15)
      refine c_seq ?_
      refine c_region ?_
      refine L_op (s_e hS (e_assign rfl) rfl ?_); clear hS a; intro a hS
      refine L_nil ?_
      refine n_then ?_
      refine wp_ret ?_
      refine r_then ?_
      refine c_ret1 hS Tryz.results67 (.tmp rfl) ?_
      exact ⟨by unfold someB; rw [decide_eq_false hc15]; rfl, hS.chg⟩
    ·
      have hc15 : s.size ≠ 0 ∧ (s.size : Int) ≤ most := of_decide_eq_true (by cases h : decide (s.size ≠ 0 ∧ (s.size : Int) ≤ most) <;> rw [h] at hc15 <;> first | rfl | cases hc15)
      refine wp_skip ?_
      refine n_then ?_
      refine c_seq ?_
      refine c_seq ?_
      refine c_region ?_
      refine L_op (s_e hS (e_assign rfl) rfl ?_); clear hS a; intro a hS
      refine L_nil ?_
      refine n_then ?_
      refine wp_block ?_
      skip
      refine c_loop (γ := Nat) (fun k a w => St 28 noB w0 a w [(7, .int .i64 (k : Int)), (0, .string s), (2, .func (.func f) #[] #[])] [] ∧ k ≤ s.size ∧ ∀ j, j < k → p ((s.data.toList.getD j 0).toNat : Int) = true) (fun k => s.size - k) 0 ⟨hS.slots (by repeat (first | exact trivial | refine ⟨rfl, ?_⟩)), Nat.zero_le _, fun j hj => by omega⟩ ?_
      clear hS a; (try clear w); intro k a w hI
      obtain ⟨hS, hk, hno⟩ := hI
      refine c_seq ?_
      refine c_seq ?_
      refine c_region ?_
      refine L_op (s_e hS (e_move rfl) rfl ?_); clear hS a; intro a hS
      refine L_op (s_e hS (e_move rfl) rfl ?_); clear hS a; intro a hS
      refine L_op (s_e hS (e_lenS rfl rfl ty_u9) rfl ?_); clear hS a; intro a hS
      refine L_op (s_e hS (e_bin rfl rfl rfl) rfl ?_); clear hS a; intro a hS
      refine L_nil ?_
      refine n_then ?_
      first | refine c_ifD hS rfl (fun hc19 => ?_) (fun hc19 => ?_) | refine c_if hS rfl (fun hc19 => ?_) (fun hc19 => ?_)
      ·
        have hkl : k < s.size := by omega
        refine wp_skip ?_
        refine n_then ?_
        refine c_seq ?_
        refine wp_block ?_
        refine c_seq ?_
        refine c_region ?_
        refine L_op (s_e hS (e_move rfl) rfl ?_); clear hS a; intro a hS
        refine L_op (s_e hS (e_move rfl) rfl ?_); clear hS a; intro a hS
        refine L_op (s_e hS (e_move rfl) rfl ?_); clear hS a; intro a hS
        refine L_op (s_e hS (e_ixS rfl rfl ty_u9 (by omega)) rfl ?_); clear hS a; intro a hS
        refine L_op (s_callvP (cs := []) hS rfl (.cons rfl .nil) cff rfl (hf _ _) ?_); clear hS a; (try clear w); intro a w hS
        refine L_op (s_e hS (e_not rfl) rfl ?_); clear hS a; intro a hS
        refine L_nil ?_
        refine n_then ?_
        first | refine c_ifD hS rfl (fun hc27 => ?_) (fun hc27 => ?_) | refine c_if hS rfl (fun hc27 => ?_) (fun hc27 => ?_)
        ·
          refine c_seq ?_
          refine c_region ?_
          refine L_op (s_e hS (e_assign rfl) rfl ?_); clear hS a; intro a hS
          refine L_nil ?_
          refine n_then ?_
          refine wp_ret ?_
          refine r_block (r_then (r_then (r_block (r_then ?_))))
          refine c_ret1 hS Tryz.results67 (.tmp rfl) ?_
          refine ⟨?_, hS.chg⟩
          unfold someB
          rw [decide_eq_true hc15, Bool.true_and]
          congr 2; symm
          rw [← Bool.not_eq_true, List.all_eq_true]
          intro hh
          have := hh k (List.mem_range.2 hkl)
          simp only [Int.toNat_natCast] at hc27
          rw [this] at hc27; simp at hc27
        ·
          refine wp_skip ?_
          refine n_block ?_
          refine n_then ?_
          refine c_region ?_
          refine L_op (s_e hS (e_move rfl) rfl ?_); clear hS a; intro a hS
          first | (refine L_op (s_e hS (e_binN rfl rfl rfl (by omega)) rfl ?_); clear hS a; intro a hS) | (refine L_op (s_e hS (e_bin rfl rfl rfl) rfl ?_); clear hS a; intro a hS)
          refine L_op (s_e hS (e_assign rfl) rfl ?_); clear hS a; intro a hS
          refine L_nil ?_
          exact ⟨k + 1, by omega, hS.slots (by repeat (first | exact trivial | refine ⟨rfl, ?_⟩)), by omega, fun j hj => by
          rcases Nat.lt_or_ge j k with h | h
          · exact hno j h
          obtain rfl : j = k := (by omega)
          simp only [Int.toNat_natCast] at hc27
          simpa using hc27⟩
      ·
        refine wp_exit ?_
        refine x_then (x_then (x_hit ?_))
        refine n_then ?_
        refine c_seq ?_
        refine c_region ?_
        refine L_op (s_e hS (e_assign rfl) rfl ?_); clear hS a; intro a hS
        refine L_nil ?_
        refine n_then ?_
        refine wp_ret ?_
        refine c_ret1 hS Tryz.results67 (.tmp rfl) ?_
        exact ⟨by
        unfold someB
        rw [decide_eq_true hc15, Bool.true_and]
        congr 2; symm
        rw [List.all_eq_true]
        intro j hj
        exact hno j (by have := List.mem_range.1 hj; omega), hS.chg⟩
def pathB (s : ByteArray) : Bool := someB s 200 (fun c => decide (32 < c ∧ c < 127)) && decide (((s.data.toList.getD 0 0).toNat : Int) = 47)
theorem some_pos {s : ByteArray} {most : Int} {p : Int → Bool} (h : someB s most p = true) : 0 < s.size := by
  unfold someB at h
  have := of_decide_eq_true (Bool.and_eq_true_iff.1 h).1
  omega
set_option maxRecDepth 100000 in
theorem isPath_P (s : ByteArray) (hs : s.size ≤ 4611686018427387904) (w0 : World) : PureC Tryz.prog 69 [.string s] w0 (.bool (pathB s)) := by
  refine c_enter [(0, .string s)] [] noB Tryz.func69 rfl Tryz.ntmps69 ⟨rfl, trivial⟩ rfl (by simp) (by simp) (by simp) ?_
  intro a hS
  refine c_seq ?_
  refine c_region ?_
  refine L_op (s_e hS (e_assign rfl) rfl ?_); clear hS a; intro a hS
  refine L_nil ?_
  refine n_then ?_
  refine c_seq ?_
  refine c_region ?_
  refine L_op (s_e hS (e_move rfl) rfl ?_); clear hS a; intro a hS
  refine L_op (s_callP hS (.cons rfl (.cons rfl (.cons rfl .nil))) cf67 rfl (some_P s 200 92 (fun c => decide (32 < c ∧ c < 127)) hs cf92 seen_P _) ?_); clear hS a; (try clear w); intro a w hS
  refine L_op (s_e hS (e_move rfl) rfl ?_); clear hS a; intro a hS
  refine L_merge 4 9 (.bool (pathB s)) hS ?_ ?_
  · intro hcM9
    (first | refine g_splitD (t := 5) hS rfl ?_ ?_ | refine g_split (t := 5) hS rfl ?_ ?_) <;> (clear hS; intro hg5 hS)
    ·
      have hpos := some_pos hg5
      refine L_go hS rfl rfl (s_e hS (e_move rfl) rfl ?_); clear hS a; intro a hS
      refine L_go hS rfl rfl (s_e hS (e_ixS rfl rfl ty_u9 (by omega)) rfl ?_); clear hS a; intro a hS
      refine L_go hS rfl rfl (s_e hS (e_bin rfl rfl rfl) rfl ?_); clear hS a; intro a hS
      first | (refine L_op (s_e hS (e_pick_t rfl rfl) rfl ?_); clear hS a; intro a hS) | (refine L_op (s_e hS (e_pick_f rfl rfl) rfl ?_); clear hS a; intro a hS)
      exact hcM9 _ _ (hS.ends 5 9 5 rfl (congrArg Value.bool (by unfold pathB; rw [hg5, Bool.true_and]; rfl)) rfl rfl (by first | exact congrArg Value.bool (decide_eq_true hg5).symm | exact congrArg Value.bool hg5.symm | simp [hg5]) rfl)
    ·
      refine L_skip_t hS rfl rfl rfl ?_; clear hS a; intro a hS
      refine L_skip_t hS rfl rfl rfl ?_; clear hS a; intro a hS
      refine L_skip_t hS rfl rfl rfl ?_; clear hS a; intro a hS
      first | (refine L_op (s_e hS (e_pick_t rfl rfl) rfl ?_); clear hS a; intro a hS) | (refine L_op (s_e hS (e_pick_f rfl rfl) rfl ?_); clear hS a; intro a hS)
      exact hcM9 _ _ (hS.ends 5 9 5 rfl (congrArg Value.bool (by unfold pathB; rw [hg5, Bool.false_and])) rfl rfl (by first | exact congrArg Value.bool (decide_eq_false hg5).symm | exact congrArg Value.bool hg5.symm | simp [hg5]) rfl)
  · clear hS a; (try clear w); intro a w hS
    simp only [List.drop_succ_cons, List.drop_zero]
    refine L_op (s_e hS (e_assign rfl) rfl ?_); clear hS a; intro a hS
    refine L_nil ?_
    refine n_then ?_
    refine wp_ret ?_
    refine c_ret1 hS Tryz.results69 (.tmp rfl) ?_
    exact ⟨rfl, hS.chg⟩
end Go.Proofs.YtjmkjkhcognoeaaGreatDoor

namespace Go.Proofs.YtjmkjkhcognoeaaGreatDoor
open Go.RowKit

def sReq : ByteArray := ⟨#[71, 69, 84, 32, 47, 104, 101, 97, 108, 116, 104, 32, 72, 84, 84, 80, 47, 49, 46, 49]⟩
def sGet : ByteArray := ⟨#[71, 69, 84]⟩
def sHealth : ByteArray := ⟨#[47, 104, 101, 97, 108, 116, 104]⟩
def sVer : ByteArray := ⟨#[72, 84, 84, 80, 47, 49, 46, 49]⟩
def sSp : ByteArray := ⟨#[32]⟩
theorem req_split : Lib.splitB sSp 0 (Lib.countB sReq sSp) sReq = [sGet, sHealth, sVer] := by decide +kernel
theorem req_count : Lib.countB sReq sSp = 2 := by decide +kernel
theorem get_big : someB sGet 10 (fun c => decide (65 ≤ c ∧ c ≤ 90)) = true := by decide +kernel
theorem health_path : pathB sHealth = true := by decide +kernel

theorem Split_req (m : Int) (w : World) (hm : w.cell? ⟨1, 0, none⟩ = some (.int .i64 m)) : NewC Tryz.prog 66 [.string sReq, .string sSp] w (fun b : Nat => .slice (some ⟨b, 0, none⟩) 3 3) (fun b => .blk b [.string sGet, .string sHealth, .string sVer] 9) := by
  have h := Tryz.strings_Split sReq sSp m w (by decide) hm (by decide)
  rw [req_split, req_count] at h
  refine h.mono fun e w' ⟨he, hw⟩ => ⟨w.heap.size, he, hw ▸ Chg.alloc _ _ _, ok_blk ?_, fun b hb => ?_⟩
  · rw [hw]; exact Go.World.alloc_heap_new w _
  · have : b = w.heap.size := hb; omega

set_option maxRecDepth 100000 in
theorem first_req (m : Int) (w0 : World) (hm : w0.cell? ⟨1, 0, none⟩ = some (.int .i64 m)) : PureC Tryz.prog 53 [.string sReq] w0 (.tuple [.agg [.string sGet, .string sHealth, .slice none 0 0, .bool false].toArray, .int .i64 0].toArray) := by
  refine c_enter [(0, .string sReq)] [ceA 1 0 (.int .i64 m)] noB Tryz.func53 rfl Tryz.ntmps53 ⟨rfl, trivial⟩ rfl (okC (ce_ok hm) okN) dis1 (mineC (by rfl) mineN) ?_
  intro a hS
  refine c_seq ?_
  refine c_region ?_
  refine L_op (s_alloc hS ty_z35 rfl ?_); clear hS a; (try clear w); intro a w b2 hS
  refine L_op (s_e hS (e_assign rfl) rfl ?_); clear hS a; intro a hS
  refine L_nil ?_
  refine n_then ?_
  refine c_seq ?_
  refine c_region ?_
  refine L_op (s_e hS (e_move rfl) rfl ?_); clear hS a; intro a hS
  refine L_op (s_callN hS (.cons rfl (.cons rfl .nil)) cf66 rfl (Split_req m _ (hS.get (X := ceA 1 0 (.int .i64 m)) (by repeat constructor))) ?_); clear hS a; (try clear w); intro x6 a w hS
  refine L_op (s_e hS (e_assign rfl) rfl ?_); clear hS a; intro a hS
  refine L_nil ?_
  refine n_then ?_
  refine c_seq ?_
  refine c_seq ?_
  refine c_region ?_
  refine L_op (s_e hS (e_move rfl) rfl ?_); clear hS a; intro a hS
  refine L_op (s_e hS (e_len rfl rfl ty_sl45) rfl ?_); clear hS a; intro a hS
  refine L_op (s_e hS (e_bin rfl rfl rfl) rfl ?_); clear hS a; intro a hS
  refine L_op (s_e hS (e_move rfl) rfl ?_); clear hS a; intro a hS
  replace hS := hS.is (t := 10) (c := false) rfl ((by decide))
  refine L_go hS rfl rfl (s_e hS (e_move rfl) rfl ?_); clear hS a; intro a hS
  refine L_go hS rfl rfl (s_e hS (e_ix rfl rfl ty_sl45 ty_sz9 (by omega)) rfl ?_); clear hS a; intro a hS
  refine L_go hS rfl rfl (s_e hS (e_load rfl (by repeat constructor) ty_sc9 (by rfl)) rfl ?_); clear hS a; intro a hS
  refine L_go hS rfl rfl (s_callP hS (.cons rfl (.cons rfl (.cons rfl .nil))) cf67 rfl (some_P sGet 10 68 (fun c => decide (65 ≤ c ∧ c ≤ 90)) (by decide) cf68 big_P _) ?_); clear hS a; (try clear w); intro a w hS
  rw [get_big] at hS
  refine L_go hS rfl rfl (s_e hS (e_not rfl) rfl ?_); clear hS a; intro a hS
  first | (refine L_op (s_e hS (e_pick_t rfl rfl) rfl ?_); clear hS a; intro a hS) | (refine L_op (s_e hS (e_pick_f rfl rfl) rfl ?_); clear hS a; intro a hS)
  refine L_op (s_e hS (e_move rfl) rfl ?_); clear hS a; intro a hS
  replace hS := hS.is (t := 17) (c := false) rfl (rfl)
  refine L_go hS rfl rfl (s_e hS (e_move rfl) rfl ?_); clear hS a; intro a hS
  refine L_go hS rfl rfl (s_e hS (e_ix rfl rfl ty_sl45 ty_sz9 (by omega)) rfl ?_); clear hS a; intro a hS
  refine L_go hS rfl rfl (s_e hS (e_load rfl (by repeat constructor) ty_sc9 (by rfl)) rfl ?_); clear hS a; intro a hS
  refine L_go hS rfl rfl (s_callP hS (.cons rfl .nil) cf69 rfl (isPath_P sHealth (by decide) _) ?_); clear hS a; (try clear w); intro a w hS
  rw [health_path] at hS
  refine L_go hS rfl rfl (s_e hS (e_not rfl) rfl ?_); clear hS a; intro a hS
  first | (refine L_op (s_e hS (e_pick_t rfl rfl) rfl ?_); clear hS a; intro a hS) | (refine L_op (s_e hS (e_pick_f rfl rfl) rfl ?_); clear hS a; intro a hS)
  refine L_op (s_e hS (e_move rfl) rfl ?_); clear hS a; intro a hS
  replace hS := hS.is (t := 24) (c := false) rfl (rfl)
  refine L_go hS rfl rfl (s_e hS (e_move rfl) rfl ?_); clear hS a; intro a hS
  refine L_go hS rfl rfl (s_e hS (e_ix rfl rfl ty_sl45 ty_sz9 (by omega)) rfl ?_); clear hS a; intro a hS
  refine L_go hS rfl rfl (s_e hS (e_load rfl (by repeat constructor) ty_sc9 (by rfl)) rfl ?_); clear hS a; intro a hS
  refine L_go hS rfl rfl (s_e hS (e_binS rfl rfl rfl) rfl ?_); clear hS a; intro a hS
  first | (refine L_op (s_e hS (e_pick_t rfl rfl) rfl ?_); clear hS a; intro a hS) | (refine L_op (s_e hS (e_pick_f rfl rfl) rfl ?_); clear hS a; intro a hS)
  refine L_nil ?_
  refine n_then ?_
  replace hS := hS.is (t := 29) (c := false) rfl ((by decide))
  refine c_if_f hS rfl ?_
  refine wp_skip ?_
  refine n_then ?_
  refine c_seq ?_
  refine c_seq ?_
  refine c_region ?_
  refine L_op (s_e hS (e_move rfl) rfl ?_); clear hS a; intro a hS
  refine L_op (s_e hS (e_ix rfl rfl ty_sl45 ty_sz9 (by omega)) rfl ?_); clear hS a; intro a hS
  refine L_op (s_e hS (e_load rfl (by repeat constructor) ty_sc9 (by rfl)) rfl ?_); clear hS a; intro a hS
  refine L_op (s_e hS (e_binS rfl rfl rfl) rfl ?_); clear hS a; intro a hS
  refine L_op (s_e hS (e_move rfl) rfl ?_); clear hS a; intro a hS
  replace hS := hS.is (t := 35) (c := false) rfl ((by decide))
  refine L_skip_t hS rfl rfl rfl ?_; clear hS a; intro a hS
  refine L_skip_t hS rfl rfl rfl ?_; clear hS a; intro a hS
  refine L_skip_t hS rfl rfl rfl ?_; clear hS a; intro a hS
  refine L_skip_t hS rfl rfl rfl ?_; clear hS a; intro a hS
  first | (refine L_op (s_e hS (e_pick_t rfl rfl) rfl ?_); clear hS a; intro a hS) | (refine L_op (s_e hS (e_pick_f rfl rfl) rfl ?_); clear hS a; intro a hS)
  refine L_nil ?_
  refine n_then ?_
  refine c_if_f hS rfl ?_
  refine wp_skip ?_
  refine n_then ?_
  refine c_seq ?_
  refine c_draw1 [7] (by kernel_rfl) hS ?_; clear hS; (try clear w); intro w hS
  simp only [List.length_cons, List.length_nil, Nat.zero_add, Nat.reduceAdd, List.replicate]
  refine Z_take0 (i := 0) hS rfl want_none (e_move rfl) (listed' := [true, false, false, false, false, false, false, false, false]) rfl (by kernel_rfl) (by kernel_rfl) (by kernel_rfl) (fun _ _ _ h => h) rfl ?_; clear hS a; intro a hS
  refine Z_take0 (i := 1) hS rfl want_none (e_ix rfl rfl ty_sl45 ty_sz9 (by omega)) (listed' := [true, true, false, false, false, false, false, false, false]) rfl (by kernel_rfl) (by kernel_rfl) (by kernel_rfl) (fun _ _ _ h => h) rfl ?_; clear hS a; intro a hS
  refine Z_take (i := 2) hS rfl want_none (e_load rfl (by repeat constructor) ty_sc9 (by rfl)) (listed' := [true, true, true, false, false, false, false, false, false]) rfl (by kernel_rfl) (by kernel_rfl) (by kernel_rfl) (by kernel_rfl) (by kernel_rfl) (by intro X hX; repeat (first | exact hX | apply List.Mem.tail)) (fun _ _ _ h => h) rfl ?_; clear hS a; intro a hS
  refine Z_take0 (i := 3) hS rfl want_none (e_move rfl) (listed' := [true, true, true, true, false, false, false, false, false]) rfl (by kernel_rfl) (by kernel_rfl) (by kernel_rfl) (fun _ _ _ h => h) rfl ?_; clear hS a; intro a hS
  refine Z_take0 (i := 4) hS rfl want_none (e_ix rfl rfl ty_sl45 ty_sz9 (by omega)) (listed' := [true, true, true, true, true, false, false, false, false]) rfl (by kernel_rfl) (by kernel_rfl) (by kernel_rfl) (fun _ _ _ h => h) rfl ?_; clear hS a; intro a hS
  refine Z_take (i := 5) hS rfl want_none (e_load rfl (by repeat constructor) ty_sc9 (by rfl)) (listed' := [true, true, true, true, true, true, false, false, false]) rfl (by kernel_rfl) (by kernel_rfl) (by kernel_rfl) (by kernel_rfl) (by kernel_rfl) (by intro X hX; repeat (first | exact hX | apply List.Mem.tail)) (fun _ _ _ h => h) rfl ?_; clear hS a; intro a hS
  refine Z_take0 (i := 6) hS rfl want_none (e_build ty_z35 ty_pl35 (.one rfl rfl rfl (by repeat constructor) (.one rfl rfl rfl (by repeat constructor) .nil))) (listed' := [true, true, true, true, true, true, true, false, false]) rfl (by kernel_rfl) (by kernel_rfl) (by kernel_rfl) (fun _ _ _ h => h) rfl ?_; clear hS a; intro a hS
  refine Z_one (i := 7) rfl (want_none a hS.sl) (listed' := [true, true, true, true, true, true, true, true, false]) rfl (by kernel_rfl) (s_storeA hS rfl rfl ty_sz35 (by repeat constructor) (by rfl) (by rfl) (by rfl) ?_); clear hS; (try clear w); intro w hS
  refine Z_last (by simp) ?_
  refine Z_take0 (i := 8) hS rfl want_none (e_assign rfl) (listed' := [true, true, true, true, true, true, true, true, true]) rfl (by kernel_rfl) (by kernel_rfl) (by kernel_rfl) (fun _ _ _ h => h) rfl ?_; clear hS a; intro a hS
  refine Z_done (by kernel_rfl) ?_
  refine n_then ?_
  refine wp_ret ?_
  refine c_retN hS Tryz.results53 (.cons (.cellA rfl (by repeat constructor) ty_st35 ty_sz35 (by rfl)) (.cons (.tmp rfl) .nil)) rfl ?_
  exact ⟨rfl, hS.chg⟩
end Go.Proofs.YtjmkjkhcognoeaaGreatDoor

namespace Go.Proofs.YtjmkjkhcognoeaaGreatDoor
open Go.RowKit

/-- what one byte decides of the line that it stands in. -/
def lineAt (l : List Int) (i : Nat) : Option (Int × Int) :=
  if l.getD i 0 = 10 ∨ (l.getD i 0 = 13 ∧ i + 1 < l.length ∧ l.getD (i + 1) 0 ≠ 10) then some (-1, 10)
  else if l.getD i 0 = 13 ∧ i + 1 < l.length then some ((i : Int), 0)
  else if l.getD i 0 = 13 then some (-1, 0)
  else if i = 1000 then some (-1, 8) else none
def lineF (l : List Int) : Int × Int := ((List.range l.length).findSome? (lineAt l)).getD (-1, 0)
theorem find_at {α : Type} {f : Nat → Option α} {v : α} {k : Nat} : ∀ {n : Nat}, (∀ j, j < k → f j = none) → f k = some v → k < n → (List.range n).findSome? f = some v := by
  intro n h0 h1 hk
  rw [List.findSome?_eq_some_iff]
  refine ⟨List.range k, k, (List.range' (k + 1) (n - (k + 1))), ?_, h1, fun x hx => h0 x (List.mem_range.1 hx)⟩
  rw [List.range_eq_range', List.range_eq_range', show n = k + (1 + (n - (k + 1))) by omega, ← List.range'_append_1, ← List.range'_append_1]
  simp [Nat.add_comm, Nat.add_left_comm]
  try congr 1 <;> omega
theorem line_at {l : List Int} {k : Nat} {v : Int × Int} (h0 : ∀ j, j < k → lineAt l j = none) (h1 : lineAt l k = some v) (hk : k < l.length) : lineF l = v := by
  unfold lineF; rw [find_at h0 h1 hk]; rfl
theorem line_no {l : List Int} (h0 : ∀ j, j < l.length → lineAt l j = none) : lineF l = (-1, 0) := by
  unfold lineF
  rw [List.findSome?_eq_none_iff.2 (fun x hx => h0 x (List.mem_range.1 hx))]
  rfl

set_option maxRecDepth 100000 in
theorem line_P (v : Value) (l : List Int) (hlen : l.length ≤ 4611686018427387904) (w0 : World) (h : ByAt v l w0) : PureC Tryz.prog 52 [v] w0 (.tuple [.int .i64 (lineF l).1, .int .i64 (lineF l).2].toArray) := by
   obtain ⟨q, c, rfl⟩ := h.shape
   refine c_enter [(0, .slice q l.length c)] [byA (.slice q l.length c) l] noB Tryz.func52 rfl Tryz.ntmps52 ⟨rfl, trivial⟩ rfl (okC (by_ok h) okN) dis1 (mineC (by rfl) mineN) ?_
   intro a hS
   refine c_seq ?_
   refine c_region ?_
   refine L_op (s_e hS (e_assign rfl) rfl ?_); clear hS a; intro a hS
   refine L_op (s_e hS (e_assign rfl) rfl ?_); clear hS a; intro a hS
   refine L_nil ?_
   refine n_then ?_
   refine c_seq ?_
   refine c_seq ?_
   refine c_region ?_
   refine L_op (s_e hS (e_move rfl) rfl ?_); clear hS a; intro a hS
   refine L_op (s_e hS (e_len rfl rfl ty_sl22) rfl ?_); clear hS a; intro a hS
   refine L_op (s_e hS (e_move rfl) rfl ?_); clear hS a; intro a hS
   refine L_nil ?_
   refine n_then ?_
   refine wp_block ?_
   skip
   refine c_loop (γ := Nat) (fun k a w => St 53 noB w0 a w [(8, .int .i64 (k : Int)), (7, .int .i64 (l.length : Int)), (6, .slice q l.length c), (0, .slice q l.length c)] [byA (.slice q l.length c) l] ∧ k ≤ l.length ∧ ∀ j, j < k → lineAt l j = none) (fun k => l.length - k) 0 ⟨hS.slots ⟨rfl, rfl, rfl, rfl, trivial⟩, Nat.zero_le _, fun j hj => by omega⟩ ?_
   clear hS a; (try clear w); intro k a w hI
   obtain ⟨hS, hk, hno⟩ := hI
   refine c_seq ?_
   refine c_region ?_
   refine L_op (s_e hS (e_bin rfl rfl rfl) rfl ?_); clear hS a; intro a hS
   refine L_nil ?_
   refine n_then ?_
   refine c_seq ?_
   first | refine c_ifD hS rfl (fun hc9 => ?_) (fun hc9 => ?_) | refine c_if hS rfl (fun hc9 => ?_) (fun hc9 => ?_)
   ·
     have hkl : k < l.length := by omega
     obtain ⟨x, hx⟩ : ∃ x, l[k]? = some x := ⟨l[k], by simp⟩
     have hgx : l.getD k 0 = x := by rw [List.getD_eq_getElem?_getD, hx]; rfl
     obtain ⟨b, off, c', e1, _, hcell⟩ := h.some (fun e => by rw [e] at hkl; exact absurd hkl (Nat.not_lt_zero _))
     injection e1 with e2 _ e3
     subst e2; subst e3
     refine wp_skip ?_
     refine n_then ?_
     refine c_seq ?_
     refine wp_block ?_
     refine c_seq ?_
     refine c_region ?_
     refine L_op (s_e hS (e_move rfl) rfl ?_); clear hS a; intro a hS
     refine L_op (s_e hS (e_ixN rfl rfl ty_sl22 ty_sz5 (by omega)) rfl ?_); clear hS a; intro a hS
     refine L_op (s_e hS (e_loadC rfl ty_sc5 (fun w hh => by
 obtain ⟨b2, o2, c2, e4, _, hr⟩ := ByAt.some (hh (byA _ l) (by repeat constructor)) (fun e => by rw [e] at hkl; exact absurd hkl (Nat.not_lt_zero _))
 injection e4 with e5; injection e5 with e6; injection e6 with e7 e8; subst e7; subst e8
 rw [Nat.mul_one]; exact hr _ _ hx)) rfl ?_); clear hS a; intro a hS
     refine L_op (s_e hS (e_assign rfl) rfl ?_); clear hS a; intro a hS
     refine L_op (s_e hS (e_assign rfl) rfl ?_); clear hS a; intro a hS
     refine L_nil ?_
     refine n_then ?_
     refine wp_block ?_
     refine c_seq ?_
     refine c_region ?_
     refine L_op (s_e hS (e_move rfl) rfl ?_); clear hS a; intro a hS
     refine L_op (s_e hS (e_bin rfl rfl rfl) rfl ?_); clear hS a; intro a hS
     refine L_op (s_e hS (e_move rfl) rfl ?_); clear hS a; intro a hS
     refine L_merge 18 34 (.bool (decide (x = 10 ∨ (x = 13 ∧ k + 1 < l.length ∧ l.getD (k + 1) 0 ≠ 10)))) hS ?_ ?_
     · intro hcM34
       (first | refine g_splitD (t := 16) hS rfl ?_ ?_ | refine g_split (t := 16) hS rfl ?_ ?_) <;> (clear hS; intro hg16 hS)
       ·
         refine L_skip_f hS rfl rfl rfl ?_; clear hS a; intro a hS
         refine L_skip_f hS rfl rfl rfl ?_; clear hS a; intro a hS
         refine L_skip_f hS rfl rfl rfl ?_; clear hS a; intro a hS
         refine L_skip_u hS rfl rfl rfl ?_; clear hS a; intro a hS
         refine L_skip_u hS rfl rfl rfl ?_; clear hS a; intro a hS
         refine L_skip_u hS rfl rfl rfl ?_; clear hS a; intro a hS
         refine L_skip_u hS rfl rfl rfl ?_; clear hS a; intro a hS
         refine L_skip_u hS rfl rfl rfl ?_; clear hS a; intro a hS
         refine L_skip_f hS rfl rfl rfl ?_; clear hS a; intro a hS
         refine L_skip_f hS rfl rfl rfl ?_; clear hS a; intro a hS
         refine L_skip_u hS rfl rfl rfl ?_; clear hS a; intro a hS
         refine L_skip_u hS rfl rfl rfl ?_; clear hS a; intro a hS
         refine L_skip_u hS rfl rfl rfl ?_; clear hS a; intro a hS
         refine L_skip_u hS rfl rfl rfl ?_; clear hS a; intro a hS
         refine L_skip_u hS rfl rfl rfl ?_; clear hS a; intro a hS
         refine L_skip_u hS rfl rfl rfl ?_; clear hS a; intro a hS
         refine L_skip_f hS rfl rfl rfl ?_; clear hS a; intro a hS
         first | (refine L_op (s_e hS (e_pick_t rfl rfl) rfl ?_); clear hS a; intro a hS) | (refine L_op (s_e hS (e_pick_f rfl rfl) rfl ?_); clear hS a; intro a hS)
         exact hcM34 _ _ (hS.ends 19 34 16 rfl (congrArg Value.bool (by first | rfl | (simp [hg16]; done) | (simp [hg16]; omega) | grind)) rfl rfl (by first | exact congrArg Value.bool (decide_eq_true hg16).symm | exact congrArg Value.bool hg16.symm | simp [hg16]) rfl)
       ·
         refine L_go hS rfl rfl (s_e hS (e_move rfl) rfl ?_); clear hS a; intro a hS
         refine L_go hS rfl rfl (s_e hS (e_bin rfl rfl rfl) rfl ?_); clear hS a; intro a hS
         refine L_go hS rfl rfl (s_e hS (e_move rfl) rfl ?_); clear hS a; intro a hS
         refine L_merge 6 25 (.bool (decide (x = 13 ∧ k + 1 < l.length))) hS ?_ ?_
         · intro hcM25
           (first | refine g_splitD (t := 19) hS rfl ?_ ?_ | refine g_split (t := 19) hS rfl ?_ ?_) <;> (clear hS; intro hg19 hS)
           ·
             refine L_go hS rfl rfl (s_e hS (e_move rfl) rfl ?_); clear hS a; intro a hS
             first | (refine L_go hS rfl rfl (s_e hS (e_binN rfl rfl rfl (by omega)) rfl ?_); clear hS a; intro a hS) | (refine L_go hS rfl rfl (s_e hS (e_bin rfl rfl rfl) rfl ?_); clear hS a; intro a hS)
             refine L_go hS rfl rfl (s_e hS (e_move rfl) rfl ?_); clear hS a; intro a hS
             refine L_go hS rfl rfl (s_e hS (e_len rfl rfl ty_sl22) rfl ?_); clear hS a; intro a hS
             refine L_go hS rfl rfl (s_e hS (e_bin rfl rfl rfl) rfl ?_); clear hS a; intro a hS
             first | (refine L_go hS rfl rfl (s_e hS (e_pick_t rfl rfl) rfl ?_); clear hS a; intro a hS) | (refine L_go hS rfl rfl (s_e hS (e_pick_f rfl rfl) rfl ?_); clear hS a; intro a hS)
             exact hcM25 _ _ (hS.ends 7 25 19 rfl (congrArg Value.bool (by exact decide_eq_decide.2 (by omega))) rfl rfl (by first | exact congrArg Value.bool (decide_eq_true hg19).symm | exact congrArg Value.bool hg19.symm | simp [hg19]) rfl)
           ·
             refine L_skip_t hS rfl rfl rfl ?_; clear hS a; intro a hS
             refine L_skip_t hS rfl rfl rfl ?_; clear hS a; intro a hS
             refine L_skip_t hS rfl rfl rfl ?_; clear hS a; intro a hS
             refine L_skip_t hS rfl rfl rfl ?_; clear hS a; intro a hS
             refine L_skip_t hS rfl rfl rfl ?_; clear hS a; intro a hS
             first | (refine L_go hS rfl rfl (s_e hS (e_pick_t rfl rfl) rfl ?_); clear hS a; intro a hS) | (refine L_go hS rfl rfl (s_e hS (e_pick_f rfl rfl) rfl ?_); clear hS a; intro a hS)
             exact hcM25 _ _ (hS.ends 7 25 19 rfl (congrArg Value.bool (by exact (decide_eq_false (fun h => hg19 h.1)).symm)) rfl rfl (by first | exact congrArg Value.bool (decide_eq_false hg19).symm | exact congrArg Value.bool hg19.symm | simp [hg19]) rfl)
         · clear hS a; (try clear w); intro a w hS
           simp only [List.drop_succ_cons, List.drop_zero]
           refine L_go hS rfl rfl (s_e hS (e_move rfl) rfl ?_); clear hS a; intro a hS
           refine L_merge 7 33 (.bool (decide (x = 13 ∧ k + 1 < l.length ∧ l.getD (k + 1) 0 ≠ 10))) hS ?_ ?_
           · intro hcM33
             (first | refine g_splitD (t := 26) hS rfl ?_ ?_ | refine g_split (t := 26) hS rfl ?_ ?_) <;> (clear hS; intro hg26 hS)
             ·
               obtain ⟨y, hy⟩ : ∃ y, l[k + 1]? = some y := ⟨l[k + 1]'(by omega), List.getElem?_eq_getElem (by omega)⟩
               have hgy : l.getD (k + 1) 0 = y := by rw [List.getD_eq_getElem?_getD, hy]; rfl
               refine L_go hS rfl rfl (s_e hS (e_move rfl) rfl ?_); clear hS a; intro a hS
               refine L_go hS rfl rfl (s_e hS (e_move rfl) rfl ?_); clear hS a; intro a hS
               first | (refine L_go hS rfl rfl (s_e hS (e_binN rfl rfl rfl (by omega)) rfl ?_); clear hS a; intro a hS) | (refine L_go hS rfl rfl (s_e hS (e_bin rfl rfl rfl) rfl ?_); clear hS a; intro a hS)
               refine L_go hS rfl rfl (s_e hS (e_ix rfl rfl ty_sl22 ty_sz5 (by omega)) rfl ?_); clear hS a; intro a hS
               refine L_go hS rfl rfl (s_e hS (e_loadC rfl ty_sc5 (fun w hh => by
 obtain ⟨b2, o2, c2, e4, _, hr⟩ := ByAt.some (hh (byA _ l) (by repeat constructor)) (fun e => by rw [e] at hkl; exact absurd hkl (Nat.not_lt_zero _))
 injection e4 with e5; injection e5 with e6; injection e6 with e7 e8; subst e7; subst e8
 rw [Nat.mul_one, show ((k : Int) + 1).toNat = k + 1 by omega]; exact hr _ _ hy)) rfl ?_); clear hS a; intro a hS
               refine L_go hS rfl rfl (s_e hS (e_bin rfl rfl rfl) rfl ?_); clear hS a; intro a hS
               first | (refine L_go hS rfl rfl (s_e hS (e_pick_t rfl rfl) rfl ?_); clear hS a; intro a hS) | (refine L_go hS rfl rfl (s_e hS (e_pick_f rfl rfl) rfl ?_); clear hS a; intro a hS)
               exact hcM33 _ _ (hS.ends 8 33 26 rfl (congrArg Value.bool (by first | rfl | (simp [hg26]; done) | (simp [hg26]; omega) | grind)) rfl rfl (by first | exact congrArg Value.bool (decide_eq_true hg26).symm | exact congrArg Value.bool hg26.symm | simp [hg26]) rfl)
             ·
               refine L_skip_t hS rfl rfl rfl ?_; clear hS a; intro a hS
               refine L_skip_t hS rfl rfl rfl ?_; clear hS a; intro a hS
               refine L_skip_t hS rfl rfl rfl ?_; clear hS a; intro a hS
               refine L_skip_t hS rfl rfl rfl ?_; clear hS a; intro a hS
               refine L_skip_t hS rfl rfl rfl ?_; clear hS a; intro a hS
               refine L_skip_t hS rfl rfl rfl ?_; clear hS a; intro a hS
               first | (refine L_go hS rfl rfl (s_e hS (e_pick_t rfl rfl) rfl ?_); clear hS a; intro a hS) | (refine L_go hS rfl rfl (s_e hS (e_pick_f rfl rfl) rfl ?_); clear hS a; intro a hS)
               exact hcM33 _ _ (hS.ends 8 33 26 rfl (congrArg Value.bool (by first | rfl | (simp [hg26]; done) | (simp [hg26]; omega) | grind)) rfl rfl (by first | exact congrArg Value.bool (decide_eq_false hg26).symm | exact congrArg Value.bool hg26.symm | simp [hg26]) rfl)
           · clear hS a; (try clear w); intro a w hS
             simp only [List.drop_succ_cons, List.drop_zero]
             first | (refine L_op (s_e hS (e_pick_t rfl rfl) rfl ?_); clear hS a; intro a hS) | (refine L_op (s_e hS (e_pick_f rfl rfl) rfl ?_); clear hS a; intro a hS)
             exact hcM34 _ _ (hS.ends 8 34 16 rfl (congrArg Value.bool (by first | rfl | (simp [hg16]; done) | (simp [hg16]; omega) | grind)) rfl rfl (by first | exact congrArg Value.bool (decide_eq_false hg16).symm | exact congrArg Value.bool hg16.symm | simp [hg16]) rfl)
     · clear hS a; (try clear w); intro a w hS
       simp only [List.drop_succ_cons, List.drop_zero]
       refine L_op (s_e hS (e_assign rfl) rfl ?_); clear hS a; intro a hS
       refine L_nil ?_
       refine n_then ?_
       first | refine c_ifD hS rfl (fun hc13 => ?_) (fun hc13 => ?_) | refine c_if hS rfl (fun hc13 => ?_) (fun hc13 => ?_)
       ·
         refine c_seq ?_
         refine c_region ?_
         refine L_op (s_e hS (e_assign rfl) rfl ?_); clear hS a; intro a hS
         refine L_op (s_e hS (e_assign rfl) rfl ?_); clear hS a; intro a hS
         refine L_nil ?_
         refine n_then ?_
         refine wp_ret ?_
         refine r_block (r_block (r_then (r_then (r_block (r_then ?_)))))
         refine c_retN hS Tryz.results52 (.cons (.tmp rfl) (.cons (.tmp rfl) .nil)) rfl ?_
         exact ⟨by rw [line_at hno (v := (-1, 10)) (by unfold lineAt; rw [hgx, if_pos hc13]) hkl], hS.chg⟩
       ·
         refine c_seq ?_
         refine c_region ?_
         refine L_op (s_e hS (e_move rfl) rfl ?_); clear hS a; intro a hS
         refine L_op (s_e hS (e_bin rfl rfl rfl) rfl ?_); clear hS a; intro a hS
         refine L_op (s_e hS (e_move rfl) rfl ?_); clear hS a; intro a hS
         refine L_merge 6 44 (.bool (decide (x = 13 ∧ k + 1 < l.length))) hS ?_ ?_
         · intro hcM44
           (first | refine g_splitD (t := 38) hS rfl ?_ ?_ | refine g_split (t := 38) hS rfl ?_ ?_) <;> (clear hS; intro hg38 hS)
           ·
             refine L_go hS rfl rfl (s_e hS (e_move rfl) rfl ?_); clear hS a; intro a hS
             first | (refine L_go hS rfl rfl (s_e hS (e_binN rfl rfl rfl (by omega)) rfl ?_); clear hS a; intro a hS) | (refine L_go hS rfl rfl (s_e hS (e_bin rfl rfl rfl) rfl ?_); clear hS a; intro a hS)
             refine L_go hS rfl rfl (s_e hS (e_move rfl) rfl ?_); clear hS a; intro a hS
             refine L_go hS rfl rfl (s_e hS (e_len rfl rfl ty_sl22) rfl ?_); clear hS a; intro a hS
             refine L_go hS rfl rfl (s_e hS (e_bin rfl rfl rfl) rfl ?_); clear hS a; intro a hS
             first | (refine L_op (s_e hS (e_pick_t rfl rfl) rfl ?_); clear hS a; intro a hS) | (refine L_op (s_e hS (e_pick_f rfl rfl) rfl ?_); clear hS a; intro a hS)
             exact hcM44 _ _ (hS.ends 7 44 38 rfl (congrArg Value.bool (by exact decide_eq_decide.2 (by omega))) rfl rfl (by first | exact congrArg Value.bool (decide_eq_true hg38).symm | exact congrArg Value.bool hg38.symm | simp [hg38]) rfl)
           ·
             refine L_skip_t hS rfl rfl rfl ?_; clear hS a; intro a hS
             refine L_skip_t hS rfl rfl rfl ?_; clear hS a; intro a hS
             refine L_skip_t hS rfl rfl rfl ?_; clear hS a; intro a hS
             refine L_skip_t hS rfl rfl rfl ?_; clear hS a; intro a hS
             refine L_skip_t hS rfl rfl rfl ?_; clear hS a; intro a hS
             first | (refine L_op (s_e hS (e_pick_t rfl rfl) rfl ?_); clear hS a; intro a hS) | (refine L_op (s_e hS (e_pick_f rfl rfl) rfl ?_); clear hS a; intro a hS)
             exact hcM44 _ _ (hS.ends 7 44 38 rfl (congrArg Value.bool (by exact (decide_eq_false (fun h => hg38 h.1)).symm)) rfl rfl (by first | exact congrArg Value.bool (decide_eq_false hg38).symm | exact congrArg Value.bool hg38.symm | simp [hg38]) rfl)
         · clear hS a; (try clear w); intro a w hS
           simp only [List.drop_succ_cons, List.drop_zero]
           refine L_op (s_e hS (e_assign rfl) rfl ?_); clear hS a; intro a hS
           refine L_nil ?_
           refine n_then ?_
           first | refine c_ifD hS rfl (fun hc35 => ?_) (fun hc35 => ?_) | refine c_if hS rfl (fun hc35 => ?_) (fun hc35 => ?_)
           ·
             refine c_seq ?_
             refine c_region ?_
             refine L_op (s_e hS (e_move rfl) rfl ?_); clear hS a; intro a hS
             refine L_op (s_e hS (e_assign rfl) rfl ?_); clear hS a; intro a hS
             refine L_op (s_e hS (e_assign rfl) rfl ?_); clear hS a; intro a hS
             refine L_nil ?_
             refine n_then ?_
             refine wp_ret ?_
             refine r_block (r_block (r_then (r_then (r_block (r_then ?_)))))
             refine c_retN hS Tryz.results52 (.cons (.tmp rfl) (.cons (.tmp rfl) .nil)) rfl ?_
             exact ⟨by rw [line_at hno (v := ((k : Int), 0)) (by unfold lineAt; rw [hgx, if_neg hc13, if_pos hc35]) hkl], hS.chg⟩
           ·
             refine c_seq ?_
             refine c_region ?_
             refine L_op (s_e hS (e_move rfl) rfl ?_); clear hS a; intro a hS
             refine L_op (s_e hS (e_bin rfl rfl rfl) rfl ?_); clear hS a; intro a hS
             refine L_op (s_e hS (e_assign rfl) rfl ?_); clear hS a; intro a hS
             refine L_nil ?_
             refine n_then ?_
             first | refine c_ifD hS rfl (fun hc46 => ?_) (fun hc46 => ?_) | refine c_if hS rfl (fun hc46 => ?_) (fun hc46 => ?_)
             ·
               refine c_seq ?_
               refine c_region ?_
               refine L_op (s_e hS (e_assign rfl) rfl ?_); clear hS a; intro a hS
               refine L_op (s_e hS (e_assign rfl) rfl ?_); clear hS a; intro a hS
               refine L_nil ?_
               refine n_then ?_
               refine wp_ret ?_
               refine r_block (r_block (r_then (r_then (r_block (r_then ?_)))))
               refine c_retN hS Tryz.results52 (.cons (.tmp rfl) (.cons (.tmp rfl) .nil)) rfl ?_
               exact ⟨by rw [line_at hno (v := (-1, 0)) (by unfold lineAt; rw [hgx, if_neg hc13, if_neg hc35, if_pos hc46]) hkl], hS.chg⟩
             ·
               refine c_seq ?_
               refine c_region ?_
               refine L_op (s_e hS (e_move rfl) rfl ?_); clear hS a; intro a hS
               refine L_op (s_e hS (e_bin rfl rfl rfl) rfl ?_); clear hS a; intro a hS
               refine L_op (s_e hS (e_assign rfl) rfl ?_); clear hS a; intro a hS
               refine L_nil ?_
               refine n_then ?_
               first | refine c_ifD hS rfl (fun hc49 => ?_) (fun hc49 => ?_) | refine c_if hS rfl (fun hc49 => ?_) (fun hc49 => ?_)
               ·
                 refine c_seq ?_
                 refine c_region ?_
                 refine L_op (s_e hS (e_assign rfl) rfl ?_); clear hS a; intro a hS
                 refine L_op (s_e hS (e_assign rfl) rfl ?_); clear hS a; intro a hS
                 refine L_nil ?_
                 refine n_then ?_
                 refine wp_ret ?_
                 refine r_block (r_block (r_then (r_then (r_block (r_then ?_)))))
                 refine c_retN hS Tryz.results52 (.cons (.tmp rfl) (.cons (.tmp rfl) .nil)) rfl ?_
                 exact ⟨by rw [line_at hno (v := (-1, 8)) (by unfold lineAt; rw [hgx, if_neg hc13, if_neg hc35, if_neg hc46, if_pos (by omega)]) hkl], hS.chg⟩
               ·
                 refine wp_skip ?_
                 refine n_block ?_
                 refine n_block ?_
                 refine n_then ?_
                 refine c_region ?_
                 first | (refine L_op (s_e hS (e_binN rfl rfl rfl (by omega)) rfl ?_); clear hS a; intro a hS) | (refine L_op (s_e hS (e_bin rfl rfl rfl) rfl ?_); clear hS a; intro a hS)
                 refine L_op (s_e hS (e_move rfl) rfl ?_); clear hS a; intro a hS
                 refine L_nil ?_
                 exact ⟨k + 1, by omega, hS.slots ⟨rfl, rfl, rfl, rfl, trivial⟩, by omega, fun j hj => by
                 rcases Nat.lt_or_ge j k with h | h
                 · exact hno j h
                 obtain rfl : j = k := (by omega)
                 unfold lineAt; rw [hgx, if_neg hc13, if_neg hc35, if_neg hc46, if_neg (by omega)]⟩
   ·
     refine wp_exit ?_
     refine x_then (x_then (x_hit ?_))
     refine n_then ?_
     refine c_seq ?_
     refine c_region ?_
     refine L_op (s_e hS (e_assign rfl) rfl ?_); clear hS a; intro a hS
     refine L_op (s_e hS (e_assign rfl) rfl ?_); clear hS a; intro a hS
     refine L_nil ?_
     refine n_then ?_
     refine wp_ret ?_
     refine c_retN hS Tryz.results52 (.cons (.tmp rfl) (.cons (.tmp rfl) .nil)) rfl ?_
     obtain rfl : k = l.length := by omega
     exact ⟨by rw [line_no hno], hS.chg⟩
end Go.Proofs.YtjmkjkhcognoeaaGreatDoor

namespace Go.Proofs.YtjmkjkhcognoeaaGreatDoor
open Go.RowKit

/-- what is said hangs on the blocks below B alone. -/
def AbB {β : Type} (B : Nat) (I : β → World → Prop) : Prop :=
  ∀ s W W', I s W → W'.os = W.os → W'.tape = W.tape → W'.output = W.output → W.heap.size ≤ W'.heap.size → (∀ k, k < B → W'.heap[k]? = W.heap[k]?) → I s W'
theorem AbB.alloc {β : Type} {B : Nat} {I : β → World → Prop} (h : AbB B I) {s : β} {W : World} (hB : B ≤ W.heap.size) (hs : I s W) (o : Obj) : I s (W.alloc o) :=
  h s W _ hs rfl rfl rfl (by simp) (fun k hk => Below.heap_alloc W o k (by omega))
theorem AbB.put {β : Type} {B : Nat} {I : β → World → Prop} (h : AbB B I) {s : β} {W : World} {l : Nat} (hl : B ≤ l) (hs : I s W) (o : Obj) : I s (W.putObj l o) :=
  h s W _ hs rfl rfl rfl (by simp) (fun k hk => World.putObj_heap_other (by omega))

theorem putObj_at {W : World} {l : Nat} {o : Obj} {o' : Obj} (h : W.heap[l]? = some o) : (W.putObj l o').heap[l]? = some o' := World.putObj_heap_same (Array.getElem?_eq_some_iff.1 h).1

/-- one block turned, of those that were. -/
structure Turn (l : Nat) (W W' : World) : Prop where
  os : W'.os = W.os
  tape : W'.tape = W.tape
  output : W'.output = W.output
  size : W'.heap.size = W.heap.size
  same : ∀ k, k ≠ l → W'.heap[k]? = W.heap[k]?
theorem Turn.put (W : World) (l : Nat) (o : Obj) : Turn l W (W.putObj l o) := ⟨rfl, rfl, rfl, by simp, fun _ hk => World.putObj_heap_other hk⟩
end Go.Proofs.YtjmkjkhcognoeaaGreatDoor

namespace Go.Proofs.YtjmkjkhcognoeaaGreatDoor
open Go.RowKit

def FW (r : Option Nat) : Fence := { Fence.wide with round := r }
section
variable {P : Program} {n : NN} {F0 : Nat → Prop} {w0 : World} {a : Act} {w : World} {L : List (Nat × Value)} {Γ : List Asn} {r : Option Nat} {N : Nat}
variable {K : Act → World → Prop} {Q : Exit → Act → World → Prop} {d ty : Nat} {dst : Option Tmp} {pos : String} {af : Array Edge} {g : Option (Nat × Bool)} {op : Op} {rest l : List Oper}

theorem oper_in {o : Oper} (hd : ∀ c, o.op ≠ .defer c) (h : o.wp P a w K Q) : o.wpIn (FW r) N P a w K Q := by
  refine ⟨fun _ _ => trivial, ?_⟩
  rw [Oper.semAt_eq _ _ _ hd]
  unfold Oper.wp at h
  generalize (execOp a.eval o).run P w = res at h
  cases res with
  | ok nx w' =>
    cases nx with
    | value v => exact h
    | skip => exact h
    | defer d => exact h
    | enter f args => exact ⟨fun hh => (by cases hh), CallsIn.mono (F := Fence.wide) (callsIn_wide.2 h) (fun e w2 hr => by cases e <;> exact hr)⟩
    | row nm args => exact ⟨fun hh => (by cases hh), fun c cs _ => let ⟨v, w2, hr, s⟩ := h c cs; ⟨v, w2, hr, stepsIn_wide.2 s⟩⟩
    | _ => exact h.elim
  | halt s w' => cases s <;> first | exact h | exact h.elim

def notDefer : Op → Bool
  | .defer _ => false
  | _ => true
theorem notDefer_ne {o : Op} (h : notDefer o = true) : ∀ c, o ≠ .defer c := fun c e => by subst e; cases h

theorem R_nil {ops : Array Oper} (h : Q .normal a w) : wpListIn (FW r) N P ops Q [] a w := h
theorem R_op {ops : Array Oper} (hd : notDefer op = true) (h : OW P ⟨dst, op, ty, pos, af, none⟩ a w (wpListIn (FW r) N P ops Q rest) Q) : wpListIn (FW r) N P ops Q (⟨dst, op, ty, pos, af, none⟩ :: rest) a w := by
  unfold wpListIn
  rw [if_pos (by simp [Region.wanted])]
  exact oper_in (notDefer_ne hd) h.h
/-- a call of yield. -/
theorem R_yield {ops : Array Oper} {x : Operand} {xs : List Operand} {vs : List Value} {ts : Array TypeId} {y : Nat} {R : Ending → World → Prop} (hS : St n F0 w0 a w L Γ) (hx : ev L x = some (.func (.yield y) #[] #[])) (hxs : Evs L xs vs)
    (hy : YieldAt Fence.wide 0 P y vs.toArray w R) (h : ∀ e w', R e w' → ∃ v, e = .returned v ∧ wpListIn (FW none) 0 P ops Q rest (a.put dst v) w') :
    wpListIn (FW none) 0 P ops Q (⟨dst, .call ⟨.value x, xs.toArray, ts⟩, ty, pos, af, none⟩ :: rest) a w := by
  unfold wpListIn
  rw [if_pos (by simp [Region.wanted])]
  obtain ⟨fn, tmps, assign, body, hrun, hround⟩ := hy
  refine ⟨fun _ _ => trivial, ?_⟩
  have he : (execOp a.eval (⟨dst, .call ⟨.value x, xs.toArray, ts⟩, ty, pos, af, none⟩ : Oper)).run P w = .ok (.round y fn tmps assign body) w := by
    have h1 := hS.sl.evs hxs
    have hr : (resolve a.eval ⟨.value x, xs.toArray, ts⟩ ty).run P w = .ok ⟨.fn (.yield y) #[], #[] ++ vs.toArray⟩ w := by
      simp only [resolve, hS.sl.ev hx, h1, Deferred.ofValue]; rfl
    show ((resolve a.eval ⟨.value x, xs.toArray, ts⟩ ty) >>= fun d => invoke d.target d.args).run P w = _
    rw [Sem.run_bind, hr]
    show (invoke (.fn (.yield y) #[]) (#[] ++ vs.toArray)).run P w = _
    have e1 : (#[] ++ vs.toArray : Array Value) = vs.toArray := by simp
    rw [e1]
    simpa [invoke] using hrun
  rw [Oper.semAt_eq _ _ _ (fun c e => by cases e), he]
  refine ⟨fun hh => (by cases hh), hround.mono fun e w' hR => ?_⟩
  obtain ⟨v, rfl, hK⟩ := h e w' hR
  exact hK

theorem R_region {id : Nat} {l : List Oper} (h : wpListIn (FW r) N P l.toArray Q l a w) : (Code.region id l.toArray false).wpIn (FW r) N P Q a w := wpIn_region_lit h
theorem R_seq {x y : Code} (h : x.wpIn (FW r) N P (Exit.then (y.wpIn (FW r) N P Q) Q) a w) : (Code.seq x y).wpIn (FW r) N P Q a w := wpIn_seq h
theorem R_skip (h : Q .normal a w) : Code.skip.wpIn (FW r) N P Q a w := wpIn_skip h
theorem R_block {id : Nat} {c : Code} (h : c.wpIn (FW r) N P (Exit.inBlock id Q) a w) : (Code.block id c).wpIn (FW r) N P Q a w := wpIn_block h
theorem R_ret (h : Q .ret a w) : Code.ret.wpIn (FW r) N P Q a w := wpIn_ret h
theorem R_exit {id : Nat} (h : Q (.exit id) a w) : (Code.exit id).wpIn (FW r) N P Q a w := wpIn_exit h
theorem R_if_f {c : Operand} {x y : Code} (hS : St n F0 w0 a w L Γ) (hc : ev L c = some (.bool false)) (h : y.wpIn (FW r) N P Q a w) : (Code.cond c x y).wpIn (FW r) N P Q a w := wpIn_cond_false (hS.sl.ev hc) h
theorem R_if {c : Operand} {x y : Code} {b : Bool} (hS : St n F0 w0 a w L Γ) (hc : ev L c = some (.bool b)) (h1 : b = true → x.wpIn (FW r) N P Q a w) (h2 : b = false → y.wpIn (FW r) N P Q a w) : (Code.cond c x y).wpIn (FW r) N P Q a w :=
  wpIn_cond_split (hS.sl.ev hc) h1 h2
theorem R_ifD {c : Operand} {x y : Code} {p : Prop} [hp : Decidable p] (hS : St n F0 w0 a w L Γ) (hc : ev L c = some (.bool (decide p))) (h1 : p → x.wpIn (FW r) N P Q a w) (h2 : ¬ p → y.wpIn (FW r) N P Q a w) : (Code.cond c x y).wpIn (FW r) N P Q a w :=
  wpIn_cond_split (hS.sl.ev hc) (fun h => h1 (of_decide_eq_true h)) (fun h => h2 (of_decide_eq_false h))
/-- a loop, by a measure on what it goes through. -/
theorem R_loop {γ : Type} {c : Code} (I : γ → Act → World → Prop) (μ : γ → Nat) (g0 : γ) (h0 : I g0 a w)
    (round : ∀ g a w, I g a w → c.wpIn (FW r) N P (Exit.then (fun a' w' => ∃ g', μ g' < μ g ∧ I g' a' w') Q) a w) : (Code.loop c).wpIn (FW r) N P Q a w := by
  intro b k cs hro hb hr
  have key : ∀ m g a w, μ g = m → I g a w → ∃ e a' w', Q e a' w' ∧ ArrivesIn (Machine.fenced P (FW r)) P (lone (b.atR a (.code c :: .inLoop c :: k)) cs w) b k cs e a' w' := by
    intro m
    induction m using Nat.strongRecOn with
    | _ m ih =>
      intro g a w hm hI
      obtain ⟨e, a1, w1, hq, harr⟩ := round g a w hI b (.inLoop c :: k) cs hro hb hr
      cases e with
      | normal =>
        obtain ⟨g', hlt, hI'⟩ := hq
        obtain ⟨e2, a2, w2, hq2, harr2⟩ := ih (μ g') (hm ▸ hlt) g' a1 w1 rfl hI'
        exact ⟨e2, a2, w2, hq2, .of_steps (StepsIn.trans harr (.one (fenced_calm hb hr rfl) stepR_inLoop)) harr2⟩
      | exit id => exact ⟨_, a1, w1, hq, .pass (x := .inLoop c) rfl (fun _ _ => .inl (by simp)) harr⟩
      | goto l => exact ⟨_, a1, w1, hq, .pass (x := .inLoop c) rfl (fun _ _ => .inl (by simp)) harr⟩
      | ret => exact ⟨_, a1, w1, hq, .pass (x := .inLoop c) rfl (fun _ _ => .inl (by simp)) harr⟩
      | panic ch => exact ⟨_, a1, w1, hq, .pass (x := .inLoop c) rfl (fun _ _ => .inl (by simp)) harr⟩
      | outgrown => exact ⟨_, a1, w1, hq, .pass (x := .inLoop c) rfl (fun _ _ => .inl (by simp)) harr⟩
  obtain ⟨e, a', w', hq, harr⟩ := key _ g0 a w rfl h0
  exact ⟨e, a', w', hq, .of_steps (.one (fenced_calm hb hr rfl) stepR_loop) harr⟩
theorem callsM_enter {f : FuncId} {fn : Func} {c : Code} {args : List Value} {R : Ending → World → Prop} {m : Nat} (L : List (Nat × Value)) (Γ : List Asn) (F0 : Nat → Prop) (hf : P.funcs[f]? = some fn) (hb : fn.body = some c) (hm : fn.ntmps = m)
    (hA : SubA args L) (hn : Nat.ble args.length m = true) (ok : ∀ X ∈ Γ, X.ok w) (dis : Γ.Pairwise (fun X Y => ∀ b, X.F b → ¬ Y.F b)) (mine : ∀ X ∈ Γ, X.mine = true → ∀ b, X.F b → w.heap.size ≤ b ∨ F0 b)
    (h : ∀ a, St ⟨m, []⟩ F0 w a w L Γ → c.wpIn (FW none) 0 P (bodyPostM Fence.wide 0 P fn R) a w) : Calls P f args.toArray w R := by
  refine callsIn_wide.1 (callsIn_of_wp_marks (n := 0) hf hb trivial (h _ ⟨?_, Chg.refl _ _, ok, dis, mine⟩))
  have hle : args.length ≤ m := Nat.le_of_ble_eq_true hn
  have := Sl.start (l := args) (L := L) (n := m) (m := m - args.length) hA (by omega)
  simpa [hm] using this
/-- the end of a function behind a range over a function. -/
theorem endM {fn : Func} {R : Ending → World → Prop} {D : Nat} {v : Value} {e : Exit} (he : e = .ret ∨ e = .normal) (hd : a.defers = [{ target := .collected D, args := #[] }]) (hD : w.heap[D]? = some (.deferred (some [])))
    (hr : (results fn a.tmps).run P (w.putObj D (.deferred none)) = .ok v (w.putObj D (.deferred none))) (h : R (.returned v) (w.putObj D (.deferred none))) : bodyPostM Fence.wide 0 P fn R e a w := by
  have key : LeavesInM Fence.wide 0 P fn a.tmps R a.defers .returning w := by
    rw [hd]
    exact ⟨by simp, .inl ⟨_, _, rfl, run_takeDeferred hD, v, hr, h⟩⟩
  rcases he with rfl | rfl <;> exact key
theorem callsIn_enter {f : FuncId} {fn : Func} {c : Code} {args : List Value} {R : Ending → World → Prop} {m : Nat} (L : List (Nat × Value)) (Γ : List Asn) (F0 : Nat → Prop) (hf : P.funcs[f]? = some fn) (hb : fn.body = some c) (hm : fn.ntmps = m)
    (hA : SubA args L) (hn : Nat.ble args.length m = true) (ok : ∀ X ∈ Γ, X.ok w) (dis : Γ.Pairwise (fun X Y => ∀ b, X.F b → ¬ Y.F b)) (mine : ∀ X ∈ Γ, X.mine = true → ∀ b, X.F b → w.heap.size ≤ b ∨ F0 b)
    (h : ∀ a, St ⟨m, []⟩ F0 w a w L Γ → c.wpIn (FW none) 0 P (bodyPost P fn R) a w) : CallsIn Fence.wide 0 P f args.toArray w R := by
  refine callsIn_of_wp hf hb trivial (h _ ⟨?_, Chg.refl _ _, ok, dis, mine⟩)
  have hle : args.length ≤ m := Nat.le_of_ble_eq_true hn
  have := Sl.start (l := args) (L := L) (n := m) (m := m - args.length) hA (by omega)
  simpa [hm] using this
/-- the mark of a loop is shut: what is known of other blocks stays. -/
theorem St.putD (hS : St n F0 w0 a w L Γ) {D : Nat} {o : Obj} (hD : w0.heap.size ≤ D) (hn : ∀ X ∈ Γ, ∀ b, X.F b → b ≠ D) : St n F0 w0 a (w.putObj D o) L Γ := by
  have hc : Chg (fun k => k = D) w (w.putObj D o) := ⟨rfl, rfl, rfl, by simp, fun k _ hk => World.putObj_heap_other hk⟩
  exact ⟨hS.sl, hS.chg.trans hc (fun i hi hlt => by omega), fun X hX => (hS.ok X hX).keep hc (fun b hb e => hn X hX b hb e), hS.dis, hS.mine⟩
/-- the end of a function behind a range over a function, by the state. -/
theorem endN {fn : Func} {R : Ending → World → Prop} {D : Nat} {e : Exit} {rs : List ResultVar} {vs : List Value} {m : Nat} (hS : St ⟨m, []⟩ F0 w0 a (w.putObj D (.deferred none)) L Γ) (he : e = .ret ∨ e = .normal) (hD : w.heap[D]? = some (.deferred (some [])))
    (hr : fn.results = rs.toArray) (hv : ResL P L Γ rs vs) (hne : Nat.beq vs.length 1 = false) (h : R (.returned (.tuple vs.toArray)) (w.putObj D (.deferred none))) :
    bodyPostM Fence.wide 0 P fn R e { a with defers := { target := .collected D, args := #[] } :: a.defers } w := by
  refine endM he (by show _ :: a.defers = _; rw [hS.sl.defers]) hD ?_ h
  have h1 := ResL.run hS hv
  have h2 : ¬ vs.toArray.size = 1 := by simpa using nbeq_ne hne
  show (results fn a.tmps).run P _ = _
  rw [results_rvS, hr, List.mapM_toArray, Sem.run_bind, Sem.run_map, h1]
  simp only [Result.andThen_ok, h2, dite_false]
  rfl
end
end Go.Proofs.YtjmkjkhcognoeaaGreatDoor

namespace Go.Proofs.YtjmkjkhcognoeaaGreatDoor
open Go.RowKit

/-- what is said hangs on no block from B up to hi. -/
def AbR {β : Type} (B hi : Nat) (I : β → World → Prop) : Prop :=
  ∀ s W W', I s W → W'.os = W.os → W'.tape = W.tape → W'.output = W.output → W.heap.size ≤ W'.heap.size → (∀ k, k < W.heap.size → (k < B ∨ hi ≤ k) → W'.heap[k]? = W.heap[k]?) → I s W'
theorem AbR.alloc {β : Type} {B hi : Nat} {I : β → World → Prop} (h : AbR B hi I) {s : β} {W : World} (hs : I s W) (o : Obj) : I s (W.alloc o) :=
  h s W _ hs rfl rfl rfl (by simp) (fun k hk _ => Below.heap_alloc W o k hk)
theorem AbR.put {β : Type} {B hi : Nat} {I : β → World → Prop} (h : AbR B hi I) {s : β} {W : World} {l : Nat} (hl : B ≤ l) (hl2 : l < hi) (hs : I s W) (o : Obj) : I s (W.putObj l o) :=
  h s W _ hs rfl rfl rfl (by simp) (fun k _ hk => World.putObj_heap_other (by omega))
/-- what lay from B up to hi lies as it lay. -/
def Kp (B hi : Nat) (W W' : World) : Prop := W.heap.size ≤ W'.heap.size ∧ ∀ k, B ≤ k → k < hi → W'.heap[k]? = W.heap[k]?

/-- how a round's body may be left. -/
def postD {α : Type} (B hi : Nat) (I : List α → World → Prop) (Ix : Code → List α → World → Prop) (xs : List α) (W : World) : Exit → Act → World → Prop
  | .normal, _, W' => Kp B hi W W' ∧ I xs W'
  | .ret, _, W' => Kp B hi W W' ∧ Ix .ret xs W'
  | .exit id, _, W' => Kp B hi W W' ∧ Ix (.exit id) xs W'
  | .goto t, _, W' => Kp B hi W W' ∧ Ix (.goto t) xs W'
  | .panic _, _, _ => False
  | .outgrown, _, _ => False

section
variable {P : Program} {n : NN} {F0 : Nat → Prop} {w0 : World} {a : Act} {w : World} {L : List (Nat × Value)} {Γ : List Asn}
variable {K : Act → World → Prop} {Q : Exit → Act → World → Prop} {d ty : Nat} {pos : String} {af : Array Edge} {g : Option (Nat × Bool)}
end
end Go.Proofs.YtjmkjkhcognoeaaGreatDoor

namespace Go.Proofs.YtjmkjkhcognoeaaGreatDoor
open Go.RowKit

/-- an iterator's contract: its own blocks lie from where it began up to hi. -/
def SeqE {α : Type} (P : Program) (gf : Nat) (lb : Array Value) (encs : α → Array Value) (S Sp : List α → Prop) (G : List α → α → Prop) (K0 : World → Prop) : Prop :=
  ∀ (l : Nat) (J Jx : Nat → List α → World → Prop) (W : World), (∀ hi pre W', J hi pre W' → K0 W') → (∀ hi, W.heap.size ≤ hi → AbR W.heap.size hi (J hi)) → (∀ hi, W.heap.size ≤ hi → AbR W.heap.size hi (Jx hi)) →
    (∀ hi pre x W1, W.heap.size ≤ hi → hi ≤ W1.heap.size → J hi pre W1 → G pre x → YieldAt Fence.wide 0 P l (encs x) W1 fun e W' => Kp W.heap.size hi W1 W' ∧ ((e = .returned (.bool true) ∧ J hi (pre ++ [x]) W') ∨ (e = .returned (.bool false) ∧ Jx hi (pre ++ [x]) W'))) →
    (∀ hi, W.heap.size ≤ hi → J hi [] W) → CallsIn Fence.wide 0 P gf (#[.func (.yield l) #[] #[]] ++ lb) W fun e W' => (∃ v, e = .returned v) ∧ ∃ hi, W.heap.size ≤ hi ∧ ((∃ xs, S xs ∧ J hi xs W') ∨ ∃ pre, Sp pre ∧ Jx hi pre W')

theorem rangeFunc_E {P : Program} {α : Type} {g : Operand} {ps : Array Tmp} {assign body : Code} {Q : Exit → Act → World → Prop} {a : Act} {w : World}
    {gf : Nat} {lb : Array Value} (hg : a.eval g = .func (.func gf) #[] lb) (eg : CallsTo P gf) {encs : α → Array Value} {S Sp : List α → Prop} {G : List α → α → Prop} {K0 : World → Prop}
    (hseq : SeqE P gf lb encs S Sp G K0) (hps : ∀ x, (encs x).size = ps.size) (I : Nat → List α → World → Prop) (Ix : Nat → Code → List α → World → Prop)
    (hI : ∀ hi, w.heap.size + 2 ≤ hi → AbR w.heap.size hi (I hi)) (hIx : ∀ hi c, w.heap.size + 2 ≤ hi → AbR w.heap.size hi (Ix hi c)) (hK : ∀ hi pre W', I hi pre W' → K0 W') (h0 : ∀ hi, w.heap.size + 2 ≤ hi → I hi [] w)
    (hround : ∀ (hi l : Nat) (pre : List α) (x : α) (W : World), w.heap.size + 2 ≤ hi → hi ≤ W.heap.size → I hi pre W → G pre x →
      assign.wpIn (Fence.wide.inRound l) 0 P (Exit.then (fun a1 W1 => Kp w.heap.size hi W W1 ∧ ∀ W2, Turn (w.heap.size + 1) W1 W2 → body.wpIn (Fence.wide.inRound l) 0 P (postD w.heap.size hi (I hi) (Ix hi) (pre ++ [x]) W2) a1 W2) (fun _ _ _ => False))
        { tmps := (ps.zip (encs x)).foldl (fun t (p, v) => t.setIfInBounds p v) a.tmps, defers := [] } W)
    (hdone : ∀ (hi D : Nat) (xs : List α) (W : World), w.heap.size + 2 ≤ hi → w.heap.size ≤ D → D < hi → S xs → I hi xs W → W.heap[D]? = some (.deferred (some [])) → Q .normal { a with defers := { target := .collected D, args := #[] } :: a.defers } W)
    (hstop : ∀ (hi D : Nat) (c : Code) (pre : List α) (W : World), w.heap.size + 2 ≤ hi → w.heap.size ≤ D → D < hi → Sp pre → Ix hi c pre W → W.heap[D]? = some (.deferred (some [])) → c.wpIn Fence.wide 0 P Q { a with defers := { target := .collected D, args := #[] } :: a.defers } W) :
    (Code.rangeFunc g ps assign body).wpIn Fence.wide 0 P Q a w := by
  refine wpIn_rangeFunc fun fn hfn => ?_
  obtain ⟨rec, hrec⟩ : ∃ rec : LoopState → Option Code → Loop, rec = fun st pe => { state := st, pending := pe, fn, tmps := a.tmps, params := ps, assign, body, defers := w.heap.size } := ⟨_, rfl⟩
  obtain ⟨W1, hW1⟩ : ∃ W1, (w.alloc (.deferred (some []))).alloc (.loop (rec .ready none)) = W1 := ⟨_, rfl⟩
  have hs1 : W1.heap.size = w.heap.size + 2 := by rw [← hW1]; simp
  have hL : W1.heap[w.heap.size + 1]? = some (.loop (rec .ready none)) := by
    rw [← hW1]; have := World.alloc_heap_new (w.alloc (.deferred (some []))) (.loop (rec .ready none)); rwa [World.size_alloc] at this
  have hD : W1.heap[w.heap.size]? = some (.deferred (some [])) := by
    rw [← hW1]; exact (Below.heap_alloc _ _ _ (by simp)).trans (World.alloc_heap_new w _)
  have hI1 : ∀ hi, w.heap.size + 2 ≤ hi → I hi [] W1 := fun hi hh => by rw [← hW1]; exact (hI hi hh).alloc ((hI hi hh).alloc (h0 hi hh) _) _
  refine ⟨w.heap.size + 1, [{ target := .collected w.heap.size, args := #[] }], W1, { target := .fn (.func gf) lb, args := #[.func (.yield (w.heap.size + 1)) #[] #[]] }, W1, gf,
    #[.func (.yield (w.heap.size + 1)) #[] #[]] ++ lb, W1, ?_, ?_, fun _ _ => trivial, ?_, fun h => (by cases h), ?_⟩
  · rw [← hW1, hrec]; exact run_enterLoop_outer _ _ _ _ _
  · simp only [resolve, hg]
    simp [go_sem]
  · have := eg (#[.func (.yield (w.heap.size + 1)) #[] #[]] ++ lb) W1
    exact this
  have key := hseq (w.heap.size + 1) (fun hi pre W => w.heap.size + 2 ≤ W.heap.size ∧ I hi pre W ∧ W.heap[w.heap.size + 1]? = some (.loop (rec .ready none)) ∧ W.heap[w.heap.size]? = some (.deferred (some [])))
    (fun hi pre W => w.heap.size + 2 ≤ W.heap.size ∧ ∃ c, Ix hi c pre W ∧ W.heap[w.heap.size + 1]? = some (.loop (rec .done (some c))) ∧ W.heap[w.heap.size]? = some (.deferred (some []))) W1
    (fun hi pre W' h => hK hi pre W' h.2.1)
    (fun hi hh s A B h e1 e2 e3 e4 e5 => by
      have h1 := h.1
      exact ⟨Nat.le_trans h.1 e4, hI hi (by omega) s A B h.2.1 e1 e2 e3 e4 (fun k hk hk2 => e5 k hk (by omega)), (e5 _ (by omega) (by omega)).trans h.2.2.1, (e5 _ (by omega) (by omega)).trans h.2.2.2⟩)
    (fun hi hh s A B h e1 e2 e3 e4 e5 => by
      obtain ⟨hz, c, h1, h2, h3⟩ := h
      exact ⟨Nat.le_trans hz e4, c, hIx hi c (by omega) s A B h1 e1 e2 e3 e4 (fun k hk hk2 => e5 k hk (by omega)), (e5 _ (by omega) (by omega)).trans h2, (e5 _ (by omega) (by omega)).trans h3⟩)
    ?_ (fun hi hh => ⟨by omega, hI1 hi (by omega), hL, hD⟩)
  · refine key.mono ?_
    rintro e W2 ⟨⟨v, rfl⟩, hh, hhl, (⟨xs, hS, hz, hi, hl, hk⟩ | ⟨pre, hSp, hz, c, hi, hl, hk⟩)⟩
    · exact ⟨none, _, by have := run_endLoop (P := P) hl (by rw [hrec]; simp); rw [hrec] at this; exact this, hdone hh _ xs _ (by omega) (Nat.le_refl _) (by omega) hS ((hI hh (by omega)).put (by omega) (by omega) hi _) ((World.putObj_heap_other (by omega)).trans hk)⟩
    · exact ⟨some c, _, by have := run_endLoop (P := P) hl (by rw [hrec]; simp); rw [hrec] at this; exact this, hstop hh _ c pre _ (by omega) (Nat.le_refl _) (by omega) hSp ((hIx hh c (by omega)).put (by omega) (by omega) hi _) ((World.putObj_heap_other (by omega)).trans hk)⟩
  · rintro hh pre x W hhl hhW ⟨hz, hi, hl, hk⟩ hlen
    have hy := run_yield (P := P) (args := encs x) hl (by rw [hrec]; exact hps x)
    rw [hrec] at hy
    refine ⟨fn, _, assign, body, hy, roundIn_of_wpIn hfn (wpIn_mono (hround hh _ pre x W (by omega) hhW hi hlen) ?_)⟩
    rintro e a1 W1' hp1
    cases e with
    | exit _ => exact hp1.elim
    | goto _ => exact hp1.elim
    | ret => exact hp1.elim
    | panic _ => exact hp1.elim
    | outgrown => exact hp1.elim
    | normal => ?_
    obtain ⟨⟨hzz, hkeep⟩, hbody⟩ := hp1
    have hl1 := (hkeep (w.heap.size + 1) (by omega) (by omega)).trans hl
    have hk1 := (hkeep w.heap.size (Nat.le_refl _) (by omega)).trans hk
    refine ⟨_, run_beginRound hl1 (by rw [hrec]), ?_⟩
    obtain ⟨W2, hW2⟩ : ∃ W2, W1'.putObj (w.heap.size + 1) (.loop { rec .ready none with state := .busy }) = W2 := ⟨_, rfl⟩
    have hl2 : W2.heap[w.heap.size + 1]? = some (.loop { rec .ready none with state := .busy }) := by rw [← hW2]; exact putObj_at hl1
    have hk2 : W2.heap[w.heap.size]? = some (.deferred (some [])) := by rw [← hW2]; exact (World.putObj_heap_other (by omega)).trans hk1
    have hz2 : w.heap.size + 2 ≤ W2.heap.size := by rw [← hW2]; simp; omega
    rw [hW2]
    refine wpIn_mono (hbody W2 (by rw [← hW2]; exact Turn.put _ _ _)) ?_
    have fin : ∀ (jump : Option Code) (W3 : World), Kp w.heap.size hh W2 W3 → w.heap.size + 2 ≤ W3.heap.size ∧
        (Instr.endRound (w.heap.size + 1) jump).run P W3 = .ok (.bool jump.isNone) (W3.putObj (w.heap.size + 1) (.loop (rec (if jump.isNone then .ready else .done) jump))) ∧
        (W3.putObj (w.heap.size + 1) (.loop (rec (if jump.isNone then .ready else .done) jump))).heap[w.heap.size + 1]? = some (.loop (rec (if jump.isNone then .ready else .done) jump)) ∧
        (W3.putObj (w.heap.size + 1) (.loop (rec (if jump.isNone then .ready else .done) jump))).heap[w.heap.size]? = some (.deferred (some [])) ∧
        Kp W1.heap.size hh W (W3.putObj (w.heap.size + 1) (.loop (rec (if jump.isNone then .ready else .done) jump))) := fun jump W3 ⟨hsz, hk3⟩ => by
      have hl3 := (hk3 _ (by omega) (by omega)).trans hl2
      have hd3 := (hk3 _ (Nat.le_refl _) (by omega)).trans hk2
      have hr := run_endRound (P := P) jump hl3
      rw [hrec] at hr ⊢
      have hw2 : W2.heap.size = W1'.heap.size := by rw [← hW2]; simp
      refine ⟨by have := (Array.getElem?_eq_some_iff.1 hl3).1; omega, hr, putObj_at hl3, (World.putObj_heap_other (by omega)).trans hd3, by simp; omega, fun k hk1 hk2' => ?_⟩
      rw [World.putObj_heap_other (by omega), hk3 k (by omega) (by omega), ← hW2, World.putObj_heap_other (by omega)]
      exact hkeep k (by omega) hk2'
    rintro e a3 W3 hp
    cases e with
    | normal =>
      obtain ⟨hk3, hi3⟩ := hp
      obtain ⟨hz3, hr, hl4, hk4, hkp⟩ := fin none W3 hk3
      exact ⟨_, _, hr, hkp, .inl ⟨rfl, by simpa using hz3, (hI hh (by omega)).put (by omega) (by omega) hi3 _, hl4, hk4⟩⟩
    | ret =>
      obtain ⟨hk3, hi3⟩ := hp
      obtain ⟨hz3, hr, hl4, hk4, hkp⟩ := fin (some .ret) W3 hk3
      exact ⟨_, _, hr, hkp, .inr ⟨rfl, by simpa using hz3, .ret, (hIx hh _ (by omega)).put (by omega) (by omega) hi3 _, hl4, hk4⟩⟩
    | exit id =>
      obtain ⟨hk3, hi3⟩ := hp
      obtain ⟨hz3, hr, hl4, hk4, hkp⟩ := fin (some (.exit id)) W3 hk3
      exact ⟨_, _, hr, hkp, .inr ⟨rfl, by simpa using hz3, .exit id, (hIx hh _ (by omega)).put (by omega) (by omega) hi3 _, hl4, hk4⟩⟩
    | goto t =>
      obtain ⟨hk3, hi3⟩ := hp
      obtain ⟨hz3, hr, hl4, hk4, hkp⟩ := fin (some (.goto t)) W3 hk3
      exact ⟨_, _, hr, hkp, .inr ⟨rfl, by simpa using hz3, .goto t, (hIx hh _ (by omega)).put (by omega) (by omega) hi3 _, hl4, hk4⟩⟩
    | panic ch => exact hp.elim
    | outgrown => exact hp.elim
theorem rangeFunc_E2 {B : Nat} {P : Program} {α : Type} {g : Operand} {ps : Array Tmp} {assign body : Code} {Q : Exit → Act → World → Prop} {a : Act} {w : World} (hB : w.heap.size = B)
    {gf : Nat} {lb : Array Value} (hg : a.eval g = .func (.func gf) #[] lb) (eg : CallsTo P gf) {encs : α → Array Value} {S Sp : List α → Prop} {G : List α → α → Prop} {K0 : World → Prop}
    (hseq : SeqE P gf lb encs S Sp G K0) (hps : ∀ x, (encs x).size = ps.size) (I : Nat → List α → World → Prop) (Ix : Nat → Code → List α → World → Prop)
    (hI : ∀ hi, B + 2 ≤ hi → AbR B hi (I hi)) (hIx : ∀ hi c, B + 2 ≤ hi → AbR B hi (Ix hi c)) (hK : ∀ hi pre W', I hi pre W' → K0 W') (h0 : ∀ hi, B + 2 ≤ hi → I hi [] w)
    (hround : ∀ (hi l : Nat) (pre : List α) (x : α) (W : World), B + 2 ≤ hi → hi ≤ W.heap.size → I hi pre W → G pre x →
      assign.wpIn (Fence.wide.inRound l) 0 P (Exit.then (fun a1 W1 => Kp B hi W W1 ∧ ∀ W2, Turn (B + 1) W1 W2 → body.wpIn (Fence.wide.inRound l) 0 P (postD B hi (I hi) (Ix hi) (pre ++ [x]) W2) a1 W2) (fun _ _ _ => False))
        { tmps := (ps.zip (encs x)).foldl (fun t (p, v) => t.setIfInBounds p v) a.tmps, defers := [] } W)
    (hdone : ∀ (hi D : Nat) (xs : List α) (W : World), B + 2 ≤ hi → B ≤ D → D < hi → S xs → I hi xs W → W.heap[D]? = some (.deferred (some [])) → Q .normal { a with defers := { target := .collected D, args := #[] } :: a.defers } W)
    (hstop : ∀ (hi D : Nat) (c : Code) (pre : List α) (W : World), B + 2 ≤ hi → B ≤ D → D < hi → Sp pre → Ix hi c pre W → W.heap[D]? = some (.deferred (some [])) → c.wpIn Fence.wide 0 P Q { a with defers := { target := .collected D, args := #[] } :: a.defers } W) :
    (Code.rangeFunc g ps assign body).wpIn Fence.wide 0 P Q a w := by
  subst hB
  exact rangeFunc_E hg eg hseq hps I Ix hI hIx hK h0 hround hdone hstop
end Go.Proofs.YtjmkjkhcognoeaaGreatDoor

namespace Go.Proofs.YtjmkjkhcognoeaaGreatDoor
open Go.RowKit

theorem St.bare {n : NN} {a : Act} {w : World} {L : List (Nat × Value)} (h : Sl n a L) : St n noB w a w L [] := ⟨h, Chg.refl _ _, okN, disN, mineN⟩
theorem St.again {n : NN} {a : Act} {w : World} {L : List (Nat × Value)} (h : Sl n a L) {X : Asn} (hX : X.ok w) (hm : X.mine = false) : St n noB w a w L [X] :=
  ⟨h, Chg.refl _ _, okC hX okN, dis1, mineC hm mineN⟩
theorem lineAt_bd {l : List Int} {i : Nat} {v : Int × Int} (h : lineAt l i = some v) : (v.1 = -1 ∨ (v.1 = i ∧ i + 1 < l.length ∧ v.2 = 0)) ∧ 0 ≤ v.2 ∧ v.2 ≤ 10 := by
  unfold lineAt at h
  split at h
  · cases h; simp
  · split at h
    · rename_i h1 h2; cases h; exact ⟨.inr ⟨rfl, h2.2, rfl⟩, Int.le_refl _, (by decide : (0 : Int) ≤ 10)⟩
    · split at h
      · cases h; simp
      · split at h
        · cases h; simp
        · cases h
theorem line_bd (l : List Int) : ((lineF l).1 = -1 ∨ (0 ≤ (lineF l).1 ∧ (lineF l).1 + 2 ≤ l.length ∧ (lineF l).2 = 0)) ∧ 0 ≤ (lineF l).2 ∧ (lineF l).2 ≤ 10 := by
  unfold lineF
  cases h : (List.range l.length).findSome? (lineAt l) with
  | none => simp
  | some v =>
    obtain ⟨i, hi, hv⟩ := List.exists_of_findSome?_eq_some h
    have := lineAt_bd hv
    simp only [Option.getD_some]
    omega
theorem line_nil : lineF [] = (-1, 0) := rfl
/-- what the iterator hands over, from a place on. -/
def itemsW (q : Option Addr) (c : Nat) (l : List Int) (p : Nat) : List (Int × Value) :=
   if h : 0 ≤ (lineF (l.drop p)).1 ∧ p < l.length then ((p : Int) + ((lineF (l.drop p)).1 + 2), .slice (tailP q p c 1) (lineF (l.drop p)).1.toNat (c - p)) :: itemsW q c l (p + (lineF (l.drop p)).1.toNat + 2)
   else if (lineF (l.drop p)).2 ≠ 0 then [(-(lineF (l.drop p)).2, .slice none 0 0)] else []
 termination_by l.length - p
 decreasing_by omega
theorem items_go {q : Option Addr} {c : Nat} {l : List Int} {p : Nat} (h : 0 ≤ (lineF (l.drop p)).1) : itemsW q c l p = ((p : Int) + ((lineF (l.drop p)).1 + 2), .slice (tailP q p c 1) (lineF (l.drop p)).1.toNat (c - p)) :: itemsW q c l (p + (lineF (l.drop p)).1.toNat + 2) := by
  have hp : p < l.length := by
    rcases Nat.lt_or_ge p l.length with h1 | h1
    · exact h1
    · rw [List.drop_eq_nil_of_le h1, line_nil] at h; exact absurd h (by decide)
  rw [itemsW, dif_pos ⟨h, hp⟩]
theorem items_end {q : Option Addr} {c : Nat} {l : List Int} {p : Nat} (h : (lineF (l.drop p)).1 < 0) : itemsW q c l p = if (lineF (l.drop p)).2 ≠ 0 then [(-(lineF (l.drop p)).2, .slice none 0 0)] else [] := by
  rw [itemsW, dif_neg (fun hh => by omega)]
def encI (x : Int × Value) : Array Value := [.int .i64 x.1, x.2].toArray
/-- what the iterator reads. -/
def linesK (b : Nat) (v : Value) (l : List Int) (w : World) : Prop := w.heap[b]? = some (.cells [v].toArray 22 (0, 0)) ∧ ByAt v l w
def linesA (b : Nat) (v : Value) (l : List Int) : Asn := .any (fun k => k = b ∨ byF v l k) (linesK b v l) false
theorem lines_ok {b : Nat} {v : Value} {l : List Int} {w : World} (h : linesK b v l w) : (linesA b v l).ok w := by
  refine ⟨fun k hk => ?_, fun w' hw => ⟨?_, h.2.keep fun k hk => hw k (.inr hk)⟩⟩
  · rcases hk with rfl | hk
    · exact (Array.getElem?_eq_some_iff.1 h.1).1
    · exact h.2.lt k hk
  · rw [hw b (.inl rfl)]; exact h.1
set_option maxRecDepth 100000 in
theorem lines_P (v : Value) (hv : isOne v = true) (w0 : World) : NewC Tryz.prog 38 [v] w0 (fun b : Nat => .func (.func 51) #[] [.pointer (some ⟨b, 0, none⟩)].toArray) (fun b => .blk b [v] 22) := by
  refine c_enter [(0, v)] [] noB Tryz.func38 rfl Tryz.ntmps38 ⟨rfl, trivial⟩ rfl (by simp) (by simp) (by simp) ?_
  intro a hS
  refine c_seq ?_
  refine c_region ?_
  obtain ⟨b1, hb1⟩ : ∃ b, b = w0.heap.size := ⟨_, rfl⟩
  refine L_op (s_box1 hS rfl hv rfl ?_); clear hS a; intro a w b1 hS
  refine L_op (s_e hS (e_assign rfl) rfl ?_); clear hS a; intro a hS
  refine L_nil ?_
  refine n_then ?_
  refine c_seq ?_
  refine c_region ?_
  refine L_op (s_e hS (e_makeFunc .nil (.cons rfl .nil)) rfl ?_); clear hS a; intro a hS
  refine L_op (s_e hS (e_assign rfl) rfl ?_); clear hS a; intro a hS
  refine L_nil ?_
  refine n_then ?_
  refine wp_ret ?_
  refine c_ret1 hS Tryz.results38 (.tmp rfl) ?_
  exact ⟨b1, rfl, hS.chg, hS.new (.head _) rfl⟩

set_option maxRecDepth 100000 in
theorem lines_seq (b : Nat) (q : Option Addr) (c : Nat) (l : List Int) (hlen : l.length ≤ 1000000) (hlc : l ≠ [] → l.length ≤ c) : SeqE Tryz.prog 51 #[.pointer (some ⟨b, 0, none⟩)] encI (fun xs => xs = itemsW q c l 0) (fun pre => ∃ r, pre ++ r = itemsW q c l 0) (fun pre x => ∃ r, pre ++ x :: r = itemsW q c l 0) (linesK b (.slice q l.length c) l) := by
  intro y J Jx W hK hJ hJx hY h00
  have h0 := h00 W.heap.size (Nat.le_refl _)
  have hk0 := hK _ _ _ h0
  rw [show (#[Value.func (.yield y) #[] #[]] ++ #[Value.pointer (some ⟨b, 0, none⟩)] : Array Value) = [Value.func (.yield y) #[] #[], Value.pointer (some ⟨b, 0, none⟩)].toArray from rfl]
  refine callsIn_enter [(0, .func (.yield y) #[] #[]), (1, .pointer (some ⟨b, 0, none⟩))] [linesA b (.slice q l.length c) l] noB Tryz.func51 rfl Tryz.ntmps51 ⟨rfl, rfl, trivial⟩ rfl (okC (lines_ok hk0) okN) dis1 (mineC (by rfl) mineN) ?_
  intro a hS
  refine R_seq ?_
  refine R_region ?_
  refine R_op rfl (s_e hS (e_assign rfl) rfl ?_); clear hS a; intro a hS
  refine R_nil ?_
  refine n_then ?_
  refine R_block ?_
  skip
  refine R_loop (γ := Nat × List (Int × Value)) (fun pp a w => St 37 noB w a w [(3, .int .i64 (pp.1 : Int)), (0, .func (.yield y) #[] #[]), (1, .pointer (some ⟨b, 0, none⟩))] [linesA b (.slice q l.length c) l] ∧ pp.1 ≤ l.length ∧ W.heap.size ≤ w.heap.size ∧ J W.heap.size pp.2 w ∧ pp.2 ++ itemsW q c l pp.1 = itemsW q c l 0) (fun pp => l.length - pp.1) (0, []) ⟨St.again (hS.sl.sub (by repeat (first | exact trivial | refine ⟨rfl, ?_⟩))) (hS.ok _ (by repeat constructor)) rfl, Nat.zero_le _, Nat.le_refl _, h0, rfl⟩ ?_
  clear hS a; (try clear w); intro pp a w hI
  obtain ⟨p, pre⟩ := pp
  obtain ⟨hS, hp, hz, hj, hpre⟩ := hI
  simp only at hS hj hpre hp
  have hbd := line_bd (l.drop p)
  have hdl : (l.drop p).length = l.length - p := List.length_drop
  have hAt := ((hS.get (X := linesA b (.slice q l.length c) l) (by repeat constructor)) : linesK b (.slice q l.length c) l w).2
  have hpc : ByAt (.slice (tailP q p c 1) (l.length - p) (c - p)) (l.drop p) w := by
    have := hAt.piece (j := p) (k := l.length) hp (Nat.le_refl _)
    rwa [List.take_length] at this
  refine R_block ?_
  refine R_seq ?_
  refine R_region ?_
  refine R_op rfl (s_e hS (e_loadC rfl ty_sc22 (fun w hh => cell_of_blk (cs := [.slice q l.length c]) (hh (linesA b (.slice q l.length c) l) (by repeat constructor)).1 rfl)) rfl ?_); clear hS a; intro a hS
  refine R_op rfl (s_e hS (e_move rfl) rfl ?_); clear hS a; intro a hS
  refine R_op rfl (s_e hS (e_slT rfl rfl ty_sl22 ty_sz5 hp) rfl ?_); clear hS a; intro a hS
  rename World => wo
  refine R_op rfl (s_callP hS (.cons rfl .nil) cf52 rfl (line_P (.slice (tailP q p c 1) (l.length - p) (c - p)) (l.drop p) (by omega) _ hpc) ?_)
  clear hS a
  intro a w hS
  replace hj := hJ W.heap.size (Nat.le_refl _) _ _ w hj hS.chg.os hS.chg.tape hS.chg.output hS.chg.size (fun k hk _ => hS.chg.block k hk (fun h => h))
  replace hz := Nat.le_trans hz hS.chg.size
  replace hS := St.again hS.sl (hS.ok _ (by repeat constructor)) rfl
  clear hAt hpc
  refine R_op rfl (s_e hS (e_move rfl) rfl ?_); clear hS a; intro a hS
  refine R_op rfl (s_e hS (e_extract rfl rfl) rfl ?_); clear hS a; intro a hS
  refine R_op rfl (s_e hS (e_extract rfl rfl) rfl ?_); clear hS a; intro a hS
  refine R_op rfl (s_e hS (e_assign rfl) rfl ?_); clear hS a; intro a hS
  refine R_op rfl (s_e hS (e_assign rfl) rfl ?_); clear hS a; intro a hS
  refine R_nil ?_
  refine n_then ?_
  refine R_seq ?_
  refine R_seq ?_
  refine R_region ?_
  refine R_op rfl (s_e hS (e_move rfl) rfl ?_); clear hS a; intro a hS
  refine R_op rfl (s_e hS (e_bin rfl rfl rfl) rfl ?_); clear hS a; intro a hS
  refine R_nil ?_
  refine n_then ?_
  first | refine R_ifD hS rfl (fun hc15 => ?_) (fun hc15 => ?_) | refine R_if hS rfl (fun hc15 => ?_) (fun hc15 => ?_)
  ·
    have hend := items_end (q := q) (c := c) (l := l) (p := p) hc15
    refine R_seq ?_
    refine R_seq ?_
    refine R_region ?_
    refine R_op rfl (s_e hS (e_move rfl) rfl ?_); clear hS a; intro a hS
    refine R_op rfl (s_e hS (e_bin rfl rfl rfl) rfl ?_); clear hS a; intro a hS
    refine R_nil ?_
    refine n_then ?_
    first | refine R_ifD hS rfl (fun hc17 => ?_) (fun hc17 => ?_) | refine R_if hS rfl (fun hc17 => ?_) (fun hc17 => ?_)
    ·
      rw [if_pos hc17] at hend
      rw [hend] at hpre
      have hwrap : IntKind.i64.wrap (0 - (lineF (l.drop p)).2) = -(lineF (l.drop p)).2 := by rw [IntWalk.i64_in _ (by omega)]; omega
      have hy := hY W.heap.size pre (-(lineF (l.drop p)).2, .slice none 0 0) w (Nat.le_refl _) hz hj ⟨_, hpre⟩
      refine R_region ?_
      refine R_op rfl (s_e hS (e_move rfl) rfl ?_); clear hS a; intro a hS
      refine R_op rfl (s_e hS (e_move rfl) rfl ?_); clear hS a; intro a hS
      refine R_op rfl (s_e hS (e_neg rfl) rfl ?_); clear hS a; intro a hS
      rw [hwrap] at hS
      refine R_yield hS rfl (.cons rfl (.cons rfl .nil)) hy (fun e' w' hR => ?_)
      obtain ⟨z, rfl, hR2⟩ : ∃ z : Bool, e' = .returned (.bool z) ∧ ((z = true ∧ J W.heap.size (pre ++ [(-(lineF (l.drop p)).2, .slice none 0 0)]) w') ∨ (z = false ∧ Jx W.heap.size (pre ++ [(-(lineF (l.drop p)).2, .slice none 0 0)]) w')) := by
        rcases hR.2 with ⟨h1, h2⟩ | ⟨h1, h2⟩
        · exact ⟨true, h1, .inl ⟨rfl, h2⟩⟩
        · exact ⟨false, h1, .inr ⟨rfl, h2⟩⟩
      refine ⟨_, rfl, ?_⟩
      replace hS := St.bare (w := w') (hS.sl.put (d := 21) rfl (.bool z))
      clear hj hy hz hR
      generalize a.put (some 21) (Value.bool z) = a2 at hS ⊢
      clear a; revert a2; intro a hS; clear w; rename World => w
      refine R_nil ?_
      refine n_then ?_
      refine R_ret ?_
      refine r_then (r_block (r_then (r_block ?_)))
      refine c_retN hS Tryz.results51 .nil rfl ?_
      rcases hR2 with ⟨_, h2⟩ | ⟨_, h2⟩
      · exact ⟨⟨_, rfl⟩, _, Nat.le_refl _, .inl ⟨_, hpre, h2⟩⟩
      · exact ⟨⟨_, rfl⟩, _, Nat.le_refl _, .inr ⟨_, ⟨[], by rw [List.append_nil]; exact hpre⟩, h2⟩⟩
    ·
      refine R_skip ?_
      refine n_then ?_
      refine R_ret ?_
      refine r_then (r_block (r_then (r_block ?_)))
      refine c_retN hS Tryz.results51 .nil rfl ?_
      rw [if_neg hc17] at hend
      rw [hend, List.append_nil] at hpre
      exact ⟨⟨_, rfl⟩, _, Nat.le_refl _, .inl ⟨_, hpre, hj⟩⟩
  ·
    have hgo := items_go (q := q) (c := c) (l := l) (p := p) (by omega)
    have hn : ((lineF (l.drop p)).1.toNat : Int) = (lineF (l.drop p)).1 := Int.toNat_of_nonneg (by omega)
    rw [hgo] at hpre
    have hy := hY W.heap.size pre ((p : Int) + ((lineF (l.drop p)).1 + 2), .slice (tailP q p c 1) (lineF (l.drop p)).1.toNat (c - p)) w (Nat.le_refl _) hz hj ⟨_, hpre⟩
    refine R_skip ?_
    refine n_then ?_
    refine R_seq ?_
    refine R_region ?_
    refine R_op rfl (s_e hS (e_move rfl) rfl ?_); clear hS a; intro a hS
    refine R_op rfl (s_e hS (e_assign rfl) rfl ?_); clear hS a; intro a hS
    refine R_nil ?_
    refine n_then ?_
    refine R_seq ?_
    refine R_region ?_
    refine R_op rfl (s_e hS (e_move rfl) rfl ?_); clear hS a; intro a hS
    refine R_op rfl (s_e hS (e_move rfl) rfl ?_); clear hS a; intro a hS
    first | (refine R_op rfl (s_e hS (e_binN rfl rfl rfl (by omega)) rfl ?_); clear hS a; intro a hS) | (refine R_op rfl (s_e hS (e_bin rfl rfl rfl) rfl ?_); clear hS a; intro a hS)
    first | (refine R_op rfl (s_e hS (e_binN rfl rfl rfl (by omega)) rfl ?_); clear hS a; intro a hS) | (refine R_op rfl (s_e hS (e_bin rfl rfl rfl) rfl ?_); clear hS a; intro a hS)
    refine R_op rfl (s_e hS (e_assign rfl) rfl ?_); clear hS a; intro a hS
    refine R_nil ?_
    refine n_then ?_
    refine R_seq ?_
    refine R_region ?_
    refine R_op rfl (s_e hS (e_move rfl) rfl ?_); clear hS a; intro a hS
    refine R_op rfl (s_e hS (e_move rfl) rfl ?_); clear hS a; intro a hS
    refine R_op rfl (s_e hS (e_loadC rfl ty_sc22 (fun w hh => cell_of_blk (cs := [.slice q l.length c]) (hh (linesA b (.slice q l.length c) l) (by repeat constructor)).1 rfl)) rfl ?_); clear hS a; intro a hS
    refine R_op rfl (s_e hS (e_move rfl) rfl ?_); clear hS a; intro a hS
    refine R_op rfl (s_e hS (e_move rfl) rfl ?_); clear hS a; intro a hS
    refine R_op rfl (s_e hS (e_move rfl) rfl ?_); clear hS a; intro a hS
    first | (refine R_op rfl (s_e hS (e_binN rfl rfl rfl (by omega)) rfl ?_); clear hS a; intro a hS) | (refine R_op rfl (s_e hS (e_bin rfl rfl rfl) rfl ?_); clear hS a; intro a hS)
    rw [show (p : Int) + (lineF (l.drop p)).1 = ((p + (lineF (l.drop p)).1.toNat : Nat) : Int) by omega] at hS
    refine R_op rfl (s_e hS (e_slB rfl rfl rfl ty_sl22 ty_sz5 ⟨Nat.le_add_right _ _, by have := hlc (fun e => by subst e; exact hc15 (by rw [List.drop_nil]; decide)); omega⟩) rfl ?_); clear hS a; intro a hS
    rw [Nat.add_sub_cancel_left] at hS
    refine R_yield hS rfl (.cons rfl (.cons rfl .nil)) hy (fun e' w' hR => ?_)
    obtain ⟨z, rfl, hR2⟩ : ∃ z : Bool, e' = .returned (.bool z) ∧ ((z = true ∧ J W.heap.size (pre ++ [((p : Int) + ((lineF (l.drop p)).1 + 2), .slice (tailP q p c 1) (lineF (l.drop p)).1.toNat (c - p))]) w') ∨ (z = false ∧ Jx W.heap.size (pre ++ [((p : Int) + ((lineF (l.drop p)).1 + 2), .slice (tailP q p c 1) (lineF (l.drop p)).1.toNat (c - p))]) w')) := by
      rcases hR.2 with ⟨h1, h2⟩ | ⟨h1, h2⟩
      · exact ⟨true, h1, .inl ⟨rfl, h2⟩⟩
      · exact ⟨false, h1, .inr ⟨rfl, h2⟩⟩
    refine ⟨_, rfl, ?_⟩
    have hz2 := Nat.le_trans hz hR.1.1
    replace hS := St.bare (w := w') (hS.sl.put (d := 35) rfl (.bool z))
    clear hj hy hz hR
    generalize a.put (some 35) (Value.bool z) = a2 at hS ⊢
    clear a; revert a2; intro a hS; clear w; rename World => w
    refine R_op rfl (s_e hS (e_not rfl) rfl ?_); clear hS a; intro a hS
    refine R_nil ?_
    refine n_then ?_
    first | refine R_ifD hS rfl (fun hc36 => ?_) (fun hc36 => ?_) | refine R_if hS rfl (fun hc36 => ?_) (fun hc36 => ?_)
    ·
      refine R_ret ?_
      refine r_block (r_then (r_block ?_))
      refine c_retN hS Tryz.results51 .nil rfl ?_
      have hx2 : Jx W.heap.size (pre ++ [((p : Int) + ((lineF (l.drop p)).1 + 2), .slice (tailP q p c 1) (lineF (l.drop p)).1.toNat (c - p))]) w := by
        rcases hR2 with ⟨h1, _⟩ | ⟨_, h2⟩
        · rw [h1] at hc36; cases hc36
        · exact h2
      exact ⟨⟨_, rfl⟩, _, Nat.le_refl _, .inr ⟨_, ⟨_, by rw [List.append_assoc]; exact hpre⟩, hx2⟩⟩
    ·
      refine R_skip ?_
      refine n_block ?_
      have hx2 : J W.heap.size (pre ++ [((p : Int) + ((lineF (l.drop p)).1 + 2), .slice (tailP q p c 1) (lineF (l.drop p)).1.toNat (c - p))]) w := by
        rcases hR2 with ⟨_, h2⟩ | ⟨h1, _⟩
        · exact h2
        · rw [h1] at hc36; cases hc36
      exact ⟨(p + (lineF (l.drop p)).1.toNat + 2, pre ++ [((p : Int) + ((lineF (l.drop p)).1 + 2), .slice (tailP q p c 1) (lineF (l.drop p)).1.toNat (c - p))]), by simp only; omega, St.again (hS.sl.sub (by rw [show ((p + (lineF (l.drop p)).1.toNat + 2 : Nat) : Int) = (p : Int) + ((lineF (l.drop p)).1 + 2) by omega]; exact (by repeat (first | exact trivial | refine ⟨rfl, ?_⟩)))) (lines_ok (hK _ _ _ hx2)) rfl, by simp only; omega, hz2, hx2, by rw [List.append_assoc]; exact hpre⟩
end Go.Proofs.YtjmkjkhcognoeaaGreatDoor

namespace Go.Proofs.YtjmkjkhcognoeaaGreatDoor
open Go.RowKit

section
variable {P : Program} {n : NN} {F0 : Nat → Prop} {w0 w : World} {a : Act} {L : List (Nat × Value)} {Γ : List Asn}
variable {dst : Option Nat} {K : Act → World → Prop} {Q : Exit → Act → World → Prop} {ty : Nat} {pos : String} {af : Array Edge} {g : Option (Nat × Bool)}
/-- a struct inside a block. -/
theorem e_loadSub {T b k E : Nat} {x : Operand} {cs l : List Value} (hx : ev L x = some (.pointer (some ⟨b, k, none⟩))) (hm : Asn.blk b cs E ∈ Γ) (hT : structT P T = true) (hz : szOf P T = some l.length) (hl : (cs.drop k).take l.length = l) :
    Ex P n a L Γ ⟨dst, .load T x, ty, pos, af, g⟩ (.agg l.toArray) :=
  e_loadAC hx hT hz (fun w hh j v hj => cell_of_blk (E := E) (hh _ hm) (by
    have hjl := (List.getElem?_eq_some_iff.1 hj).1
    rw [← List.getElem?_drop]
    rw [← hl, List.getElem?_take_of_lt hjl] at hj
    exact hj))
theorem storeAt_run {E b k : Nat} : ∀ (vs : List Value) (i : Nat) (w : World) (cs cs' : List Value), w.heap[b]? = some (.cells cs.toArray E (0, 0)) → UpdA cs (k + i) vs cs' → (∀ v ∈ vs, isOne v = true) →
    ∃ w', (storeCells ⟨b, k, none⟩ vs i).run P w = .ok () w' ∧ w'.heap[b]? = some (.cells cs'.toArray E (0, 0)) ∧ Chg (fun k => k = b) w w' := by
  intro vs
  induction vs with
  | nil => intro i w cs cs' hb hu _; cases hu; exact ⟨w, by simp [storeCells], hb, Chg.refl _ _⟩
  | cons v vs ih =>
    intro i w cs cs' hb hu h1
    cases hu with
    | cons h t =>
      obtain ⟨e, hk⟩ := h.eq
      have hv := h1 v (by simp)
      have hc : ∃ u, cs[k + i]? = some u := ⟨cs[k + i], by simp [hk]⟩
      obtain ⟨u, hu⟩ := hc
      have hcell := cell_of_blk hb hu
      have hs := setCell_of_blk (k := k + i) hb v
      rw [← e] at hs
      obtain ⟨w', h2, h3, h4⟩ := ih (i + 1) _ _ _ hs t (fun u hu => h1 u (by simp [hu]))
      refine ⟨w', ?_, h3, (Chg.setCell w ⟨b, k + i, none⟩ v).trans h4 (fun i hi _ => hi)⟩
      simp [storeCells, addr_add, run_store _ _ _ _ _ (isOne_oneCell hv), hcell, frozen_of_blk hb, h2]
/-- a struct stored into a part of a block. -/
theorem s_storeB {T b k m : Nat} {x y : Operand} {cs cs' l : List Value} {E : TypeId} {Γ' : List Asn} (hS : St n F0 w0 a w L Γ) (hx : ev L x = some (.pointer (some ⟨b, k, none⟩))) (hy : ev L y = some (.agg l.toArray))
    (hz : szOf P T = some m) (hr : Rep (.blk b cs E) (.blk b cs' E) Γ Γ') (hl : Nat.beq l.length m = true) (hu : UpdA cs k l cs') (h1 : l.all isOne = true) (h : ∀ w', St n F0 w0 a w' L Γ' → K a w') : OW P ⟨none, .store T x y, ty, pos, af, g⟩ a w K Q := by
  have e2 := Nat.eq_of_beq_eq_true hl
  have hb : w.heap[b]? = some (.cells cs.toArray E (0, 0)) := hS.get hr.mem
  obtain ⟨w', h2, h3, h4⟩ := storeAt_run (P := P) (k := k) l 0 w cs cs' hb hu (by simpa using h1)
  have he : (execOp a.eval (⟨none, .store T x y, ty, pos, af, g⟩ : Oper)).run P w = .ok .skip w' := by
    simp [execOp, hS.sl.ev hx, hS.sl.ev hy, Instr.storeAt, Instr.sureAddr, storeVar, sizeOf_run hz, Value.cells, e2, h2]
  refine ⟨?_⟩
  unfold Oper.wp
  rw [he]
  exact h _ (hS.upd hr h4 (ok_blk h3) (fun i hi => .inl hi) rfl)
end

/-- a reader: the request so far, how many lines, the body's length, the headers, whether the empty line was read. -/
def rdC (m p : ByteArray) (body : Value) (cl : Bool) (n bl : Int) (mp : Nat) (over : Bool) : List Value := [.string m, .string p, body, .bool cl, .int .i64 n, .int .i64 bl, .map (some mp), .bool over]
def sNo : ByteArray := ⟨#[]⟩

set_option maxRecDepth 100000 in
theorem RLine1 (b mp : Nat) (m : Int) (w0 : World) (h : (Asn.blk b (rdC sNo sNo (.slice none 0 0) false 0 0 mp false) 96).φ w0) (hm : w0.cell? ⟨1, 0, none⟩ = some (.int .i64 m)) (hd : b ≠ 1) :
    MutC Tryz.prog 39 [.pointer (some ⟨b, 0, none⟩), .string sReq] w0 (.blk b (rdC sNo sNo (.slice none 0 0) false 0 0 mp false) 96) (fun _ : Unit => .int .i64 0) (fun _ => .blk b (rdC sGet sHealth (.slice none 0 0) false 1 0 mp false) 96) := by
  refine c_enter [(0, .pointer (some ⟨b, 0, none⟩)), (1, .string sReq)] [.blk b (rdC sNo sNo (.slice none 0 0) false 0 0 mp false) 96, ceA 1 0 (.int .i64 m)] (fun k => k = b) Tryz.func39 rfl Tryz.ntmps39 ⟨rfl, rfl, trivial⟩ rfl (okC (ok_blk h) (okC (ce_ok hm) okN)) (disC (sepC (fun k h1 h2 => hd (Eq.trans (Eq.symm h1) h2)) sepN) dis1) (mineO (fun _ hb => hb) (mineC (by rfl) mineN)) ?_
  intro a hS
  refine c_seq ?_
  refine c_region ?_
  refine L_op (s_e hS (e_assign rfl) rfl ?_); clear hS a; intro a hS
  refine L_nil ?_
  refine n_then ?_
  refine c_seq ?_
  refine c_region ?_
  refine L_op (s_e hS (e_move rfl) rfl ?_); clear hS a; intro a hS
  refine L_op (s_e hS (e_nilCheck rfl) rfl ?_); clear hS a; intro a hS
  first | (refine L_op (s_e hS (e_fa0 rfl ty_fo96_1) rfl ?_); clear hS a; intro a hS) | (refine L_op (s_e hS (e_faK rfl ty_fo96_1) rfl ?_); clear hS a; intro a hS)
  refine L_op (s_e hS (e_load rfl (by repeat constructor) ty_sc3 (by rfl)) rfl ?_); clear hS a; intro a hS
  first | (refine L_op (s_e hS (e_binN rfl rfl rfl (by omega)) rfl ?_); clear hS a; intro a hS) | (refine L_op (s_e hS (e_bin rfl rfl rfl) rfl ?_); clear hS a; intro a hS)
  refine L_op (s_e hS (e_nilCheck rfl) rfl ?_); clear hS a; intro a hS
  first | (refine L_op (s_e hS (e_fa0 rfl ty_fo96_1) rfl ?_); clear hS a; intro a hS) | (refine L_op (s_e hS (e_faK rfl ty_fo96_1) rfl ?_); clear hS a; intro a hS)
  refine L_op (s_store hS rfl rfl rfl ty_sz3 (by repeat constructor) (by repeat constructor) ?_); clear hS; (try clear w); intro w hS
  refine L_nil ?_
  refine n_then ?_
  refine c_seq ?_
  refine c_seq ?_
  refine c_region ?_
  refine L_op (s_e hS (e_move rfl) rfl ?_); clear hS a; intro a hS
  refine L_op (s_e hS (e_nilCheck rfl) rfl ?_); clear hS a; intro a hS
  first | (refine L_op (s_e hS (e_fa0 rfl ty_fo96_1) rfl ?_); clear hS a; intro a hS) | (refine L_op (s_e hS (e_faK rfl ty_fo96_1) rfl ?_); clear hS a; intro a hS)
  refine L_op (s_e hS (e_load rfl (by repeat constructor) ty_sc3 (by rfl)) rfl ?_); clear hS a; intro a hS
  refine L_op (s_e hS (e_bin rfl rfl rfl) rfl ?_); clear hS a; intro a hS
  refine L_nil ?_
  refine n_then ?_
  replace hS := hS.is (t := 24) (c := true) rfl ((by decide))
  refine c_if_t hS rfl ?_
  refine c_seq ?_
  refine c_region ?_
  refine L_op (s_e hS (e_move rfl) rfl ?_); clear hS a; intro a hS
  refine L_op (s_callP hS (.cons rfl .nil) cf53 rfl (first_req m _ (hS.get (X := ceA 1 0 (.int .i64 m)) (by repeat constructor))) ?_); clear hS a; (try clear w); intro a w hS
  refine L_op (s_e hS (e_move rfl) rfl ?_); clear hS a; intro a hS
  refine L_op (s_e hS (e_extract rfl rfl) rfl ?_); clear hS a; intro a hS
  refine L_op (s_e hS (e_extract rfl rfl) rfl ?_); clear hS a; intro a hS
  refine L_op (s_alloc hS ty_z35 rfl ?_); clear hS a; (try clear w); intro a w b5 hS
  refine L_op (s_storeA hS rfl rfl ty_sz35 (by repeat constructor) (by rfl) (by rfl) (by rfl) ?_); clear hS; (try clear w); intro w hS
  refine L_op (s_e hS (e_assign rfl) rfl ?_); clear hS a; intro a hS
  refine L_nil ?_
  refine n_then ?_
  refine c_seq ?_
  refine c_region ?_
  refine L_op (s_e hS (e_move rfl) rfl ?_); clear hS a; intro a hS
  refine L_op (s_e hS (e_loadA rfl (by repeat constructor) ty_st35 ty_sz35 (by rfl)) rfl ?_); clear hS a; intro a hS
  refine L_op (s_e hS (e_nilCheck rfl) rfl ?_); clear hS a; intro a hS
  first | (refine L_op (s_e hS (e_fa0 rfl ty_fo96_0) rfl ?_); clear hS a; intro a hS) | (refine L_op (s_e hS (e_faK rfl ty_fo96_0) rfl ?_); clear hS a; intro a hS)
  refine L_op (s_storeB hS rfl rfl ty_sz35 (cs' := rdC sGet sHealth (.slice none 0 0) false 1 0 mp false) (by repeat constructor) rfl (by unfold rdC; exact .cons .z (.cons (.s .z) (.cons (.s (.s .z)) (.cons (.s (.s (.s .z))) .nil)))) rfl ?_); clear hS; (try clear w); intro w hS
  refine L_nil ?_
  refine n_then ?_
  refine c_seq ?_
  refine c_region ?_
  refine L_op (s_e hS (e_move rfl) rfl ?_); clear hS a; intro a hS
  refine L_op (s_e hS (e_assign rfl) rfl ?_); clear hS a; intro a hS
  refine L_nil ?_
  refine n_then ?_
  refine wp_ret ?_
  refine r_then ?_
  refine c_ret1 hS Tryz.results39 (.tmp rfl) ?_
  exact ⟨(), rfl, hS.chg, hS.ok _ (by repeat constructor), fun c hc => .inl hc⟩
set_option maxRecDepth 100000 in
theorem RLine2 (b mp : Nat) (mt pt : ByteArray) (w0 : World) (h : (Asn.blk b (rdC mt pt (.slice none 0 0) false 1 0 mp false) 96).φ w0) :
    MutC Tryz.prog 39 [.pointer (some ⟨b, 0, none⟩), .string sNo] w0 (.blk b (rdC mt pt (.slice none 0 0) false 1 0 mp false) 96) (fun _ : Unit => .int .i64 0) (fun _ => .blk b (rdC mt pt (.slice none 0 0) false 2 0 mp true) 96) := by
  refine c_enter [(0, .pointer (some ⟨b, 0, none⟩)), (1, .string sNo)] [.blk b (rdC mt pt (.slice none 0 0) false 1 0 mp false) 96] (fun k => k = b) Tryz.func39 rfl Tryz.ntmps39 ⟨rfl, rfl, trivial⟩ rfl (okC (ok_blk h) okN) dis1 (mineO (fun _ hb => hb) mineN) ?_
  intro a hS
  refine c_seq ?_
  refine c_region ?_
  refine L_op (s_e hS (e_assign rfl) rfl ?_); clear hS a; intro a hS
  refine L_nil ?_
  refine n_then ?_
  refine c_seq ?_
  refine c_region ?_
  refine L_op (s_e hS (e_move rfl) rfl ?_); clear hS a; intro a hS
  refine L_op (s_e hS (e_nilCheck rfl) rfl ?_); clear hS a; intro a hS
  first | (refine L_op (s_e hS (e_fa0 rfl ty_fo96_1) rfl ?_); clear hS a; intro a hS) | (refine L_op (s_e hS (e_faK rfl ty_fo96_1) rfl ?_); clear hS a; intro a hS)
  refine L_op (s_e hS (e_load rfl (by repeat constructor) ty_sc3 (by rfl)) rfl ?_); clear hS a; intro a hS
  first | (refine L_op (s_e hS (e_binN rfl rfl rfl (by omega)) rfl ?_); clear hS a; intro a hS) | (refine L_op (s_e hS (e_bin rfl rfl rfl) rfl ?_); clear hS a; intro a hS)
  refine L_op (s_e hS (e_nilCheck rfl) rfl ?_); clear hS a; intro a hS
  first | (refine L_op (s_e hS (e_fa0 rfl ty_fo96_1) rfl ?_); clear hS a; intro a hS) | (refine L_op (s_e hS (e_faK rfl ty_fo96_1) rfl ?_); clear hS a; intro a hS)
  refine L_op (s_store hS rfl rfl rfl ty_sz3 (by repeat constructor) (by repeat constructor) ?_); clear hS; (try clear w); intro w hS
  refine L_nil ?_
  refine n_then ?_
  refine c_seq ?_
  refine c_seq ?_
  refine c_region ?_
  refine L_op (s_e hS (e_move rfl) rfl ?_); clear hS a; intro a hS
  refine L_op (s_e hS (e_nilCheck rfl) rfl ?_); clear hS a; intro a hS
  first | (refine L_op (s_e hS (e_fa0 rfl ty_fo96_1) rfl ?_); clear hS a; intro a hS) | (refine L_op (s_e hS (e_faK rfl ty_fo96_1) rfl ?_); clear hS a; intro a hS)
  refine L_op (s_e hS (e_load rfl (by repeat constructor) ty_sc3 (by rfl)) rfl ?_); clear hS a; intro a hS
  refine L_op (s_e hS (e_bin rfl rfl rfl) rfl ?_); clear hS a; intro a hS
  refine L_nil ?_
  refine n_then ?_
  replace hS := hS.is (t := 24) (c := false) rfl ((by decide))
  refine c_if_f hS rfl ?_
  refine wp_skip ?_
  refine n_then ?_
  refine c_seq ?_
  refine c_seq ?_
  refine c_region ?_
  refine L_op (s_e hS (e_move rfl) rfl ?_); clear hS a; intro a hS
  refine L_op (s_e hS (e_binS rfl rfl rfl) rfl ?_); clear hS a; intro a hS
  refine L_nil ?_
  refine n_then ?_
  replace hS := hS.is (t := 36) (c := true) rfl ((by decide))
  refine c_if_t hS rfl ?_
  refine c_seq ?_
  refine c_region ?_
  refine L_op (s_e hS (e_move rfl) rfl ?_); clear hS a; intro a hS
  refine L_op (s_e hS (e_nilCheck rfl) rfl ?_); clear hS a; intro a hS
  first | (refine L_op (s_e hS (e_fa0 rfl ty_fo96_4) rfl ?_); clear hS a; intro a hS) | (refine L_op (s_e hS (e_faK rfl ty_fo96_4) rfl ?_); clear hS a; intro a hS)
  refine L_op (s_store hS rfl rfl rfl ty_sz4 (by repeat constructor) (by repeat constructor) ?_); clear hS; (try clear w); intro w hS
  refine L_nil ?_
  refine n_then ?_
  refine c_seq ?_
  refine c_region ?_
  refine L_op (s_e hS (e_assign rfl) rfl ?_); clear hS a; intro a hS
  refine L_nil ?_
  refine n_then ?_
  refine wp_ret ?_
  refine r_then ?_
  refine c_ret1 hS Tryz.results39 (.tmp rfl) ?_
  exact ⟨(), rfl, hS.chg, hS.ok _ (by repeat constructor), fun c hc => .inl hc⟩
end Go.Proofs.YtjmkjkhcognoeaaGreatDoor

namespace Go.Proofs.YtjmkjkhcognoeaaGreatDoor
open Go.RowKit
variable {P : Program} {n : NN} {F0 : Nat → Prop} {w0 w : World} {a : Act} {L : List (Nat × Value)} {Γ : List Asn} {Q : Exit → Act → World → Prop}
end Go.Proofs.YtjmkjkhcognoeaaGreatDoor

namespace Go.Proofs.YtjmkjkhcognoeaaGreatDoor
open Go.RowKit

section
variable {P : Program} {n : NN} {F0 : Nat → Prop} {w0 : World} {a : Act} {w : World} {L : List (Nat × Value)} {Γ : List Asn} {r : Option Nat} {N : Nat} {Q : Exit → Act → World → Prop}
theorem opIn_of {ops : Array Oper} {i : Nat} {K : Act → World → Prop} (hnd : ∀ o, ops[i]? = some o → notDefer o.op = true) (hq : ¬ LetsOut Q) (h : wpOp P ops Q i K a w) : wpOpIn (FW r) N P ops Q i K a w := by
  unfold wpOp at h
  unfold wpOpIn
  cases ho : ops[i]? with
  | none => simpa [ho] using h
  | some o =>
    simp only [ho] at h ⊢
    by_cases hw : Region.wanted o (yielded ops a.tmps) = true
    · rw [if_pos hw] at h ⊢
      rcases h with h | h
      · exact oper_in (notDefer_ne (hnd o ho)) h
      · exact absurd h.2 hq
    · rw [if_neg hw] at h ⊢
      exact ⟨fun _ _ => trivial, h⟩
theorem anyIn_of {ops : Array Oper} (hnd : ∀ (i : Nat) (o : Oper), ops[i]? = some o → notDefer o.op = true) (hq : ¬ LetsOut Q) : ∀ (fuel : Nat) (listed : Array Bool) (a : Act) (w : World), wpAny P .any ops Q fuel listed a w → wpAnyIn (FW r) N P .any ops Q fuel listed a w
  | 0, _, _, _, h => h
  | fuel + 1, _, _, _, h => ⟨h.1, fun i hi => wpOpIn_mono (fun a' w' h' => anyIn_of hnd hq fuel _ a' w' h') (opIn_of (hnd i) hq (h.2 i hi))⟩
theorem R_drawS {id : Nat} {l : List Oper} {Γs : List Asn} (hnd : l.all (fun o => notDefer o.op) = true) (hq : ¬ LetsOut Q) (Z : List Nat) (hm : P.follows .mixedOrders = true) (hS : St n F0 w0 a w L Γ) (_hsub : ∀ X ∈ Γs, X ∈ Γ)
    (h : ∀ w', St n F0 w0 a w' L Γ → wpZ P l.toArray Q (Hd Γs) Z l.length (List.replicate l.length false).toArray a w') : (Code.region id l.toArray true).wpIn (FW r) N P Q a w := by
  refine wpIn_region_any hm (anyIn_of (fun i o ho => List.all_eq_true.1 hnd o (List.mem_of_getElem? (by simpa using ho))) hq _ _ _ _ (wpAny_of_Z (S := Hd Γs) (Z := Z) _ _ _ _ ?_))
  have := h w.drew (hS.ext (Chg.drew _ _))
  simpa using this
theorem R_draw1 {id : Nat} {l : List Oper} (hnd : l.all (fun o => notDefer o.op) = true) (hq : ¬ LetsOut Q) (Z : List Nat) (hm : P.follows .mixedOrders = true) (hS : St n F0 w0 a w L Γ)
    (h : ∀ w', St n F0 w0 a w' L Γ → wpZ P l.toArray Q (Hd Γ) Z l.length (List.replicate l.length false).toArray a w') : (Code.region id l.toArray true).wpIn (FW r) N P Q a w := R_drawS hnd hq Z hm hS (fun _ h => h) h
end
end Go.Proofs.YtjmkjkhcognoeaaGreatDoor
