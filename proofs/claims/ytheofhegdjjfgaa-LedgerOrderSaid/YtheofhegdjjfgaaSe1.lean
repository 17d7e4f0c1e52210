/- Slots by number, worlds that changed only where they may, and what is known of blocks: the words of a walk that names one lemma for each operation. -/
import Derived.WalkKit
import Derived.OrdersHeld
import Derived.Lib.Hide
namespace Go.Proofs.Ytheofhegdjjfgaa
open Go.RowKit

theorem nbeq_no {a b : Nat} (h : a ≠ b) : Nat.beq a b = false := by
  cases h' : Nat.beq a b
  · rfl
  · exact absurd (Nat.eq_of_beq_eq_true h') h
theorem nbeq_ne {a b : Nat} (h : Nat.beq a b = false) : a ≠ b := Nat.ne_of_beq_eq_false h

/-- the newest value of a slot in a list of writes. -/
def lk : List (Nat × Value) → Nat → Option Value
  | [], _ => none
  | (t, v) :: L, s => bif Nat.beq t s then some v else lk L s

def ev (L : List (Nat × Value)) : Operand → Option Value
  | .tmp t => lk L t
  | .const v => some v
  | .global g => some (.pointer (some ⟨g, 0, none⟩))
  | .func f => some (.func (.func f) #[] #[])

inductive Evs (L : List (Nat × Value)) : List Operand → List Value → Prop
  | nil : Evs L [] []
  | cons {x : Operand} {xs : List Operand} {v : Value} {vs : List Value} (h : ev L x = some v) (t : Evs L xs vs) : Evs L (x :: xs) (v :: vs)

structure Sl (n : Nat) (a : Act) (L : List (Nat × Value)) : Prop where
  size : a.tmps.size = n
  defers : a.defers = []
  get : ∀ t v, lk L t = some v → a.tmps.getD t undef = v

theorem Sl.ev {n : Nat} {a : Act} {L : List (Nat × Value)} (h : Sl n a L) {x : Operand} {v : Value} (hx : ev L x = some v) : a.eval x = v := by
  cases x with
  | tmp t => exact h.get t v hx
  | const u => simpa [Go.Proofs.Ytheofhegdjjfgaa.ev, Act.eval] using hx
  | global g => simpa [Go.Proofs.Ytheofhegdjjfgaa.ev, Act.eval] using hx
  | func f => simpa [Go.Proofs.Ytheofhegdjjfgaa.ev, Act.eval] using hx

theorem Sl.evs {n : Nat} {a : Act} {L : List (Nat × Value)} (h : Sl n a L) {xs : List Operand} {vs : List Value} (hx : Evs L xs vs) : xs.toArray.map a.eval = vs.toArray := by
  have : xs.map a.eval = vs := by
    induction hx with
    | nil => rfl
    | cons h1 _ ih => simp only [List.map_cons, ih, h.ev h1]
  simp [this]

theorem Sl.put {n : Nat} {a : Act} {L : List (Nat × Value)} (h : Sl n a L) {d : Nat} (hd : Nat.blt d n = true) (v : Value) : Sl n (a.put (some d) v) ((d, v) :: L) := by
  have hlt : d < n := by simpa using hd
  refine ⟨by simp [Act.put, h.size], h.defers, ?_⟩
  intro t u ht
  simp only [lk] at ht
  by_cases e : d = t
  · subst e
    have : Nat.beq d d = true := by simp
    rw [this] at ht; simp at ht; subst ht
    simp [Act.put, Array.getD, h.size, hlt]
  · have : Nat.beq d t = false := nbeq_no e
    rw [this] at ht
    have h2 := h.get t u (by simpa using ht)
    rw [← h2]
    simp only [Act.put, Array.getD_eq_getD_getElem?, Array.getElem?_setIfInBounds_ne e]

theorem Sl.put_none {n : Nat} {a : Act} {L : List (Nat × Value)} (h : Sl n a L) (v : Value) : Sl n (a.put none v) L := h

/-- every entry of the second list is what the first list holds. -/
def SubL (L : List (Nat × Value)) : List (Nat × Value) → Prop
  | [] => True
  | (t, v) :: r => lk L t = some v ∧ SubL L r

theorem SubL.get {L L' : List (Nat × Value)} (h : SubL L L') : ∀ t v, lk L' t = some v → lk L t = some v := by
  induction L' with
  | nil => intro t v ht; simp [lk] at ht
  | cons p r ih =>
    obtain ⟨s, u⟩ := p
    obtain ⟨h1, h2⟩ := h
    intro t v ht
    simp only [lk] at ht
    by_cases e : s = t
    · subst e
      have : Nat.beq s s = true := by simp
      rw [this] at ht; simp at ht; subst ht; exact h1
    · have : Nat.beq s t = false := nbeq_no e
      rw [this] at ht
      exact ih h2 t v (by simpa using ht)

theorem Sl.know {n : Nat} {a : Act} {L : List (Nat × Value)} (h : Sl n a L) {t : Nat} {v : Value} (hl : lk L t = some v) : Sl n a ((t, v) :: L) := by
  refine ⟨h.size, h.defers, ?_⟩
  intro s u hs
  simp only [lk] at hs
  by_cases e : t = s
  · subst e
    have : Nat.beq t t = true := by simp
    rw [this] at hs; simp at hs; subst hs; exact h.get _ _ hl
  · have : Nat.beq t s = false := nbeq_no e
    rw [this] at hs
    exact h.get _ _ (by simpa using hs)

theorem Sl.sub {n : Nat} {a : Act} {L L' : List (Nat × Value)} (h : Sl n a L) (hs : SubL L L') : Sl n a L' :=
  ⟨h.size, h.defers, fun t v ht => h.get t v (hs.get t v ht)⟩

/-- the arguments as slots. -/
def SubA (l : List Value) : List (Nat × Value) → Prop
  | [] => True
  | (t, v) :: r => l[t]? = some v ∧ SubA l r

theorem Sl.start {l : List Value} {L : List (Nat × Value)} {n m : Nat} (hA : SubA l L) (hn : l.length + m = n) : Sl n ⟨l.toArray ++ Array.replicate m undef, []⟩ L := by
  refine ⟨by simp [hn], rfl, ?_⟩
  induction L with
  | nil => intro t v ht; simp [lk] at ht
  | cons p r ih =>
    obtain ⟨s, u⟩ := p
    obtain ⟨h1, h2⟩ := hA
    intro t v ht
    simp only [lk] at ht
    by_cases e : s = t
    · subst e
      have : Nat.beq s s = true := by simp
      rw [this] at ht; simp at ht; subst ht
      have hlt := (List.getElem?_eq_some_iff.1 h1).1
      simp only [Array.getD]
      rw [dif_pos (by simp; omega)]
      simp only [Array.getInternal_eq_getElem]
      rw [Array.getElem_append_left (by simpa using hlt)]
      simpa using (List.getElem?_eq_some_iff.1 h1).2
    · have : Nat.beq s t = false := nbeq_no e
      rw [this] at ht
      exact ih h2 t v (by simpa using ht)

/-! ### worlds -/

/-- only blocks of F, of those that were, may have turned. -/
structure Chg (F : Nat → Prop) (w w' : World) : Prop where
  os : w'.os = w.os
  tape : w'.tape = w.tape
  output : w'.output = w.output
  size : w.heap.size ≤ w'.heap.size
  block : ∀ k, k < w.heap.size → ¬ F k → w'.heap[k]? = w.heap[k]?

def noB : Nat → Prop := fun _ => False

theorem Chg.refl (F : Nat → Prop) (w : World) : Chg F w w := ⟨rfl, rfl, rfl, Nat.le_refl _, fun _ _ _ => rfl⟩
theorem Chg.trans {F F' : Nat → Prop} {a b c : World} (h : Chg F a b) (k : Chg F' b c) (hF : ∀ i, F' i → i < a.heap.size → F i) : Chg F a c :=
  ⟨k.os.trans h.os, k.tape.trans h.tape, k.output.trans h.output, Nat.le_trans h.size k.size,
   fun i hi hn => (k.block i (Nat.lt_of_lt_of_le hi h.size) (fun hf => hn (hF i hf hi))).trans (h.block i hi hn)⟩
theorem Chg.ext {F : Nat → Prop} {a b c : World} (h : Chg F a b) (k : Chg noB b c) : Chg F a c := h.trans k (fun _ hf => hf.elim)
theorem Chg.mono {F F' : Nat → Prop} {a b : World} (h : Chg F a b) (hF : ∀ i, F i → F' i) : Chg F' a b :=
  ⟨h.os, h.tape, h.output, h.size, fun i hi hn => h.block i hi (fun hf => hn (hF i hf))⟩
theorem Chg.below {a b : World} (h : Chg noB a b) : Below a.heap.size a b := ⟨h.os, h.tape, h.output, h.size, fun k hk => h.block k hk (fun hf => hf)⟩
theorem Chg.of_below {a b : World} (h : Below a.heap.size a b) : Chg noB a b := ⟨h.os, h.tape, h.output, h.size, fun k hk _ => h.block k hk⟩
theorem Chg.drew (F : Nat → Prop) (w : World) : Chg F w w.drew := ⟨rfl, rfl, rfl, Nat.le_refl _, fun _ _ _ => rfl⟩
theorem Chg.alloc (F : Nat → Prop) (w : World) (o : Obj) : Chg F w (w.alloc o) :=
  ⟨rfl, rfl, rfl, by simp, fun k hk _ => Below.heap_alloc w o k hk⟩
theorem Chg.setCell (w : World) (a : Addr) (v : Value) : Chg (fun k => k = a.block) w (w.setCell a v) :=
  ⟨rfl, rfl, rfl, by simp, fun k _ hn => Below.heap_setCell w a v k hn⟩

/-- what is known: a block of the walk's own, cell by cell; or a fact with its blocks. -/
inductive Asn where
  | blk (b : Nat) (cs : List Value) (E : TypeId)
  | any (F : Nat → Prop) (φ : World → Prop) (mine : Bool)
  | mp (b : Nat) (es : List MapEntry) (clock : Nat)

def Asn.F : Asn → Nat → Prop
  | .blk b _ _, k => k = b
  | .any F _ _, k => F k
  | .mp b _ _, k => k = b
def Asn.φ : Asn → World → Prop
  | .blk b cs E, w => w.heap[b]? = some (.cells cs.toArray E (0, 0))
  | .any _ φ _, w => φ w
  | .mp b es c, w => w.heap[b]? = some (.map es.toArray c)
def Asn.mine : Asn → Bool
  | .blk _ _ _ => true
  | .any _ _ m => m
  | .mp _ _ _ => true

/-- it holds, in whatever world has these blocks. -/
structure Asn.ok (X : Asn) (w : World) : Prop where
  lt : ∀ b, X.F b → b < w.heap.size
  hold : ∀ w', (∀ b, X.F b → w'.heap[b]? = w.heap[b]?) → X.φ w'

theorem Asn.ok.now {X : Asn} {w : World} (h : X.ok w) : X.φ w := h.hold w fun _ _ => rfl
theorem Asn.ok.keep {X : Asn} {w w' : World} {F : Nat → Prop} (h : X.ok w) (hc : Chg F w w') (hd : ∀ b, X.F b → ¬ F b) : X.ok w' :=
  ⟨fun b hb => Nat.lt_of_lt_of_le (h.lt b hb) hc.size, fun w2 h2 => h.hold w2 fun b hb => (h2 b hb).trans (hc.block b (h.lt b hb) (hd b hb))⟩

theorem ok_blk {w : World} {b : Nat} {cs : List Value} {E : TypeId} (h : w.heap[b]? = some (.cells cs.toArray E (0, 0))) : (Asn.blk b cs E).ok w := by
  refine ⟨fun k hk => ?_, fun w' hw => ?_⟩
  · obtain rfl : k = b := hk
    exact (Array.getElem?_eq_some_iff.1 h).1
  · show w'.heap[b]? = _
    rw [hw b rfl]; exact h

structure St (n : Nat) (F0 : Nat → Prop) (w0 : World) (a : Act) (w : World) (L : List (Nat × Value)) (Γ : List Asn) : Prop where
  sl : Sl n a L
  chg : Chg F0 w0 w
  ok : ∀ X ∈ Γ, X.ok w
  dis : Γ.Pairwise (fun X Y => ∀ b, X.F b → ¬ Y.F b)
  mine : ∀ X ∈ Γ, X.mine = true → ∀ b, X.F b → w0.heap.size ≤ b ∨ F0 b

section
variable {n : Nat} {F0 : Nat → Prop} {w0 : World} {a : Act} {w : World} {L : List (Nat × Value)} {Γ : List Asn} {X : Asn}

theorem St.put (h : St n F0 w0 a w L Γ) {d : Nat} (hd : Nat.blt d n = true) (v : Value) : St n F0 w0 (a.put (some d) v) w ((d, v) :: L) Γ :=
  ⟨h.sl.put hd v, h.chg, h.ok, h.dis, h.mine⟩
theorem St.act (h : St n F0 w0 a w L Γ) {a' : Act} {L' : List (Nat × Value)} (hs : Sl n a' L') : St n F0 w0 a' w L' Γ :=
  ⟨hs, h.chg, h.ok, h.dis, h.mine⟩
theorem St.slots (h : St n F0 w0 a w L Γ) {L' : List (Nat × Value)} (hs : SubL L L') : St n F0 w0 a w L' Γ := h.act (h.sl.sub hs)

/-- all that was stays: the world grew. -/
theorem St.ext (h : St n F0 w0 a w L Γ) {w' : World} (hc : Chg noB w w') : St n F0 w0 a w' L Γ :=
  ⟨h.sl, h.chg.ext hc, fun X hX => (h.ok X hX).keep hc (fun _ _ hf => hf), h.dis, h.mine⟩

/-- the world grew, and something new is known of new blocks. -/
theorem St.fresh (h : St n F0 w0 a w L Γ) {w' : World} (hc : Chg noB w w') {Y : Asn} (hY : Y.ok w') (hnew : ∀ b, Y.F b → w.heap.size ≤ b) : St n F0 w0 a w' L (Y :: Γ) := by
  have h' := h.ext hc
  refine ⟨h'.sl, h'.chg, ?_, ?_, ?_⟩
  · intro X hX
    rcases List.mem_cons.1 hX with rfl | hX
    · exact hY
    · exact h'.ok X hX
  · refine List.pairwise_cons.2 ⟨fun X hX b hb hb' => ?_, h.dis⟩
    have h1 := hnew b hb
    have h2 := (h.ok X hX).lt b hb'
    omega
  · intro X hX hm b hb
    rcases List.mem_cons.1 hX with rfl | hX
    · exact .inl (Nat.le_trans h.chg.size (hnew b hb))
    · exact h.mine X hX hm b hb

theorem St.get (h : St n F0 w0 a w L Γ) {X : Asn} (hX : X ∈ Γ) : X.φ w := (h.ok X hX).now

/-- one entry is changed, with its own blocks and new ones. -/
inductive Rep (X Y : Asn) : List Asn → List Asn → Prop
  | head {Γ : List Asn} : Rep X Y (X :: Γ) (Y :: Γ)
  | tail {Z : Asn} {Γ Γ' : List Asn} (h : Rep X Y Γ Γ') : Rep X Y (Z :: Γ) (Z :: Γ')

theorem Rep.mem {X Y : Asn} {Γ Γ' : List Asn} (h : Rep X Y Γ Γ') : X ∈ Γ := by
  induction h with
  | head => exact .head _
  | tail _ ih => exact .tail _ ih
theorem Rep.new {X Y : Asn} {Γ Γ' : List Asn} (h : Rep X Y Γ Γ') : ∀ Z ∈ Γ', Z = Y ∨ Z ∈ Γ := by
  induction h with
  | head => intro Z hZ; rcases List.mem_cons.1 hZ with rfl | hZ; exact .inl rfl; exact .inr (.tail _ hZ)
  | tail _ ih => intro Z hZ; rcases List.mem_cons.1 hZ with rfl | hZ; exact .inr (.head _); exact (ih Z hZ).imp id (.tail _)

theorem Rep.apart {X Y : Asn} {Γ Γ' : List Asn} (h : Rep X Y Γ Γ') {w w' : World} (hok : ∀ Z ∈ Γ, Z.ok w) (hd : Γ.Pairwise (fun X Y => ∀ b, X.F b → ¬ Y.F b))
    (hc : Chg X.F w w') (hY : Y.ok w') (hF : ∀ b, Y.F b → X.F b ∨ w.heap.size ≤ b) :
    (∀ Z ∈ Γ', Z.ok w') ∧ Γ'.Pairwise (fun X Y => ∀ b, X.F b → ¬ Y.F b) := by
  induction h with
  | @head Γ =>
    have hd' := List.pairwise_cons.1 hd
    refine ⟨fun Z hZ => ?_, List.pairwise_cons.2 ⟨fun Z hZ b hb hb' => ?_, hd'.2⟩⟩
    · rcases List.mem_cons.1 hZ with rfl | hZ
      · exact hY
      · exact (hok Z (.tail _ hZ)).keep hc (fun b hb hx => hd'.1 Z hZ b hx hb)
    · rcases hF b hb with h1 | h1
      · exact hd'.1 Z hZ b h1 hb'
      · have := (hok Z (.tail _ hZ)).lt b hb'; omega
  | @tail V Γ Γ' hr ih =>
    have hd' := List.pairwise_cons.1 hd
    obtain ⟨h1, h2⟩ := ih (fun Z hZ => hok Z (.tail _ hZ)) hd'.2
    have hVX := hd'.1 X hr.mem
    refine ⟨fun Z hZ => ?_, List.pairwise_cons.2 ⟨fun Z hZ b hb hb' => ?_, h2⟩⟩
    · rcases List.mem_cons.1 hZ with rfl | hZ
      · exact (hok _ (.head _)).keep hc hVX
      · exact h1 Z hZ
    · rcases hr.new Z hZ with rfl | hZ
      · rcases hF b hb' with h3 | h3
        · exact hVX b hb h3
        · have := (hok V (.head _)).lt b hb; omega
      · exact hd'.1 Z hZ b hb hb'

theorem St.upd (h : St n F0 w0 a w L Γ) {w' : World} {X Y : Asn} {Γ' : List Asn} (hr : Rep X Y Γ Γ') (hc : Chg X.F w w') (hY : Y.ok w')
    (hF : ∀ b, Y.F b → X.F b ∨ w.heap.size ≤ b) (hm : X.mine = true) : St n F0 w0 a w' L Γ' := by
  obtain ⟨h1, h2⟩ := hr.apart h.ok h.dis hc hY hF
  refine ⟨h.sl, h.chg.trans hc (fun i hi hlt => ?_), h1, h2, ?_⟩
  · rcases h.mine X hr.mem hm i hi with h3 | h3
    · omega
    · exact h3
  · intro Z hZ hmz b hb
    rcases hr.new Z hZ with rfl | hZ
    · rcases hF b hb with h3 | h3
      · exact h.mine X hr.mem hm b h3
      · exact .inl (Nat.le_trans h.chg.size h3)
    · exact h.mine Z hZ hmz b hb

/-- two entries become one. -/
theorem St.join (h : St n F0 w0 a w L (X :: Γ)) {Y Z : Asn} {Γ' : List Asn} (hr : Rep Y Z Γ Γ') (hZ : Z.ok w) (hF : ∀ b, Z.F b → X.F b ∨ Y.F b) (hm : Z.mine = true → X.mine = true ∧ Y.mine = true) : St n F0 w0 a w L Γ' := by
  have hd := List.pairwise_cons.1 h.dis
  refine ⟨h.sl, h.chg, ?_, ?_, ?_⟩
  · intro V hV
    rcases hr.new V hV with rfl | hV
    · exact hZ
    · exact h.ok V (.tail _ hV)
  · have key : ∀ {Γ Γ' : List Asn}, Rep Y Z Γ Γ' → Γ.Pairwise (fun X Y => ∀ b, X.F b → ¬ Y.F b) → (∀ V ∈ Γ, ∀ b, X.F b → ¬ V.F b) → Γ'.Pairwise (fun X Y => ∀ b, X.F b → ¬ Y.F b) := by
      intro Γ Γ' hr
      induction hr with
      | head =>
        intro hp hx
        have hp' := List.pairwise_cons.1 hp
        refine List.pairwise_cons.2 ⟨fun V hV b hb hb' => ?_, hp'.2⟩
        rcases hF b hb with h1 | h1
        · exact hx V (.tail _ hV) b h1 hb'
        · exact hp'.1 V hV b h1 hb'
      | @tail U Γ Γ' hr ih =>
        intro hp hx
        have hp' := List.pairwise_cons.1 hp
        refine List.pairwise_cons.2 ⟨fun V hV b hb hb' => ?_, ih hp'.2 (fun V hV => hx V (.tail _ hV))⟩
        rcases hr.new V hV with rfl | hV
        · rcases hF b hb' with h1 | h1
          · exact hx U (.head _) b h1 hb
          · exact hp'.1 Y hr.mem b hb h1
        · exact hp'.1 V hV b hb hb'
    exact key hr hd.2 (fun V hV => hd.1 V hV)
  · intro V hV hmV b hb
    rcases hr.new V hV with rfl | hV
    · obtain ⟨m1, m2⟩ := hm hmV
      rcases hF b hb with h1 | h1
      · exact h.mine X (.head _) m1 b h1
      · exact h.mine Y (.tail _ hr.mem) m2 b h1
    · exact h.mine V (.tail _ hV) hmV b hb

/-- the entries may stand in any order, and some may go. -/
theorem St.perm (h : St n F0 w0 a w L Γ) {Γ' : List Asn} (hs : List.Perm Γ' Γ) : St n F0 w0 a w L Γ' :=
  ⟨h.sl, h.chg, fun X hX => h.ok X (hs.subset hX), (hs.pairwise_iff (fun hXY b hb hb' => hXY b hb' hb)).2 h.dis, fun X hX => h.mine X (hs.subset hX)⟩

/-- fewer entries are kept. -/
theorem St.drop (h : St n F0 w0 a w L Γ) {Γ' : List Asn} (hs : List.Sublist Γ' Γ) : St n F0 w0 a w L Γ' :=
  ⟨h.sl, h.chg, fun X hX => h.ok X (hs.subset hX), h.dis.sublist hs, fun X hX => h.mine X (hs.subset hX)⟩
end

/-! ### code -/
section
variable {P : Program} {Q : Exit → Act → World → Prop} {a : Act} {w : World}

theorem c_seq {x y : Code} (h : x.wp P (Exit.then (y.wp P Q) Q) a w) : (Code.seq x y).wp P Q a w := wp_seq h
theorem c_cut {x y : Code} (J : Act → World → Prop) (h : x.wp P (Exit.then J Q) a w) (h2 : ∀ a w, J a w → y.wp P Q a w) : (Code.seq x y).wp P Q a w :=
  wp_seq (Go.wp_mono h fun e a w hq => by cases e <;> first | exact h2 _ _ hq | exact hq)
theorem n_then {N : Act → World → Prop} (h : N a w) : Exit.then N Q .normal a w := h
theorem x_then {N : Act → World → Prop} {i : Nat} (h : Q (.exit i) a w) : Exit.then N Q (.exit i) a w := h
theorem r_then {N : Act → World → Prop} (h : Q .ret a w) : Exit.then N Q .ret a w := h
theorem n_block {i : Nat} (h : Q .normal a w) : Exit.inBlock i Q .normal a w := h
theorem r_block {i : Nat} (h : Q .ret a w) : Exit.inBlock i Q .ret a w := h
theorem x_hit {i : Nat} (h : Q .normal a w) : Exit.inBlock i Q (.exit i) a w := by simpa [Exit.inBlock] using h
theorem x_miss {i j : Nat} (hn : Nat.beq j i = false) (h : Q (.exit j) a w) : Exit.inBlock i Q (.exit j) a w := by
  have : j ≠ i := nbeq_ne hn
  simpa [Exit.inBlock, this] using h

theorem c_loop {γ : Type} {c : Code} (I : γ → Act → World → Prop) (μ : γ → Nat) (g0 : γ) (h0 : I g0 a w)
    (round : ∀ g a w, I g a w → c.wp P (Exit.then (fun a' w' => ∃ g', μ g' < μ g ∧ I g' a' w') Q) a w) : (Code.loop c).wp P Q a w := by
  have key : ∀ m g a w, μ g = m → I g a w → ∀ (b : Frame) (k : List Item) (cs : List Frame),
      ∃ e a' w', Q e a' w' ∧ Arrives P (lone (b.at a (.code c :: .inLoop c :: k)) cs w) b k cs e a' w' := by
    intro m
    induction m using Nat.strongRecOn with
    | _ m ih =>
      intro g a w hm hI b k cs
      obtain ⟨e, a1, w1, hq, harr⟩ := round g a w hI b (.inLoop c :: k) cs
      cases e with
      | normal =>
        obtain ⟨g', hlt, hI'⟩ := hq
        obtain ⟨e2, a2, w2, hq2, harr2⟩ := ih (μ g') (hm ▸ hlt) g' a1 w1 rfl hI' b k cs
        exact ⟨e2, a2, w2, hq2, .of_steps (Steps.trans harr (.one step_inLoop)) harr2⟩
      | exit id => exact ⟨_, a1, w1, hq, .pass (x := .inLoop c) rfl (fun _ _ => .inl (by simp)) harr⟩
      | goto l => exact ⟨_, a1, w1, hq, .pass (x := .inLoop c) rfl (fun _ _ => .inl (by simp)) harr⟩
      | ret => exact ⟨_, a1, w1, hq, .pass (x := .inLoop c) rfl (fun _ _ => .inl (by simp)) harr⟩
      | panic ch => exact ⟨_, a1, w1, hq, .pass (x := .inLoop c) rfl (fun _ _ => .inl (by simp)) harr⟩
      | outgrown => exact ⟨_, a1, w1, hq, .pass (x := .inLoop c) rfl (fun _ _ => .inl (by simp)) harr⟩
  intro b k cs
  obtain ⟨e, a', w', hq, harr⟩ := key _ g0 a w rfl h0 b k cs
  exact ⟨e, a', w', hq, .of_steps (.one step_loop) harr⟩
end
end Go.Proofs.Ytheofhegdjjfgaa
