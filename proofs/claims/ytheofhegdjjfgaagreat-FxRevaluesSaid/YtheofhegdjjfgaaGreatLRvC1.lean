/- FxRevalues: for every argument the law returns true, and each argument reads afterwards as it read before. No conditions. (text 1 of 6) -/
import Derived.WalkKit
import Derived.OrdersHeld
import Derived.Lib.Hide
import Derived.Laws.OwnMore
import Derived.Test.YtheofhegdjjfgaaGreatRows
import Derived.Shelf.Spec.BitsCarry
import Derived.WalkSpells
import Derived.WalkLawsBesides
import Derived.Deep.RegionHeld3
import Derived.Deep.DeepCutAuto
import Derived.Deep.QuietTactic
import Derived.BigQuiet
import Derived.Test.YtheofhegdjjfgaaGreatShelf
import Derived.Lib.BitFns
namespace Go.Proofs.YtheofhegdjjfgaaGreat
open Go.RowKit
theorem nbeq_no {a b : Nat} (h : a ≠ b) : Nat.beq a b = false := by
 cases h' : Nat.beq a b
 · rfl
 · exact absurd (Nat.eq_of_beq_eq_true h') h
theorem nbeq_ne {a b : Nat} (h : Nat.beq a b = false) : a ≠ b := Nat.ne_of_beq_eq_false h
def lk : List (Nat × Value) → Nat → Option Value
 | [], _ => none
 | (t, v) :: L, s => bif Nat.beq t s then some v else lk L s
def ev (L : List (Nat × Value)) : Operand → Option Value
 | .tmp t => lk L t
 | .const v => some v
 | .global g => some (.pointer (some ⟨g, 0, none⟩))
 | .func f => some (.func (.func f) #[] #[])
inductive Evs (L : List (Nat × Value)) : List Operand → List Value → Prop
 | nil : Evs L [] []
 | cons {x : Operand} {xs : List Operand} {v : Value} {vs : List Value} (h : ev L x = some v) (t : Evs L xs vs) : Evs L (x :: xs) (v :: vs)
structure Sl (n : Nat) (a : Act) (L : List (Nat × Value)) : Prop where
 size : a.tmps.size = n
 defers : a.defers = []
 get : ∀ t v, lk L t = some v → a.tmps.getD t undef = v
theorem Sl.ev {n : Nat} {a : Act} {L : List (Nat × Value)} (h : Sl n a L) {x : Operand} {v : Value} (hx : ev L x = some v) : a.eval x = v := by
 cases x with
 | tmp t => exact h.get t v hx
 | const u => simpa [Go.Proofs.YtheofhegdjjfgaaGreat.ev, Act.eval] using hx
 | global g => simpa [Go.Proofs.YtheofhegdjjfgaaGreat.ev, Act.eval] using hx
 | func f => simpa [Go.Proofs.YtheofhegdjjfgaaGreat.ev, Act.eval] using hx
theorem Sl.evs {n : Nat} {a : Act} {L : List (Nat × Value)} (h : Sl n a L) {xs : List Operand} {vs : List Value} (hx : Evs L xs vs) : xs.toArray.map a.eval = vs.toArray := by
 have : xs.map a.eval = vs := by
  induction hx with
  | nil => rfl
  | cons h1 _ ih => simp only [List.map_cons, ih, h.ev h1]
 simp [this]
theorem Sl.put {n : Nat} {a : Act} {L : List (Nat × Value)} (h : Sl n a L) {d : Nat} (hd : Nat.blt d n = true) (v : Value) : Sl n (a.put (some d) v) ((d, v) :: L) := by
 have hlt : d < n := by simpa using hd
 refine ⟨by simp [Act.put, h.size], h.defers, ?_⟩
 intro t u ht
 simp only [lk] at ht
 by_cases e : d = t
 · subst e
   have : Nat.beq d d = true := by simp
   rw [this] at ht; simp at ht; subst ht
   simp [Act.put, Array.getD, h.size, hlt]
 · have : Nat.beq d t = false := nbeq_no e
   rw [this] at ht
   have h2 := h.get t u (by simpa using ht)
   rw [← h2]
   simp only [Act.put, Array.getD_eq_getD_getElem?, Array.getElem?_setIfInBounds_ne e]
def SubL (L : List (Nat × Value)) : List (Nat × Value) → Prop
 | [] => True
 | (t, v) :: r => lk L t = some v ∧ SubL L r
theorem SubL.get {L L' : List (Nat × Value)} (h : SubL L L') : ∀ t v, lk L' t = some v → lk L t = some v := by
 induction L' with
 | nil => intro t v ht; simp [lk] at ht
 | cons p r ih =>
   obtain ⟨s, u⟩ := p
   obtain ⟨h1, h2⟩ := h
   intro t v ht
   simp only [lk] at ht
   by_cases e : s = t
   · subst e
     have : Nat.beq s s = true := by simp
     rw [this] at ht; simp at ht; subst ht; exact h1
   · have : Nat.beq s t = false := nbeq_no e
     rw [this] at ht
     exact ih h2 t v (by simpa using ht)
theorem Sl.know {n : Nat} {a : Act} {L : List (Nat × Value)} (h : Sl n a L) {t : Nat} {v : Value} (hl : lk L t = some v) : Sl n a ((t, v) :: L) := by
 refine ⟨h.size, h.defers, ?_⟩
 intro s u hs
 simp only [lk] at hs
 by_cases e : t = s
 · subst e
   have : Nat.beq t t = true := by simp
   rw [this] at hs; simp at hs; subst hs; exact h.get _ _ hl
 · have : Nat.beq t s = false := nbeq_no e
   rw [this] at hs
   exact h.get _ _ (by simpa using hs)
theorem Sl.sub {n : Nat} {a : Act} {L L' : List (Nat × Value)} (h : Sl n a L) (hs : SubL L L') : Sl n a L' :=
 ⟨h.size, h.defers, fun t v ht => h.get t v (hs.get t v ht)⟩
def SubA (l : List Value) : List (Nat × Value) → Prop
 | [] => True
 | (t, v) :: r => l[t]? = some v ∧ SubA l r
theorem Sl.start {l : List Value} {L : List (Nat × Value)} {n m : Nat} (hA : SubA l L) (hn : l.length + m = n) : Sl n ⟨l.toArray ++ Array.replicate m undef, []⟩ L := by
 refine ⟨by simp [hn], rfl, ?_⟩
 induction L with
 | nil => intro t v ht; simp [lk] at ht
 | cons p r ih =>
   obtain ⟨s, u⟩ := p
   obtain ⟨h1, h2⟩ := hA
   intro t v ht
   simp only [lk] at ht
   by_cases e : s = t
   · subst e
     have : Nat.beq s s = true := by simp
     rw [this] at ht; simp at ht; subst ht
     have hlt := (List.getElem?_eq_some_iff.1 h1).1
     simp only [Array.getD]
     rw [dif_pos (by simp; omega)]
     simp only [Array.getInternal_eq_getElem]
     rw [Array.getElem_append_left (by simpa using hlt)]
     simpa using (List.getElem?_eq_some_iff.1 h1).2
   · have : Nat.beq s t = false := nbeq_no e
     rw [this] at ht
     exact ih h2 t v (by simpa using ht)
structure Chg (F : Nat → Prop) (w w' : World) : Prop where
 os : w'.os = w.os
 tape : w'.tape = w.tape
 output : w'.output = w.output
 size : w.heap.size ≤ w'.heap.size
 block : ∀ k, k < w.heap.size → ¬ F k → w'.heap[k]? = w.heap[k]?
def noB : Nat → Prop := fun _ => False
theorem Chg.refl (F : Nat → Prop) (w : World) : Chg F w w := ⟨rfl, rfl, rfl, Nat.le_refl _, fun _ _ _ => rfl⟩
theorem Chg.trans {F F' : Nat → Prop} {a b c : World} (h : Chg F a b) (k : Chg F' b c) (hF : ∀ i, F' i → i < a.heap.size → F i) : Chg F a c :=
 ⟨k.os.trans h.os, k.tape.trans h.tape, k.output.trans h.output, Nat.le_trans h.size k.size,
  fun i hi hn => (k.block i (Nat.lt_of_lt_of_le hi h.size) (fun hf => hn (hF i hf hi))).trans (h.block i hi hn)⟩
theorem Chg.ext {F : Nat → Prop} {a b c : World} (h : Chg F a b) (k : Chg noB b c) : Chg F a c := h.trans k (fun _ hf => hf.elim)
theorem Chg.mono {F F' : Nat → Prop} {a b : World} (h : Chg F a b) (hF : ∀ i, F i → F' i) : Chg F' a b :=
 ⟨h.os, h.tape, h.output, h.size, fun i hi hn => h.block i hi (fun hf => hn (hF i hf))⟩
theorem Chg.below {a b : World} (h : Chg noB a b) : Below a.heap.size a b := ⟨h.os, h.tape, h.output, h.size, fun k hk => h.block k hk (fun hf => hf)⟩
theorem Chg.of_below {a b : World} (h : Below a.heap.size a b) : Chg noB a b := ⟨h.os, h.tape, h.output, h.size, fun k hk _ => h.block k hk⟩
theorem Chg.drew (F : Nat → Prop) (w : World) : Chg F w w.drew := ⟨rfl, rfl, rfl, Nat.le_refl _, fun _ _ _ => rfl⟩
theorem Chg.alloc (F : Nat → Prop) (w : World) (o : Obj) : Chg F w (w.alloc o) :=
 ⟨rfl, rfl, rfl, by simp, fun k hk _ => Below.heap_alloc w o k hk⟩
theorem Chg.setCell (w : World) (a : Addr) (v : Value) : Chg (fun k => k = a.block) w (w.setCell a v) :=
 ⟨rfl, rfl, rfl, by simp, fun k _ hn => Below.heap_setCell w a v k hn⟩
inductive Asn where
 | blk (b : Nat) (cs : List Value) (E : TypeId)
 | any (F : Nat → Prop) (φ : World → Prop) (mine : Bool)
 | mp (b : Nat) (es : List MapEntry) (clock : Nat)
def Asn.F : Asn → Nat → Prop
 | .blk b _ _, k => k = b
 | .any F _ _, k => F k
 | .mp b _ _, k => k = b
def Asn.φ : Asn → World → Prop
 | .blk b cs E, w => w.heap[b]? = some (.cells cs.toArray E (0, 0))
 | .any _ φ _, w => φ w
 | .mp b es c, w => w.heap[b]? = some (.map es.toArray c)
def Asn.mine : Asn → Bool
 | .blk _ _ _ => true
 | .any _ _ m => m
 | .mp _ _ _ => true
structure Asn.ok (X : Asn) (w : World) : Prop where
 lt : ∀ b, X.F b → b < w.heap.size
 hold : ∀ w', (∀ b, X.F b → w'.heap[b]? = w.heap[b]?) → X.φ w'
theorem Asn.ok.now {X : Asn} {w : World} (h : X.ok w) : X.φ w := h.hold w fun _ _ => rfl
theorem Asn.ok.keep {X : Asn} {w w' : World} {F : Nat → Prop} (h : X.ok w) (hc : Chg F w w') (hd : ∀ b, X.F b → ¬ F b) : X.ok w' :=
 ⟨fun b hb => Nat.lt_of_lt_of_le (h.lt b hb) hc.size, fun w2 h2 => h.hold w2 fun b hb => (h2 b hb).trans (hc.block b (h.lt b hb) (hd b hb))⟩
theorem ok_blk {w : World} {b : Nat} {cs : List Value} {E : TypeId} (h : w.heap[b]? = some (.cells cs.toArray E (0, 0))) : (Asn.blk b cs E).ok w := by
 refine ⟨fun k hk => ?_, fun w' hw => ?_⟩
 · obtain rfl : k = b := hk
   exact (Array.getElem?_eq_some_iff.1 h).1
 · show w'.heap[b]? = _
   rw [hw b rfl]; exact h
structure St (n : Nat) (F0 : Nat → Prop) (w0 : World) (a : Act) (w : World) (L : List (Nat × Value)) (Γ : List Asn) : Prop where
 sl : Sl n a L
 chg : Chg F0 w0 w
 ok : ∀ X ∈ Γ, X.ok w
 dis : Γ.Pairwise (fun X Y => ∀ b, X.F b → ¬ Y.F b)
 mine : ∀ X ∈ Γ, X.mine = true → ∀ b, X.F b → w0.heap.size ≤ b ∨ F0 b
section
variable {n : Nat} {F0 : Nat → Prop} {w0 : World} {a : Act} {w : World} {L : List (Nat × Value)} {Γ : List Asn} {X : Asn}
theorem St.put (h : St n F0 w0 a w L Γ) {d : Nat} (hd : Nat.blt d n = true) (v : Value) : St n F0 w0 (a.put (some d) v) w ((d, v) :: L) Γ :=
 ⟨h.sl.put hd v, h.chg, h.ok, h.dis, h.mine⟩
theorem St.act (h : St n F0 w0 a w L Γ) {a' : Act} {L' : List (Nat × Value)} (hs : Sl n a' L') : St n F0 w0 a' w L' Γ :=
 ⟨hs, h.chg, h.ok, h.dis, h.mine⟩
theorem St.slots (h : St n F0 w0 a w L Γ) {L' : List (Nat × Value)} (hs : SubL L L') : St n F0 w0 a w L' Γ := h.act (h.sl.sub hs)
theorem St.ext (h : St n F0 w0 a w L Γ) {w' : World} (hc : Chg noB w w') : St n F0 w0 a w' L Γ :=
 ⟨h.sl, h.chg.ext hc, fun X hX => (h.ok X hX).keep hc (fun _ _ hf => hf), h.dis, h.mine⟩
theorem St.fresh (h : St n F0 w0 a w L Γ) {w' : World} (hc : Chg noB w w') {Y : Asn} (hY : Y.ok w') (hnew : ∀ b, Y.F b → w.heap.size ≤ b) : St n F0 w0 a w' L (Y :: Γ) := by
 have h' := h.ext hc
 refine ⟨h'.sl, h'.chg, ?_, ?_, ?_⟩
 · intro X hX
   rcases List.mem_cons.1 hX with rfl | hX
   · exact hY
   · exact h'.ok X hX
 · refine List.pairwise_cons.2 ⟨fun X hX b hb hb' => ?_, h.dis⟩
   have h1 := hnew b hb
   have h2 := (h.ok X hX).lt b hb'
   omega
 · intro X hX hm b hb
   rcases List.mem_cons.1 hX with rfl | hX
   · exact .inl (Nat.le_trans h.chg.size (hnew b hb))
   · exact h.mine X hX hm b hb
theorem St.get (h : St n F0 w0 a w L Γ) {X : Asn} (hX : X ∈ Γ) : X.φ w := (h.ok X hX).now
inductive Rep (X Y : Asn) : List Asn → List Asn → Prop
 | head {Γ : List Asn} : Rep X Y (X :: Γ) (Y :: Γ)
 | tail {Z : Asn} {Γ Γ' : List Asn} (h : Rep X Y Γ Γ') : Rep X Y (Z :: Γ) (Z :: Γ')
theorem Rep.mem {X Y : Asn} {Γ Γ' : List Asn} (h : Rep X Y Γ Γ') : X ∈ Γ := by
 induction h with
 | head => exact .head _
 | tail _ ih => exact .tail _ ih
theorem Rep.new {X Y : Asn} {Γ Γ' : List Asn} (h : Rep X Y Γ Γ') : ∀ Z ∈ Γ', Z = Y ∨ Z ∈ Γ := by
 induction h with
 | head => intro Z hZ; rcases List.mem_cons.1 hZ with rfl | hZ; exact .inl rfl; exact .inr (.tail _ hZ)
 | tail _ ih => intro Z hZ; rcases List.mem_cons.1 hZ with rfl | hZ; exact .inr (.head _); exact (ih Z hZ).imp id (.tail _)
theorem Rep.apart {X Y : Asn} {Γ Γ' : List Asn} (h : Rep X Y Γ Γ') {w w' : World} (hok : ∀ Z ∈ Γ, Z.ok w) (hd : Γ.Pairwise (fun X Y => ∀ b, X.F b → ¬ Y.F b))
 (hc : Chg X.F w w') (hY : Y.ok w') (hF : ∀ b, Y.F b → X.F b ∨ w.heap.size ≤ b) :
 (∀ Z ∈ Γ', Z.ok w') ∧ Γ'.Pairwise (fun X Y => ∀ b, X.F b → ¬ Y.F b) := by
 induction h with
 | @head Γ =>
   have hd' := List.pairwise_cons.1 hd
   refine ⟨fun Z hZ => ?_, List.pairwise_cons.2 ⟨fun Z hZ b hb hb' => ?_, hd'.2⟩⟩
   · rcases List.mem_cons.1 hZ with rfl | hZ
     · exact hY
     · exact (hok Z (.tail _ hZ)).keep hc (fun b hb hx => hd'.1 Z hZ b hx hb)
   · rcases hF b hb with h1 | h1
     · exact hd'.1 Z hZ b h1 hb'
     · have := (hok Z (.tail _ hZ)).lt b hb'; omega
 | @tail V Γ Γ' hr ih =>
   have hd' := List.pairwise_cons.1 hd
   obtain ⟨h1, h2⟩ := ih (fun Z hZ => hok Z (.tail _ hZ)) hd'.2
   have hVX := hd'.1 X hr.mem
   refine ⟨fun Z hZ => ?_, List.pairwise_cons.2 ⟨fun Z hZ b hb hb' => ?_, h2⟩⟩
   · rcases List.mem_cons.1 hZ with rfl | hZ
     · exact (hok _ (.head _)).keep hc hVX
     · exact h1 Z hZ
   · rcases hr.new Z hZ with rfl | hZ
     · rcases hF b hb' with h3 | h3
       · exact hVX b hb h3
       · have := (hok V (.head _)).lt b hb; omega
     · exact hd'.1 Z hZ b hb hb'
theorem St.upd (h : St n F0 w0 a w L Γ) {w' : World} {X Y : Asn} {Γ' : List Asn} (hr : Rep X Y Γ Γ') (hc : Chg X.F w w') (hY : Y.ok w')
 (hF : ∀ b, Y.F b → X.F b ∨ w.heap.size ≤ b) (hm : X.mine = true) : St n F0 w0 a w' L Γ' := by
 obtain ⟨h1, h2⟩ := hr.apart h.ok h.dis hc hY hF
 refine ⟨h.sl, h.chg.trans hc (fun i hi hlt => ?_), h1, h2, ?_⟩
 · rcases h.mine X hr.mem hm i hi with h3 | h3
   · omega
   · exact h3
 · intro Z hZ hmz b hb
   rcases hr.new Z hZ with rfl | hZ
   · rcases hF b hb with h3 | h3
     · exact h.mine X hr.mem hm b h3
     · exact .inl (Nat.le_trans h.chg.size h3)
   · exact h.mine Z hZ hmz b hb
theorem St.join (h : St n F0 w0 a w L (X :: Γ)) {Y Z : Asn} {Γ' : List Asn} (hr : Rep Y Z Γ Γ') (hZ : Z.ok w) (hF : ∀ b, Z.F b → X.F b ∨ Y.F b) (hm : Z.mine = true → X.mine = true ∧ Y.mine = true) : St n F0 w0 a w L Γ' := by
 have hd := List.pairwise_cons.1 h.dis
 refine ⟨h.sl, h.chg, ?_, ?_, ?_⟩
 · intro V hV
   rcases hr.new V hV with rfl | hV
   · exact hZ
   · exact h.ok V (.tail _ hV)
 · have key : ∀ {Γ Γ' : List Asn}, Rep Y Z Γ Γ' → Γ.Pairwise (fun X Y => ∀ b, X.F b → ¬ Y.F b) → (∀ V ∈ Γ, ∀ b, X.F b → ¬ V.F b) → Γ'.Pairwise (fun X Y => ∀ b, X.F b → ¬ Y.F b) := by
    intro Γ Γ' hr
    induction hr with
    | head =>
      intro hp hx
      have hp' := List.pairwise_cons.1 hp
      refine List.pairwise_cons.2 ⟨fun V hV b hb hb' => ?_, hp'.2⟩
      rcases hF b hb with h1 | h1
      · exact hx V (.tail _ hV) b h1 hb'
      · exact hp'.1 V hV b h1 hb'
    | @tail U Γ Γ' hr ih =>
      intro hp hx
      have hp' := List.pairwise_cons.1 hp
      refine List.pairwise_cons.2 ⟨fun V hV b hb hb' => ?_, ih hp'.2 (fun V hV => hx V (.tail _ hV))⟩
      rcases hr.new V hV with rfl | hV
      · rcases hF b hb' with h1 | h1
        · exact hx U (.head _) b h1 hb
        · exact hp'.1 Y hr.mem b hb h1
      · exact hp'.1 V hV b hb hb'
   exact key hr hd.2 (fun V hV => hd.1 V hV)
 · intro V hV hmV b hb
   rcases hr.new V hV with rfl | hV
   · obtain ⟨m1, m2⟩ := hm hmV
     rcases hF b hb with h1 | h1
     · exact h.mine X (.head _) m1 b h1
     · exact h.mine Y (.tail _ hr.mem) m2 b h1
   · exact h.mine V (.tail _ hV) hmV b hb
theorem St.perm (h : St n F0 w0 a w L Γ) {Γ' : List Asn} (hs : List.Perm Γ' Γ) : St n F0 w0 a w L Γ' :=
 ⟨h.sl, h.chg, fun X hX => h.ok X (hs.subset hX), (hs.pairwise_iff (fun hXY b hb hb' => hXY b hb' hb)).2 h.dis, fun X hX => h.mine X (hs.subset hX)⟩
theorem St.drop (h : St n F0 w0 a w L Γ) {Γ' : List Asn} (hs : List.Sublist Γ' Γ) : St n F0 w0 a w L Γ' :=
 ⟨h.sl, h.chg, fun X hX => h.ok X (hs.subset hX), h.dis.sublist hs, fun X hX => h.mine X (hs.subset hX)⟩
end
section
variable {P : Program} {Q : Exit → Act → World → Prop} {a : Act} {w : World}
theorem c_seq {x y : Code} (h : x.wp P (Exit.then (y.wp P Q) Q) a w) : (Code.seq x y).wp P Q a w := wp_seq h
theorem c_cut {x y : Code} (J : Act → World → Prop) (h : x.wp P (Exit.then J Q) a w) (h2 : ∀ a w, J a w → y.wp P Q a w) : (Code.seq x y).wp P Q a w :=
 wp_seq (Go.wp_mono h fun e a w hq => by cases e <;> first | exact h2 _ _ hq | exact hq)
theorem n_then {N : Act → World → Prop} (h : N a w) : Exit.then N Q .normal a w := h
theorem x_then {N : Act → World → Prop} {i : Nat} (h : Q (.exit i) a w) : Exit.then N Q (.exit i) a w := h
theorem r_then {N : Act → World → Prop} (h : Q .ret a w) : Exit.then N Q .ret a w := h
theorem n_block {i : Nat} (h : Q .normal a w) : Exit.inBlock i Q .normal a w := h
theorem r_block {i : Nat} (h : Q .ret a w) : Exit.inBlock i Q .ret a w := h
theorem x_hit {i : Nat} (h : Q .normal a w) : Exit.inBlock i Q (.exit i) a w := by simpa [Exit.inBlock] using h
theorem c_loop {γ : Type} {c : Code} (I : γ → Act → World → Prop) (μ : γ → Nat) (g0 : γ) (h0 : I g0 a w)
 (round : ∀ g a w, I g a w → c.wp P (Exit.then (fun a' w' => ∃ g', μ g' < μ g ∧ I g' a' w') Q) a w) : (Code.loop c).wp P Q a w := by
 have key : ∀ m g a w, μ g = m → I g a w → ∀ (b : Frame) (k : List Item) (cs : List Frame),
  ∃ e a' w', Q e a' w' ∧ Arrives P (lone (b.at a (.code c :: .inLoop c :: k)) cs w) b k cs e a' w' := by
  intro m
  induction m using Nat.strongRecOn with
  | _ m ih =>
    intro g a w hm hI b k cs
    obtain ⟨e, a1, w1, hq, harr⟩ := round g a w hI b (.inLoop c :: k) cs
    cases e with
    | normal =>
      obtain ⟨g', hlt, hI'⟩ := hq
      obtain ⟨e2, a2, w2, hq2, harr2⟩ := ih (μ g') (hm ▸ hlt) g' a1 w1 rfl hI' b k cs
      exact ⟨e2, a2, w2, hq2, .of_steps (Steps.trans harr (.one step_inLoop)) harr2⟩
    | exit id => exact ⟨_, a1, w1, hq, .pass (x := .inLoop c) rfl (fun _ _ => .inl (by simp)) harr⟩
    | goto l => exact ⟨_, a1, w1, hq, .pass (x := .inLoop c) rfl (fun _ _ => .inl (by simp)) harr⟩
    | ret => exact ⟨_, a1, w1, hq, .pass (x := .inLoop c) rfl (fun _ _ => .inl (by simp)) harr⟩
    | panic ch => exact ⟨_, a1, w1, hq, .pass (x := .inLoop c) rfl (fun _ _ => .inl (by simp)) harr⟩
    | outgrown => exact ⟨_, a1, w1, hq, .pass (x := .inLoop c) rfl (fun _ _ => .inl (by simp)) harr⟩
 intro b k cs
 obtain ⟨e, a', w', hq, harr⟩ := key _ g0 a w rfl h0 b k cs
 exact ⟨e, a', w', hq, .of_steps (.one step_loop) harr⟩
end
end Go.Proofs.YtheofhegdjjfgaaGreat
namespace Go.Proofs.YtheofhegdjjfgaaGreat
open Go.RowKit
def szOf (P : Program) (t : TypeId) : Option Nat := (P.info? t).map (·.size)
def byOf (P : Program) (t : TypeId) : Option Nat := (P.info? t).map (·.bytes)
def zeroOf (P : Program) (t : TypeId) : Option (List Value) := ((P.info? t).bind (·.zero)).map (·.cells.toList)
def scalarD : TypeDesc → Bool
 | .struct _ | .array _ _ => false
 | _ => true
def scalarT (P : Program) (t : TypeId) : Bool := match P.underlying t with | some d => scalarD d | none => false
def structT (P : Program) (t : TypeId) : Bool := match P.underlying t with | some (.struct _) => true | _ => false
def sliceT (P : Program) (t : TypeId) : Option TypeId := match P.underlying t with | some (.slice e) => some e | _ => none
def fieldOff (P : Program) (s f : Nat) : Option Nat :=
 match P.underlying s with
 | some (.struct fs) => match fs[f]? with
   | some fd => match szOf P fd.type with | some (_ + 1) => some fd.offset | _ => none
   | none => none
 | _ => none
def fieldTy (P : Program) (s f : Nat) : Option TypeId :=
 match P.underlying s with
 | some (.struct fs) => (fs[f]?).map (·.type)
 | _ => none
def placesOf (P : Program) (t : TypeId) : Option (List (Nat × Nat)) :=
 match P.underlying t with
 | some (.struct fs) => fs.toList.mapM fun f => (szOf P f.type).map fun s => (f.offset, s)
 | _ => none
def CallsTo (P : Program) (f : FuncId) : Prop := ∀ (args : Array Value) (w : World), (callFunc f args).run P w = .ok (.enter f args) w
theorem callsTo {P : Program} {f : FuncId} {fn : Func} (hf : P.funcs[f]? = some fn) (hname : (fn.name == "runtime.NumGoroutine") = false) (hb : fn.body.isNone = false) : CallsTo P f := by
 intro args w
 simp only [callFunc, Sem.run_bind, run_program, Result.andThen_ok, hf, hname, hb, Bool.false_eq_true, if_false]
 rfl
def nth : List Value → Nat → Option Value
 | [], _ => none
 | v :: l, i => bif Nat.beq i 0 then some v else nth l (i - 1)
theorem nth_eq (l : List Value) (i : Nat) : nth l i = l[i]? := by
 induction l generalizing i with
 | nil => simp [nth]
 | cons v l ih =>
   cases i with
   | zero => simp [nth]
   | succ i => exact (ih i).trans (by simp)
inductive Upd : List Value → Nat → Value → List Value → Prop
 | z {x v : Value} {xs : List Value} : Upd (x :: xs) 0 v (v :: xs)
 | s {x v : Value} {xs ys : List Value} {k : Nat} (h : Upd xs k v ys) : Upd (x :: xs) (k + 1) v (x :: ys)
theorem Upd.eq {l l' : List Value} {k : Nat} {v : Value} (h : Upd l k v l') : l' = l.set k v ∧ k < l.length := by
 induction h with
 | z => simp
 | s _ ih => simp [ih.1, ih.2]
def isOne : Value → Bool
 | .agg _ | .tuple _ => false
 | _ => true
theorem isOne_oneCell {v : Value} (h : isOne v = true) : v.oneCell' = true := by cases v <;> simp_all [isOne, Value.oneCell']
theorem isOne_cells {v : Value} (h : isOne v = true) : v.cells = #[v] := by cases v <;> simp_all [isOne, Value.cells]
theorem sizeOf_run {P : Program} {t : TypeId} {s : Nat} (h : szOf P t = some s) (w : World) : (Go.sizeOf t).run P w = .ok s w := by
 unfold szOf at h
 cases hi : P.info? t with
 | none => simp [hi] at h
 | some i => simp [hi] at h; simp [Go.sizeOf, typeInfo, hi, h]
theorem isAgg_scalar {P : Program} {t : TypeId} (h : scalarT P t = true) (w : World) : (isAgg t).run P w = .ok false w := by
 unfold scalarT at h
 cases hi : P.underlying t with
 | none => simp [hi] at h
 | some d => simp [hi] at h; cases d <;> simp_all [isAgg, underlying, scalarD]
theorem isAgg_struct {P : Program} {t : TypeId} (h : structT P t = true) (w : World) : (isAgg t).run P w = .ok true w := by
 unfold structT at h
 cases hi : P.underlying t with
 | none => simp [hi] at h
 | some d => cases d <;> simp_all [isAgg, underlying]
theorem zero_run {P : Program} {t : TypeId} {zs : List Value} (h : zeroOf P t = some zs) (w : World) : ∃ z, (zeroValue t).run P w = .ok z w ∧ z.cells = zs.toArray := by
 unfold zeroOf at h
 cases hi : P.info? t with
 | none => simp [hi] at h
 | some i =>
   cases hz : i.zero with
   | none => simp [hi, hz] at h
   | some z => simp [hi, hz] at h; exact ⟨z, by simp [zeroValue, typeInfo, hi, hz], by simp [← h]⟩
theorem addr_add (b k j : Nat) : (⟨b, k, none⟩ : Addr).add j = ⟨b, k + j, none⟩ := by
 unfold Addr.add; split <;> simp_all
theorem loadVar_scalar {P : Program} {t : TypeId} (ht : scalarT P t = true) {w : World} {p : Addr} {v : Value} (h : w.cell? p = some v) : (loadVar t p).run P w = .ok v w := by
 simp [loadVar, isAgg_scalar ht, h]
theorem loadVar_struct {P : Program} {t : TypeId} (ht : structT P t = true) {l : List Value} (hs : szOf P t = some l.length) {w : World} {p : Addr}
 (h : ∀ j v, l[j]? = some v → w.cell? (p.add j) = some v) : (loadVar t p).run P w = .ok (.agg l.toArray) w := by
 have := run_loadCells_list (P := P) (w := w) p l h
 simp [loadVar, isAgg_struct ht, sizeOf_run hs, this]
theorem cell_of_blk {w : World} {b k : Nat} {cs : List Value} {E : TypeId} {v : Value} (h : w.heap[b]? = some (.cells cs.toArray E (0, 0))) (hv : cs[k]? = some v) : w.cell? ⟨b, k, none⟩ = some v := by
 simp [World.cell?, h, hv]
theorem frozen_of_blk {w : World} {b k : Nat} {cs : List Value} {E : TypeId} (h : w.heap[b]? = some (.cells cs.toArray E (0, 0))) : w.frozen? ⟨b, k, none⟩ = false := by
 simp [World.frozen?, h]
theorem setCell_of_blk {w : World} {b k : Nat} {cs : List Value} {E : TypeId} (h : w.heap[b]? = some (.cells cs.toArray E (0, 0))) (v : Value) :
 (w.setCell ⟨b, k, none⟩ v).heap[b]? = some (.cells (cs.set k v).toArray E (0, 0)) := by
 simp only [World.setCell, Array.getElem?_modify, h]
 simp
structure OW (P : Program) (o : Oper) (a : Act) (w : World) (K : Act → World → Prop) (Q : Exit → Act → World → Prop) : Prop where
 h : o.wp P a w K Q
section
variable {P : Program} {n : Nat} {F0 : Nat → Prop} {w0 : World} {a : Act} {w : World} {L : List (Nat × Value)} {Γ : List Asn}
variable {K : Act → World → Prop} {Q : Exit → Act → World → Prop} {d ty : Nat} {dst : Option Tmp} {pos : String} {af : Array Edge} {g : Option (Nat × Bool)}
def Hd (Γ : List Asn) (w : World) : Prop := ∀ X ∈ Γ, X.φ w
theorem St.hd (h : St n F0 w0 a w L Γ) : Hd Γ w := fun _ hX => h.get hX
def Ex (P : Program) (n : Nat) (a : Act) (L : List (Nat × Value)) (Γ : List Asn) (o : Oper) (v : Value) : Prop :=
 Sl n a L → ∀ w, Hd Γ w → (execOp a.eval o).run P w = .ok (.value v) w
theorem s_e {op : Op} {v : Value} (hS : St n F0 w0 a w L Γ) (he : Ex P n a L Γ ⟨some d, op, ty, pos, af, g⟩ v) (hn : Nat.blt d n = true)
 (h : ∀ a', St n F0 w0 a' w ((d, v) :: L) Γ → K a' w) : OW P ⟨some d, op, ty, pos, af, g⟩ a w K Q := by
 refine ⟨?_⟩
 unfold Oper.wp
 rw [he hS.sl w hS.hd]
 exact h _ (hS.put hn v)
theorem e_move {x : Operand} {v : Value} (hx : ev L x = some v) : Ex P n a L Γ ⟨dst, .move x, ty, pos, af, g⟩ v := fun hs w hh =>
 (by simp [execOp, hs.ev hx])
theorem e_assign {x : Operand} {v : Value} (hx : ev L x = some v) : Ex P n a L Γ ⟨dst, .assign x, ty, pos, af, g⟩ v := fun hs w hh =>
 (by simp [execOp, hs.ev hx])
theorem e_pick_t {c x y : Operand} {v : Value} (hc : ev L c = some (.bool true)) (hx : ev L x = some v) : Ex P n a L Γ ⟨dst, .pick c x y, ty, pos, af, g⟩ v := fun hs w hh =>
 (by simp [execOp, hs.ev hc, hs.ev hx, asBool])
theorem e_pick_f {c x y : Operand} {v : Value} (hc : ev L c = some (.bool false)) (hx : ev L y = some v) : Ex P n a L Γ ⟨dst, .pick c x y, ty, pos, af, g⟩ v := fun hs w hh =>
 (by simp [execOp, hs.ev hc, hs.ev hx, asBool])
def binI (op : BinOp) (k : IntKind) (x y : Int) : Option Value :=
 match op with
 | .add => some (.int k (k.wrap (x + y)))
 | .sub => some (.int k (k.wrap (x - y)))
 | .mul => some (.int k (k.wrap (x * y)))
 | .eql => some (.bool (decide (x = y)))
 | .neq => some (.bool (decide (x ≠ y)))
 | .lss => some (.bool (decide (x < y)))
 | .leq => some (.bool (decide (x ≤ y)))
 | .gtr => some (.bool (decide (y < x)))
 | .geq => some (.bool (decide (y ≤ x)))
 | _ => none
theorem binI_run {op : BinOp} {k : IntKind} {x y : Int} {v : Value} (hv : binI op k x y = some v) (t : TypeId) (p q : Operand) :
 ((do eqGuard op t p q (.int k x) (.int k y); binOp op t (.int k x) (.int k y)) : Sem Value).run P w = .ok v w := by
 cases op <;> simp [binI] at hv <;> subst hv <;> simp [eqGuard, binOp, Op.intArith, Op.intCmp]
 · by_cases h : x = y <;> simp [h]
 · by_cases h : x = y <;> simp [h]
theorem e_bin {op : BinOp} {t t' : TypeId} {x y : Operand} {k : IntKind} {i j : Int} {v : Value} (hx : ev L x = some (.int k i)) (hy : ev L y = some (.int k j))
 (hv : binI op k i j = some v) : Ex P n a L Γ ⟨dst, .binOp op t x y t', ty, pos, af, g⟩ v := fun hs w hh =>
 (by
   have := binI_run (P := P) (w := w) hv t x y
   simp only [execOp, hs.ev hx, hs.ev hy, Sem.run_bind] at this ⊢
   rw [this]; rfl)
def binN (op : BinOp) (x y : Int) : Option Int :=
 match op with
 | .add => some (x + y)
 | .sub => some (x - y)
 | .mul => some (x * y)
 | _ => none
theorem e_binN {op : BinOp} {t t' : TypeId} {x y : Operand} {i j m : Int} (hx : ev L x = some (.int .i64 i)) (hy : ev L y = some (.int .i64 j))
 (hv : binN op i j = some m) (hm : -9223372036854775808 ≤ m ∧ m ≤ 9223372036854775807) : Ex P n a L Γ ⟨dst, .binOp op t x y t', ty, pos, af, g⟩ (.int .i64 m) := by
 have hw : IntKind.i64.wrap m = m := IntWalk.i64_in _ (by omega)
 refine e_bin hx hy (v := .int .i64 m) ?_
 cases op <;> simp [binN] at hv <;> subst hv <;> simp [binI, hw]
theorem e_rem {t t' : TypeId} {x y : Operand} {k : IntKind} {i j : Int} (hx : ev L x = some (.int k i)) (hy : ev L y = some (.int k j))
 (hj : j ≠ 0) : Ex P n a L Γ ⟨dst, .binOp .rem t x y t', ty, pos, af, g⟩ (.int k (i.tmod j)) := fun hs w hh =>
 (by simp [execOp, hs.ev hx, hs.ev hy, eqGuard, binOp, Op.intDiv, hj])
theorem e_quo {t t' : TypeId} {x y : Operand} {k : IntKind} {i j : Int} (hx : ev L x = some (.int k i)) (hy : ev L y = some (.int k j))
 (hj : j ≠ 0) : Ex P n a L Γ ⟨dst, .binOp .quo t x y t', ty, pos, af, g⟩ (.int k (k.wrap (i.tdiv j))) := fun hs w hh =>
 (by simp [execOp, hs.ev hx, hs.ev hy, eqGuard, binOp, Op.intDiv, hj])
theorem e_remN {t t' : TypeId} {x y : Operand} {k : IntKind} {i j : Int} (hx : ev L x = some (.int k i)) (hy : ev L y = some (.int k j))
 (hi : 0 ≤ i ∧ 0 < j) : Ex P n a L Γ ⟨dst, .binOp .rem t x y t', ty, pos, af, g⟩ (.int k (i % j)) := by
 rw [← Int.tmod_eq_emod_of_nonneg hi.1]; exact e_rem hx hy (by omega)
theorem e_quoN {t t' : TypeId} {x y : Operand} {i j : Int} (hx : ev L x = some (.int .i64 i)) (hy : ev L y = some (.int .i64 j))
 (hi : 0 ≤ i ∧ 0 < j ∧ i ≤ 9223372036854775807) : Ex P n a L Γ ⟨dst, .binOp .quo t x y t', ty, pos, af, g⟩ (.int .i64 (i / j)) := by
 have h1 : 0 ≤ i / j := Int.ediv_nonneg hi.1 (by omega)
 have h2 : i / j ≤ i := Int.ediv_le_self _ hi.1
 have hw : IntKind.i64.wrap (i / j) = i / j := IntWalk.i64_in _ (by omega)
 have h3 : IntKind.i64.wrap (i.tdiv j) = i / j := by rw [Int.tdiv_eq_ediv_of_nonneg hi.1, hw]
 have h4 := e_quo (P := P) (n := n) (a := a) (Γ := Γ) (dst := dst) (ty := ty) (pos := pos) (af := af) (g := g) (t := t) (t' := t') hx hy (by omega)
 rwa [h3] at h4
def binS (op : BinOp) (x y : ByteArray) : Option Value :=
 match op with
 | .eql => some (.bool (decide (x = y)))
 | .neq => some (.bool (decide (x ≠ y)))
 | _ => none
theorem bytes_beq (x y : ByteArray) : (x.toList == y.toList) = decide (x = y) := by
 rw [ByteArray.toList_eq, ByteArray.toList_eq]
 by_cases h : x = y
 · subst h; simp
 · have : x.data.toList ≠ y.data.toList := fun e => h (by cases x; cases y; simp_all)
   simp only [h, decide_false]
   exact beq_eq_false_iff_ne.2 this
theorem e_binS {op : BinOp} {t t' : TypeId} {x y : Operand} {i j : ByteArray} {v : Value} (hx : ev L x = some (.string i)) (hy : ev L y = some (.string j))
 (hv : binS op i j = some v) : Ex P n a L Γ ⟨dst, .binOp op t x y t', ty, pos, af, g⟩ v := fun hs w hh =>
 (by
   cases op <;> simp only [binS, Option.some.injEq, reduceCtorEq] at hv <;> subst hv <;> simp only [execOp, hs.ev hx, hs.ev hy, eqGuard, binOp, Op.stringOp, bytes_beq]
   · rfl
   · by_cases e : i = j <;> simp [e])
theorem e_binB {op : BinOp} {t t' : TypeId} {x y : Operand} {i j : Bool} (hx : ev L x = some (.bool i)) (hy : ev L y = some (.bool j))
 (hu : P.underlying t = some .bool) (ho : op = .eql) : Ex P n a L Γ ⟨dst, .binOp op t x y t', ty, pos, af, g⟩ (.bool (decide (i = j))) := fun hs w hh =>
 (by
   subst ho
   have := run_eql_bool (P := P) w t i j hu
   simp [execOp, hs.ev hx, hs.ev hy, eqGuard, this]
   cases i <;> cases j <;> rfl)
theorem e_binBn {t t' : TypeId} {x y : Operand} {i j : Bool} (hx : ev L x = some (.bool i)) (hy : ev L y = some (.bool j))
 (hu : P.underlying t = some .bool) : Ex P n a L Γ ⟨dst, .binOp .neq t x y t', ty, pos, af, g⟩ (.bool (decide (i ≠ j))) := fun hs w hh =>
 (by
   have := run_neq_bool (P := P) w t i j hu
   simp [execOp, hs.ev hx, hs.ev hy, eqGuard, this]
   cases i <;> cases j <;> rfl)
theorem e_nil {t t' : TypeId} {x : Operand} {p : Option Addr} (hx : ev L x = some (.pointer p)) (hu : P.underlying t = some (.pointer (P.pointee t)))
 : Ex P n a L Γ ⟨dst, .binOp .eql t x (.const (.pointer none)) t', ty, pos, af, g⟩ (.bool p.isNone) := fun hs w hh =>
 (by
   have := run_eql_pointer_nil (P := P) w t p hu
   have he : a.eval (.const (.pointer none)) = .pointer none := rfl
   simp [execOp, hs.ev hx, he, eqGuard, this])
theorem e_nnil {t t' : TypeId} {x : Operand} {p : Option Addr} (hx : ev L x = some (.pointer p)) (hu : P.underlying t = some (.pointer (P.pointee t)))
 : Ex P n a L Γ ⟨dst, .binOp .neq t x (.const (.pointer none)) t', ty, pos, af, g⟩ (.bool p.isSome) := fun hs w hh =>
 (by
   have := run_neq_pointer_nil (P := P) w t p hu
   have he : a.eval (.const (.pointer none)) = .pointer none := rfl
   cases p <;> simp_all [execOp, hs.ev hx, eqGuard])
theorem e_not {t : TypeId} {x : Operand} {b : Bool} (hx : ev L x = some (.bool b)) : Ex P n a L Γ ⟨dst, .unOp .not t x, ty, pos, af, g⟩ (.bool (!b)) := fun hs w hh =>
 (by simp [execOp, hs.ev hx, Op.unary])
theorem e_neg {t : TypeId} {x : Operand} {k : IntKind} {i : Int} (hx : ev L x = some (.int k i)) : Ex P n a L Γ ⟨dst, .unOp .neg t x, ty, pos, af, g⟩ (.int k (k.wrap (0 - i))) := fun hs w hh =>
 (by simp [execOp, hs.ev hx, Op.unary, Op.intArith])
theorem e_conv {t t' : TypeId} {x : Operand} {k k' : IntKind} {i : Int} {D : TypeDesc} (hx : ev L x = some (.int k i)) (hD : P.underlying t = some D) (hu : P.underlying t' = some (.int k'))
 : Ex P n a L Γ ⟨dst, .convert t t' x, ty, pos, af, g⟩ (.int k' (k'.wrap i)) := fun hs w hh =>
 (by simp [execOp, hs.ev hx, convert, underlying, hD, hu, Conv.intToInt])
theorem e_nilCheck {x : Operand} {p : Addr} (hx : ev L x = some (.pointer (some p))) : Ex P n a L Γ ⟨dst, .nilCheck x, ty, pos, af, g⟩ (.pointer (some p)) := fun hs w hh =>
 (by simp [execOp, hs.ev hx])
theorem e_extract {x : Operand} {i : Nat} {l : List Value} {v : Value} (hx : ev L x = some (.tuple l.toArray)) (hv : nth l i = some v) : Ex P n a L Γ ⟨dst, .extract x i, ty, pos, af, g⟩ v := fun hs w hh =>
 (by rw [nth_eq] at hv; simp [execOp, hs.ev hx, Instr.extract, hv])
theorem e_makeFunc {f : Fn} {fs xs : List Operand} {us vs : List Value} (hf : Evs L fs us) (hx : Evs L xs vs) : Ex P n a L Γ ⟨dst, .makeFunc f fs.toArray xs.toArray, ty, pos, af, g⟩ (.func f us.toArray vs.toArray) := fun hs w hh =>
 (by
   have h1 := hs.evs hx
   have h2 := hs.evs hf
   unfold execOp
   show ((do pure (.value (← Instr.makeFunc f (fs.toArray.map a.eval) (xs.toArray.map a.eval)))) : Sem Next).run P w = _
   rw [h1, h2]; rfl)
theorem e_len {x : Operand} {ts : Array TypeId} {T E : TypeId} {p : Option Addr} {m c : Nat} (hx : ev L x = some (.slice p m c)) (ht : ts[0]? = some T) (hu : sliceT P T = some E) : Ex P n a L Γ ⟨dst, .call ⟨.builtin .len, #[x], ts⟩, ty, pos, af, g⟩ (.int .i64 (m : Int)) := fun hs w hh =>
 (by
   have hu' : P.underlying T = some (.slice E) := by
     unfold sliceT at hu; cases hi : P.underlying T with
     | none => simp [hi] at hu
     | some D => cases D <;> simp_all
   simp [execOp, resolve, invoke, builtin, Builtin.len_, hs.ev hx, ht, underlying, hu', goInt])
theorem e_lenS {x : Operand} {ts : Array TypeId} {T : TypeId} {s : ByteArray} (hx : ev L x = some (.string s)) (ht : ts[0]? = some T) (hu : P.underlying T = some .string) : Ex P n a L Γ ⟨dst, .call ⟨.builtin .len, #[x], ts⟩, ty, pos, af, g⟩ (.int .i64 (s.size : Int)) := fun hs w hh =>
 (by simp [execOp, resolve, invoke, builtin, Builtin.len_, hs.ev hx, ht, underlying, hu, goInt])
theorem e_fa0 {s f b off : Nat} {x : Operand} (hx : ev L x = some (.pointer (some ⟨b, 0, none⟩))) (ho : fieldOff P s f = some off) : Ex P n a L Γ ⟨dst, .fieldAddr s x f, ty, pos, af, g⟩ (.pointer (some ⟨b, off, none⟩)) := fun hs w hh =>
 (by
   unfold fieldOff at ho
   cases hi : P.underlying s with
   | none => simp [hi] at ho
   | some D =>
     cases D <;> simp [hi] at ho
     rename_i fs
     cases hf : fs[f]? with
     | none => simp [hf] at ho
     | some fd =>
       simp [hf] at ho
       cases hz : szOf P fd.type with
       | none => simp [hz] at ho
       | some m =>
         cases m with
         | zero => simp [hz] at ho
         | succ m =>
           simp [hz] at ho
           simp [execOp, hs.ev hx, Instr.fieldAt, underlying, hi, hf, Instr.sureAddr, fieldPlace, sizeOf_run hz, addr_add, ho])
theorem e_faK {s f b k off : Nat} {x : Operand} (hx : ev L x = some (.pointer (some ⟨b, k, none⟩))) (ho : fieldOff P s f = some off) : Ex P n a L Γ ⟨dst, .fieldAddr s x f, ty, pos, af, g⟩ (.pointer (some ⟨b, k + off, none⟩)) := fun hs w hh =>
 (by
   unfold fieldOff at ho
   cases hi : P.underlying s with
   | none => simp [hi] at ho
   | some D =>
     cases D <;> simp [hi] at ho
     rename_i fs
     cases hf : fs[f]? with
     | none => simp [hf] at ho
     | some fd =>
       simp [hf] at ho
       cases hz : szOf P fd.type with
       | none => simp [hz] at ho
       | some m =>
         cases m with
         | zero => simp [hz] at ho
         | succ m =>
           simp [hz] at ho
           simp [execOp, hs.ev hx, Instr.fieldAt, underlying, hi, hf, Instr.sureAddr, fieldPlace, sizeOf_run hz, addr_add, ho])
theorem e_field {s f off T : Nat} {x : Operand} {l : List Value} {v : Value} (hx : ev L x = some (.agg l.toArray)) (ho : fieldOff P s f = some off) (hT : fieldTy P s f = some T) (hsc : scalarT P T = true)
 (hv : nth l off = some v) : Ex P n a L Γ ⟨dst, .field s x f, ty, pos, af, g⟩ v := fun hs w hh =>
 (by
   rw [nth_eq] at hv
   unfold fieldOff at ho; unfold fieldTy at hT
   cases hi : P.underlying s with
   | none => simp [hi] at ho
   | some D =>
     cases D <;> simp [hi] at ho
     rename_i fs
     cases hf : fs[f]? with
     | none => simp [hf] at ho
     | some fd =>
       simp [hi, hf] at ho hT
       subst hT
       cases hz : szOf P fd.type with
       | none => simp [hz] at ho
       | some m =>
         cases m with
         | zero => simp [hz] at ho
         | succ m =>
           simp [hz] at ho
           simp [execOp, hs.ev hx, Instr.field, underlying, hi, hf, asAgg, part, isAgg_scalar hsc, ho, hv])
theorem e_load {T b k : Nat} {x : Operand} {cs : List Value} {E : TypeId} {v : Value} (hx : ev L x = some (.pointer (some ⟨b, k, none⟩))) (hm : Asn.blk b cs E ∈ Γ) (hT : scalarT P T = true)
 (hv : nth cs k = some v) : Ex P n a L Γ ⟨dst, .load T x, ty, pos, af, g⟩ v := fun hs w hh =>
 (by
   rw [nth_eq] at hv
   have hc := cell_of_blk (hh _ hm) hv
   simp [execOp, hs.ev hx, Instr.loadAt, Instr.sureAddr, loadVar_scalar hT hc])
theorem e_loadC {T : Nat} {p : Addr} {x : Operand} {v : Value} (hx : ev L x = some (.pointer (some p))) (hT : scalarT P T = true)
 (hc : ∀ w, Hd Γ w → w.cell? p = some v) : Ex P n a L Γ ⟨dst, .load T x, ty, pos, af, g⟩ v := fun hs w hh =>
 (by simp [execOp, hs.ev hx, Instr.loadAt, Instr.sureAddr, loadVar_scalar hT (hc w hh)])
theorem e_loadA {T b m : Nat} {x : Operand} {cs : List Value} {E : TypeId} (hx : ev L x = some (.pointer (some ⟨b, 0, none⟩))) (hm : Asn.blk b cs E ∈ Γ) (hT : structT P T = true) (hz : szOf P T = some m)
 (hl : Nat.beq cs.length m = true) : Ex P n a L Γ ⟨dst, .load T x, ty, pos, af, g⟩ (.agg cs.toArray) := fun hs w hh =>
 (by
   obtain rfl := Nat.eq_of_beq_eq_true hl
   have hc := loadVar_struct (P := P) hT hz (w := w) (p := ⟨b, 0, none⟩) (fun j v hj => by rw [addr_add, Nat.zero_add]; exact cell_of_blk (hh _ hm) hj)
   simp [execOp, hs.ev hx, Instr.loadAt, Instr.sureAddr, hc])
theorem e_loadAC {T b k : Nat} {x : Operand} {l : List Value} (hx : ev L x = some (.pointer (some ⟨b, k, none⟩))) (hT : structT P T = true)  (hz : szOf P T = some l.length)
 (hc : ∀ w, Hd Γ w → ∀ j v, l[j]? = some v → w.cell? ⟨b, k + j, none⟩ = some v) : Ex P n a L Γ ⟨dst, .load T x, ty, pos, af, g⟩ (.agg l.toArray) := fun hs w hh =>
 (by
   have hc := loadVar_struct (P := P) hT hz (w := w) (p := ⟨b, k, none⟩) (fun j v hj => by rw [addr_add]; exact hc w hh j v hj)
   simp [execOp, hs.ev hx, Instr.loadAt, Instr.sureAddr, hc])
theorem s_new {o : Oper} {cs : List Value} {E : TypeId} (hS : St n F0 w0 a w L Γ)
 (he : (execOp a.eval o).run P w = .ok (.value (.pointer (some ⟨w.heap.size, 0, none⟩))) (w.alloc (.cells cs.toArray E))) (hd : o.dst = some d) (hn : Nat.blt d n = true)
 (h : ∀ a' w' b, St n F0 w0 a' w' ((d, .pointer (some ⟨b, 0, none⟩)) :: L) (.blk b cs E :: Γ) → K a' w') : OW P o a w K Q := by
 refine ⟨?_⟩
 unfold Oper.wp
 rw [he]
 show K (a.put o.dst _) _
 rw [hd]
 refine h _ _ w.heap.size ((hS.fresh (Chg.alloc _ _ _) (Y := .blk w.heap.size cs E) (ok_blk ?_) ?_).put hn _)
 · show (w.heap.push _)[w.heap.size]? = _
   simp
 · intro b hb; obtain rfl : b = w.heap.size := hb; exact Nat.le_refl _
theorem s_alloc {E : TypeId} {zs : List Value} (hS : St n F0 w0 a w L Γ) (hz : zeroOf P E = some zs) (hn : Nat.blt d n = true)
 (h : ∀ a' w' b, St n F0 w0 a' w' ((d, .pointer (some ⟨b, 0, none⟩)) :: L) (.blk b zs E :: Γ) → K a' w') : OW P ⟨some d, .alloc E, ty, pos, af, g⟩ a w K Q :=
 s_new hS (by
   obtain ⟨z, h1, h2⟩ := zero_run hz w
   simp [execOp, Instr.alloc, h1, newVar, newRow, h2]) rfl hn h
theorem s_box1 {E : TypeId} {x : Operand} {v : Value} (hS : St n F0 w0 a w L Γ) (hx : ev L x = some v) (h1 : isOne v = true) (hn : Nat.blt d n = true)
 (h : ∀ a' w' b, St n F0 w0 a' w' ((d, .pointer (some ⟨b, 0, none⟩)) :: L) (.blk b [v] E :: Γ) → K a' w') : OW P ⟨some d, .box E x, ty, pos, af, g⟩ a w K Q :=
 s_new hS (by simp [execOp, Instr.box, hS.sl.ev hx, newVar, newRow, isOne_cells h1]) rfl hn h
theorem s_boxA {E : TypeId} {x : Operand} {l : List Value} (hS : St n F0 w0 a w L Γ) (hx : ev L x = some (.agg l.toArray)) (hn : Nat.blt d n = true)
 (h : ∀ a' w' b, St n F0 w0 a' w' ((d, .pointer (some ⟨b, 0, none⟩)) :: L) (.blk b l E :: Γ) → K a' w') : OW P ⟨some d, .box E x, ty, pos, af, g⟩ a w K Q :=
 s_new hS (by simp [execOp, Instr.box, hS.sl.ev hx, newVar, newRow, Value.cells]) rfl hn h
theorem s_store {T b k : Nat} {x y : Operand} {cs cs' : List Value} {E : TypeId} {v : Value} {Γ' : List Asn} (hS : St n F0 w0 a w L Γ) (hx : ev L x = some (.pointer (some ⟨b, k, none⟩))) (hy : ev L y = some v) (h1 : isOne v = true)
 (hz : szOf P T = some 1) (hr : Rep (.blk b cs E) (.blk b cs' E) Γ Γ') (hu : Upd cs k v cs') (h : ∀ w', St n F0 w0 a w' L Γ' → K a w') : OW P ⟨none, .store T x y, ty, pos, af, g⟩ a w K Q := by
 obtain ⟨rfl, hk⟩ := hu.eq
 have hb : w.heap[b]? = some (.cells cs.toArray E (0, 0)) := hS.get hr.mem
 have hc : ∃ u, cs[k]? = some u := ⟨cs[k], by simp [hk]⟩
 obtain ⟨u, hu⟩ := hc
 have hcell := cell_of_blk hb hu
 have he : (execOp a.eval (⟨none, .store T x y, ty, pos, af, g⟩ : Oper)).run P w = .ok .skip (w.setCell ⟨b, k, none⟩ v) := by
  simp [execOp, hS.sl.ev hx, hS.sl.ev hy, Instr.storeAt, Instr.sureAddr, storeVar, isOne_cells h1, sizeOf_run hz, storeCells, addr_add, run_store _ _ _ _ _ (isOne_oneCell h1), hcell, frozen_of_blk hb]
 refine ⟨?_⟩
 unfold Oper.wp
 rw [he]
 refine h _ (hS.upd hr (Chg.setCell w ⟨b, k, none⟩ v) (ok_blk (setCell_of_blk hb v)) (fun i hi => .inl hi) rfl)
theorem storeCells_run {P : Program} {E : TypeId} {b : Nat} : ∀ (vs pre : List Value) (w : World) (old : List Value), w.heap[b]? = some (.cells (pre ++ old).toArray E (0, 0)) → old.length = vs.length → (∀ v ∈ vs, isOne v = true) →
 ∃ w', (storeCells ⟨b, 0, none⟩ vs pre.length).run P w = .ok () w' ∧ w'.heap[b]? = some (.cells (pre ++ vs).toArray E (0, 0)) ∧ Chg (fun k => k = b) w w' := by
 intro vs
 induction vs with
 | nil =>
   intro pre w old hb hl _
   have : old = [] := by simpa using hl
   subst this
   exact ⟨w, by simp [storeCells], hb, Chg.refl _ _⟩
 | cons v vs ih =>
   intro pre w old hb hl h1
   cases old with
   | nil => simp at hl
   | cons o old =>
     have hv := h1 v (by simp)
     have hcell : w.cell? ⟨b, pre.length, none⟩ = some o := cell_of_blk hb (by simp)
     have hs := setCell_of_blk (k := pre.length) hb v
     have he : (pre ++ o :: old).set pre.length v = (pre ++ [v]) ++ old := by simp
     rw [he] at hs
     obtain ⟨w', h2, h3, h4⟩ := ih (pre ++ [v]) _ old hs (by simpa using hl) (fun u hu => h1 u (by simp [hu]))
     refine ⟨w', ?_, by simpa using h3, (Chg.setCell w ⟨b, pre.length, none⟩ v).trans h4 (fun i hi _ => hi)⟩
     simp only [List.length_append, List.length_cons, List.length_nil, Nat.zero_add] at h2
     simp [storeCells, addr_add, run_store _ _ _ _ _ (isOne_oneCell hv), hcell, frozen_of_blk hb, h2]
theorem s_storeA {T b m : Nat} {x y : Operand} {cs l : List Value} {E : TypeId} {Γ' : List Asn} (hS : St n F0 w0 a w L Γ) (hx : ev L x = some (.pointer (some ⟨b, 0, none⟩))) (hy : ev L y = some (.agg l.toArray))
 (hz : szOf P T = some m) (hr : Rep (.blk b cs E) (.blk b l E) Γ Γ') (hl : Nat.beq cs.length m = true) (hl' : Nat.beq l.length m = true) (h1 : l.all isOne = true) (h : ∀ w', St n F0 w0 a w' L Γ' → K a w') : OW P ⟨none, .store T x y, ty, pos, af, g⟩ a w K Q := by
 have e1 := Nat.eq_of_beq_eq_true hl
 have e2 := Nat.eq_of_beq_eq_true hl'
 have hb : w.heap[b]? = some (.cells ([] ++ cs).toArray E (0, 0)) := hS.get hr.mem
 obtain ⟨w', h2, h3, h4⟩ := storeCells_run (P := P) l [] w cs hb (by omega) (by simpa using h1)
 have he : (execOp a.eval (⟨none, .store T x y, ty, pos, af, g⟩ : Oper)).run P w = .ok .skip w' := by
  simp only [List.length_nil] at h2
  simp [execOp, hS.sl.ev hx, hS.sl.ev hy, Instr.storeAt, Instr.sureAddr, storeVar, sizeOf_run hz, Value.cells, e2, h2]
 refine ⟨?_⟩
 unfold Oper.wp
 rw [he]
 refine h _ (hS.upd hr h4 (ok_blk (by simpa using h3)) (fun i hi => .inl hi) rfl)
theorem s_call {f : FuncId} {xs : List Operand} {vs : List Value} {ts : Array TypeId} {dst : Option Tmp} {R : Ending → World → Prop} (hS : St n F0 w0 a w L Γ) (hx : Evs L xs vs) (hf : CallsTo P f)
 (hc : Calls P f vs.toArray w R) (h : ∀ e w', R e w' → ∃ v, e = .returned v ∧ K (a.put dst v) w') : OW P ⟨dst, .call ⟨.value (.func f), xs.toArray, ts⟩, ty, pos, af, g⟩ a w K Q := by
 refine ⟨?_⟩
 unfold Oper.wp
 have he : (execOp a.eval (⟨dst, .call ⟨.value (.func f), xs.toArray, ts⟩, ty, pos, af, g⟩ : Oper)).run P w = .ok (.enter f vs.toArray) w := by
  rw [execOp_call_go]
  rw [hS.sl.evs hx]
  simpa using hf vs.toArray w
 rw [he]
 refine hc.mono fun e w' hR => ?_
 obtain ⟨v, rfl, hK⟩ := h e w' hR
 exact hK
theorem s_callv {f : FuncId} {x : Operand} {cs : List Value} {xs : List Operand} {vs : List Value} {ts : Array TypeId} {dst : Option Tmp} {R : Ending → World → Prop} (hS : St n F0 w0 a w L Γ) (hv : ev L x = some (.func (.func f) #[] cs.toArray)) (hx : Evs L xs vs) (hf : CallsTo P f)
 (hc : Calls P f (vs ++ cs).toArray w R) (h : ∀ e w', R e w' → ∃ v, e = .returned v ∧ K (a.put dst v) w') : OW P ⟨dst, .call ⟨.value x, xs.toArray, ts⟩, ty, pos, af, g⟩ a w K Q := by
 refine ⟨?_⟩
 unfold Oper.wp
 have he : (execOp a.eval (⟨dst, .call ⟨.value x, xs.toArray, ts⟩, ty, pos, af, g⟩ : Oper)).run P w = .ok (.enter f (vs ++ cs).toArray) w := by
  have h1 := hS.sl.evs hx
  have h2 := hf (vs ++ cs).toArray w
  have e1 : (#[] ++ vs.toArray) ++ cs.toArray = (vs ++ cs).toArray := by simp
  have hr : (resolve a.eval ⟨.value x, xs.toArray, ts⟩ ty).run P w = .ok ⟨.fn (.func f) cs.toArray, #[] ++ vs.toArray⟩ w := by
   simp only [resolve, hS.sl.ev hv, h1, Deferred.ofValue]; rfl
  show ((resolve a.eval ⟨.value x, xs.toArray, ts⟩ ty) >>= fun d => invoke d.target d.args).run P w = _
  rw [Sem.run_bind, hr]
  show (callFunc f ((#[] ++ vs.toArray) ++ cs.toArray)).run P w = _
  rw [e1]; exact h2
 rw [he]
 refine hc.mono fun e w' hR => ?_
 obtain ⟨v, rfl, hK⟩ := h e w' hR
 exact hK
end
end Go.Proofs.YtheofhegdjjfgaaGreat
namespace Go.Proofs.YtheofhegdjjfgaaGreat
open Go.RowKit
section
variable {P : Program} {n : Nat} {F0 : Nat → Prop} {w0 : World} {a : Act} {w : World} {L : List (Nat × Value)} {Γ : List Asn}
variable {K : Act → World → Prop} {Q : Exit → Act → World → Prop} {d ty : Nat} {dst : Option Tmp} {pos : String} {af : Array Edge} {g : Option (Nat × Bool)} {op : Op} {rest l : List Oper}
def opDst : List Oper → Nat → Option Nat
 | [], _ => none
 | o :: r, i => bif Nat.beq i 0 then o.dst else opDst r (i - 1)
theorem opDst_eq (l : List Oper) (i : Nat) : opDst l i = (l[i]?).bind (·.dst) := by
 induction l generalizing i with
 | nil => simp [opDst]
 | cons v l ih =>
   cases i with
   | zero => simp [opDst]
   | succ i => exact (ih i).trans (by simp)
theorem yielded_of {j t : Nat} {b : Bool} (hs : Sl n a L) (hj : opDst l j = some t) (hv : lk L t = some (.bool b)) : yielded l.toArray a.tmps j = some b := by
 rw [opDst_eq] at hj
 have h := hs.get _ _ hv
 unfold yielded
 have h1 : (l.toArray[j]?).bind (·.dst) = some t := by simpa using hj
 rw [h1]
 simp only [Option.bind_some]
 rw [Array.getD_eq_getD_getElem?] at h
 cases ht : a.tmps[t]? with
 | none => rw [ht] at h; simp [undef] at h
 | some v => rw [ht] at h; simp at h; subst h; rfl
theorem L_nil {ops : Array Oper} (h : Q .normal a w) : wpList P ops Q [] a w := h
theorem L_op {ops : Array Oper} (h : OW P ⟨dst, op, ty, pos, af, none⟩ a w (wpList P ops Q rest) Q) : wpList P ops Q (⟨dst, op, ty, pos, af, none⟩ :: rest) a w := by
 unfold wpList
 rw [if_pos (by simp [Region.wanted])]
 exact .inl h.h
theorem L_go {j t : Nat} {b : Bool} (hS : St n F0 w0 a w L Γ) (hj : opDst l j = some t) (hv : lk L t = some (.bool b))
 (h : OW P ⟨dst, op, ty, pos, af, some (j, b)⟩ a w (wpList P l.toArray Q rest) Q) : wpList P l.toArray Q (⟨dst, op, ty, pos, af, some (j, b)⟩ :: rest) a w := by
 unfold wpList
 rw [if_pos (by simp [Region.wanted, yielded_of hS.sl hj hv])]
 exact .inl h.h
theorem L_skip_t {j t : Nat} (hS : St n F0 w0 a w L Γ) (hj : opDst l j = some t) (hv : lk L t = some (.bool false)) (hn : Nat.blt d n = true)
 (h : ∀ a', St n F0 w0 a' w ((d, undef) :: L) Γ → wpList P l.toArray Q rest a' w) : wpList P l.toArray Q (⟨some d, op, ty, pos, af, some (j, true)⟩ :: rest) a w := by
 unfold wpList
 rw [if_neg (by simp [Region.wanted, yielded_of hS.sl hj hv])]
 exact h _ (hS.put hn _)
theorem L_skip_f {j t : Nat} (hS : St n F0 w0 a w L Γ) (hj : opDst l j = some t) (hv : lk L t = some (.bool true)) (hn : Nat.blt d n = true)
 (h : ∀ a', St n F0 w0 a' w ((d, undef) :: L) Γ → wpList P l.toArray Q rest a' w) : wpList P l.toArray Q (⟨some d, op, ty, pos, af, some (j, false)⟩ :: rest) a w := by
 unfold wpList
 rw [if_neg (by simp [Region.wanted, yielded_of hS.sl hj hv])]
 exact h _ (hS.put hn _)
theorem yielded_undef {j t : Nat} (hs : Sl n a L) (hj : opDst l j = some t) (hv : lk L t = some undef) : yielded l.toArray a.tmps j = none := by
 rw [opDst_eq] at hj
 have h := hs.get _ _ hv
 unfold yielded
 have h1 : (l.toArray[j]?).bind (·.dst) = some t := by simpa using hj
 rw [h1]
 simp only [Option.bind_some]
 rw [Array.getD_eq_getD_getElem?] at h
 cases ht : a.tmps[t]? with
 | none => rfl
 | some v => rw [ht] at h; simp [undef] at h; subst h; rfl
theorem L_skip_u {j t : Nat} {b : Bool} (hS : St n F0 w0 a w L Γ) (hj : opDst l j = some t) (hv : lk L t = some undef) (hn : Nat.blt d n = true)
 (h : ∀ a', St n F0 w0 a' w ((d, undef) :: L) Γ → wpList P l.toArray Q rest a' w) : wpList P l.toArray Q (⟨some d, op, ty, pos, af, some (j, b)⟩ :: rest) a w := by
 unfold wpList
 rw [if_neg (by simp [Region.wanted, yielded_undef hS.sl hj hv])]
 exact h _ (hS.put hn _)
theorem St.is {t : Nat} {b c : Bool} (hS : St n F0 w0 a w L Γ) (hl : lk L t = some (.bool b)) (hb : b = c) : St n F0 w0 a w ((t, .bool c) :: L) Γ :=
 hS.act (hS.sl.know (by rw [hl, hb]))
theorem g_split {t : Nat} {b : Bool} {G : Prop} (hS : St n F0 w0 a w L Γ) (hl : lk L t = some (.bool b))
 (h1 : b = true → St n F0 w0 a w ((t, .bool true) :: L) Γ → G) (h2 : b = false → St n F0 w0 a w ((t, .bool false) :: L) Γ → G) : G := by
 cases hb : b
 · exact h2 hb (hS.is hl hb)
 · exact h1 hb (hS.is hl hb)
theorem g_splitD {t : Nat} {p : Prop} [hp : Decidable p] {G : Prop} (hS : St n F0 w0 a w L Γ) (hl : lk L t = some (.bool (decide p)))
 (h1 : p → St n F0 w0 a w ((t, .bool true) :: L) Γ → G) (h2 : ¬ p → St n F0 w0 a w ((t, .bool false) :: L) Γ → G) : G :=
 g_split hS hl (fun h => h1 (of_decide_eq_true h)) (fun h => h2 (of_decide_eq_false h))
theorem c_region {id : Nat} {l : List Oper} (h : wpList P l.toArray Q l a w) : (Code.region id l.toArray false).wp P Q a w := wp_region_lit h
theorem c_if_t {c : Operand} {x y : Code} (hS : St n F0 w0 a w L Γ) (hc : ev L c = some (.bool true)) (h : x.wp P Q a w) : (Code.cond c x y).wp P Q a w := wp_cond_true (hS.sl.ev hc) h
theorem c_if_f {c : Operand} {x y : Code} (hS : St n F0 w0 a w L Γ) (hc : ev L c = some (.bool false)) (h : y.wp P Q a w) : (Code.cond c x y).wp P Q a w := wp_cond_false (hS.sl.ev hc) h
theorem c_if {c : Operand} {x y : Code} {b : Bool} (hS : St n F0 w0 a w L Γ) (hc : ev L c = some (.bool b)) (h1 : b = true → x.wp P Q a w) (h2 : b = false → y.wp P Q a w) : (Code.cond c x y).wp P Q a w :=
 wp_cond_split (hS.sl.ev hc) h1 h2
theorem c_ifD {c : Operand} {x y : Code} {p : Prop} [hp : Decidable p] (hS : St n F0 w0 a w L Γ) (hc : ev L c = some (.bool (decide p))) (h1 : p → x.wp P Q a w) (h2 : ¬ p → y.wp P Q a w) : (Code.cond c x y).wp P Q a w :=
 wp_cond_split (hS.sl.ev hc) (fun h => h1 (of_decide_eq_true h)) (fun h => h2 (of_decide_eq_false h))
theorem c_enter {f : FuncId} {fn : Func} {c : Code} {args : List Value} {R : Ending → World → Prop} {m : Nat} (L : List (Nat × Value)) (Γ : List Asn) (F0 : Nat → Prop) (hf : P.funcs[f]? = some fn) (hb : fn.body = some c) (hm : fn.ntmps = m)
 (hA : SubA args L) (hn : Nat.ble args.length m = true) (ok : ∀ X ∈ Γ, X.ok w) (dis : Γ.Pairwise (fun X Y => ∀ b, X.F b → ¬ Y.F b)) (mine : ∀ X ∈ Γ, X.mine = true → ∀ b, X.F b → w.heap.size ≤ b ∨ F0 b)
 (h : ∀ a, St m F0 w a w L Γ → c.wp P (bodyPost P fn R) a w) : Calls P f args.toArray w R := by
 refine calls_of_wp hf hb (h _ ⟨?_, Chg.refl _ _, ok, dis, mine⟩)
 have hle : args.length ≤ m := Nat.le_of_ble_eq_true hn
 have := Sl.start (l := args) (L := L) (n := m) (m := m - args.length) hA (by omega)
 simpa [hm] using this
inductive Res1 (P : Program) (L : List (Nat × Value)) (Γ : List Asn) : ResultVar → Value → Prop
 | tmp {t : Nat} {v : Value} (h : lk L t = some v) : Res1 P L Γ (.tmp t) v
 | cell {t T b : Nat} {cs : List Value} {E : TypeId} {v : Value} (h : lk L t = some (.pointer (some ⟨b, 0, none⟩))) (hm : Asn.blk b cs E ∈ Γ) (hT : scalarT P T = true) (hv : nth cs 0 = some v) : Res1 P L Γ (.cell t T) v
 | cellA {t T b m : Nat} {cs : List Value} {E : TypeId} (h : lk L t = some (.pointer (some ⟨b, 0, none⟩))) (hm : Asn.blk b cs E ∈ Γ) (hT : structT P T = true) (hz : szOf P T = some m) (hl : Nat.beq cs.length m = true) : Res1 P L Γ (.cell t T) (.agg cs.toArray)
inductive ResL (P : Program) (L : List (Nat × Value)) (Γ : List Asn) : List ResultVar → List Value → Prop
 | nil : ResL P L Γ [] []
 | cons {r : ResultVar} {rs : List ResultVar} {v : Value} {vs : List Value} (h : Res1 P L Γ r v) (t : ResL P L Γ rs vs) : ResL P L Γ (r :: rs) (v :: vs)
def rvS (a : Act) : ResultVar → Sem Value
 | .tmp t => pure (a.tmps.getD t undef)
 | .cell q t => do loadVar t (← asAddr (a.tmps.getD q undef))
theorem results_rvS (fn : Func) (a : Act) : results fn a.tmps = (do
    let vs ← fn.results.mapM (rvS a)
    pure (if h : vs.size = 1 then vs[0] else .tuple vs)) := by
 unfold results
 congr 1
theorem Res1.run {r : ResultVar} {v : Value} (hS : St n F0 w0 a w L Γ) (h : Res1 P L Γ r v) :
 (rvS a r).run P w = .ok v w := by
 cases h with
 | tmp h => simp only [rvS, hS.sl.get _ _ h]; rfl
 | cell h hm hT hv =>
   rw [nth_eq] at hv
   have hc := cell_of_blk (hS.get hm) hv
   simp only [rvS, hS.sl.get _ _ h, asAddr, Sem.run_bind, Sem.run_pure, Result.andThen_ok, loadVar_scalar hT hc]
 | cellA h hm hT hz hl =>
   obtain rfl := Nat.eq_of_beq_eq_true hl
   have hc := loadVar_struct (P := P) hT hz (w := w) (p := ⟨_, 0, none⟩) (fun j v hj => by rw [addr_add, Nat.zero_add]; exact cell_of_blk (hS.get hm) hj)
   simp only [rvS, hS.sl.get _ _ h, asAddr, Sem.run_bind, Sem.run_pure, Result.andThen_ok, hc]
theorem ResL.run {rs : List ResultVar} {vs : List Value} (hS : St n F0 w0 a w L Γ) (h : ResL P L Γ rs vs) :
 (rs.mapM (rvS a)).run P w = .ok vs w := by
 induction h with
 | nil => rfl
 | cons h _ ih =>
   simp only [List.mapM_cons, Sem.run_bind, Res1.run hS h, Result.andThen_ok, ih, Sem.run_pure]
theorem c_ret1 {fn : Func} {R : Ending → World → Prop} {r : ResultVar} {v : Value} (hS : St n F0 w0 a w L Γ) (hr : fn.results = #[r]) (hv : Res1 P L Γ r v) (h : R (.returned v) w) : bodyPost P fn R .ret a w := by
 refine ⟨hS.sl.defers, v, ?_, h⟩
 have := ResL.run hS (.cons hv .nil)
 rw [results_rvS, hr, show (#[r] : Array ResultVar) = [r].toArray from rfl, List.mapM_toArray, Sem.run_bind, Sem.run_map, this]
 rfl
theorem c_retN {fn : Func} {R : Ending → World → Prop} {rs : List ResultVar} {vs : List Value} (hS : St n F0 w0 a w L Γ) (hr : fn.results = rs.toArray) (hv : ResL P L Γ rs vs) (hne : Nat.beq vs.length 1 = false) (h : R (.returned (.tuple vs.toArray)) w) : bodyPost P fn R .ret a w := by
 refine ⟨hS.sl.defers, _, ?_, h⟩
 have h1 := ResL.run hS hv
 have h2 : ¬ vs.toArray.size = 1 := by simpa using nbeq_ne hne
 rw [results_rvS, hr, List.mapM_toArray, Sem.run_bind, Sem.run_map, h1]
 simp only [Result.andThen_ok, h2, dite_false]
 rfl
theorem r_norm {fn : Func} {R : Ending → World → Prop} (h : bodyPost P fn R .ret a w) : bodyPost P fn R .normal a w := h
def PureC (P : Program) (f : FuncId) (args : List Value) (w : World) (v : Value) : Prop := Calls P f args.toArray w fun e w' => e = .returned v ∧ Chg noB w w'
def NewC {γ : Type} (P : Program) (f : FuncId) (args : List Value) (w : World) (V : γ → Value) (Y : γ → Asn) : Prop :=
 Calls P f args.toArray w fun e w' => ∃ x, e = .returned (V x) ∧ Chg noB w w' ∧ (Y x).ok w' ∧ ∀ b, (Y x).F b → w.heap.size ≤ b
def MutC {γ : Type} (P : Program) (f : FuncId) (args : List Value) (w : World) (X : Asn) (V : γ → Value) (Y : γ → Asn) : Prop :=
 Calls P f args.toArray w fun e w' => ∃ x, e = .returned (V x) ∧ Chg X.F w w' ∧ (Y x).ok w' ∧ ∀ b, (Y x).F b → X.F b ∨ w.heap.size ≤ b
theorem s_callP {f : FuncId} {xs : List Operand} {vs : List Value} {ts : Array TypeId} {v : Value} (hS : St n F0 w0 a w L Γ) (hx : Evs L xs vs) (hf : CallsTo P f) (hn : Nat.blt d n = true)
 (hc : PureC P f vs w v) (h : ∀ a' w', St n F0 w0 a' w' ((d, v) :: L) Γ → K a' w') : OW P ⟨some d, .call ⟨.value (.func f), xs.toArray, ts⟩, ty, pos, af, g⟩ a w K Q :=
 s_call hS hx hf hc fun _ _ ⟨he, hch⟩ => ⟨_, he, h _ _ ((hS.ext hch).put hn _)⟩
theorem s_callN {γ : Type} {V : γ → Value} {Y : γ → Asn} {f : FuncId} {xs : List Operand} {vs : List Value} {ts : Array TypeId} (hS : St n F0 w0 a w L Γ) (hx : Evs L xs vs) (hf : CallsTo P f) (hn : Nat.blt d n = true)
 (hc : NewC P f vs w V Y) (h : ∀ x a' w', St n F0 w0 a' w' ((d, V x) :: L) (Y x :: Γ) → K a' w') : OW P ⟨some d, .call ⟨.value (.func f), xs.toArray, ts⟩, ty, pos, af, g⟩ a w K Q :=
 s_call hS hx hf hc fun _ _ ⟨x, he, hch, hY, hF⟩ => ⟨_, he, h x _ _ ((hS.fresh hch hY hF).put hn _)⟩
theorem s_callM {γ : Type} {V : γ → Value} {X : Asn} {Y : γ → Asn} {Γ' : γ → List Asn} {f : FuncId} {xs : List Operand} {vs : List Value} {ts : Array TypeId} (hS : St n F0 w0 a w L Γ) (hx : Evs L xs vs) (hf : CallsTo P f) (hn : Nat.blt d n = true)
 (hc : MutC P f vs w X V Y) (hr : ∀ x, Rep X (Y x) Γ (Γ' x)) (hm : X.mine = true) (h : ∀ x a' w', St n F0 w0 a' w' ((d, V x) :: L) (Γ' x) → K a' w') : OW P ⟨some d, .call ⟨.value (.func f), xs.toArray, ts⟩, ty, pos, af, g⟩ a w K Q :=
 s_call hS hx hf hc fun _ _ ⟨x, he, hch, hY, hF⟩ => ⟨_, he, h x _ _ ((hS.upd (hr x) hch hY hF hm).put hn _)⟩
theorem s_callvP {f : FuncId} {x : Operand} {cs : List Value} {xs : List Operand} {vs : List Value} {ts : Array TypeId} {v : Value} (hS : St n F0 w0 a w L Γ) (hv : ev L x = some (.func (.func f) #[] cs.toArray)) (hx : Evs L xs vs) (hf : CallsTo P f) (hn : Nat.blt d n = true)
 (hc : PureC P f (vs ++ cs) w v) (h : ∀ a' w', St n F0 w0 a' w' ((d, v) :: L) Γ → K a' w') : OW P ⟨some d, .call ⟨.value x, xs.toArray, ts⟩, ty, pos, af, g⟩ a w K Q :=
 s_callv hS hv hx hf hc fun _ _ ⟨he, hch⟩ => ⟨_, he, h _ _ ((hS.ext hch).put hn _)⟩
theorem s_callvM {γ : Type} {V : γ → Value} {X : Asn} {Y : γ → Asn} {Γ' : γ → List Asn} {f : FuncId} {x : Operand} {cs : List Value} {xs : List Operand} {vs : List Value} {ts : Array TypeId} (hS : St n F0 w0 a w L Γ) (hv : ev L x = some (.func (.func f) #[] cs.toArray)) (hx : Evs L xs vs) (hf : CallsTo P f) (hn : Nat.blt d n = true)
 (hc : MutC P f (vs ++ cs) w X V Y) (hr : ∀ x, Rep X (Y x) Γ (Γ' x)) (hm : X.mine = true) (h : ∀ x a' w', St n F0 w0 a' w' ((d, V x) :: L) (Γ' x) → K a' w') : OW P ⟨some d, .call ⟨.value x, xs.toArray, ts⟩, ty, pos, af, g⟩ a w K Q :=
 s_callv hS hv hx hf hc fun _ _ ⟨x, he, hch, hY, hF⟩ => ⟨_, he, h x _ _ ((hS.upd (hr x) hch hY hF hm).put hn _)⟩
def ExtC (P : Program) (f : FuncId) (vs : List Value) (v : Value) : Prop := ∀ w, (callFunc f vs.toArray).run P w = .ok (.value v) w
theorem e_extern {f : FuncId} {xs : List Operand} {vs : List Value} {ts : Array TypeId} {v : Value} (hx : Evs L xs vs) (hf : ExtC P f vs v) :
 Ex P n a L Γ ⟨dst, .call ⟨.value (.func f), xs.toArray, ts⟩, ty, pos, af, g⟩ v := fun hs w _ => by
 rw [execOp_call_go, hs.evs hx]
 simpa using hf w
def wpZ (P : Program) (ops : Array Oper) (Q : Exit → Act → World → Prop) (S : World → Prop) (Z : List Nat) : Nat → Array Bool → Act → World → Prop
 | 0, listed, a, w => Region.ready .any ops listed = [] ∧ Q .normal a w
 | fuel + 1, listed, a, w =>
   (Region.ready .any ops listed = [] → Q .normal a w) ∧
   ∀ i ∈ Region.ready .any ops listed, wpOp P ops Q i (fun a' w' => (S w → i ∈ Z ∨ S w') ∧ wpZ P ops Q S Z fuel (listed.setIfInBounds i true) a' w') a w
theorem wpAny_of_Z {ops : Array Oper} {S : World → Prop} {Z : List Nat} : ∀ (fuel : Nat) (listed : Array Bool) (a : Act) (w : World), wpZ P ops Q S Z fuel listed a w → wpAny P .any ops Q fuel listed a w
 | 0, _, _, _, h => h
 | fuel + 1, _, _, _, h => ⟨h.1, fun i hi => wpOp_mono (fun a' w' h' => wpAny_of_Z fuel _ a' w' h'.2) (h.2 i hi)⟩
def reachB (ops : Array Oper) : Nat → Nat → Nat → Bool
 | 0, _, _ => false
 | f + 1, z, i => match ops[z]? with
   | none => false
   | some o => (o.after.any fun e => Region.binds .any e && e.on == i) || (o.after.any fun e => Region.binds .any e && reachB ops f e.on i)
def waits (ops : Array Oper) (Z : List Nat) (i : Nat) : Bool := Z.all fun z => reachB ops ops.size z i
def Closed (ops : Array Oper) (listed : Array Bool) : Prop := ∀ m o, ops[m]? = some o → listed.getD m false = true → ∀ e ∈ o.after, Region.binds .any e = true → listed.getD e.on false = true
def closedB (ops : Array Oper) (listed : Array Bool) : Bool := (List.range ops.size).all fun m => !listed.getD m false || match ops[m]? with
 | some o => o.after.all fun e => !Region.binds .any e || listed.getD e.on false
 | none => true
theorem closed_of {ops : Array Oper} {listed : Array Bool} (h : closedB ops listed = true) : Closed ops listed := by
 intro m o hm hl e he hb
 have hlt := (Array.getElem?_eq_some_iff.1 hm).1
 have h1 := List.all_eq_true.1 h m (by simpa using hlt)
 rw [hl, hm] at h1
 simp only [Bool.not_true, Bool.false_or, Array.all_eq_true_iff_forall_mem] at h1
 have h2 := h1 e he
 rw [hb] at h2
 simpa using h2
theorem getD_set_true {l : Array Bool} {j m : Nat} (h : l.getD m false = true) : (l.setIfInBounds j true).getD m false = true := by
 by_cases e : j = m
 · subst e
   have hlt : j < l.size := by
    apply Classical.byContradiction; intro hn
    simp [Array.getD, hn] at h
   simp [Array.getD, hlt]
 · rw [getD_set_ne false e]; exact h
theorem closed_set {ops : Array Oper} {listed : Array Bool} (h : Closed ops listed) {j : Nat} (hj : j ∈ Region.ready .any ops listed) : Closed ops (listed.setIfInBounds j true) := by
 intro m o hm hl e he hb
 obtain ⟨_, oj, hoj, hall⟩ := mem_ready.1 hj
 by_cases e1 : j = m
 · subst e1
   rw [hoj] at hm; cases hm
   exact getD_set_true (hall e he hb)
 · rw [getD_set_ne false e1] at hl
   exact getD_set_true (h m o hm hl e he hb)
theorem reach_listed {ops : Array Oper} {listed : Array Bool} (hc : Closed ops listed) : ∀ (f z i : Nat) (o : Oper), ops[z]? = some o → (∀ e ∈ o.after, Region.binds .any e = true → listed.getD e.on false = true) → reachB ops f z i = true → listed.getD i false = true := by
 intro f
 induction f with
 | zero => intro z i o _ _ h; simp [reachB] at h
 | succ f ih =>
   intro z i o hz hall h
   simp only [reachB, hz, Bool.or_eq_true, Array.any_eq_true', Bool.and_eq_true, beq_iff_eq] at h
   rcases h with ⟨e, he, hb, rfl⟩ | ⟨e, he, hb, hr⟩
   · exact hall e he hb
   · have h1 := hall e he hb
     cases ho : ops[e.on]? with
     | none => cases f <;> simp [reachB, ho] at hr
     | some oe => exact ih e.on i oe ho (fun e' he' hb' => hc e.on oe ho h1 e' he' hb') hr
theorem wpZ_first {ops : Array Oper} {S : World → Prop} {Z : List Nat} {i : Nat} {oi : Oper} {v : Value} (hi : ops[i]? = some oi) (hsel : ∀ (j : Nat) (o : Oper) cs b, ops[j]? = some o → o.op ≠ .select cs b)
 (hQ : ∀ c a w, Q (.panic c) (a.put oi.dst v) w → Q (.panic c) a w) (hZ : waits ops Z i = true) :
 ∀ (fuel : Nat) (listed : Array Bool) (a : Act) (w : World),
  (∀ j oj, ops[j]? = some oj → j ≠ i → listed.getD j true = false → (∀ e ∈ oj.after, Region.binds .any e = true → e.on ≠ i) → oi.apart ops oj = true) →
  Closed ops listed → i ∈ Region.ready .any ops listed → YieldsIf P ops S oi v a → S w →
  wpZ P ops Q S Z fuel (listed.setIfInBounds i true) (a.put oi.dst v) w → wpZ P ops Q S Z (fuel + 1) listed a w := by
 intro fuel
 induction fuel with
 | zero =>
   intro listed a w _ _ hr hy hS H
   refine ⟨fun h => (by rw [h] at hr; cases hr), fun j hj => ?_⟩
   by_cases hji : j = i
   · subst hji; exact hy.wpOp hi hS ⟨fun h => .inr h, H⟩
   · have := ready_mono hj hji
     rw [H.1] at this
     cases this
 | succ fuel ih =>
   intro listed a w hfree hcl hr hy hS H
   refine ⟨fun h => (by rw [h] at hr; cases hr), fun j hj => ?_⟩
   by_cases hji : j = i
   · subst hji; exact hy.wpOp hi hS ⟨fun h => .inr h, H⟩
   · have h1 := H.2 j (ready_mono hj hji)
     obtain ⟨hjun, oj, hoj, hall⟩ := mem_ready.1 hj
     have hnot : ∀ e ∈ oj.after, Region.binds .any e = true → e.on ≠ i := fun e he hb heq => by
      have h1 := hall e he hb
      have h0 := (mem_ready.1 hr).1
      rw [heq] at h1
      rcases Nat.lt_or_ge i listed.size with h' | h'
      · simp [h'] at h0 h1; rw [h0] at h1; cases h1
      · simp [Array.getElem?_eq_none h'] at h1
     have hjZ : j ∉ Z := fun hz => by
      have h5 := List.all_eq_true.1 hZ j hz
      have h6 := reach_listed hcl _ _ _ _ hoj hall h5
      have h7 := (mem_ready.1 hr).1
      rcases Nat.lt_or_ge i listed.size with h' | h'
      · simp [h'] at h6 h7; rw [h6] at h7; cases h7
      · simp [Array.getElem?_eq_none h'] at h6
     have h2 := wpOp_putIf hoj (hfree j oj hoj hji hjun hnot) (fun cs b => hsel i oi cs b hi) (fun cs b => hsel j oj cs b hoj) hQ hy h1
     have hfree' : ∀ k ok, ops[k]? = some ok → k ≠ i → (listed.setIfInBounds j true).getD k true = false →
      (∀ e ∈ ok.after, Region.binds .any e = true → e.on ≠ i) → oi.apart ops ok = true := fun k ok hk hki hun hno => by
      refine hfree k ok hk hki ?_ hno
      by_cases hjk : j = k
      · subst hjk; exact hjun
      · rw [getD_set_ne true hjk] at hun; exact hun
     refine wpOp_mono (fun a' w' h3 => ⟨fun _ => .inr ((h3.2.1 hS).resolve_left hjZ), ih (listed.setIfInBounds j true) a' w' hfree' (closed_set hcl hj) (ready_mono hr (Ne.symm hji)) h3.1 ((h3.2.1 hS).resolve_left hjZ) ?_⟩) h2
     rw [Array.setIfInBounds_comm _ _ hji]
     exact h3.2.2
theorem wpZ_first0 {ops : Array Oper} {S : World → Prop} {Z : List Nat} {i : Nat} {oi : Oper} {v : Value} (hi : ops[i]? = some oi) (hsel : ∀ (j : Nat) (o : Oper) cs b, ops[j]? = some o → o.op ≠ .select cs b)
 (hQ : ∀ c a w, Q (.panic c) (a.put oi.dst v) w → Q (.panic c) a w) :
 ∀ (fuel : Nat) (listed : Array Bool) (a : Act) (w : World),
  (∀ j oj, ops[j]? = some oj → j ≠ i → listed.getD j true = false → (∀ e ∈ oj.after, Region.binds .any e = true → e.on ≠ i) → oi.apart ops oj = true) →
  i ∈ Region.ready .any ops listed → Yields P ops oi v a →
  wpZ P ops Q S Z fuel (listed.setIfInBounds i true) (a.put oi.dst v) w → wpZ P ops Q S Z (fuel + 1) listed a w := by
 intro fuel
 induction fuel with
 | zero =>
   intro listed a w _ hr hy H
   refine ⟨fun h => (by rw [h] at hr; cases hr), fun j hj => ?_⟩
   by_cases hji : j = i
   · subst hji; exact hy.wpOp hi ⟨fun h => .inr h, H⟩
   · have := ready_mono hj hji
     rw [H.1] at this
     cases this
 | succ fuel ih =>
   intro listed a w hfree hr hy H
   refine ⟨fun h => (by rw [h] at hr; cases hr), fun j hj => ?_⟩
   by_cases hji : j = i
   · subst hji; exact hy.wpOp hi ⟨fun h => .inr h, H⟩
   · have h1 := H.2 j (ready_mono hj hji)
     obtain ⟨hjun, oj, hoj, hall⟩ := mem_ready.1 hj
     have hnot : ∀ e ∈ oj.after, Region.binds .any e = true → e.on ≠ i := fun e he hb heq => by
      have h1 := hall e he hb
      have h0 := (mem_ready.1 hr).1
      rw [heq] at h1
      rcases Nat.lt_or_ge i listed.size with h' | h'
      · simp [h'] at h0 h1; rw [h0] at h1; cases h1
      · simp [Array.getElem?_eq_none h'] at h1
     have h2 := wpOp_put hoj (hfree j oj hoj hji hjun hnot) (fun cs b => hsel i oi cs b hi) (fun cs b => hsel j oj cs b hoj) hQ hy h1
     have hfree' : ∀ k ok, ops[k]? = some ok → k ≠ i → (listed.setIfInBounds j true).getD k true = false →
      (∀ e ∈ ok.after, Region.binds .any e = true → e.on ≠ i) → oi.apart ops ok = true := fun k ok hk hki hun hno => by
      refine hfree k ok hk hki ?_ hno
      by_cases hjk : j = k
      · subst hjk; exact hjun
      · rw [getD_set_ne true hjk] at hun; exact hun
     refine wpOp_mono (fun a' w' h3 => ⟨h3.2.1, ih (listed.setIfInBounds j true) a' w' hfree' (ready_mono hr (Ne.symm hji)) h3.1 ?_⟩) h2
     rw [Array.setIfInBounds_comm _ _ hji]
     exact h3.2.2
theorem c_draw {id : Nat} {l : List Oper} (Γs : List Asn) (Z : List Nat) (hm : P.follows .mixedOrders = true) (hS : St n F0 w0 a w L Γ)
 (h : ∀ w', St n F0 w0 a w' L Γ → wpZ P l.toArray Q (Hd Γs) Z l.length (List.replicate l.length false).toArray a w') : (Code.region id l.toArray true).wp P Q a w := by
 refine wp_region_any hm (wpAny_of_Z (S := Hd Γs) (Z := Z) _ _ _ _ ?_)
 have := h w.drew (hS.ext (Chg.drew _ _))
 simpa using this
theorem c_draw1 {id : Nat} {l : List Oper} (Z : List Nat) (hm : P.follows .mixedOrders = true) (hS : St n F0 w0 a w L Γ)
 (h : ∀ w', St n F0 w0 a w' L Γ → wpZ P l.toArray Q (Hd Γ) Z l.length (List.replicate l.length false).toArray a w') : (Code.region id l.toArray true).wp P Q a w := c_draw Γ Z hm hS h
theorem sub_nil {Γ : List Asn} : ∀ Y ∈ ([] : List Asn), Y ∈ Γ := fun _ h => by cases h
theorem sub_cons {Γ Γs : List Asn} {X : Asn} (h : X ∈ Γ) (t : ∀ Y ∈ Γs, Y ∈ Γ) : ∀ Y ∈ X :: Γs, Y ∈ Γ := fun Y hY => by
 rcases List.mem_cons.1 hY with rfl | hY
 · exact h
 · exact t Y hY
theorem c_drawS {id : Nat} {l : List Oper} {Γs : List Asn} (Z : List Nat) (hm : P.follows .mixedOrders = true) (hS : St n F0 w0 a w L Γ) (_hsub : ∀ X ∈ Γs, X ∈ Γ)
 (h : ∀ w', St n F0 w0 a w' L Γ → wpZ P l.toArray Q (Hd Γs) Z l.length (List.replicate l.length false).toArray a w') : (Code.region id l.toArray true).wp P Q a w := c_draw Γs Z hm hS h
theorem Z_take {i fuel : Nat} {l : List Oper} {Γs : List Asn} {Z : List Nat} {listed listed' : List Bool} {v : Value} (hS : St n F0 w0 a w L Γ) (hi : l[i]? = some ⟨some d, op, ty, pos, af, g⟩) (hw : ∀ a, Sl n a L → Region.wanted ⟨some d, op, ty, pos, af, g⟩ (yielded l.toArray a.tmps) = true) (he : Ex P n a L Γs ⟨some d, op, ty, pos, af, g⟩ v)
 (hl : listed.set i true = listed') (hns : Region.noSelect l.toArray = true) (hf : Region.free .any l.toArray listed.toArray i = true) (hr : (Region.ready .any l.toArray listed.toArray).contains i = true) (hcl : closedB l.toArray listed.toArray = true) (hZ : waits l.toArray Z i = true)
 (hsub : ∀ X ∈ Γs, X ∈ Γ) (hQ : ∀ c a w, Q (.panic c) (a.put (some d) v) w → Q (.panic c) a w) (hn : Nat.blt d n = true)
 (h : ∀ a', St n F0 w0 a' w ((d, v) :: L) Γ → wpZ P l.toArray Q (Hd Γs) Z fuel listed'.toArray a' w) : wpZ P l.toArray Q (Hd Γs) Z (fuel + 1) listed.toArray a w := by
 have hi' : l.toArray[i]? = some ⟨some d, op, ty, pos, af, g⟩ := by simpa using hi
 refine wpZ_first hi' (Region.noSelect_spec hns) hQ hZ fuel _ a w (Region.free_spec hi' hf) (closed_of hcl) (by simpa using hr) (.inl ⟨hw a hS.sl, fun w' hh => he hS.sl w' hh⟩) (fun X hX => hS.get (hsub X hX)) ?_
 have := h _ (hS.put hn v)
 subst hl
 simpa using this
theorem Z_take0 {i fuel : Nat} {l : List Oper} {Γs : List Asn} {Z : List Nat} {listed listed' : List Bool} {v : Value} (hS : St n F0 w0 a w L Γ) (hi : l[i]? = some ⟨some d, op, ty, pos, af, g⟩) (hw : ∀ a, Sl n a L → Region.wanted ⟨some d, op, ty, pos, af, g⟩ (yielded l.toArray a.tmps) = true) (he : Ex P n a L [] ⟨some d, op, ty, pos, af, g⟩ v)
 (hl : listed.set i true = listed') (hns : Region.noSelect l.toArray = true) (hf : Region.free .any l.toArray listed.toArray i = true) (hr : (Region.ready .any l.toArray listed.toArray).contains i = true)
 (hQ : ∀ c a w, Q (.panic c) (a.put (some d) v) w → Q (.panic c) a w) (hn : Nat.blt d n = true)
 (h : ∀ a', St n F0 w0 a' w ((d, v) :: L) Γ → wpZ P l.toArray Q (Hd Γs) Z fuel listed'.toArray a' w) : wpZ P l.toArray Q (Hd Γs) Z (fuel + 1) listed.toArray a w := by
 have hi' : l.toArray[i]? = some ⟨some d, op, ty, pos, af, g⟩ := by simpa using hi
 refine wpZ_first0 hi' (Region.noSelect_spec hns) hQ fuel _ a w (Region.free_spec hi' hf) (by simpa using hr) (.inl ⟨hw a hS.sl, fun w' => he hS.sl w' (fun _ hX => by cases hX)⟩) ?_
 have := h _ (hS.put hn v)
 subst hl
 simpa using this
theorem Z_none_t {i j t fuel : Nat} {l : List Oper} {Γs : List Asn} {Z : List Nat} {listed listed' : List Bool} (hS : St n F0 w0 a w L Γ) (hi : l[i]? = some ⟨some d, op, ty, pos, af, some (j, true)⟩) (hj : opDst l j = some t) (hv : lk L t = some (.bool false))
 (hl : listed.set i true = listed') (hns : Region.noSelect l.toArray = true) (hf : Region.free .any l.toArray listed.toArray i = true) (hr : (Region.ready .any l.toArray listed.toArray).contains i = true)
 (hQ : ∀ c a w, Q (.panic c) (a.put (some d) undef) w → Q (.panic c) a w) (hn : Nat.blt d n = true)
 (h : ∀ a', St n F0 w0 a' w ((d, undef) :: L) Γ → wpZ P l.toArray Q (Hd Γs) Z fuel listed'.toArray a' w) : wpZ P l.toArray Q (Hd Γs) Z (fuel + 1) listed.toArray a w := by
 have hi' : l.toArray[i]? = some ⟨some d, op, ty, pos, af, some (j, true)⟩ := by simpa using hi
 refine wpZ_first0 hi' (Region.noSelect_spec hns) hQ fuel _ a w (Region.free_spec hi' hf) (by simpa using hr) (.inr ⟨by simp [Region.wanted, yielded_of hS.sl hj hv], rfl⟩) ?_
 have := h _ (hS.put hn undef)
 subst hl
 simpa using this
theorem Z_none_f {i j t fuel : Nat} {l : List Oper} {Γs : List Asn} {Z : List Nat} {listed listed' : List Bool} (hS : St n F0 w0 a w L Γ) (hi : l[i]? = some ⟨some d, op, ty, pos, af, some (j, false)⟩) (hj : opDst l j = some t) (hv : lk L t = some (.bool true))
 (hl : listed.set i true = listed') (hns : Region.noSelect l.toArray = true) (hf : Region.free .any l.toArray listed.toArray i = true) (hr : (Region.ready .any l.toArray listed.toArray).contains i = true)
 (hQ : ∀ c a w, Q (.panic c) (a.put (some d) undef) w → Q (.panic c) a w) (hn : Nat.blt d n = true)
 (h : ∀ a', St n F0 w0 a' w ((d, undef) :: L) Γ → wpZ P l.toArray Q (Hd Γs) Z fuel listed'.toArray a' w) : wpZ P l.toArray Q (Hd Γs) Z (fuel + 1) listed.toArray a w := by
 have hi' : l.toArray[i]? = some ⟨some d, op, ty, pos, af, some (j, false)⟩ := by simpa using hi
 refine wpZ_first0 hi' (Region.noSelect_spec hns) hQ fuel _ a w (Region.free_spec hi' hf) (by simpa using hr) (.inr ⟨by simp [Region.wanted, yielded_of hS.sl hj hv], rfl⟩) ?_
 have := h _ (hS.put hn undef)
 subst hl
 simpa using this
theorem Z_none_u {i j t fuel : Nat} {b : Bool} {l : List Oper} {Γs : List Asn} {Z : List Nat} {listed listed' : List Bool} (hS : St n F0 w0 a w L Γ) (hi : l[i]? = some ⟨some d, op, ty, pos, af, some (j, b)⟩) (hj : opDst l j = some t) (hv : lk L t = some undef)
 (hl : listed.set i true = listed') (hns : Region.noSelect l.toArray = true) (hf : Region.free .any l.toArray listed.toArray i = true) (hr : (Region.ready .any l.toArray listed.toArray).contains i = true)
 (hQ : ∀ c a w, Q (.panic c) (a.put (some d) undef) w → Q (.panic c) a w) (hn : Nat.blt d n = true)
 (h : ∀ a', St n F0 w0 a' w ((d, undef) :: L) Γ → wpZ P l.toArray Q (Hd Γs) Z fuel listed'.toArray a' w) : wpZ P l.toArray Q (Hd Γs) Z (fuel + 1) listed.toArray a w := by
 have hi' : l.toArray[i]? = some ⟨some d, op, ty, pos, af, some (j, b)⟩ := by simpa using hi
 refine wpZ_first0 hi' (Region.noSelect_spec hns) hQ fuel _ a w (Region.free_spec hi' hf) (by simpa using hr) (.inr ⟨by simp [Region.wanted, yielded_undef hS.sl hj hv], rfl⟩) ?_
 have := h _ (hS.put hn undef)
 subst hl
 simpa using this
theorem Z_one {i fuel : Nat} {l : List Oper} {Γs : List Asn} {Z : List Nat} {listed listed' : List Bool} (hi : l[i]? = some ⟨dst, op, ty, pos, af, g⟩) (hw : Region.wanted ⟨dst, op, ty, pos, af, g⟩ (yielded l.toArray a.tmps) = true) (hl : listed.set i true = listed') (hr : Region.ready .any l.toArray listed.toArray = [i])
 (h : OW P ⟨dst, op, ty, pos, af, g⟩ a w (fun a' w' => (Hd Γs w → i ∈ Z ∨ Hd Γs w') ∧ wpZ P l.toArray Q (Hd Γs) Z fuel listed'.toArray a' w') Q) : wpZ P l.toArray Q (Hd Γs) Z (fuel + 1) listed.toArray a w := by
 have hi' : l.toArray[i]? = some ⟨dst, op, ty, pos, af, g⟩ := by simpa using hi
 refine ⟨fun h0 => (by rw [hr] at h0; cases h0), fun j hj => ?_⟩
 rw [hr] at hj
 obtain rfl := List.mem_singleton.1 hj
 unfold wpOp
 simp only [hi']
 rw [if_pos hw]
 subst hl
 refine .inl ?_
 have h := h.h
 simpa using h
theorem Z_done {l : List Oper} {Γs : List Asn} {Z : List Nat} {listed : List Bool} (hr : Region.ready .any l.toArray listed.toArray = []) (h : Q .normal a w) : wpZ P l.toArray Q (Hd Γs) Z 0 listed.toArray a w := ⟨hr, h⟩
theorem Z_and {i : Nat} {Γs : List Asn} {Z : List Nat} {G S0 : Prop} (hS : St n F0 w0 a w L Γ) (hsub : ∀ X ∈ Γs, X ∈ Γ) (h : G) : (S0 → i ∈ Z ∨ Hd Γs w) ∧ G := ⟨fun _ => .inr fun X hX => hS.get (hsub X hX), h⟩
theorem Z_last {i : Nat} {Γs : List Asn} {Z : List Nat} {G S0 : Prop} (hi : i ∈ Z) (h : G) : (S0 → i ∈ Z ∨ Hd Γs w) ∧ G := ⟨fun _ => .inl hi, h⟩
theorem want_none (b : Act) (_h : Sl n b L) : Region.wanted ⟨dst, op, ty, pos, af, none⟩ (yielded l.toArray b.tmps) = true := rfl
theorem want_go {j t : Nat} {c : Bool} (hj : opDst l j = some t) (hv : lk L t = some (.bool c)) (b : Act) (h : Sl n b L) : Region.wanted ⟨dst, op, ty, pos, af, some (j, c)⟩ (yielded l.toArray b.tmps) = true := by
 simp [Region.wanted, yielded_of h hj hv]
end
end Go.Proofs.YtheofhegdjjfgaaGreat
namespace Go.Proofs.YtheofhegdjjfgaaGreat
open Go.RowKit
section
variable {P : Program} {n : Nat} {F0 : Nat → Prop} {w0 : World} {a : Act} {w : World} {L : List (Nat × Value)} {Γ : List Asn}
variable {K : Act → World → Prop} {Q : Exit → Act → World → Prop} {d ty : Nat} {dst : Option Tmp} {pos : String} {af : Array Edge} {g : Option (Nat × Bool)}
theorem sliceT_eq {T E : TypeId} (h : sliceT P T = some E) : P.underlying T = some (.slice E) := by
 unfold sliceT at h; cases hi : P.underlying T with
 | none => simp [hi] at h
 | some D => cases D <;> simp_all
theorem info_of {E s b : Nat} {zs : List Value} (h1 : szOf P E = some s) (h2 : byOf P E = some b) (h3 : zeroOf P E = some zs) :
 ∃ i z, P.info? E = some i ∧ i.zero = some z ∧ i.size = s ∧ i.bytes = b ∧ z.cells = zs.toArray := by
 unfold szOf at h1; unfold byOf at h2; unfold zeroOf at h3
 cases hi : P.info? E with
 | none => simp [hi] at h1
 | some i =>
   cases hz : i.zero with
   | none => simp [hi, hz] at h3
   | some z => simp [hi, hz] at h1 h2 h3; exact ⟨i, z, rfl, hz, h1, h2, by simp [← h3]⟩
theorem e_ix {T E s b off m c : Nat} {x y : Operand} {k : IntKind} {i : Int} (hx : ev L x = some (.slice (some ⟨b, off, none⟩) m c)) (hy : ev L y = some (.int k i)) (hT : sliceT P T = some E) (hs : szOf P E = some s)
 (hi : 0 ≤ i ∧ i < m) : Ex P n a L Γ ⟨dst, .indexAddr T x y, ty, pos, af, g⟩ (.pointer (some ⟨b, off + i.toNat * s, none⟩)) := fun hs' w _ => by
 simp [execOp, hs'.ev hx, hs'.ev hy, Instr.indexAt, asIntOf, underlying, sliceT_eq hT, hi.1, hi.2, sizeOf_run hs, addr_add]
theorem e_ixN {T E s b off m c : Nat} {x y : Operand} {k : IntKind} {i : Nat} (hx : ev L x = some (.slice (some ⟨b, off, none⟩) m c)) (hy : ev L y = some (.int k (i : Int))) (hT : sliceT P T = some E) (hs : szOf P E = some s)
 (hi : i < m) : Ex P n a L Γ ⟨dst, .indexAddr T x y, ty, pos, af, g⟩ (.pointer (some ⟨b, off + i * s, none⟩)) := by
 have h := e_ix (P := P) (n := n) (a := a) (Γ := Γ) (dst := dst) (ty := ty) (pos := pos) (af := af) (g := g) hx hy hT hs (by omega)
 rwa [Int.toNat_natCast] at h
theorem e_ix0 {T E s b m c : Nat} {x y : Operand} {k : IntKind} (hx : ev L x = some (.slice (some ⟨b, 0, none⟩) m c)) (hy : ev L y = some (.int k 0)) (hT : sliceT P T = some E) (hs : szOf P E = some s)
 (hi : 0 < m) : Ex P n a L Γ ⟨dst, .indexAddr T x y, ty, pos, af, g⟩ (.pointer (some ⟨b, 0, none⟩)) := by
 have h := e_ix (P := P) (n := n) (a := a) (Γ := Γ) (dst := dst) (ty := ty) (pos := pos) (af := af) (g := g) hx hy hT hs (by omega)
 simpa using h
theorem e_ixS {T : Nat} {x y : Operand} {k : IntKind} {i : Int} {s : ByteArray} (hx : ev L x = some (.string s)) (hy : ev L y = some (.int k i)) (hT : P.underlying T = some .string)
 (hi : 0 ≤ i ∧ i < s.size) : Ex P n a L Γ ⟨dst, .index T x y, ty, pos, af, g⟩ (.int .u8 ((s.data.toList.getD i.toNat 0).toNat : Int)) := fun hs' w _ => by
 have h := run_index_string (P := P) (w := w) T s k i hT
 rw [dif_pos hi] at h
 have e : s.data.toList.getD i.toNat 0 = s[i.toNat]'(by omega) := by
  have hl : i.toNat < s.data.toList.length := by have := hi.2; simp; omega
  rw [List.getD_eq_getElem?_getD, List.getElem?_eq_getElem hl]; rfl
 rw [e]
 simp [execOp, hs'.ev hx, hs'.ev hy, h]
def RowAt (b off s : Nat) (xs : List (List Value)) (w : World) : Prop :=
 ∀ i x, xs[i]? = some x → ∀ j v, x[j]? = some v → w.cell? ⟨b, off + i * s + j, none⟩ = some v
def ownA (E s : Nat) (v : Value) (m : Nat) (xs : List Value) : Asn := .any (fun k => v.ownBlock = some k) (fun w => w.ownsRow 0 E s v m xs) true
theorem ok_own {w : World} {E s : Nat} {v : Value} {m : Nat} {xs : List Value} (h : w.ownsRow 0 E s v m xs) : (ownA E s v m xs).ok w := by
 refine ⟨fun b hb => (h.lt b hb).2, fun w' hw => ?_⟩
 refine ⟨h.1, h.2.imp id ?_⟩
 rintro ⟨g, cap, cur, rfl, h1, h2, h3⟩
 exact ⟨g, cap, cur, rfl, h1, by rw [hw g rfl]; exact h2, h3⟩
theorem own_nil (w : World) (E s : Nat) : (ownA E s (.slice none 0 0) 0 []).ok w := ok_own (World.ownsRow_nil w 0 E s)
theorem St.more (h : St n F0 w0 a w L Γ) {Y : Asn} (hY : Y.ok w) (hnew : ∀ b, Y.F b → False) : St n F0 w0 a w L (Y :: Γ) :=
 h.fresh (Chg.refl _ _) hY (fun b hb => (hnew b hb).elim)
theorem St.own_nil (h : St n F0 w0 a w L Γ) (E s : Nat) : St n F0 w0 a w L (ownA E s (.slice none 0 0) 0 [] :: Γ) :=
 h.more (Go.Proofs.YtheofhegdjjfgaaGreat.own_nil w E s) (fun b hb => by simp [ownA, Asn.F, Value.ownBlock] at hb)
theorem Chg.grown {w w' : World} {v : Value} (h : w.grownBy w' v.ownBlock) : Chg (fun k => v.ownBlock = some k) w w' :=
 ⟨h.os, h.tape, h.output, h.size, fun k hk hn => h.block k hk (fun e => hn e.symm)⟩
theorem Chg.grown0 {w w' : World} (h : w.grownBy w' none) : Chg noB w w' :=
 ⟨h.os, h.tape, h.output, h.size, fun k hk _ => h.block k hk (by simp)⟩
theorem own_slice {w : World} {E s : Nat} {v : Value} {m : Nat} {xs : List Value} (h : w.ownsRow 0 E s v m xs) : ∃ p c, v = .slice p m c := by
 rcases h.2 with ⟨rfl, rfl⟩ | ⟨g, cap, cur, rfl, _⟩
 · exact ⟨none, 0, rfl⟩
 · exact ⟨_, _, rfl⟩
theorem append_own {t ty e : TypeId} {i : TypeInfo} {z : Value} {size bytes : Nat} (ht : P.underlying t = some (.slice e)) (hi : P.info? e = some i) (hz : i.zero = some z)
 (hsize : i.size = size) (hby : i.bytes = bytes) (hzs : z.cells.size = size) (hsz : 0 < size)
 {v : Value} {m : Nat} {xs : List Value} (hown : w.ownsRow 0 e size v m xs) {ad : Addr} {k c : Nat} {news : List Value} (hl : news.length = k * size) (hnews : ∀ j u, news[j]? = some u → w.cell? (ad.add j) = some u) (h1 : ∀ u ∈ news, u.oneCell' = true)
 (h63 : m + k ≤ 4611686018427387904) (hbytes : (m + k) * bytes ≤ 140737488355328) :
 ∃ v' w', (Builtin.append_ #[t, t] ty #[v, .slice (some ad) k c]).run P w = .ok v' w' ∧ w'.ownsRow 0 e size v' (m + k) (xs ++ news) ∧ w.grownBy w' v.ownBlock ∧
  (∀ q, v'.ownBlock = some q → v.ownBlock = some q ∨ w.heap.size ≤ q) ∧ (v' = .slice none 0 0 ↔ v = .slice none 0 0 ∧ k = 0) := by
 obtain ⟨v', w', hrun, hown', hgr, hnil⟩ := run_append_own (P := P) w 0 t ty e i z size bytes ht hi hz hsize hby hzs hsz v m xs hown ad k c news hl hnews h1 (by unfold maxLen; omega) hbytes (Nat.zero_le _)
 refine ⟨v', w', hrun, hown', hgr, ?_, hnil⟩
 subst hsize
 subst hby
 rcases hown.2 with ⟨rfl, rfl⟩ | ⟨g, cap, cur, rfl, _, hg, hnc, hcm, hcs, htake⟩
 · by_cases hk : k = 0
   · intro q hq; rw [hnil.2 ⟨rfl, hk⟩] at hq; simp [Value.ownBlock] at hq
   · have hr := run_append_nil (P := P) w t ty e i z ht hi hz ad k c news hl hnews (by omega) (by omega) (by simp only [Nat.zero_add] at hbytes; omega)
     have := hrun.symm.trans hr
     injection this with e1 _
     intro q hq; rw [e1] at hq; simp [Value.ownBlock] at hq; right; omega
 · by_cases hroom : m + k ≤ cap
   · have hfit : m * i.size + news.length ≤ cur.size := by rw [hl, hcs, ← Nat.add_mul]; exact Nat.mul_le_mul_right _ hroom
     have hr := run_append_room (P := P) w t ty e i ht hi g m cap cur hg ad k c news hl hnews h1 hroom hfit
     have := hrun.symm.trans hr
     injection this with e1 _
     intro q hq; rw [e1] at hq; left; simpa [Value.ownBlock] using hq
   · have holds : ∀ j u, xs[j]? = some u → w.cell? ((⟨g, 0, none⟩ : Addr).add j) = some u := hown.cells (g := g) rfl
     have hr := run_append_grow (P := P) w t ty e i z ht hi hz ⟨g, 0, none⟩ m cap xs hown.1 holds ad k c news hl hnews (by omega) (by omega) (growslice_fits (by omega) hbytes)
     have := hrun.symm.trans hr
     injection this with e1 _
     intro q hq; rw [e1] at hq; simp [Value.ownBlock] at hq; right; omega
theorem s_append {T E s b : Nat} {zs : List Value} {x y : Operand} {v : Value} {m bx ox k c : Nat} {cs ys : List Value} {Γ' : Value → List Asn} (hS : St n F0 w0 a w L Γ) (hx : ev L x = some v) (hy : ev L y = some (.slice (some ⟨bx, ox, none⟩) k c))
 (hT : sliceT P T = some E) (hs : szOf P E = some s) (hb : byOf P E = some b) (hz : zeroOf P E = some zs) (hzl : Nat.beq zs.length s = true) (hs0 : Nat.blt 0 s = true) (hn : Nat.blt d n = true)
 (hm : ownA E s v m cs ∈ Γ) (hyl : ys.length = k * s) (hys : ∀ j u, ys[j]? = some u → w.cell? ⟨bx, ox + j, none⟩ = some u) (h1 : ∀ u ∈ ys, isOne u = true) (hbd : (m + k) * b ≤ 140737488355328 ∧ m + k ≤ 4611686018427387904)
 (hr : ∀ v', Rep (ownA E s v m cs) (ownA E s v' (m + k) (cs ++ ys)) Γ (Γ' v'))
 (h : ∀ v' a' w', (v' = .slice none 0 0 ↔ v = .slice none 0 0 ∧ k = 0) → St n F0 w0 a' w' ((d, v') :: L) (Γ' v') → K a' w') : OW P ⟨some d, .call ⟨.builtin .append, #[x, y], #[T, T]⟩, ty, pos, af, g⟩ a w K Q := by
 obtain ⟨i, z, hi, hz', hsz, hby, hzc⟩ := info_of hs hb hz
 have hown : w.ownsRow 0 E s v m cs := hS.get hm
 have e1 := Nat.eq_of_beq_eq_true hzl
 have e2 : 0 < s := by simpa using hs0
 obtain ⟨v', w', hrun, hown', hgr, hblk, hnil⟩ := append_own (P := P) (ty := ty) (sliceT_eq hT) hi hz' hsz hby (by rw [hzc]; simpa using e1) e2 hown (ad := ⟨bx, ox, none⟩) (c := c) hyl
  (fun j u hj => by rw [addr_add]; exact hys j u hj) (fun u hu => isOne_oneCell (h1 u hu)) hbd.2 hbd.1
 have he : (execOp a.eval (⟨some d, .call ⟨.builtin .append, #[x, y], #[T, T]⟩, ty, pos, af, g⟩ : Oper)).run P w = .ok (.value v') w' := by
  simp [execOp, resolve, invoke, builtin, hS.sl.ev hx, hS.sl.ev hy, hrun]
 refine ⟨?_⟩
 unfold Oper.wp
 rw [he]
 exact h v' _ _ hnil ((hS.upd (hr v') (Chg.grown hgr) (ok_own hown') (fun k hk => hblk k hk) rfl).put hn _)
theorem s_append1 {T E s b : Nat} {zs : List Value} {x y : Operand} {v : Value} {m bx k c Ex : Nat} {cs ys : List Value} {Γ' : Value → List Asn} (hS : St n F0 w0 a w L Γ) (hx : ev L x = some v) (hy : ev L y = some (.slice (some ⟨bx, 0, none⟩) k c))
 (hT : sliceT P T = some E) (hs : szOf P E = some s) (hb : byOf P E = some b) (hz : zeroOf P E = some zs) (hzl : Nat.beq zs.length s = true) (hs0 : Nat.blt 0 s = true) (hn : Nat.blt d n = true)
 (hm : ownA E s v m cs ∈ Γ) (hbx : Asn.blk bx ys Ex ∈ Γ) (hyl : Nat.beq ys.length (k * s) = true) (h1 : ys.all isOne = true) (hr : ∀ v', Rep (ownA E s v m cs) (ownA E s v' (m + k) (cs ++ ys)) Γ (Γ' v')) (hbd : (m + k) * b ≤ 140737488355328 ∧ m + k ≤ 4611686018427387904)
 (h : ∀ v' a' w', (v' = .slice none 0 0 ↔ v = .slice none 0 0 ∧ k = 0) → St n F0 w0 a' w' ((d, v') :: L) (Γ' v') → K a' w') : OW P ⟨some d, .call ⟨.builtin .append, #[x, y], #[T, T]⟩, ty, pos, af, g⟩ a w K Q :=
 s_append hS hx hy hT hs hb hz hzl hs0 hn hm (Nat.eq_of_beq_eq_true hyl) (fun j u hj => by rw [Nat.zero_add]; exact cell_of_blk (hS.get hbx) hj) (by simpa using h1) hbd hr h
def mapT (P : Program) (T : TypeId) : Option (TypeId × TypeId) := match P.underlying T with | some (.map k e) => some (k, e) | _ => none
theorem mapT_eq {T K E : TypeId} (h : mapT P T = some (K, E)) : P.underlying T = some (.map K E) := by
 unfold mapT at h; cases hi : P.underlying T with
 | none => simp [hi] at h
 | some D => cases D <;> simp_all
def plainKey : TypeDesc → Bool
 | .int _ | .string | .bool => true
 | _ => false
theorem checkKey_plain {t : TypeId} {D : TypeDesc} (h : P.underlying t = some D) (hp : plainKey D = true) (em : Bool) (m : Nat) (v : Value) : (Instr.checkKey em (m + 1) t v).run P w = .ok () w := by
 cases D <;> simp [plainKey] at hp <;> simp [Instr.checkKey, underlying, h]
theorem s_makeMap {T : TypeId} (hS : St n F0 w0 a w L Γ) (hn : Nat.blt d n = true)
 (h : ∀ a' w' b, St n F0 w0 a' w' ((d, .map (some b)) :: L) (.mp b [] 0 :: Γ) → K a' w') : OW P ⟨some d, .makeMap T none, ty, pos, af, g⟩ a w K Q := by
 have he : (execOp a.eval (⟨some d, .makeMap T none, ty, pos, af, g⟩ : Oper)).run P w = .ok (.value (.map (some w.heap.size))) (w.alloc (.map #[] 0)) := by
  simp [execOp, Instr.makeMap]
 refine ⟨?_⟩
 unfold Oper.wp
 rw [he]
 refine h _ _ w.heap.size ((hS.fresh (Chg.alloc _ _ _) (Y := .mp w.heap.size [] 0) ⟨fun b hb => ?_, fun w' hw => ?_⟩ ?_).put hn _)
 · obtain rfl : b = w.heap.size := hb; simp
 · show w'.heap[w.heap.size]? = _
   rw [hw _ rfl]; show (w.heap.push _)[w.heap.size]? = _
   simp
 · intro b hb; obtain rfl : b = w.heap.size := hb; exact Nat.le_refl _
theorem e_append0 {T E s b : Nat} {zs : List Value} {x y : Operand} {v : Value} {m : Nat} {cs : List Value} (hx : ev L x = some v) (hy : ev L y = some (.slice none 0 0))
 (hT : sliceT P T = some E) (hs : szOf P E = some s) (hb : byOf P E = some b) (hz : zeroOf P E = some zs) (hm : ownA E s v m cs ∈ Γ) : Ex P n a L Γ ⟨dst, .call ⟨.builtin .append, #[x, y], #[T, T]⟩, ty, pos, af, g⟩ v := fun hs' w hh => by
 obtain ⟨i, z, hi, hz', hsz, hby, hzc⟩ := info_of hs hb hz
 have hown : w.ownsRow 0 E s v m cs := hh _ hm
 have h := run_append_owned_none (P := P) w 0 T ty E i s (sliceT_eq hT) hi v m cs hown
 simp [execOp, resolve, invoke, builtin, hs'.ev hx, hs'.ev hy, h]
theorem s_make0 {T E s b : Nat} {zs : List Value} {x y : Operand} {k k' : IntKind} {c : Nat} (hS : St n F0 w0 a w L Γ) (hx : ev L x = some (.int k 0)) (hy : ev L y = some (.int k' (c : Int)))
 (hT : sliceT P T = some E) (hs : szOf P E = some s) (hb : byOf P E = some b) (hz : zeroOf P E = some zs) (hn : Nat.blt d n = true) (hbd : b * c ≤ 281474976710656 ∧ c ≤ 4611686018427387904)
 (h : ∀ b' a' w', St n F0 w0 a' w' ((d, .slice (some ⟨b', 0, none⟩) 0 c) :: L) (ownA E s (.slice (some ⟨b', 0, none⟩) 0 c) 0 [] :: Γ) → K a' w') : OW P ⟨some d, .makeSlice T x y, ty, pos, af, g⟩ a w K Q := by
 obtain ⟨i, z, hi, hz', hsz, hby, hzc⟩ := info_of hs hb hz
 obtain ⟨w', hrun, hown, hgr⟩ := run_make_own (P := P) w 0 T E i z s (sliceT_eq hT) hi hz' hsz k k' c (by rw [hby]; exact hbd.1) (by unfold maxLen; omega) (Nat.zero_le _)
 have he : (execOp a.eval (⟨some d, .makeSlice T x y, ty, pos, af, g⟩ : Oper)).run P w = .ok (.value (.slice (some ⟨w.heap.size, 0, none⟩) 0 c)) w' := by
  simp [execOp, hS.sl.ev hx, hS.sl.ev hy, hrun]
 refine ⟨?_⟩
 unfold Oper.wp
 rw [he]
 exact h _ _ _ ((hS.fresh (Chg.grown0 hgr) (ok_own hown) (fun q hq => by
   have : Value.ownBlock (.slice (some ⟨w.heap.size, 0, none⟩) 0 c) = some q := hq
   simp [Value.ownBlock] at this; omega)).put hn _)
def setL : List Value → Nat → List Value → List Value
 | l, _, [] => l
 | l, off, v :: vs => setL (l.set off v) (off + 1) vs
theorem fold_set (off : Nat) (vs : List Value) (k : Nat) (cs : Array Value) :
 (vs.toArray.zipIdx k).foldl (fun cs (c, j) => cs.setIfInBounds (off + j) c) cs = (setL cs.toList (off + k) vs).toArray := by
 rw [Array.zipIdx_toArray, List.foldl_toArray]
 induction vs generalizing k cs with
 | nil => simp [setL]
 | cons v vs ih =>
   rw [List.zipIdx_cons, List.foldl_cons, ih]
   simp only [setL, Array.toList_setIfInBounds, Nat.add_assoc]
theorem setL_full : ∀ (vs pre old : List Value), old.length = vs.length → setL (pre ++ old) pre.length vs = pre ++ vs := by
 intro vs
 induction vs with
 | nil => intro pre old h; have : old = [] := by simpa using h
          subst this; rfl
 | cons v vs ih =>
   intro pre old h
   cases old with
   | nil => simp at h
   | cons o old =>
     have := ih (pre ++ [v]) old (by simpa using h)
     simp only [setL]
     rw [show (pre ++ o :: old).set pre.length v = (pre ++ [v]) ++ old by simp]
     simpa using this
inductive UpdA : List Value → Nat → List Value → List Value → Prop
 | nil {cs : List Value} {k : Nat} : UpdA cs k [] cs
 | cons {cs cs1 cs2 vs : List Value} {k : Nat} {v : Value} (h : Upd cs k v cs1) (t : UpdA cs1 (k + 1) vs cs2) : UpdA cs k (v :: vs) cs2
theorem UpdA.eq {cs vs cs' : List Value} {k : Nat} (h : UpdA cs k vs cs') : cs' = setL cs k vs ∧ (vs = [] ∨ k + vs.length ≤ cs.length) := by
 induction h with
 | nil => exact ⟨rfl, .inl rfl⟩
 | cons h _ ih =>
   obtain ⟨rfl, h2⟩ := h.eq
   refine ⟨by rw [ih.1]; rfl, .inr ?_⟩
   rcases ih.2 with rfl | h3
   · simp; omega
   · simp at h3 ⊢; omega
def nthP : List (Nat × Nat) → Nat → Option (Nat × Nat)
 | [], _ => none
 | v :: l, i => bif Nat.beq i 0 then some v else nthP l (i - 1)
theorem nthP_eq (l : List (Nat × Nat)) (i : Nat) : nthP l i = l[i]? := by
 induction l generalizing i with
 | nil => simp [nthP]
 | cons v l ih =>
   cases i with
   | zero => simp [nthP]
   | succ i => exact (ih i).trans (by simp)
inductive FillR (L : List (Nat × Value)) (pl : List (Nat × Nat)) : List Value → List (Nat × Operand) → List Value → Prop
 | nil {cs : List Value} : FillR L pl cs [] cs
 | one {cs cs1 l : List Value} {i off : Nat} {x : Operand} {v : Value} {r : List (Nat × Operand)} (hx : ev L x = some v) (h1 : isOne v = true) (hp : nthP pl i = some (off, 1)) (hu : Upd cs off v cs1) (t : FillR L pl cs1 r l) : FillR L pl cs ((i, x) :: r) l
 | agg {cs cs1 l vs : List Value} {i off m : Nat} {x : Operand} {r : List (Nat × Operand)} (hx : ev L x = some (.agg vs.toArray)) (hp : nthP pl i = some (off, m)) (hl : Nat.beq vs.length m = true) (hm : Nat.blt 0 m = true) (hu : UpdA cs off vs cs1) (t : FillR L pl cs1 r l) : FillR L pl cs ((i, x) :: r) l
theorem fill_cons {place : Nat → Option (Nat × Nat)} {cells : Array Value} {i off size : Nat} {v : Value} {rest : List (Nat × Value)} {vs : List Value} (hp : place i = some (off, size)) (hc : v.cells = vs.toArray) (h1 : vs.length = size) (h2 : off + vs.length ≤ cells.size) :
 Instr.fill place cells ((i, v) :: rest) = Instr.fill place (setL cells.toList off vs).toArray rest := by
 have hf := fold_set off vs 0 cells
 have h3 : ¬ off + vs.length > cells.size := by omega
 simp only [Instr.fill, hp, hc, hf, Nat.add_zero]
 simp [h1] at h3 ⊢
 omega
theorem FillR.run {pl : List (Nat × Nat)} {cs l : List Value} {r : List (Nat × Operand)} (hs : Sl n a L) (h : FillR L pl cs r l) {place : Nat → Option (Nat × Nat)} (hp : ∀ i, place i = pl[i]?) :
 Instr.fill place cs.toArray (r.map fun p => (p.1, a.eval p.2)) = some l.toArray := by
 induction h with
 | nil => simp [Instr.fill]
 | @one cs cs1 l i off x v r hx h1 hp' hu _ ih =>
   obtain ⟨e1, e2⟩ := hu.eq
   rw [nthP_eq] at hp'
   rw [List.map_cons, hs.ev hx, fill_cons (vs := [v]) (off := off) (size := 1) (by rw [hp, hp']) (isOne_cells h1) rfl (by simp; omega)]
   rw [e1] at ih; exact ih
 | @agg cs cs1 l vs i off m x r hx hp' hl hm hu _ ih =>
   obtain ⟨e1, e2⟩ := hu.eq
   have e3 := Nat.eq_of_beq_eq_true hl
   have e4 : 0 < m := by simpa using hm
   rw [nthP_eq] at hp'
   have e5 : off + vs.length ≤ cs.length := by
    rcases e2 with rfl | e2
    · simp at e3; omega
    · exact e2
   rw [List.map_cons, hs.ev hx, fill_cons (vs := vs) (by rw [hp, hp']) rfl e3 (by simpa using e5)]
   rw [← e1]; exact ih
theorem places_list : ∀ (fs : List Field) (pl : List (Nat × Nat)) (w : World), (fs.mapM fun f => (szOf P f.type).map fun s => (f.offset, s)) = some pl →
 (fs.mapM fun f => do pure (f.offset, ← Go.sizeOf f.type) : Sem (List (Nat × Nat))).run P w = .ok pl w := by
 intro fs
 induction fs with
 | nil => intro pl w h; simp at h; subst h; rfl
 | cons f fs ih =>
   intro pl w h
   simp only [List.mapM_cons] at h
   cases hz : szOf P f.type with
   | none => simp [hz] at h
   | some m =>
     cases hr : (fs.mapM fun f => (szOf P f.type).map fun s => (f.offset, s)) with
     | none => simp [hz, hr] at h
     | some r =>
       simp [hz, hr] at h; subst h
       have ih' := ih r w hr
       rw [List.mapM_cons, Sem.run_bind]
       rw [show ((do pure (f.offset, ← Go.sizeOf f.type) : Sem (Nat × Nat))).run P w = .ok (f.offset, m) w by simp [sizeOf_run hz]]
       simp only [Result.andThen_ok, Sem.run_bind]
       rw [ih']; rfl
theorem places_run {t : TypeId} {pl : List (Nat × Nat)} (h : placesOf P t = some pl) (w : World) : ∃ fs : Array Field, P.underlying t = some (.struct fs) ∧
 (fs.mapM fun f => do pure (f.offset, ← Go.sizeOf f.type) : Sem (Array (Nat × Nat))).run P w = .ok pl.toArray w := by
 unfold placesOf at h
 cases hi : P.underlying t with
 | none => simp [hi] at h
 | some D =>
   cases D <;> simp [hi] at h
   rename_i fs
   refine ⟨fs, rfl, ?_⟩
   obtain ⟨fs⟩ := fs
   simp only at h
   rw [show (⟨fs⟩ : Array Field) = fs.toArray from rfl, List.mapM_toArray, Sem.run_map]
   rw [places_list fs pl w h]; rfl
theorem e_build {T : Nat} {zs l : List Value} {pl : List (Nat × Nat)} {r : List (Nat × Operand)} (hz : zeroOf P T = some zs) (hp : placesOf P T = some pl) (hf : FillR L pl zs r l) : Ex P n a L Γ ⟨dst, .build T r.toArray, ty, pos, af, g⟩ (.agg l.toArray) := fun hs w _ => by
 obtain ⟨z, hz1, hz2⟩ := zero_run hz w
 obtain ⟨fs, hu, hrun⟩ := places_run hp w
 have h := hf.run hs (place := fun i => pl.toArray[i]?) (fun i => by simp)
 have hb : (Instr.build T (r.toArray.map fun (i, x) => (i, a.eval x))).run P w = .ok (.agg l.toArray) w := by
  simp only [Instr.build, Sem.run_bind, hz1, Result.andThen_ok, hz2, underlying, run_program, hu, Sem.run_pure]
  rw [hrun]
  simp only [Result.andThen_ok]
  rw [show (r.toArray.map fun (i, x) => (i, a.eval x)).toList = r.map fun p => (p.1, a.eval p.2) by simp]
  rw [h]; rfl
 unfold execOp
 show ((do pure (.value (← Instr.build T (r.toArray.map fun (i, x) => (i, a.eval x)))) : Sem Next)).run P w = _
 rw [Sem.run_bind, hb]; rfl
inductive PartsR (L : List (Nat × Value)) (m : Nat) : Nat → List (Nat × Operand) → List Value → Prop
 | nil {k : Nat} : PartsR L m k [] []
 | agg {k : Nat} {l vs : List Value} {x : Operand} {r : List (Nat × Operand)} (hx : ev L x = some (.agg l.toArray)) (hl : Nat.beq l.length m = true) (t : PartsR L m (k + 1) r vs) : PartsR L m k ((k, x) :: r) (l ++ vs)
 | one {k : Nat} {v : Value} {vs : List Value} {x : Operand} {r : List (Nat × Operand)} (hx : ev L x = some v) (h1 : isOne v = true) (hm : Nat.beq m 1 = true) (t : PartsR L m (k + 1) r vs) : PartsR L m k ((k, x) :: r) (v :: vs)
theorem PartsR.run {m k : Nat} {r : List (Nat × Operand)} {vs : List Value} (hs : Sl n a L) (h : PartsR L m k r vs) : ∀ (pre old : List Value), pre.length = k * m → old.length = r.length * m →
 Instr.fill (fun i => some (i * m, m)) (pre ++ old).toArray (r.map fun p => (p.1, a.eval p.2)) = some (pre ++ vs).toArray ∧ vs.length = r.length * m := by
 induction h with
 | nil => intro pre old h1 h2; have : old = [] := by simpa using h2
          subst this; simp [Instr.fill]
 | @agg k l vs x r hx hl _ ih =>
   intro pre old h1 h2
   have e1 := Nat.eq_of_beq_eq_true hl
   have h3 : old.length = m + r.length * m := by rw [h2, List.length_cons, Nat.add_mul, Nat.one_mul, Nat.add_comm]
   obtain ⟨o1, o2, rfl, ho⟩ : ∃ o1 o2, old = o1 ++ o2 ∧ o1.length = m := ⟨old.take m, old.drop m, by simp, by simp; omega⟩
   have hfull := setL_full l pre o1 (by omega)
   have hgen : ∀ (vs x y : List Value) (q : Nat), q + vs.length ≤ x.length → setL (x ++ y) q vs = setL x q vs ++ y := by
    intro vs
    induction vs with
    | nil => intro x y q _; rfl
    | cons v vs ih2 =>
      intro x y q hq
      simp only [setL]
      rw [List.set_append_left _ _ (by simp at hq; omega)]
      exact ih2 _ _ _ (by simp at hq ⊢; omega)
   obtain ⟨i1, i2⟩ := ih (pre ++ l) o2 (by simp [h1, e1, Nat.add_mul]) (by simp at h3; omega)
   refine ⟨?_, by simp [i2, e1, Nat.add_mul]; omega⟩
   rw [List.map_cons, hs.ev hx, fill_cons (vs := l) (off := k * m) (size := m) rfl rfl e1 (by simp; simp at h3; omega)]
   rw [← h1, ← List.append_assoc, hgen l (pre ++ o1) o2 pre.length (by simp; omega), hfull]
   simpa using i1
 | @one k v vs x r hx h1' hm _ ih =>
   intro pre old h1 h2
   have e1 : m = 1 := Nat.eq_of_beq_eq_true hm
   subst e1
   cases old with
   | nil => simp at h2
   | cons o old =>
     obtain ⟨i1, i2⟩ := ih (pre ++ [v]) old (by simp at h1 ⊢; omega) (by simp at h2 ⊢; omega)
     refine ⟨?_, by simp at i2 ⊢; omega⟩
     rw [List.map_cons, hs.ev hx, fill_cons (vs := [v]) (off := k * 1) (size := 1) rfl (isOne_cells h1') rfl (by simp at h1 ⊢; omega)]
     simp only [setL]
     have : k * 1 = pre.length := by omega
     rw [this, show (pre ++ o :: old).set pre.length v = (pre ++ [v]) ++ old by simp]
     simpa using i1
theorem s_bslice {T E m q : Nat} {zs vs : List Value} {r : List (Nat × Operand)} (hS : St n F0 w0 a w L Γ) (hT : sliceT P T = some E) (hs : szOf P E = some m) (hz : zeroOf P E = some zs) (hzl : Nat.beq zs.length m = true) (hm : Nat.blt 0 m = true) (hm2 : Nat.ble (q * m) 16777216 = true) (hq : Nat.beq r.length q = true) (hp : PartsR L m 0 r vs) (hn : Nat.blt d n = true)
 (h : ∀ a' w' b, St n F0 w0 a' w' ((d, .slice (some ⟨b, 0, none⟩) q q) :: L) (.blk b vs E :: Γ) → K a' w') : OW P ⟨some d, .buildSlice T q r.toArray, ty, pos, af, g⟩ a w K Q := by
 have e2 := Nat.eq_of_beq_eq_true hzl
 have e3 : 0 < m := by simpa using hm
 have e4 := Nat.le_of_ble_eq_true hm2
 have e5 := Nat.eq_of_beq_eq_true hq
 obtain ⟨z, hz1, hz2⟩ := zero_run hz w
 have hfill : ∀ cs : Array Value, cs.size = q * m → Instr.fill (fun i => some (i * m, m)) cs (r.map fun p => (p.1, a.eval p.2)) = some vs.toArray := fun cs hc => by
  have := (hp.run hS.sl [] cs.toList (by simp) (by simp [hc, e5])).1
  simpa using this
 have he : (execOp a.eval (⟨some d, .buildSlice T q r.toArray, ty, pos, af, g⟩ : Oper)).run P w = .ok (.value (.slice (some ⟨w.heap.size, 0, none⟩) q q)) (w.alloc (.cells vs.toArray E)) := by
  by_cases h0 : q * m = 0
  · simp [execOp, Instr.buildSlice, underlying, sliceT_eq hT, sizeOf_run hs, h0, newRow]
    rw [hfill _ (by simp [h0])]; rfl
  · have h5 : ¬ (16777216 < q * m) := by omega
    simp [execOp, Instr.buildSlice, underlying, sliceT_eq hT, sizeOf_run hs, h0, h5, newRow, hz1, hz2]
    rw [hfill _ (by simp)]; rfl
 refine ⟨?_⟩
 unfold Oper.wp
 rw [he]
 refine h _ _ w.heap.size ((hS.fresh (Chg.alloc _ _ _) (Y := .blk w.heap.size vs E) (ok_blk ?_) ?_).put hn _)
 · show (w.heap.push _)[w.heap.size]? = _
   simp
 · intro b hb; obtain rfl : b = w.heap.size := hb; exact Nat.le_refl _
theorem e_cat {t t' : TypeId} {x y : Operand} {i j : ByteArray} (hx : ev L x = some (.string i)) (hy : ev L y = some (.string j)) (hb : i.size + j.size ≤ 9223372036854775807) :
 Ex P n a L Γ ⟨dst, .binOp .add t x y t', ty, pos, af, g⟩ (.string (i ++ j)) := fun hs w _ => by
 have h := run_string_add_sum (P := P) (w := w) i j hb
 simp [execOp, hs.ev hx, hs.ev hy, eqGuard, binOp, h]
theorem e_slSf {T : Nat} {x y : Operand} {s : ByteArray} {k : IntKind} {i : Int} (hx : ev L x = some (.string s)) (hy : ev L y = some (.int k i)) (hT : P.underlying T = some .string) (hb : 0 ≤ i ∧ i ≤ s.size) :
 Ex P n a L Γ ⟨dst, .slice T x (some y) none none, ty, pos, af, g⟩ (.string (s.extract i.toNat s.size)) := fun hs w _ => by
 have h := run_slice_string_from_if (P := P) (w := w) T s k i hT
 rw [if_pos hb] at h
 have h2 := run_sliceAt_string (P := P) (w := w) T (.string s) (some (.int k i)) none none hT
 simp [execOp, hs.ev hx, hs.ev hy, h2, h]
theorem e_convN {t t' : TypeId} {x : Operand} {k : IntKind} {i : Int} {D : TypeDesc} (hx : ev L x = some (.int k i)) (hD : P.underlying t = some D) (hu : P.underlying t' = some (.int .i64))
 (hm : -9223372036854775808 ≤ i ∧ i ≤ 9223372036854775807) : Ex P n a L Γ ⟨dst, .convert t t' x, ty, pos, af, g⟩ (.int .i64 i) := by
 have h := e_conv (P := P) (n := n) (a := a) (Γ := Γ) (dst := dst) (ty := ty) (pos := pos) (af := af) (g := g) hx hD hu
 rwa [IntWalk.i64_in _ (by omega)] at h
end
end Go.Proofs.YtheofhegdjjfgaaGreat
namespace Go.Proofs.YtheofhegdjjfgaaGreat
open Go.RowKit
section
variable {P : Program} {n : Nat} {F0 : Nat → Prop} {w0 : World} {a : Act} {w : World} {L : List (Nat × Value)} {Γ : List Asn}
theorem St.new (h : St n noB w0 a w L Γ) {X : Asn} (hX : X ∈ Γ) (hm : X.mine = true) : X.ok w ∧ ∀ b, X.F b → w0.heap.size ≤ b :=
 ⟨h.ok X hX, fun b hb => (h.mine X hX hm b hb).resolve_right (fun hf => hf)⟩
def rowA (b off s : Nat) (xs : List (List Value)) : Asn := .any (fun k => k = b) (RowAt b off s xs) false
theorem RowAt.keep {b off s : Nat} {xs : List (List Value)} {w w' : World} (h : RowAt b off s xs w) (hw : w'.heap[b]? = w.heap[b]?) : RowAt b off s xs w' := by
 intro i x hi j v hj
 rw [World.cell?_of_block (w := w) hw]; exact h i x hi j v hj
theorem ok_row {b off s : Nat} {xs : List (List Value)} {w : World} (h : RowAt b off s xs w) (hb : b < w.heap.size) : (rowA b off s xs).ok w :=
 ⟨fun k hk => by obtain rfl : k = b := hk; exact hb, fun w' hw => h.keep (hw b rfl)⟩
theorem row_get {b off s : Nat} {xs : List (List Value)} (hm : rowA b off s xs ∈ Γ) {i : Nat} {x : List Value} (hx : xs[i]? = some x) : ∀ w, Hd Γ w → ∀ j v, x[j]? = some v → w.cell? ⟨b, off + i * s + j, none⟩ = some v :=
 fun _ hh j v hj => hh _ hm i x hx j v hj
theorem row_of_blk {w : World} {b E s : Nat} {xs : List (List Value)} {cs : List Value} (h : w.heap[b]? = some (.cells cs.toArray E (0, 0))) (hx : ∀ i x, xs[i]? = some x → ∀ j v, x[j]? = some v → cs[i * s + j]? = some v) : RowAt b 0 s xs w := by
 intro i x hi j v hj
 rw [Nat.zero_add]; exact cell_of_blk h (hx i x hi j v hj)
def sliceV (p : Option (Nat × Nat)) (m c : Nat) : Value := .slice (p.map fun q => ⟨q.1, q.2, none⟩) m c
def RowP (p : Option (Nat × Nat)) (s : Nat) (xs : List (List Value)) (w : World) : Prop := match p with | none => xs = [] | some q => RowAt q.1 q.2 s xs w
def rowP (p : Option (Nat × Nat)) (s : Nat) (xs : List (List Value)) : Asn := .any (fun k => ∃ off, p = some (k, off)) (RowP p s xs) false
theorem ok_rowP {p : Option (Nat × Nat)} {s : Nat} {xs : List (List Value)} {w : World} (h : RowP p s xs w) (hb : ∀ q, p = some q → q.1 < w.heap.size) : (rowP p s xs).ok w := by
 refine ⟨fun k hk => ?_, fun w' hw => ?_⟩
 · obtain ⟨off, rfl⟩ := hk; exact hb _ rfl
 · show RowP p s xs w'
   cases p with
   | none => exact h
   | some q => exact RowAt.keep h (hw q.1 ⟨q.2, rfl⟩)
theorem rowP_get {b off s : Nat} {xs : List (List Value)} (hm : rowP (some (b, off)) s xs ∈ Γ) {i : Nat} {x : List Value} (hx : xs[i]? = some x) : ∀ w, Hd Γ w → ∀ j v, x[j]? = some v → w.cell? ⟨b, off + i * s + j, none⟩ = some v :=
 fun _ hh j v hj => hh _ hm i x hx j v hj
theorem rowP_some {p : Option (Nat × Nat)} {s : Nat} {xs : List (List Value)} {w : World} (h : RowP p s xs w) {i : Nat} {x : List Value} (hx : xs[i]? = some x) : ∃ b off, p = some (b, off) := by
 cases p with
 | none => simp only [RowP] at h; subst h; simp at hx
 | some q => exact ⟨q.1, q.2, rfl⟩
theorem flat_get {α : Type} (enc : α → List Value) (s : Nat) (hl : ∀ x, (enc x).length = s) : ∀ (xs : List α) (i : Nat) (x : α), xs[i]? = some x → ∀ j v, (enc x)[j]? = some v → (xs.flatMap enc)[i * s + j]? = some v := by
 intro xs
 induction xs with
 | nil => intro i x h; simp at h
 | cons y ys ih =>
   intro i x h j v hj
   cases i with
   | zero =>
     simp at h; subst h
     rw [List.flatMap_cons, Nat.zero_mul, Nat.zero_add, List.getElem?_append_left]
     · exact hj
     · exact (List.getElem?_eq_some_iff.1 hj).1
   | succ i =>
     simp at h
     rw [List.flatMap_cons, List.getElem?_append_right (by rw [hl, Nat.add_mul]; omega)]
     have := ih i x h j v hj
     rw [hl, show (i + 1) * s + j - s = i * s + j by rw [Nat.add_mul]; omega]
     exact this
theorem flat_len {α : Type} (enc : α → List Value) (s : Nat) (hl : ∀ x, (enc x).length = s) (xs : List α) : (xs.flatMap enc).length = xs.length * s := by
 induction xs with
 | nil => simp
 | cons y ys ih => rw [List.flatMap_cons, List.length_append, ih, hl, List.length_cons, Nat.add_mul]; omega
theorem blkrow_get {α : Type} {enc : α → List Value} {s b E : Nat} {xs : List α} (hm : Asn.blk b (xs.flatMap enc) E ∈ Γ) (hl : ∀ x, (enc x).length = s) {i : Nat} {x : α} (hx : xs[i]? = some x) :
 ∀ w, Hd Γ w → ∀ j v, (enc x)[j]? = some v → w.cell? ⟨b, 0 + i * s + j, none⟩ = some v := fun _ hh j v hj => by
 rw [Nat.zero_add]; exact cell_of_blk (hh _ hm) (flat_get enc s hl xs i x hx j v hj)
theorem row_of_flat {α : Type} {enc : α → List Value} {s : Nat} (hl : ∀ x, (enc x).length = s) {w : World} {b E : Nat} {xs : List α} (h : w.heap[b]? = some (.cells (xs.flatMap enc).toArray E (0, 0))) : RowAt b 0 s (xs.map enc) w := by
 refine row_of_blk h fun i x hx j v hj => ?_
 rw [List.getElem?_map] at hx
 cases hy : xs[i]? with
 | none => simp [hy] at hx
 | some y => simp [hy] at hx; subst hx; exact flat_get enc s hl xs i y hy j v hj
theorem row_of_own {α : Type} {enc : α → List Value} {s : Nat} (hl : ∀ x, (enc x).length = s) {w : World} {b c E m : Nat} {xs : List α} (h : w.ownsRow 0 E s (.slice (some ⟨b, 0, none⟩) m c) m (xs.flatMap enc)) : RowAt b 0 s (xs.map enc) w := by
 intro i x hx j v hj
 rw [List.getElem?_map] at hx
 cases hy : xs[i]? with
 | none => simp [hy] at hx
 | some y =>
   simp [hy] at hx; subst hx
   have h1 := flat_get enc s hl xs i y hy j v hj
   have h2 := h.cells (g := b) rfl _ _ h1
   rw [addr_add] at h2
   rw [← h2]; congr 2; omega
theorem own_some {w : World} {E s : Nat} {v : Value} {m : Nat} {xs : List Value} (h : w.ownsRow 0 E s v m xs) (hn : v ≠ .slice none 0 0) : ∃ b c, v = .slice (some ⟨b, 0, none⟩) m c := by
 rcases h.2 with ⟨rfl, rfl⟩ | ⟨g, cap, cur, rfl, _⟩
 · exact absurd rfl hn
 · exact ⟨_, _, rfl⟩
theorem St.split (h : St n F0 w0 a w L Γ) {X Y Z : Asn} {Γ' : List Asn} (hr : Rep Z Y Γ Γ') (hX : X.ok w) (hY : Y.ok w) (hXF : ∀ b, X.F b → Z.F b) (hYF : ∀ b, Y.F b → Z.F b) (hd : ∀ b, X.F b → ¬ Y.F b) (hm : Z.mine = true) : St n F0 w0 a w L (X :: Γ') := by
 have key : ∀ {Γ Γ' : List Asn}, Rep Z Y Γ Γ' → (∀ V ∈ Γ, V.ok w) → Γ.Pairwise (fun X Y => ∀ b, X.F b → ¬ Y.F b) → (∀ V ∈ Γ', V.ok w) ∧ Γ'.Pairwise (fun X Y => ∀ b, X.F b → ¬ Y.F b) ∧ ∀ V ∈ Γ', ∀ b, X.F b → ¬ V.F b := by
  intro Γ Γ' hr
  induction hr with
  | head =>
    intro hok hp
    have hp' := List.pairwise_cons.1 hp
    refine ⟨fun V hV => ?_, List.pairwise_cons.2 ⟨fun V hV b hb hb' => hp'.1 V hV b (hYF b hb) hb', hp'.2⟩, fun V hV b hb hb' => ?_⟩
    · rcases List.mem_cons.1 hV with rfl | hV
      · exact hY
      · exact hok V (.tail _ hV)
    · rcases List.mem_cons.1 hV with rfl | hV
      · exact hd b hb hb'
      · exact hp'.1 V hV b (hXF b hb) hb'
  | @tail U Γ Γ' hr ih =>
    intro hok hp
    have hp' := List.pairwise_cons.1 hp
    obtain ⟨h1, h2, h3⟩ := ih (fun V hV => hok V (.tail _ hV)) hp'.2
    refine ⟨fun V hV => ?_, List.pairwise_cons.2 ⟨fun V hV b hb hb' => ?_, h2⟩, fun V hV b hb hb' => ?_⟩
    · rcases List.mem_cons.1 hV with rfl | hV
      · exact hok _ (.head _)
      · exact h1 V hV
    · rcases hr.new V hV with rfl | hV
      · exact hp'.1 Z hr.mem b hb (hYF b hb')
      · exact hp'.1 V hV b hb hb'
    · rcases List.mem_cons.1 hV with rfl | hV
      · exact hp'.1 Z hr.mem b hb' (hXF b hb)
      · exact h3 V hV b hb hb'
 obtain ⟨h1, h2, h3⟩ := key hr h.ok h.dis
 refine ⟨h.sl, h.chg, fun V hV => ?_, List.pairwise_cons.2 ⟨h3, h2⟩, fun V hV hmV b hb => ?_⟩
 · rcases List.mem_cons.1 hV with rfl | hV
   · exact hX
   · exact h1 V hV
 · rcases List.mem_cons.1 hV with rfl | hV
   · exact h.mine Z hr.mem hm b (hXF b hb)
   · rcases hr.new V hV with rfl | hV
     · exact h.mine Z hr.mem hm b (hYF b hb)
     · exact h.mine V hV hmV b hb
theorem s_storeO {K : Act → World → Prop} {Q : Exit → Act → World → Prop} {ty : Nat} {pos : String} {af : Array Edge} {g : Option (Nat × Bool)} {T gb j s m c E : Nat} {x y : Operand} {cs : List Value} {v : Value} {Γ' : List Asn} (hS : St n F0 w0 a w L Γ) (hx : ev L x = some (.pointer (some ⟨gb, j, none⟩))) (hy : ev L y = some v) (h1 : isOne v = true)
 (hz : szOf P T = some 1) (hr : Rep (ownA E s (.slice (some ⟨gb, 0, none⟩) m c) m cs) (ownA E s (.slice (some ⟨gb, 0, none⟩) m c) m (cs.set j v)) Γ Γ') (hj : j < m * s) (h : ∀ w', St n F0 w0 a w' L Γ' → K a w') : OW P ⟨none, .store T x y, ty, pos, af, g⟩ a w K Q := by
 have hown : w.ownsRow 0 E s (.slice (some ⟨gb, 0, none⟩) m c) m cs := hS.get hr.mem
 have hcell : w.cell? ⟨gb, j, none⟩ = cs[j]? := World.ownsRow.cellAt hown j hj
 have hjl : j < cs.length := by rw [hown.1]; exact hj
 rw [List.getElem?_eq_getElem hjl] at hcell
 have hfz := World.ownsRow.frozenAt hown j
 have he : (execOp a.eval (⟨none, .store T x y, ty, pos, af, g⟩ : Oper)).run P w = .ok .skip (w.setCell ⟨gb, j, none⟩ v) := by
  simp [execOp, hS.sl.ev hx, hS.sl.ev hy, Instr.storeAt, Instr.sureAddr, storeVar, isOne_cells h1, sizeOf_run hz, storeCells, addr_add, run_store _ _ _ _ _ (isOne_oneCell h1), hcell, hfz]
 refine ⟨?_⟩
 unfold Oper.wp
 rw [he]
 refine h _ (hS.upd hr ((Chg.setCell w ⟨gb, j, none⟩ v).mono (fun i hi => ?_)) (ok_own (World.ownsRow.stored hown j v).1) (fun i hi => .inl hi) rfl)
 show Value.ownBlock _ = some i
 rw [hi]; rfl
theorem flat_set {α : Type} (enc : α → List Value) (s : Nat) (hl : ∀ x, (enc x).length = s) : ∀ (xs : List α) (i : Nat) (x y : α) (j : Nat) (v : Value), xs[i]? = some x → j < s → (enc x).set j v = enc y → (xs.flatMap enc).set (i * s + j) v = (xs.set i y).flatMap enc := by
 intro xs
 induction xs with
 | nil => intro i x y j v h; simp at h
 | cons z zs ih =>
   intro i x y j v h hj he
   cases i with
   | zero =>
     simp at h; subst h
     rw [List.flatMap_cons, Nat.zero_mul, Nat.zero_add, List.set_append_left _ _ (by rw [hl]; exact hj), he]
     rfl
   | succ i =>
     simp at h
     rw [List.flatMap_cons, List.set_append_right _ _ (by rw [hl, Nat.add_mul]; omega)]
     rw [hl, show (i + 1) * s + j - s = i * s + j by rw [Nat.add_mul]; omega]
     rw [ih i x y j v h hj he]
     rfl
def firstIdx {α : Type} (p : α → Bool) (xs : List α) : Int := match xs.findIdx? p with | some i => (i : Int) | none => -1
theorem firstIdx_some {α : Type} {p : α → Bool} {xs : List α} {i : Nat} {x : α} (hx : xs[i]? = some x) (hp : p x = true) (hn : ∀ j, j < i → ∀ y, xs[j]? = some y → p y = false) : firstIdx p xs = (i : Int) := by
 have hlt := (List.getElem?_eq_some_iff.1 hx).1
 have : xs.findIdx? p = some i := by
  rw [List.findIdx?_eq_some_iff_getElem]
  refine ⟨hlt, ?_, fun j hj => ?_⟩
  · rw [(List.getElem?_eq_some_iff.1 hx).2]; exact hp
  · have := hn j hj xs[j] (by simp)
    simp [this]
 simp [firstIdx, this]
theorem firstIdx_none {α : Type} {p : α → Bool} {xs : List α} (hn : ∀ j, j < xs.length → ∀ y, xs[j]? = some y → p y = false) : firstIdx p xs = -1 := by
 have : xs.findIdx? p = none := by
  rw [List.findIdx?_eq_none_iff]
  intro x hx
  obtain ⟨j, hj, rfl⟩ := List.mem_iff_getElem.1 hx
  exact hn j hj _ (by simp)
 simp [firstIdx, this]
theorem firstIdx_cases {α : Type} (p : α → Bool) (xs : List α) : (∃ i x, firstIdx p xs = ((i : Nat) : Int) ∧ xs[i]? = some x ∧ p x = true) ∨ (firstIdx p xs = -1 ∧ ∀ x ∈ xs, p x = false) := by
 unfold firstIdx
 cases h : xs.findIdx? p with
 | none => right; exact ⟨rfl, fun x hx => by simpa using (List.findIdx?_eq_none_iff.1 h) x hx⟩
 | some i =>
   left
   obtain ⟨hlt, hp, _⟩ := List.findIdx?_eq_some_iff_getElem.1 h
   exact ⟨i, xs[i], rfl, by simp, hp⟩
theorem size_pos_of_ne {s : ByteArray} (h : ¬ s = ⟨#[]⟩) : 0 < s.size := by
 rcases Nat.eq_zero_or_pos s.size with h0 | h0
 · exfalso; apply h
   cases s with
   | mk d => simp [ByteArray.size] at h0; subst h0; rfl
 · exact h0
theorem PureC.of_below {f : FuncId} {args : List Value} {v : Value} (h : Calls P f args.toArray w fun e w' => e = .returned v ∧ Below w.heap.size w w') : PureC P f args w v :=
 h.mono fun _ _ ⟨he, hb⟩ => ⟨he, Chg.of_below hb⟩
end
end Go.Proofs.YtheofhegdjjfgaaGreat
namespace Go.Proofs.YtheofhegdjjfgaaGreat
open Go.RowKit
variable {P : Program} {n : Nat} {F0 : Nat → Prop} {w0 w : World} {a : Act} {L : List (Nat × Value)} {Γ : List Asn} {dst : Option Nat}
variable {ty : Nat} {pos : String} {af : Array Edge} {g : Option (Nat × Bool)}
theorem sliceT_elem {T E : TypeId} (h : sliceT P T = some E) : P.underlying T = some (.slice (P.elem T)) ∧ P.elem T = E := by
 have h1 := sliceT_eq h
 have h2 : P.elem T = E := by simp [Program.elem, h1]
 exact ⟨by rw [h2]; exact h1, h2⟩
theorem e_slH {T E s m c : Nat} {p : Option Addr} {x y : Operand} {k : IntKind} {j : Nat} (hx : ev L x = some (.slice p m c)) (hy : ev L y = some (.int k (j : Int))) (hT : sliceT P T = some E) (hs : szOf P E = some s) (hj : j ≤ c) :
 Ex P n a L Γ ⟨dst, .slice T x none (some y) none, ty, pos, af, g⟩ (.slice p j c) := fun hs' w hh => by
 obtain ⟨h1, h2⟩ := sliceT_elem hT
 have h3 := run_sliceAt_slice (P := P) (w := w) T (.slice p m c) none (some (.int k (j : Int))) none h1
 have h4 := run_slice_h (P := P) (w := w) T p m c h1 k (j : Int) (by omega) (by omega)
 rw [h2, sizeOf_run hs] at h4
 have h5 : sliced p 0 j c s = .slice p j c := by
  unfold sliced
  split
  · simp
  · cases p <;> simp [Addr.add]
 simp [execOp, hs'.ev hx, hs'.ev hy, h3, h4, Result.andThen, h5]
theorem St.swap (h : St n F0 w0 a w L Γ) {X Y : Asn} {Γ' : List Asn} (hr : Rep X Y Γ Γ') (hY : Y.ok w) (hF : ∀ b, Y.F b → X.F b) (hm : X.mine = true) : St n F0 w0 a w L Γ' :=
 h.upd hr (Chg.refl _ _) hY (fun b hb => .inl (hF b hb)) hm
theorem own_empty {w : World} {b E s : Nat} (h : w.heap[b]? = some (.cells ([] : List Value).toArray E (0, 0))) : (ownA E s (.slice (some ⟨b, 0, none⟩) 0 0) 0 []).ok w :=
 ok_own ⟨by simp, .inr ⟨b, 0, #[], rfl, Nat.zero_le _, h, Nat.le_refl _, Nat.zero_le _, by simp, by simp⟩⟩
theorem s_makeN1 {K : Act → World → Prop} {Q : Exit → Act → World → Prop} {d : Nat} {T E b : Nat} {z1 : Value} {x y : Operand} {k k' : IntKind} {c : Nat} (hS : St n F0 w0 a w L Γ) (hx : ev L x = some (.int k (c : Int))) (hy : ev L y = some (.int k' (c : Int)))
 (hT : sliceT P T = some E) (hs : szOf P E = some 1) (hb : byOf P E = some b) (hz : zeroOf P E = some [z1]) (hn : Nat.blt d n = true) (hbd : b * c ≤ 281474976710656 ∧ c ≤ 4611686018427387904)
 (h : ∀ b' a' w', St n F0 w0 a' w' ((d, .slice (some ⟨b', 0, none⟩) c c) :: L) (ownA E 1 (.slice (some ⟨b', 0, none⟩) c c) c (List.replicate c z1) :: Γ) → K a' w') : OW P ⟨some d, .makeSlice T x y, ty, pos, af, g⟩ a w K Q := by
 obtain ⟨i, z, hi, hz', hsz, hby, hzc⟩ := info_of hs hb hz
 obtain ⟨w', hrun, hown, hgr⟩ := run_make_full (P := P) w 0 T E i z 1 (sliceT_eq hT) hi hz' hsz k k' c (by rw [hby]; exact hbd.1) (by unfold maxLen; omega) (Nat.zero_le _)
 rw [hzc, Nat.mul_one, toList_madeCells_one] at hown
 have he : (execOp a.eval (⟨some d, .makeSlice T x y, ty, pos, af, g⟩ : Oper)).run P w = .ok (.value (.slice (some ⟨w.heap.size, 0, none⟩) c c)) w' := by
  simp [execOp, hS.sl.ev hx, hS.sl.ev hy, hrun]
 refine ⟨?_⟩
 unfold Oper.wp
 rw [he]
 exact h _ _ _ ((hS.fresh (Chg.grown0 hgr) (ok_own hown) (fun q hq => by
   have : Value.ownBlock (.slice (some ⟨w.heap.size, 0, none⟩) c c) = some q := hq
   simp [Value.ownBlock] at this; omega)).put hn _)
section
variable {Q : Exit → Act → World → Prop} {op : Op}
def ZOp (P : Program) (l : List Oper) (Γs : List Asn) (Z : List Nat) (fuel : Nat) (listed : List Bool) (Q : Exit → Act → World → Prop) (a : Act) (w : World) (i : Nat) : Prop :=
 wpOp P l.toArray Q i (fun a' w' => (Hd Γs w → i ∈ Z ∨ Hd Γs w') ∧ wpZ P l.toArray Q (Hd Γs) Z fuel (listed.toArray.setIfInBounds i true) a' w') a w
def ZAll (P : Program) (l : List Oper) (Γs : List Asn) (Z : List Nat) (fuel : Nat) (listed : List Bool) (Q : Exit → Act → World → Prop) (a : Act) (w : World) : List Nat → Prop
 | [] => True
 | i :: r => ZOp P l Γs Z fuel listed Q a w i ∧ ZAll P l Γs Z fuel listed Q a w r
theorem ZAll.mem {l : List Oper} {Γs : List Asn} {Z : List Nat} {fuel : Nat} {listed : List Bool} : ∀ {js : List Nat}, ZAll P l Γs Z fuel listed Q a w js → ∀ i ∈ js, ZOp P l Γs Z fuel listed Q a w i
 | _ :: _, h, i, hi => by
   rcases List.mem_cons.1 hi with rfl | hi
   · exact h.1
   · exact ZAll.mem h.2 i hi
theorem Z_many {j : Nat} {js : List Nat} {fuel : Nat} {l : List Oper} {Γs : List Asn} {Z : List Nat} {listed : List Bool} (hr : Region.ready .any l.toArray listed.toArray = j :: js) (h : ZAll P l Γs Z fuel listed Q a w (j :: js)) : wpZ P l.toArray Q (Hd Γs) Z (fuel + 1) listed.toArray a w := by
 refine ⟨fun h0 => (by rw [hr] at h0; cases h0), fun i hi => ?_⟩
 rw [hr] at hi
 exact h.mem i hi
theorem Z_op {i fuel : Nat} {l : List Oper} {Γs : List Asn} {Z : List Nat} {listed listed' : List Bool} (hi : l[i]? = some ⟨dst, op, ty, pos, af, g⟩) (hw : Region.wanted ⟨dst, op, ty, pos, af, g⟩ (yielded l.toArray a.tmps) = true) (hl : listed.set i true = listed')
 (h : OW P ⟨dst, op, ty, pos, af, g⟩ a w (fun a' w' => (Hd Γs w → i ∈ Z ∨ Hd Γs w') ∧ wpZ P l.toArray Q (Hd Γs) Z fuel listed'.toArray a' w') Q) : ZOp P l Γs Z fuel listed Q a w i := by
 have hi' : l.toArray[i]? = some ⟨dst, op, ty, pos, af, g⟩ := by simpa using hi
 unfold ZOp wpOp
 simp only [hi']
 rw [if_pos hw]
 subst hl
 refine .inl ?_
 have h := h.h
 simpa using h
end
end Go.Proofs.YtheofhegdjjfgaaGreat
namespace Go.Proofs.YtheofhegdjjfgaaGreat
open Go.RowKit
variable {n : Nat} {F0 : Nat → Prop} {w0 w : World} {a : Act} {L : List (Nat × Value)} {Γ : List Asn}
inductive Rem (X : Asn) : List Asn → List Asn → Prop
 | head {Γ : List Asn} : Rem X (X :: Γ) Γ
 | tail {Y : Asn} {Γ Δ : List Asn} (h : Rem X Γ Δ) : Rem X (Y :: Γ) (Y :: Δ)
inductive Pick : List Asn → List Asn → Prop
 | nil {Γ : List Asn} : Pick Γ []
 | cons {X : Asn} {Γ Δ Γ' : List Asn} (h : Rem X Γ Δ) (h2 : Pick Δ Γ') : Pick Γ (X :: Γ')
theorem Rem.perm {X : Asn} {Γ Δ : List Asn} (h : Rem X Γ Δ) : List.Perm Γ (X :: Δ) := by
 induction h with
 | head => exact List.Perm.refl _
 | tail _ ih => exact (List.Perm.cons _ ih).trans (List.Perm.swap _ _ _)
theorem Pick.perm {Γ Γ' : List Asn} (h : Pick Γ Γ') : ∃ Δ, List.Perm Γ (Γ' ++ Δ) := by
 induction h with
 | nil => exact ⟨_, List.Perm.refl _⟩
 | cons h _ ih =>
   obtain ⟨Δ, hd⟩ := ih
   exact ⟨Δ, h.perm.trans (List.Perm.cons _ hd)⟩
theorem St.pick (h : St n F0 w0 a w L Γ) {Γ' : List Asn} (hp : Pick Γ Γ') : St n F0 w0 a w L Γ' := by
 obtain ⟨Δ, hd⟩ := hp.perm
 exact (h.perm hd.symm).drop (List.sublist_append_left _ _)
end Go.Proofs.YtheofhegdjjfgaaGreat
namespace Go.Proofs.YtheofhegdjjfgaaGreat
open Go.RowKit
variable {n : Nat} {F0 : Nat → Prop} {w0 w : World} {a : Act} {L : List (Nat × Value)} {Γ : List Asn} {X Y : Asn}
theorem okN : ∀ X ∈ ([] : List Asn), X.ok w := fun _ h => by cases h
theorem okC (h : X.ok w) (t : ∀ Y ∈ Γ, Y.ok w) : ∀ Y ∈ X :: Γ, Y.ok w := fun Y hY => by
 rcases List.mem_cons.1 hY with rfl | hY
 · exact h
 · exact t Y hY
theorem mineN : ∀ X ∈ ([] : List Asn), X.mine = true → ∀ b, X.F b → w.heap.size ≤ b ∨ F0 b := fun _ h => by cases h
theorem mineC (h : X.mine = false) (t : ∀ Y ∈ Γ, Y.mine = true → ∀ b, Y.F b → w.heap.size ≤ b ∨ F0 b) : ∀ Y ∈ X :: Γ, Y.mine = true → ∀ b, Y.F b → w.heap.size ≤ b ∨ F0 b := fun Y hY hm b hb => by
 rcases List.mem_cons.1 hY with rfl | hY
 · rw [h] at hm; cases hm
 · exact t Y hY hm b hb
theorem mineO (h : ∀ b, X.F b → F0 b) (t : ∀ Y ∈ Γ, Y.mine = true → ∀ b, Y.F b → w.heap.size ≤ b ∨ F0 b) : ∀ Y ∈ X :: Γ, Y.mine = true → ∀ b, Y.F b → w.heap.size ≤ b ∨ F0 b := fun Y hY hm b hb => by
 rcases List.mem_cons.1 hY with rfl | hY
 · exact .inr (h b hb)
 · exact t Y hY hm b hb
theorem disN : ([] : List Asn).Pairwise (fun X Y => ∀ b, X.F b → ¬ Y.F b) := .nil
theorem dis1 : [X].Pairwise (fun X Y => ∀ b, X.F b → ¬ Y.F b) := List.pairwise_singleton _ _
theorem disC (h : ∀ Y ∈ Γ, ∀ b, X.F b → ¬ Y.F b) (t : Γ.Pairwise (fun X Y => ∀ b, X.F b → ¬ Y.F b)) : (X :: Γ).Pairwise (fun X Y => ∀ b, X.F b → ¬ Y.F b) := List.pairwise_cons.2 ⟨h, t⟩
theorem sepN : ∀ Y ∈ ([] : List Asn), ∀ b, X.F b → ¬ Y.F b := fun _ h => by cases h
theorem sepC (h : ∀ b, X.F b → ¬ Y.F b) (t : ∀ Z ∈ Γ, ∀ b, X.F b → ¬ Z.F b) : ∀ Z ∈ Y :: Γ, ∀ b, X.F b → ¬ Z.F b := fun Z hZ => by
 rcases List.mem_cons.1 hZ with rfl | hZ
 · exact h
 · exact t Z hZ
theorem St.sep (h : St n F0 w0 a w L Γ) {Γ' : List Asn} (hr : Rem X Γ Γ') (hm : Y ∈ Γ') : ∀ b, X.F b → ¬ Y.F b := by
 have hp := hr.perm
 have h2 := (h.perm hp.symm).dis
 exact (List.pairwise_cons.1 h2).1 Y hm
theorem lk_append {E L : List (Nat × Value)} {t : Nat} (h : ∀ q ∈ E, q.1 ≠ t) : lk (E ++ L) t = lk L t := by
 induction E with
 | nil => rfl
 | cons q E ih =>
   obtain ⟨s, u⟩ := q
   have h1 : Nat.beq s t = false := nbeq_no (h _ (.head _))
   show (bif Nat.beq s t then some u else lk (E ++ L) t) = _
   rw [h1]
   exact ih (fun q hq => h q (.tail _ hq))
def freshX (g : Nat) (E L : List (Nat × Value)) : Bool := E.all fun q => Nat.beq q.1 g || L.all fun p => !Nat.beq q.1 p.1
theorem lk_mem {L : List (Nat × Value)} {t : Nat} {v : Value} (h : lk L t = some v) : ∃ p ∈ L, p.1 = t := by
 induction L with
 | nil => cases h
 | cons q L ih =>
   obtain ⟨s, u⟩ := q
   by_cases e : s = t
   · exact ⟨_, .head _, e⟩
   · have h1 : Nat.beq s t = false := nbeq_no e
     have h2 : lk L t = some v := by
      have h3 : (bif Nat.beq s t then some u else lk L t) = some v := h
      rw [h1] at h3; exact h3
     obtain ⟨p, hp, e2⟩ := ih h2
     exact ⟨p, .tail _ hp, e2⟩
theorem St.ends {L' : List (Nat × Value)} (hS : St n F0 w0 a w L' Γ) (m t g : Nat) {u v x y : Value} (h : lk L' t = some u) (he : u = v) (hg : lk L' g = some x) (hg2 : lk (L'.drop m) g = some y) (hxy : x = y) (hk : freshX g (L'.take m) (L'.drop m) = true) :
 St n F0 w0 a w ((t, v) :: L'.drop m) Γ := by
 refine hS.act ⟨hS.sl.size, hS.sl.defers, fun s z hz => ?_⟩
 have hz : (bif Nat.beq t s then some v else lk (L'.drop m) s) = some z := hz
 by_cases e : t = s
 · subst e
   have h1 : Nat.beq t t = true := by simp
   rw [h1] at hz; cases hz
   rw [← he]; exact hS.sl.get _ _ h
 · rw [nbeq_no e] at hz
   have hz : lk (L'.drop m) s = some z := hz
   by_cases e2 : g = s
   · subst e2
     rw [hg2] at hz; cases hz
     rw [← hxy]; exact hS.sl.get _ _ hg
   · refine hS.sl.get _ _ ?_
     obtain ⟨p, hp, e3⟩ := lk_mem hz
     rw [← List.take_append_drop m L', lk_append, hz]
     intro q hq e4
     have h1 := List.all_eq_true.1 hk q hq
     have h2 : Nat.beq q.1 g = false := nbeq_no (by rw [e4]; exact fun e5 => e2 e5.symm)
     rw [h2, Bool.false_or] at h1
     have h3 := List.all_eq_true.1 h1 p hp
     rw [e4, e3] at h3
     have h4 : Nat.beq s s = true := by simp
     rw [h4] at h3; cases h3
theorem L_merge {P : Program} {Q : Exit → Act → World → Prop} {ops : Array Oper} {l : List Oper} (m t : Nat) (v : Value) (_hS : St n F0 w0 a w L Γ) (hseg : (∀ a w, St n F0 w0 a w ((t, v) :: L) Γ → wpList P ops Q (l.drop m) a w) → wpList P ops Q l a w) (hcont : ∀ a w, St n F0 w0 a w ((t, v) :: L) Γ → wpList P ops Q (l.drop m) a w) : wpList P ops Q l a w := hseg hcont
theorem Z_merge {P : Program} {Q : Exit → Act → World → Prop} {ops : Array Oper} {S : World → Prop} {Z : List Nat} {fuel : Nat} {listed : Array Bool} (fuel' : Nat) (listed' : List Bool) (t : Nat) (v : Value) (_hS : St n F0 w0 a w L Γ) (hseg : (∀ a w, St n F0 w0 a w ((t, v) :: L) Γ → wpZ P ops Q S Z fuel' listed'.toArray a w) → wpZ P ops Q S Z fuel listed a w) (hcont : ∀ a w, St n F0 w0 a w ((t, v) :: L) Γ → wpZ P ops Q S Z fuel' listed'.toArray a w) : wpZ P ops Q S Z fuel listed a w := hseg hcont
end Go.Proofs.YtheofhegdjjfgaaGreat
namespace Go.Proofs.YtheofhegdjjfgaaGreat
open Go.RowKit
def mkM : Nat → List (ByteArray × Value) → List MapEntry
 | _, [] => []
 | j, (k, v) :: r => ⟨.string k, v, j⟩ :: mkM (j + 1) r
def smapA (b : Nat) (l : List (ByteArray × Value)) : Asn := .mp b (mkM 0 l) l.length
def idxM : List (ByteArray × Value) → ByteArray → Nat → Option (Nat × Value)
 | [], _, _ => none
 | (k', v) :: r, k, m => if k' = k then some (m, v) else idxM r k (m + 1)
def lkM (l : List (ByteArray × Value)) (k : ByteArray) (z : Value) : Value := match idxM l k 0 with | some (_, v) => v | none => z
def hasM (l : List (ByteArray × Value)) (k : ByteArray) : Bool := (idxM l k 0).isSome
def setM : List (ByteArray × Value) → ByteArray → Value → List (ByteArray × Value)
 | [], k, v => [(k, v)]
 | (k', u) :: r, k, v => if k' = k then (k, v) :: r else (k', u) :: setM r k v
theorem ba_beq (a b : ByteArray) : (a == b) = decide (a = b) := by
 obtain ⟨x⟩ := a
 obtain ⟨y⟩ := b
 show ByteArray.beq _ _ = _
 simp only [ByteArray.beq, ByteArray.mk.injEq]
 by_cases h : x = y
 · subst h; simp
 · simp [h]
theorem find_M (k : ByteArray) (l : List (ByteArray × Value)) : ∀ j m, Instr.findNow .string (.string k) (mkM j l) m = some (idxM l k m) := by
 induction l with
 | nil => intro j m; rfl
 | cons p l ih =>
   obtain ⟨k', v⟩ := p
   intro j m
   simp only [mkM, Instr.findNow, Instr.sameNow, idxM]
   rw [ba_beq]
   by_cases h : k' = k
   · subst h; simp
   · have h2 : decide (k = k') = false := decide_eq_false (fun e => h e.symm)
     rw [h2, if_neg h]
     exact ih _ _
theorem idxM_some {l : List (ByteArray × Value)} {k : ByteArray} {m i : Nat} {v : Value} (h : idxM l k m = some (i, v)) : m ≤ i ∧ l[i - m]? = some (k, v) := by
 induction l generalizing m with
 | nil => cases h
 | cons p l ih =>
   obtain ⟨k', u⟩ := p
   simp only [idxM] at h
   split at h
   · rename_i e; subst e; cases h; simp
   · obtain ⟨h1, h2⟩ := ih h
     refine ⟨by omega, ?_⟩
     rw [show i - m = (i - (m + 1)) + 1 by omega]
     simpa using h2
theorem mkM_get {l : List (ByteArray × Value)} {i j : Nat} {k : ByteArray} {v : Value} (h : l[i]? = some (k, v)) : (mkM j l)[i]? = some ⟨.string k, v, j + i⟩ := by
 induction l generalizing i j with
 | nil => cases h
 | cons p l ih =>
   obtain ⟨k', u⟩ := p
   cases i with
   | zero => simp at h; obtain ⟨rfl, rfl⟩ := h; rfl
   | succ i =>
     have := ih (j := j + 1) (by simpa using h)
     show (mkM (j + 1) l)[i]? = _
     rw [this]; congr 2; omega
theorem mkM_len (l : List (ByteArray × Value)) : ∀ j, (mkM j l).length = l.length := by
 induction l with
 | nil => intro j; rfl
 | cons p l ih => intro j; simp [mkM, ih]
theorem setM_some {l : List (ByteArray × Value)} {k : ByteArray} {m i : Nat} {u : Value} (v : Value) (h : idxM l k m = some (i, u)) : setM l k v = l.set (i - m) (k, v) := by
 induction l generalizing m with
 | nil => cases h
 | cons p l ih =>
   obtain ⟨k', x⟩ := p
   simp only [idxM] at h
   simp only [setM]
   split at h
   · rename_i e; cases h; rw [if_pos e]; simp
   · rename_i e
     rw [if_neg e, ih h]
     have := (idxM_some h).1
     rw [show i - m = (i - (m + 1)) + 1 by omega]; rfl
theorem setM_none {l : List (ByteArray × Value)} {k : ByteArray} {m : Nat} (v : Value) (h : idxM l k m = none) : setM l k v = l ++ [(k, v)] := by
 induction l generalizing m with
 | nil => rfl
 | cons p l ih =>
   obtain ⟨k', x⟩ := p
   simp only [idxM] at h
   simp only [setM]
   split at h
   · cases h
   · rename_i e; rw [if_neg e, ih h]; rfl
theorem mkM_snoc (l : List (ByteArray × Value)) (k : ByteArray) (v : Value) : ∀ j, mkM j (l ++ [(k, v)]) = mkM j l ++ [⟨.string k, v, j + l.length⟩] := by
 induction l with
 | nil => intro j; rfl
 | cons p l ih => intro j; simp only [List.cons_append, mkM, ih, List.length_cons]; congr 4; omega
theorem mkM_set {l : List (ByteArray × Value)} {i : Nat} {k : ByteArray} {u v : Value} : ∀ j, l[i]? = some (k, u) → mkM j (l.set i (k, v)) = (mkM j l).modify i fun e => { e with key := .string k, val := v } := by
 induction l generalizing i with
 | nil => intro j h; cases h
 | cons p l ih =>
   obtain ⟨k', x⟩ := p
   intro j h
   cases i with
   | zero => rfl
   | succ i => simp only [List.set_cons_succ, mkM, List.modify_succ_cons]; rw [ih (j + 1) (by simpa using h)]
def zvOf (P : Program) (t : TypeId) : Option Value := (P.info? t).bind (·.zero)
section
variable {P : Program} {n : Nat} {F0 : Nat → Prop} {w0 : World} {a : Act} {w : World} {L : List (Nat × Value)} {Γ : List Asn}
variable {K : Act → World → Prop} {Q : Exit → Act → World → Prop} {d ty : Nat} {dst : Option Tmp} {pos : String} {af : Array Edge} {g : Option (Nat × Bool)}
theorem zv_run {t : TypeId} {z : Value} (h : zvOf P t = some z) (w : World) : (zeroValue t).run P w = .ok z w := by
 unfold zvOf at h
 cases hi : P.info? t with
 | none => simp [hi] at h
 | some i => simp [hi] at h; simp [zeroValue, typeInfo, hi, h]
theorem e_lookupS {T Kt Et b : Nat} {x y : Operand} {k : ByteArray} {l : List (ByteArray × Value)} {z : Value} (hx : ev L x = some (.map (some b))) (hy : ev L y = some (.string k))
 (hT : mapT P T = some (Kt, Et)) (hD : P.underlying Kt = some .string) (hz : zvOf P Et = some z) (hm : smapA b l ∈ Γ) : Ex P n a L Γ ⟨dst, .lookup T x y false, ty, pos, af, g⟩ (lkM l k z) := fun hs w hh => by
 have hb : w.heap[b]? = some (.map (mkM 0 l).toArray l.length) := hh _ hm
 have hck := checkKey_plain (P := P) (w := w) hD rfl ((mkM 0 l).isEmpty) 9999 (.string k)
 have hf := find_M k l 0 0
 simp only [execOp, hs.ev hx, hs.ev hy, Instr.lookup, Sem.run_bind, underlying, run_program, Result.andThen_ok, mapT_eq hT, Sem.run_pure]
 unfold lkM
 cases hi : idxM l k 0 with
 | none => rw [hi] at hf; simp [getObj, Sem.run, hb, hck, Instr.findKey, underlying, hD, hf, zv_run hz]
 | some p => obtain ⟨i, v⟩ := p; rw [hi] at hf; simp [getObj, Sem.run, hb, hck, Instr.findKey, underlying, hD, hf]
theorem e_lookupC {T Kt Et b : Nat} {x y : Operand} {k : ByteArray} {l : List (ByteArray × Value)} {z : Value} (hx : ev L x = some (.map (some b))) (hy : ev L y = some (.string k))
 (hT : mapT P T = some (Kt, Et)) (hD : P.underlying Kt = some .string) (hz : zvOf P Et = some z) (hm : ∀ w, Hd Γ w → w.heap[b]? = some (.map (mkM 0 l).toArray l.length)) : Ex P n a L Γ ⟨dst, .lookup T x y false, ty, pos, af, g⟩ (lkM l k z) := fun hs w hh => by
 have hb : w.heap[b]? = some (.map (mkM 0 l).toArray l.length) := hm w hh
 have hck := checkKey_plain (P := P) (w := w) hD rfl ((mkM 0 l).isEmpty) 9999 (.string k)
 have hf := find_M k l 0 0
 simp only [execOp, hs.ev hx, hs.ev hy, Instr.lookup, Sem.run_bind, underlying, run_program, Result.andThen_ok, mapT_eq hT, Sem.run_pure]
 unfold lkM
 cases hi : idxM l k 0 with
 | none => rw [hi] at hf; simp [getObj, Sem.run, hb, hck, Instr.findKey, underlying, hD, hf, zv_run hz]
 | some p => obtain ⟨i, v⟩ := p; rw [hi] at hf; simp [getObj, Sem.run, hb, hck, Instr.findKey, underlying, hD, hf]
theorem e_lookupT {T Kt Et b : Nat} {x y : Operand} {k : ByteArray} {l : List (ByteArray × Value)} {z : Value} (hx : ev L x = some (.map (some b))) (hy : ev L y = some (.string k))
 (hT : mapT P T = some (Kt, Et)) (hD : P.underlying Kt = some .string) (hz : zvOf P Et = some z) (hm : smapA b l ∈ Γ) : Ex P n a L Γ ⟨dst, .lookup T x y true, ty, pos, af, g⟩ (.tuple [lkM l k z, .bool (hasM l k)].toArray) := fun hs w hh => by
 have hb : w.heap[b]? = some (.map (mkM 0 l).toArray l.length) := hh _ hm
 have hck := checkKey_plain (P := P) (w := w) hD rfl ((mkM 0 l).isEmpty) 9999 (.string k)
 have hf := find_M k l 0 0
 simp only [execOp, hs.ev hx, hs.ev hy, Instr.lookup, Sem.run_bind, underlying, run_program, Result.andThen_ok, mapT_eq hT, Sem.run_pure]
 unfold lkM hasM
 cases hi : idxM l k 0 with
 | none => rw [hi] at hf; simp [getObj, Sem.run, hb, hck, Instr.findKey, underlying, hD, hf, zv_run hz]
 | some p => obtain ⟨i, v⟩ := p; rw [hi] at hf; simp [getObj, Sem.run, hb, hck, Instr.findKey, underlying, hD, hf]
theorem s_mapUp {T Kt Et b : Nat} {x y z : Operand} {k : ByteArray} {v : Value} {l : List (ByteArray × Value)} {Γ' : List Asn} (hS : St n F0 w0 a w L Γ) (hx : ev L x = some (.map (some b))) (hy : ev L y = some (.string k)) (hz : ev L z = some v)
 (hT : mapT P T = some (Kt, Et)) (hD : P.underlying Kt = some .string) (hr : Rep (smapA b l) (smapA b (setM l k v)) Γ Γ')
 (h : ∀ w', St n F0 w0 a w' L Γ' → K a w') : OW P ⟨none, .mapUpdate T x y z, ty, pos, af, g⟩ a w K Q := by
 have hb : w.heap[b]? = some (.map (mkM 0 l).toArray l.length) := hS.get hr.mem
 have hlt := (Array.getElem?_eq_some_iff.1 hb).1
 have hck := checkKey_plain (P := P) (w := w) hD rfl false 9999 (.string k)
 have hf := find_M k l 0 0
 have hres : ∃ w', (execOp a.eval (⟨none, .mapUpdate T x y z, ty, pos, af, g⟩ : Oper)).run P w = .ok .skip w' ∧ w' = { w with heap := w.heap.setIfInBounds b (.map (mkM 0 (setM l k v)).toArray (setM l k v).length) } := by
  refine ⟨_, ?_, rfl⟩
  simp only [execOp, hS.sl.ev hx, hS.sl.ev hy, hS.sl.ev hz, Instr.mapUpdate, Sem.run_bind, underlying, run_program, Result.andThen_ok, mapT_eq hT, Sem.run_pure]
  cases hi : idxM l k 0 with
  | none =>
    rw [hi] at hf
    rw [setM_none v hi, mkM_snoc]
    simp [getObj, Sem.run, hb, hck, Instr.findKey, underlying, hD, hf, setObj]
  | some p =>
    obtain ⟨i, u⟩ := p
    rw [hi] at hf
    obtain ⟨_, hg⟩ := idxM_some hi
    rw [Nat.sub_zero] at hg
    have hsm := setM_some v hi
    rw [Nat.sub_zero] at hsm
    have hmk := mkM_get (j := 0) hg
    rw [hsm, mkM_set (u := u) 0 hg]
    simp [getObj, Sem.run, hb, hck, Instr.findKey, underlying, hD, hf, setObj, Instr.keyThatStays, hmk, Instr.sameBits, ba_beq]
 obtain ⟨w', he, rfl⟩ := hres
 refine ⟨?_⟩
 unfold Oper.wp
 rw [he]
 refine h _ (hS.upd hr ⟨rfl, rfl, rfl, by simp, fun q hq hne => ?_⟩ ⟨fun q hq => ?_, fun w' hw => ?_⟩ (fun q hq => .inl hq) rfl)
 · have : b ≠ q := fun e => hne e.symm
   simp [Array.getElem?_setIfInBounds_ne this]
 · obtain rfl : q = b := hq; simpa using hlt
 · show w'.heap[b]? = _
   rw [hw _ rfl]; simp [hlt]
theorem s_makeMapS {T : TypeId} (hS : St n F0 w0 a w L Γ) (hn : Nat.blt d n = true)
 (h : ∀ a' w' b, St n F0 w0 a' w' ((d, .map (some b)) :: L) (smapA b [] :: Γ) → K a' w') : OW P ⟨some d, .makeMap T none, ty, pos, af, g⟩ a w K Q :=
 s_makeMap hS hn h
end
end Go.Proofs.YtheofhegdjjfgaaGreat
namespace Go.Proofs.YtheofhegdjjfgaaGreat
open Go.RowKit
section
variable {P : Program} {n : Nat} {F0 : Nat → Prop} {w0 w : World} {a : Act} {L : List (Nat × Value)} {Γ : List Asn} {Q : Exit → Act → World → Prop} {d : Nat} {ops : Array Oper} {rest : List Oper}
variable {op : Op} {ty : TypeId} {pos : String} {af : Array Edge} {g : Option (Nat × Bool)}
def tf (a b : Nat) : List Bool := List.replicate a true ++ List.replicate b false
theorem L_e {v : Value} (hS : St n F0 w0 a w L Γ) (he : Ex P n a L Γ ⟨some d, op, ty, pos, af, none⟩ v) (hn : Nat.blt d n = true)
 (h : ∀ a', St n F0 w0 a' w ((d, v) :: L) Γ → wpList P ops Q rest a' w) : wpList P ops Q (⟨some d, op, ty, pos, af, none⟩ :: rest) a w := L_op (s_e hS he hn h)
theorem L_ge {l : List Oper} {j t : Nat} {b : Bool} {v : Value} (hS : St n F0 w0 a w L Γ) (hj : opDst l j = some t) (hv : lk L t = some (.bool b)) (he : Ex P n a L Γ ⟨some d, op, ty, pos, af, some (j, b)⟩ v) (hn : Nat.blt d n = true)
 (h : ∀ a', St n F0 w0 a' w ((d, v) :: L) Γ → wpList P l.toArray Q rest a' w) : wpList P l.toArray Q (⟨some d, op, ty, pos, af, some (j, b)⟩ :: rest) a w := L_go hS hj hv (s_e hS he hn h)
theorem e_pk {dst : Option Nat} {g : Option (Nat × Bool)} {c x y : Operand} {b : Bool} {v : Value} (hc : ev L c = some (.bool b)) (hv : ev L (bif b then x else y) = some v) : Ex P n a L Γ ⟨dst, .pick c x y, ty, pos, af, g⟩ v := by
 cases b
 · exact e_pick_f hc hv
 · exact e_pick_t hc hv
def okZ (l : List Oper) (m : List Bool) (i : Nat) : Bool := Region.noSelect l.toArray && Region.free .any l.toArray m.toArray i && (Region.ready .any l.toArray m.toArray).contains i
def okY (l : List Oper) (m : List Bool) (Z : List Nat) (i : Nat) : Bool := okZ l m i && (closedB l.toArray m.toArray && waits l.toArray Z i)
theorem okZ_of {l : List Oper} {m : List Bool} {i : Nat} (h : okZ l m i = true) : Region.noSelect l.toArray = true ∧ Region.free .any l.toArray m.toArray i = true ∧ (Region.ready .any l.toArray m.toArray).contains i = true := by
 unfold okZ at h
 rw [Bool.and_eq_true, Bool.and_eq_true] at h
 exact ⟨h.1.1, h.1.2, h.2⟩
theorem okY_of {l : List Oper} {m : List Bool} {Z : List Nat} {i : Nat} (h : okY l m Z i = true) : okZ l m i = true ∧ closedB l.toArray m.toArray = true ∧ waits l.toArray Z i = true := by
 unfold okY at h
 rw [Bool.and_eq_true, Bool.and_eq_true] at h
 exact ⟨h.1, h.2.1, h.2.2⟩
theorem Zt0 (i : Nat) (m : List Bool) {fuel : Nat} {l : List Oper} {Γs : List Asn} {Z : List Nat} {listed : List Bool} {v : Value} (hS : St n F0 w0 a w L Γ) (hi : l[i]? = some ⟨some d, op, ty, pos, af, g⟩) (hw : ∀ a, Sl n a L → Region.wanted ⟨some d, op, ty, pos, af, g⟩ (yielded l.toArray a.tmps) = true) (he : Ex P n a L [] ⟨some d, op, ty, pos, af, g⟩ v)
 (hl : listed.set i true = m) (hk : okZ l listed i = true) (hn : Nat.blt d n = true)
 (h : ∀ a', St n F0 w0 a' w ((d, v) :: L) Γ → wpZ P l.toArray Q (Hd Γs) Z fuel m.toArray a' w) (hQ : ∀ c a w, Q (.panic c) (a.put (some d) v) w → Q (.panic c) a w := by exact fun _ _ _ h => h) : wpZ P l.toArray Q (Hd Γs) Z (fuel + 1) listed.toArray a w :=
 Z_take0 hS hi hw he hl (okZ_of hk).1 (okZ_of hk).2.1 (okZ_of hk).2.2 hQ hn h
theorem Zt (i : Nat) (m : List Bool) {fuel : Nat} {l : List Oper} {Γs : List Asn} {Z : List Nat} {listed : List Bool} {v : Value} (hS : St n F0 w0 a w L Γ) (hi : l[i]? = some ⟨some d, op, ty, pos, af, g⟩) (hw : ∀ a, Sl n a L → Region.wanted ⟨some d, op, ty, pos, af, g⟩ (yielded l.toArray a.tmps) = true) (he : Ex P n a L Γs ⟨some d, op, ty, pos, af, g⟩ v)
 (hl : listed.set i true = m) (hk : okY l listed Z i = true) (hsub : ∀ X ∈ Γs, X ∈ Γ) (hn : Nat.blt d n = true)
 (h : ∀ a', St n F0 w0 a' w ((d, v) :: L) Γ → wpZ P l.toArray Q (Hd Γs) Z fuel m.toArray a' w) (hQ : ∀ c a w, Q (.panic c) (a.put (some d) v) w → Q (.panic c) a w := by exact fun _ _ _ h => h) : wpZ P l.toArray Q (Hd Γs) Z (fuel + 1) listed.toArray a w :=
 Z_take hS hi hw he hl (okZ_of (okY_of hk).1).1 (okZ_of (okY_of hk).1).2.1 (okZ_of (okY_of hk).1).2.2 (okY_of hk).2.1 (okY_of hk).2.2 hsub hQ hn h
theorem Zn_t (i : Nat) (m : List Bool) {j t fuel : Nat} {l : List Oper} {Γs : List Asn} {Z : List Nat} {listed : List Bool} (hS : St n F0 w0 a w L Γ) (hi : l[i]? = some ⟨some d, op, ty, pos, af, some (j, true)⟩) (hj : opDst l j = some t) (hv : lk L t = some (.bool false))
 (hl : listed.set i true = m) (hk : okZ l listed i = true) (hn : Nat.blt d n = true)
 (h : ∀ a', St n F0 w0 a' w ((d, undef) :: L) Γ → wpZ P l.toArray Q (Hd Γs) Z fuel m.toArray a' w) (hQ : ∀ c a w, Q (.panic c) (a.put (some d) undef) w → Q (.panic c) a w := by exact fun _ _ _ h => h) : wpZ P l.toArray Q (Hd Γs) Z (fuel + 1) listed.toArray a w :=
 Z_none_t hS hi hj hv hl (okZ_of hk).1 (okZ_of hk).2.1 (okZ_of hk).2.2 hQ hn h
theorem Zn_f (i : Nat) (m : List Bool) {j t fuel : Nat} {l : List Oper} {Γs : List Asn} {Z : List Nat} {listed : List Bool} (hS : St n F0 w0 a w L Γ) (hi : l[i]? = some ⟨some d, op, ty, pos, af, some (j, false)⟩) (hj : opDst l j = some t) (hv : lk L t = some (.bool true))
 (hl : listed.set i true = m) (hk : okZ l listed i = true) (hn : Nat.blt d n = true)
 (h : ∀ a', St n F0 w0 a' w ((d, undef) :: L) Γ → wpZ P l.toArray Q (Hd Γs) Z fuel m.toArray a' w) (hQ : ∀ c a w, Q (.panic c) (a.put (some d) undef) w → Q (.panic c) a w := by exact fun _ _ _ h => h) : wpZ P l.toArray Q (Hd Γs) Z (fuel + 1) listed.toArray a w :=
 Z_none_f hS hi hj hv hl (okZ_of hk).1 (okZ_of hk).2.1 (okZ_of hk).2.2 hQ hn h
theorem Zn_u (i : Nat) (m : List Bool) {j t fuel : Nat} {b : Bool} {l : List Oper} {Γs : List Asn} {Z : List Nat} {listed : List Bool} (hS : St n F0 w0 a w L Γ) (hi : l[i]? = some ⟨some d, op, ty, pos, af, some (j, b)⟩) (hj : opDst l j = some t) (hv : lk L t = some undef)
 (hl : listed.set i true = m) (hk : okZ l listed i = true) (hn : Nat.blt d n = true)
 (h : ∀ a', St n F0 w0 a' w ((d, undef) :: L) Γ → wpZ P l.toArray Q (Hd Γs) Z fuel m.toArray a' w) (hQ : ∀ c a w, Q (.panic c) (a.put (some d) undef) w → Q (.panic c) a w := by exact fun _ _ _ h => h) : wpZ P l.toArray Q (Hd Γs) Z (fuel + 1) listed.toArray a w :=
 Z_none_u hS hi hj hv hl (okZ_of hk).1 (okZ_of hk).2.1 (okZ_of hk).2.2 hQ hn h
inductive Run (P : Program) (n : Nat) (l : List Oper) (Γ : List Asn) : List (Nat × Value) → List Oper → List (Nat × Value) → List Oper → Prop
 | n {L : List (Nat × Value)} {os : List Oper} : Run P n l Γ L os L os
 | c {L L' : List (Nat × Value)} {d : Nat} {op : Op} {ty : TypeId} {pos : String} {af : Array Edge} {v : Value} {os os' : List Oper} (he : ∀ {a : Act}, Ex P n a L Γ ⟨some d, op, ty, pos, af, none⟩ v) (h : Run P n l Γ ((d, v) :: L) os L' os') (hn : Nat.blt d n = true := by rfl) : Run P n l Γ L (⟨some d, op, ty, pos, af, none⟩ :: os) L' os'
 | m {L L' : List (Nat × Value)} {d : Nat} {x : Operand} {ty : TypeId} {pos : String} {af : Array Edge} {v : Value} {os os' : List Oper} (hx : ev L x = some v) (h : Run P n l Γ ((d, v) :: L) os L' os') (hn : Nat.blt d n = true := by rfl) : Run P n l Γ L (⟨some d, .move x, ty, pos, af, none⟩ :: os) L' os'
 | a {L L' : List (Nat × Value)} {d : Nat} {x : Operand} {ty : TypeId} {pos : String} {af : Array Edge} {v : Value} {os os' : List Oper} (hx : ev L x = some v) (h : Run P n l Γ ((d, v) :: L) os L' os') (hn : Nat.blt d n = true := by rfl) : Run P n l Γ L (⟨some d, .assign x, ty, pos, af, none⟩ :: os) L' os'
 | g {L L' : List (Nat × Value)} {d j t : Nat} {b : Bool} {op : Op} {ty : TypeId} {pos : String} {af : Array Edge} {v : Value} {os os' : List Oper} (hj : opDst l j = some t) (hv : lk L t = some (.bool b)) (he : ∀ {a : Act}, Ex P n a L Γ ⟨some d, op, ty, pos, af, some (j, b)⟩ v) (h : Run P n l Γ ((d, v) :: L) os L' os') (hn : Nat.blt d n = true := by rfl) : Run P n l Γ L (⟨some d, op, ty, pos, af, some (j, b)⟩ :: os) L' os'
 | t {L L' : List (Nat × Value)} {d j t : Nat} {op : Op} {ty : TypeId} {pos : String} {af : Array Edge} {os os' : List Oper} (hj : opDst l j = some t) (hv : lk L t = some (.bool false)) (h : Run P n l Γ ((d, undef) :: L) os L' os') (hn : Nat.blt d n = true := by rfl) : Run P n l Γ L (⟨some d, op, ty, pos, af, some (j, true)⟩ :: os) L' os'
 | f {L L' : List (Nat × Value)} {d j t : Nat} {op : Op} {ty : TypeId} {pos : String} {af : Array Edge} {os os' : List Oper} (hj : opDst l j = some t) (hv : lk L t = some (.bool true)) (h : Run P n l Γ ((d, undef) :: L) os L' os') (hn : Nat.blt d n = true := by rfl) : Run P n l Γ L (⟨some d, op, ty, pos, af, some (j, false)⟩ :: os) L' os'
theorem Rn {l os os' : List Oper} {L' : List (Nat × Value)} (hS : St n F0 w0 a w L Γ) (h : Run P n l Γ L os L' os') (hk : ∀ a', St n F0 w0 a' w L' Γ → wpList P l.toArray Q os' a' w) : wpList P l.toArray Q os a w := by
 induction h generalizing a with
 | n => exact hk a hS
 | c he _ hn ih => exact L_e hS he hn fun a' hS' => ih hS' hk
 | m hx _ hn ih => exact L_e hS (e_move hx) hn fun a' hS' => ih hS' hk
 | a hx _ hn ih => exact L_e hS (e_assign hx) hn fun a' hS' => ih hS' hk
 | g hj hv he _ hn ih => exact L_ge hS hj hv he hn fun a' hS' => ih hS' hk
 | t hj hv _ hn ih => exact L_skip_t hS hj hv hn fun a' hS' => ih hS' hk
 | f hj hv _ hn ih => exact L_skip_f hS hj hv hn fun a' hS' => ih hS' hk
inductive RunZ (P : Program) (n : Nat) (l : List Oper) (Z : List Nat) (Γs : List Asn) : List (Nat × Value) → List Bool → Nat → List (Nat × Value) → List Bool → Nat → Prop
 | n {L : List (Nat × Value)} {m : List Bool} {k : Nat} : RunZ P n l Z Γs L m k L m k
 | o (i : Nat) (m : List Bool) {L L' : List (Nat × Value)} {ld m' : List Bool} {k k' d : Nat} {op : Op} {ty : TypeId} {pos : String} {af : Array Edge} {g : Option (Nat × Bool)} {v : Value} (hi : l[i]? = some ⟨some d, op, ty, pos, af, g⟩) (hw : ∀ a, Sl n a L → Region.wanted ⟨some d, op, ty, pos, af, g⟩ (yielded l.toArray a.tmps) = true) (he : ∀ {a : Act}, Ex P n a L [] ⟨some d, op, ty, pos, af, g⟩ v) (hl : ld.set i true = m)
  (h : RunZ P n l Z Γs ((d, v) :: L) m k L' m' k') (hk : okZ l ld i = true := by kernel_rfl) (hn : Nat.blt d n = true := by rfl) : RunZ P n l Z Γs L ld (k + 1) L' m' k'
 | y (i : Nat) (m : List Bool) {L L' : List (Nat × Value)} {ld m' : List Bool} {k k' d : Nat} {op : Op} {ty : TypeId} {pos : String} {af : Array Edge} {g : Option (Nat × Bool)} {v : Value} (hi : l[i]? = some ⟨some d, op, ty, pos, af, g⟩) (hw : ∀ a, Sl n a L → Region.wanted ⟨some d, op, ty, pos, af, g⟩ (yielded l.toArray a.tmps) = true) (he : ∀ {a : Act}, Ex P n a L Γs ⟨some d, op, ty, pos, af, g⟩ v) (hl : ld.set i true = m)
  (h : RunZ P n l Z Γs ((d, v) :: L) m k L' m' k') (hk : okY l ld Z i = true := by kernel_rfl) (hn : Nat.blt d n = true := by rfl) : RunZ P n l Z Γs L ld (k + 1) L' m' k'
 | t (i : Nat) (m : List Bool) {L L' : List (Nat × Value)} {ld m' : List Bool} {k k' d j t : Nat} {op : Op} {ty : TypeId} {pos : String} {af : Array Edge} (hi : l[i]? = some ⟨some d, op, ty, pos, af, some (j, true)⟩) (hj : opDst l j = some t) (hv : lk L t = some (.bool false)) (hl : ld.set i true = m)
  (h : RunZ P n l Z Γs ((d, undef) :: L) m k L' m' k') (hk : okZ l ld i = true := by kernel_rfl) (hn : Nat.blt d n = true := by rfl) : RunZ P n l Z Γs L ld (k + 1) L' m' k'
 | f (i : Nat) (m : List Bool) {L L' : List (Nat × Value)} {ld m' : List Bool} {k k' d j t : Nat} {op : Op} {ty : TypeId} {pos : String} {af : Array Edge} (hi : l[i]? = some ⟨some d, op, ty, pos, af, some (j, false)⟩) (hj : opDst l j = some t) (hv : lk L t = some (.bool true)) (hl : ld.set i true = m)
  (h : RunZ P n l Z Γs ((d, undef) :: L) m k L' m' k') (hk : okZ l ld i = true := by kernel_rfl) (hn : Nat.blt d n = true := by rfl) : RunZ P n l Z Γs L ld (k + 1) L' m' k'
 | u (i : Nat) (m : List Bool) {L L' : List (Nat × Value)} {ld m' : List Bool} {k k' d j t : Nat} {b : Bool} {op : Op} {ty : TypeId} {pos : String} {af : Array Edge} (hi : l[i]? = some ⟨some d, op, ty, pos, af, some (j, b)⟩) (hj : opDst l j = some t) (hv : lk L t = some undef) (hl : ld.set i true = m)
  (h : RunZ P n l Z Γs ((d, undef) :: L) m k L' m' k') (hk : okZ l ld i = true := by kernel_rfl) (hn : Nat.blt d n = true := by rfl) : RunZ P n l Z Γs L ld (k + 1) L' m' k'
theorem Rz {l : List Oper} {Z : List Nat} {Γs : List Asn} {ld m : List Bool} {k k' : Nat} {L' : List (Nat × Value)} (hS : St n F0 w0 a w L Γ) (hs : ∀ X ∈ Γs, X ∈ Γ) (h : RunZ P n l Z Γs L ld k L' m k') (hc : ∀ a', St n F0 w0 a' w L' Γ → wpZ P l.toArray Q (Hd Γs) Z k' m.toArray a' w) (hQ : ∀ d v c a w, Q (.panic c) (a.put (some d) v) w → Q (.panic c) a w := by exact fun _ _ _ _ _ h => h) : wpZ P l.toArray Q (Hd Γs) Z k ld.toArray a w := by
 induction h generalizing a with
 | n => exact hc a hS
 | o i m hi hw he hl _ hk hn ih => exact Zt0 i m hS hi hw he hl hk hn (fun a' hS' => ih hS' hc) (hQ _ _)
 | y i m hi hw he hl _ hk hn ih => exact Zt i m hS hi hw he hl hk hs hn (fun a' hS' => ih hS' hc) (hQ _ _)
 | t i m hi hj hv hl _ hk hn ih => exact Zn_t i m hS hi hj hv hl hk hn (fun a' hS' => ih hS' hc) (hQ _ _)
 | f i m hi hj hv hl _ hk hn ih => exact Zn_f i m hS hi hj hv hl hk hn (fun a' hS' => ih hS' hc) (hQ _ _)
 | u i m hi hj hv hl _ hk hn ih => exact Zn_u i m hS hi hj hv hl hk hn (fun a' hS' => ih hS' hc) (hQ _ _)
theorem Ry {l : List Oper} {Z : List Nat} {Γs : List Asn} {ld m : List Bool} {k k' : Nat} {L' : List (Nat × Value)} (hS : St n F0 w0 a w L Γ) (h : RunZ P n l Z [] L ld k L' m k') (hc : ∀ a', St n F0 w0 a' w L' Γ → wpZ P l.toArray Q (Hd Γs) Z k' m.toArray a' w) (hQ : ∀ d v c a w, Q (.panic c) (a.put (some d) v) w → Q (.panic c) a w := by exact fun _ _ _ _ _ h => h) : wpZ P l.toArray Q (Hd Γs) Z k ld.toArray a w := by
 induction h generalizing a with
 | n => exact hc a hS
 | o i m hi hw he hl _ hk hn ih => exact Zt0 i m hS hi hw he hl hk hn (fun a' hS' => ih hS' hc) (hQ _ _)
 | y i m hi hw he hl _ hk hn ih => exact Zt0 i m hS hi hw he hl (okY_of hk).1 hn (fun a' hS' => ih hS' hc) (hQ _ _)
 | t i m hi hj hv hl _ hk hn ih => exact Zn_t i m hS hi hj hv hl hk hn (fun a' hS' => ih hS' hc) (hQ _ _)
 | f i m hi hj hv hl _ hk hn ih => exact Zn_f i m hS hi hj hv hl hk hn (fun a' hS' => ih hS' hc) (hQ _ _)
 | u i m hi hj hv hl _ hk hn ih => exact Zn_u i m hS hi hj hv hl hk hn (fun a' hS' => ih hS' hc) (hQ _ _)
end
section
variable {P : Program} {n : Nat} {F0 : Nat → Prop} {w0 w : World} {a : Act} {L : List (Nat × Value)} {Γ : List Asn} {Q : Exit → Act → World → Prop}
variable {op : Op} {ty : TypeId} {pos : String} {af : Array Edge} {g : Option (Nat × Bool)} {dst : Option Nat}
theorem Zo (i : Nat) (m : List Bool) {fuel : Nat} {l : List Oper} {Γs : List Asn} {Z : List Nat} {listed : List Bool} (hS : St n F0 w0 a w L Γ) (hi : l[i]? = some ⟨dst, op, ty, pos, af, g⟩) (hw : ∀ a, Sl n a L → Region.wanted ⟨dst, op, ty, pos, af, g⟩ (yielded l.toArray a.tmps) = true) (hl : listed.set i true = m)
 (h : OW P ⟨dst, op, ty, pos, af, g⟩ a w (fun a' w' => (Hd Γs w → i ∈ Z ∨ Hd Γs w') ∧ wpZ P l.toArray Q (Hd Γs) Z fuel m.toArray a' w') Q) (hr : Region.ready .any l.toArray listed.toArray = [i] := by kernel_rfl) : wpZ P l.toArray Q (Hd Γs) Z (fuel + 1) listed.toArray a w :=
 Z_one hi (hw a hS.sl) hl hr h
theorem St.gg {X : Asn} (h : St n F0 w0 a w L Γ) (hm : X ∈ Γ := by repeat constructor) : X.φ w := h.get hm
end
abbrev nL := @L_nil
abbrev nT := @n_then
abbrev cS := @c_seq
abbrev cR := @c_region
abbrev wS := @wp_skip
abbrev wB := @wp_block
abbrev wN := @want_none
end Go.Proofs.YtheofhegdjjfgaaGreat
namespace Go.Proofs.YtheofhegdjjfgaaGreat
open Go.RowKit
theorem ty_sl22 : sliceT Tryz.prog 22 = some 38 := by kernel_rfl
theorem ty_sz38 : szOf Tryz.prog 38 = some 8 := by kernel_rfl
theorem cf7 : CallsTo Tryz.prog 7 := callsTo Tryz.func7 (by kernel_rfl) (by kernel_rfl)
theorem ty_sc4 : scalarT Tryz.prog 4 = true := by kernel_rfl
theorem ty_u4 : Tryz.prog.underlying 4 = some (.bool) := by kernel_rfl
theorem ty_sz9 : szOf Tryz.prog 9 = some 1 := by kernel_rfl
theorem ty_sc9 : scalarT Tryz.prog 9 = true := by kernel_rfl
theorem ty_z9 : zeroOf Tryz.prog 9 = some [.string ⟨#[]⟩] := by kernel_rfl
theorem ty_u9 : Tryz.prog.underlying 9 = some (.string) := by kernel_rfl
theorem ty_sz3 : szOf Tryz.prog 3 = some 1 := by kernel_rfl
theorem ty_sc3 : scalarT Tryz.prog 3 = true := by kernel_rfl
theorem ty_z3 : zeroOf Tryz.prog 3 = some [.int .i64 0] := by kernel_rfl
theorem ty_u3 : Tryz.prog.underlying 3 = some (.int .i64) := by kernel_rfl
theorem cf8 : CallsTo Tryz.prog 8 := callsTo Tryz.func8 (by kernel_rfl) (by kernel_rfl)
theorem cf9 : CallsTo Tryz.prog 9 := callsTo Tryz.func9 (by kernel_rfl) (by kernel_rfl)
theorem ty_sz26 : szOf Tryz.prog 26 = some 1 := by kernel_rfl
theorem ty_sc26 : scalarT Tryz.prog 26 = true := by kernel_rfl
theorem ty_z26 : zeroOf Tryz.prog 26 = some [.int .i64 0] := by kernel_rfl
theorem cf10 : CallsTo Tryz.prog 10 := callsTo Tryz.func10 (by kernel_rfl) (by kernel_rfl)
theorem ty_u25 : Tryz.prog.underlying 25 = some (.pointer (Tryz.prog.pointee 25)) := by kernel_rfl
theorem ty_sz35 : szOf Tryz.prog 35 = some 4 := by kernel_rfl
theorem ty_st35 : structT Tryz.prog 35 = true := by kernel_rfl
theorem ty_pl35 : placesOf Tryz.prog 35 = some [(0, 1), (1, 1), (2, 1), (3, 1)] := by kernel_rfl
theorem ty_z35 : zeroOf Tryz.prog 35 = some [.string ⟨#[]⟩, .string ⟨#[]⟩, .int .i64 0, .bool false] := by kernel_rfl
theorem ty_fo38_2 : fieldOff Tryz.prog 38 2 = some 2 := by kernel_rfl
theorem ty_fo35_0 : fieldOff Tryz.prog 35 0 = some 0 := by kernel_rfl
theorem ty_fo38_1 : fieldOff Tryz.prog 38 1 = some 1 := by kernel_rfl
theorem cf13 : CallsTo Tryz.prog 13 := callsTo Tryz.func13 (by kernel_rfl) (by kernel_rfl)
theorem ty_sl41 : sliceT Tryz.prog 41 = some 117 := by kernel_rfl
theorem ty_sz117 : szOf Tryz.prog 117 = some 3 := by kernel_rfl
theorem cf14 : CallsTo Tryz.prog 14 := callsTo Tryz.func14 (by kernel_rfl) (by kernel_rfl)
theorem cf15 : CallsTo Tryz.prog 15 := callsTo Tryz.func15 (by kernel_rfl) (by kernel_rfl)
theorem cf16 : CallsTo Tryz.prog 16 := callsTo Tryz.func16 (by kernel_rfl) (by kernel_rfl)
theorem cf17 : CallsTo Tryz.prog 17 := callsTo Tryz.func17 (by kernel_rfl) (by kernel_rfl)
theorem ty_u44 : Tryz.prog.underlying 44 = some (.pointer (Tryz.prog.pointee 44)) := by kernel_rfl
theorem ty_sl48 : sliceT Tryz.prog 48 = some 35 := by kernel_rfl
theorem ty_by35 : byOf Tryz.prog 35 = some 48 := by kernel_rfl
theorem ty_fo35_1 : fieldOff Tryz.prog 35 1 = some 1 := by kernel_rfl
theorem ty_ft35_1 : fieldTy Tryz.prog 35 1 = some 9 := by kernel_rfl
theorem ty_fo35_2 : fieldOff Tryz.prog 35 2 = some 2 := by kernel_rfl
theorem ty_fo35_3 : fieldOff Tryz.prog 35 3 = some 3 := by kernel_rfl
theorem ty_sz51 : szOf Tryz.prog 51 = some 4 := by kernel_rfl
theorem ty_st51 : structT Tryz.prog 51 = true := by kernel_rfl
theorem ty_pl51 : placesOf Tryz.prog 51 = some [(0, 1), (1, 1), (2, 1), (3, 1)] := by kernel_rfl
theorem ty_z51 : zeroOf Tryz.prog 51 = some [.string ⟨#[]⟩, .string ⟨#[]⟩, .int .i64 0, .bool false] := by kernel_rfl
theorem cf18 : CallsTo Tryz.prog 18 := callsTo Tryz.func18 (by kernel_rfl) (by kernel_rfl)
theorem ty_fo38_0 : fieldOff Tryz.prog 38 0 = some 0 := by kernel_rfl
theorem ty_fo38_3 : fieldOff Tryz.prog 38 3 = some 6 := by kernel_rfl
theorem ty_sc36 : scalarT Tryz.prog 36 = true := by kernel_rfl
theorem ty_sl36 : sliceT Tryz.prog 36 = some 82 := by kernel_rfl
theorem ty_sz82 : szOf Tryz.prog 82 = some 3 := by kernel_rfl
theorem ty_st82 : structT Tryz.prog 82 = true := by kernel_rfl
theorem ty_pl82 : placesOf Tryz.prog 82 = some [(0, 1), (1, 1), (2, 1)] := by kernel_rfl
theorem ty_z82 : zeroOf Tryz.prog 82 = some [.string ⟨#[]⟩, .int .i64 0, .int .i64 0] := by kernel_rfl
theorem ty_by82 : byOf Tryz.prog 82 = some 32 := by kernel_rfl
theorem ty_fo38_4 : fieldOff Tryz.prog 38 4 = some 7 := by kernel_rfl
theorem cf20 : CallsTo Tryz.prog 20 := callsTo Tryz.func20 (by kernel_rfl) (by kernel_rfl)
theorem ty_sc54 : scalarT Tryz.prog 54 = true := by kernel_rfl
theorem ty_sl54 : sliceT Tryz.prog 54 = some 124 := by kernel_rfl
theorem ty_sz124 : szOf Tryz.prog 124 = some 3 := by kernel_rfl
theorem ty_st124 : structT Tryz.prog 124 = true := by kernel_rfl
theorem ty_pl124 : placesOf Tryz.prog 124 = some [(0, 1), (1, 1), (2, 1)] := by kernel_rfl
theorem ty_z124 : zeroOf Tryz.prog 124 = some [.string ⟨#[]⟩, .int .i64 0, .int .i64 0] := by kernel_rfl
theorem ty_by124 : byOf Tryz.prog 124 = some 32 := by kernel_rfl
theorem cf19 : CallsTo Tryz.prog 19 := callsTo Tryz.func19 (by kernel_rfl) (by kernel_rfl)
theorem cf21 : CallsTo Tryz.prog 21 := callsTo Tryz.func21 (by kernel_rfl) (by kernel_rfl)
theorem cf22 : CallsTo Tryz.prog 22 := callsTo Tryz.func22 (by kernel_rfl) (by kernel_rfl)
theorem cf23 : CallsTo Tryz.prog 23 := callsTo Tryz.func23 (by kernel_rfl) (by kernel_rfl)
theorem cf24 : CallsTo Tryz.prog 24 := callsTo Tryz.func24 (by kernel_rfl) (by kernel_rfl)
theorem cf25 : CallsTo Tryz.prog 25 := callsTo Tryz.func25 (by kernel_rfl) (by kernel_rfl)
theorem ty_pl66 : placesOf Tryz.prog 66 = some [(0, 1), (1, 1), (2, 1), (3, 1)] := by kernel_rfl
theorem ty_z66 : zeroOf Tryz.prog 66 = some [.string ⟨#[]⟩, .slice none 0 0, .slice none 0 0, .int .i64 0] := by kernel_rfl
theorem ty_sz64 : szOf Tryz.prog 64 = some 1 := by kernel_rfl
theorem ty_sc64 : scalarT Tryz.prog 64 = true := by kernel_rfl
theorem ty_sl64 : sliceT Tryz.prog 64 = some 104 := by kernel_rfl
theorem ty_sz104 : szOf Tryz.prog 104 = some 4 := by kernel_rfl
theorem ty_pl104 : placesOf Tryz.prog 104 = some [(0, 1), (1, 1), (2, 1), (3, 1)] := by kernel_rfl
theorem ty_z104 : zeroOf Tryz.prog 104 = some [.int .i64 0, .int .i64 0, .string ⟨#[]⟩, .slice none 0 0] := by kernel_rfl
theorem ty_by104 : byOf Tryz.prog 104 = some 56 := by kernel_rfl
theorem ty_fo66_2 : fieldOff Tryz.prog 66 2 = some 2 := by kernel_rfl
theorem cf27 : CallsTo Tryz.prog 27 := callsTo Tryz.func27 (by kernel_rfl) (by kernel_rfl)
theorem cf28 : CallsTo Tryz.prog 28 := callsTo Tryz.func28 (by kernel_rfl) (by kernel_rfl)
theorem ty_sz71 : szOf Tryz.prog 71 = some 3 := by kernel_rfl
theorem ty_st71 : structT Tryz.prog 71 = true := by kernel_rfl
theorem ty_pl71 : placesOf Tryz.prog 71 = some [(0, 1), (1, 1), (2, 1)] := by kernel_rfl
theorem ty_z71 : zeroOf Tryz.prog 71 = some [.string ⟨#[]⟩, .int .i64 0, .int .i64 0] := by kernel_rfl
theorem cf29 : CallsTo Tryz.prog 29 := callsTo Tryz.func29 (by kernel_rfl) (by kernel_rfl)
theorem ty_fo71_1 : fieldOff Tryz.prog 71 1 = some 1 := by kernel_rfl
theorem ty_fo71_2 : fieldOff Tryz.prog 71 2 = some 2 := by kernel_rfl
theorem ty_sz78 : szOf Tryz.prog 78 = some 2 := by kernel_rfl
theorem ty_st78 : structT Tryz.prog 78 = true := by kernel_rfl
theorem ty_pl78 : placesOf Tryz.prog 78 = some [(0, 1), (1, 1)] := by kernel_rfl
theorem ty_z78 : zeroOf Tryz.prog 78 = some [.int .i64 0, .string ⟨#[]⟩] := by kernel_rfl
theorem cf30 : CallsTo Tryz.prog 30 := callsTo Tryz.func30 (by kernel_rfl) (by kernel_rfl)
theorem cf32 : CallsTo Tryz.prog 32 := callsTo Tryz.func32 (by kernel_rfl) (by kernel_rfl)
theorem ty_fo82_0 : fieldOff Tryz.prog 82 0 = some 0 := by kernel_rfl
theorem cf34 : CallsTo Tryz.prog 34 := callsTo Tryz.func34 (by kernel_rfl) (by kernel_rfl)
theorem ty_sc84 : scalarT Tryz.prog 84 = true := by kernel_rfl
theorem ty_mp84 : mapT Tryz.prog 84 = some (9, 35) := by kernel_rfl
theorem ty_zv35 : zvOf Tryz.prog 35 = some (.agg #[.string ⟨#[]⟩, .string ⟨#[]⟩, .int .i64 0, .bool false]) := by kernel_rfl
theorem ty_sc85 : scalarT Tryz.prog 85 = true := by kernel_rfl
theorem ty_mp85 : mapT Tryz.prog 85 = some (9, 149) := by kernel_rfl
theorem ty_sz149 : szOf Tryz.prog 149 = some 4 := by kernel_rfl
theorem ty_st149 : structT Tryz.prog 149 = true := by kernel_rfl
theorem ty_pl149 : placesOf Tryz.prog 149 = some [(0, 2), (2, 2)] := by kernel_rfl
theorem ty_z149 : zeroOf Tryz.prog 149 = some [.int .u64 0, .int .u64 0, .int .u64 0, .int .u64 0] := by kernel_rfl
theorem ty_zv149 : zvOf Tryz.prog 149 = some (.agg #[.int .u64 0, .int .u64 0, .int .u64 0, .int .u64 0]) := by kernel_rfl
theorem ty_pl88 : placesOf Tryz.prog 88 = some [(0, 1), (1, 1), (2, 1), (3, 1), (4, 1)] := by kernel_rfl
theorem ty_z88 : zeroOf Tryz.prog 88 = some [.string ⟨#[]⟩, .map none, .slice none 0 0, .map none, .int .i64 0] := by kernel_rfl
theorem cf35 : CallsTo Tryz.prog 35 := callsTo Tryz.func35 (by kernel_rfl) (by kernel_rfl)
theorem cf36 : CallsTo Tryz.prog 36 := callsTo Tryz.func36 (by kernel_rfl) (by kernel_rfl)
theorem ty_fo82_1 : fieldOff Tryz.prog 82 1 = some 1 := by kernel_rfl
theorem cf37 : CallsTo Tryz.prog 37 := callsTo Tryz.func37 (by kernel_rfl) (by kernel_rfl)
theorem cf38 : CallsTo Tryz.prog 38 := callsTo Tryz.func38 (by kernel_rfl) (by kernel_rfl)
theorem ty_sz92 : szOf Tryz.prog 92 = some 3 := by kernel_rfl
theorem ty_st92 : structT Tryz.prog 92 = true := by kernel_rfl
theorem ty_pl92 : placesOf Tryz.prog 92 = some [(0, 1), (1, 1), (2, 1)] := by kernel_rfl
theorem ty_z92 : zeroOf Tryz.prog 92 = some [.string ⟨#[]⟩, .int .i64 0, .int .i64 0] := by kernel_rfl
theorem ty_fo92_1 : fieldOff Tryz.prog 92 1 = some 1 := by kernel_rfl
theorem ty_fo92_2 : fieldOff Tryz.prog 92 2 = some 2 := by kernel_rfl
theorem ty_fo66_3 : fieldOff Tryz.prog 66 3 = some 3 := by kernel_rfl
theorem cf39 : CallsTo Tryz.prog 39 := callsTo Tryz.func39 (by kernel_rfl) (by kernel_rfl)
theorem ty_fo66_0 : fieldOff Tryz.prog 66 0 = some 0 := by kernel_rfl
theorem ty_sz86 : szOf Tryz.prog 86 = some 1 := by kernel_rfl
theorem ty_sc86 : scalarT Tryz.prog 86 = true := by kernel_rfl
theorem ty_sl86 : sliceT Tryz.prog 86 = some 102 := by kernel_rfl
theorem ty_sz102 : szOf Tryz.prog 102 = some 4 := by kernel_rfl
theorem ty_st102 : structT Tryz.prog 102 = true := by kernel_rfl
theorem ty_pl102 : placesOf Tryz.prog 102 = some [(0, 1), (1, 1), (2, 1), (3, 1)] := by kernel_rfl
theorem ty_z102 : zeroOf Tryz.prog 102 = some [.int .i64 0, .int .i64 0, .string ⟨#[]⟩, .slice none 0 0] := by kernel_rfl
theorem ty_by102 : byOf Tryz.prog 102 = some 56 := by kernel_rfl
theorem ty_fo102_3 : fieldOff Tryz.prog 102 3 = some 3 := by kernel_rfl
theorem cf45 : CallsTo Tryz.prog 45 := callsTo Tryz.func45 (by kernel_rfl) (by kernel_rfl)
theorem cf46 : CallsTo Tryz.prog 46 := callsTo Tryz.func46 (by kernel_rfl) (by kernel_rfl)
theorem ty_sz63 : szOf Tryz.prog 63 = some 1 := by kernel_rfl
theorem ty_sc63 : scalarT Tryz.prog 63 = true := by kernel_rfl
theorem ty_sl63 : sliceT Tryz.prog 63 = some 51 := by kernel_rfl
theorem ty_by51 : byOf Tryz.prog 51 = some 48 := by kernel_rfl
theorem ty_fo66_1 : fieldOff Tryz.prog 66 1 = some 1 := by kernel_rfl
theorem ty_fo51_0 : fieldOff Tryz.prog 51 0 = some 0 := by kernel_rfl
theorem ty_fo51_1 : fieldOff Tryz.prog 51 1 = some 1 := by kernel_rfl
theorem ty_fo51_2 : fieldOff Tryz.prog 51 2 = some 2 := by kernel_rfl
theorem ty_fo51_3 : fieldOff Tryz.prog 51 3 = some 3 := by kernel_rfl
theorem cf47 : CallsTo Tryz.prog 47 := callsTo Tryz.func47 (by kernel_rfl) (by kernel_rfl)
theorem cf48 : CallsTo Tryz.prog 48 := callsTo Tryz.func48 (by kernel_rfl) (by kernel_rfl)
theorem cf49 : CallsTo Tryz.prog 49 := callsTo Tryz.func49 (by kernel_rfl) (by kernel_rfl)
theorem cf50 : CallsTo Tryz.prog 50 := callsTo Tryz.func50 (by kernel_rfl) (by kernel_rfl)
theorem ty_fo117_0 : fieldOff Tryz.prog 117 0 = some 0 := by kernel_rfl
theorem ty_pl120 : placesOf Tryz.prog 120 = some [(0, 1), (1, 1)] := by kernel_rfl
theorem ty_z120 : zeroOf Tryz.prog 120 = some [.string ⟨#[]⟩, .slice none 0 0] := by kernel_rfl
theorem ty_fo117_1 : fieldOff Tryz.prog 117 1 = some 1 := by kernel_rfl
theorem ty_fo117_2 : fieldOff Tryz.prog 117 2 = some 2 := by kernel_rfl
theorem cf51 : CallsTo Tryz.prog 51 := callsTo Tryz.func51 (by kernel_rfl) (by kernel_rfl)
theorem cf52 : CallsTo Tryz.prog 52 := callsTo Tryz.func52 (by kernel_rfl) (by kernel_rfl)
theorem cf53 : CallsTo Tryz.prog 53 := callsTo Tryz.func53 (by kernel_rfl) (by kernel_rfl)
theorem ty_fo82_2 : fieldOff Tryz.prog 82 2 = some 2 := by kernel_rfl
theorem cf54 : CallsTo Tryz.prog 54 := callsTo Tryz.func54 (by kernel_rfl) (by kernel_rfl)
theorem ty_pl128 : placesOf Tryz.prog 128 = some [(0, 1), (1, 1), (2, 1)] := by kernel_rfl
theorem ty_z128 : zeroOf Tryz.prog 128 = some [.string ⟨#[]⟩, .map none, .int .i64 0] := by kernel_rfl
theorem ty_fo128_0 : fieldOff Tryz.prog 128 0 = some 0 := by kernel_rfl
theorem ty_sz131 : szOf Tryz.prog 131 = some 2 := by kernel_rfl
theorem ty_st131 : structT Tryz.prog 131 = true := by kernel_rfl
theorem ty_pl131 : placesOf Tryz.prog 131 = some [(0, 1), (1, 1)] := by kernel_rfl
theorem ty_z131 : zeroOf Tryz.prog 131 = some [.int .u64 0, .int .u64 0] := by kernel_rfl
theorem cf55 : CallsTo Tryz.prog 55 := callsTo Tryz.func55 (by kernel_rfl) (by kernel_rfl)
theorem cf57 : CallsTo Tryz.prog 57 := callsTo Tryz.func57 (by kernel_rfl) (by kernel_rfl)
theorem cf56 : CallsTo Tryz.prog 56 := callsTo Tryz.func56 (by kernel_rfl) (by kernel_rfl)
theorem cf58 : CallsTo Tryz.prog 58 := callsTo Tryz.func58 (by kernel_rfl) (by kernel_rfl)
theorem ty_fo120_0 : fieldOff Tryz.prog 120 0 = some 0 := by kernel_rfl
theorem ty_sz139 : szOf Tryz.prog 139 = some 2 := by kernel_rfl
theorem ty_st139 : structT Tryz.prog 139 = true := by kernel_rfl
theorem ty_pl139 : placesOf Tryz.prog 139 = some [(0, 1), (1, 1)] := by kernel_rfl
theorem ty_z139 : zeroOf Tryz.prog 139 = some [.bool false, .slice none 0 0] := by kernel_rfl
theorem ty_sz141 : szOf Tryz.prog 141 = some 2 := by kernel_rfl
theorem ty_st141 : structT Tryz.prog 141 = true := by kernel_rfl
theorem ty_pl141 : placesOf Tryz.prog 141 = some [(0, 1), (1, 1)] := by kernel_rfl
theorem ty_z141 : zeroOf Tryz.prog 141 = some [.int .i64 0, .string ⟨#[]⟩] := by kernel_rfl
theorem cf59 : CallsTo Tryz.prog 59 := callsTo Tryz.func59 (by kernel_rfl) (by kernel_rfl)
theorem cf62 : CallsTo Tryz.prog 62 := callsTo Tryz.func62 (by kernel_rfl) (by kernel_rfl)
theorem cf61 : CallsTo Tryz.prog 61 := callsTo Tryz.func61 (by kernel_rfl) (by kernel_rfl)
theorem cf60 : CallsTo Tryz.prog 60 := callsTo Tryz.func60 (by kernel_rfl) (by kernel_rfl)
theorem cf63 : CallsTo Tryz.prog 63 := callsTo Tryz.func63 (by kernel_rfl) (by kernel_rfl)
theorem cf64 : CallsTo Tryz.prog 64 := callsTo Tryz.func64 (by kernel_rfl) (by kernel_rfl)
theorem ty_fo88_2 : fieldOff Tryz.prog 88 2 = some 2 := by kernel_rfl
theorem ty_fo124_0 : fieldOff Tryz.prog 124 0 = some 0 := by kernel_rfl
theorem ty_fo124_1 : fieldOff Tryz.prog 124 1 = some 1 := by kernel_rfl
theorem ty_fo124_2 : fieldOff Tryz.prog 124 2 = some 2 := by kernel_rfl
theorem cf65 : CallsTo Tryz.prog 65 := callsTo Tryz.func65 (by kernel_rfl) (by kernel_rfl)
theorem cf66 : CallsTo Tryz.prog 66 := callsTo Tryz.func66 (by kernel_rfl) (by kernel_rfl)
theorem cf69 : CallsTo Tryz.prog 69 := callsTo Tryz.func69 (by kernel_rfl) (by kernel_rfl)
theorem ty_fo88_1 : fieldOff Tryz.prog 88 1 = some 1 := by kernel_rfl
theorem cf71 : CallsTo Tryz.prog 71 := callsTo Tryz.func71 (by kernel_rfl) (by kernel_rfl)
theorem cf70 : CallsTo Tryz.prog 70 := callsTo Tryz.func70 (by kernel_rfl) (by kernel_rfl)
theorem ty_sz154 : szOf Tryz.prog 154 = some 1 := by kernel_rfl
theorem ty_sc154 : scalarT Tryz.prog 154 = true := by kernel_rfl
theorem ty_sl154 : sliceT Tryz.prog 154 = some 9 := by kernel_rfl
theorem ty_by9 : byOf Tryz.prog 9 = some 16 := by kernel_rfl
theorem cf72 : CallsTo Tryz.prog 72 := callsTo Tryz.func72 (by kernel_rfl) (by kernel_rfl)
theorem ty_fo88_3 : fieldOff Tryz.prog 88 3 = some 3 := by kernel_rfl
theorem cf68 : CallsTo Tryz.prog 68 := callsTo Tryz.func68 (by kernel_rfl) (by kernel_rfl)
theorem cf73 : CallsTo Tryz.prog 73 := callsTo Tryz.func73 (by kernel_rfl) (by kernel_rfl)
theorem ty_fo78_0 : fieldOff Tryz.prog 78 0 = some 0 := by kernel_rfl
theorem ty_fo78_1 : fieldOff Tryz.prog 78 1 = some 1 := by kernel_rfl
theorem cf74 : CallsTo Tryz.prog 74 := callsTo Tryz.func74 (by kernel_rfl) (by kernel_rfl)
theorem ty_sc137 : scalarT Tryz.prog 137 = true := by kernel_rfl
theorem ty_sl137 : sliceT Tryz.prog 137 = some 3 := by kernel_rfl
theorem ty_by3 : byOf Tryz.prog 3 = some 8 := by kernel_rfl
theorem ty_fo139_1 : fieldOff Tryz.prog 139 1 = some 1 := by kernel_rfl
theorem cf75 : CallsTo Tryz.prog 75 := callsTo Tryz.func75 (by kernel_rfl) (by kernel_rfl)
theorem ty_fo88_4 : fieldOff Tryz.prog 88 4 = some 4 := by kernel_rfl
theorem cf76 : CallsTo Tryz.prog 76 := callsTo Tryz.func76 (by kernel_rfl) (by kernel_rfl)
theorem cf78 : CallsTo Tryz.prog 78 := callsTo Tryz.func78 (by kernel_rfl) (by kernel_rfl)
theorem ty_sl162 : sliceT Tryz.prog 162 = some 166 := by kernel_rfl
theorem ty_sz166 : szOf Tryz.prog 166 = some 2 := by kernel_rfl
theorem ty_st166 : structT Tryz.prog 166 = true := by kernel_rfl
theorem ty_pl166 : placesOf Tryz.prog 166 = some [(0, 1), (1, 1)] := by kernel_rfl
theorem ty_z166 : zeroOf Tryz.prog 166 = some [.string ⟨#[]⟩, .int .i64 0] := by kernel_rfl
theorem cf77 : CallsTo Tryz.prog 77 := callsTo Tryz.func77 (by kernel_rfl) (by kernel_rfl)
theorem ty_fo166_1 : fieldOff Tryz.prog 166 1 = some 1 := by kernel_rfl
theorem cf79 : CallsTo Tryz.prog 79 := callsTo Tryz.func79 (by kernel_rfl) (by kernel_rfl)
theorem cf80 : CallsTo Tryz.prog 80 := callsTo Tryz.func80 (by kernel_rfl) (by kernel_rfl)
theorem cf81 : CallsTo Tryz.prog 81 := callsTo Tryz.func81 (by kernel_rfl) (by kernel_rfl)
theorem cf82 : CallsTo Tryz.prog 82 := callsTo Tryz.func82 (by kernel_rfl) (by kernel_rfl)
theorem ty_fo88_0 : fieldOff Tryz.prog 88 0 = some 0 := by kernel_rfl
theorem ty_fo102_1 : fieldOff Tryz.prog 102 1 = some 1 := by kernel_rfl
theorem ty_fo104_1 : fieldOff Tryz.prog 104 1 = some 1 := by kernel_rfl
theorem ty_fo104_3 : fieldOff Tryz.prog 104 3 = some 3 := by kernel_rfl
theorem ty_sc126 : scalarT Tryz.prog 126 = true := by kernel_rfl
theorem ty_mp126 : mapT Tryz.prog 126 = some (9, 178) := by kernel_rfl
theorem ty_sc178 : scalarT Tryz.prog 178 = true := by kernel_rfl
theorem ty_sl178 : sliceT Tryz.prog 178 = some 179 := by kernel_rfl
theorem ty_sz179 : szOf Tryz.prog 179 = some 3 := by kernel_rfl
theorem ty_st179 : structT Tryz.prog 179 = true := by kernel_rfl
theorem ty_pl179 : placesOf Tryz.prog 179 = some [(0, 1), (1, 1), (2, 1)] := by kernel_rfl
theorem ty_z179 : zeroOf Tryz.prog 179 = some [.string ⟨#[]⟩, .int .i64 0, .int .i64 0] := by kernel_rfl
theorem ty_by179 : byOf Tryz.prog 179 = some 32 := by kernel_rfl
theorem ty_zv178 : zvOf Tryz.prog 178 = some (.slice none 0 0) := by kernel_rfl
theorem cf87 : CallsTo Tryz.prog 87 := callsTo Tryz.func87 (by kernel_rfl) (by kernel_rfl)
theorem ty_fo128_1 : fieldOff Tryz.prog 128 1 = some 1 := by kernel_rfl
theorem ty_fo179_1 : fieldOff Tryz.prog 179 1 = some 1 := by kernel_rfl
theorem ty_fo128_2 : fieldOff Tryz.prog 128 2 = some 2 := by kernel_rfl
theorem cf88 : CallsTo Tryz.prog 88 := callsTo Tryz.func88 (by kernel_rfl) (by kernel_rfl)
theorem ty_fo179_2 : fieldOff Tryz.prog 179 2 = some 2 := by kernel_rfl
theorem cf89 : CallsTo Tryz.prog 89 := callsTo Tryz.func89 (by kernel_rfl) (by kernel_rfl)
theorem cf90 : CallsTo Tryz.prog 90 := callsTo Tryz.func90 (by kernel_rfl) (by kernel_rfl)
theorem cf91 : CallsTo Tryz.prog 91 := callsTo Tryz.func91 (by kernel_rfl) (by kernel_rfl)
theorem cf92 : CallsTo Tryz.prog 92 := callsTo Tryz.func92 (by kernel_rfl) (by kernel_rfl)
theorem ty_sz118 : szOf Tryz.prog 118 = some 1 := by kernel_rfl
theorem ty_sc118 : scalarT Tryz.prog 118 = true := by kernel_rfl
theorem ty_sl118 : sliceT Tryz.prog 118 = some 186 := by kernel_rfl
theorem ty_sz186 : szOf Tryz.prog 186 = some 3 := by kernel_rfl
theorem ty_pl186 : placesOf Tryz.prog 186 = some [(0, 1), (1, 1), (2, 1)] := by kernel_rfl
theorem ty_z186 : zeroOf Tryz.prog 186 = some [.string ⟨#[]⟩, .int .i64 0, .int .i64 0] := by kernel_rfl
theorem ty_by186 : byOf Tryz.prog 186 = some 32 := by kernel_rfl
theorem ty_fo120_1 : fieldOff Tryz.prog 120 1 = some 1 := by kernel_rfl
theorem ty_fo186_0 : fieldOff Tryz.prog 186 0 = some 0 := by kernel_rfl
theorem ty_fo186_1 : fieldOff Tryz.prog 186 1 = some 1 := by kernel_rfl
theorem ty_sz5 : szOf Tryz.prog 5 = some 1 := by kernel_rfl
theorem ty_z5 : zeroOf Tryz.prog 5 = some [.int .u8 0] := by kernel_rfl
theorem ty_u5 : Tryz.prog.underlying 5 = some (.int .u8) := by kernel_rfl
theorem cf93 : CallsTo Tryz.prog 93 := callsTo Tryz.func93 (by kernel_rfl) (by kernel_rfl)
theorem ty_sc129 : scalarT Tryz.prog 129 = true := by kernel_rfl
theorem ty_u129 : Tryz.prog.underlying 129 = some (.int .u64) := by kernel_rfl
theorem ty_fo131_1 : fieldOff Tryz.prog 131 1 = some 1 := by kernel_rfl
theorem ty_fo131_0 : fieldOff Tryz.prog 131 0 = some 0 := by kernel_rfl
theorem cf95 : CallsTo Tryz.prog 95 := callsTo Tryz.func95 (by kernel_rfl) (by kernel_rfl)
theorem cf96 : CallsTo Tryz.prog 96 := callsTo Tryz.func96 (by kernel_rfl) (by kernel_rfl)
theorem ty_fo141_1 : fieldOff Tryz.prog 141 1 = some 1 := by kernel_rfl
theorem cf97 : CallsTo Tryz.prog 97 := callsTo Tryz.func97 (by kernel_rfl) (by kernel_rfl)
theorem ty_fo141_0 : fieldOff Tryz.prog 141 0 = some 0 := by kernel_rfl
theorem cf98 : CallsTo Tryz.prog 98 := callsTo Tryz.func98 (by kernel_rfl) (by kernel_rfl)
theorem cf99 : CallsTo Tryz.prog 99 := callsTo Tryz.func99 (by kernel_rfl) (by kernel_rfl)
theorem cf100 : CallsTo Tryz.prog 100 := callsTo Tryz.func100 (by kernel_rfl) (by kernel_rfl)
theorem ty_fo139_0 : fieldOff Tryz.prog 139 0 = some 0 := by kernel_rfl
theorem cf101 : CallsTo Tryz.prog 101 := callsTo Tryz.func101 (by kernel_rfl) (by kernel_rfl)
theorem cf102 : CallsTo Tryz.prog 102 := callsTo Tryz.func102 (by kernel_rfl) (by kernel_rfl)
theorem cf103 : CallsTo Tryz.prog 103 := callsTo Tryz.func103 (by kernel_rfl) (by kernel_rfl)
theorem ty_fo149_0 : fieldOff Tryz.prog 149 0 = some 0 := by kernel_rfl
theorem cf104 : CallsTo Tryz.prog 104 := callsTo Tryz.func104 (by kernel_rfl) (by kernel_rfl)
theorem ty_fo149_1 : fieldOff Tryz.prog 149 1 = some 2 := by kernel_rfl
theorem cf105 : CallsTo Tryz.prog 105 := callsTo Tryz.func105 (by kernel_rfl) (by kernel_rfl)
theorem cf106 : CallsTo Tryz.prog 106 := callsTo Tryz.func106 (by kernel_rfl) (by kernel_rfl)
theorem cf107 : CallsTo Tryz.prog 107 := callsTo Tryz.func107 (by kernel_rfl) (by kernel_rfl)
theorem cf108 : CallsTo Tryz.prog 108 := callsTo Tryz.func108 (by kernel_rfl) (by kernel_rfl)
theorem cf109 : CallsTo Tryz.prog 109 := callsTo Tryz.func109 (by kernel_rfl) (by kernel_rfl)
theorem ty_fo166_0 : fieldOff Tryz.prog 166 0 = some 0 := by kernel_rfl
theorem ty_mp198 : mapT Tryz.prog 198 = some (9, 3) := by kernel_rfl
theorem ty_zv3 : zvOf Tryz.prog 3 = some (.int .i64 0) := by kernel_rfl
theorem cf110 : CallsTo Tryz.prog 110 := callsTo Tryz.func110 (by kernel_rfl) (by kernel_rfl)
theorem cf113 : CallsTo Tryz.prog 113 := callsTo Tryz.func113 (by kernel_rfl) (by kernel_rfl)
theorem ty_fo186_2 : fieldOff Tryz.prog 186 2 = some 2 := by kernel_rfl
theorem cf120 : CallsTo Tryz.prog 120 := callsTo Tryz.func120 (by kernel_rfl) (by kernel_rfl)
theorem cf122 : CallsTo Tryz.prog 122 := callsTo Tryz.func122 (by kernel_rfl) (by kernel_rfl)
theorem cf121 : CallsTo Tryz.prog 121 := callsTo Tryz.func121 (by kernel_rfl) (by kernel_rfl)
theorem cf123 : CallsTo Tryz.prog 123 := callsTo Tryz.func123 (by kernel_rfl) (by kernel_rfl)
theorem cf126 : CallsTo Tryz.prog 126 := callsTo Tryz.func126 (by kernel_rfl) (by kernel_rfl)
theorem cf132 : CallsTo Tryz.prog 132 := callsTo Tryz.func132 (by kernel_rfl) (by kernel_rfl)
theorem cf131 : CallsTo Tryz.prog 131 := callsTo Tryz.func131 (by kernel_rfl) (by kernel_rfl)
theorem cf133 : CallsTo Tryz.prog 133 := callsTo Tryz.func133 (by kernel_rfl) (by kernel_rfl)
theorem ty_sl218 : sliceT Tryz.prog 218 = some 5 := by kernel_rfl
theorem cf147 : CallsTo Tryz.prog 147 := callsTo Tryz.func147 (by kernel_rfl) (by kernel_rfl)
theorem cf155 : CallsTo Tryz.prog 155 := callsTo Tryz.func155 (by kernel_rfl) (by kernel_rfl)
def okc (m : Nat) : Prop := (97 ≤ m ∧ m ≤ 122) ∨ (48 ≤ m ∧ m ≤ 57) ∨ m = 45
instance (m : Nat) : Decidable (okc m) := by unfold okc; infer_instance
def ValidN (l : List UInt8) : Prop := l ≠ [] ∧ l.length ≤ 30 ∧ (97 ≤ (l.getD 0 0).toNat ∧ (l.getD 0 0).toNat ≤ 122) ∧ ∀ j, j < l.length → okc (l.getD j 0).toNat
instance (l : List UInt8) : Decidable (ValidN l) := by unfold ValidN; infer_instance
theorem str_nil (s : ByteArray) (h : s = ⟨#[]⟩) : s.data.toList = [] := by subst h; rfl
theorem ba_len (s : ByteArray) : s.data.toList.length = s.size := by simp
theorem ba_ne (s : ByteArray) (h : ¬ s = ⟨#[]⟩) : s.data.toList ≠ [] := by
 have := size_pos_of_ne h
 intro e; rw [← ba_len, e] at this; simp at this
set_option maxRecDepth 100000 in
theorem ValidName_w (s : ByteArray) (hs : s.size ≤ 4611686018427387904) (w0 : World) : PureC Tryz.prog 75 [.string s] w0 (.bool (decide (ValidN s.data.toList))) := by
 have hl := ba_len s
 refine c_enter [(0, .string s)] [] noB Tryz.func75 rfl Tryz.ntmps75 ⟨rfl, trivial⟩ rfl (by simp) (by simp) (by simp) ?_
 intro a hS
 refine cS (cR ?_)
 refine L_e hS (e_assign rfl) rfl ?_; clear hS a; intro a hS
 refine nL (nT (cS (cS (cR ?_))))
 refine Rn hS (.m rfl <| .c (e_binS rfl rfl rfl) <| .m rfl .n) ?_; clear hS a; intro a hS
 refine g_splitD (t := 7) hS rfl ?_ ?_ <;> (clear hS; intro hg7 hS)
 ·
  refine Rn hS (.f rfl rfl <| .f rfl rfl <| .f rfl rfl <| .c (e_pick_t rfl rfl) <| .m rfl <| .f rfl rfl <| .f rfl rfl <| .f rfl rfl <| .c (e_pick_t rfl rfl) <| .m rfl <| .f rfl rfl <| .f rfl rfl <| .f rfl rfl <| .c (e_pick_t rfl rfl) .n) ?_; clear hS a; intro a hS
  refine nL (nT ?_)
  refine c_if_t hS rfl ?_
  refine cS (cR ?_)
  refine L_e hS (e_assign rfl) rfl ?_; clear hS a; intro a hS
  refine nL (nT (wp_ret (r_then ?_)))
  refine c_ret1 hS Tryz.results75 (.tmp rfl) ?_
  have hF : ¬ ValidN s.data.toList := by
   rintro ⟨h1, h2, h3, h4⟩
   first | exact h1 (str_nil s hg7) | omega | (rw [Int.toNat_zero] at *; omega) | (have h5 := h4 k (by omega); unfold okc at h5; rw [Int.toNat_natCast] at *; omega)
  exact ⟨by rw [decide_eq_false hF], hS.chg⟩
 have hpos := size_pos_of_ne hg7
 refine Rn hS (.g rfl rfl (e_move rfl) <| .g rfl rfl (e_lenS rfl rfl ty_u9) <| .g rfl rfl (e_bin rfl rfl rfl) <| .c (e_pick_f rfl rfl) <| .m rfl .n) ?_; clear hS a; intro a hS
 refine g_splitD (t := 12) hS rfl ?_ ?_ <;> (clear hS; intro hg12 hS)
 ·
  refine Rn hS (.f rfl rfl <| .f rfl rfl <| .f rfl rfl <| .c (e_pick_t rfl rfl) <| .m rfl <| .f rfl rfl <| .f rfl rfl <| .f rfl rfl <| .c (e_pick_t rfl rfl) .n) ?_; clear hS a; intro a hS
  refine nL (nT ?_)
  refine c_if_t hS rfl ?_
  refine cS (cR ?_)
  refine L_e hS (e_assign rfl) rfl ?_; clear hS a; intro a hS
  refine nL (nT (wp_ret (r_then ?_)))
  refine c_ret1 hS Tryz.results75 (.tmp rfl) ?_
  have hF : ¬ ValidN s.data.toList := by
   rintro ⟨h1, h2, h3, h4⟩
   first | exact h1 (str_nil s hg7) | omega | (rw [Int.toNat_zero] at *; omega) | (have h5 := h4 k (by omega); unfold okc at h5; rw [Int.toNat_natCast] at *; omega)
  exact ⟨by rw [decide_eq_false hF], hS.chg⟩
 refine Rn hS (.g rfl rfl (e_move rfl) <| .g rfl rfl (e_ixS rfl rfl ty_u9 (by omega)) <| .g rfl rfl (e_bin rfl rfl rfl) <| .c (e_pick_f rfl rfl) <| .m rfl .n) ?_; clear hS a; intro a hS
 refine g_splitD (t := 17) hS rfl ?_ ?_ <;> (clear hS; intro hg17 hS)
 ·
  refine Rn hS (.f rfl rfl <| .f rfl rfl <| .f rfl rfl <| .c (e_pick_t rfl rfl) .n) ?_; clear hS a; intro a hS
  refine nL (nT ?_)
  refine c_if_t hS rfl ?_
  refine cS (cR ?_)
  refine L_e hS (e_assign rfl) rfl ?_; clear hS a; intro a hS
  refine nL (nT (wp_ret (r_then ?_)))
  refine c_ret1 hS Tryz.results75 (.tmp rfl) ?_
  have hF : ¬ ValidN s.data.toList := by
   rintro ⟨h1, h2, h3, h4⟩
   first | exact h1 (str_nil s hg7) | omega | (rw [Int.toNat_zero] at *; omega) | (have h5 := h4 k (by omega); unfold okc at h5; rw [Int.toNat_natCast] at *; omega)
  exact ⟨by rw [decide_eq_false hF], hS.chg⟩
 refine Rn hS (.g rfl rfl (e_move rfl) <| .g rfl rfl (e_ixS rfl rfl ty_u9 (by omega)) <| .g rfl rfl (e_bin rfl rfl rfl) <| .c (e_pick_f rfl rfl) .n) ?_; clear hS a; intro a hS
 refine nL (nT ?_)
 refine c_ifD hS rfl (fun hc21 => ?_) (fun hc21 => ?_)
 ·
  refine cS (cR ?_)
  refine L_e hS (e_assign rfl) rfl ?_; clear hS a; intro a hS
  refine nL (nT (wp_ret (r_then ?_)))
  refine c_ret1 hS Tryz.results75 (.tmp rfl) ?_
  have hF : ¬ ValidN s.data.toList := by
   rintro ⟨h1, h2, h3, h4⟩
   first | exact h1 (str_nil s hg7) | omega | (rw [Int.toNat_zero] at *; omega) | (have h5 := h4 k (by omega); unfold okc at h5; rw [Int.toNat_natCast] at *; omega)
  exact ⟨by rw [decide_eq_false hF], hS.chg⟩
 refine wS (nT (cS (cS (cR ?_))))
 refine L_e hS (e_assign rfl) rfl ?_; clear hS a; intro a hS
 refine nL (nT (wB ?_))
 skip
 refine c_loop (γ := Nat) (fun k a w => St 49 noB w0 a w [(3, .int .i64 (k : Int)), (0, .string s)] [] ∧ k ≤ s.size ∧ ∀ j, j < k → okc (s.data.toList.getD j 0).toNat) (fun k => s.size - k) 0 ⟨hS.slots ⟨rfl, rfl, trivial⟩, Nat.zero_le _, fun j hj => by omega⟩ ?_
 clear hS a; intro k a w hI
 obtain ⟨hS, hk, hok⟩ := hI
 refine cS (cS (cR ?_))
 refine Rn hS (.m rfl <| .m rfl <| .c (e_lenS rfl rfl ty_u9) <| .c (e_bin rfl rfl rfl) .n) ?_; clear hS a; intro a hS
 refine nL (nT ?_)
 refine c_ifD hS rfl (fun hc25 => ?_) (fun hc25 => ?_)
 ·
  refine wS (nT (cS (wB (cS (cR ?_)))))
  refine Rn hS (.m rfl <| .m rfl <| .c (e_ixS rfl rfl ty_u9 (by omega)) <| .a rfl .n) ?_; clear hS a; intro a hS
  refine nL (nT (cS (cR ?_)))
  refine Rn hS (.m rfl <| .c (e_bin rfl rfl rfl) <| .m rfl .n) ?_; clear hS a; intro a hS
  refine g_splitD (t := 33) hS rfl ?_ ?_ <;> (clear hS; intro hg33 hS)
  ·
   refine Rn hS (.f rfl rfl <| .f rfl rfl <| .c (e_pick_t rfl rfl) <| .m rfl <| .g rfl rfl (e_move rfl) <| .g rfl rfl (e_bin rfl rfl rfl) <| .g rfl rfl (e_move rfl) .n) ?_; clear hS a; intro a hS
   refine g_splitD (t := 40) hS rfl ?_ ?_ <;> (clear hS; intro hg40 hS)
   ·
    refine Rn hS (.f rfl rfl <| .f rfl rfl <| .g rfl rfl (e_pick_t rfl rfl) <| .c (e_pick_t rfl rfl) <| .m rfl <| .g rfl rfl (e_move rfl) <| .g rfl rfl (e_bin rfl rfl rfl) <| .c (e_pick_t rfl rfl) .n) ?_; clear hS a; intro a hS
    refine nL (nT ?_)
    refine c_ifD hS rfl (fun hc48 => ?_) (fun hc48 => ?_)
    ·
     refine cS (cR ?_)
     refine L_e hS (e_assign rfl) rfl ?_; clear hS a; intro a hS
     refine nL (nT (wp_ret ?_))
     refine r_block (r_then (r_then (r_block (r_then ?_))))
     refine c_ret1 hS Tryz.results75 (.tmp rfl) ?_
     have hF : ¬ ValidN s.data.toList := by
      rintro ⟨h1, h2, h3, h4⟩
      first | exact h1 (str_nil s hg7) | omega | (rw [Int.toNat_zero] at *; omega) | (have h5 := h4 k (by omega); unfold okc at h5; rw [Int.toNat_natCast] at *; omega)
     exact ⟨by rw [decide_eq_false hF], hS.chg⟩
    refine wS (n_block (nT (cR ?_)))
    refine Rn hS (.m rfl <| .c (e_binN rfl rfl rfl (by omega)) <| .a rfl .n) ?_; clear hS a; intro a hS
    refine nL ?_
    have h1 : okc (s.data.toList.getD k 0).toNat := by unfold okc; rw [Int.toNat_natCast] at *; omega
    exact ⟨k + 1, by omega, hS.slots ⟨rfl, rfl, trivial⟩, by omega, fun j hj => by by_cases e : j = k; (subst e; exact h1); exact hok j (by omega)⟩
   refine Rn hS (.g rfl rfl (e_move rfl) <| .g rfl rfl (e_bin rfl rfl rfl) <| .g rfl rfl (e_pick_f rfl rfl) <| .c (e_pick_t rfl rfl) <| .m rfl .n) ?_; clear hS a; intro a hS
   refine g_splitD (t := 45) hS rfl ?_ ?_ <;> (clear hS; intro hg45 hS)
   ·
    refine Rn hS (.g rfl rfl (e_move rfl) <| .g rfl rfl (e_bin rfl rfl rfl) <| .c (e_pick_t rfl rfl) .n) ?_; clear hS a; intro a hS
    refine nL (nT ?_)
    refine c_ifD hS rfl (fun hc48 => ?_) (fun hc48 => ?_)
    ·
     refine cS (cR ?_)
     refine L_e hS (e_assign rfl) rfl ?_; clear hS a; intro a hS
     refine nL (nT (wp_ret ?_))
     refine r_block (r_then (r_then (r_block (r_then ?_))))
     refine c_ret1 hS Tryz.results75 (.tmp rfl) ?_
     have hF : ¬ ValidN s.data.toList := by
      rintro ⟨h1, h2, h3, h4⟩
      first | exact h1 (str_nil s hg7) | omega | (rw [Int.toNat_zero] at *; omega) | (have h5 := h4 k (by omega); unfold okc at h5; rw [Int.toNat_natCast] at *; omega)
     exact ⟨by rw [decide_eq_false hF], hS.chg⟩
    refine wS (n_block (nT (cR ?_)))
    refine Rn hS (.m rfl <| .c (e_binN rfl rfl rfl (by omega)) <| .a rfl .n) ?_; clear hS a; intro a hS
    refine nL ?_
    have h1 : okc (s.data.toList.getD k 0).toNat := by unfold okc; rw [Int.toNat_natCast] at *; omega
    exact ⟨k + 1, by omega, hS.slots ⟨rfl, rfl, trivial⟩, by omega, fun j hj => by by_cases e : j = k; (subst e; exact h1); exact hok j (by omega)⟩
   refine Rn hS (.t rfl rfl <| .t rfl rfl <| .c (e_pick_f rfl rfl) .n) ?_; clear hS a; intro a hS
   refine nL (nT ?_)
   refine c_if_f hS rfl ?_
   refine wS (n_block (nT (cR ?_)))
   refine Rn hS (.m rfl <| .c (e_binN rfl rfl rfl (by omega)) <| .a rfl .n) ?_; clear hS a; intro a hS
   refine nL ?_
   have h1 : okc (s.data.toList.getD k 0).toNat := by unfold okc; rw [Int.toNat_natCast] at *; omega
   exact ⟨k + 1, by omega, hS.slots ⟨rfl, rfl, trivial⟩, by omega, fun j hj => by by_cases e : j = k; (subst e; exact h1); exact hok j (by omega)⟩
  refine Rn hS (.g rfl rfl (e_move rfl) <| .g rfl rfl (e_bin rfl rfl rfl) <| .c (e_pick_f rfl rfl) <| .m rfl .n) ?_; clear hS a; intro a hS
  refine g_splitD (t := 37) hS rfl ?_ ?_ <;> (clear hS; intro hg37 hS)
  ·
   refine Rn hS (.g rfl rfl (e_move rfl) <| .g rfl rfl (e_bin rfl rfl rfl) <| .g rfl rfl (e_move rfl) .n) ?_; clear hS a; intro a hS
   refine g_splitD (t := 40) hS rfl ?_ ?_ <;> (clear hS; intro hg40 hS)
   ·
    refine Rn hS (.f rfl rfl <| .f rfl rfl <| .g rfl rfl (e_pick_t rfl rfl) <| .c (e_pick_t rfl rfl) <| .m rfl <| .g rfl rfl (e_move rfl) <| .g rfl rfl (e_bin rfl rfl rfl) <| .c (e_pick_t rfl rfl) .n) ?_; clear hS a; intro a hS
    refine nL (nT ?_)
    refine c_ifD hS rfl (fun hc48 => ?_) (fun hc48 => ?_)
    ·
     refine cS (cR ?_)
     refine L_e hS (e_assign rfl) rfl ?_; clear hS a; intro a hS
     refine nL (nT (wp_ret ?_))
     refine r_block (r_then (r_then (r_block (r_then ?_))))
     refine c_ret1 hS Tryz.results75 (.tmp rfl) ?_
     have hF : ¬ ValidN s.data.toList := by
      rintro ⟨h1, h2, h3, h4⟩
      first | exact h1 (str_nil s hg7) | omega | (rw [Int.toNat_zero] at *; omega) | (have h5 := h4 k (by omega); unfold okc at h5; rw [Int.toNat_natCast] at *; omega)
     exact ⟨by rw [decide_eq_false hF], hS.chg⟩
    refine wS (n_block (nT (cR ?_)))
    refine Rn hS (.m rfl <| .c (e_binN rfl rfl rfl (by omega)) <| .a rfl .n) ?_; clear hS a; intro a hS
    refine nL ?_
    have h1 : okc (s.data.toList.getD k 0).toNat := by unfold okc; rw [Int.toNat_natCast] at *; omega
    exact ⟨k + 1, by omega, hS.slots ⟨rfl, rfl, trivial⟩, by omega, fun j hj => by by_cases e : j = k; (subst e; exact h1); exact hok j (by omega)⟩
   refine Rn hS (.g rfl rfl (e_move rfl) <| .g rfl rfl (e_bin rfl rfl rfl) <| .g rfl rfl (e_pick_f rfl rfl) <| .c (e_pick_t rfl rfl) <| .m rfl .n) ?_; clear hS a; intro a hS
   refine g_splitD (t := 45) hS rfl ?_ ?_ <;> (clear hS; intro hg45 hS)
   ·
    refine Rn hS (.g rfl rfl (e_move rfl) <| .g rfl rfl (e_bin rfl rfl rfl) <| .c (e_pick_t rfl rfl) .n) ?_; clear hS a; intro a hS
    refine nL (nT ?_)
    refine c_ifD hS rfl (fun hc48 => ?_) (fun hc48 => ?_)
    ·
     refine cS (cR ?_)
     refine L_e hS (e_assign rfl) rfl ?_; clear hS a; intro a hS
     refine nL (nT (wp_ret ?_))
     refine r_block (r_then (r_then (r_block (r_then ?_))))
     refine c_ret1 hS Tryz.results75 (.tmp rfl) ?_
     have hF : ¬ ValidN s.data.toList := by
      rintro ⟨h1, h2, h3, h4⟩
      first | exact h1 (str_nil s hg7) | omega | (rw [Int.toNat_zero] at *; omega) | (have h5 := h4 k (by omega); unfold okc at h5; rw [Int.toNat_natCast] at *; omega)
     exact ⟨by rw [decide_eq_false hF], hS.chg⟩
    refine wS (n_block (nT (cR ?_)))
    refine Rn hS (.m rfl <| .c (e_binN rfl rfl rfl (by omega)) <| .a rfl .n) ?_; clear hS a; intro a hS
    refine nL ?_
    have h1 : okc (s.data.toList.getD k 0).toNat := by unfold okc; rw [Int.toNat_natCast] at *; omega
    exact ⟨k + 1, by omega, hS.slots ⟨rfl, rfl, trivial⟩, by omega, fun j hj => by by_cases e : j = k; (subst e; exact h1); exact hok j (by omega)⟩
   refine Rn hS (.t rfl rfl <| .t rfl rfl <| .c (e_pick_f rfl rfl) .n) ?_; clear hS a; intro a hS
   refine nL (nT ?_)
   refine c_if_f hS rfl ?_
   refine wS (n_block (nT (cR ?_)))
   refine Rn hS (.m rfl <| .c (e_binN rfl rfl rfl (by omega)) <| .a rfl .n) ?_; clear hS a; intro a hS
   refine nL ?_
   have h1 : okc (s.data.toList.getD k 0).toNat := by unfold okc; rw [Int.toNat_natCast] at *; omega
   exact ⟨k + 1, by omega, hS.slots ⟨rfl, rfl, trivial⟩, by omega, fun j hj => by by_cases e : j = k; (subst e; exact h1); exact hok j (by omega)⟩
  refine Rn hS (.t rfl rfl <| .t rfl rfl <| .t rfl rfl .n) ?_; clear hS a; intro a hS
  refine L_skip_u hS rfl rfl rfl ?_; clear hS a; intro a hS
  refine L_skip_u hS rfl rfl rfl ?_; clear hS a; intro a hS
  refine Rn hS (.t rfl rfl <| .c (e_pick_f rfl rfl) <| .m rfl <| .t rfl rfl <| .t rfl rfl <| .c (e_pick_f rfl rfl) .n) ?_; clear hS a; intro a hS
  refine nL (nT ?_)
  refine c_if_f hS rfl ?_
  refine wS (n_block (nT (cR ?_)))
  refine Rn hS (.m rfl <| .c (e_binN rfl rfl rfl (by omega)) <| .a rfl .n) ?_; clear hS a; intro a hS
  refine nL ?_
  have h1 : okc (s.data.toList.getD k 0).toNat := by unfold okc; rw [Int.toNat_natCast] at *; omega
  exact ⟨k + 1, by omega, hS.slots ⟨rfl, rfl, trivial⟩, by omega, fun j hj => by by_cases e : j = k; (subst e; exact h1); exact hok j (by omega)⟩
 refine wp_exit ?_
 refine x_then (x_then (x_hit ?_))
 refine nT (cS (cR ?_))
 refine L_e hS (e_assign rfl) rfl ?_; clear hS a; intro a hS
 refine nL (nT (wp_ret ?_))
 refine c_ret1 hS Tryz.results75 (.tmp rfl) ?_
 exact ⟨by rw [decide_eq_true (show ValidN s.data.toList from ⟨ba_ne s hg7, by omega, by rw [Int.toNat_zero] at *; omega, fun j hj => hok j (by omega)⟩)], hS.chg⟩
set_option maxRecDepth 100000 in
theorem Num_w (n : Int) (w0 : World) : PureC Tryz.prog 10 [.int .i64 n] w0 (.int .i64 n) := by
 refine c_enter [(0, .int .i64 n)] [] noB Tryz.func10 rfl Tryz.ntmps10 ⟨rfl, trivial⟩ rfl (by simp) (by simp) (by simp) ?_
 intro a hS
 refine cS (cR ?_)
 refine L_e hS (e_assign rfl) rfl ?_; clear hS a; intro a hS
 refine nL (nT (cS (cR ?_)))
 refine L_e hS (e_move rfl) rfl ?_; clear hS a; intro a hS
 skip
 refine L_e hS (e_assign rfl) rfl ?_; clear hS a; intro a hS
 refine nL (nT (wp_ret ?_))
 refine c_ret1 hS Tryz.results10 (.tmp rfl) ?_
 exact ⟨rfl, hS.chg⟩
def encC (x : ByteArray × Int) : List Value := [.string x.1, .int .i64 x.2]
def curs : List (ByteArray × Int) := [(⟨#[67, 72, 70]⟩, 2), (⟨#[69, 85, 82]⟩, 2), (⟨#[71, 66, 80]⟩, 2), (⟨#[74, 80, 89]⟩, 0), (⟨#[75, 87, 68]⟩, 3), (⟨#[85, 83, 68]⟩, 2)]
set_option maxRecDepth 100000 in
theorem Currencies_w (w0 : World) : NewC Tryz.prog 76 [] w0 (fun b : Nat => .slice (some ⟨b, 0, none⟩) 6 6) (fun b => .blk b (curs.flatMap encC) 166) := by
 refine c_enter [] [] noB Tryz.func76 rfl Tryz.ntmps76 trivial rfl (by simp) (by simp) (by simp) ?_
 intro a hS
 refine cS (cR ?_)
 refine L_e hS (e_assign rfl) rfl ?_; clear hS a; intro a hS
 refine nL (nT (cS (cR ?_)))
 refine Rn hS (.c (e_build ty_z166 ty_pl166 (.one rfl rfl rfl (by repeat constructor) (.one rfl rfl rfl (by repeat constructor) .nil))) <| .c (e_build ty_z166 ty_pl166 (.one rfl rfl rfl (by repeat constructor) (.one rfl rfl rfl (by repeat constructor) .nil))) <| .c (e_build ty_z166 ty_pl166 (.one rfl rfl rfl (by repeat constructor) (.one rfl rfl rfl (by repeat constructor) .nil))) <| .c (e_build ty_z166 ty_pl166 (.one rfl rfl rfl (by repeat constructor) (.one rfl rfl rfl (by repeat constructor) .nil))) <| .c (e_build ty_z166 ty_pl166 (.one rfl rfl rfl (by repeat constructor) (.one rfl rfl rfl (by repeat constructor) .nil))) <| .c (e_build ty_z166 ty_pl166 (.one rfl rfl rfl (by repeat constructor) (.one rfl rfl rfl (by repeat constructor) .nil))) .n) ?_; clear hS a; intro a hS
 refine L_op (s_bslice hS ty_sl162 ty_sz166 ty_z166 rfl rfl rfl rfl (.agg rfl rfl (.agg rfl rfl (.agg rfl rfl (.agg rfl rfl (.agg rfl rfl (.agg rfl rfl .nil)))))) rfl ?_); clear hS a; intro a w b7 hS
 refine L_e hS (e_assign rfl) rfl ?_; clear hS a; intro a hS
 refine nL (nT (wp_ret ?_))
 refine c_ret1 hS Tryz.results76 (.tmp rfl) ?_
 exact ⟨b7, rfl, hS.chg, hS.new (.head _) rfl⟩
set_option maxRecDepth 100000 in
theorem IndexFuncCur_w (b c : Nat) (xs : List (ByteArray × Int)) (hlen : xs.length ≤ 1000) (f : FuncId) (caps : List Value) (p : ByteArray × Int → Bool) (w0 : World) (hrow : RowAt b 0 2 (xs.map encC) w0) (hb : b < w0.heap.size) (hf : CallsTo Tryz.prog f)
 (hp : ∀ x w', Chg noB w0 w' → PureC Tryz.prog f ([.agg (encC x).toArray] ++ caps) w' (.bool (p x))) :
 PureC Tryz.prog 77 [.slice (some ⟨b, 0, none⟩) xs.length c, .func (.func f) #[] caps.toArray] w0 (.int .i64 (firstIdx p xs)) := by
 refine c_enter [(0, .slice (some ⟨b, 0, none⟩) xs.length c), (1, .func (.func f) #[] caps.toArray)] [rowA b 0 2 (xs.map encC)] noB Tryz.func77 rfl Tryz.ntmps77 ⟨rfl, rfl, trivial⟩ rfl (by intro X hX; obtain rfl := List.mem_singleton.1 hX; exact ok_row hrow hb) (by simp) (by intro X hX hm; obtain rfl := List.mem_singleton.1 hX; cases hm) ?_
 intro a hS
 refine cS (cR ?_)
 refine L_e hS (e_assign rfl) rfl ?_; clear hS a; intro a hS
 refine nL (nT (cS (cS (cR ?_))))
 refine Rn hS (.m rfl <| .c (e_len rfl rfl ty_sl162) <| .m rfl .n) ?_; clear hS a; intro a hS
 refine nL (nT (wB ?_))
 skip
 refine c_loop (γ := Nat) (fun k a w => St 19 noB w0 a w [(8, .int .i64 (k : Int)), (7, .int .i64 (xs.length : Int)), (0, .slice (some ⟨b, 0, none⟩) xs.length c), (1, .func (.func f) #[] caps.toArray)] [rowA b 0 2 (xs.map encC)] ∧ k ≤ xs.length ∧ ∀ j, j < k → ∀ y, xs[j]? = some y → p y = false) (fun k => xs.length - k) 0 ⟨hS.slots ⟨rfl, rfl, rfl, rfl, trivial⟩, Nat.zero_le _, fun j hj => by omega⟩ ?_
 clear hS a; intro k a w hI
 obtain ⟨hS, hk, hno⟩ := hI
 refine cS (cR ?_)
 refine L_e hS (e_bin rfl rfl rfl) rfl ?_; clear hS a; intro a hS
 refine nL (nT (cS ?_))
 refine c_ifD hS rfl (fun hc9 => ?_) (fun hc9 => ?_)
 ·
  obtain ⟨x, hx⟩ : ∃ x, xs[k]? = some x := ⟨xs[k], by simp⟩
  have hx' : (xs.map encC)[k]? = some (encC x) := by simp [hx]
  refine wS (nT (cS (wB (cS (cR ?_)))))
  refine Rn hS (.m rfl <| .a rfl .n) ?_; clear hS a; intro a hS
  refine nL (nT (cS (cR ?_)))
  refine Rn hS (.m rfl <| .m rfl <| .m rfl <| .c (e_ixN rfl rfl ty_sl162 ty_sz166 (by omega)) <| .c (e_loadAC (l := encC x) rfl ty_st166 ty_sz166 (row_get (by exact .head _) hx')) .n) ?_; clear hS a; intro a hS
  refine L_op (s_callvP hS rfl (.cons rfl .nil) hf rfl (hp x _ hS.chg) ?_); clear hS a; intro a w hS
  refine nL (nT ?_)
  refine c_if hS rfl (fun hc16 => ?_) (fun hc16 => ?_)
  ·
   refine cS (cR ?_)
   refine Rn hS (.m rfl <| .a rfl .n) ?_; clear hS a; intro a hS
   refine nL (nT (wp_ret ?_))
   refine r_block (r_then (r_then (r_block (r_then ?_))))
   refine c_ret1 hS Tryz.results77 (.tmp rfl) ?_
   exact ⟨by rw [firstIdx_some hx hc16 hno], hS.chg⟩
  refine wS (n_block (nT (cR ?_)))
  refine Rn hS (.c (e_binN rfl rfl rfl (by omega)) <| .m rfl .n) ?_; clear hS a; intro a hS
  refine nL ?_
  exact ⟨k + 1, by omega, hS.slots ⟨rfl, rfl, rfl, rfl, trivial⟩, by omega, fun j hj y hy => by
    by_cases e : j = k
    · subst e; rw [hx] at hy; cases hy; exact hc16
    · exact hno j (by omega) y hy⟩
 refine wp_exit ?_
 refine x_then (x_then (x_hit ?_))
 refine nT (cS (cR ?_))
 refine L_e hS (e_assign rfl) rfl ?_; clear hS a; intro a hS
 refine nL (nT (wp_ret ?_))
 refine c_ret1 hS Tryz.results77 (.tmp rfl) ?_
 exact ⟨by rw [firstIdx_none (fun j hj => hno j (by omega))], hS.chg⟩
set_option maxRecDepth 100000 in
theorem Scale1_P (x : ByteArray × Int) (s : ByteArray) (bp E : Nat) (w0 : World) (h : w0.heap[bp]? = some (.cells [Value.string s].toArray E (0, 0))) :
 PureC Tryz.prog 78 [.agg (encC x).toArray, .pointer (some ⟨bp, 0, none⟩)] w0 (.bool (decide (x.1 = s))) := by
 refine c_enter [(0, .agg (encC x).toArray), (1, .pointer (some ⟨bp, 0, none⟩))] [.any (fun k => k = bp) (fun w => w.heap[bp]? = some (.cells [Value.string s].toArray E (0, 0))) false] noB Tryz.func78 rfl Tryz.ntmps78 ⟨rfl, rfl, trivial⟩ rfl (by intro X hX; obtain rfl := List.mem_singleton.1 hX; exact ⟨fun k hk => by obtain rfl : k = bp := hk; exact (Array.getElem?_eq_some_iff.1 h).1, fun w' hw => by show w'.heap[bp]? = _; rw [hw bp rfl]; exact h⟩) (by simp) (by intro X hX hm; obtain rfl := List.mem_singleton.1 hX; cases hm) ?_
 intro a hS
 refine cS (cR ?_)
 refine L_op (s_boxA hS rfl rfl ?_); clear hS a; intro a w b2 hS
 refine L_e hS (e_assign rfl) rfl ?_; clear hS a; intro a hS
 refine nL (nT (cS (cR ?_)))
 refine Rn hS (.c (e_fa0 rfl ty_fo166_0) <| .c (e_load rfl (by repeat constructor) ty_sc9 (by rfl)) <| .c (e_loadC rfl ty_sc9 (fun w hh => cell_of_blk (cs := [Value.string s]) (E := E) (hh _ (.tail _ (.head _))) rfl)) <| .c (e_binS rfl rfl rfl) <| .a rfl .n) ?_; clear hS a; intro a hS
 refine nL (nT (wp_ret ?_))
 refine c_ret1 hS Tryz.results78 (.tmp rfl) ?_
 exact ⟨rfl, hS.chg⟩
def curIdx (s : ByteArray) : Int := firstIdx (fun x : ByteArray × Int => decide (x.1 = s)) curs
def scaleR (s : ByteArray) : Int × Int := if curIdx s < 0 then (0, 18) else ((curs.getD (curIdx s).toNat (⟨#[]⟩, 0)).2, 0)
set_option maxRecDepth 100000 in
theorem Scale_P (s : ByteArray) (w0 : World) : PureC Tryz.prog 34 [.string s] w0 (.tuple [.int .i64 (scaleR s).1, .int .i64 (scaleR s).2].toArray) := by
 refine c_enter [(0, .string s)] [] noB Tryz.func34 rfl Tryz.ntmps34 ⟨rfl, trivial⟩ rfl (by simp) (by simp) (by simp) ?_
 intro a hS
 refine cS (cR ?_)
 refine L_op (s_box1 hS rfl rfl rfl ?_); clear hS a; intro a w b1 hS
 refine Rn hS (.a rfl <| .a rfl .n) ?_; clear hS a; intro a hS
 refine nL (nT (cS (cR ?_)))
 refine L_op (s_callN hS .nil cf76 rfl (Currencies_w _) ?_); clear hS a; intro x6 a w hS
 refine L_e hS (e_assign rfl) rfl ?_; clear hS a; intro a hS
 refine nL (nT (cS (cR ?_)))
 refine Rn hS (.m rfl <| .c (e_makeFunc .nil (.cons rfl .nil)) .n) ?_; clear hS a; intro a hS
 refine L_op (s_callP hS (.cons rfl (.cons rfl .nil)) cf77 rfl (IndexFuncCur_w x6 6 curs (by decide) 78 [.pointer (some ⟨b1, 0, none⟩)] (fun x : ByteArray × Int => decide (x.1 = s)) _ (row_of_flat (enc := encC) (fun _ => rfl) (hS.get (.head _))) ((hS.ok _ (.head _)).lt x6 rfl) cf78 (fun x w' hc => Scale1_P x s b1 _ w' (by rw [hc.block b1 ((hS.ok _ (.tail _ (.head _))).lt b1 rfl) (fun hf => hf)]; exact hS.get (.tail _ (.head _))))) ?_); clear hS a; intro a w hS
 refine L_e hS (e_assign rfl) rfl ?_; clear hS a; intro a hS
 refine nL (nT (cS (cS (cR ?_))))
 refine Rn hS (.m rfl <| .c (e_bin rfl rfl rfl) .n) ?_; clear hS a; intro a hS
 refine nL (nT ?_)
 refine c_ifD hS rfl (fun hc11 => ?_) (fun hc11 => ?_)
 ·
  refine cS (cR ?_)
  refine Rn hS (.a rfl <| .a rfl .n) ?_; clear hS a; intro a hS
  refine nL (nT (wp_ret (r_then ?_)))
  refine c_retN hS Tryz.results34 (.cons (.tmp rfl) (.cons (.tmp rfl) .nil)) rfl ?_
  have hi : curIdx s < 0 := hc11
  rw [scaleR, if_pos hi]; exact ⟨rfl, hS.chg⟩
 obtain ⟨i, x, hi, hx, hp⟩ : ∃ i x, curIdx s = ((i : Nat) : Int) ∧ curs[i]? = some x ∧ decide (x.1 = s) = true := by
  rcases firstIdx_cases (fun x : ByteArray × Int => decide (x.1 = s)) curs with h | h
  · exact h
  · exfalso; have := h.1; exact hc11 (by show curIdx s < 0; unfold curIdx; omega)
 have hlt : i < 6 := (List.getElem?_eq_some_iff.1 hx).1
 change St _ _ _ _ _ ((11, _) :: (10, .int .i64 (curIdx s)) :: (5, .int .i64 (curIdx s)) :: (9, .int .i64 (curIdx s)) :: _) _ at hS
 rw [hi] at hS
 refine wS (nT (cS (cR ?_)))
 refine Rn hS (.m rfl <| .m rfl <| .c (e_ixN rfl rfl ty_sl162 ty_sz166 (by omega)) <| .c (e_faK rfl ty_fo166_1) <| .c (e_loadC rfl ty_sc3 (fun w hh => blkrow_get (enc := encC) (by repeat (first | exact .head _ | refine .tail _ ?_)) (fun _ => rfl) hx w hh 1 (.int .i64 x.2) rfl)) <| .a rfl <| .a rfl .n) ?_; clear hS a; intro a hS
 refine nL (nT (wp_ret ?_))
 refine c_retN hS Tryz.results34 (.cons (.tmp rfl) (.cons (.tmp rfl) .nil)) rfl ?_
 have hg : curs.getD i (⟨#[]⟩, 0) = x := by rw [List.getD_eq_getElem?_getD, hx]; rfl
 rw [scaleR, if_neg (show ¬ curIdx s < 0 from hc11), hi, Int.toNat_natCast, hg]; exact ⟨rfl, hS.chg⟩
namespace Wd
def hi (v : Int) : Int := v / 18446744073709551616 % 18446744073709551616
def lo (v : Int) : Int := v % 18446744073709551616
theorem hi_bd (v : Int) : 0 ≤ hi v ∧ hi v < 18446744073709551616 := by unfold hi; omega
theorem lo_bd (v : Int) : 0 ≤ lo v ∧ lo v < 18446744073709551616 := by unfold lo; omega
theorem hi_lo (v : Int) (h : 0 ≤ v) (h' : v < 340282366920938463463374607431768211456) : hi v * 18446744073709551616 + lo v = v := by unfold hi lo; omega
def fit (v : Int) : Prop := -170141183460469231731687303715884105728 ≤ v ∧ v < 170141183460469231731687303715884105728
instance (v : Int) : Decidable (fit v) := by unfold fit; infer_instance
theorem hi_neg (v : Int) (h : fit v) : 9223372036854775808 ≤ hi v ↔ v < 0 := by unfold fit at h; unfold hi; omega
theorem eq_of (a b : Int) (ha : fit a) (hb : fit b) (h1 : hi a = hi b) (h2 : lo a = lo b) : a = b := by unfold fit at ha hb; unfold hi at h1; unfold lo at h2; omega
def val (x y : Int) : Int := if x < 9223372036854775808 then x * 18446744073709551616 + y else x * 18446744073709551616 + y - 340282366920938463463374607431768211456
theorem lo_zero : lo 0 = 0 := rfl
theorem hi_zero : hi 0 = 0 := rfl
theorem add_lo (a b : Int) : (lo a + lo b + 0) % 18446744073709551616 = lo (a + b) := by unfold lo; omega
theorem add_hi (a b : Int) : (hi a + hi b + (lo a + lo b + 0) / 18446744073709551616) % 18446744073709551616 = hi (a + b) := by unfold hi lo; omega
theorem sub_lo (a b : Int) : (lo a + 18446744073709551616 - lo b - 0) % 18446744073709551616 = lo (a - b) := by unfold lo; omega
theorem sub_hi (a b : Int) : (hi a + 18446744073709551616 - hi b - (if lo a < lo b + 0 then 1 else 0)) % 18446744073709551616 = hi (a - b) := by unfold hi lo; split <;> omega
def cy (a b : Int) : Int := (lo a + lo b + 0) / 18446744073709551616
def bw (a b : Int) : Int := if lo a < lo b + 0 then 1 else 0
theorem cy_bd (a b : Int) : 0 ≤ cy a b ∧ cy a b ≤ 1 := by unfold cy lo; omega
theorem bw_bd (a b : Int) : 0 ≤ bw a b ∧ bw a b ≤ 1 := by unfold bw; split <;> omega
theorem carry_hi (a b : Int) : (hi a + hi b + cy a b) % 18446744073709551616 = hi (a + b) := add_hi a b
theorem borrow_hi (a b : Int) : (hi a + 18446744073709551616 - hi b - bw a b) % 18446744073709551616 = hi (a - b) := sub_hi a b
def cy2 (a b : Int) : Int := (hi a + hi b + cy a b) / 18446744073709551616
def bw2 (a b : Int) : Int := if hi a < hi b + bw a b then 1 else 0
theorem hi_ge (v : Int) (h : fit v) (hn : v < 0) : decide (9223372036854775808 ≤ hi v) = true := by have := (hi_neg v h).2 hn; simp [this]
theorem hi_lt (v : Int) (h : fit v) (hn : 0 ≤ v) : decide (9223372036854775808 ≤ hi v) = false := by
 have h1 : ¬ 9223372036854775808 ≤ hi v := fun h2 => by have := (hi_neg v h).1 h2; omega
 simp [h1]
theorem wrap_lo (n : Int) : IntKind.u64.wrap n = lo n := by rw [IntKind.wrap_u64]; rfl
theorem wrap_hi (n : Int) (h1 : -9223372036854775808 ≤ n) (h2 : n < 9223372036854775808) : IntKind.u64.wrap (n / 9223372036854775808) = hi n := by rw [IntKind.wrap_u64]; unfold hi; omega
def ab (v : Int) : Int := if v < 0 then -v else v
theorem ab_nonneg (v : Int) : 0 ≤ ab v := by unfold ab; split <;> omega
theorem ab_le (v : Int) (h : fit v) : ab v ≤ 170141183460469231731687303715884105728 := by unfold fit at h; unfold ab; split <;> omega
theorem ab_lo (n : Int) (h1 : -9223372036854775808 ≤ n) (h2 : n < 9223372036854775808) : lo (ab n) = ab n := by unfold lo ab; split <;> omega
def sg (v : Int) : Int := if v < 0 then -1 else if v = 0 then 0 else 1
def back (v : Int) : Int := RowKit.wrap64 (lo v)
theorem back_eq (v : Int) : RowKit.wrap64 (lo v) = back v := rfl
theorem back_bd (v : Int) : -9223372036854775808 ≤ back v ∧ back v < 9223372036854775808 := by unfold back RowKit.wrap64; omega
theorem back_lo (v : Int) : (lo (back v) == lo v) = true := by
 have : lo (back v) = lo v := by unfold back RowKit.wrap64 lo; omega
 simpa using this
theorem back_ne (v : Int) (hf : fit v) (h : v < -9223372036854775808 ∨ 9223372036854775808 ≤ v) : (hi (back v) == hi v) = false := by
 have hb := back_bd v
 have h0 : ¬ (hi (back v) = hi v) := fun a => by
  have := eq_of (back v) v (by unfold fit; omega) hf a (by simpa using back_lo v)
  omega
 simpa using h0
end Wd
section
variable {P : Program} {n : Nat} {a : Act} {L : List (Nat × Value)} {Γ : List Asn}
variable {ty : Nat} {dst : Option Tmp} {pos : String} {af : Array Edge} {g : Option (Nat × Bool)}
theorem e_shr {t t' : TypeId} {x : Operand} {k k' : IntKind} {i : Int} {j : Nat} (hx : ev L x = some (.int k i)) (hj : j ≤ k.bits) :
 Ex P n a L Γ ⟨dst, .binOp .shr t x (.const (.int k' (j : Int))) t', ty, pos, af, g⟩ (.int k (i / 2 ^ j)) := fun hs w _ => by
 have he : a.eval (.const (.int k' (j : Int))) = .int k' (j : Int) := rfl
 have h : ¬ (j : Int) < 0 := by omega
 simp only [execOp, hs.ev hx, he, eqGuard, binOp, Op.shift, Sem.run_bind]
 simp [h, Nat.min_eq_left hj]
 rw [Int.fdiv_eq_ediv_of_nonneg]
 exact Int.le_of_lt (Int.pow_pos (by decide))
end
def wv (v : Int) : List Value := [.int .u64 (Wd.hi v), .int .u64 (Wd.lo v)]
theorem add64_at (x y c : Int) (hx : 0 ≤ x) (hy : 0 ≤ y) (hc : 0 ≤ c) (hc1 : c ≤ 1) (w : World) :
 (callFunc 119 #[.int .u64 x, .int .u64 y, .int .u64 c]).run Tryz.prog w =
  .ok (.value (.tuple #[.int .u64 ((x + y + c) % 18446744073709551616), .int .u64 ((x + y + c) / 18446744073709551616)])) w := by
 obtain ⟨x, rfl⟩ := Int.eq_ofNat_of_zero_le hx
 obtain ⟨y, rfl⟩ := Int.eq_ofNat_of_zero_le hy
 obtain ⟨c, rfl⟩ := Int.eq_ofNat_of_zero_le hc
 rw [run_callFunc_extern Tryz.func119 (by kernel_rfl) (by kernel_rfl) (by kernel_rfl) (e := add64Entry) (by kernel_rfl), run_add64 x y c (by omega) (by omega) (by omega) (by omega)]
 rfl
theorem wadd_lo (a b : Int) : ExtC Tryz.prog 119 [.int .u64 (Wd.lo a), .int .u64 (Wd.lo b), .int .u64 0] (.tuple [.int .u64 (Wd.lo (a + b)), .int .u64 (Wd.cy a b)].toArray) := fun w => by
 have h := add64_at _ _ 0 (Wd.lo_bd a).1 (Wd.lo_bd b).1 (by omega) (by omega) w
 rw [Wd.add_lo] at h; exact h
theorem wadd_hi (a b : Int) : ExtC Tryz.prog 119 [.int .u64 (Wd.hi a), .int .u64 (Wd.hi b), .int .u64 (Wd.cy a b)] (.tuple [.int .u64 (Wd.hi (a + b)), .int .u64 (Wd.cy2 a b)].toArray) := fun w => by
 have h := add64_at _ _ _ (Wd.hi_bd a).1 (Wd.hi_bd b).1 (Wd.cy_bd a b).1 (Wd.cy_bd a b).2 w
 rw [Wd.carry_hi] at h; exact h
set_option maxRecDepth 100000 in
theorem below_P (v : Int) (w0 : World) : PureC Tryz.prog 95 [.agg (wv v).toArray] w0 (.bool (decide (9223372036854775808 ≤ Wd.hi v))) := by
 refine c_enter [(0, .agg (wv v).toArray)] [] noB Tryz.func95 rfl Tryz.ntmps95 ⟨rfl, trivial⟩ rfl (by simp) (by simp) (by simp) ?_
 intro a hS
 refine cS (cR ?_)
 refine L_op (s_boxA hS rfl rfl ?_); clear hS a; intro a w b1 hS
 refine L_e hS (e_assign rfl) rfl ?_; clear hS a; intro a hS
 refine nL (nT (cS (cR ?_)))
 refine Rn hS (.c (e_fa0 rfl ty_fo131_0) <| .c (e_load rfl (by repeat constructor) ty_sc129 (by rfl)) <| .c (e_bin rfl rfl rfl) <| .a rfl .n) ?_; clear hS a; intro a hS
 refine nL (nT (wp_ret ?_))
 refine c_ret1 hS Tryz.results95 (.tmp rfl) ?_
 exact ⟨rfl, hS.chg⟩
set_option maxRecDepth 100000 in
theorem FromInt_P (m : Int) (h1 : -9223372036854775808 ≤ m) (h2 : m < 9223372036854775808) (w0 : World) : PureC Tryz.prog 57 [.int .i64 m] w0 (.agg (wv m).toArray) := by
 have e1 := Wd.wrap_hi m h1 h2
 have e2 := Wd.wrap_lo m
 refine c_enter [(0, .int .i64 m)] [] noB Tryz.func57 rfl Tryz.ntmps57 ⟨rfl, trivial⟩ rfl (by simp) (by simp) (by simp) ?_
 intro a hS
 refine cS (cR ?_)
 refine L_op (s_alloc hS ty_z131 rfl ?_); clear hS a; intro a w b2 hS
 refine nL (nT (cS (cR ?_)))
 refine Rn hS (.m rfl <| .c (e_shr (j := 63) rfl (by decide)) <| .c (e_conv rfl ty_u3 ty_u129) <| .m rfl <| .c (e_conv rfl ty_u3 ty_u129) <| .c (e_build ty_z131 ty_pl131 (.one rfl rfl rfl (by repeat constructor) (.one rfl rfl rfl (by repeat constructor) .nil))) .n) ?_; clear hS a; intro a hS
 refine L_op (s_storeA hS rfl rfl ty_sz131 (by repeat constructor) (by rfl) (by rfl) (by rfl) ?_); clear hS; intro w hS
 refine nL (nT (wp_ret ?_))
 refine c_ret1 hS Tryz.results57 (.cellA rfl (by repeat constructor) ty_st131 ty_sz131 (by rfl)) ?_
 exact ⟨by rw [wv, ← e1, ← e2]; rfl, hS.chg⟩
set_option maxRecDepth 100000 in
theorem Add_P (x y : Int) (hx : Wd.fit x) (hy : Wd.fit y) (hs : Wd.fit (x + y)) (w0 : World) : PureC Tryz.prog 104 [.agg (wv x).toArray, .agg (wv y).toArray] w0 (.tuple [.agg (wv (x + y)).toArray, .int .i64 0].toArray) := by
 have i1 := Wd.hi_neg x hx
 have i2 := Wd.hi_neg y hy
 have i3 := Wd.hi_neg (x + y) hs
 refine c_enter [(0, .agg (wv x).toArray), (1, .agg (wv y).toArray)] [] noB Tryz.func104 rfl Tryz.ntmps104 ⟨rfl, rfl, trivial⟩ rfl (by simp) (by simp) (by simp) ?_
 intro a hS
 refine cS (cR ?_)
 refine L_op (s_boxA hS rfl rfl ?_); clear hS a; intro a w b2 hS
 refine L_op (s_boxA hS rfl rfl ?_); clear hS a; intro a w b3 hS
 refine L_op (s_alloc hS ty_z131 rfl ?_); clear hS a; intro a w b4 hS
 refine L_e hS (e_assign rfl) rfl ?_; clear hS a; intro a hS
 refine nL (nT (cS (cR ?_)))
 refine Rn hS (.c (e_fa0 rfl ty_fo131_1) <| .c (e_load rfl (by repeat constructor) ty_sc129 (by rfl)) <| .c (e_fa0 rfl ty_fo131_1) <| .c (e_load rfl (by repeat constructor) ty_sc129 (by rfl)) <| .c (e_extern (.cons rfl (.cons rfl (.cons rfl .nil))) (wadd_lo x y)) <| .m rfl <| .c (e_extract rfl rfl) <| .c (e_extract rfl rfl) <| .a rfl <| .a rfl .n) ?_; clear hS a; intro a hS
 refine nL (nT (cS (cR ?_)))
 refine Rn hS (.c (e_fa0 rfl ty_fo131_0) <| .c (e_load rfl (by repeat constructor) ty_sc129 (by rfl)) <| .c (e_fa0 rfl ty_fo131_0) <| .c (e_load rfl (by repeat constructor) ty_sc129 (by rfl)) <| .m rfl <| .c (e_extern (.cons rfl (.cons rfl (.cons rfl .nil))) (wadd_hi x y)) <| .m rfl <| .c (e_extract rfl rfl) <| .c (e_extract rfl rfl) <| .a rfl <| .a rfl .n) ?_; clear hS a; intro a hS
 refine nL (nT (cS (cR ?_)))
 refine Rn hS (.m rfl <| .m rfl <| .c (e_build ty_z131 ty_pl131 (.one rfl rfl rfl (by repeat constructor) (.one rfl rfl rfl (by repeat constructor) .nil))) .n) ?_; clear hS a; intro a hS
 refine L_op (s_alloc hS ty_z131 rfl ?_); clear hS a; intro a w b10 hS
 refine L_op (s_storeA hS rfl rfl ty_sz131 (by repeat constructor) (by rfl) (by rfl) (by rfl) ?_); clear hS; intro w hS
 refine nL (nT (cS (cS ?_)))
 refine c_draw1 [] (by kernel_rfl) hS ?_; clear hS; intro w hS
 simp only [List.length_cons, List.length_nil, Nat.zero_add, Nat.reduceAdd, List.replicate]
 refine Rz hS (by intro X hX; repeat (first | exact hX | apply List.Mem.tail)) (.y 0 (tf 1 11) rfl wN (e_loadA rfl (by repeat constructor) ty_st131 ty_sz131 (by rfl)) rfl <| .y 2 [true, false, true, false, false, false, false, false, false, false, false, false] rfl wN (e_loadA rfl (by repeat constructor) ty_st131 ty_sz131 (by rfl)) rfl .n) ?_; clear hS a; intro a hS
 refine Zo 1 (tf 3 9) hS rfl wN rfl (s_callP hS (.cons rfl .nil) cf95 rfl (below_P x _) ?_); clear hS a; intro a w hS
 refine Z_and hS (by intro X hX; repeat (first | exact hX | apply List.Mem.tail)) ?_
 refine Zo 3 (tf 4 8) hS rfl wN rfl (s_callP hS (.cons rfl .nil) cf95 rfl (below_P y _) ?_); clear hS a; intro a w hS
 refine Z_and hS (by intro X hX; repeat (first | exact hX | apply List.Mem.tail)) ?_
 refine Ry hS (.o 4 (tf 5 7) rfl wN (e_binB rfl rfl ty_u4 rfl) rfl <| .o 5 (tf 6 6) rfl wN (e_move rfl) rfl .n) ?_; clear hS a; intro a hS
 refine g_splitD (t := 36) hS rfl ?_ ?_ <;> (clear hS; intro hg36 hS)
 ·
  refine Rz hS (by intro X hX; repeat (first | exact hX | apply List.Mem.tail)) (.y 6 (tf 7 5) rfl (want_go rfl rfl) (e_loadA rfl (by repeat constructor) ty_st131 ty_sz131 (by rfl)) rfl <| .y 8 [true, true, true, true, true, true, true, false, true, false, false, false] rfl (want_go rfl rfl) (e_loadA rfl (by repeat constructor) ty_st131 ty_sz131 (by rfl)) rfl .n) ?_; clear hS a; intro a hS
  refine Zo 7 (tf 9 3) hS rfl (want_go rfl rfl) rfl (s_callP hS (.cons rfl .nil) cf95 rfl (below_P (x + y) _) ?_); clear hS a; intro a w hS
  refine Z_and hS (by intro X hX; repeat (first | exact hX | apply List.Mem.tail)) ?_
  refine Zo 9 (tf 10 2) hS rfl (want_go rfl rfl) rfl (s_callP hS (.cons rfl .nil) cf95 rfl (below_P x _) ?_); clear hS a; intro a w hS
  refine Z_and hS (by intro X hX; repeat (first | exact hX | apply List.Mem.tail)) ?_
  refine Ry hS (.o 10 (tf 11 1) rfl (want_go rfl rfl) (e_binBn rfl rfl ty_u4) rfl <| .o 11 (tf 12 0) rfl wN (e_pick_t rfl rfl) rfl .n) ?_; clear hS a; intro a hS
  refine Z_done (by kernel_rfl) ?_
  refine nT ?_
  replace hS := hS.is (t := 42) (c := false) rfl ((by simp; simp at hg36; omega))
  refine c_if_f hS rfl ?_
  refine wS (nT (cS (cR ?_)))
  refine L_e hS (e_loadA rfl (by repeat constructor) ty_st131 ty_sz131 (by rfl)) rfl ?_; clear hS a; intro a hS
  refine L_op (s_storeA hS rfl rfl ty_sz131 (by repeat constructor) (by rfl) (by rfl) (by rfl) ?_); clear hS; intro w hS
  refine L_e hS (e_assign rfl) rfl ?_; clear hS a; intro a hS
  refine nL (nT (wp_ret ?_))
  refine c_retN hS Tryz.results104 (.cons (.cellA rfl (by repeat constructor) ty_st131 ty_sz131 (by rfl)) (.cons (.tmp rfl) .nil)) rfl ?_
  exact ⟨rfl, hS.chg⟩
 refine Ry hS (.t 6 (tf 7 5) rfl rfl rfl rfl <| .t 7 (tf 8 4) rfl rfl rfl rfl <| .t 8 (tf 9 3) rfl rfl rfl rfl <| .t 9 (tf 10 2) rfl rfl rfl rfl <| .t 10 (tf 11 1) rfl rfl rfl rfl <| .o 11 (tf 12 0) rfl wN (e_pick_f rfl rfl) rfl .n) ?_; clear hS a; intro a hS
 refine Z_done (by kernel_rfl) ?_
 refine nT ?_
 refine c_if_f hS rfl ?_
 refine wS (nT (cS (cR ?_)))
 refine L_e hS (e_loadA rfl (by repeat constructor) ty_st131 ty_sz131 (by rfl)) rfl ?_; clear hS a; intro a hS
 refine L_op (s_storeA hS rfl rfl ty_sz131 (by repeat constructor) (by rfl) (by rfl) (by rfl) ?_); clear hS; intro w hS
 refine L_e hS (e_assign rfl) rfl ?_; clear hS a; intro a hS
 refine nL (nT (wp_ret ?_))
 refine c_retN hS Tryz.results104 (.cons (.cellA rfl (by repeat constructor) ty_st131 ty_sz131 (by rfl)) (.cons (.tmp rfl) .nil)) rfl ?_
 exact ⟨rfl, hS.chg⟩
end Go.Proofs.YtheofhegdjjfgaaGreat
namespace Go.Proofs.YtheofhegdjjfgaaGreat
open Go.RowKit
theorem below_via {B B' : Nat} {a b c : World} (h2 : Below B' b c) (h1 : Below B a b) (h3 : B ≤ B') : Below B a c := h1.trans (h2.mono h3)
theorem bcell {W w1 : World} (hb : Below W.heap.size W w1) : (∀ b o, b < W.heap.size → w1.cell? ⟨b, o, none⟩ = W.cell? ⟨b, o, none⟩) ∧ (∀ b o, b < W.heap.size → w1.frozen? ⟨b, o, none⟩ = W.frozen? ⟨b, o, none⟩) :=
 ⟨fun b o h => hb.cell (p := ⟨b, o, none⟩) h, fun b o h => hb.frozen (p := ⟨b, o, none⟩) h⟩
set_option maxHeartbeats 400000 in
theorem below_w (x y : Int) (w : World) :
 Calls Tryz.prog 95 #[.agg #[.int .u64 x, .int .u64 y]] w fun e w' => e = .returned (.bool (decide (9223372036854775808 ≤ x))) ∧ Below w.heap.size w w' := by
 go_enter Tryz.func95, Tryz.ntmps95
 go_wp2
 go_ret
 exact ⟨rfl, (Below.refl _ _).alloc (Nat.le_refl _) _⟩
theorem keptS {W w1 : World} (hb : Below W.heap.size W w1) : Below W.heap.size W w1 ∧ (∀ b o, b < W.heap.size → w1.cell? ⟨b, o, none⟩ = W.cell? ⟨b, o, none⟩) :=
 ⟨hb, fun b o h => hb.cell (p := ⟨b, o, none⟩) h⟩
theorem keptS0 {W w1 : World} (hb : Below W.drew.heap.size W.drew w1) : Below W.heap.size W w1 ∧ (∀ b o, b < W.heap.size → w1.cell? ⟨b, o, none⟩ = W.cell? ⟨b, o, none⟩) :=
 keptS ((Below.drew (Below.refl _ _)).trans hb)
theorem below_two {W w1 w2 : World} (h2 : Below w1.heap.size w1 w2) (h1 : Below W.drew.heap.size W.drew w1) : Below W.heap.size W w2 :=
 (keptS0 h1).1.trans (h2.mono (keptS0 h1).1.size)
theorem run_add64_at (x y c : Int) (hx : 0 ≤ x) (hy : 0 ≤ y) (hc : 0 ≤ c) (hc1 : c ≤ 1) (w : World) :
 (callFunc 119 #[.int .u64 x, .int .u64 y, .int .u64 c]).run Tryz.prog w =
  .ok (.value (.tuple #[.int .u64 ((x + y + c) % 18446744073709551616), .int .u64 ((x + y + c) / 18446744073709551616)])) w := by
 obtain ⟨x, rfl⟩ := Int.eq_ofNat_of_zero_le hx
 obtain ⟨y, rfl⟩ := Int.eq_ofNat_of_zero_le hy
 obtain ⟨c, rfl⟩ := Int.eq_ofNat_of_zero_le hc
 rw [run_callFunc_extern Tryz.func119 (by kernel_rfl) (by kernel_rfl) (by kernel_rfl) (e := add64Entry) (by kernel_rfl), run_add64 x y c (by omega) (by omega) (by omega) (by omega)]
 rfl
theorem run_sub64_at (x y c : Int) (hx : 0 ≤ x) (hy : 0 ≤ y) (hy' : y < 18446744073709551616) (hc : 0 ≤ c) (hc1 : c ≤ 1) (w : World) :
 (callFunc 94 #[.int .u64 x, .int .u64 y, .int .u64 c]).run Tryz.prog w =
  .ok (.value (.tuple #[.int .u64 ((x + 18446744073709551616 - y - c) % 18446744073709551616), .int .u64 (if x < y + c then 1 else 0)])) w := by
 obtain ⟨x, rfl⟩ := Int.eq_ofNat_of_zero_le hx
 obtain ⟨y, rfl⟩ := Int.eq_ofNat_of_zero_le hy
 obtain ⟨c, rfl⟩ := Int.eq_ofNat_of_zero_le hc
 rw [run_callFunc_extern Tryz.func94 (by kernel_rfl) (by kernel_rfl) (by kernel_rfl) (e := sub64Entry) (by kernel_rfl), run_sub64 x y c (by omega)]
 simp only [Result.andThen]
 have e1 : (((x + 18446744073709551616 - y - c) % 18446744073709551616 : Nat) : Int) = ((x : Int) + 18446744073709551616 - y - c) % 18446744073709551616 := by omega
 have e2 : (((if x < y + c then 1 else 0 : Nat)) : Int) = (if (x : Int) < y + c then 1 else 0) := by split <;> split <;> omega
 rw [e1, e2]
theorem sub64_lo (a b : Int) (w : World) : (callFunc 94 #[.int .u64 (Wd.lo a), .int .u64 (Wd.lo b), .int .u64 0]).run Tryz.prog w = .ok (.value (.tuple #[.int .u64 (Wd.lo (a - b)), .int .u64 (Wd.bw a b)])) w := by
 rw [run_sub64_at _ _ _ (Wd.lo_bd a).1 (Wd.lo_bd b).1 (Wd.lo_bd b).2 (by omega) (by omega), Wd.sub_lo]; rfl
theorem sub64_hi (a b : Int) (w : World) : (callFunc 94 #[.int .u64 (Wd.hi a), .int .u64 (Wd.hi b), .int .u64 (Wd.bw a b)]).run Tryz.prog w = .ok (.value (.tuple #[.int .u64 (Wd.hi (a - b)), .int .u64 (Wd.bw2 a b)])) w := by
 rw [run_sub64_at _ _ _ (Wd.hi_bd a).1 (Wd.hi_bd b).1 (Wd.hi_bd b).2 (Wd.bw_bd a b).1 (Wd.bw_bd a b).2, Wd.borrow_hi]; rfl
theorem neg64_lo (b : Int) (w : World) : (callFunc 94 #[.int .u64 0, .int .u64 (Wd.lo b), .int .u64 0]).run Tryz.prog w = .ok (.value (.tuple #[.int .u64 (Wd.lo (-b)), .int .u64 (Wd.bw 0 b)])) w := by
 have h := sub64_lo 0 b w; rw [Int.zero_sub] at h; exact h
theorem neg64_hi (b : Int) (w : World) : (callFunc 94 #[.int .u64 0, .int .u64 (Wd.hi b), .int .u64 (Wd.bw 0 b)]).run Tryz.prog w = .ok (.value (.tuple #[.int .u64 (Wd.hi (-b)), .int .u64 (Wd.bw2 0 b)])) w := by
 have h := sub64_hi 0 b w; rw [Int.zero_sub] at h; exact h
set_option maxHeartbeats 400000 in
theorem turned_w (v : Int) (w : World) :
 Calls Tryz.prog 129 #[Value.agg #[.int .u64 (Wd.hi (v)), .int .u64 (Wd.lo (v))]] w fun e w' => e = .returned (Value.agg #[.int .u64 (Wd.hi (-v)), .int .u64 (Wd.lo (-v))]) ∧ Below w.heap.size w w' := by
 have r1 := fun w => neg64_lo v w
 have r2 := fun w => neg64_hi v w
 go_enter Tryz.func129, Tryz.ntmps129
 go_wp2
 exact bodyPost_ret (v := Value.agg #[.int .u64 (Wd.hi (-v)), .int .u64 (Wd.lo (-v))]) (by simp [results, Tryz.results129, go_sem]) rfl ⟨rfl, by (repeat' (first | exact Below.refl _ _ | assumption | refine Below.drew ?_ | refine Below.alloc ?_ ?_ _ | refine Below.setCell ?_ ?_ _ | (apply below_via; assumption) | (simp; done) | omega | (simp; omega)))⟩
set_option maxHeartbeats 400000 in
theorem size_neg (v : Int) (hf : Wd.fit v) (hn : v < 0) (w : World) :
 Calls Tryz.prog 117 #[Value.agg #[.int .u64 (Wd.hi (v)), .int .u64 (Wd.lo (v))]] w fun e w' => e = .returned (Value.agg #[.int .u64 (Wd.hi (-v)), .int .u64 (Wd.lo (-v))]) ∧ Below w.heap.size w w' := by
 have hd := Wd.hi_ge v hf hn
 go_enter Tryz.func117, Tryz.ntmps117
 go_wp2_with (first | (go_at_call 95; go_must (refine (below_w _ _ _).mono ?_; rintro e w1 ⟨rfl, hb⟩; obtain ⟨hc_hb, hf_hb⟩ := bcell hb; have hz_hb := Below.size hb; (try simp at hz_hb); have z0_hb : w.heap.size < w1.heap.size := (by omega); have z1_hb : w.heap.size + 1 < w1.heap.size := (by omega); have c00_hb := hc_hb (w.heap.size) 0 (by (try simp) <;> omega); have f00_hb := hf_hb (w.heap.size) 0 (by (try simp) <;> omega); have c01_hb := hc_hb (w.heap.size) 1 (by (try simp) <;> omega); have f01_hb := hf_hb (w.heap.size) 1 (by (try simp) <;> omega); have c10_hb := hc_hb (w.heap.size + 1) 0 (by (try simp) <;> omega); have f10_hb := hf_hb (w.heap.size + 1) 0 (by (try simp) <;> omega); have c11_hb := hc_hb (w.heap.size + 1) 1 (by (try simp) <;> omega); have f11_hb := hf_hb (w.heap.size + 1) 1 (by (try simp) <;> omega); clear hc_hb hf_hb; (try simp [*] at c00_hb); (try simp [*] at f00_hb); (try simp [*] at c01_hb); (try simp [*] at f01_hb); (try simp [*] at c10_hb); (try simp [*] at f10_hb); (try simp [*] at c11_hb); (try simp [*] at f11_hb))) | (go_at_call 129; go_must (refine (turned_w _ _).mono ?_; rintro e w2 ⟨rfl, hb2⟩; obtain ⟨hc_hb2, hf_hb2⟩ := bcell hb2; have hz_hb2 := Below.size hb2; (try simp at hz_hb2); have z0_hb2 : w.heap.size < w2.heap.size := (by omega); have z1_hb2 : w.heap.size + 1 < w2.heap.size := (by omega); have c00_hb2 := hc_hb2 (w.heap.size) 0 (by (try simp) <;> omega); have f00_hb2 := hf_hb2 (w.heap.size) 0 (by (try simp) <;> omega); have c01_hb2 := hc_hb2 (w.heap.size) 1 (by (try simp) <;> omega); have f01_hb2 := hf_hb2 (w.heap.size) 1 (by (try simp) <;> omega); have c10_hb2 := hc_hb2 (w.heap.size + 1) 0 (by (try simp) <;> omega); have f10_hb2 := hf_hb2 (w.heap.size + 1) 0 (by (try simp) <;> omega); have c11_hb2 := hc_hb2 (w.heap.size + 1) 1 (by (try simp) <;> omega); have f11_hb2 := hf_hb2 (w.heap.size + 1) 1 (by (try simp) <;> omega); clear hc_hb2 hf_hb2; (try simp [*] at c00_hb2); (try simp [*] at f00_hb2); (try simp [*] at c01_hb2); (try simp [*] at f01_hb2); (try simp [*] at c10_hb2); (try simp [*] at f10_hb2); (try simp [*] at c11_hb2); (try simp [*] at f11_hb2))))
 exact bodyPost_ret (v := Value.agg #[.int .u64 (Wd.hi (-v)), .int .u64 (Wd.lo (-v))]) (by simp [*, results, Tryz.results117, go_sem]) rfl ⟨rfl, by (repeat' (first | exact Below.refl _ _ | assumption | refine Below.drew ?_ | refine Below.alloc ?_ ?_ _ | refine Below.setCell ?_ ?_ _ | (apply below_via; assumption) | (simp; done) | omega | (simp; omega)))⟩
set_option maxHeartbeats 400000 in
theorem size_pos (v : Int) (hf : Wd.fit v) (hn : 0 ≤ v) (w : World) :
 Calls Tryz.prog 117 #[Value.agg #[.int .u64 (Wd.hi (v)), .int .u64 (Wd.lo (v))]] w fun e w' => e = .returned (Value.agg #[.int .u64 (Wd.hi (v)), .int .u64 (Wd.lo (v))]) ∧ Below w.heap.size w w' := by
 have hd := Wd.hi_lt v hf hn
 go_enter Tryz.func117, Tryz.ntmps117
 go_wp2_with (first | (go_at_call 95; go_must (refine (below_w _ _ _).mono ?_; rintro e w1 ⟨rfl, hb⟩; obtain ⟨hc_hb, hf_hb⟩ := bcell hb; have hz_hb := Below.size hb; (try simp at hz_hb); have z0_hb : w.heap.size < w1.heap.size := (by omega); have z1_hb : w.heap.size + 1 < w1.heap.size := (by omega); have c00_hb := hc_hb (w.heap.size) 0 (by (try simp) <;> omega); have f00_hb := hf_hb (w.heap.size) 0 (by (try simp) <;> omega); have c01_hb := hc_hb (w.heap.size) 1 (by (try simp) <;> omega); have f01_hb := hf_hb (w.heap.size) 1 (by (try simp) <;> omega); have c10_hb := hc_hb (w.heap.size + 1) 0 (by (try simp) <;> omega); have f10_hb := hf_hb (w.heap.size + 1) 0 (by (try simp) <;> omega); have c11_hb := hc_hb (w.heap.size + 1) 1 (by (try simp) <;> omega); have f11_hb := hf_hb (w.heap.size + 1) 1 (by (try simp) <;> omega); clear hc_hb hf_hb; (try simp [*] at c00_hb); (try simp [*] at f00_hb); (try simp [*] at c01_hb); (try simp [*] at f01_hb); (try simp [*] at c10_hb); (try simp [*] at f10_hb); (try simp [*] at c11_hb); (try simp [*] at f11_hb))))
 exact bodyPost_ret (v := Value.agg #[.int .u64 (Wd.hi (v)), .int .u64 (Wd.lo (v))]) (by simp [*, results, Tryz.results117, go_sem]) rfl ⟨rfl, by (repeat' (first | exact Below.refl _ _ | assumption | refine Below.drew ?_ | refine Below.alloc ?_ ?_ _ | refine Below.setCell ?_ ?_ _ | (apply below_via; assumption) | (simp; done) | omega | (simp; omega)))⟩
theorem size_w (v : Int) (hf : Wd.fit v) (w : World) :
 Calls Tryz.prog 117 #[Value.agg #[.int .u64 (Wd.hi (v)), .int .u64 (Wd.lo (v))]] w fun e w' => e = .returned (Value.agg #[.int .u64 (Wd.hi (Wd.ab v)), .int .u64 (Wd.lo (Wd.ab v))]) ∧ Below w.heap.size w w' := by
 by_cases hn : v < 0
 · have h := size_neg v hf hn w
   rw [show Wd.ab v = -v from if_pos hn]; exact h
 · have h := size_pos v hf (by omega) w
   rw [show Wd.ab v = v from if_neg hn]; exact h
set_option maxHeartbeats 400000 in
theorem FromInt_w (n : Int) (h1 : -9223372036854775808 ≤ n) (h2 : n < 9223372036854775808) (w : World) :
 Calls Tryz.prog 57 #[.int .i64 n] w fun e w' => e = .returned (Value.agg #[.int .u64 (Wd.hi (n)), .int .u64 (Wd.lo (n))]) ∧ Below w.heap.size w w' := by
 go_enter Tryz.func57, Tryz.ntmps57
 go_wp2
 have e1 := Wd.wrap_lo n
 have e2 := Wd.wrap_hi n h1 h2
 exact bodyPost_ret (v := Value.agg #[.int .u64 (Wd.hi (n)), .int .u64 (Wd.lo (n))]) (by simp [*, results, Tryz.results57, go_sem]) rfl ⟨rfl, by (repeat' (first | exact Below.refl _ _ | assumption | refine Below.drew ?_ | refine Below.alloc ?_ ?_ _ | refine Below.setCell ?_ ?_ _ | (apply below_via; assumption) | (simp; done) | omega | (simp; omega)))⟩
theorem field_size1 (x y : Int) (w : World) : (Instr.field 204 (.agg #[.int .u64 x, .int .u64 y]) 1).run Tryz.prog w = .ok (.int .u64 y) w := by kernel_rfl
set_option maxHeartbeats 400000 in
theorem wordOf_w (n : Int) (h1 : -9223372036854775808 ≤ n) (h2 : n < 9223372036854775808) (w : World) :
 Calls Tryz.prog 115 #[.int .i64 n] w fun e w' => e = .returned (.int .u64 (Wd.ab n)) ∧ Below w.heap.size w w' := by
 have hf : Wd.fit n := by unfold Wd.fit; omega
 have hl := Wd.ab_lo n h1 h2
 have HL := Lib.hid hl
 clear hl
 have hfd := fun x y w => field_size1 x y w
 go_enter Tryz.func115, Tryz.ntmps115
 go_wp2_with (first | (go_at_call 57; go_must (refine (FromInt_w n h1 h2 _).mono ?_; rintro e w1 ⟨rfl, hb⟩)) | (go_at_call 117; go_must (refine (size_w n hf _).mono ?_; rintro e w2 ⟨rfl, hb2⟩)))
 rw [HL.out]
 have hz := hb.size
 go_ret
 exact ⟨rfl, by (repeat' (first | exact Below.refl _ _ | assumption | refine Below.drew ?_ | refine Below.alloc ?_ ?_ _ | refine Below.setCell ?_ ?_ _ | (apply below_via; assumption) | (simp; done) | omega | (simp; omega)))⟩
set_option maxHeartbeats 400000 in
theorem Sign_neg (v : Int) (hf : Wd.fit v) (hn : v < 0) (w : World) :
 Calls Tryz.prog 110 #[Value.agg #[.int .u64 (Wd.hi (v)), .int .u64 (Wd.lo (v))]] w fun e w' => e = .returned (.int .i64 (-1)) ∧ Below w.heap.size w w' := by
 have hd := Wd.hi_ge v hf hn
 go_enter Tryz.func110, Tryz.ntmps110
 go_wp2_with (first | (go_at_call 95; go_must (refine (below_w _ _ _).mono ?_; rintro e w1 ⟨rfl, hb⟩; obtain ⟨hc_hb, hf_hb⟩ := bcell hb; have hz_hb := Below.size hb; (try simp at hz_hb); have z0_hb : w.heap.size < w1.heap.size := (by omega); have c00_hb := hc_hb (w.heap.size) 0 (by (try simp) <;> omega); have f00_hb := hf_hb (w.heap.size) 0 (by (try simp) <;> omega); have c01_hb := hc_hb (w.heap.size) 1 (by (try simp) <;> omega); have f01_hb := hf_hb (w.heap.size) 1 (by (try simp) <;> omega); clear hc_hb hf_hb; (try simp [*] at c00_hb); (try simp [*] at f00_hb); (try simp [*] at c01_hb); (try simp [*] at f01_hb))))
 go_ret
 exact ⟨rfl, by (repeat' (first | exact Below.refl _ _ | assumption | refine Below.drew ?_ | refine Below.alloc ?_ ?_ _ | refine Below.setCell ?_ ?_ _ | (apply below_via; assumption) | (simp; done) | omega | (simp; omega)))⟩
set_option maxHeartbeats 400000 in
theorem Sign_pos (v : Int) (hf : Wd.fit v) (hn : 0 < v) (w : World) :
 Calls Tryz.prog 110 #[Value.agg #[.int .u64 (Wd.hi (v)), .int .u64 (Wd.lo (v))]] w fun e w' => e = .returned (.int .i64 1) ∧ Below w.heap.size w w' := by
 have hd := Wd.hi_lt v hf (by omega)
 by_cases hh : Wd.hi v = 0
 · have h1 : (Wd.hi v == 0) = true := by simp [hh]
   have h2 : (Wd.lo v == 0) = false := by
    have : Wd.lo v ≠ 0 := by unfold Wd.fit at hf; unfold Wd.hi at hh; unfold Wd.lo; omega
    simp [this]
   clear hh
   go_enter Tryz.func110, Tryz.ntmps110
   go_wp2_with (first | (go_at_call 95; go_must (refine (below_w _ _ _).mono ?_; rintro e w1 ⟨rfl, hb⟩; obtain ⟨hc_hb, hf_hb⟩ := bcell hb; have hz_hb := Below.size hb; (try simp at hz_hb); have z0_hb : w.heap.size < w1.heap.size := (by omega); have c00_hb := hc_hb (w.heap.size) 0 (by (try simp) <;> omega); have f00_hb := hf_hb (w.heap.size) 0 (by (try simp) <;> omega); have c01_hb := hc_hb (w.heap.size) 1 (by (try simp) <;> omega); have f01_hb := hf_hb (w.heap.size) 1 (by (try simp) <;> omega); clear hc_hb hf_hb; (try simp [*] at c00_hb); (try simp [*] at f00_hb); (try simp [*] at c01_hb); (try simp [*] at f01_hb))))
   go_ret
   exact ⟨rfl, by (repeat' (first | exact Below.refl _ _ | assumption | refine Below.drew ?_ | refine Below.alloc ?_ ?_ _ | refine Below.setCell ?_ ?_ _ | (apply below_via; assumption) | (simp; done) | omega | (simp; omega)))⟩
 · have h1 : (Wd.hi v == 0) = false := by simp [hh]
   clear hh
   go_enter Tryz.func110, Tryz.ntmps110
   go_wp2_with (first | (go_at_call 95; go_must (refine (below_w _ _ _).mono ?_; rintro e w1 ⟨rfl, hb⟩; obtain ⟨hc_hb, hf_hb⟩ := bcell hb; have hz_hb := Below.size hb; (try simp at hz_hb); have z0_hb : w.heap.size < w1.heap.size := (by omega); have c00_hb := hc_hb (w.heap.size) 0 (by (try simp) <;> omega); have f00_hb := hf_hb (w.heap.size) 0 (by (try simp) <;> omega); have c01_hb := hc_hb (w.heap.size) 1 (by (try simp) <;> omega); have f01_hb := hf_hb (w.heap.size) 1 (by (try simp) <;> omega); clear hc_hb hf_hb; (try simp [*] at c00_hb); (try simp [*] at f00_hb); (try simp [*] at c01_hb); (try simp [*] at f01_hb))))
   go_ret
   exact ⟨rfl, by (repeat' (first | exact Below.refl _ _ | assumption | refine Below.drew ?_ | refine Below.alloc ?_ ?_ _ | refine Below.setCell ?_ ?_ _ | (apply below_via; assumption) | (simp; done) | omega | (simp; omega)))⟩
set_option maxHeartbeats 400000 in
theorem Sign_zero (w : World) :
 Calls Tryz.prog 110 #[Value.agg #[.int .u64 (Wd.hi (0)), .int .u64 (Wd.lo (0))]] w fun e w' => e = .returned (.int .i64 0) ∧ Below w.heap.size w w' := by
 have hd := Wd.hi_lt 0 (by decide) (by omega)
 have h1 : (Wd.hi 0 == 0) = true := rfl
 have h2 : (Wd.lo 0 == 0) = true := rfl
 go_enter Tryz.func110, Tryz.ntmps110
 go_wp2_with (first | (go_at_call 95; go_must (refine (below_w _ _ _).mono ?_; rintro e w1 ⟨rfl, hb⟩; obtain ⟨hc_hb, hf_hb⟩ := bcell hb; have hz_hb := Below.size hb; (try simp at hz_hb); have z0_hb : w.heap.size < w1.heap.size := (by omega); have c00_hb := hc_hb (w.heap.size) 0 (by (try simp) <;> omega); have f00_hb := hf_hb (w.heap.size) 0 (by (try simp) <;> omega); have c01_hb := hc_hb (w.heap.size) 1 (by (try simp) <;> omega); have f01_hb := hf_hb (w.heap.size) 1 (by (try simp) <;> omega); clear hc_hb hf_hb; (try simp [*] at c00_hb); (try simp [*] at f00_hb); (try simp [*] at c01_hb); (try simp [*] at f01_hb))))
 go_ret
 exact ⟨rfl, by (repeat' (first | exact Below.refl _ _ | assumption | refine Below.drew ?_ | refine Below.alloc ?_ ?_ _ | refine Below.setCell ?_ ?_ _ | (apply below_via; assumption) | (simp; done) | omega | (simp; omega)))⟩
theorem Sign_w (v : Int) (hf : Wd.fit v) (w : World) :
 Calls Tryz.prog 110 #[Value.agg #[.int .u64 (Wd.hi (v)), .int .u64 (Wd.lo (v))]] w fun e w' => e = .returned (.int .i64 (Wd.sg v)) ∧ Below w.heap.size w w' := by
 unfold Wd.sg
 by_cases hn : v < 0
 · rw [if_pos hn]; exact Sign_neg v hf hn w
 · by_cases h0 : v = 0
   · subst h0; exact Sign_zero w
   · rw [if_neg hn, if_neg h0]; exact Sign_pos v hf (by omega) w
set_option maxHeartbeats 400000 in
theorem Int_yes (v : Int) (h1 : -9223372036854775808 ≤ v) (h2 : v < 9223372036854775808) (w : World) :
 Calls Tryz.prog 92 #[Value.agg #[.int .u64 (Wd.hi (v)), .int .u64 (Wd.lo (v))]] w fun e w' => e = .returned (.tuple #[.int .i64 v, .int .i64 0]) ∧ Below w.heap.size w w' := by
 have hl : IntKind.i64.wrap (Wd.lo v) = v := by rw [IntKind.wrap_i64]; unfold Wd.lo; omega
 go_enter Tryz.func92, Tryz.ntmps92
 go_wp2
 go_region_held3 (fun w' => w'.cell? ⟨w.heap.size, 0, none⟩ = some (.int .u64 (Wd.hi v)) ∧ w'.cell? ⟨w.heap.size, 1, none⟩ = some (.int .u64 (Wd.lo v)) ∧ w.heap.size < w'.heap.size ∧ Below w.heap.size w w')
  (first | (refine ⟨by simp, by simp, by simp, ?_⟩; (repeat' (first | exact Below.refl _ _ | assumption | refine Below.drew ?_ | refine Below.alloc ?_ ?_ _ | refine Below.setCell ?_ ?_ _ | (apply below_via; assumption) | (simp; done) | omega | (simp; omega)))) | (refine ⟨by simp [*], by simp [*], by (try simp) <;> omega, ?_⟩; (repeat' (first | exact Below.refl _ _ | assumption | refine Below.drew ?_ | refine Below.alloc ?_ ?_ _ | refine Below.setCell ?_ ?_ _ | (apply below_via; assumption) | (simp; done) | omega | (simp; omega)))))
  (first | (go_at_call 57; refine (FromInt_w v h1 h2 _).mono ?_; rintro e w1 ⟨rfl, hb⟩; obtain ⟨hc_hb, hf_hb⟩ := bcell hb; have hz_hb := Below.size hb; (try simp at hz_hb); have z0_hb : w.heap.size < w1.heap.size := (by omega); have c00_hb := hc_hb (w.heap.size) 0 (by (try simp) <;> omega); have f00_hb := hf_hb (w.heap.size) 0 (by (try simp) <;> omega); have c01_hb := hc_hb (w.heap.size) 1 (by (try simp) <;> omega); have f01_hb := hf_hb (w.heap.size) 1 (by (try simp) <;> omega); clear hc_hb hf_hb; (try simp [*] at c00_hb); (try simp [*] at f00_hb); (try simp [*] at c01_hb); (try simp [*] at f01_hb)))
 go_wp2
 go_ret2
 refine ⟨rfl, ?_⟩
 (repeat' (first | exact Below.refl _ _ | assumption | refine Below.drew ?_ | refine Below.alloc ?_ ?_ _ | refine Below.setCell ?_ ?_ _ | (apply below_via; assumption) | (simp; done) | omega | (simp; omega)))
set_option maxHeartbeats 400000 in
theorem Int_no (v : Int) (hf : Wd.fit v) (h : v < -9223372036854775808 ∨ 9223372036854775808 ≤ v) (w : World) :
 Calls Tryz.prog 92 #[Value.agg #[.int .u64 (Wd.hi (v)), .int .u64 (Wd.lo (v))]] w fun e w' => e = .returned (.tuple #[.int .i64 0, .int .i64 16]) ∧ Below w.heap.size w w' := by
 have hbk := Wd.back_eq v
 have hl := Wd.back_bd v
 have hne := Wd.back_ne v hf h
 have hlo := Wd.back_lo v
 go_enter Tryz.func92, Tryz.ntmps92
 go_wp2
 go_region_held3 (fun w' => w'.cell? ⟨w.heap.size, 0, none⟩ = some (.int .u64 (Wd.hi v)) ∧ w'.cell? ⟨w.heap.size, 1, none⟩ = some (.int .u64 (Wd.lo v)) ∧ w.heap.size < w'.heap.size ∧ Below w.heap.size w w')
  (first | (refine ⟨by simp, by simp, by simp, ?_⟩; (repeat' (first | exact Below.refl _ _ | assumption | refine Below.drew ?_ | refine Below.alloc ?_ ?_ _ | refine Below.setCell ?_ ?_ _ | (apply below_via; assumption) | (simp; done) | omega | (simp; omega)))) | (refine ⟨by simp [*], by simp [*], by (try simp) <;> omega, ?_⟩; (repeat' (first | exact Below.refl _ _ | assumption | refine Below.drew ?_ | refine Below.alloc ?_ ?_ _ | refine Below.setCell ?_ ?_ _ | (apply below_via; assumption) | (simp; done) | omega | (simp; omega)))))
  (first | (go_at_call 57; refine (FromInt_w _ hl.1 hl.2 _).mono ?_; rintro e w1 ⟨rfl, hb⟩; obtain ⟨hc_hb, hf_hb⟩ := bcell hb; have hz_hb := Below.size hb; (try simp at hz_hb); have z0_hb : w.heap.size < w1.heap.size := (by omega); have c00_hb := hc_hb (w.heap.size) 0 (by (try simp) <;> omega); have f00_hb := hf_hb (w.heap.size) 0 (by (try simp) <;> omega); have c01_hb := hc_hb (w.heap.size) 1 (by (try simp) <;> omega); have f01_hb := hf_hb (w.heap.size) 1 (by (try simp) <;> omega); clear hc_hb hf_hb; (try simp [*] at c00_hb); (try simp [*] at f00_hb); (try simp [*] at c01_hb); (try simp [*] at f01_hb)))
 go_wp2
 go_ret2
 refine ⟨rfl, ?_⟩
 (repeat' (first | exact Below.refl _ _ | assumption | refine Below.drew ?_ | refine Below.alloc ?_ ?_ _ | refine Below.setCell ?_ ?_ _ | (apply below_via; assumption) | (simp; done) | omega | (simp; omega)))
def inU (n : Int) : Prop := -4611686018427387904 ≤ n ∧ n ≤ 4611686018427387904
instance (n : Int) : Decidable (inU n) := by unfold inU; infer_instance
def inst (n : Int) : Prop := 0 ≤ n ∧ n ≤ 1099511627776
instance (n : Int) : Decidable (inst n) := by unfold inst; infer_instance
set_option maxRecDepth 100000 in
theorem Within_P (n : Int) (w0 : World) : PureC Tryz.prog 93 [.int .i64 n] w0 (.bool (decide (inU n))) := by
 refine c_enter [(0, .int .i64 n)] [] noB Tryz.func93 rfl Tryz.ntmps93 ⟨rfl, trivial⟩ rfl (by simp) (by simp) (by simp) ?_
 intro a hS
 refine cS (cR ?_)
 refine L_e hS (e_assign rfl) rfl ?_; clear hS a; intro a hS
 refine nL (nT (cS (cR ?_)))
 refine Rn hS (.m rfl <| .c (e_bin rfl rfl rfl) <| .m rfl .n) ?_; clear hS a; intro a hS
 refine L_merge 3 8 (.bool (decide (inU n))) hS ?_ ?_
 · intro hcM8
   refine g_splitD (t := 5) hS rfl ?_ ?_ <;> (clear hS; intro hg5 hS)
   ·
    refine Rn hS (.g rfl rfl (e_move rfl) <| .g rfl rfl (e_bin rfl rfl rfl) <| .c (e_pick_t rfl rfl) .n) ?_; clear hS a; intro a hS
    exact hcM8 _ _ (hS.ends 4 8 5 rfl (congrArg Value.bool (by exact decide_eq_decide.2 (by unfold inU; omega))) rfl rfl (by first | exact congrArg Value.bool (decide_eq_true hg5).symm | exact congrArg Value.bool hg5.symm | simp [hg5]) rfl)
   refine Rn hS (.t rfl rfl <| .t rfl rfl <| .c (e_pick_f rfl rfl) .n) ?_; clear hS a; intro a hS
   exact hcM8 _ _ (hS.ends 4 8 5 rfl (congrArg Value.bool (by exact (decide_eq_false (by unfold inU; omega)).symm)) rfl rfl (by first | exact congrArg Value.bool (decide_eq_false hg5).symm | exact congrArg Value.bool hg5.symm | simp [hg5]) rfl)
 · clear hS a; intro a w hS
   simp only [List.drop_succ_cons, List.drop_zero]
   refine L_e hS (e_assign rfl) rfl ?_; clear hS a; intro a hS
   refine nL (nT (wp_ret ?_))
   refine c_ret1 hS Tryz.results93 (.tmp rfl) ?_
   exact ⟨rfl, hS.chg⟩
theorem scale_err (s : ByteArray) : (scaleR s).2 = 0 ∨ (scaleR s).2 = 18 := by unfold scaleR; split <;> simp
def intE (v : Int) : Int × Int := if -9223372036854775808 ≤ v ∧ v < 9223372036854775808 then (v, 0) else (0, 16)
namespace Wd
theorem size_lt (s : Int) (h0 : 0 ≤ s) (h : s < 170141183460469231731687303715884105728) : decide (9223372036854775808 ≤ hi s) = false := hi_lt s (by unfold fit; omega) h0
theorem size_ge (s : Int) (h0 : 170141183460469231731687303715884105728 ≤ s) (h : s < 340282366920938463463374607431768211456) : decide (9223372036854775808 ≤ hi s) = true := by
 have : 9223372036854775808 ≤ hi s := by unfold hi; omega
 simpa using this
theorem size_ne (s : Int) (h0 : 170141183460469231731687303715884105728 ≤ s) (h : s < 340282366920938463463374607431768211456) : (hi s != 0) = true := by
 have : hi s ≠ 0 := by unfold hi; omega
 simpa using this
theorem turn_ge (s : Int) (h0 : 0 < s) (h : s ≤ 170141183460469231731687303715884105728) : decide (9223372036854775808 ≤ hi (-s)) = true := hi_ge (-s) (by unfold fit; omega) (by omega)
theorem turn_lt (s : Int) (h0 : 170141183460469231731687303715884105728 < s) (h : s < 340282366920938463463374607431768211456) : decide (9223372036854775808 ≤ hi (-s)) = false := by
 have : ¬ 9223372036854775808 ≤ hi (-s) := by unfold hi; omega
 simpa using this
def tr (v : Int) : Int := if fit v then v else 0
def er (v : Int) : Int := if fit v then 0 else 16
theorem tr_of {v : Int} (h : fit v) : tr v = v := if_pos h
theorem er_of {v : Int} (h : fit v) : er v = 0 := if_pos h
theorem tr_no {v : Int} (h : ¬ fit v) : tr v = 0 := if_neg h
theorem er_no {v : Int} (h : ¬ fit v) : er v = 16 := if_neg h
def sv (neg : Bool) (s : Int) : Int := if neg = true then -s else s
theorem word_mul {x y : Int} (hx : 0 ≤ x) (hx1 : x < 18446744073709551616) (hy : 0 ≤ y) (hy1 : y < 18446744073709551616) : 0 ≤ x * y ∧ x * y ≤ 340282366920938463426481119284349108225 :=
 ⟨Int.mul_nonneg hx hy, by have := Int.mul_le_mul (a := x) (b := y) (c := 18446744073709551615) (d := 18446744073709551615) (by omega) (by omega) hy (by omega); omega⟩
theorem half_mul {x y : Int} (hx : 0 ≤ x) (hx1 : x ≤ 9223372036854775808) (hy : 0 ≤ y) (hy1 : y ≤ 9223372036854775808) : 0 ≤ x * y ∧ x * y ≤ 85070591730234615865843651857942052864 :=
 ⟨Int.mul_nonneg hx hy, by have := Int.mul_le_mul (a := x) (b := y) (c := 9223372036854775808) (d := 9223372036854775808) hx1 hy1 hy (by omega); omega⟩
theorem ab_bd (n : Int) (h1 : -9223372036854775808 ≤ n) (h2 : n < 9223372036854775808) : 0 ≤ ab n ∧ ab n ≤ 9223372036854775808 := by unfold ab; split <;> omega
theorem sv_mul (a b : Int) : sv (!(decide (a < 0) == decide (b < 0))) (ab a * ab b) = a * b := by
 unfold ab sv
 by_cases ha : a < 0 <;> by_cases hb : b < 0 <;> simp [ha, hb, Int.neg_mul, Int.mul_neg]
end Wd
set_option maxHeartbeats 1000000 in
theorem signed_ff (s : Int) (h0 : 0 ≤ s) (h : s < 170141183460469231731687303715884105728) (w : World) :
 Calls Tryz.prog 116 #[Value.agg #[.int .u64 (Wd.hi (s)), .int .u64 (Wd.lo (s))], .bool false] w fun e w' => e = .returned (.tuple #[Value.agg #[.int .u64 (Wd.hi (s)), .int .u64 (Wd.lo (s))], .int .i64 0]) ∧ Below w.heap.size w w' := by
 have hd := Wd.size_lt s h0 h
 go_enter Tryz.func116, Tryz.ntmps116
 go_wp2_with (first | (go_at_call 95; go_must (refine (below_w _ _ _).mono ?_; rintro e w1 ⟨rfl, hb⟩; obtain ⟨hc_hb, hf_hb⟩ := bcell hb; have hz_hb := Below.size hb; (try simp at hz_hb); have z0_hb : w.heap.size < w1.heap.size := (by omega); have z1_hb : w.heap.size + 1 < w1.heap.size := (by omega); have z2_hb : w.heap.size + 1 + 1 < w1.heap.size := (by omega); have c00_hb := hc_hb (w.heap.size) 0 (by (try simp) <;> omega); have f00_hb := hf_hb (w.heap.size) 0 (by (try simp) <;> omega); have c01_hb := hc_hb (w.heap.size) 1 (by (try simp) <;> omega); have f01_hb := hf_hb (w.heap.size) 1 (by (try simp) <;> omega); have c10_hb := hc_hb (w.heap.size + 1) 0 (by (try simp) <;> omega); have f10_hb := hf_hb (w.heap.size + 1) 0 (by (try simp) <;> omega); have c11_hb := hc_hb (w.heap.size + 1) 1 (by (try simp) <;> omega); have f11_hb := hf_hb (w.heap.size + 1) 1 (by (try simp) <;> omega); have c20_hb := hc_hb (w.heap.size + 1 + 1) 0 (by (try simp) <;> omega); have f20_hb := hf_hb (w.heap.size + 1 + 1) 0 (by (try simp) <;> omega); have c21_hb := hc_hb (w.heap.size + 1 + 1) 1 (by (try simp) <;> omega); have f21_hb := hf_hb (w.heap.size + 1 + 1) 1 (by (try simp) <;> omega); clear hc_hb hf_hb; (try simp [*] at c00_hb); (try simp [*] at f00_hb); (try simp [*] at c01_hb); (try simp [*] at f01_hb); (try simp [*] at c10_hb); (try simp [*] at f10_hb); (try simp [*] at c11_hb); (try simp [*] at f11_hb); (try simp [*] at c20_hb); (try simp [*] at f20_hb); (try simp [*] at c21_hb); (try simp [*] at f21_hb))))
 exact bodyPost_ret (v := .tuple #[Value.agg #[.int .u64 (Wd.hi (s)), .int .u64 (Wd.lo (s))], .int .i64 0]) (by simp [*, results, Tryz.results116, go_sem]) rfl ⟨rfl, by (repeat' (first | exact Below.refl _ _ | assumption | refine Below.drew ?_ | refine Below.alloc ?_ ?_ _ | refine Below.setCell ?_ ?_ _ | (apply below_via; assumption) | (simp; done) | omega | (simp; omega)))⟩
set_option maxHeartbeats 1000000 in
theorem signed_tt (s : Int) (h0 : 0 < s) (h : s ≤ 170141183460469231731687303715884105728) (w : World) :
 Calls Tryz.prog 116 #[Value.agg #[.int .u64 (Wd.hi (s)), .int .u64 (Wd.lo (s))], .bool true] w fun e w' => e = .returned (.tuple #[Value.agg #[.int .u64 (Wd.hi (-s)), .int .u64 (Wd.lo (-s))], .int .i64 0]) ∧ Below w.heap.size w w' := by
 have hd := Wd.turn_ge s h0 h
 go_enter Tryz.func116, Tryz.ntmps116
 go_wp2_with (first | (go_at_call 129; go_must (refine (turned_w _ _).mono ?_; rintro e w0 ⟨rfl, ha⟩; obtain ⟨hc_ha, hf_ha⟩ := bcell ha; have hz_ha := Below.size ha; (try simp at hz_ha); have z0_ha : w.heap.size < w0.heap.size := (by omega); have z1_ha : w.heap.size + 1 < w0.heap.size := (by omega); have z2_ha : w.heap.size + 1 + 1 < w0.heap.size := (by omega); have c00_ha := hc_ha (w.heap.size) 0 (by (try simp) <;> omega); have f00_ha := hf_ha (w.heap.size) 0 (by (try simp) <;> omega); have c01_ha := hc_ha (w.heap.size) 1 (by (try simp) <;> omega); have f01_ha := hf_ha (w.heap.size) 1 (by (try simp) <;> omega); have c10_ha := hc_ha (w.heap.size + 1) 0 (by (try simp) <;> omega); have f10_ha := hf_ha (w.heap.size + 1) 0 (by (try simp) <;> omega); have c11_ha := hc_ha (w.heap.size + 1) 1 (by (try simp) <;> omega); have f11_ha := hf_ha (w.heap.size + 1) 1 (by (try simp) <;> omega); have c20_ha := hc_ha (w.heap.size + 1 + 1) 0 (by (try simp) <;> omega); have f20_ha := hf_ha (w.heap.size + 1 + 1) 0 (by (try simp) <;> omega); have c21_ha := hc_ha (w.heap.size + 1 + 1) 1 (by (try simp) <;> omega); have f21_ha := hf_ha (w.heap.size + 1 + 1) 1 (by (try simp) <;> omega); clear hc_ha hf_ha; (try simp [*] at c00_ha); (try simp [*] at f00_ha); (try simp [*] at c01_ha); (try simp [*] at f01_ha); (try simp [*] at c10_ha); (try simp [*] at f10_ha); (try simp [*] at c11_ha); (try simp [*] at f11_ha); (try simp [*] at c20_ha); (try simp [*] at f20_ha); (try simp [*] at c21_ha); (try simp [*] at f21_ha))) | (go_at_call 95; go_must (refine (below_w _ _ _).mono ?_; rintro e w1 ⟨rfl, hb⟩; obtain ⟨hc_hb, hf_hb⟩ := bcell hb; have hz_hb := Below.size hb; (try simp at hz_hb); have z0_hb : w.heap.size < w1.heap.size := (by omega); have z1_hb : w.heap.size + 1 < w1.heap.size := (by omega); have z2_hb : w.heap.size + 1 + 1 < w1.heap.size := (by omega); have c00_hb := hc_hb (w.heap.size) 0 (by (try simp) <;> omega); have f00_hb := hf_hb (w.heap.size) 0 (by (try simp) <;> omega); have c01_hb := hc_hb (w.heap.size) 1 (by (try simp) <;> omega); have f01_hb := hf_hb (w.heap.size) 1 (by (try simp) <;> omega); have c10_hb := hc_hb (w.heap.size + 1) 0 (by (try simp) <;> omega); have f10_hb := hf_hb (w.heap.size + 1) 0 (by (try simp) <;> omega); have c11_hb := hc_hb (w.heap.size + 1) 1 (by (try simp) <;> omega); have f11_hb := hf_hb (w.heap.size + 1) 1 (by (try simp) <;> omega); have c20_hb := hc_hb (w.heap.size + 1 + 1) 0 (by (try simp) <;> omega); have f20_hb := hf_hb (w.heap.size + 1 + 1) 0 (by (try simp) <;> omega); have c21_hb := hc_hb (w.heap.size + 1 + 1) 1 (by (try simp) <;> omega); have f21_hb := hf_hb (w.heap.size + 1 + 1) 1 (by (try simp) <;> omega); clear hc_hb hf_hb; (try simp [*] at c00_hb); (try simp [*] at f00_hb); (try simp [*] at c01_hb); (try simp [*] at f01_hb); (try simp [*] at c10_hb); (try simp [*] at f10_hb); (try simp [*] at c11_hb); (try simp [*] at f11_hb); (try simp [*] at c20_hb); (try simp [*] at f20_hb); (try simp [*] at c21_hb); (try simp [*] at f21_hb))))
 exact bodyPost_ret (v := .tuple #[Value.agg #[.int .u64 (Wd.hi (-s)), .int .u64 (Wd.lo (-s))], .int .i64 0]) (by simp [*, results, Tryz.results116, go_sem]) rfl ⟨rfl, by (repeat' (first | exact Below.refl _ _ | assumption | refine Below.drew ?_ | refine Below.alloc ?_ ?_ _ | refine Below.setCell ?_ ?_ _ | (apply below_via; assumption) | (simp; done) | omega | (simp; omega)))⟩
set_option maxHeartbeats 1000000 in
theorem signed_t0 (w : World) :
 Calls Tryz.prog 116 #[Value.agg #[.int .u64 (Wd.hi (0)), .int .u64 (Wd.lo (0))], .bool true] w fun e w' => e = .returned (.tuple #[Value.agg #[.int .u64 (Wd.hi (0)), .int .u64 (Wd.lo (0))], .int .i64 0]) ∧ Below w.heap.size w w' := by
 have hd := Wd.size_lt (-0) (by omega) (by omega)
 have e1 : (Wd.hi 0 != 0) = false := rfl
 have e2 : (Wd.lo 0 != 0) = false := rfl
 go_enter Tryz.func116, Tryz.ntmps116
 go_wp2_with (first | (go_at_call 129; go_must (refine (turned_w _ _).mono ?_; rintro e w0 ⟨rfl, ha⟩; obtain ⟨hc_ha, hf_ha⟩ := bcell ha; have hz_ha := Below.size ha; (try simp at hz_ha); have z0_ha : w.heap.size < w0.heap.size := (by omega); have z1_ha : w.heap.size + 1 < w0.heap.size := (by omega); have z2_ha : w.heap.size + 1 + 1 < w0.heap.size := (by omega); have c00_ha := hc_ha (w.heap.size) 0 (by (try simp) <;> omega); have f00_ha := hf_ha (w.heap.size) 0 (by (try simp) <;> omega); have c01_ha := hc_ha (w.heap.size) 1 (by (try simp) <;> omega); have f01_ha := hf_ha (w.heap.size) 1 (by (try simp) <;> omega); have c10_ha := hc_ha (w.heap.size + 1) 0 (by (try simp) <;> omega); have f10_ha := hf_ha (w.heap.size + 1) 0 (by (try simp) <;> omega); have c11_ha := hc_ha (w.heap.size + 1) 1 (by (try simp) <;> omega); have f11_ha := hf_ha (w.heap.size + 1) 1 (by (try simp) <;> omega); have c20_ha := hc_ha (w.heap.size + 1 + 1) 0 (by (try simp) <;> omega); have f20_ha := hf_ha (w.heap.size + 1 + 1) 0 (by (try simp) <;> omega); have c21_ha := hc_ha (w.heap.size + 1 + 1) 1 (by (try simp) <;> omega); have f21_ha := hf_ha (w.heap.size + 1 + 1) 1 (by (try simp) <;> omega); clear hc_ha hf_ha; (try simp [*] at c00_ha); (try simp [*] at f00_ha); (try simp [*] at c01_ha); (try simp [*] at f01_ha); (try simp [*] at c10_ha); (try simp [*] at f10_ha); (try simp [*] at c11_ha); (try simp [*] at f11_ha); (try simp [*] at c20_ha); (try simp [*] at f20_ha); (try simp [*] at c21_ha); (try simp [*] at f21_ha))) | (go_at_call 95; go_must (refine (below_w _ _ _).mono ?_; rintro e w1 ⟨rfl, hb⟩; obtain ⟨hc_hb, hf_hb⟩ := bcell hb; have hz_hb := Below.size hb; (try simp at hz_hb); have z0_hb : w.heap.size < w1.heap.size := (by omega); have z1_hb : w.heap.size + 1 < w1.heap.size := (by omega); have z2_hb : w.heap.size + 1 + 1 < w1.heap.size := (by omega); have c00_hb := hc_hb (w.heap.size) 0 (by (try simp) <;> omega); have f00_hb := hf_hb (w.heap.size) 0 (by (try simp) <;> omega); have c01_hb := hc_hb (w.heap.size) 1 (by (try simp) <;> omega); have f01_hb := hf_hb (w.heap.size) 1 (by (try simp) <;> omega); have c10_hb := hc_hb (w.heap.size + 1) 0 (by (try simp) <;> omega); have f10_hb := hf_hb (w.heap.size + 1) 0 (by (try simp) <;> omega); have c11_hb := hc_hb (w.heap.size + 1) 1 (by (try simp) <;> omega); have f11_hb := hf_hb (w.heap.size + 1) 1 (by (try simp) <;> omega); have c20_hb := hc_hb (w.heap.size + 1 + 1) 0 (by (try simp) <;> omega); have f20_hb := hf_hb (w.heap.size + 1 + 1) 0 (by (try simp) <;> omega); have c21_hb := hc_hb (w.heap.size + 1 + 1) 1 (by (try simp) <;> omega); have f21_hb := hf_hb (w.heap.size + 1 + 1) 1 (by (try simp) <;> omega); clear hc_hb hf_hb; (try simp [*] at c00_hb); (try simp [*] at f00_hb); (try simp [*] at c01_hb); (try simp [*] at f01_hb); (try simp [*] at c10_hb); (try simp [*] at f10_hb); (try simp [*] at c11_hb); (try simp [*] at f11_hb); (try simp [*] at c20_hb); (try simp [*] at f20_hb); (try simp [*] at c21_hb); (try simp [*] at f21_hb))))
 exact bodyPost_ret (v := .tuple #[Value.agg #[.int .u64 (Wd.hi (0)), .int .u64 (Wd.lo (0))], .int .i64 0]) (by simp [*, results, Tryz.results116, go_sem, Wd.hi_zero, Wd.lo_zero]) rfl ⟨rfl, by (repeat' (first | exact Below.refl _ _ | assumption | refine Below.drew ?_ | refine Below.alloc ?_ ?_ _ | refine Below.setCell ?_ ?_ _ | (apply below_via; assumption) | (simp; done) | omega | (simp; omega)))⟩
set_option maxHeartbeats 1000000 in
theorem signed_fo (s : Int) (h0 : 170141183460469231731687303715884105728 ≤ s) (h : s < 340282366920938463463374607431768211456) (w : World) :
 Calls Tryz.prog 116 #[Value.agg #[.int .u64 (Wd.hi (s)), .int .u64 (Wd.lo (s))], .bool false] w fun e w' => e = .returned (.tuple #[Value.agg #[.int .u64 (Wd.hi (0)), .int .u64 (Wd.lo (0))], .int .i64 16]) ∧ Below w.heap.size w w' := by
 have hd := Wd.size_ge s h0 h
 have hne := Wd.size_ne s h0 h
 go_enter Tryz.func116, Tryz.ntmps116
 go_wp2_with (first | (go_at_call 95; go_must (refine (below_w _ _ _).mono ?_; rintro e w1 ⟨rfl, hb⟩; obtain ⟨hc_hb, hf_hb⟩ := bcell hb; have hz_hb := Below.size hb; (try simp at hz_hb); have z0_hb : w.heap.size < w1.heap.size := (by omega); have z1_hb : w.heap.size + 1 < w1.heap.size := (by omega); have z2_hb : w.heap.size + 1 + 1 < w1.heap.size := (by omega); have c00_hb := hc_hb (w.heap.size) 0 (by (try simp) <;> omega); have f00_hb := hf_hb (w.heap.size) 0 (by (try simp) <;> omega); have c01_hb := hc_hb (w.heap.size) 1 (by (try simp) <;> omega); have f01_hb := hf_hb (w.heap.size) 1 (by (try simp) <;> omega); have c10_hb := hc_hb (w.heap.size + 1) 0 (by (try simp) <;> omega); have f10_hb := hf_hb (w.heap.size + 1) 0 (by (try simp) <;> omega); have c11_hb := hc_hb (w.heap.size + 1) 1 (by (try simp) <;> omega); have f11_hb := hf_hb (w.heap.size + 1) 1 (by (try simp) <;> omega); have c20_hb := hc_hb (w.heap.size + 1 + 1) 0 (by (try simp) <;> omega); have f20_hb := hf_hb (w.heap.size + 1 + 1) 0 (by (try simp) <;> omega); have c21_hb := hc_hb (w.heap.size + 1 + 1) 1 (by (try simp) <;> omega); have f21_hb := hf_hb (w.heap.size + 1 + 1) 1 (by (try simp) <;> omega); clear hc_hb hf_hb; (try simp [*] at c00_hb); (try simp [*] at f00_hb); (try simp [*] at c01_hb); (try simp [*] at f01_hb); (try simp [*] at c10_hb); (try simp [*] at f10_hb); (try simp [*] at c11_hb); (try simp [*] at f11_hb); (try simp [*] at c20_hb); (try simp [*] at f20_hb); (try simp [*] at c21_hb); (try simp [*] at f21_hb))))
 exact bodyPost_ret (v := .tuple #[Value.agg #[.int .u64 (Wd.hi (0)), .int .u64 (Wd.lo (0))], .int .i64 16]) (by simp [*, results, Tryz.results116, go_sem, Wd.hi_zero, Wd.lo_zero]) rfl ⟨rfl, by (repeat' (first | exact Below.refl _ _ | assumption | refine Below.drew ?_ | refine Below.alloc ?_ ?_ _ | refine Below.setCell ?_ ?_ _ | (apply below_via; assumption) | (simp; done) | omega | (simp; omega)))⟩
set_option maxHeartbeats 1000000 in
theorem signed_to (s : Int) (h0 : 170141183460469231731687303715884105728 < s) (h : s < 340282366920938463463374607431768211456) (w : World) :
 Calls Tryz.prog 116 #[Value.agg #[.int .u64 (Wd.hi (s)), .int .u64 (Wd.lo (s))], .bool true] w fun e w' => e = .returned (.tuple #[Value.agg #[.int .u64 (Wd.hi (0)), .int .u64 (Wd.lo (0))], .int .i64 16]) ∧ Below w.heap.size w w' := by
 have hd := Wd.turn_lt s h0 h
 have hne := Wd.size_ne s (by omega) h
 go_enter Tryz.func116, Tryz.ntmps116
 go_wp2_with (first | (go_at_call 129; go_must (refine (turned_w _ _).mono ?_; rintro e w0 ⟨rfl, ha⟩; obtain ⟨hc_ha, hf_ha⟩ := bcell ha; have hz_ha := Below.size ha; (try simp at hz_ha); have z0_ha : w.heap.size < w0.heap.size := (by omega); have z1_ha : w.heap.size + 1 < w0.heap.size := (by omega); have z2_ha : w.heap.size + 1 + 1 < w0.heap.size := (by omega); have c00_ha := hc_ha (w.heap.size) 0 (by (try simp) <;> omega); have f00_ha := hf_ha (w.heap.size) 0 (by (try simp) <;> omega); have c01_ha := hc_ha (w.heap.size) 1 (by (try simp) <;> omega); have f01_ha := hf_ha (w.heap.size) 1 (by (try simp) <;> omega); have c10_ha := hc_ha (w.heap.size + 1) 0 (by (try simp) <;> omega); have f10_ha := hf_ha (w.heap.size + 1) 0 (by (try simp) <;> omega); have c11_ha := hc_ha (w.heap.size + 1) 1 (by (try simp) <;> omega); have f11_ha := hf_ha (w.heap.size + 1) 1 (by (try simp) <;> omega); have c20_ha := hc_ha (w.heap.size + 1 + 1) 0 (by (try simp) <;> omega); have f20_ha := hf_ha (w.heap.size + 1 + 1) 0 (by (try simp) <;> omega); have c21_ha := hc_ha (w.heap.size + 1 + 1) 1 (by (try simp) <;> omega); have f21_ha := hf_ha (w.heap.size + 1 + 1) 1 (by (try simp) <;> omega); clear hc_ha hf_ha; (try simp [*] at c00_ha); (try simp [*] at f00_ha); (try simp [*] at c01_ha); (try simp [*] at f01_ha); (try simp [*] at c10_ha); (try simp [*] at f10_ha); (try simp [*] at c11_ha); (try simp [*] at f11_ha); (try simp [*] at c20_ha); (try simp [*] at f20_ha); (try simp [*] at c21_ha); (try simp [*] at f21_ha))) | (go_at_call 95; go_must (refine (below_w _ _ _).mono ?_; rintro e w1 ⟨rfl, hb⟩; obtain ⟨hc_hb, hf_hb⟩ := bcell hb; have hz_hb := Below.size hb; (try simp at hz_hb); have z0_hb : w.heap.size < w1.heap.size := (by omega); have z1_hb : w.heap.size + 1 < w1.heap.size := (by omega); have z2_hb : w.heap.size + 1 + 1 < w1.heap.size := (by omega); have c00_hb := hc_hb (w.heap.size) 0 (by (try simp) <;> omega); have f00_hb := hf_hb (w.heap.size) 0 (by (try simp) <;> omega); have c01_hb := hc_hb (w.heap.size) 1 (by (try simp) <;> omega); have f01_hb := hf_hb (w.heap.size) 1 (by (try simp) <;> omega); have c10_hb := hc_hb (w.heap.size + 1) 0 (by (try simp) <;> omega); have f10_hb := hf_hb (w.heap.size + 1) 0 (by (try simp) <;> omega); have c11_hb := hc_hb (w.heap.size + 1) 1 (by (try simp) <;> omega); have f11_hb := hf_hb (w.heap.size + 1) 1 (by (try simp) <;> omega); have c20_hb := hc_hb (w.heap.size + 1 + 1) 0 (by (try simp) <;> omega); have f20_hb := hf_hb (w.heap.size + 1 + 1) 0 (by (try simp) <;> omega); have c21_hb := hc_hb (w.heap.size + 1 + 1) 1 (by (try simp) <;> omega); have f21_hb := hf_hb (w.heap.size + 1 + 1) 1 (by (try simp) <;> omega); clear hc_hb hf_hb; (try simp [*] at c00_hb); (try simp [*] at f00_hb); (try simp [*] at c01_hb); (try simp [*] at f01_hb); (try simp [*] at c10_hb); (try simp [*] at f10_hb); (try simp [*] at c11_hb); (try simp [*] at f11_hb); (try simp [*] at c20_hb); (try simp [*] at f20_hb); (try simp [*] at c21_hb); (try simp [*] at f21_hb))))
 exact bodyPost_ret (v := .tuple #[Value.agg #[.int .u64 (Wd.hi (0)), .int .u64 (Wd.lo (0))], .int .i64 16]) (by simp [*, results, Tryz.results116, go_sem, Wd.hi_zero, Wd.lo_zero]) rfl ⟨rfl, by (repeat' (first | exact Below.refl _ _ | assumption | refine Below.drew ?_ | refine Below.alloc ?_ ?_ _ | refine Below.setCell ?_ ?_ _ | (apply below_via; assumption) | (simp; done) | omega | (simp; omega)))⟩
theorem signed_w (s : Int) (neg : Bool) (h0 : 0 ≤ s) (h1 : s < 340282366920938463463374607431768211456) (w : World) :
 Calls Tryz.prog 116 #[Value.agg #[.int .u64 (Wd.hi (s)), .int .u64 (Wd.lo (s))], .bool neg] w fun e w' => e = .returned (.tuple #[Value.agg #[.int .u64 (Wd.hi (Wd.tr (Wd.sv neg s))), .int .u64 (Wd.lo (Wd.tr (Wd.sv neg s)))], .int .i64 (Wd.er (Wd.sv neg s))]) ∧ Below w.heap.size w w' := by
 cases neg with
 | false =>
   have e : Wd.sv false s = s := if_neg (by decide)
   rw [e]
   by_cases h : s < 170141183460469231731687303715884105728
   · have hf : Wd.fit s := by unfold Wd.fit; omega
     rw [Wd.tr_of hf, Wd.er_of hf]; exact signed_ff s h0 h w
   · have hf : ¬ Wd.fit s := by unfold Wd.fit; omega
     rw [Wd.tr_no hf, Wd.er_no hf]; exact signed_fo s (by omega) h1 w
 | true =>
   have e : Wd.sv true s = -s := if_pos rfl
   rw [e]
   by_cases hz : s = 0
   · subst hz
     exact signed_t0 w
   · by_cases h : s ≤ 170141183460469231731687303715884105728
     · have hf : Wd.fit (-s) := by unfold Wd.fit; omega
       rw [Wd.tr_of hf, Wd.er_of hf]; exact signed_tt s (by omega) h w
     · have hf : ¬ Wd.fit (-s) := by unfold Wd.fit; omega
       rw [Wd.tr_no hf, Wd.er_no hf]; exact signed_to s (by omega) h1 w
theorem mul64_w (x y : Int) (hx : 0 ≤ x) (hx1 : x < 18446744073709551616) (hy : 0 ≤ y) (hy1 : y < 18446744073709551616) (w : World) :
 Calls Tryz.prog 114 #[.int .u64 x, .int .u64 y] w fun e w' => e = .returned (.tuple #[.int .u64 (Wd.hi (x * y)), .int .u64 (Wd.lo (x * y))]) ∧ w = w' := by
 have hm := Wd.word_mul hx hx1 hy hy1
 obtain ⟨x, rfl⟩ := Int.eq_ofNat_of_zero_le hx
 obtain ⟨y, rfl⟩ := Int.eq_ofNat_of_zero_le hy
 refine (Tryz.bits_Mul64 x y (by omega) (by omega) w).mono fun e w' ⟨he, hw⟩ => ⟨?_, hw.symm⟩
 rw [he]
 have e1 : Wd.hi ((x : Int) * y) = ((x * y / 18446744073709551616 : Nat) : Int) := by
  rw [← Int.natCast_mul] at hm ⊢; generalize x * y = p at *; unfold Wd.hi; omega
 have e2 : Wd.lo ((x : Int) * y) = ((x * y % 18446744073709551616 : Nat) : Int) := by
  rw [← Int.natCast_mul]; generalize x * y = p at *; unfold Wd.lo; omega
 rw [e1, e2]
set_option maxHeartbeats 1000000 in
theorem Mul_w (a b : Int) (ha : -9223372036854775808 ≤ a) (ha1 : a < 9223372036854775808) (hb : -9223372036854775808 ≤ b) (hB1 : b < 9223372036854775808) (w : World) :
 Calls Tryz.prog 90 #[.int .i64 a, .int .i64 b] w fun e w' => e = .returned (Value.agg #[.int .u64 (Wd.hi (a * b)), .int .u64 (Wd.lo (a * b))]) ∧ Below w.heap.size w w' := by
 have ba := Wd.ab_bd a ha ha1
 have bb := Wd.ab_bd b hb hB1
 have bm := Wd.half_mul ba.1 ba.2 bb.1 bb.2
 have e1 := Wd.sv_mul a b
 have hf : Wd.fit (a * b) := by rw [← e1]; unfold Wd.sv Wd.fit; split <;> omega
 have EF := Lib.hid hf
 have E1 := Lib.hid e1
 clear hf e1
 go_enter Tryz.func90, Tryz.ntmps90
 go_wp2_with fail
 refine (wordOf_w a ha ha1 _).mono ?_
 rintro e w1 ⟨rfl, hb1⟩
 obtain ⟨hc_hb1, hf_hb1⟩ := bcell hb1; have hz_hb1 := Below.size hb1; (try simp at hz_hb1); have z0_hb1 : w.heap.size < w1.heap.size := (by omega); have c00_hb1 := hc_hb1 (w.heap.size) 0 (by (try simp) <;> omega); have f00_hb1 := hf_hb1 (w.heap.size) 0 (by (try simp) <;> omega); have c01_hb1 := hc_hb1 (w.heap.size) 1 (by (try simp) <;> omega); have f01_hb1 := hf_hb1 (w.heap.size) 1 (by (try simp) <;> omega); clear hc_hb1 hf_hb1; (try simp [*] at c00_hb1); (try simp [*] at f00_hb1); (try simp [*] at c01_hb1); (try simp [*] at f01_hb1)
 go_wp2_with fail
 refine (wordOf_w b hb hB1 _).mono ?_
 rintro e w2 ⟨rfl, hb2⟩
 obtain ⟨hc_hb2, hf_hb2⟩ := bcell hb2; have hz_hb2 := Below.size hb2; (try simp at hz_hb2); have z0_hb2 : w.heap.size < w2.heap.size := (by omega); have c00_hb2 := hc_hb2 (w.heap.size) 0 (by (try simp) <;> omega); have f00_hb2 := hf_hb2 (w.heap.size) 0 (by (try simp) <;> omega); have c01_hb2 := hc_hb2 (w.heap.size) 1 (by (try simp) <;> omega); have f01_hb2 := hf_hb2 (w.heap.size) 1 (by (try simp) <;> omega); clear hc_hb2 hf_hb2; (try simp [*] at c00_hb2); (try simp [*] at f00_hb2); (try simp [*] at c01_hb2); (try simp [*] at f01_hb2)
 go_wp2_with fail
 refine (mul64_w _ _ ba.1 (by omega) bb.1 (by omega) _).mono ?_
 rintro e w3 ⟨rfl, rfl⟩
 go_wp2_with fail
 refine (signed_w _ _ bm.1 (by omega) _).mono ?_
 rintro e w4 ⟨rfl, hb4⟩
 obtain ⟨hc_hb4, hf_hb4⟩ := bcell hb4; have hz_hb4 := Below.size hb4; (try simp at hz_hb4); have z0_hb4 : w.heap.size < w4.heap.size := (by omega); have c00_hb4 := hc_hb4 (w.heap.size) 0 (by (try simp) <;> omega); have f00_hb4 := hf_hb4 (w.heap.size) 0 (by (try simp) <;> omega); have c01_hb4 := hc_hb4 (w.heap.size) 1 (by (try simp) <;> omega); have f01_hb4 := hf_hb4 (w.heap.size) 1 (by (try simp) <;> omega); clear hc_hb4 hf_hb4; (try simp [*] at c00_hb4); (try simp [*] at f00_hb4); (try simp [*] at c01_hb4); (try simp [*] at f01_hb4)
 rw [E1.out, Wd.tr_of EF.out, Wd.er_of EF.out]
 go_wp2
 exact bodyPost_ret (v := Value.agg #[.int .u64 (Wd.hi (a * b)), .int .u64 (Wd.lo (a * b))]) (by simp [*, results, Tryz.results90, go_sem]) rfl ⟨rfl, by (repeat' (first | exact Below.refl _ _ | assumption | refine Below.drew ?_ | refine Below.alloc ?_ ?_ _ | refine Below.setCell ?_ ?_ _ | (apply below_via; assumption) | (simp; done) | omega | (simp; omega)))⟩
namespace Wd
end Wd
theorem Below_drewN {B : Nat} {a w : World} {n : Nat} : Below B a (w.drewN n) = Below B a w := by
 apply propext
 exact ⟨fun h => ⟨h.os, h.tape, h.output, h.size, h.block⟩, fun h => ⟨h.os, h.tape, h.output, h.size, h.block⟩⟩
namespace Wd
def KI (y1 y0 u u1 q r : Int) : Prop := 0 ≤ q ∧ q ≤ 4294967297 ∧ 0 ≤ r ∧ r < 4294967296 ∧ q * y1 + r = u ∧ (u * 4294967296 + u1) / (y1 * 4294967296 + y0) ≤ q
def KD (y1 y0 u u1 : Int) : Prop := 2147483648 ≤ y1 ∧ y1 < 4294967296 ∧ 0 ≤ y0 ∧ y0 < 4294967296 ∧ 0 ≤ u1 ∧ u1 < 4294967296 ∧ 0 ≤ u ∧ u < y1 * 4294967296 + y0
def Kq (y1 y0 u u1 : Int) : Int := (u * 4294967296 + u1) / (y1 * 4294967296 + y0)
def Kr (y1 y0 u u1 : Int) : Int := (u * 4294967296 + u1) % (y1 * 4294967296 + y0)
theorem KI_mul {y1 y0 u u1 q r : Int} (h : q * y1 + r = u) : q * (y1 * 4294967296 + y0) - (u * 4294967296 + u1) = q * y0 - r * 4294967296 - u1 := by
 rw [Int.mul_add, ← Int.mul_assoc]; generalize q * y0 = p; omega
theorem KI_init {y1 y0 u u1 : Int} (d : KD y1 y0 u u1) : KI y1 y0 u u1 (u / y1) (u % y1) := by
 obtain ⟨a, b, c, e, f, g, i, j⟩ := d
 have hq0 : 0 ≤ u / y1 := Int.ediv_nonneg i (by omega)
 have hr0 := Int.emod_nonneg u (show y1 ≠ 0 by omega)
 have hr1 := Int.emod_lt_of_pos u (show 0 < y1 by omega)
 have hm : u / y1 * y1 + u % y1 = u := Int.ediv_mul_add_emod u y1
 refine ⟨hq0, ?_, hr0, by omega, hm, ?_⟩
 · have : u / y1 < 4294967298 := (Int.ediv_lt_iff_lt_mul (by omega)).2 (by omega)
   omega
 · have h : (u * 4294967296 + u1) / (y1 * 4294967296 + y0) < u / y1 + 1 := by
    refine (Int.ediv_lt_iff_lt_mul (by omega)).2 ?_
    have e1 := KI_mul (y1 := y1) (y0 := y0) (u := u) (u1 := u1) (q := u / y1 + 1) (r := u % y1 - y1) (by rw [Int.add_mul]; omega)
    have h2 : 0 ≤ (u / y1 + 1) * y0 := Int.mul_nonneg (by omega) c
    omega
   omega
theorem KI_low {y1 y0 u u1 q r : Int} (k : KI y1 y0 u u1 q r) (d : KD y1 y0 u u1) (h : 4294967296 ≤ q ∨ 4294967296 * r + u1 < q * y0) : (u * 4294967296 + u1) / (y1 * 4294967296 + y0) ≤ q - 1 ∧ 1 ≤ q := by
 obtain ⟨a, b, c, e, f, g, i, j⟩ := d
 obtain ⟨k1, k2, k3, k4, k5, k6⟩ := k
 have hY : 0 < y1 * 4294967296 + y0 := by omega
 have e1 := KI_mul (y0 := y0) (u1 := u1) k5
 have hlt : u * 4294967296 + u1 < q * (y1 * 4294967296 + y0) := by
  rcases h with h | h
  · have h2 := Int.mul_le_mul_of_nonneg_right (a := 4294967296) (b := q) (c := y1 * 4294967296 + y0) h (by omega)
    omega
  · omega
 have h3 := (Int.ediv_lt_iff_lt_mul hY).2 hlt
 have h4 : 0 ≤ (u * 4294967296 + u1) / (y1 * 4294967296 + y0) := Int.ediv_nonneg (by omega) (by omega)
 omega
theorem KI_step {y1 y0 u u1 q r : Int} (k : KI y1 y0 u u1 q r) (d : KD y1 y0 u u1) (h : 4294967296 ≤ q ∨ 4294967296 * r + u1 < q * y0) (hr : r + y1 < 4294967296) : KI y1 y0 u u1 (q - 1) (r + y1) := by
 have hl := KI_low k d h
 obtain ⟨a, b, c, e, f, g, i, j⟩ := d
 obtain ⟨k1, k2, k3, k4, k5, k6⟩ := k
 refine ⟨by omega, by omega, by omega, hr, ?_, hl.1⟩
 rw [Int.sub_mul]; omega
theorem KI_ge {y1 y0 u u1 q r : Int} (d : KD y1 y0 u u1) (h : q * y1 + r = u) (hle : q * y0 ≤ r * 4294967296 + u1) : q ≤ (u * 4294967296 + u1) / (y1 * 4294967296 + y0) := by
 obtain ⟨a, b, c, e, f, g, i, j⟩ := d
 have e1 := KI_mul (y0 := y0) (u1 := u1) h
 exact (Int.le_ediv_iff_mul_le (by omega)).2 (by omega)
theorem KI_break {y1 y0 u u1 q r : Int} (k : KI y1 y0 u u1 q r) (d : KD y1 y0 u u1) (h : 4294967296 ≤ q ∨ 4294967296 * r + u1 < q * y0) (hr : 4294967296 ≤ r + y1) : q - 1 = Kq y1 y0 u u1 := by
 have hl := KI_low k d h
 have hg := KI_ge (q := q - 1) (r := r + y1) d (by rw [Int.sub_mul]; have := k.2.2.2.2.1; omega) (by
   obtain ⟨a, b, c, e, f, g, i, j⟩ := d
   obtain ⟨k1, k2, k3, k4, k5, k6⟩ := k
   have h2 := Int.mul_le_mul (a := q - 1) (b := y0) (c := 4294967296) (d := 4294967295) (by omega) (by omega) c (by omega)
   omega)
 unfold Kq; omega
theorem KI_exit {y1 y0 u u1 q r : Int} (k : KI y1 y0 u u1 q r) (d : KD y1 y0 u u1) (h : q * y0 ≤ 4294967296 * r + u1) : q = Kq y1 y0 u u1 := by
 have hg := KI_ge d k.2.2.2.2.1 (by omega)
 have := k.2.2.2.2.2
 unfold Kq; omega
theorem Kq_bd {y1 y0 u u1 : Int} (d : KD y1 y0 u u1) : 0 ≤ Kq y1 y0 u u1 ∧ Kq y1 y0 u u1 < 4294967296 := by
 obtain ⟨a, b, c, e, f, g, i, j⟩ := d
 exact ⟨Int.ediv_nonneg (by omega) (by omega), (Int.ediv_lt_iff_lt_mul (by omega)).2 (by omega)⟩
theorem Kr_bd {y1 y0 u u1 : Int} (d : KD y1 y0 u u1) : 0 ≤ Kr y1 y0 u u1 ∧ Kr y1 y0 u u1 < y1 * 4294967296 + y0 := by
 obtain ⟨a, b, c, e, f, g, i, j⟩ := d
 exact ⟨Int.emod_nonneg _ (by omega), Int.emod_lt_of_pos _ (by omega)⟩
theorem Kqr (y1 y0 u u1 : Int) : Kq y1 y0 u u1 * (y1 * 4294967296 + y0) + Kr y1 y0 u u1 = u * 4294967296 + u1 := Int.ediv_mul_add_emod _ _
theorem Kr_wrap {y1 y0 u u1 : Int} (d : KD y1 y0 u u1) : (u * 4294967296 + u1 - Kq y1 y0 u u1 * (y1 * 4294967296 + y0)) % 18446744073709551616 = Kr y1 y0 u u1 := by
 have h := Kqr y1 y0 u u1
 have hb := Kr_bd d
 obtain ⟨a, b, c, e, f, g, i, j⟩ := d
 generalize Kq y1 y0 u u1 * (y1 * 4294967296 + y0) = p at *
 omega
def lz (y : Int) : Nat := 64 - Lib.bitLen y.toNat
theorem bitLenAux_le : ∀ f x, Lib.bitLenAux f x ≤ f
 | 0, _ => Nat.le_refl _
 | f + 1, x => by unfold Lib.bitLenAux; split; omega; have := bitLenAux_le f (x / 2); omega
theorem bitLenAux_pow : ∀ f x, x < 2 ^ f → 0 < x → 2 ^ (Lib.bitLenAux f x - 1) ≤ x ∧ x < 2 ^ Lib.bitLenAux f x ∧ 1 ≤ Lib.bitLenAux f x
 | 0, x, h, h0 => by simp at h; omega
 | f + 1, x, h, h0 => by
   unfold Lib.bitLenAux
   rw [if_neg (by omega)]
   by_cases h1 : x / 2 = 0
   · rw [h1]
     have e : Lib.bitLenAux f 0 = 0 := by cases f <;> simp [Lib.bitLenAux]
     rw [e]; simp; omega
   · have ih := bitLenAux_pow f (x / 2) (by rw [Nat.pow_succ] at h; omega) (by omega)
     obtain ⟨a, b, c⟩ := ih
     generalize Lib.bitLenAux f (x / 2) = k at *
     obtain ⟨k, rfl⟩ : ∃ j, k = j + 1 := ⟨k - 1, by omega⟩
     simp only [Nat.add_sub_cancel] at a
     refine ⟨?_, ?_, by omega⟩
     · rw [show 1 + (k + 1) - 1 = k + 1 from by omega, Nat.pow_succ]; omega
     · rw [show 1 + (k + 1) = (k + 1) + 1 from by omega, Nat.pow_succ]; omega
theorem lz_of (y : Int) (h0 : 0 < y) (h1 : y < 18446744073709551616) : Lib.bitLen y.toNat ≤ 64 ∧ lz y ≤ 63 ∧ 9223372036854775808 ≤ y * 2 ^ lz y ∧ y * 2 ^ lz y < 18446744073709551616 := by
 obtain ⟨n, rfl⟩ := Int.eq_ofNat_of_zero_le (show 0 ≤ y by omega)
 have hb := bitLenAux_le 64 n
 have hp := bitLenAux_pow 64 n (by omega) (by omega)
 unfold lz Lib.bitLen
 rw [Int.toNat_natCast]
 generalize Lib.bitLenAux 64 n = k at *
 obtain ⟨a, b, c⟩ := hp
 refine ⟨hb, by omega, ?_, ?_⟩
 · have h : 2 ^ (k - 1) * 2 ^ (64 - k) ≤ n * 2 ^ (64 - k) := Nat.mul_le_mul_right _ a
   rw [← Nat.pow_add, show k - 1 + (64 - k) = 63 from by omega] at h
   have : ((2 ^ 63 : Nat) : Int) ≤ ((n * 2 ^ (64 - k) : Nat) : Int) := by omega
   simpa using this
 · have h : n * 2 ^ (64 - k) < 2 ^ k * 2 ^ (64 - k) := Nat.mul_lt_mul_of_pos_right b (Nat.two_pow_pos _)
   rw [← Nat.pow_add, show k + (64 - k) = 64 from by omega] at h
   have : ((n * 2 ^ (64 - k) : Nat) : Int) < ((2 ^ 64 : Nat) : Int) := by omega
   simpa using this
end Wd
namespace Wd
def dY (y : Int) : Int := y * 2 ^ lz y
def d1 (y : Int) : Int := dY y / 4294967296
def d0 (y : Int) : Int := dY y % 4294967296
def dH (x l y : Int) : Int := x * 2 ^ lz y + l / 2 ^ (64 - lz y)
def dL (l y : Int) : Int := l * 2 ^ lz y % 18446744073709551616
def e1 (l y : Int) : Int := dL l y / 4294967296
def e0 (l y : Int) : Int := dL l y % 4294967296
theorem and_mask (a : Int) (h0 : 0 ≤ a) (h1 : a < 18446744073709551616) : bits .and .u64 a 4294967295 = a % 4294967296 := by
 obtain ⟨n, rfl⟩ := Int.eq_ofNat_of_zero_le h0
 have h := bits_and_u64_nat n 4294967295 (by omega) (by omega)
 rw [show n &&& 4294967295 = n % 4294967296 from Nat.and_two_pow_sub_one_eq_mod n 32] at h
 exact h
theorem or_shift (x t : Int) (s : Nat) (hx : 0 ≤ x) (ht : 0 ≤ t) (hts : t < 2 ^ s) (hb : x * 2 ^ s < 18446744073709551616) (hs : s ≤ 63) : bits .or .u64 (x * 2 ^ s) t = x * 2 ^ s + t := by
 obtain ⟨n, rfl⟩ := Int.eq_ofNat_of_zero_le hx
 obtain ⟨m, rfl⟩ := Int.eq_ofNat_of_zero_le ht
 have e : ((n : Int) * 2 ^ s) = ((n * 2 ^ s : Nat) : Int) := by simp
 have hm : m < 2 ^ s := by
  have e2 : ((2 : Int) ^ s) = ((2 ^ s : Nat) : Int) := by simp
  rw [e2] at hts; omega
 rw [e] at hb ⊢
 have hp : 2 ^ s ≤ 2 ^ 63 := Nat.pow_le_pow_right (by decide) hs
 rw [bits_or_u64_nat (n * 2 ^ s) m (by omega) (by omega), ← Nat.shiftLeft_eq, ← Nat.shiftLeft_add_eq_or_of_lt hm]
 simp
theorem pow_pos (s : Nat) : (0 : Int) < 2 ^ s := Int.pow_pos (by decide)
theorem pow_split (s : Nat) (hs : s ≤ 64) : (2 : Int) ^ (64 - s) * 2 ^ s = 18446744073709551616 := by
 rw [← Int.pow_add, Nat.sub_add_cancel hs]; rfl
theorem low_of (l : Int) (s : Nat) (hs : s ≤ 64) : l / 2 ^ (64 - s) * 18446744073709551616 + l * 2 ^ s % 18446744073709551616 = l * 2 ^ s := by
 have h : l * 2 ^ s / 18446744073709551616 = l / 2 ^ (64 - s) := by
  rw [← pow_split s hs]; exact Int.mul_ediv_mul_of_pos_left _ _ (pow_pos s)
 rw [← h]; omega
theorem dHL (x l y : Int) (hz : lz y ≤ 63) : dH x l y * 18446744073709551616 + dL l y = (x * 18446744073709551616 + l) * 2 ^ lz y := by
 have h := low_of l (lz y) (by omega)
 unfold dH dL
 rw [Int.add_mul, Int.add_mul, Int.mul_right_comm x 18446744073709551616]
 omega
theorem dL_bd (l y : Int) : 0 ≤ dL l y ∧ dL l y < 18446744073709551616 := by unfold dL; omega
theorem e_bd (l y : Int) : 0 ≤ e1 l y ∧ e1 l y < 4294967296 ∧ 0 ≤ e0 l y ∧ e0 l y < 4294967296 ∧ e1 l y * 4294967296 + e0 l y = dL l y := by
 have := dL_bd l y; unfold e1 e0; omega
theorem dY_bd (y : Int) (h0 : 0 < y) (h1 : y < 18446744073709551616) : 9223372036854775808 ≤ dY y ∧ dY y < 18446744073709551616 := (lz_of y h0 h1).2.2
theorem d_bd (y : Int) (h0 : 0 < y) (h1 : y < 18446744073709551616) : 2147483648 ≤ d1 y ∧ d1 y < 4294967296 ∧ 0 ≤ d0 y ∧ d0 y < 4294967296 ∧ d1 y * 4294967296 + d0 y = dY y := by
 have := dY_bd y h0 h1; unfold d1 d0; omega
theorem dH_bd (x l y : Int) (hx : 0 ≤ x) (hxy : x < y) (hl : 0 ≤ l) (hl1 : l < 18446744073709551616) (h1 : y < 18446744073709551616) : 0 ≤ dH x l y ∧ dH x l y < dY y := by
 have hz := (lz_of y (by omega) h1).2.1
 have hp := pow_pos (lz y)
 have e := dHL x l y hz
 have hb := dL_bd l y
 refine ⟨?_, ?_⟩
 · unfold dH; exact Int.add_nonneg (Int.mul_nonneg hx (by omega)) (Int.ediv_nonneg hl (Int.le_of_lt (pow_pos _)))
 · have h : (x * 18446744073709551616 + l) * 2 ^ lz y < (y * 18446744073709551616) * 2 ^ lz y := Int.mul_lt_mul_of_pos_right (by omega) hp
   rw [← e, Int.mul_right_comm] at h
   unfold dY; omega
theorem KD_hi (x l y : Int) (hx : 0 ≤ x) (hxy : x < y) (hl : 0 ≤ l) (hl1 : l < 18446744073709551616) (h1 : y < 18446744073709551616) : KD (d1 y) (d0 y) (dH x l y) (e1 l y) := by
 have a := d_bd y (by omega) h1
 have b := dH_bd x l y hx hxy hl hl1 h1
 have c := e_bd l y
 unfold KD; omega
def dR (x l y : Int) : Int := Kr (d1 y) (d0 y) (dH x l y) (e1 l y)
theorem KD_lo (x l y : Int) (hx : 0 ≤ x) (hxy : x < y) (hl : 0 ≤ l) (hl1 : l < 18446744073709551616) (h1 : y < 18446744073709551616) : KD (d1 y) (d0 y) (dR x l y) (e0 l y) := by
 have a := d_bd y (by omega) h1
 have b := Kr_bd (KD_hi x l y hx hxy hl hl1 h1)
 have c := e_bd l y
 unfold KD dR; omega
theorem out_of (x l y : Int) (hx : 0 ≤ x) (hxy : x < y) (hl : 0 ≤ l) (hl1 : l < 18446744073709551616) (h1 : y < 18446744073709551616) :
 Kq (d1 y) (d0 y) (dH x l y) (e1 l y) * 4294967296 + Kq (d1 y) (d0 y) (dR x l y) (e0 l y) = (x * 18446744073709551616 + l) / y ∧
 Kr (d1 y) (d0 y) (dR x l y) (e0 l y) / 2 ^ lz y = (x * 18446744073709551616 + l) % y := by
 have hy : 0 < y := by omega
 have hz := (lz_of y hy h1).2.1
 have a := d_bd y hy h1
 have c := e_bd l y
 have k1 := Kqr (d1 y) (d0 y) (dH x l y) (e1 l y)
 have k2 := Kqr (d1 y) (d0 y) (dR x l y) (e0 l y)
 have b2 := Kr_bd (KD_lo x l y hx hxy hl hl1 h1)
 have e := dHL x l y hz
 have hp := pow_pos (lz y)
 rw [a.2.2.2.2] at k1 k2 b2
 have er : Kr (d1 y) (d0 y) (dH x l y) (e1 l y) = dR x l y := rfl
 rw [er] at k1
 generalize Kq (d1 y) (d0 y) (dH x l y) (e1 l y) = q1 at *
 generalize Kq (d1 y) (d0 y) (dR x l y) (e0 l y) = q0 at *
 generalize Kr (d1 y) (d0 y) (dR x l y) (e0 l y) = r at *
 have hN : (x * 18446744073709551616 + l) * 2 ^ lz y = (q1 * 4294967296 + q0) * dY y + r := by
  rw [← e, Int.add_mul, Int.mul_right_comm q1]
  generalize q1 * dY y = p1 at *; generalize q0 * dY y = p0 at *
  omega
 have hdiv : (x * 18446744073709551616 + l) / y = q1 * 4294967296 + q0 := by
  have h : (x * 18446744073709551616 + l) * 2 ^ lz y / (y * 2 ^ lz y) = (x * 18446744073709551616 + l) / y := Int.mul_ediv_mul_of_pos_left _ _ hp
  rw [← h, hN]
  show ((q1 * 4294967296 + q0) * dY y + r) / dY y = _
  rw [Int.add_comm, Int.add_mul_ediv_right _ _ (by omega), Int.ediv_eq_zero_of_lt b2.1 b2.2, Int.zero_add]
 refine ⟨hdiv.symm, ?_⟩
 have hm := Int.emod_def (x * 18446744073709551616 + l) y
 rw [hm, hdiv]
 have hr : r = ((x * 18446744073709551616 + l) - y * (q1 * 4294967296 + q0)) * 2 ^ lz y := by
  rw [Int.sub_mul, hN]
  have : y * (q1 * 4294967296 + q0) * 2 ^ lz y = (q1 * 4294967296 + q0) * dY y := by
   unfold dY; rw [Int.mul_comm y, Int.mul_assoc]
  rw [this]; omega
 rw [hr, Int.mul_ediv_cancel _ (by omega)]
end Wd
end Go.Proofs.YtheofhegdjjfgaaGreat
