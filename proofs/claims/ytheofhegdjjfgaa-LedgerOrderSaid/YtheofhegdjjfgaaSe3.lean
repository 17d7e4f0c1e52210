/- The rules between the operations: guards, regions in either kind of order, ifs, the way in and out of a function, calls by contract. -/
import Derived.Test.YtheofhegdjjfgaaSe2
namespace Go.Proofs.Ytheofhegdjjfgaa
open Go.RowKit

section
variable {P : Program} {n : Nat} {F0 : Nat → Prop} {w0 : World} {a : Act} {w : World} {L : List (Nat × Value)} {Γ : List Asn}
variable {K : Act → World → Prop} {Q : Exit → Act → World → Prop} {d ty : Nat} {dst : Option Tmp} {pos : String} {af : Array Edge} {g : Option (Nat × Bool)} {op : Op} {rest l : List Oper}

def opDst : List Oper → Nat → Option Nat
  | [], _ => none
  | o :: r, i => bif Nat.beq i 0 then o.dst else opDst r (i - 1)
theorem opDst_eq (l : List Oper) (i : Nat) : opDst l i = (l[i]?).bind (·.dst) := by
  induction l generalizing i with
  | nil => simp [opDst]
  | cons v l ih =>
    cases i with
    | zero => simp [opDst]
    | succ i => exact (ih i).trans (by simp)

theorem yielded_of {j t : Nat} {b : Bool} (hs : Sl n a L) (hj : opDst l j = some t) (hv : lk L t = some (.bool b)) : yielded l.toArray a.tmps j = some b := by
  rw [opDst_eq] at hj
  have h := hs.get _ _ hv
  unfold yielded
  have h1 : (l.toArray[j]?).bind (·.dst) = some t := by simpa using hj
  rw [h1]
  simp only [Option.bind_some]
  rw [Array.getD_eq_getD_getElem?] at h
  cases ht : a.tmps[t]? with
  | none => rw [ht] at h; simp [undef] at h
  | some v => rw [ht] at h; simp at h; subst h; rfl

theorem L_nil {ops : Array Oper} (h : Q .normal a w) : wpList P ops Q [] a w := h
theorem L_op {ops : Array Oper} (h : OW P ⟨dst, op, ty, pos, af, none⟩ a w (wpList P ops Q rest) Q) : wpList P ops Q (⟨dst, op, ty, pos, af, none⟩ :: rest) a w := by
  unfold wpList
  rw [if_pos (by simp [Region.wanted])]
  exact .inl h.h
theorem L_go {j t : Nat} {b : Bool} (hS : St n F0 w0 a w L Γ) (hj : opDst l j = some t) (hv : lk L t = some (.bool b))
    (h : OW P ⟨dst, op, ty, pos, af, some (j, b)⟩ a w (wpList P l.toArray Q rest) Q) : wpList P l.toArray Q (⟨dst, op, ty, pos, af, some (j, b)⟩ :: rest) a w := by
  unfold wpList
  rw [if_pos (by simp [Region.wanted, yielded_of hS.sl hj hv])]
  exact .inl h.h
theorem L_skip_t {j t : Nat} (hS : St n F0 w0 a w L Γ) (hj : opDst l j = some t) (hv : lk L t = some (.bool false)) (hn : Nat.blt d n = true)
    (h : ∀ a', St n F0 w0 a' w ((d, undef) :: L) Γ → wpList P l.toArray Q rest a' w) : wpList P l.toArray Q (⟨some d, op, ty, pos, af, some (j, true)⟩ :: rest) a w := by
  unfold wpList
  rw [if_neg (by simp [Region.wanted, yielded_of hS.sl hj hv])]
  exact h _ (hS.put hn _)

theorem L_skip_f {j t : Nat} (hS : St n F0 w0 a w L Γ) (hj : opDst l j = some t) (hv : lk L t = some (.bool true)) (hn : Nat.blt d n = true)
    (h : ∀ a', St n F0 w0 a' w ((d, undef) :: L) Γ → wpList P l.toArray Q rest a' w) : wpList P l.toArray Q (⟨some d, op, ty, pos, af, some (j, false)⟩ :: rest) a w := by
  unfold wpList
  rw [if_neg (by simp [Region.wanted, yielded_of hS.sl hj hv])]
  exact h _ (hS.put hn _)

theorem yielded_undef {j t : Nat} (hs : Sl n a L) (hj : opDst l j = some t) (hv : lk L t = some undef) : yielded l.toArray a.tmps j = none := by
  rw [opDst_eq] at hj
  have h := hs.get _ _ hv
  unfold yielded
  have h1 : (l.toArray[j]?).bind (·.dst) = some t := by simpa using hj
  rw [h1]
  simp only [Option.bind_some]
  rw [Array.getD_eq_getD_getElem?] at h
  cases ht : a.tmps[t]? with
  | none => rfl
  | some v => rw [ht] at h; simp [undef] at h; subst h; rfl
theorem L_skip_u {j t : Nat} {b : Bool} (hS : St n F0 w0 a w L Γ) (hj : opDst l j = some t) (hv : lk L t = some undef) (hn : Nat.blt d n = true)
    (h : ∀ a', St n F0 w0 a' w ((d, undef) :: L) Γ → wpList P l.toArray Q rest a' w) : wpList P l.toArray Q (⟨some d, op, ty, pos, af, some (j, b)⟩ :: rest) a w := by
  unfold wpList
  rw [if_neg (by simp [Region.wanted, yielded_undef hS.sl hj hv])]
  exact h _ (hS.put hn _)

/-- a Bool slot becomes known. -/
theorem St.is {t : Nat} {b c : Bool} (hS : St n F0 w0 a w L Γ) (hl : lk L t = some (.bool b)) (hb : b = c) : St n F0 w0 a w ((t, .bool c) :: L) Γ :=
  hS.act (hS.sl.know (by rw [hl, hb]))

theorem g_split {t : Nat} {b : Bool} {G : Prop} (hS : St n F0 w0 a w L Γ) (hl : lk L t = some (.bool b))
    (h1 : b = true → St n F0 w0 a w ((t, .bool true) :: L) Γ → G) (h2 : b = false → St n F0 w0 a w ((t, .bool false) :: L) Γ → G) : G := by
  cases hb : b
  · exact h2 hb (hS.is hl hb)
  · exact h1 hb (hS.is hl hb)
theorem g_splitD {t : Nat} {p : Prop} [hp : Decidable p] {G : Prop} (hS : St n F0 w0 a w L Γ) (hl : lk L t = some (.bool (decide p)))
    (h1 : p → St n F0 w0 a w ((t, .bool true) :: L) Γ → G) (h2 : ¬ p → St n F0 w0 a w ((t, .bool false) :: L) Γ → G) : G :=
  g_split hS hl (fun h => h1 (of_decide_eq_true h)) (fun h => h2 (of_decide_eq_false h))

theorem c_region {id : Nat} {l : List Oper} (h : wpList P l.toArray Q l a w) : (Code.region id l.toArray false).wp P Q a w := wp_region_lit h

theorem c_if_t {c : Operand} {x y : Code} (hS : St n F0 w0 a w L Γ) (hc : ev L c = some (.bool true)) (h : x.wp P Q a w) : (Code.cond c x y).wp P Q a w := wp_cond_true (hS.sl.ev hc) h
theorem c_if_f {c : Operand} {x y : Code} (hS : St n F0 w0 a w L Γ) (hc : ev L c = some (.bool false)) (h : y.wp P Q a w) : (Code.cond c x y).wp P Q a w := wp_cond_false (hS.sl.ev hc) h
theorem c_if {c : Operand} {x y : Code} {b : Bool} (hS : St n F0 w0 a w L Γ) (hc : ev L c = some (.bool b)) (h1 : b = true → x.wp P Q a w) (h2 : b = false → y.wp P Q a w) : (Code.cond c x y).wp P Q a w :=
  wp_cond_split (hS.sl.ev hc) h1 h2
theorem c_ifD {c : Operand} {x y : Code} {p : Prop} [hp : Decidable p] (hS : St n F0 w0 a w L Γ) (hc : ev L c = some (.bool (decide p))) (h1 : p → x.wp P Q a w) (h2 : ¬ p → y.wp P Q a w) : (Code.cond c x y).wp P Q a w :=
  wp_cond_split (hS.sl.ev hc) (fun h => h1 (of_decide_eq_true h)) (fun h => h2 (of_decide_eq_false h))

/-! ### in and out -/
theorem c_enter {f : FuncId} {fn : Func} {c : Code} {args : List Value} {R : Ending → World → Prop} {m : Nat} (L : List (Nat × Value)) (Γ : List Asn) (F0 : Nat → Prop) (hf : P.funcs[f]? = some fn) (hb : fn.body = some c) (hm : fn.ntmps = m)
    (hA : SubA args L) (hn : Nat.ble args.length m = true) (ok : ∀ X ∈ Γ, X.ok w) (dis : Γ.Pairwise (fun X Y => ∀ b, X.F b → ¬ Y.F b)) (mine : ∀ X ∈ Γ, X.mine = true → ∀ b, X.F b → w.heap.size ≤ b ∨ F0 b)
    (h : ∀ a, St m F0 w a w L Γ → c.wp P (bodyPost P fn R) a w) : Calls P f args.toArray w R := by
  refine calls_of_wp hf hb (h _ ⟨?_, Chg.refl _ _, ok, dis, mine⟩)
  have hle : args.length ≤ m := Nat.le_of_ble_eq_true hn
  have := Sl.start (l := args) (L := L) (n := m) (m := m - args.length) hA (by omega)
  simpa [hm] using this

/-- what a result variable holds. -/
inductive Res1 (P : Program) (L : List (Nat × Value)) (Γ : List Asn) : ResultVar → Value → Prop
  | tmp {t : Nat} {v : Value} (h : lk L t = some v) : Res1 P L Γ (.tmp t) v
  | cell {t T b : Nat} {cs : List Value} {E : TypeId} {v : Value} (h : lk L t = some (.pointer (some ⟨b, 0, none⟩))) (hm : Asn.blk b cs E ∈ Γ) (hT : scalarT P T = true) (hv : nth cs 0 = some v) : Res1 P L Γ (.cell t T) v
  | cellA {t T b m : Nat} {cs : List Value} {E : TypeId} (h : lk L t = some (.pointer (some ⟨b, 0, none⟩))) (hm : Asn.blk b cs E ∈ Γ) (hT : structT P T = true) (hz : szOf P T = some m) (hl : Nat.beq cs.length m = true) : Res1 P L Γ (.cell t T) (.agg cs.toArray)
inductive ResL (P : Program) (L : List (Nat × Value)) (Γ : List Asn) : List ResultVar → List Value → Prop
  | nil : ResL P L Γ [] []
  | cons {r : ResultVar} {rs : List ResultVar} {v : Value} {vs : List Value} (h : Res1 P L Γ r v) (t : ResL P L Γ rs vs) : ResL P L Γ (r :: rs) (v :: vs)

def rvS (a : Act) : ResultVar → Sem Value
  | .tmp t => pure (a.tmps.getD t undef)
  | .cell q t => do loadVar t (← asAddr (a.tmps.getD q undef))
theorem results_rvS (fn : Func) (a : Act) : results fn a.tmps = (do
    let vs ← fn.results.mapM (rvS a)
    pure (if h : vs.size = 1 then vs[0] else .tuple vs)) := by
  unfold results
  congr 1

theorem Res1.run {r : ResultVar} {v : Value} (hS : St n F0 w0 a w L Γ) (h : Res1 P L Γ r v) :
    (rvS a r).run P w = .ok v w := by
  cases h with
  | tmp h => simp only [rvS, hS.sl.get _ _ h]; rfl
  | cell h hm hT hv =>
    rw [nth_eq] at hv
    have hc := cell_of_blk (hS.get hm) hv
    simp only [rvS, hS.sl.get _ _ h, asAddr, Sem.run_bind, Sem.run_pure, Result.andThen_ok, loadVar_scalar hT hc]
  | cellA h hm hT hz hl =>
    obtain rfl := Nat.eq_of_beq_eq_true hl
    have hc := loadVar_struct (P := P) hT hz (w := w) (p := ⟨_, 0, none⟩) (fun j v hj => by rw [addr_add, Nat.zero_add]; exact cell_of_blk (hS.get hm) hj)
    simp only [rvS, hS.sl.get _ _ h, asAddr, Sem.run_bind, Sem.run_pure, Result.andThen_ok, hc]

theorem ResL.run {rs : List ResultVar} {vs : List Value} (hS : St n F0 w0 a w L Γ) (h : ResL P L Γ rs vs) :
    (rs.mapM (rvS a)).run P w = .ok vs w := by
  induction h with
  | nil => rfl
  | cons h _ ih =>
    simp only [List.mapM_cons, Sem.run_bind, Res1.run hS h, Result.andThen_ok, ih, Sem.run_pure]

theorem c_ret1 {fn : Func} {R : Ending → World → Prop} {r : ResultVar} {v : Value} (hS : St n F0 w0 a w L Γ) (hr : fn.results = #[r]) (hv : Res1 P L Γ r v) (h : R (.returned v) w) : bodyPost P fn R .ret a w := by
  refine ⟨hS.sl.defers, v, ?_, h⟩
  have := ResL.run hS (.cons hv .nil)
  rw [results_rvS, hr, show (#[r] : Array ResultVar) = [r].toArray from rfl, List.mapM_toArray, Sem.run_bind, Sem.run_map, this]
  rfl
theorem c_retN {fn : Func} {R : Ending → World → Prop} {rs : List ResultVar} {vs : List Value} (hS : St n F0 w0 a w L Γ) (hr : fn.results = rs.toArray) (hv : ResL P L Γ rs vs) (hne : Nat.beq vs.length 1 = false) (h : R (.returned (.tuple vs.toArray)) w) : bodyPost P fn R .ret a w := by
  refine ⟨hS.sl.defers, _, ?_, h⟩
  have h1 := ResL.run hS hv
  have h2 : ¬ vs.toArray.size = 1 := by simpa using nbeq_ne hne
  rw [results_rvS, hr, List.mapM_toArray, Sem.run_bind, Sem.run_map, h1]
  simp only [Result.andThen_ok, h2, dite_false]
  rfl
theorem r_norm {fn : Func} {R : Ending → World → Prop} (h : bodyPost P fn R .ret a w) : bodyPost P fn R .normal a w := h

/-! ### calls by contract -/
/-- it answers v; what was stays. -/
def PureC (P : Program) (f : FuncId) (args : List Value) (w : World) (v : Value) : Prop := Calls P f args.toArray w fun e w' => e = .returned v ∧ Chg noB w w'
/-- it answers one of those; what was stays; of new blocks something is known. -/
def NewC {γ : Type} (P : Program) (f : FuncId) (args : List Value) (w : World) (V : γ → Value) (Y : γ → Asn) : Prop :=
  Calls P f args.toArray w fun e w' => ∃ x, e = .returned (V x) ∧ Chg noB w w' ∧ (Y x).ok w' ∧ ∀ b, (Y x).F b → w.heap.size ≤ b
/-- it may change what belongs to X; behind it that is Y. -/
def MutC {γ : Type} (P : Program) (f : FuncId) (args : List Value) (w : World) (X : Asn) (V : γ → Value) (Y : γ → Asn) : Prop :=
  Calls P f args.toArray w fun e w' => ∃ x, e = .returned (V x) ∧ Chg X.F w w' ∧ (Y x).ok w' ∧ ∀ b, (Y x).F b → X.F b ∨ w.heap.size ≤ b

theorem s_callP {f : FuncId} {xs : List Operand} {vs : List Value} {ts : Array TypeId} {v : Value} (hS : St n F0 w0 a w L Γ) (hx : Evs L xs vs) (hf : CallsTo P f) (hn : Nat.blt d n = true)
    (hc : PureC P f vs w v) (h : ∀ a' w', St n F0 w0 a' w' ((d, v) :: L) Γ → K a' w') : OW P ⟨some d, .call ⟨.value (.func f), xs.toArray, ts⟩, ty, pos, af, g⟩ a w K Q :=
  s_call hS hx hf hc fun _ _ ⟨he, hch⟩ => ⟨_, he, h _ _ ((hS.ext hch).put hn _)⟩
theorem s_callN {γ : Type} {V : γ → Value} {Y : γ → Asn} {f : FuncId} {xs : List Operand} {vs : List Value} {ts : Array TypeId} (hS : St n F0 w0 a w L Γ) (hx : Evs L xs vs) (hf : CallsTo P f) (hn : Nat.blt d n = true)
    (hc : NewC P f vs w V Y) (h : ∀ x a' w', St n F0 w0 a' w' ((d, V x) :: L) (Y x :: Γ) → K a' w') : OW P ⟨some d, .call ⟨.value (.func f), xs.toArray, ts⟩, ty, pos, af, g⟩ a w K Q :=
  s_call hS hx hf hc fun _ _ ⟨x, he, hch, hY, hF⟩ => ⟨_, he, h x _ _ ((hS.fresh hch hY hF).put hn _)⟩
theorem s_callM {γ : Type} {V : γ → Value} {X : Asn} {Y : γ → Asn} {Γ' : γ → List Asn} {f : FuncId} {xs : List Operand} {vs : List Value} {ts : Array TypeId} (hS : St n F0 w0 a w L Γ) (hx : Evs L xs vs) (hf : CallsTo P f) (hn : Nat.blt d n = true)
    (hc : MutC P f vs w X V Y) (hr : ∀ x, Rep X (Y x) Γ (Γ' x)) (hm : X.mine = true) (h : ∀ x a' w', St n F0 w0 a' w' ((d, V x) :: L) (Γ' x) → K a' w') : OW P ⟨some d, .call ⟨.value (.func f), xs.toArray, ts⟩, ty, pos, af, g⟩ a w K Q :=
  s_call hS hx hf hc fun _ _ ⟨x, he, hch, hY, hF⟩ => ⟨_, he, h x _ _ ((hS.upd (hr x) hch hY hF hm).put hn _)⟩
theorem s_callvP {f : FuncId} {x : Operand} {cs : List Value} {xs : List Operand} {vs : List Value} {ts : Array TypeId} {v : Value} (hS : St n F0 w0 a w L Γ) (hv : ev L x = some (.func (.func f) #[] cs.toArray)) (hx : Evs L xs vs) (hf : CallsTo P f) (hn : Nat.blt d n = true)
    (hc : PureC P f (vs ++ cs) w v) (h : ∀ a' w', St n F0 w0 a' w' ((d, v) :: L) Γ → K a' w') : OW P ⟨some d, .call ⟨.value x, xs.toArray, ts⟩, ty, pos, af, g⟩ a w K Q :=
  s_callv hS hv hx hf hc fun _ _ ⟨he, hch⟩ => ⟨_, he, h _ _ ((hS.ext hch).put hn _)⟩
theorem s_callvN {γ : Type} {V : γ → Value} {Y : γ → Asn} {f : FuncId} {x : Operand} {cs : List Value} {xs : List Operand} {vs : List Value} {ts : Array TypeId} (hS : St n F0 w0 a w L Γ) (hv : ev L x = some (.func (.func f) #[] cs.toArray)) (hx : Evs L xs vs) (hf : CallsTo P f) (hn : Nat.blt d n = true)
    (hc : NewC P f (vs ++ cs) w V Y) (h : ∀ x a' w', St n F0 w0 a' w' ((d, V x) :: L) (Y x :: Γ) → K a' w') : OW P ⟨some d, .call ⟨.value x, xs.toArray, ts⟩, ty, pos, af, g⟩ a w K Q :=
  s_callv hS hv hx hf hc fun _ _ ⟨x, he, hch, hY, hF⟩ => ⟨_, he, h x _ _ ((hS.fresh hch hY hF).put hn _)⟩
theorem s_callvM {γ : Type} {V : γ → Value} {X : Asn} {Y : γ → Asn} {Γ' : γ → List Asn} {f : FuncId} {x : Operand} {cs : List Value} {xs : List Operand} {vs : List Value} {ts : Array TypeId} (hS : St n F0 w0 a w L Γ) (hv : ev L x = some (.func (.func f) #[] cs.toArray)) (hx : Evs L xs vs) (hf : CallsTo P f) (hn : Nat.blt d n = true)
    (hc : MutC P f (vs ++ cs) w X V Y) (hr : ∀ x, Rep X (Y x) Γ (Γ' x)) (hm : X.mine = true) (h : ∀ x a' w', St n F0 w0 a' w' ((d, V x) :: L) (Γ' x) → K a' w') : OW P ⟨some d, .call ⟨.value x, xs.toArray, ts⟩, ty, pos, af, g⟩ a w K Q :=
  s_callv hS hv hx hf hc fun _ _ ⟨x, he, hch, hY, hF⟩ => ⟨_, he, h x _ _ ((hS.upd (hr x) hch hY hF hm).put hn _)⟩
/-- a function of the library without a body: its run is known. -/
def ExtC (P : Program) (f : FuncId) (vs : List Value) (v : Value) : Prop := ∀ w, (callFunc f vs.toArray).run P w = .ok (.value v) w
theorem e_extern {f : FuncId} {xs : List Operand} {vs : List Value} {ts : Array TypeId} {v : Value} (hx : Evs L xs vs) (hf : ExtC P f vs v) :
    Ex P n a L Γ ⟨dst, .call ⟨.value (.func f), xs.toArray, ts⟩, ty, pos, af, g⟩ v := fun hs w _ => by
  rw [execOp_call_go, hs.evs hx]
  simpa using hf w

/-! ### a region that draws its order: those that only look are taken first, as long as nobody has broken S -/
/-- whichever order; behind each operation but those of Z the condition holds. -/
def wpZ (P : Program) (ops : Array Oper) (Q : Exit → Act → World → Prop) (S : World → Prop) (Z : List Nat) : Nat → Array Bool → Act → World → Prop
  | 0, listed, a, w => Region.ready .any ops listed = [] ∧ Q .normal a w
  | fuel + 1, listed, a, w =>
    (Region.ready .any ops listed = [] → Q .normal a w) ∧
    ∀ i ∈ Region.ready .any ops listed, wpOp P ops Q i (fun a' w' => (S w → i ∈ Z ∨ S w') ∧ wpZ P ops Q S Z fuel (listed.setIfInBounds i true) a' w') a w

theorem wpAny_of_Z {ops : Array Oper} {S : World → Prop} {Z : List Nat} : ∀ (fuel : Nat) (listed : Array Bool) (a : Act) (w : World), wpZ P ops Q S Z fuel listed a w → wpAny P .any ops Q fuel listed a w
  | 0, _, _, _, h => h
  | fuel + 1, _, _, _, h => ⟨h.1, fun i hi => wpOp_mono (fun a' w' h' => wpAny_of_Z fuel _ a' w' h'.2) (h.2 i hi)⟩

/-- number z waits for number i, by way of others too. -/
def reachB (ops : Array Oper) : Nat → Nat → Nat → Bool
  | 0, _, _ => false
  | f + 1, z, i => match ops[z]? with
    | none => false
    | some o => (o.after.any fun e => Region.binds .any e && e.on == i) || (o.after.any fun e => Region.binds .any e && reachB ops f e.on i)
/-- those of Z wait for number i. -/
def waits (ops : Array Oper) (Z : List Nat) (i : Nat) : Bool := Z.all fun z => reachB ops ops.size z i
/-- whatever has come up waited for nothing that has not. -/
def Closed (ops : Array Oper) (listed : Array Bool) : Prop := ∀ m o, ops[m]? = some o → listed.getD m false = true → ∀ e ∈ o.after, Region.binds .any e = true → listed.getD e.on false = true
def closedB (ops : Array Oper) (listed : Array Bool) : Bool := (List.range ops.size).all fun m => !listed.getD m false || match ops[m]? with
  | some o => o.after.all fun e => !Region.binds .any e || listed.getD e.on false
  | none => true
theorem closed_of {ops : Array Oper} {listed : Array Bool} (h : closedB ops listed = true) : Closed ops listed := by
  intro m o hm hl e he hb
  have hlt := (Array.getElem?_eq_some_iff.1 hm).1
  have h1 := List.all_eq_true.1 h m (by simpa using hlt)
  rw [hl, hm] at h1
  simp only [Bool.not_true, Bool.false_or, Array.all_eq_true_iff_forall_mem] at h1
  have h2 := h1 e he
  rw [hb] at h2
  simpa using h2
theorem getD_set_true {l : Array Bool} {j m : Nat} (h : l.getD m false = true) : (l.setIfInBounds j true).getD m false = true := by
  by_cases e : j = m
  · subst e
    have hlt : j < l.size := by
      apply Classical.byContradiction; intro hn
      simp [Array.getD, hn] at h
    simp [Array.getD, hlt]
  · rw [getD_set_ne false e]; exact h
theorem closed_set {ops : Array Oper} {listed : Array Bool} (h : Closed ops listed) {j : Nat} (hj : j ∈ Region.ready .any ops listed) : Closed ops (listed.setIfInBounds j true) := by
  intro m o hm hl e he hb
  obtain ⟨_, oj, hoj, hall⟩ := mem_ready.1 hj
  by_cases e1 : j = m
  · subst e1
    rw [hoj] at hm; cases hm
    exact getD_set_true (hall e he hb)
  · rw [getD_set_ne false e1] at hl
    exact getD_set_true (h m o hm hl e he hb)
theorem reach_listed {ops : Array Oper} {listed : Array Bool} (hc : Closed ops listed) : ∀ (f z i : Nat) (o : Oper), ops[z]? = some o → (∀ e ∈ o.after, Region.binds .any e = true → listed.getD e.on false = true) → reachB ops f z i = true → listed.getD i false = true := by
  intro f
  induction f with
  | zero => intro z i o _ _ h; simp [reachB] at h
  | succ f ih =>
    intro z i o hz hall h
    simp only [reachB, hz, Bool.or_eq_true, Array.any_eq_true', Bool.and_eq_true, beq_iff_eq] at h
    rcases h with ⟨e, he, hb, rfl⟩ | ⟨e, he, hb, hr⟩
    · exact hall e he hb
    · have h1 := hall e he hb
      cases ho : ops[e.on]? with
      | none => cases f <;> simp [reachB, ho] at hr
      | some oe => exact ih e.on i oe ho (fun e' he' hb' => hc e.on oe ho h1 e' he' hb') hr

theorem wpZ_first {ops : Array Oper} {S : World → Prop} {Z : List Nat} {i : Nat} {oi : Oper} {v : Value} (hi : ops[i]? = some oi) (hsel : ∀ (j : Nat) (o : Oper) cs b, ops[j]? = some o → o.op ≠ .select cs b)
    (hQ : ∀ c a w, Q (.panic c) (a.put oi.dst v) w → Q (.panic c) a w) (hZ : waits ops Z i = true) :
    ∀ (fuel : Nat) (listed : Array Bool) (a : Act) (w : World),
      (∀ j oj, ops[j]? = some oj → j ≠ i → listed.getD j true = false → (∀ e ∈ oj.after, Region.binds .any e = true → e.on ≠ i) → oi.apart ops oj = true) →
      Closed ops listed → i ∈ Region.ready .any ops listed → YieldsIf P ops S oi v a → S w →
      wpZ P ops Q S Z fuel (listed.setIfInBounds i true) (a.put oi.dst v) w → wpZ P ops Q S Z (fuel + 1) listed a w := by
  intro fuel
  induction fuel with
  | zero =>
    intro listed a w _ _ hr hy hS H
    refine ⟨fun h => (by rw [h] at hr; cases hr), fun j hj => ?_⟩
    by_cases hji : j = i
    · subst hji; exact hy.wpOp hi hS ⟨fun h => .inr h, H⟩
    · have := ready_mono hj hji
      rw [H.1] at this
      cases this
  | succ fuel ih =>
    intro listed a w hfree hcl hr hy hS H
    refine ⟨fun h => (by rw [h] at hr; cases hr), fun j hj => ?_⟩
    by_cases hji : j = i
    · subst hji; exact hy.wpOp hi hS ⟨fun h => .inr h, H⟩
    · have h1 := H.2 j (ready_mono hj hji)
      obtain ⟨hjun, oj, hoj, hall⟩ := mem_ready.1 hj
      have hnot : ∀ e ∈ oj.after, Region.binds .any e = true → e.on ≠ i := fun e he hb heq => by
        have h1 := hall e he hb
        have h0 := (mem_ready.1 hr).1
        rw [heq] at h1
        rcases Nat.lt_or_ge i listed.size with h' | h'
        · simp [h'] at h0 h1; rw [h0] at h1; cases h1
        · simp [Array.getElem?_eq_none h'] at h1
      have hjZ : j ∉ Z := fun hz => by
        have h5 := List.all_eq_true.1 hZ j hz
        have h6 := reach_listed hcl _ _ _ _ hoj hall h5
        have h7 := (mem_ready.1 hr).1
        rcases Nat.lt_or_ge i listed.size with h' | h'
        · simp [h'] at h6 h7; rw [h6] at h7; cases h7
        · simp [Array.getElem?_eq_none h'] at h6
      have h2 := wpOp_putIf hoj (hfree j oj hoj hji hjun hnot) (fun cs b => hsel i oi cs b hi) (fun cs b => hsel j oj cs b hoj) hQ hy h1
      have hfree' : ∀ k ok, ops[k]? = some ok → k ≠ i → (listed.setIfInBounds j true).getD k true = false →
          (∀ e ∈ ok.after, Region.binds .any e = true → e.on ≠ i) → oi.apart ops ok = true := fun k ok hk hki hun hno => by
        refine hfree k ok hk hki ?_ hno
        by_cases hjk : j = k
        · subst hjk; exact hjun
        · rw [getD_set_ne true hjk] at hun; exact hun
      refine wpOp_mono (fun a' w' h3 => ⟨fun _ => .inr ((h3.2.1 hS).resolve_left hjZ), ih (listed.setIfInBounds j true) a' w' hfree' (closed_set hcl hj) (ready_mono hr (Ne.symm hji)) h3.1 ((h3.2.1 hS).resolve_left hjZ) ?_⟩) h2
      rw [Array.setIfInBounds_comm _ _ hji]
      exact h3.2.2

/-- the same for one that looks at nothing. -/
theorem wpZ_first0 {ops : Array Oper} {S : World → Prop} {Z : List Nat} {i : Nat} {oi : Oper} {v : Value} (hi : ops[i]? = some oi) (hsel : ∀ (j : Nat) (o : Oper) cs b, ops[j]? = some o → o.op ≠ .select cs b)
    (hQ : ∀ c a w, Q (.panic c) (a.put oi.dst v) w → Q (.panic c) a w) :
    ∀ (fuel : Nat) (listed : Array Bool) (a : Act) (w : World),
      (∀ j oj, ops[j]? = some oj → j ≠ i → listed.getD j true = false → (∀ e ∈ oj.after, Region.binds .any e = true → e.on ≠ i) → oi.apart ops oj = true) →
      i ∈ Region.ready .any ops listed → Yields P ops oi v a →
      wpZ P ops Q S Z fuel (listed.setIfInBounds i true) (a.put oi.dst v) w → wpZ P ops Q S Z (fuel + 1) listed a w := by
  intro fuel
  induction fuel with
  | zero =>
    intro listed a w _ hr hy H
    refine ⟨fun h => (by rw [h] at hr; cases hr), fun j hj => ?_⟩
    by_cases hji : j = i
    · subst hji; exact hy.wpOp hi ⟨fun h => .inr h, H⟩
    · have := ready_mono hj hji
      rw [H.1] at this
      cases this
  | succ fuel ih =>
    intro listed a w hfree hr hy H
    refine ⟨fun h => (by rw [h] at hr; cases hr), fun j hj => ?_⟩
    by_cases hji : j = i
    · subst hji; exact hy.wpOp hi ⟨fun h => .inr h, H⟩
    · have h1 := H.2 j (ready_mono hj hji)
      obtain ⟨hjun, oj, hoj, hall⟩ := mem_ready.1 hj
      have hnot : ∀ e ∈ oj.after, Region.binds .any e = true → e.on ≠ i := fun e he hb heq => by
        have h1 := hall e he hb
        have h0 := (mem_ready.1 hr).1
        rw [heq] at h1
        rcases Nat.lt_or_ge i listed.size with h' | h'
        · simp [h'] at h0 h1; rw [h0] at h1; cases h1
        · simp [Array.getElem?_eq_none h'] at h1
      have h2 := wpOp_put hoj (hfree j oj hoj hji hjun hnot) (fun cs b => hsel i oi cs b hi) (fun cs b => hsel j oj cs b hoj) hQ hy h1
      have hfree' : ∀ k ok, ops[k]? = some ok → k ≠ i → (listed.setIfInBounds j true).getD k true = false →
          (∀ e ∈ ok.after, Region.binds .any e = true → e.on ≠ i) → oi.apart ops ok = true := fun k ok hk hki hun hno => by
        refine hfree k ok hk hki ?_ hno
        by_cases hjk : j = k
        · subst hjk; exact hjun
        · rw [getD_set_ne true hjk] at hun; exact hun
      refine wpOp_mono (fun a' w' h3 => ⟨h3.2.1, ih (listed.setIfInBounds j true) a' w' hfree' (ready_mono hr (Ne.symm hji)) h3.1 ?_⟩) h2
      rw [Array.setIfInBounds_comm _ _ hji]
      exact h3.2.2

/-- the beginning. -/
theorem c_draw {id : Nat} {l : List Oper} (Γs : List Asn) (Z : List Nat) (hm : P.follows .mixedOrders = true) (hS : St n F0 w0 a w L Γ)
    (h : ∀ w', St n F0 w0 a w' L Γ → wpZ P l.toArray Q (Hd Γs) Z l.length (List.replicate l.length false).toArray a w') : (Code.region id l.toArray true).wp P Q a w := by
  refine wp_region_any hm (wpAny_of_Z (S := Hd Γs) (Z := Z) _ _ _ _ ?_)
  have := h w.drew (hS.ext (Chg.drew _ _))
  simpa using this

theorem c_draw1 {id : Nat} {l : List Oper} (Z : List Nat) (hm : P.follows .mixedOrders = true) (hS : St n F0 w0 a w L Γ)
    (h : ∀ w', St n F0 w0 a w' L Γ → wpZ P l.toArray Q (Hd Γ) Z l.length (List.replicate l.length false).toArray a w') : (Code.region id l.toArray true).wp P Q a w := c_draw Γ Z hm hS h

theorem sub_nil {Γ : List Asn} : ∀ Y ∈ ([] : List Asn), Y ∈ Γ := fun _ h => by cases h
theorem sub_cons {Γ Γs : List Asn} {X : Asn} (h : X ∈ Γ) (t : ∀ Y ∈ Γs, Y ∈ Γ) : ∀ Y ∈ X :: Γs, Y ∈ Γ := fun Y hY => by
  rcases List.mem_cons.1 hY with rfl | hY
  · exact h
  · exact t Y hY
theorem c_drawS {id : Nat} {l : List Oper} {Γs : List Asn} (Z : List Nat) (hm : P.follows .mixedOrders = true) (hS : St n F0 w0 a w L Γ) (_hsub : ∀ X ∈ Γs, X ∈ Γ)
    (h : ∀ w', St n F0 w0 a w' L Γ → wpZ P l.toArray Q (Hd Γs) Z l.length (List.replicate l.length false).toArray a w') : (Code.region id l.toArray true).wp P Q a w := c_draw Γs Z hm hS h

/-- number i only looks: it is taken first. -/
theorem Z_take {i fuel : Nat} {l : List Oper} {Γs : List Asn} {Z : List Nat} {listed listed' : List Bool} {v : Value} (hS : St n F0 w0 a w L Γ) (hi : l[i]? = some ⟨some d, op, ty, pos, af, g⟩) (hw : ∀ a, Sl n a L → Region.wanted ⟨some d, op, ty, pos, af, g⟩ (yielded l.toArray a.tmps) = true) (he : Ex P n a L Γs ⟨some d, op, ty, pos, af, g⟩ v)
    (hl : listed.set i true = listed') (hns : Region.noSelect l.toArray = true) (hf : Region.free .any l.toArray listed.toArray i = true) (hr : (Region.ready .any l.toArray listed.toArray).contains i = true) (hcl : closedB l.toArray listed.toArray = true) (hZ : waits l.toArray Z i = true)
    (hsub : ∀ X ∈ Γs, X ∈ Γ) (hQ : ∀ c a w, Q (.panic c) (a.put (some d) v) w → Q (.panic c) a w) (hn : Nat.blt d n = true)
    (h : ∀ a', St n F0 w0 a' w ((d, v) :: L) Γ → wpZ P l.toArray Q (Hd Γs) Z fuel listed'.toArray a' w) : wpZ P l.toArray Q (Hd Γs) Z (fuel + 1) listed.toArray a w := by
  have hi' : l.toArray[i]? = some ⟨some d, op, ty, pos, af, g⟩ := by simpa using hi
  refine wpZ_first hi' (Region.noSelect_spec hns) hQ hZ fuel _ a w (Region.free_spec hi' hf) (closed_of hcl) (by simpa using hr) (.inl ⟨hw a hS.sl, fun w' hh => he hS.sl w' hh⟩) (fun X hX => hS.get (hsub X hX)) ?_
  have := h _ (hS.put hn v)
  subst hl
  simpa using this
theorem Z_take0 {i fuel : Nat} {l : List Oper} {Γs : List Asn} {Z : List Nat} {listed listed' : List Bool} {v : Value} (hS : St n F0 w0 a w L Γ) (hi : l[i]? = some ⟨some d, op, ty, pos, af, g⟩) (hw : ∀ a, Sl n a L → Region.wanted ⟨some d, op, ty, pos, af, g⟩ (yielded l.toArray a.tmps) = true) (he : Ex P n a L [] ⟨some d, op, ty, pos, af, g⟩ v)
    (hl : listed.set i true = listed') (hns : Region.noSelect l.toArray = true) (hf : Region.free .any l.toArray listed.toArray i = true) (hr : (Region.ready .any l.toArray listed.toArray).contains i = true)
    (hQ : ∀ c a w, Q (.panic c) (a.put (some d) v) w → Q (.panic c) a w) (hn : Nat.blt d n = true)
    (h : ∀ a', St n F0 w0 a' w ((d, v) :: L) Γ → wpZ P l.toArray Q (Hd Γs) Z fuel listed'.toArray a' w) : wpZ P l.toArray Q (Hd Γs) Z (fuel + 1) listed.toArray a w := by
  have hi' : l.toArray[i]? = some ⟨some d, op, ty, pos, af, g⟩ := by simpa using hi
  refine wpZ_first0 hi' (Region.noSelect_spec hns) hQ fuel _ a w (Region.free_spec hi' hf) (by simpa using hr) (.inl ⟨hw a hS.sl, fun w' => he hS.sl w' (fun _ hX => by cases hX)⟩) ?_
  have := h _ (hS.put hn v)
  subst hl
  simpa using this
/-- a guarded one whose guard says no. -/
theorem Z_none_t {i j t fuel : Nat} {l : List Oper} {Γs : List Asn} {Z : List Nat} {listed listed' : List Bool} (hS : St n F0 w0 a w L Γ) (hi : l[i]? = some ⟨some d, op, ty, pos, af, some (j, true)⟩) (hj : opDst l j = some t) (hv : lk L t = some (.bool false))
    (hl : listed.set i true = listed') (hns : Region.noSelect l.toArray = true) (hf : Region.free .any l.toArray listed.toArray i = true) (hr : (Region.ready .any l.toArray listed.toArray).contains i = true)
    (hQ : ∀ c a w, Q (.panic c) (a.put (some d) undef) w → Q (.panic c) a w) (hn : Nat.blt d n = true)
    (h : ∀ a', St n F0 w0 a' w ((d, undef) :: L) Γ → wpZ P l.toArray Q (Hd Γs) Z fuel listed'.toArray a' w) : wpZ P l.toArray Q (Hd Γs) Z (fuel + 1) listed.toArray a w := by
  have hi' : l.toArray[i]? = some ⟨some d, op, ty, pos, af, some (j, true)⟩ := by simpa using hi
  refine wpZ_first0 hi' (Region.noSelect_spec hns) hQ fuel _ a w (Region.free_spec hi' hf) (by simpa using hr) (.inr ⟨by simp [Region.wanted, yielded_of hS.sl hj hv], rfl⟩) ?_
  have := h _ (hS.put hn undef)
  subst hl
  simpa using this
theorem Z_none_f {i j t fuel : Nat} {l : List Oper} {Γs : List Asn} {Z : List Nat} {listed listed' : List Bool} (hS : St n F0 w0 a w L Γ) (hi : l[i]? = some ⟨some d, op, ty, pos, af, some (j, false)⟩) (hj : opDst l j = some t) (hv : lk L t = some (.bool true))
    (hl : listed.set i true = listed') (hns : Region.noSelect l.toArray = true) (hf : Region.free .any l.toArray listed.toArray i = true) (hr : (Region.ready .any l.toArray listed.toArray).contains i = true)
    (hQ : ∀ c a w, Q (.panic c) (a.put (some d) undef) w → Q (.panic c) a w) (hn : Nat.blt d n = true)
    (h : ∀ a', St n F0 w0 a' w ((d, undef) :: L) Γ → wpZ P l.toArray Q (Hd Γs) Z fuel listed'.toArray a' w) : wpZ P l.toArray Q (Hd Γs) Z (fuel + 1) listed.toArray a w := by
  have hi' : l.toArray[i]? = some ⟨some d, op, ty, pos, af, some (j, false)⟩ := by simpa using hi
  refine wpZ_first0 hi' (Region.noSelect_spec hns) hQ fuel _ a w (Region.free_spec hi' hf) (by simpa using hr) (.inr ⟨by simp [Region.wanted, yielded_of hS.sl hj hv], rfl⟩) ?_
  have := h _ (hS.put hn undef)
  subst hl
  simpa using this
theorem Z_none_u {i j t fuel : Nat} {b : Bool} {l : List Oper} {Γs : List Asn} {Z : List Nat} {listed listed' : List Bool} (hS : St n F0 w0 a w L Γ) (hi : l[i]? = some ⟨some d, op, ty, pos, af, some (j, b)⟩) (hj : opDst l j = some t) (hv : lk L t = some undef)
    (hl : listed.set i true = listed') (hns : Region.noSelect l.toArray = true) (hf : Region.free .any l.toArray listed.toArray i = true) (hr : (Region.ready .any l.toArray listed.toArray).contains i = true)
    (hQ : ∀ c a w, Q (.panic c) (a.put (some d) undef) w → Q (.panic c) a w) (hn : Nat.blt d n = true)
    (h : ∀ a', St n F0 w0 a' w ((d, undef) :: L) Γ → wpZ P l.toArray Q (Hd Γs) Z fuel listed'.toArray a' w) : wpZ P l.toArray Q (Hd Γs) Z (fuel + 1) listed.toArray a w := by
  have hi' : l.toArray[i]? = some ⟨some d, op, ty, pos, af, some (j, b)⟩ := by simpa using hi
  refine wpZ_first0 hi' (Region.noSelect_spec hns) hQ fuel _ a w (Region.free_spec hi' hf) (by simpa using hr) (.inr ⟨by simp [Region.wanted, yielded_undef hS.sl hj hv], rfl⟩) ?_
  have := h _ (hS.put hn undef)
  subst hl
  simpa using this
/-- number i alone may come up. -/
theorem Z_one {i fuel : Nat} {l : List Oper} {Γs : List Asn} {Z : List Nat} {listed listed' : List Bool} (hi : l[i]? = some ⟨dst, op, ty, pos, af, g⟩) (hw : Region.wanted ⟨dst, op, ty, pos, af, g⟩ (yielded l.toArray a.tmps) = true) (hl : listed.set i true = listed') (hr : Region.ready .any l.toArray listed.toArray = [i])
    (h : OW P ⟨dst, op, ty, pos, af, g⟩ a w (fun a' w' => (Hd Γs w → i ∈ Z ∨ Hd Γs w') ∧ wpZ P l.toArray Q (Hd Γs) Z fuel listed'.toArray a' w') Q) : wpZ P l.toArray Q (Hd Γs) Z (fuel + 1) listed.toArray a w := by
  have hi' : l.toArray[i]? = some ⟨dst, op, ty, pos, af, g⟩ := by simpa using hi
  refine ⟨fun h0 => (by rw [hr] at h0; cases h0), fun j hj => ?_⟩
  rw [hr] at hj
  obtain rfl := List.mem_singleton.1 hj
  unfold wpOp
  simp only [hi']
  rw [if_pos hw]
  subst hl
  refine .inl ?_
  have h := h.h
  simpa using h
theorem Z_done {l : List Oper} {Γs : List Asn} {Z : List Nat} {listed : List Bool} (hr : Region.ready .any l.toArray listed.toArray = []) (h : Q .normal a w) : wpZ P l.toArray Q (Hd Γs) Z 0 listed.toArray a w := ⟨hr, h⟩
theorem Z_and {i : Nat} {Γs : List Asn} {Z : List Nat} {G S0 : Prop} (hS : St n F0 w0 a w L Γ) (hsub : ∀ X ∈ Γs, X ∈ Γ) (h : G) : (S0 → i ∈ Z ∨ Hd Γs w) ∧ G := ⟨fun _ => .inr fun X hX => hS.get (hsub X hX), h⟩
theorem Z_last {i : Nat} {Γs : List Asn} {Z : List Nat} {G S0 : Prop} (hi : i ∈ Z) (h : G) : (S0 → i ∈ Z ∨ Hd Γs w) ∧ G := ⟨fun _ => .inl hi, h⟩
theorem want_none (b : Act) (_h : Sl n b L) : Region.wanted ⟨dst, op, ty, pos, af, none⟩ (yielded l.toArray b.tmps) = true := rfl
theorem want_go {j t : Nat} {c : Bool} (hj : opDst l j = some t) (hv : lk L t = some (.bool c)) (b : Act) (h : Sl n b L) : Region.wanted ⟨dst, op, ty, pos, af, some (j, c)⟩ (yielded l.toArray b.tmps) = true := by
  simp [Region.wanted, yielded_of h hj hv]
end
end Go.Proofs.Ytheofhegdjjfgaa
