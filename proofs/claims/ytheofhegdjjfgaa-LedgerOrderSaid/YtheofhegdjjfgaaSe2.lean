/- One lemma for each kind of operation: what it leaves in its slot and in the world. -/
import Derived.Test.YtheofhegdjjfgaaSe1
namespace Go.Proofs.Ytheofhegdjjfgaa
open Go.RowKit

/-! ### facts on types -/
def szOf (P : Program) (t : TypeId) : Option Nat := (P.info? t).map (·.size)
def byOf (P : Program) (t : TypeId) : Option Nat := (P.info? t).map (·.bytes)
def zeroOf (P : Program) (t : TypeId) : Option (List Value) := ((P.info? t).bind (·.zero)).map (·.cells.toList)
def scalarD : TypeDesc → Bool
  | .struct _ | .array _ _ => false
  | _ => true
def scalarT (P : Program) (t : TypeId) : Bool := match P.underlying t with | some d => scalarD d | none => false
def structT (P : Program) (t : TypeId) : Bool := match P.underlying t with | some (.struct _) => true | _ => false
def intT (P : Program) (t : TypeId) : Option IntKind := match P.underlying t with | some (.int k) => some k | _ => none
def sliceT (P : Program) (t : TypeId) : Option TypeId := match P.underlying t with | some (.slice e) => some e | _ => none
def fieldOff (P : Program) (s f : Nat) : Option Nat :=
  match P.underlying s with
  | some (.struct fs) => match fs[f]? with
    | some fd => match szOf P fd.type with | some (_ + 1) => some fd.offset | _ => none
    | none => none
  | _ => none
def fieldTy (P : Program) (s f : Nat) : Option TypeId :=
  match P.underlying s with
  | some (.struct fs) => (fs[f]?).map (·.type)
  | _ => none
def placesOf (P : Program) (t : TypeId) : Option (List (Nat × Nat)) :=
  match P.underlying t with
  | some (.struct fs) => fs.toList.mapM fun f => (szOf P f.type).map fun s => (f.offset, s)
  | _ => none
def CallsTo (P : Program) (f : FuncId) : Prop := ∀ (args : Array Value) (w : World), (callFunc f args).run P w = .ok (.enter f args) w

theorem callsTo {P : Program} {f : FuncId} {fn : Func} (hf : P.funcs[f]? = some fn) (hname : (fn.name == "runtime.NumGoroutine") = false) (hb : fn.body.isNone = false) : CallsTo P f := by
  intro args w
  simp only [callFunc, Sem.run_bind, run_program, Result.andThen_ok, hf, hname, hb, Bool.false_eq_true, if_false]
  rfl

def nth : List Value → Nat → Option Value
  | [], _ => none
  | v :: l, i => bif Nat.beq i 0 then some v else nth l (i - 1)

theorem nth_eq (l : List Value) (i : Nat) : nth l i = l[i]? := by
  induction l generalizing i with
  | nil => simp [nth]
  | cons v l ih =>
    cases i with
    | zero => simp [nth]
    | succ i => exact (ih i).trans (by simp)

inductive Upd : List Value → Nat → Value → List Value → Prop
  | z {x v : Value} {xs : List Value} : Upd (x :: xs) 0 v (v :: xs)
  | s {x v : Value} {xs ys : List Value} {k : Nat} (h : Upd xs k v ys) : Upd (x :: xs) (k + 1) v (x :: ys)

theorem Upd.eq {l l' : List Value} {k : Nat} {v : Value} (h : Upd l k v l') : l' = l.set k v ∧ k < l.length := by
  induction h with
  | z => simp
  | s _ ih => simp [ih.1, ih.2]

def isOne : Value → Bool
  | .agg _ | .tuple _ => false
  | _ => true

theorem isOne_oneCell {v : Value} (h : isOne v = true) : v.oneCell' = true := by cases v <;> simp_all [isOne, Value.oneCell']
theorem isOne_cells {v : Value} (h : isOne v = true) : v.cells = #[v] := by cases v <;> simp_all [isOne, Value.cells]

theorem typeInfo_run {P : Program} {t : TypeId} {i : TypeInfo} (h : P.info? t = some i) (w : World) : (typeInfo t).run P w = .ok i w := by
  simp [typeInfo, h]
theorem sizeOf_run {P : Program} {t : TypeId} {s : Nat} (h : szOf P t = some s) (w : World) : (Go.sizeOf t).run P w = .ok s w := by
  unfold szOf at h
  cases hi : P.info? t with
  | none => simp [hi] at h
  | some i => simp [hi] at h; simp [Go.sizeOf, typeInfo, hi, h]
theorem isAgg_scalar {P : Program} {t : TypeId} (h : scalarT P t = true) (w : World) : (isAgg t).run P w = .ok false w := by
  unfold scalarT at h
  cases hi : P.underlying t with
  | none => simp [hi] at h
  | some d => simp [hi] at h; cases d <;> simp_all [isAgg, underlying, scalarD]
theorem isAgg_struct {P : Program} {t : TypeId} (h : structT P t = true) (w : World) : (isAgg t).run P w = .ok true w := by
  unfold structT at h
  cases hi : P.underlying t with
  | none => simp [hi] at h
  | some d => cases d <;> simp_all [isAgg, underlying]
theorem zero_run {P : Program} {t : TypeId} {zs : List Value} (h : zeroOf P t = some zs) (w : World) : ∃ z, (zeroValue t).run P w = .ok z w ∧ z.cells = zs.toArray := by
  unfold zeroOf at h
  cases hi : P.info? t with
  | none => simp [hi] at h
  | some i =>
    cases hz : i.zero with
    | none => simp [hi, hz] at h
    | some z => simp [hi, hz] at h; exact ⟨z, by simp [zeroValue, typeInfo, hi, hz], by simp [← h]⟩

theorem addr_add (b k j : Nat) : (⟨b, k, none⟩ : Addr).add j = ⟨b, k + j, none⟩ := by
  unfold Addr.add; split <;> simp_all

theorem load_run {P : Program} {w : World} {p : Addr} {v : Value} (h : w.cell? p = some v) (m : Mode) : (load p m).run P w = .ok v w := by simp [h]

theorem loadVar_scalar {P : Program} {t : TypeId} (ht : scalarT P t = true) {w : World} {p : Addr} {v : Value} (h : w.cell? p = some v) : (loadVar t p).run P w = .ok v w := by
  simp [loadVar, isAgg_scalar ht, h]
theorem loadVar_struct {P : Program} {t : TypeId} (ht : structT P t = true) {l : List Value} (hs : szOf P t = some l.length) {w : World} {p : Addr}
    (h : ∀ j v, l[j]? = some v → w.cell? (p.add j) = some v) : (loadVar t p).run P w = .ok (.agg l.toArray) w := by
  have := run_loadCells_list (P := P) (w := w) p l h
  simp [loadVar, isAgg_struct ht, sizeOf_run hs, this]

theorem cell_of_blk {w : World} {b k : Nat} {cs : List Value} {E : TypeId} {v : Value} (h : w.heap[b]? = some (.cells cs.toArray E (0, 0))) (hv : cs[k]? = some v) : w.cell? ⟨b, k, none⟩ = some v := by
  simp [World.cell?, h, hv]
theorem frozen_of_blk {w : World} {b k : Nat} {cs : List Value} {E : TypeId} (h : w.heap[b]? = some (.cells cs.toArray E (0, 0))) : w.frozen? ⟨b, k, none⟩ = false := by
  simp [World.frozen?, h]
theorem setCell_of_blk {w : World} {b k : Nat} {cs : List Value} {E : TypeId} (h : w.heap[b]? = some (.cells cs.toArray E (0, 0))) (v : Value) :
    (w.setCell ⟨b, k, none⟩ v).heap[b]? = some (.cells (cs.set k v).toArray E (0, 0)) := by
  simp only [World.setCell, Array.getElem?_modify, h]
  simp

/-- an operation's goal, closed to the elaborator's eye. -/
structure OW (P : Program) (o : Oper) (a : Act) (w : World) (K : Act → World → Prop) (Q : Exit → Act → World → Prop) : Prop where
  h : o.wp P a w K Q

section
variable {P : Program} {n : Nat} {F0 : Nat → Prop} {w0 : World} {a : Act} {w : World} {L : List (Nat × Value)} {Γ : List Asn}
variable {K : Act → World → Prop} {Q : Exit → Act → World → Prop} {d ty : Nat} {dst : Option Tmp} {pos : String} {af : Array Edge} {g : Option (Nat × Bool)}

/-- what is known of a world. -/
def Hd (Γ : List Asn) (w : World) : Prop := ∀ X ∈ Γ, X.φ w
theorem St.hd (h : St n F0 w0 a w L Γ) : Hd Γ w := fun _ hX => h.get hX
/-- the operation yields this value in whatever world all that holds. -/
def Ex (P : Program) (n : Nat) (a : Act) (L : List (Nat × Value)) (Γ : List Asn) (o : Oper) (v : Value) : Prop :=
  Sl n a L → ∀ w, Hd Γ w → (execOp a.eval o).run P w = .ok (.value v) w

theorem s_e {op : Op} {v : Value} (hS : St n F0 w0 a w L Γ) (he : Ex P n a L Γ ⟨some d, op, ty, pos, af, g⟩ v) (hn : Nat.blt d n = true)
    (h : ∀ a', St n F0 w0 a' w ((d, v) :: L) Γ → K a' w) : OW P ⟨some d, op, ty, pos, af, g⟩ a w K Q := by
  refine ⟨?_⟩
  unfold Oper.wp
  rw [he hS.sl w hS.hd]
  exact h _ (hS.put hn v)

theorem s_val {o : Oper} {v : Value} (hS : St n F0 w0 a w L Γ) (he : (execOp a.eval o).run P w = .ok (.value v) w) (hd : o.dst = some d) (hn : Nat.blt d n = true)
    (h : ∀ a', St n F0 w0 a' w ((d, v) :: L) Γ → K a' w) : OW P o a w K Q := by
  refine ⟨?_⟩
  unfold Oper.wp
  rw [he]
  show K (a.put o.dst v) w
  rw [hd]
  exact h _ (hS.put hn v)

theorem e_move {x : Operand} {v : Value} (hx : ev L x = some v) : Ex P n a L Γ ⟨dst, .move x, ty, pos, af, g⟩ v := fun hs w hh =>
  (by simp [execOp, hs.ev hx])
theorem e_assign {x : Operand} {v : Value} (hx : ev L x = some v) : Ex P n a L Γ ⟨dst, .assign x, ty, pos, af, g⟩ v := fun hs w hh =>
  (by simp [execOp, hs.ev hx])
theorem e_pick_t {c x y : Operand} {v : Value} (hc : ev L c = some (.bool true)) (hx : ev L x = some v) : Ex P n a L Γ ⟨dst, .pick c x y, ty, pos, af, g⟩ v := fun hs w hh =>
  (by simp [execOp, hs.ev hc, hs.ev hx, asBool])
theorem e_pick_f {c x y : Operand} {v : Value} (hc : ev L c = some (.bool false)) (hx : ev L y = some v) : Ex P n a L Γ ⟨dst, .pick c x y, ty, pos, af, g⟩ v := fun hs w hh =>
  (by simp [execOp, hs.ev hc, hs.ev hx, asBool])
/-- operations on two integers. -/
def binI (op : BinOp) (k : IntKind) (x y : Int) : Option Value :=
  match op with
  | .add => some (.int k (k.wrap (x + y)))
  | .sub => some (.int k (k.wrap (x - y)))
  | .mul => some (.int k (k.wrap (x * y)))
  | .eql => some (.bool (decide (x = y)))
  | .neq => some (.bool (decide (x ≠ y)))
  | .lss => some (.bool (decide (x < y)))
  | .leq => some (.bool (decide (x ≤ y)))
  | .gtr => some (.bool (decide (y < x)))
  | .geq => some (.bool (decide (y ≤ x)))
  | _ => none

theorem binI_run {op : BinOp} {k : IntKind} {x y : Int} {v : Value} (hv : binI op k x y = some v) (t : TypeId) (p q : Operand) :
    ((do eqGuard op t p q (.int k x) (.int k y); binOp op t (.int k x) (.int k y)) : Sem Value).run P w = .ok v w := by
  cases op <;> simp [binI] at hv <;> subst hv <;> simp [eqGuard, binOp, Op.intArith, Op.intCmp]
  · by_cases h : x = y <;> simp [h]
  · by_cases h : x = y <;> simp [h]

theorem e_bin {op : BinOp} {t t' : TypeId} {x y : Operand} {k : IntKind} {i j : Int} {v : Value} (hx : ev L x = some (.int k i)) (hy : ev L y = some (.int k j))
    (hv : binI op k i j = some v) : Ex P n a L Γ ⟨dst, .binOp op t x y t', ty, pos, af, g⟩ v := fun hs w hh =>
  (by
    have := binI_run (P := P) (w := w) hv t x y
    simp only [execOp, hs.ev hx, hs.ev hy, Sem.run_bind] at this ⊢
    rw [this]; rfl)
/-- sums that stay ints. -/
def binN (op : BinOp) (x y : Int) : Option Int :=
  match op with
  | .add => some (x + y)
  | .sub => some (x - y)
  | .mul => some (x * y)
  | _ => none
theorem e_binN {op : BinOp} {t t' : TypeId} {x y : Operand} {i j m : Int} (hx : ev L x = some (.int .i64 i)) (hy : ev L y = some (.int .i64 j))
    (hv : binN op i j = some m) (hm : -9223372036854775808 ≤ m ∧ m ≤ 9223372036854775807) : Ex P n a L Γ ⟨dst, .binOp op t x y t', ty, pos, af, g⟩ (.int .i64 m) := by
  have hw : IntKind.i64.wrap m = m := IntWalk.i64_in _ (by omega)
  refine e_bin hx hy (v := .int .i64 m) ?_
  cases op <;> simp [binN] at hv <;> subst hv <;> simp [binI, hw]

theorem e_rem {t t' : TypeId} {x y : Operand} {k : IntKind} {i j : Int} (hx : ev L x = some (.int k i)) (hy : ev L y = some (.int k j))
     (hj : j ≠ 0) : Ex P n a L Γ ⟨dst, .binOp .rem t x y t', ty, pos, af, g⟩ (.int k (i.tmod j)) := fun hs w hh =>
  (by simp [execOp, hs.ev hx, hs.ev hy, eqGuard, binOp, Op.intDiv, hj])
theorem e_quo {t t' : TypeId} {x y : Operand} {k : IntKind} {i j : Int} (hx : ev L x = some (.int k i)) (hy : ev L y = some (.int k j))
     (hj : j ≠ 0) : Ex P n a L Γ ⟨dst, .binOp .quo t x y t', ty, pos, af, g⟩ (.int k (k.wrap (i.tdiv j))) := fun hs w hh =>
  (by simp [execOp, hs.ev hx, hs.ev hy, eqGuard, binOp, Op.intDiv, hj])
theorem e_remN {t t' : TypeId} {x y : Operand} {k : IntKind} {i j : Int} (hx : ev L x = some (.int k i)) (hy : ev L y = some (.int k j))
    (hi : 0 ≤ i ∧ 0 < j) : Ex P n a L Γ ⟨dst, .binOp .rem t x y t', ty, pos, af, g⟩ (.int k (i % j)) := by
  rw [← Int.tmod_eq_emod_of_nonneg hi.1]; exact e_rem hx hy (by omega)
theorem e_quoN {t t' : TypeId} {x y : Operand} {i j : Int} (hx : ev L x = some (.int .i64 i)) (hy : ev L y = some (.int .i64 j))
    (hi : 0 ≤ i ∧ 0 < j ∧ i ≤ 9223372036854775807) : Ex P n a L Γ ⟨dst, .binOp .quo t x y t', ty, pos, af, g⟩ (.int .i64 (i / j)) := by
  have h1 : 0 ≤ i / j := Int.ediv_nonneg hi.1 (by omega)
  have h2 : i / j ≤ i := Int.ediv_le_self _ hi.1
  have hw : IntKind.i64.wrap (i / j) = i / j := IntWalk.i64_in _ (by omega)
  have h3 : IntKind.i64.wrap (i.tdiv j) = i / j := by rw [Int.tdiv_eq_ediv_of_nonneg hi.1, hw]
  have h4 := e_quo (P := P) (n := n) (a := a) (Γ := Γ) (dst := dst) (ty := ty) (pos := pos) (af := af) (g := g) (t := t) (t' := t') hx hy (by omega)
  rwa [h3] at h4

/-- comparisons of strings. -/
def binS (op : BinOp) (x y : ByteArray) : Option Value :=
  match op with
  | .eql => some (.bool (decide (x = y)))
  | .neq => some (.bool (decide (x ≠ y)))
  | _ => none
theorem bytes_beq (x y : ByteArray) : (x.toList == y.toList) = decide (x = y) := by
  rw [ByteArray.toList_eq, ByteArray.toList_eq]
  by_cases h : x = y
  · subst h; simp
  · have : x.data.toList ≠ y.data.toList := fun e => h (by cases x; cases y; simp_all)
    simp only [h, decide_false]
    exact beq_eq_false_iff_ne.2 this
theorem e_binS {op : BinOp} {t t' : TypeId} {x y : Operand} {i j : ByteArray} {v : Value} (hx : ev L x = some (.string i)) (hy : ev L y = some (.string j))
    (hv : binS op i j = some v) : Ex P n a L Γ ⟨dst, .binOp op t x y t', ty, pos, af, g⟩ v := fun hs w hh =>
  (by
    cases op <;> simp only [binS, Option.some.injEq, reduceCtorEq] at hv <;> subst hv <;> simp only [execOp, hs.ev hx, hs.ev hy, eqGuard, binOp, Op.stringOp, bytes_beq]
    · rfl
    · by_cases e : i = j <;> simp [e])
theorem e_binB {op : BinOp} {t t' : TypeId} {x y : Operand} {i j : Bool} (hx : ev L x = some (.bool i)) (hy : ev L y = some (.bool j))
    (hu : P.underlying t = some .bool) (ho : op = .eql) : Ex P n a L Γ ⟨dst, .binOp op t x y t', ty, pos, af, g⟩ (.bool (decide (i = j))) := fun hs w hh =>
  (by
    subst ho
    have := run_eql_bool (P := P) w t i j hu
    simp [execOp, hs.ev hx, hs.ev hy, eqGuard, this]
    cases i <;> cases j <;> rfl)
theorem e_binBn {t t' : TypeId} {x y : Operand} {i j : Bool} (hx : ev L x = some (.bool i)) (hy : ev L y = some (.bool j))
    (hu : P.underlying t = some .bool) : Ex P n a L Γ ⟨dst, .binOp .neq t x y t', ty, pos, af, g⟩ (.bool (decide (i ≠ j))) := fun hs w hh =>
  (by
    have := run_neq_bool (P := P) w t i j hu
    simp [execOp, hs.ev hx, hs.ev hy, eqGuard, this]
    cases i <;> cases j <;> rfl)
theorem e_nil {t t' : TypeId} {x : Operand} {p : Option Addr} (hx : ev L x = some (.pointer p)) (hu : P.underlying t = some (.pointer (P.pointee t)))
    : Ex P n a L Γ ⟨dst, .binOp .eql t x (.const (.pointer none)) t', ty, pos, af, g⟩ (.bool p.isNone) := fun hs w hh =>
  (by
    have := run_eql_pointer_nil (P := P) w t p hu
    have he : a.eval (.const (.pointer none)) = .pointer none := rfl
    simp [execOp, hs.ev hx, he, eqGuard, this])
theorem e_nnil {t t' : TypeId} {x : Operand} {p : Option Addr} (hx : ev L x = some (.pointer p)) (hu : P.underlying t = some (.pointer (P.pointee t)))
    : Ex P n a L Γ ⟨dst, .binOp .neq t x (.const (.pointer none)) t', ty, pos, af, g⟩ (.bool p.isSome) := fun hs w hh =>
  (by
    have := run_neq_pointer_nil (P := P) w t p hu
    have he : a.eval (.const (.pointer none)) = .pointer none := rfl
    cases p <;> simp_all [execOp, hs.ev hx, eqGuard])
theorem e_not {t : TypeId} {x : Operand} {b : Bool} (hx : ev L x = some (.bool b)) : Ex P n a L Γ ⟨dst, .unOp .not t x, ty, pos, af, g⟩ (.bool (!b)) := fun hs w hh =>
  (by simp [execOp, hs.ev hx, Op.unary])
theorem e_neg {t : TypeId} {x : Operand} {k : IntKind} {i : Int} (hx : ev L x = some (.int k i)) : Ex P n a L Γ ⟨dst, .unOp .neg t x, ty, pos, af, g⟩ (.int k (k.wrap (0 - i))) := fun hs w hh =>
  (by simp [execOp, hs.ev hx, Op.unary, Op.intArith])
theorem e_conv {t t' : TypeId} {x : Operand} {k k' : IntKind} {i : Int} {D : TypeDesc} (hx : ev L x = some (.int k i)) (hD : P.underlying t = some D) (hu : P.underlying t' = some (.int k'))
    : Ex P n a L Γ ⟨dst, .convert t t' x, ty, pos, af, g⟩ (.int k' (k'.wrap i)) := fun hs w hh =>
  (by simp [execOp, hs.ev hx, convert, underlying, hD, hu, Conv.intToInt])
theorem e_nilCheck {x : Operand} {p : Addr} (hx : ev L x = some (.pointer (some p))) : Ex P n a L Γ ⟨dst, .nilCheck x, ty, pos, af, g⟩ (.pointer (some p)) := fun hs w hh =>
  (by simp [execOp, hs.ev hx])
theorem e_extract {x : Operand} {i : Nat} {l : List Value} {v : Value} (hx : ev L x = some (.tuple l.toArray)) (hv : nth l i = some v) : Ex P n a L Γ ⟨dst, .extract x i, ty, pos, af, g⟩ v := fun hs w hh =>
  (by rw [nth_eq] at hv; simp [execOp, hs.ev hx, Instr.extract, hv])
theorem e_makeFunc {f : Fn} {fs xs : List Operand} {us vs : List Value} (hf : Evs L fs us) (hx : Evs L xs vs) : Ex P n a L Γ ⟨dst, .makeFunc f fs.toArray xs.toArray, ty, pos, af, g⟩ (.func f us.toArray vs.toArray) := fun hs w hh =>
  (by
    have h1 := hs.evs hx
    have h2 := hs.evs hf
    unfold execOp
    show ((do pure (.value (← Instr.makeFunc f (fs.toArray.map a.eval) (xs.toArray.map a.eval)))) : Sem Next).run P w = _
    rw [h1, h2]; rfl)
theorem e_len {x : Operand} {ts : Array TypeId} {T E : TypeId} {p : Option Addr} {m c : Nat} (hx : ev L x = some (.slice p m c)) (ht : ts[0]? = some T) (hu : sliceT P T = some E) : Ex P n a L Γ ⟨dst, .call ⟨.builtin .len, #[x], ts⟩, ty, pos, af, g⟩ (.int .i64 (m : Int)) := fun hs w hh =>
  (by
    have hu' : P.underlying T = some (.slice E) := by
      unfold sliceT at hu; cases hi : P.underlying T with
      | none => simp [hi] at hu
      | some D => cases D <;> simp_all
    simp [execOp, resolve, invoke, builtin, Builtin.len_, hs.ev hx, ht, underlying, hu', goInt])
theorem e_lenS {x : Operand} {ts : Array TypeId} {T : TypeId} {s : ByteArray} (hx : ev L x = some (.string s)) (ht : ts[0]? = some T) (hu : P.underlying T = some .string) : Ex P n a L Γ ⟨dst, .call ⟨.builtin .len, #[x], ts⟩, ty, pos, af, g⟩ (.int .i64 (s.size : Int)) := fun hs w hh =>
  (by simp [execOp, resolve, invoke, builtin, Builtin.len_, hs.ev hx, ht, underlying, hu, goInt])
/-! ### memory -/
theorem e_fa0 {s f b off : Nat} {x : Operand} (hx : ev L x = some (.pointer (some ⟨b, 0, none⟩))) (ho : fieldOff P s f = some off) : Ex P n a L Γ ⟨dst, .fieldAddr s x f, ty, pos, af, g⟩ (.pointer (some ⟨b, off, none⟩)) := fun hs w hh =>
  (by
    unfold fieldOff at ho
    cases hi : P.underlying s with
    | none => simp [hi] at ho
    | some D =>
      cases D <;> simp [hi] at ho
      rename_i fs
      cases hf : fs[f]? with
      | none => simp [hf] at ho
      | some fd =>
        simp [hf] at ho
        cases hz : szOf P fd.type with
        | none => simp [hz] at ho
        | some m =>
          cases m with
          | zero => simp [hz] at ho
          | succ m =>
            simp [hz] at ho
            simp [execOp, hs.ev hx, Instr.fieldAt, underlying, hi, hf, Instr.sureAddr, fieldPlace, sizeOf_run hz, addr_add, ho])
theorem e_faK {s f b k off : Nat} {x : Operand} (hx : ev L x = some (.pointer (some ⟨b, k, none⟩))) (ho : fieldOff P s f = some off) : Ex P n a L Γ ⟨dst, .fieldAddr s x f, ty, pos, af, g⟩ (.pointer (some ⟨b, k + off, none⟩)) := fun hs w hh =>
  (by
    unfold fieldOff at ho
    cases hi : P.underlying s with
    | none => simp [hi] at ho
    | some D =>
      cases D <;> simp [hi] at ho
      rename_i fs
      cases hf : fs[f]? with
      | none => simp [hf] at ho
      | some fd =>
        simp [hf] at ho
        cases hz : szOf P fd.type with
        | none => simp [hz] at ho
        | some m =>
          cases m with
          | zero => simp [hz] at ho
          | succ m =>
            simp [hz] at ho
            simp [execOp, hs.ev hx, Instr.fieldAt, underlying, hi, hf, Instr.sureAddr, fieldPlace, sizeOf_run hz, addr_add, ho])
theorem e_field {s f off T : Nat} {x : Operand} {l : List Value} {v : Value} (hx : ev L x = some (.agg l.toArray)) (ho : fieldOff P s f = some off) (hT : fieldTy P s f = some T) (hsc : scalarT P T = true)
    (hv : nth l off = some v) : Ex P n a L Γ ⟨dst, .field s x f, ty, pos, af, g⟩ v := fun hs w hh =>
  (by
    rw [nth_eq] at hv
    unfold fieldOff at ho; unfold fieldTy at hT
    cases hi : P.underlying s with
    | none => simp [hi] at ho
    | some D =>
      cases D <;> simp [hi] at ho
      rename_i fs
      cases hf : fs[f]? with
      | none => simp [hf] at ho
      | some fd =>
        simp [hi, hf] at ho hT
        subst hT
        cases hz : szOf P fd.type with
        | none => simp [hz] at ho
        | some m =>
          cases m with
          | zero => simp [hz] at ho
          | succ m =>
            simp [hz] at ho
            simp [execOp, hs.ev hx, Instr.field, underlying, hi, hf, asAgg, part, isAgg_scalar hsc, ho, hv])
theorem e_load {T b k : Nat} {x : Operand} {cs : List Value} {E : TypeId} {v : Value} (hx : ev L x = some (.pointer (some ⟨b, k, none⟩))) (hm : Asn.blk b cs E ∈ Γ) (hT : scalarT P T = true)
    (hv : nth cs k = some v) : Ex P n a L Γ ⟨dst, .load T x, ty, pos, af, g⟩ v := fun hs w hh =>
  (by
    rw [nth_eq] at hv
    have hc := cell_of_blk (hh _ hm) hv
    simp [execOp, hs.ev hx, Instr.loadAt, Instr.sureAddr, loadVar_scalar hT hc])
theorem e_loadC {T : Nat} {p : Addr} {x : Operand} {v : Value} (hx : ev L x = some (.pointer (some p))) (hT : scalarT P T = true) 
    (hc : ∀ w, Hd Γ w → w.cell? p = some v) : Ex P n a L Γ ⟨dst, .load T x, ty, pos, af, g⟩ v := fun hs w hh =>
  (by simp [execOp, hs.ev hx, Instr.loadAt, Instr.sureAddr, loadVar_scalar hT (hc w hh)])
/-- a struct, whole, out of a block that is it. -/
theorem e_loadA {T b m : Nat} {x : Operand} {cs : List Value} {E : TypeId} (hx : ev L x = some (.pointer (some ⟨b, 0, none⟩))) (hm : Asn.blk b cs E ∈ Γ) (hT : structT P T = true) (hz : szOf P T = some m)
    (hl : Nat.beq cs.length m = true) : Ex P n a L Γ ⟨dst, .load T x, ty, pos, af, g⟩ (.agg cs.toArray) := fun hs w hh =>
  (by
    obtain rfl := Nat.eq_of_beq_eq_true hl
    have hc := loadVar_struct (P := P) hT hz (w := w) (p := ⟨b, 0, none⟩) (fun j v hj => by rw [addr_add, Nat.zero_add]; exact cell_of_blk (hh _ hm) hj)
    simp [execOp, hs.ev hx, Instr.loadAt, Instr.sureAddr, hc])
theorem e_loadAC {T b k : Nat} {x : Operand} {l : List Value} (hx : ev L x = some (.pointer (some ⟨b, k, none⟩))) (hT : structT P T = true)  (hz : szOf P T = some l.length)
    (hc : ∀ w, Hd Γ w → ∀ j v, l[j]? = some v → w.cell? ⟨b, k + j, none⟩ = some v) : Ex P n a L Γ ⟨dst, .load T x, ty, pos, af, g⟩ (.agg l.toArray) := fun hs w hh =>
  (by
    have hc := loadVar_struct (P := P) hT hz (w := w) (p := ⟨b, k, none⟩) (fun j v hj => by rw [addr_add]; exact hc w hh j v hj)
    simp [execOp, hs.ev hx, Instr.loadAt, Instr.sureAddr, hc])
/-- a new block. -/
theorem s_new {o : Oper} {cs : List Value} {E : TypeId} (hS : St n F0 w0 a w L Γ)
    (he : (execOp a.eval o).run P w = .ok (.value (.pointer (some ⟨w.heap.size, 0, none⟩))) (w.alloc (.cells cs.toArray E))) (hd : o.dst = some d) (hn : Nat.blt d n = true)
    (h : ∀ a' w' b, St n F0 w0 a' w' ((d, .pointer (some ⟨b, 0, none⟩)) :: L) (.blk b cs E :: Γ) → K a' w') : OW P o a w K Q := by
  refine ⟨?_⟩
  unfold Oper.wp
  rw [he]
  show K (a.put o.dst _) _
  rw [hd]
  refine h _ _ w.heap.size ((hS.fresh (Chg.alloc _ _ _) (Y := .blk w.heap.size cs E) (ok_blk ?_) ?_).put hn _)
  · show (w.heap.push _)[w.heap.size]? = _
    simp
  · intro b hb; obtain rfl : b = w.heap.size := hb; exact Nat.le_refl _

theorem s_alloc {E : TypeId} {zs : List Value} (hS : St n F0 w0 a w L Γ) (hz : zeroOf P E = some zs) (hn : Nat.blt d n = true)
    (h : ∀ a' w' b, St n F0 w0 a' w' ((d, .pointer (some ⟨b, 0, none⟩)) :: L) (.blk b zs E :: Γ) → K a' w') : OW P ⟨some d, .alloc E, ty, pos, af, g⟩ a w K Q :=
  s_new hS (by
    obtain ⟨z, h1, h2⟩ := zero_run hz w
    simp [execOp, Instr.alloc, h1, newVar, newRow, h2]) rfl hn h
theorem s_box1 {E : TypeId} {x : Operand} {v : Value} (hS : St n F0 w0 a w L Γ) (hx : ev L x = some v) (h1 : isOne v = true) (hn : Nat.blt d n = true)
    (h : ∀ a' w' b, St n F0 w0 a' w' ((d, .pointer (some ⟨b, 0, none⟩)) :: L) (.blk b [v] E :: Γ) → K a' w') : OW P ⟨some d, .box E x, ty, pos, af, g⟩ a w K Q :=
  s_new hS (by simp [execOp, Instr.box, hS.sl.ev hx, newVar, newRow, isOne_cells h1]) rfl hn h
theorem s_boxA {E : TypeId} {x : Operand} {l : List Value} (hS : St n F0 w0 a w L Γ) (hx : ev L x = some (.agg l.toArray)) (hn : Nat.blt d n = true)
    (h : ∀ a' w' b, St n F0 w0 a' w' ((d, .pointer (some ⟨b, 0, none⟩)) :: L) (.blk b l E :: Γ) → K a' w') : OW P ⟨some d, .box E x, ty, pos, af, g⟩ a w K Q :=
  s_new hS (by simp [execOp, Instr.box, hS.sl.ev hx, newVar, newRow, Value.cells]) rfl hn h

theorem s_store {T b k : Nat} {x y : Operand} {cs cs' : List Value} {E : TypeId} {v : Value} {Γ' : List Asn} (hS : St n F0 w0 a w L Γ) (hx : ev L x = some (.pointer (some ⟨b, k, none⟩))) (hy : ev L y = some v) (h1 : isOne v = true)
    (hz : szOf P T = some 1) (hr : Rep (.blk b cs E) (.blk b cs' E) Γ Γ') (hu : Upd cs k v cs') (h : ∀ w', St n F0 w0 a w' L Γ' → K a w') : OW P ⟨none, .store T x y, ty, pos, af, g⟩ a w K Q := by
  obtain ⟨rfl, hk⟩ := hu.eq
  have hb : w.heap[b]? = some (.cells cs.toArray E (0, 0)) := hS.get hr.mem
  have hc : ∃ u, cs[k]? = some u := ⟨cs[k], by simp [hk]⟩
  obtain ⟨u, hu⟩ := hc
  have hcell := cell_of_blk hb hu
  have he : (execOp a.eval (⟨none, .store T x y, ty, pos, af, g⟩ : Oper)).run P w = .ok .skip (w.setCell ⟨b, k, none⟩ v) := by
    simp [execOp, hS.sl.ev hx, hS.sl.ev hy, Instr.storeAt, Instr.sureAddr, storeVar, isOne_cells h1, sizeOf_run hz, storeCells, addr_add, run_store _ _ _ _ _ (isOne_oneCell h1), hcell, frozen_of_blk hb]
  refine ⟨?_⟩
  unfold Oper.wp
  rw [he]
  refine h _ (hS.upd hr (Chg.setCell w ⟨b, k, none⟩ v) (ok_blk (setCell_of_blk hb v)) (fun i hi => .inl hi) rfl)

theorem storeCells_run {P : Program} {E : TypeId} {b : Nat} : ∀ (vs pre : List Value) (w : World) (old : List Value), w.heap[b]? = some (.cells (pre ++ old).toArray E (0, 0)) → old.length = vs.length → (∀ v ∈ vs, isOne v = true) →
    ∃ w', (storeCells ⟨b, 0, none⟩ vs pre.length).run P w = .ok () w' ∧ w'.heap[b]? = some (.cells (pre ++ vs).toArray E (0, 0)) ∧ Chg (fun k => k = b) w w' := by
  intro vs
  induction vs with
  | nil =>
    intro pre w old hb hl _
    have : old = [] := by simpa using hl
    subst this
    exact ⟨w, by simp [storeCells], hb, Chg.refl _ _⟩
  | cons v vs ih =>
    intro pre w old hb hl h1
    cases old with
    | nil => simp at hl
    | cons o old =>
      have hv := h1 v (by simp)
      have hcell : w.cell? ⟨b, pre.length, none⟩ = some o := cell_of_blk hb (by simp)
      have hs := setCell_of_blk (k := pre.length) hb v
      have he : (pre ++ o :: old).set pre.length v = (pre ++ [v]) ++ old := by simp
      rw [he] at hs
      obtain ⟨w', h2, h3, h4⟩ := ih (pre ++ [v]) _ old hs (by simpa using hl) (fun u hu => h1 u (by simp [hu]))
      refine ⟨w', ?_, by simpa using h3, (Chg.setCell w ⟨b, pre.length, none⟩ v).trans h4 (fun i hi _ => hi)⟩
      simp only [List.length_append, List.length_cons, List.length_nil, Nat.zero_add] at h2
      simp [storeCells, addr_add, run_store _ _ _ _ _ (isOne_oneCell hv), hcell, frozen_of_blk hb, h2]

/-- a struct stored whole into a block that is it. -/
theorem s_storeA {T b m : Nat} {x y : Operand} {cs l : List Value} {E : TypeId} {Γ' : List Asn} (hS : St n F0 w0 a w L Γ) (hx : ev L x = some (.pointer (some ⟨b, 0, none⟩))) (hy : ev L y = some (.agg l.toArray))
    (hz : szOf P T = some m) (hr : Rep (.blk b cs E) (.blk b l E) Γ Γ') (hl : Nat.beq cs.length m = true) (hl' : Nat.beq l.length m = true) (h1 : l.all isOne = true) (h : ∀ w', St n F0 w0 a w' L Γ' → K a w') : OW P ⟨none, .store T x y, ty, pos, af, g⟩ a w K Q := by
  have e1 := Nat.eq_of_beq_eq_true hl
  have e2 := Nat.eq_of_beq_eq_true hl'
  have hb : w.heap[b]? = some (.cells ([] ++ cs).toArray E (0, 0)) := hS.get hr.mem
  obtain ⟨w', h2, h3, h4⟩ := storeCells_run (P := P) l [] w cs hb (by omega) (by simpa using h1)
  have he : (execOp a.eval (⟨none, .store T x y, ty, pos, af, g⟩ : Oper)).run P w = .ok .skip w' := by
    simp only [List.length_nil] at h2
    simp [execOp, hS.sl.ev hx, hS.sl.ev hy, Instr.storeAt, Instr.sureAddr, storeVar, sizeOf_run hz, Value.cells, e2, h2]
  refine ⟨?_⟩
  unfold Oper.wp
  rw [he]
  refine h _ (hS.upd hr h4 (ok_blk (by simpa using h3)) (fun i hi => .inl hi) rfl)

/-! ### calls -/
theorem s_call {f : FuncId} {xs : List Operand} {vs : List Value} {ts : Array TypeId} {dst : Option Tmp} {R : Ending → World → Prop} (hS : St n F0 w0 a w L Γ) (hx : Evs L xs vs) (hf : CallsTo P f)
    (hc : Calls P f vs.toArray w R) (h : ∀ e w', R e w' → ∃ v, e = .returned v ∧ K (a.put dst v) w') : OW P ⟨dst, .call ⟨.value (.func f), xs.toArray, ts⟩, ty, pos, af, g⟩ a w K Q := by
  refine ⟨?_⟩
  unfold Oper.wp
  have he : (execOp a.eval (⟨dst, .call ⟨.value (.func f), xs.toArray, ts⟩, ty, pos, af, g⟩ : Oper)).run P w = .ok (.enter f vs.toArray) w := by
    rw [execOp_call_go]
    rw [hS.sl.evs hx]
    simpa using hf vs.toArray w
  rw [he]
  refine hc.mono fun e w' hR => ?_
  obtain ⟨v, rfl, hK⟩ := h e w' hR
  exact hK
theorem s_callv {f : FuncId} {x : Operand} {cs : List Value} {xs : List Operand} {vs : List Value} {ts : Array TypeId} {dst : Option Tmp} {R : Ending → World → Prop} (hS : St n F0 w0 a w L Γ) (hv : ev L x = some (.func (.func f) #[] cs.toArray)) (hx : Evs L xs vs) (hf : CallsTo P f)
    (hc : Calls P f (vs ++ cs).toArray w R) (h : ∀ e w', R e w' → ∃ v, e = .returned v ∧ K (a.put dst v) w') : OW P ⟨dst, .call ⟨.value x, xs.toArray, ts⟩, ty, pos, af, g⟩ a w K Q := by
  refine ⟨?_⟩
  unfold Oper.wp
  have he : (execOp a.eval (⟨dst, .call ⟨.value x, xs.toArray, ts⟩, ty, pos, af, g⟩ : Oper)).run P w = .ok (.enter f (vs ++ cs).toArray) w := by
    have h1 := hS.sl.evs hx
    have h2 := hf (vs ++ cs).toArray w
    have e1 : (#[] ++ vs.toArray) ++ cs.toArray = (vs ++ cs).toArray := by simp
    have hr : (resolve a.eval ⟨.value x, xs.toArray, ts⟩ ty).run P w = .ok ⟨.fn (.func f) cs.toArray, #[] ++ vs.toArray⟩ w := by
      simp only [resolve, hS.sl.ev hv, h1, Deferred.ofValue]; rfl
    show ((resolve a.eval ⟨.value x, xs.toArray, ts⟩ ty) >>= fun d => invoke d.target d.args).run P w = _
    rw [Sem.run_bind, hr]
    show (callFunc f ((#[] ++ vs.toArray) ++ cs.toArray)).run P w = _
    rw [e1]; exact h2
  rw [he]
  refine hc.mono fun e w' hR => ?_
  obtain ⟨v, rfl, hK⟩ := h e w' hR
  exact hK
end
end Go.Proofs.Ytheofhegdjjfgaa
