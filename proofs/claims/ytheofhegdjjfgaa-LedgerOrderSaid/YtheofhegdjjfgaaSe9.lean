/- Maps with texts as keys: looked up, written. -/
import Derived.Test.YtheofhegdjjfgaaSe8
namespace Go.Proofs.Ytheofhegdjjfgaa
open Go.RowKit

/-- a map's entries, in the order in which they came. -/
def mkM : Nat → List (ByteArray × Value) → List MapEntry
  | _, [] => []
  | j, (k, v) :: r => ⟨.string k, v, j⟩ :: mkM (j + 1) r
def smapA (b : Nat) (l : List (ByteArray × Value)) : Asn := .mp b (mkM 0 l) l.length
def idxM : List (ByteArray × Value) → ByteArray → Nat → Option (Nat × Value)
  | [], _, _ => none
  | (k', v) :: r, k, m => if k' = k then some (m, v) else idxM r k (m + 1)
def lkM (l : List (ByteArray × Value)) (k : ByteArray) (z : Value) : Value := match idxM l k 0 with | some (_, v) => v | none => z
def hasM (l : List (ByteArray × Value)) (k : ByteArray) : Bool := (idxM l k 0).isSome
def setM : List (ByteArray × Value) → ByteArray → Value → List (ByteArray × Value)
  | [], k, v => [(k, v)]
  | (k', u) :: r, k, v => if k' = k then (k, v) :: r else (k', u) :: setM r k v

theorem ba_beq (a b : ByteArray) : (a == b) = decide (a = b) := by
  obtain ⟨x⟩ := a
  obtain ⟨y⟩ := b
  show ByteArray.beq _ _ = _
  simp only [ByteArray.beq, ByteArray.mk.injEq]
  by_cases h : x = y
  · subst h; simp
  · simp [h]
theorem find_M (k : ByteArray) (l : List (ByteArray × Value)) : ∀ j m, Instr.findNow .string (.string k) (mkM j l) m = some (idxM l k m) := by
  induction l with
  | nil => intro j m; rfl
  | cons p l ih =>
    obtain ⟨k', v⟩ := p
    intro j m
    simp only [mkM, Instr.findNow, Instr.sameNow, idxM]
    rw [ba_beq]
    by_cases h : k' = k
    · subst h; simp
    · have h2 : decide (k = k') = false := decide_eq_false (fun e => h e.symm)
      rw [h2, if_neg h]
      exact ih _ _
theorem idxM_some {l : List (ByteArray × Value)} {k : ByteArray} {m i : Nat} {v : Value} (h : idxM l k m = some (i, v)) : m ≤ i ∧ l[i - m]? = some (k, v) := by
  induction l generalizing m with
  | nil => cases h
  | cons p l ih =>
    obtain ⟨k', u⟩ := p
    simp only [idxM] at h
    split at h
    · rename_i e; subst e; cases h; simp
    · obtain ⟨h1, h2⟩ := ih h
      refine ⟨by omega, ?_⟩
      rw [show i - m = (i - (m + 1)) + 1 by omega]
      simpa using h2
theorem mkM_get {l : List (ByteArray × Value)} {i j : Nat} {k : ByteArray} {v : Value} (h : l[i]? = some (k, v)) : (mkM j l)[i]? = some ⟨.string k, v, j + i⟩ := by
  induction l generalizing i j with
  | nil => cases h
  | cons p l ih =>
    obtain ⟨k', u⟩ := p
    cases i with
    | zero => simp at h; obtain ⟨rfl, rfl⟩ := h; rfl
    | succ i =>
      have := ih (j := j + 1) (by simpa using h)
      show (mkM (j + 1) l)[i]? = _
      rw [this]; congr 2; omega
theorem mkM_len (l : List (ByteArray × Value)) : ∀ j, (mkM j l).length = l.length := by
  induction l with
  | nil => intro j; rfl
  | cons p l ih => intro j; simp [mkM, ih]
theorem setM_some {l : List (ByteArray × Value)} {k : ByteArray} {m i : Nat} {u : Value} (v : Value) (h : idxM l k m = some (i, u)) : setM l k v = l.set (i - m) (k, v) := by
  induction l generalizing m with
  | nil => cases h
  | cons p l ih =>
    obtain ⟨k', x⟩ := p
    simp only [idxM] at h
    simp only [setM]
    split at h
    · rename_i e; cases h; rw [if_pos e]; simp
    · rename_i e
      rw [if_neg e, ih h]
      have := (idxM_some h).1
      rw [show i - m = (i - (m + 1)) + 1 by omega]; rfl
theorem setM_none {l : List (ByteArray × Value)} {k : ByteArray} {m : Nat} (v : Value) (h : idxM l k m = none) : setM l k v = l ++ [(k, v)] := by
  induction l generalizing m with
  | nil => rfl
  | cons p l ih =>
    obtain ⟨k', x⟩ := p
    simp only [idxM] at h
    simp only [setM]
    split at h
    · cases h
    · rename_i e; rw [if_neg e, ih h]; rfl
theorem mkM_snoc (l : List (ByteArray × Value)) (k : ByteArray) (v : Value) : ∀ j, mkM j (l ++ [(k, v)]) = mkM j l ++ [⟨.string k, v, j + l.length⟩] := by
  induction l with
  | nil => intro j; rfl
  | cons p l ih => intro j; simp only [List.cons_append, mkM, ih, List.length_cons]; congr 4; omega
theorem mkM_set {l : List (ByteArray × Value)} {i : Nat} {k : ByteArray} {u v : Value} : ∀ j, l[i]? = some (k, u) → mkM j (l.set i (k, v)) = (mkM j l).modify i fun e => { e with key := .string k, val := v } := by
  induction l generalizing i with
  | nil => intro j h; cases h
  | cons p l ih =>
    obtain ⟨k', x⟩ := p
    intro j h
    cases i with
    | zero => rfl
    | succ i => simp only [List.set_cons_succ, mkM, List.modify_succ_cons]; rw [ih (j + 1) (by simpa using h)]

def zvOf (P : Program) (t : TypeId) : Option Value := (P.info? t).bind (·.zero)
section
variable {P : Program} {n : Nat} {F0 : Nat → Prop} {w0 : World} {a : Act} {w : World} {L : List (Nat × Value)} {Γ : List Asn}
variable {K : Act → World → Prop} {Q : Exit → Act → World → Prop} {d ty : Nat} {dst : Option Tmp} {pos : String} {af : Array Edge} {g : Option (Nat × Bool)}
theorem zv_run {t : TypeId} {z : Value} (h : zvOf P t = some z) (w : World) : (zeroValue t).run P w = .ok z w := by
  unfold zvOf at h
  cases hi : P.info? t with
  | none => simp [hi] at h
  | some i => simp [hi] at h; simp [zeroValue, typeInfo, hi, h]
theorem e_lookupS {T Kt Et b : Nat} {x y : Operand} {k : ByteArray} {l : List (ByteArray × Value)} {z : Value} (hx : ev L x = some (.map (some b))) (hy : ev L y = some (.string k))
    (hT : mapT P T = some (Kt, Et)) (hD : P.underlying Kt = some .string) (hz : zvOf P Et = some z) (hm : smapA b l ∈ Γ) : Ex P n a L Γ ⟨dst, .lookup T x y false, ty, pos, af, g⟩ (lkM l k z) := fun hs w hh => by
  have hb : w.heap[b]? = some (.map (mkM 0 l).toArray l.length) := hh _ hm
  have hck := checkKey_plain (P := P) (w := w) hD rfl ((mkM 0 l).isEmpty) 9999 (.string k)
  have hf := find_M k l 0 0
  simp only [execOp, hs.ev hx, hs.ev hy, Instr.lookup, Sem.run_bind, underlying, run_program, Result.andThen_ok, mapT_eq hT, Sem.run_pure]
  unfold lkM
  cases hi : idxM l k 0 with
  | none => rw [hi] at hf; simp [getObj, Sem.run, hb, hck, Instr.findKey, underlying, hD, hf, zv_run hz]
  | some p => obtain ⟨i, v⟩ := p; rw [hi] at hf; simp [getObj, Sem.run, hb, hck, Instr.findKey, underlying, hD, hf]
theorem e_lookupC {T Kt Et b : Nat} {x y : Operand} {k : ByteArray} {l : List (ByteArray × Value)} {z : Value} (hx : ev L x = some (.map (some b))) (hy : ev L y = some (.string k))
    (hT : mapT P T = some (Kt, Et)) (hD : P.underlying Kt = some .string) (hz : zvOf P Et = some z) (hm : ∀ w, Hd Γ w → w.heap[b]? = some (.map (mkM 0 l).toArray l.length)) : Ex P n a L Γ ⟨dst, .lookup T x y false, ty, pos, af, g⟩ (lkM l k z) := fun hs w hh => by
  have hb : w.heap[b]? = some (.map (mkM 0 l).toArray l.length) := hm w hh
  have hck := checkKey_plain (P := P) (w := w) hD rfl ((mkM 0 l).isEmpty) 9999 (.string k)
  have hf := find_M k l 0 0
  simp only [execOp, hs.ev hx, hs.ev hy, Instr.lookup, Sem.run_bind, underlying, run_program, Result.andThen_ok, mapT_eq hT, Sem.run_pure]
  unfold lkM
  cases hi : idxM l k 0 with
  | none => rw [hi] at hf; simp [getObj, Sem.run, hb, hck, Instr.findKey, underlying, hD, hf, zv_run hz]
  | some p => obtain ⟨i, v⟩ := p; rw [hi] at hf; simp [getObj, Sem.run, hb, hck, Instr.findKey, underlying, hD, hf]
theorem e_lookupT {T Kt Et b : Nat} {x y : Operand} {k : ByteArray} {l : List (ByteArray × Value)} {z : Value} (hx : ev L x = some (.map (some b))) (hy : ev L y = some (.string k))
    (hT : mapT P T = some (Kt, Et)) (hD : P.underlying Kt = some .string) (hz : zvOf P Et = some z) (hm : smapA b l ∈ Γ) : Ex P n a L Γ ⟨dst, .lookup T x y true, ty, pos, af, g⟩ (.tuple [lkM l k z, .bool (hasM l k)].toArray) := fun hs w hh => by
  have hb : w.heap[b]? = some (.map (mkM 0 l).toArray l.length) := hh _ hm
  have hck := checkKey_plain (P := P) (w := w) hD rfl ((mkM 0 l).isEmpty) 9999 (.string k)
  have hf := find_M k l 0 0
  simp only [execOp, hs.ev hx, hs.ev hy, Instr.lookup, Sem.run_bind, underlying, run_program, Result.andThen_ok, mapT_eq hT, Sem.run_pure]
  unfold lkM hasM
  cases hi : idxM l k 0 with
  | none => rw [hi] at hf; simp [getObj, Sem.run, hb, hck, Instr.findKey, underlying, hD, hf, zv_run hz]
  | some p => obtain ⟨i, v⟩ := p; rw [hi] at hf; simp [getObj, Sem.run, hb, hck, Instr.findKey, underlying, hD, hf]

theorem s_mapUp {T Kt Et b : Nat} {x y z : Operand} {k : ByteArray} {v : Value} {l : List (ByteArray × Value)} {Γ' : List Asn} (hS : St n F0 w0 a w L Γ) (hx : ev L x = some (.map (some b))) (hy : ev L y = some (.string k)) (hz : ev L z = some v)
    (hT : mapT P T = some (Kt, Et)) (hD : P.underlying Kt = some .string) (hr : Rep (smapA b l) (smapA b (setM l k v)) Γ Γ')
    (h : ∀ w', St n F0 w0 a w' L Γ' → K a w') : OW P ⟨none, .mapUpdate T x y z, ty, pos, af, g⟩ a w K Q := by
  have hb : w.heap[b]? = some (.map (mkM 0 l).toArray l.length) := hS.get hr.mem
  have hlt := (Array.getElem?_eq_some_iff.1 hb).1
  have hck := checkKey_plain (P := P) (w := w) hD rfl false 9999 (.string k)
  have hf := find_M k l 0 0
  have hres : ∃ w', (execOp a.eval (⟨none, .mapUpdate T x y z, ty, pos, af, g⟩ : Oper)).run P w = .ok .skip w' ∧ w' = { w with heap := w.heap.setIfInBounds b (.map (mkM 0 (setM l k v)).toArray (setM l k v).length) } := by
    refine ⟨_, ?_, rfl⟩
    simp only [execOp, hS.sl.ev hx, hS.sl.ev hy, hS.sl.ev hz, Instr.mapUpdate, Sem.run_bind, underlying, run_program, Result.andThen_ok, mapT_eq hT, Sem.run_pure]
    cases hi : idxM l k 0 with
    | none =>
      rw [hi] at hf
      rw [setM_none v hi, mkM_snoc]
      simp [getObj, Sem.run, hb, hck, Instr.findKey, underlying, hD, hf, setObj]
    | some p =>
      obtain ⟨i, u⟩ := p
      rw [hi] at hf
      obtain ⟨_, hg⟩ := idxM_some hi
      rw [Nat.sub_zero] at hg
      have hsm := setM_some v hi
      rw [Nat.sub_zero] at hsm
      have hmk := mkM_get (j := 0) hg
      rw [hsm, mkM_set (u := u) 0 hg]
      simp [getObj, Sem.run, hb, hck, Instr.findKey, underlying, hD, hf, setObj, Instr.keyThatStays, hmk, Instr.sameBits, ba_beq]
  obtain ⟨w', he, rfl⟩ := hres
  refine ⟨?_⟩
  unfold Oper.wp
  rw [he]
  refine h _ (hS.upd hr ⟨rfl, rfl, rfl, by simp, fun q hq hne => ?_⟩ ⟨fun q hq => ?_, fun w' hw => ?_⟩ (fun q hq => .inl hq) rfl)
  · have : b ≠ q := fun e => hne e.symm
    simp [Array.getElem?_setIfInBounds_ne this]
  · obtain rfl : q = b := hq; simpa using hlt
  · show w'.heap[b]? = _
    rw [hw _ rfl]; simp [hlt]
theorem s_makeMapS {T : TypeId} (hS : St n F0 w0 a w L Γ) (hn : Nat.blt d n = true)
    (h : ∀ a' w' b, St n F0 w0 a' w' ((d, .map (some b)) :: L) (smapA b [] :: Γ) → K a' w') : OW P ⟨some d, .makeMap T none, ty, pos, af, g⟩ a w K Q :=
  s_makeMap hS hn h
end
end Go.Proofs.Ytheofhegdjjfgaa
