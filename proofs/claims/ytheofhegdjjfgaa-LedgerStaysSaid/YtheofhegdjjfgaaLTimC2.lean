/- LedgerTimes: for every argument the law returns true, and each argument reads afterwards as it read before. No conditions. (text 2 of 6) -/
import Derived.Test.YtheofhegdjjfgaaLTimC1
import Derived.Maps.RangeRun
import Derived.RangeFuncRecord
import Derived.RangeFuncOne
import Derived.RangeFuncLeaves
namespace Go.Proofs.Ytheofhegdjjfgaa
open Go.RowKit

def inU (n : Int) : Prop := -4611686018427387904 ≤ n ∧ n ≤ 4611686018427387904
instance (n : Int) : Decidable (inU n) := by unfold inU; infer_instance
def inst (n : Int) : Prop := 0 ≤ n ∧ n ≤ 1099511627776
instance (n : Int) : Decidable (inst n) := by unfold inst; infer_instance

set_option maxRecDepth 100000 in
theorem Within_P (n : Int) (w0 : World) : PureC Try.prog 15 [.int .i64 n] w0 (.bool (decide (inU n))) := by
  refine c_enter [(0, .int .i64 n)] [] noB Try.func15 rfl Try.ntmps15 ⟨rfl, trivial⟩ rfl (by simp) (by simp) (by simp) ?_
  intro a hS
  refine c_seq ?_
  refine c_region ?_
  refine L_op (s_e hS (e_assign rfl) rfl ?_); clear hS a; intro a hS
  refine L_nil ?_
  refine n_then ?_
  refine c_seq ?_
  refine c_region ?_
  refine L_op (s_e hS (e_move rfl) rfl ?_); clear hS a; intro a hS
  refine L_op (s_e hS (e_bin rfl rfl rfl) rfl ?_); clear hS a; intro a hS
  refine L_op (s_e hS (e_move rfl) rfl ?_); clear hS a; intro a hS
  refine L_merge 3 8 (.bool (decide (inU n))) hS ?_ ?_
  · intro hcM8
    (first | refine g_splitD (t := 5) hS rfl ?_ ?_ | refine g_split (t := 5) hS rfl ?_ ?_) <;> (clear hS; intro hg5 hS)
    ·
      refine L_go hS rfl rfl (s_e hS (e_move rfl) rfl ?_); clear hS a; intro a hS
      refine L_go hS rfl rfl (s_e hS (e_bin rfl rfl rfl) rfl ?_); clear hS a; intro a hS
      first | (refine L_op (s_e hS (e_pick_t rfl rfl) rfl ?_); clear hS a; intro a hS) | (refine L_op (s_e hS (e_pick_f rfl rfl) rfl ?_); clear hS a; intro a hS)
      exact hcM8 _ _ (hS.ends 4 8 5 rfl (congrArg Value.bool (by exact decide_eq_decide.2 (by unfold inU; omega))) rfl rfl (by first | exact congrArg Value.bool (decide_eq_true hg5).symm | exact congrArg Value.bool hg5.symm | simp [hg5]) rfl)
    ·
      refine L_skip_t hS rfl rfl rfl ?_; clear hS a; intro a hS
      refine L_skip_t hS rfl rfl rfl ?_; clear hS a; intro a hS
      first | (refine L_op (s_e hS (e_pick_t rfl rfl) rfl ?_); clear hS a; intro a hS) | (refine L_op (s_e hS (e_pick_f rfl rfl) rfl ?_); clear hS a; intro a hS)
      exact hcM8 _ _ (hS.ends 4 8 5 rfl (congrArg Value.bool (by exact (decide_eq_false (by unfold inU; omega)).symm)) rfl rfl (by first | exact congrArg Value.bool (decide_eq_false hg5).symm | exact congrArg Value.bool hg5.symm | simp [hg5]) rfl)
  · clear hS a; (try clear w); intro a w hS
    simp only [List.drop_succ_cons, List.drop_zero]
    refine L_op (s_e hS (e_assign rfl) rfl ?_); clear hS a; intro a hS
    refine L_nil ?_
    refine n_then ?_
    refine wp_ret ?_
    refine c_ret1 hS Try.results15 (.tmp rfl) ?_
    exact ⟨rfl, hS.chg⟩
/-- a scale's error is 0 or 18. -/
theorem scale_err (s : ByteArray) : (scaleR s).2 = 0 ∨ (scaleR s).2 = 18 := by unfold scaleR; split <;> simp
def intE (v : Int) : Int × Int := if -9223372036854775808 ≤ v ∧ v < 9223372036854775808 then (v, 0) else (0, 16)
end Go.Proofs.Ytheofhegdjjfgaa

namespace Go.Proofs.Ytheofhegdjjfgaa
open Go.RowKit
variable {P : Program} {n : Nat} {F0 : Nat → Prop} {w0 w : World} {a : Act} {L : List (Nat × Value)} {Γ : List Asn} {dst : Option Nat}
variable {ty : Nat} {pos : String} {af : Array Edge} {g : Option (Nat × Bool)} {K : Act → World → Prop} {Q : Exit → Act → World → Prop} {d : Nat}

def leS (x y : ByteArray) : Bool := Go.Op.bytesLess x.toList y.toList || (x.toList == y.toList)
theorem e_leS {t t' : TypeId} {x y : Operand} {i j : ByteArray} (hx : ev L x = some (.string i)) (hy : ev L y = some (.string j)) : Ex P n a L Γ ⟨dst, .binOp .leq t x y t', ty, pos, af, g⟩ (.bool (leS i j)) := fun hs w hh => by
  simp only [execOp, hs.ev hx, hs.ev hy, eqGuard, binOp, Op.stringOp]
  rfl

/-- where a slice's tail lies. -/
def tailP (q : Option Addr) (k c s : Nat) : Option Addr := if c = k then q else q.map (·.add (k * s))
theorem e_slT {T E s m c : Nat} {p : Option Addr} {x y : Operand} {k : IntKind} {j : Nat} (hx : ev L x = some (.slice p m c)) (hy : ev L y = some (.int k (j : Int))) (hT : sliceT P T = some E) (hs : szOf P E = some s) (hj : j ≤ m) :
    Ex P n a L Γ ⟨dst, .slice T x (some y) none none, ty, pos, af, g⟩ (.slice (tailP p j c s) (m - j) (c - j)) := fun hs' w hh => by
  obtain ⟨h1, h2⟩ := sliceT_elem hT
  have h3 := run_sliceAt_slice (P := P) (w := w) T (.slice p m c) (some (.int k (j : Int))) none none h1
  have h4 := run_slice_l (P := P) (w := w) T p m c h1 k (j : Int) (by omega) (by omega)
  rw [h2, sizeOf_run hs] at h4
  simp [execOp, hs'.ev hx, hs'.ev hy, h3, h4, Result.andThen, sliced, tailP]

/-- it can be read there, or it is nothing at all. -/
def ReadQ (w : World) (q : Option Addr) (k c : Nat) (ys : List Value) : Prop := (q = none ∧ k = 0 ∧ c = 0 ∧ ys = []) ∨ ∃ bx ox, q = some ⟨bx, ox, none⟩ ∧ ∀ j u, ys[j]? = some u → w.cell? ⟨bx, ox + j, none⟩ = some u
theorem flat_drop {α : Type} {enc : α → List Value} {s : Nat} (hl : ∀ x, (enc x).length = s) : ∀ (xs : List α) (k : Nat), (xs.drop k).flatMap enc = (xs.flatMap enc).drop (k * s)
  | xs, 0 => by simp
  | [], k + 1 => by simp
  | x :: xs, k + 1 => by
    rw [List.drop_succ_cons, flat_drop hl xs k, List.flatMap_cons, Nat.add_mul, Nat.one_mul, Nat.add_comm, ← List.drop_drop]
    congr 1
    rw [List.drop_append_of_le_length (by rw [hl]; exact Nat.le_refl _), List.drop_eq_nil_of_le (by rw [hl]; exact Nat.le_refl _), List.nil_append]
theorem flat_take {α : Type} {enc : α → List Value} {s : Nat} (hl : ∀ x, (enc x).length = s) : ∀ (xs : List α) (k : Nat), (xs.take k).flatMap enc = (xs.flatMap enc).take (k * s)
  | xs, 0 => by simp
  | [], k + 1 => by simp
  | x :: xs, k + 1 => by
    have e1 : (enc x).take ((k + 1) * s) = enc x := List.take_of_length_le (by rw [hl, Nat.add_mul]; omega)
    have e2 : (k + 1) * s - s = k * s := by rw [Nat.add_mul]; omega
    rw [List.take_succ_cons, List.flatMap_cons, flat_take hl xs k, List.flatMap_cons, List.take_append, e1, hl, e2]
theorem own_head {α : Type} {enc : α → List Value} {s E m c k : Nat} {q : Option Addr} {xs : List α} (h : w.ownsRow 0 E s (.slice q m c) m (xs.flatMap enc)) (hl : ∀ x, (enc x).length = s) (hk : k ≤ m) : ReadQ w q k c ((xs.take k).flatMap enc) := by
  rcases h.2 with ⟨e1, e2⟩ | ⟨g, cap, cur, e1, _⟩
  · injection e1 with e3 e4 e5
    subst e3 e5
    refine .inl ⟨rfl, by omega, rfl, ?_⟩
    rw [show k = 0 by omega]; simp
  · injection e1 with e3 e4 e5
    subst e3
    refine .inr ⟨g, 0, rfl, fun j u hj => ?_⟩
    rw [flat_take hl] at hj
    have h1 : (xs.flatMap enc)[j]? = some u := by
      rw [List.getElem?_take] at hj
      split at hj
      · exact hj
      · cases hj
    have h2 := World.ownsRow.cells h (g := g) rfl _ _ h1
    rw [addr_add] at h2
    rw [← h2]
theorem own_tail {α : Type} {enc : α → List Value} {s E m c k : Nat} {q : Option Addr} {xs : List α} (h : w.ownsRow 0 E s (.slice q m c) m (xs.flatMap enc)) (hl : ∀ x, (enc x).length = s) (hx : xs.length = m) (hk : k ≤ m) : ReadQ w (tailP q k c s) (m - k) (c - k) ((xs.drop k).flatMap enc) := by
  rcases h.2 with ⟨e1, e2⟩ | ⟨g, cap, cur, e1, _, _, hcap, _⟩
  · injection e1 with e3 e4 e5
    subst e3 e5
    refine .inl ⟨by unfold tailP; split <;> rfl, by omega, by omega, ?_⟩
    rw [List.drop_eq_nil_of_le (by omega)]; rfl
  · injection e1 with e3 e4 e5
    subst e3 e5
    by_cases e : c = k
    · refine .inr ⟨g, 0, by unfold tailP; rw [if_pos e], fun j u hj => ?_⟩
      rw [List.drop_eq_nil_of_le (by omega)] at hj; simp at hj
    · refine .inr ⟨g, k * s, by unfold tailP; rw [if_neg e]; simp [addr_add], fun j u hj => ?_⟩
      rw [flat_drop hl, List.getElem?_drop] at hj
      have h2 := World.ownsRow.cells h (g := g) rfl _ _ hj
      rw [addr_add] at h2
      rw [← h2]; congr 2; omega
/-- 'append(s, x..)' of what can be read, or is nothing. -/
theorem s_appendQ {T E s b : Nat} {zs : List Value} {x y : Operand} {v : Value} {m k c : Nat} {q : Option Addr} {cs ys : List Value} {Γ' : Value → List Asn} (hS : St n F0 w0 a w L Γ) (hx : ev L x = some v) (hy : ev L y = some (.slice q k c))
    (hT : sliceT P T = some E) (hs : szOf P E = some s) (hb : byOf P E = some b) (hz : zeroOf P E = some zs) (hzl : Nat.beq zs.length s = true) (hs0 : Nat.blt 0 s = true) (hn : Nat.blt d n = true)
    (hm : ownA E s v m cs ∈ Γ) (hyl : ys.length = k * s) (hq : ReadQ w q k c ys) (h1 : ∀ u ∈ ys, isOne u = true) (hbd : (m + k) * b ≤ 140737488355328 ∧ m + k ≤ 4611686018427387904)
    (hr : ∀ v', Rep (ownA E s v m cs) (ownA E s v' (m + k) (cs ++ ys)) Γ (Γ' v'))
    (h : ∀ v' a' w', (v' = .slice none 0 0 ↔ v = .slice none 0 0 ∧ k = 0) → St n F0 w0 a' w' ((d, v') :: L) (Γ' v') → K a' w') : OW P ⟨some d, .call ⟨.builtin .append, #[x, y], #[T, T]⟩, ty, pos, af, g⟩ a w K Q := by
  rcases hq with ⟨rfl, rfl, rfl, rfl⟩ | ⟨bx, ox, rfl, hys⟩
  · refine s_e hS (e_append0 hx hy hT hs hb hz hm) hn (fun a' hS' => h v a' w (by simp) ?_)
    have hown : w.ownsRow 0 E s v m cs := hS.get hm
    refine hS'.upd (hr v) (Chg.refl _ _) ?_ (fun b hb => .inl hb) rfl
    have := ok_own (w := w) (E := E) (s := s) (v := v) (m := m) (xs := cs) hown
    rwa [Nat.add_zero, List.append_nil]
  · exact s_append hS hx hy hT hs hb hz hzl hs0 hn hm hyl hys h1 hbd hr h
end Go.Proofs.Ytheofhegdjjfgaa

namespace Go.Proofs.Ytheofhegdjjfgaa
open Go.RowKit

section
variable {P : Program} {n : Nat} {a : Act} {L : List (Nat × Value)} {Γ : List Asn} {dst : Option Nat} {ty : Nat} {pos : String} {af : Array Edge} {g : Option (Nat × Bool)}
/-- a struct inside a block. -/
theorem e_loadSub {T b k E : Nat} {x : Operand} {cs l : List Value} (hx : ev L x = some (.pointer (some ⟨b, k, none⟩))) (hm : Asn.blk b cs E ∈ Γ) (hT : structT P T = true) (hz : szOf P T = some l.length) (hl : (cs.drop k).take l.length = l) :
    Ex P n a L Γ ⟨dst, .load T x, ty, pos, af, g⟩ (.agg l.toArray) :=
  e_loadAC hx hT hz (fun w hh j v hj => cell_of_blk (E := E) (hh _ hm) (by
    have hjl := (List.getElem?_eq_some_iff.1 hj).1
    rw [← List.getElem?_drop]
    rw [← hl, List.getElem?_take_of_lt hjl] at hj
    exact hj))
end

structure Pst where
  acc : ByteArray
  u : Int
  f : Int
def encP (p : Pst) : List Value := [.string p.acc, .int .i64 p.u, .int .i64 p.f]
abbrev SM := Int × Int
def encSm (s : SM) : List Value := [.int .u64 (Wd.hi s.1), .int .u64 (Wd.lo s.1), .int .u64 (Wd.hi s.2), .int .u64 (Wd.lo s.2)]
def addS (s : SM) (p : Pst) : SM := (s.1 + p.u, s.2 + p.f)
def fitS (s : SM) : Prop := Wd.fit s.1 ∧ Wd.fit s.2
structure Pst.fits (p : Pst) : Prop where
  acc : p.acc.size ≤ 4611686018427387904
  u : -9223372036854775808 ≤ p.u ∧ p.u ≤ 9223372036854775807
  f : -9223372036854775808 ≤ p.f ∧ p.f ≤ 9223372036854775807
theorem encSm_zero : encSm (0, 0) = [.int .u64 0, .int .u64 0, .int .u64 0, .int .u64 0] := by
  unfold encSm; rw [show Wd.hi 0 = 0 from by decide, show Wd.lo 0 = 0 from by decide]

set_option maxRecDepth 100000 in
theorem linst_P (n : Int) (w0 : World) : PureC Try.prog 67 [.int .i64 n] w0 (.bool (decide (inst n))) := by
  refine c_enter [(0, .int .i64 n)] [] noB Try.func67 rfl Try.ntmps67 ⟨rfl, trivial⟩ rfl (by simp) (by simp) (by simp) ?_
  intro a hS
  refine c_seq ?_
  refine c_region ?_
  refine L_op (s_e hS (e_assign rfl) rfl ?_); clear hS a; intro a hS
  refine L_nil ?_
  refine n_then ?_
  refine c_seq ?_
  refine c_region ?_
  refine L_op (s_e hS (e_move rfl) rfl ?_); clear hS a; intro a hS
  refine L_op (s_e hS (e_bin rfl rfl rfl) rfl ?_); clear hS a; intro a hS
  refine L_op (s_e hS (e_move rfl) rfl ?_); clear hS a; intro a hS
  refine L_merge 3 8 (.bool (decide (inst n))) hS ?_ ?_
  · intro hcM8
    (first | refine g_splitD (t := 5) hS rfl ?_ ?_ | refine g_split (t := 5) hS rfl ?_ ?_) <;> (clear hS; intro hg5 hS)
    ·
      refine L_go hS rfl rfl (s_e hS (e_move rfl) rfl ?_); clear hS a; intro a hS
      refine L_go hS rfl rfl (s_e hS (e_bin rfl rfl rfl) rfl ?_); clear hS a; intro a hS
      first | (refine L_op (s_e hS (e_pick_t rfl rfl) rfl ?_); clear hS a; intro a hS) | (refine L_op (s_e hS (e_pick_f rfl rfl) rfl ?_); clear hS a; intro a hS)
      exact hcM8 _ _ (hS.ends 4 8 5 rfl (congrArg Value.bool (by exact decide_eq_decide.2 (by unfold inst; omega))) rfl rfl (by first | exact congrArg Value.bool (decide_eq_true hg5).symm | exact congrArg Value.bool hg5.symm | simp [hg5]) rfl)
    ·
      refine L_skip_t hS rfl rfl rfl ?_; clear hS a; intro a hS
      refine L_skip_t hS rfl rfl rfl ?_; clear hS a; intro a hS
      first | (refine L_op (s_e hS (e_pick_t rfl rfl) rfl ?_); clear hS a; intro a hS) | (refine L_op (s_e hS (e_pick_f rfl rfl) rfl ?_); clear hS a; intro a hS)
      exact hcM8 _ _ (hS.ends 4 8 5 rfl (congrArg Value.bool (by exact (decide_eq_false (by unfold inst; omega)).symm)) rfl rfl (by first | exact congrArg Value.bool (decide_eq_false hg5).symm | exact congrArg Value.bool hg5.symm | simp [hg5]) rfl)
  · clear hS a; (try clear w); intro a w hS
    simp only [List.drop_succ_cons, List.drop_zero]
    refine L_op (s_e hS (e_assign rfl) rfl ?_); clear hS a; intro a hS
    refine L_nil ?_
    refine n_then ?_
    refine wp_ret ?_
    refine c_ret1 hS Try.results67 (.tmp rfl) ?_
    exact ⟨rfl, hS.chg⟩
set_option maxRecDepth 100000 in
theorem lwithin_P (n : Int) (w0 : World) : PureC Try.prog 98 [.int .i64 n] w0 (.bool (decide (inU n))) := by
  refine c_enter [(0, .int .i64 n)] [] noB Try.func98 rfl Try.ntmps98 ⟨rfl, trivial⟩ rfl (by simp) (by simp) (by simp) ?_
  intro a hS
  refine c_seq ?_
  refine c_region ?_
  refine L_op (s_e hS (e_assign rfl) rfl ?_); clear hS a; intro a hS
  refine L_nil ?_
  refine n_then ?_
  refine c_seq ?_
  refine c_region ?_
  refine L_op (s_e hS (e_move rfl) rfl ?_); clear hS a; intro a hS
  refine L_op (s_e hS (e_bin rfl rfl rfl) rfl ?_); clear hS a; intro a hS
  refine L_op (s_e hS (e_move rfl) rfl ?_); clear hS a; intro a hS
  refine L_merge 3 8 (.bool (decide (inU n))) hS ?_ ?_
  · intro hcM8
    (first | refine g_splitD (t := 5) hS rfl ?_ ?_ | refine g_split (t := 5) hS rfl ?_ ?_) <;> (clear hS; intro hg5 hS)
    ·
      refine L_go hS rfl rfl (s_e hS (e_move rfl) rfl ?_); clear hS a; intro a hS
      refine L_go hS rfl rfl (s_e hS (e_bin rfl rfl rfl) rfl ?_); clear hS a; intro a hS
      first | (refine L_op (s_e hS (e_pick_t rfl rfl) rfl ?_); clear hS a; intro a hS) | (refine L_op (s_e hS (e_pick_f rfl rfl) rfl ?_); clear hS a; intro a hS)
      exact hcM8 _ _ (hS.ends 4 8 5 rfl (congrArg Value.bool (by exact decide_eq_decide.2 (by unfold inU; omega))) rfl rfl (by first | exact congrArg Value.bool (decide_eq_true hg5).symm | exact congrArg Value.bool hg5.symm | simp [hg5]) rfl)
    ·
      refine L_skip_t hS rfl rfl rfl ?_; clear hS a; intro a hS
      refine L_skip_t hS rfl rfl rfl ?_; clear hS a; intro a hS
      first | (refine L_op (s_e hS (e_pick_t rfl rfl) rfl ?_); clear hS a; intro a hS) | (refine L_op (s_e hS (e_pick_f rfl rfl) rfl ?_); clear hS a; intro a hS)
      exact hcM8 _ _ (hS.ends 4 8 5 rfl (congrArg Value.bool (by exact (decide_eq_false (by unfold inU; omega)).symm)) rfl rfl (by first | exact congrArg Value.bool (decide_eq_false hg5).symm | exact congrArg Value.bool hg5.symm | simp [hg5]) rfl)
  · clear hS a; (try clear w); intro a w hS
    simp only [List.drop_succ_cons, List.drop_zero]
    refine L_op (s_e hS (e_assign rfl) rfl ?_); clear hS a; intro a hS
    refine L_nil ?_
    refine n_then ?_
    refine wp_ret ?_
    refine c_ret1 hS Try.results98 (.tmp rfl) ?_
    exact ⟨rfl, hS.chg⟩
set_option maxRecDepth 100000 in
theorem sadd_P (s : SM) (p : Pst) (hs : fitS s) (hp : p.fits) (hr : fitS (addS s p)) (w0 : World) :
    PureC Try.prog 70 [.agg (encSm s).toArray, .agg (encP p).toArray] w0 (.agg (encSm (addS s p)).toArray) := by
  have h1 := hp.u
  have h2 := hp.f
  have f1 : Wd.fit p.u := by unfold Wd.fit; omega
  have f2 : Wd.fit p.f := by unfold Wd.fit; omega
  refine c_enter [(0, .agg (encSm s).toArray), (1, .agg (encP p).toArray)] [] noB Try.func70 rfl Try.ntmps70 ⟨rfl, rfl, trivial⟩ rfl (by simp) (by simp) (by simp) ?_
  intro a hS
  refine c_seq ?_
  refine c_region ?_
  refine L_op (s_boxA hS rfl rfl ?_); clear hS a; (try clear w); intro a w b2 hS
  refine L_op (s_boxA hS rfl rfl ?_); clear hS a; (try clear w); intro a w b3 hS
  refine L_op (s_alloc hS ty_z136 rfl ?_); clear hS a; (try clear w); intro a w b4 hS
  refine L_nil ?_
  refine n_then ?_
  refine c_seq ?_
  refine c_drawS [] (by kernel_rfl) hS (sub_cons (X := .blk b2 _ _) (by repeat constructor) (sub_cons (X := .blk b3 _ _) (by repeat constructor) sub_nil)) ?_; clear hS; (try clear w); intro w hS
  simp only [List.length_cons, List.length_nil, Nat.zero_add, Nat.reduceAdd, List.replicate]
  first | (refine Z_take0 (i := 0) hS rfl want_none (e_fa0 rfl ty_fo136_0) (listed' := [true, false, false, false, false, false, false, false, false, false, false, false]) rfl (by kernel_rfl) (by kernel_rfl) (by kernel_rfl) (fun _ _ _ h => h) rfl ?_; clear hS a; intro a hS) | (refine Z_take0 (i := 0) hS rfl want_none (e_faK rfl ty_fo136_0) (listed' := [true, false, false, false, false, false, false, false, false, false, false, false]) rfl (by kernel_rfl) (by kernel_rfl) (by kernel_rfl) (fun _ _ _ h => h) rfl ?_; clear hS a; intro a hS)
  refine Z_take (i := 1) hS rfl want_none (e_loadSub (l := wv s.1) rfl (by repeat constructor) ty_st106 ty_sz106 rfl) (listed' := [true, true, false, false, false, false, false, false, false, false, false, false]) rfl (by kernel_rfl) (by kernel_rfl) (by kernel_rfl) (by kernel_rfl) (by kernel_rfl) (sub_cons (by repeat constructor) (sub_cons (by repeat constructor) sub_nil)) (fun _ _ _ h => h) rfl ?_; clear hS a; intro a hS
  first | (refine Z_take0 (i := 2) hS rfl want_none (e_fa0 rfl ty_fo63_1) (listed' := [true, true, true, false, false, false, false, false, false, false, false, false]) rfl (by kernel_rfl) (by kernel_rfl) (by kernel_rfl) (fun _ _ _ h => h) rfl ?_; clear hS a; intro a hS) | (refine Z_take0 (i := 2) hS rfl want_none (e_faK rfl ty_fo63_1) (listed' := [true, true, true, false, false, false, false, false, false, false, false, false]) rfl (by kernel_rfl) (by kernel_rfl) (by kernel_rfl) (fun _ _ _ h => h) rfl ?_; clear hS a; intro a hS)
  refine Z_take (i := 3) hS rfl want_none (e_load rfl (by repeat constructor) ty_sc3 (by rfl)) (listed' := [true, true, true, true, false, false, false, false, false, false, false, false]) rfl (by kernel_rfl) (by kernel_rfl) (by kernel_rfl) (by kernel_rfl) (by kernel_rfl) (sub_cons (by repeat constructor) (sub_cons (by repeat constructor) sub_nil)) (fun _ _ _ h => h) rfl ?_; clear hS a; intro a hS
  refine Z_many (j := 4) (js := [9]) (by kernel_rfl) ⟨?_, ?_, trivial⟩
  ·
    refine Z_op (i := 4) rfl (want_none a hS.sl) (listed' := [true, true, true, true, true, false, false, false, false, false, false, false]) rfl (s_callP hS (.cons rfl .nil) cf92 rfl (FromInt_P p.u (by omega) (by omega) _) ?_); clear hS a; (try clear w); intro a w hS
    refine Z_and hS (sub_cons (by repeat constructor) (sub_cons (by repeat constructor) sub_nil)) ?_
    refine Z_many (j := 5) (js := [9]) (by kernel_rfl) ⟨?_, ?_, trivial⟩
    ·
      refine Z_op (i := 5) rfl (want_none a hS.sl) (listed' := [true, true, true, true, true, true, false, false, false, false, false, false]) rfl (s_callP hS (.cons rfl (.cons rfl .nil)) cf97 rfl (Add_P s.1 p.u hs.1 f1 hr.1 _) ?_); clear hS a; (try clear w); intro a w hS
      refine Z_and hS (sub_cons (by repeat constructor) (sub_cons (by repeat constructor) sub_nil)) ?_
      refine Z_take0 (i := 6) hS rfl want_none (e_move rfl) (listed' := [true, true, true, true, true, true, true, false, false, false, false, false]) rfl (by kernel_rfl) (by kernel_rfl) (by kernel_rfl) (fun _ _ _ h => h) rfl ?_; clear hS a; intro a hS
      refine Z_take0 (i := 7) hS rfl want_none (e_extract rfl rfl) (listed' := [true, true, true, true, true, true, true, true, false, false, false, false]) rfl (by kernel_rfl) (by kernel_rfl) (by kernel_rfl) (fun _ _ _ h => h) rfl ?_; clear hS a; intro a hS
      refine Z_take0 (i := 8) hS rfl want_none (e_extract rfl rfl) (listed' := [true, true, true, true, true, true, true, true, true, false, false, false]) rfl (by kernel_rfl) (by kernel_rfl) (by kernel_rfl) (fun _ _ _ h => h) rfl ?_; clear hS a; intro a hS
      refine Z_one (i := 9) rfl (want_none a hS.sl) (listed' := [true, true, true, true, true, true, true, true, true, true, false, false]) rfl (by kernel_rfl) (s_alloc hS ty_z106 rfl ?_); clear hS a; (try clear w); intro a w b5 hS
      refine Z_and hS (sub_cons (by repeat constructor) (sub_cons (by repeat constructor) sub_nil)) ?_
      refine Z_one (i := 10) rfl (want_none a hS.sl) (listed' := [true, true, true, true, true, true, true, true, true, true, true, false]) rfl (by kernel_rfl) (s_storeA hS rfl rfl ty_sz106 (by repeat constructor) (by rfl) (by rfl) (by rfl) ?_); clear hS; (try clear w); intro w hS
      refine Z_and hS (sub_cons (by repeat constructor) (sub_cons (by repeat constructor) sub_nil)) ?_
      refine Z_take0 (i := 11) hS rfl want_none (e_assign rfl) (listed' := [true, true, true, true, true, true, true, true, true, true, true, true]) rfl (by kernel_rfl) (by kernel_rfl) (by kernel_rfl) (fun _ _ _ h => h) rfl ?_; clear hS a; intro a hS
      refine Z_done (by kernel_rfl) ?_
      refine n_then ?_
      refine c_seq ?_
      refine c_drawS [] (by kernel_rfl) hS (sub_cons (X := .blk b2 _ _) (by repeat constructor) (sub_cons (X := .blk b3 _ _) (by repeat constructor) sub_nil)) ?_; clear hS; (try clear w); intro w hS
      simp only [List.length_cons, List.length_nil, Nat.zero_add, Nat.reduceAdd, List.replicate]
      first | (refine Z_take0 (i := 0) hS rfl want_none (e_fa0 rfl ty_fo136_1) (listed' := [true, false, false, false, false, false, false, false, false, false, false, false]) rfl (by kernel_rfl) (by kernel_rfl) (by kernel_rfl) (fun _ _ _ h => h) rfl ?_; clear hS a; intro a hS) | (refine Z_take0 (i := 0) hS rfl want_none (e_faK rfl ty_fo136_1) (listed' := [true, false, false, false, false, false, false, false, false, false, false, false]) rfl (by kernel_rfl) (by kernel_rfl) (by kernel_rfl) (fun _ _ _ h => h) rfl ?_; clear hS a; intro a hS)
      refine Z_take (i := 1) hS rfl want_none (e_loadSub (l := wv s.2) rfl (by repeat constructor) ty_st106 ty_sz106 rfl) (listed' := [true, true, false, false, false, false, false, false, false, false, false, false]) rfl (by kernel_rfl) (by kernel_rfl) (by kernel_rfl) (by kernel_rfl) (by kernel_rfl) (sub_cons (by repeat constructor) (sub_cons (by repeat constructor) sub_nil)) (fun _ _ _ h => h) rfl ?_; clear hS a; intro a hS
      first | (refine Z_take0 (i := 2) hS rfl want_none (e_fa0 rfl ty_fo63_2) (listed' := [true, true, true, false, false, false, false, false, false, false, false, false]) rfl (by kernel_rfl) (by kernel_rfl) (by kernel_rfl) (fun _ _ _ h => h) rfl ?_; clear hS a; intro a hS) | (refine Z_take0 (i := 2) hS rfl want_none (e_faK rfl ty_fo63_2) (listed' := [true, true, true, false, false, false, false, false, false, false, false, false]) rfl (by kernel_rfl) (by kernel_rfl) (by kernel_rfl) (fun _ _ _ h => h) rfl ?_; clear hS a; intro a hS)
      refine Z_take (i := 3) hS rfl want_none (e_load rfl (by repeat constructor) ty_sc3 (by rfl)) (listed' := [true, true, true, true, false, false, false, false, false, false, false, false]) rfl (by kernel_rfl) (by kernel_rfl) (by kernel_rfl) (by kernel_rfl) (by kernel_rfl) (sub_cons (by repeat constructor) (sub_cons (by repeat constructor) sub_nil)) (fun _ _ _ h => h) rfl ?_; clear hS a; intro a hS
      refine Z_many (j := 4) (js := [9]) (by kernel_rfl) ⟨?_, ?_, trivial⟩
      ·
        refine Z_op (i := 4) rfl (want_none a hS.sl) (listed' := [true, true, true, true, true, false, false, false, false, false, false, false]) rfl (s_callP hS (.cons rfl .nil) cf92 rfl (FromInt_P p.f (by omega) (by omega) _) ?_); clear hS a; (try clear w); intro a w hS
        refine Z_and hS (sub_cons (by repeat constructor) (sub_cons (by repeat constructor) sub_nil)) ?_
        refine Z_many (j := 5) (js := [9]) (by kernel_rfl) ⟨?_, ?_, trivial⟩
        ·
          refine Z_op (i := 5) rfl (want_none a hS.sl) (listed' := [true, true, true, true, true, true, false, false, false, false, false, false]) rfl (s_callP hS (.cons rfl (.cons rfl .nil)) cf97 rfl (Add_P s.2 p.f hs.2 f2 hr.2 _) ?_); clear hS a; (try clear w); intro a w hS
          refine Z_and hS (sub_cons (by repeat constructor) (sub_cons (by repeat constructor) sub_nil)) ?_
          refine Z_take0 (i := 6) hS rfl want_none (e_move rfl) (listed' := [true, true, true, true, true, true, true, false, false, false, false, false]) rfl (by kernel_rfl) (by kernel_rfl) (by kernel_rfl) (fun _ _ _ h => h) rfl ?_; clear hS a; intro a hS
          refine Z_take0 (i := 7) hS rfl want_none (e_extract rfl rfl) (listed' := [true, true, true, true, true, true, true, true, false, false, false, false]) rfl (by kernel_rfl) (by kernel_rfl) (by kernel_rfl) (fun _ _ _ h => h) rfl ?_; clear hS a; intro a hS
          refine Z_take0 (i := 8) hS rfl want_none (e_extract rfl rfl) (listed' := [true, true, true, true, true, true, true, true, true, false, false, false]) rfl (by kernel_rfl) (by kernel_rfl) (by kernel_rfl) (fun _ _ _ h => h) rfl ?_; clear hS a; intro a hS
          refine Z_one (i := 9) rfl (want_none a hS.sl) (listed' := [true, true, true, true, true, true, true, true, true, true, false, false]) rfl (by kernel_rfl) (s_alloc hS ty_z106 rfl ?_); clear hS a; (try clear w); intro a w b7 hS
          refine Z_and hS (sub_cons (by repeat constructor) (sub_cons (by repeat constructor) sub_nil)) ?_
          refine Z_one (i := 10) rfl (want_none a hS.sl) (listed' := [true, true, true, true, true, true, true, true, true, true, true, false]) rfl (by kernel_rfl) (s_storeA hS rfl rfl ty_sz106 (by repeat constructor) (by rfl) (by rfl) (by rfl) ?_); clear hS; (try clear w); intro w hS
          refine Z_and hS (sub_cons (by repeat constructor) (sub_cons (by repeat constructor) sub_nil)) ?_
          refine Z_take0 (i := 11) hS rfl want_none (e_assign rfl) (listed' := [true, true, true, true, true, true, true, true, true, true, true, true]) rfl (by kernel_rfl) (by kernel_rfl) (by kernel_rfl) (fun _ _ _ h => h) rfl ?_; clear hS a; intro a hS
          refine Z_done (by kernel_rfl) ?_
          refine n_then ?_
          refine c_seq ?_
          refine c_region ?_
          refine L_op (s_e hS (e_loadA rfl (by repeat constructor) ty_st106 ty_sz106 (by rfl)) rfl ?_); clear hS a; intro a hS
          refine L_op (s_e hS (e_loadA rfl (by repeat constructor) ty_st106 ty_sz106 (by rfl)) rfl ?_); clear hS a; intro a hS
          refine L_op (s_e hS (e_build ty_z136 ty_pl136 (.agg rfl rfl rfl rfl (by repeat (first | apply UpdA.nil | (apply UpdA.cons; (repeat (first | apply Upd.z | apply Upd.s))))) (.agg rfl rfl rfl rfl (by repeat (first | apply UpdA.nil | (apply UpdA.cons; (repeat (first | apply Upd.z | apply Upd.s))))) .nil))) rfl ?_); clear hS a; intro a hS
          refine L_op (s_storeA hS rfl rfl ty_sz136 (by repeat constructor) (by rfl) (by rfl) (by rfl) ?_); clear hS; (try clear w); intro w hS
          refine L_nil ?_
          refine n_then ?_
          refine wp_ret ?_
          refine c_ret1 hS Try.results70 (.cellA rfl (by repeat constructor) ty_st136 ty_sz136 (by rfl)) ?_
          exact ⟨rfl, hS.chg⟩
        ·
          refine Z_op (i := 9) rfl (want_none a hS.sl) (listed' := [true, true, true, true, true, false, false, false, false, true, false, false]) rfl (s_alloc hS ty_z106 rfl ?_); clear hS a; (try clear w); intro a w b7 hS
          refine Z_and hS (sub_cons (by repeat constructor) (sub_cons (by repeat constructor) sub_nil)) ?_
          refine Z_one (i := 5) rfl (want_none a hS.sl) (listed' := [true, true, true, true, true, true, false, false, false, true, false, false]) rfl (by kernel_rfl) (s_callP hS (.cons rfl (.cons rfl .nil)) cf97 rfl (Add_P s.2 p.f hs.2 f2 hr.2 _) ?_); clear hS a; (try clear w); intro a w hS
          refine Z_and hS (sub_cons (by repeat constructor) (sub_cons (by repeat constructor) sub_nil)) ?_
          refine Z_take0 (i := 6) hS rfl want_none (e_move rfl) (listed' := [true, true, true, true, true, true, true, false, false, true, false, false]) rfl (by kernel_rfl) (by kernel_rfl) (by kernel_rfl) (fun _ _ _ h => h) rfl ?_; clear hS a; intro a hS
          refine Z_take0 (i := 7) hS rfl want_none (e_extract rfl rfl) (listed' := [true, true, true, true, true, true, true, true, false, true, false, false]) rfl (by kernel_rfl) (by kernel_rfl) (by kernel_rfl) (fun _ _ _ h => h) rfl ?_; clear hS a; intro a hS
          refine Z_take0 (i := 8) hS rfl want_none (e_extract rfl rfl) (listed' := [true, true, true, true, true, true, true, true, true, true, false, false]) rfl (by kernel_rfl) (by kernel_rfl) (by kernel_rfl) (fun _ _ _ h => h) rfl ?_; clear hS a; intro a hS
          refine Z_one (i := 10) rfl (want_none a hS.sl) (listed' := [true, true, true, true, true, true, true, true, true, true, true, false]) rfl (by kernel_rfl) (s_storeA hS rfl rfl ty_sz106 (by repeat constructor) (by rfl) (by rfl) (by rfl) ?_); clear hS; (try clear w); intro w hS
          refine Z_and hS (sub_cons (by repeat constructor) (sub_cons (by repeat constructor) sub_nil)) ?_
          refine Z_take0 (i := 11) hS rfl want_none (e_assign rfl) (listed' := [true, true, true, true, true, true, true, true, true, true, true, true]) rfl (by kernel_rfl) (by kernel_rfl) (by kernel_rfl) (fun _ _ _ h => h) rfl ?_; clear hS a; intro a hS
          refine Z_done (by kernel_rfl) ?_
          refine n_then ?_
          refine c_seq ?_
          refine c_region ?_
          refine L_op (s_e hS (e_loadA rfl (by repeat constructor) ty_st106 ty_sz106 (by rfl)) rfl ?_); clear hS a; intro a hS
          refine L_op (s_e hS (e_loadA rfl (by repeat constructor) ty_st106 ty_sz106 (by rfl)) rfl ?_); clear hS a; intro a hS
          refine L_op (s_e hS (e_build ty_z136 ty_pl136 (.agg rfl rfl rfl rfl (by repeat (first | apply UpdA.nil | (apply UpdA.cons; (repeat (first | apply Upd.z | apply Upd.s))))) (.agg rfl rfl rfl rfl (by repeat (first | apply UpdA.nil | (apply UpdA.cons; (repeat (first | apply Upd.z | apply Upd.s))))) .nil))) rfl ?_); clear hS a; intro a hS
          refine L_op (s_storeA hS rfl rfl ty_sz136 (by repeat constructor) (by rfl) (by rfl) (by rfl) ?_); clear hS; (try clear w); intro w hS
          refine L_nil ?_
          refine n_then ?_
          refine wp_ret ?_
          refine c_ret1 hS Try.results70 (.cellA rfl (by repeat constructor) ty_st136 ty_sz136 (by rfl)) ?_
          exact ⟨rfl, hS.chg⟩
      ·
        refine Z_op (i := 9) rfl (want_none a hS.sl) (listed' := [true, true, true, true, false, false, false, false, false, true, false, false]) rfl (s_alloc hS ty_z106 rfl ?_); clear hS a; (try clear w); intro a w b7 hS
        refine Z_and hS (sub_cons (by repeat constructor) (sub_cons (by repeat constructor) sub_nil)) ?_
        refine Z_one (i := 4) rfl (want_none a hS.sl) (listed' := [true, true, true, true, true, false, false, false, false, true, false, false]) rfl (by kernel_rfl) (s_callP hS (.cons rfl .nil) cf92 rfl (FromInt_P p.f (by omega) (by omega) _) ?_); clear hS a; (try clear w); intro a w hS
        refine Z_and hS (sub_cons (by repeat constructor) (sub_cons (by repeat constructor) sub_nil)) ?_
        refine Z_one (i := 5) rfl (want_none a hS.sl) (listed' := [true, true, true, true, true, true, false, false, false, true, false, false]) rfl (by kernel_rfl) (s_callP hS (.cons rfl (.cons rfl .nil)) cf97 rfl (Add_P s.2 p.f hs.2 f2 hr.2 _) ?_); clear hS a; (try clear w); intro a w hS
        refine Z_and hS (sub_cons (by repeat constructor) (sub_cons (by repeat constructor) sub_nil)) ?_
        refine Z_take0 (i := 6) hS rfl want_none (e_move rfl) (listed' := [true, true, true, true, true, true, true, false, false, true, false, false]) rfl (by kernel_rfl) (by kernel_rfl) (by kernel_rfl) (fun _ _ _ h => h) rfl ?_; clear hS a; intro a hS
        refine Z_take0 (i := 7) hS rfl want_none (e_extract rfl rfl) (listed' := [true, true, true, true, true, true, true, true, false, true, false, false]) rfl (by kernel_rfl) (by kernel_rfl) (by kernel_rfl) (fun _ _ _ h => h) rfl ?_; clear hS a; intro a hS
        refine Z_take0 (i := 8) hS rfl want_none (e_extract rfl rfl) (listed' := [true, true, true, true, true, true, true, true, true, true, false, false]) rfl (by kernel_rfl) (by kernel_rfl) (by kernel_rfl) (fun _ _ _ h => h) rfl ?_; clear hS a; intro a hS
        refine Z_one (i := 10) rfl (want_none a hS.sl) (listed' := [true, true, true, true, true, true, true, true, true, true, true, false]) rfl (by kernel_rfl) (s_storeA hS rfl rfl ty_sz106 (by repeat constructor) (by rfl) (by rfl) (by rfl) ?_); clear hS; (try clear w); intro w hS
        refine Z_and hS (sub_cons (by repeat constructor) (sub_cons (by repeat constructor) sub_nil)) ?_
        refine Z_take0 (i := 11) hS rfl want_none (e_assign rfl) (listed' := [true, true, true, true, true, true, true, true, true, true, true, true]) rfl (by kernel_rfl) (by kernel_rfl) (by kernel_rfl) (fun _ _ _ h => h) rfl ?_; clear hS a; intro a hS
        refine Z_done (by kernel_rfl) ?_
        refine n_then ?_
        refine c_seq ?_
        refine c_region ?_
        refine L_op (s_e hS (e_loadA rfl (by repeat constructor) ty_st106 ty_sz106 (by rfl)) rfl ?_); clear hS a; intro a hS
        refine L_op (s_e hS (e_loadA rfl (by repeat constructor) ty_st106 ty_sz106 (by rfl)) rfl ?_); clear hS a; intro a hS
        refine L_op (s_e hS (e_build ty_z136 ty_pl136 (.agg rfl rfl rfl rfl (by repeat (first | apply UpdA.nil | (apply UpdA.cons; (repeat (first | apply Upd.z | apply Upd.s))))) (.agg rfl rfl rfl rfl (by repeat (first | apply UpdA.nil | (apply UpdA.cons; (repeat (first | apply Upd.z | apply Upd.s))))) .nil))) rfl ?_); clear hS a; intro a hS
        refine L_op (s_storeA hS rfl rfl ty_sz136 (by repeat constructor) (by rfl) (by rfl) (by rfl) ?_); clear hS; (try clear w); intro w hS
        refine L_nil ?_
        refine n_then ?_
        refine wp_ret ?_
        refine c_ret1 hS Try.results70 (.cellA rfl (by repeat constructor) ty_st136 ty_sz136 (by rfl)) ?_
        exact ⟨rfl, hS.chg⟩
    ·
      refine Z_op (i := 9) rfl (want_none a hS.sl) (listed' := [true, true, true, true, true, false, false, false, false, true, false, false]) rfl (s_alloc hS ty_z106 rfl ?_); clear hS a; (try clear w); intro a w b5 hS
      refine Z_and hS (sub_cons (by repeat constructor) (sub_cons (by repeat constructor) sub_nil)) ?_
      refine Z_one (i := 5) rfl (want_none a hS.sl) (listed' := [true, true, true, true, true, true, false, false, false, true, false, false]) rfl (by kernel_rfl) (s_callP hS (.cons rfl (.cons rfl .nil)) cf97 rfl (Add_P s.1 p.u hs.1 f1 hr.1 _) ?_); clear hS a; (try clear w); intro a w hS
      refine Z_and hS (sub_cons (by repeat constructor) (sub_cons (by repeat constructor) sub_nil)) ?_
      refine Z_take0 (i := 6) hS rfl want_none (e_move rfl) (listed' := [true, true, true, true, true, true, true, false, false, true, false, false]) rfl (by kernel_rfl) (by kernel_rfl) (by kernel_rfl) (fun _ _ _ h => h) rfl ?_; clear hS a; intro a hS
      refine Z_take0 (i := 7) hS rfl want_none (e_extract rfl rfl) (listed' := [true, true, true, true, true, true, true, true, false, true, false, false]) rfl (by kernel_rfl) (by kernel_rfl) (by kernel_rfl) (fun _ _ _ h => h) rfl ?_; clear hS a; intro a hS
      refine Z_take0 (i := 8) hS rfl want_none (e_extract rfl rfl) (listed' := [true, true, true, true, true, true, true, true, true, true, false, false]) rfl (by kernel_rfl) (by kernel_rfl) (by kernel_rfl) (fun _ _ _ h => h) rfl ?_; clear hS a; intro a hS
      refine Z_one (i := 10) rfl (want_none a hS.sl) (listed' := [true, true, true, true, true, true, true, true, true, true, true, false]) rfl (by kernel_rfl) (s_storeA hS rfl rfl ty_sz106 (by repeat constructor) (by rfl) (by rfl) (by rfl) ?_); clear hS; (try clear w); intro w hS
      refine Z_and hS (sub_cons (by repeat constructor) (sub_cons (by repeat constructor) sub_nil)) ?_
      refine Z_take0 (i := 11) hS rfl want_none (e_assign rfl) (listed' := [true, true, true, true, true, true, true, true, true, true, true, true]) rfl (by kernel_rfl) (by kernel_rfl) (by kernel_rfl) (fun _ _ _ h => h) rfl ?_; clear hS a; intro a hS
      refine Z_done (by kernel_rfl) ?_
      refine n_then ?_
      refine c_seq ?_
      refine c_drawS [] (by kernel_rfl) hS (sub_cons (X := .blk b2 _ _) (by repeat constructor) (sub_cons (X := .blk b3 _ _) (by repeat constructor) sub_nil)) ?_; clear hS; (try clear w); intro w hS
      simp only [List.length_cons, List.length_nil, Nat.zero_add, Nat.reduceAdd, List.replicate]
      first | (refine Z_take0 (i := 0) hS rfl want_none (e_fa0 rfl ty_fo136_1) (listed' := [true, false, false, false, false, false, false, false, false, false, false, false]) rfl (by kernel_rfl) (by kernel_rfl) (by kernel_rfl) (fun _ _ _ h => h) rfl ?_; clear hS a; intro a hS) | (refine Z_take0 (i := 0) hS rfl want_none (e_faK rfl ty_fo136_1) (listed' := [true, false, false, false, false, false, false, false, false, false, false, false]) rfl (by kernel_rfl) (by kernel_rfl) (by kernel_rfl) (fun _ _ _ h => h) rfl ?_; clear hS a; intro a hS)
      refine Z_take (i := 1) hS rfl want_none (e_loadSub (l := wv s.2) rfl (by repeat constructor) ty_st106 ty_sz106 rfl) (listed' := [true, true, false, false, false, false, false, false, false, false, false, false]) rfl (by kernel_rfl) (by kernel_rfl) (by kernel_rfl) (by kernel_rfl) (by kernel_rfl) (sub_cons (by repeat constructor) (sub_cons (by repeat constructor) sub_nil)) (fun _ _ _ h => h) rfl ?_; clear hS a; intro a hS
      first | (refine Z_take0 (i := 2) hS rfl want_none (e_fa0 rfl ty_fo63_2) (listed' := [true, true, true, false, false, false, false, false, false, false, false, false]) rfl (by kernel_rfl) (by kernel_rfl) (by kernel_rfl) (fun _ _ _ h => h) rfl ?_; clear hS a; intro a hS) | (refine Z_take0 (i := 2) hS rfl want_none (e_faK rfl ty_fo63_2) (listed' := [true, true, true, false, false, false, false, false, false, false, false, false]) rfl (by kernel_rfl) (by kernel_rfl) (by kernel_rfl) (fun _ _ _ h => h) rfl ?_; clear hS a; intro a hS)
      refine Z_take (i := 3) hS rfl want_none (e_load rfl (by repeat constructor) ty_sc3 (by rfl)) (listed' := [true, true, true, true, false, false, false, false, false, false, false, false]) rfl (by kernel_rfl) (by kernel_rfl) (by kernel_rfl) (by kernel_rfl) (by kernel_rfl) (sub_cons (by repeat constructor) (sub_cons (by repeat constructor) sub_nil)) (fun _ _ _ h => h) rfl ?_; clear hS a; intro a hS
      refine Z_many (j := 4) (js := [9]) (by kernel_rfl) ⟨?_, ?_, trivial⟩
      ·
        refine Z_op (i := 4) rfl (want_none a hS.sl) (listed' := [true, true, true, true, true, false, false, false, false, false, false, false]) rfl (s_callP hS (.cons rfl .nil) cf92 rfl (FromInt_P p.f (by omega) (by omega) _) ?_); clear hS a; (try clear w); intro a w hS
        refine Z_and hS (sub_cons (by repeat constructor) (sub_cons (by repeat constructor) sub_nil)) ?_
        refine Z_many (j := 5) (js := [9]) (by kernel_rfl) ⟨?_, ?_, trivial⟩
        ·
          refine Z_op (i := 5) rfl (want_none a hS.sl) (listed' := [true, true, true, true, true, true, false, false, false, false, false, false]) rfl (s_callP hS (.cons rfl (.cons rfl .nil)) cf97 rfl (Add_P s.2 p.f hs.2 f2 hr.2 _) ?_); clear hS a; (try clear w); intro a w hS
          refine Z_and hS (sub_cons (by repeat constructor) (sub_cons (by repeat constructor) sub_nil)) ?_
          refine Z_take0 (i := 6) hS rfl want_none (e_move rfl) (listed' := [true, true, true, true, true, true, true, false, false, false, false, false]) rfl (by kernel_rfl) (by kernel_rfl) (by kernel_rfl) (fun _ _ _ h => h) rfl ?_; clear hS a; intro a hS
          refine Z_take0 (i := 7) hS rfl want_none (e_extract rfl rfl) (listed' := [true, true, true, true, true, true, true, true, false, false, false, false]) rfl (by kernel_rfl) (by kernel_rfl) (by kernel_rfl) (fun _ _ _ h => h) rfl ?_; clear hS a; intro a hS
          refine Z_take0 (i := 8) hS rfl want_none (e_extract rfl rfl) (listed' := [true, true, true, true, true, true, true, true, true, false, false, false]) rfl (by kernel_rfl) (by kernel_rfl) (by kernel_rfl) (fun _ _ _ h => h) rfl ?_; clear hS a; intro a hS
          refine Z_one (i := 9) rfl (want_none a hS.sl) (listed' := [true, true, true, true, true, true, true, true, true, true, false, false]) rfl (by kernel_rfl) (s_alloc hS ty_z106 rfl ?_); clear hS a; (try clear w); intro a w b7 hS
          refine Z_and hS (sub_cons (by repeat constructor) (sub_cons (by repeat constructor) sub_nil)) ?_
          refine Z_one (i := 10) rfl (want_none a hS.sl) (listed' := [true, true, true, true, true, true, true, true, true, true, true, false]) rfl (by kernel_rfl) (s_storeA hS rfl rfl ty_sz106 (by repeat constructor) (by rfl) (by rfl) (by rfl) ?_); clear hS; (try clear w); intro w hS
          refine Z_and hS (sub_cons (by repeat constructor) (sub_cons (by repeat constructor) sub_nil)) ?_
          refine Z_take0 (i := 11) hS rfl want_none (e_assign rfl) (listed' := [true, true, true, true, true, true, true, true, true, true, true, true]) rfl (by kernel_rfl) (by kernel_rfl) (by kernel_rfl) (fun _ _ _ h => h) rfl ?_; clear hS a; intro a hS
          refine Z_done (by kernel_rfl) ?_
          refine n_then ?_
          refine c_seq ?_
          refine c_region ?_
          refine L_op (s_e hS (e_loadA rfl (by repeat constructor) ty_st106 ty_sz106 (by rfl)) rfl ?_); clear hS a; intro a hS
          refine L_op (s_e hS (e_loadA rfl (by repeat constructor) ty_st106 ty_sz106 (by rfl)) rfl ?_); clear hS a; intro a hS
          refine L_op (s_e hS (e_build ty_z136 ty_pl136 (.agg rfl rfl rfl rfl (by repeat (first | apply UpdA.nil | (apply UpdA.cons; (repeat (first | apply Upd.z | apply Upd.s))))) (.agg rfl rfl rfl rfl (by repeat (first | apply UpdA.nil | (apply UpdA.cons; (repeat (first | apply Upd.z | apply Upd.s))))) .nil))) rfl ?_); clear hS a; intro a hS
          refine L_op (s_storeA hS rfl rfl ty_sz136 (by repeat constructor) (by rfl) (by rfl) (by rfl) ?_); clear hS; (try clear w); intro w hS
          refine L_nil ?_
          refine n_then ?_
          refine wp_ret ?_
          refine c_ret1 hS Try.results70 (.cellA rfl (by repeat constructor) ty_st136 ty_sz136 (by rfl)) ?_
          exact ⟨rfl, hS.chg⟩
        ·
          refine Z_op (i := 9) rfl (want_none a hS.sl) (listed' := [true, true, true, true, true, false, false, false, false, true, false, false]) rfl (s_alloc hS ty_z106 rfl ?_); clear hS a; (try clear w); intro a w b7 hS
          refine Z_and hS (sub_cons (by repeat constructor) (sub_cons (by repeat constructor) sub_nil)) ?_
          refine Z_one (i := 5) rfl (want_none a hS.sl) (listed' := [true, true, true, true, true, true, false, false, false, true, false, false]) rfl (by kernel_rfl) (s_callP hS (.cons rfl (.cons rfl .nil)) cf97 rfl (Add_P s.2 p.f hs.2 f2 hr.2 _) ?_); clear hS a; (try clear w); intro a w hS
          refine Z_and hS (sub_cons (by repeat constructor) (sub_cons (by repeat constructor) sub_nil)) ?_
          refine Z_take0 (i := 6) hS rfl want_none (e_move rfl) (listed' := [true, true, true, true, true, true, true, false, false, true, false, false]) rfl (by kernel_rfl) (by kernel_rfl) (by kernel_rfl) (fun _ _ _ h => h) rfl ?_; clear hS a; intro a hS
          refine Z_take0 (i := 7) hS rfl want_none (e_extract rfl rfl) (listed' := [true, true, true, true, true, true, true, true, false, true, false, false]) rfl (by kernel_rfl) (by kernel_rfl) (by kernel_rfl) (fun _ _ _ h => h) rfl ?_; clear hS a; intro a hS
          refine Z_take0 (i := 8) hS rfl want_none (e_extract rfl rfl) (listed' := [true, true, true, true, true, true, true, true, true, true, false, false]) rfl (by kernel_rfl) (by kernel_rfl) (by kernel_rfl) (fun _ _ _ h => h) rfl ?_; clear hS a; intro a hS
          refine Z_one (i := 10) rfl (want_none a hS.sl) (listed' := [true, true, true, true, true, true, true, true, true, true, true, false]) rfl (by kernel_rfl) (s_storeA hS rfl rfl ty_sz106 (by repeat constructor) (by rfl) (by rfl) (by rfl) ?_); clear hS; (try clear w); intro w hS
          refine Z_and hS (sub_cons (by repeat constructor) (sub_cons (by repeat constructor) sub_nil)) ?_
          refine Z_take0 (i := 11) hS rfl want_none (e_assign rfl) (listed' := [true, true, true, true, true, true, true, true, true, true, true, true]) rfl (by kernel_rfl) (by kernel_rfl) (by kernel_rfl) (fun _ _ _ h => h) rfl ?_; clear hS a; intro a hS
          refine Z_done (by kernel_rfl) ?_
          refine n_then ?_
          refine c_seq ?_
          refine c_region ?_
          refine L_op (s_e hS (e_loadA rfl (by repeat constructor) ty_st106 ty_sz106 (by rfl)) rfl ?_); clear hS a; intro a hS
          refine L_op (s_e hS (e_loadA rfl (by repeat constructor) ty_st106 ty_sz106 (by rfl)) rfl ?_); clear hS a; intro a hS
          refine L_op (s_e hS (e_build ty_z136 ty_pl136 (.agg rfl rfl rfl rfl (by repeat (first | apply UpdA.nil | (apply UpdA.cons; (repeat (first | apply Upd.z | apply Upd.s))))) (.agg rfl rfl rfl rfl (by repeat (first | apply UpdA.nil | (apply UpdA.cons; (repeat (first | apply Upd.z | apply Upd.s))))) .nil))) rfl ?_); clear hS a; intro a hS
          refine L_op (s_storeA hS rfl rfl ty_sz136 (by repeat constructor) (by rfl) (by rfl) (by rfl) ?_); clear hS; (try clear w); intro w hS
          refine L_nil ?_
          refine n_then ?_
          refine wp_ret ?_
          refine c_ret1 hS Try.results70 (.cellA rfl (by repeat constructor) ty_st136 ty_sz136 (by rfl)) ?_
          exact ⟨rfl, hS.chg⟩
      ·
        refine Z_op (i := 9) rfl (want_none a hS.sl) (listed' := [true, true, true, true, false, false, false, false, false, true, false, false]) rfl (s_alloc hS ty_z106 rfl ?_); clear hS a; (try clear w); intro a w b7 hS
        refine Z_and hS (sub_cons (by repeat constructor) (sub_cons (by repeat constructor) sub_nil)) ?_
        refine Z_one (i := 4) rfl (want_none a hS.sl) (listed' := [true, true, true, true, true, false, false, false, false, true, false, false]) rfl (by kernel_rfl) (s_callP hS (.cons rfl .nil) cf92 rfl (FromInt_P p.f (by omega) (by omega) _) ?_); clear hS a; (try clear w); intro a w hS
        refine Z_and hS (sub_cons (by repeat constructor) (sub_cons (by repeat constructor) sub_nil)) ?_
        refine Z_one (i := 5) rfl (want_none a hS.sl) (listed' := [true, true, true, true, true, true, false, false, false, true, false, false]) rfl (by kernel_rfl) (s_callP hS (.cons rfl (.cons rfl .nil)) cf97 rfl (Add_P s.2 p.f hs.2 f2 hr.2 _) ?_); clear hS a; (try clear w); intro a w hS
        refine Z_and hS (sub_cons (by repeat constructor) (sub_cons (by repeat constructor) sub_nil)) ?_
        refine Z_take0 (i := 6) hS rfl want_none (e_move rfl) (listed' := [true, true, true, true, true, true, true, false, false, true, false, false]) rfl (by kernel_rfl) (by kernel_rfl) (by kernel_rfl) (fun _ _ _ h => h) rfl ?_; clear hS a; intro a hS
        refine Z_take0 (i := 7) hS rfl want_none (e_extract rfl rfl) (listed' := [true, true, true, true, true, true, true, true, false, true, false, false]) rfl (by kernel_rfl) (by kernel_rfl) (by kernel_rfl) (fun _ _ _ h => h) rfl ?_; clear hS a; intro a hS
        refine Z_take0 (i := 8) hS rfl want_none (e_extract rfl rfl) (listed' := [true, true, true, true, true, true, true, true, true, true, false, false]) rfl (by kernel_rfl) (by kernel_rfl) (by kernel_rfl) (fun _ _ _ h => h) rfl ?_; clear hS a; intro a hS
        refine Z_one (i := 10) rfl (want_none a hS.sl) (listed' := [true, true, true, true, true, true, true, true, true, true, true, false]) rfl (by kernel_rfl) (s_storeA hS rfl rfl ty_sz106 (by repeat constructor) (by rfl) (by rfl) (by rfl) ?_); clear hS; (try clear w); intro w hS
        refine Z_and hS (sub_cons (by repeat constructor) (sub_cons (by repeat constructor) sub_nil)) ?_
        refine Z_take0 (i := 11) hS rfl want_none (e_assign rfl) (listed' := [true, true, true, true, true, true, true, true, true, true, true, true]) rfl (by kernel_rfl) (by kernel_rfl) (by kernel_rfl) (fun _ _ _ h => h) rfl ?_; clear hS a; intro a hS
        refine Z_done (by kernel_rfl) ?_
        refine n_then ?_
        refine c_seq ?_
        refine c_region ?_
        refine L_op (s_e hS (e_loadA rfl (by repeat constructor) ty_st106 ty_sz106 (by rfl)) rfl ?_); clear hS a; intro a hS
        refine L_op (s_e hS (e_loadA rfl (by repeat constructor) ty_st106 ty_sz106 (by rfl)) rfl ?_); clear hS a; intro a hS
        refine L_op (s_e hS (e_build ty_z136 ty_pl136 (.agg rfl rfl rfl rfl (by repeat (first | apply UpdA.nil | (apply UpdA.cons; (repeat (first | apply Upd.z | apply Upd.s))))) (.agg rfl rfl rfl rfl (by repeat (first | apply UpdA.nil | (apply UpdA.cons; (repeat (first | apply Upd.z | apply Upd.s))))) .nil))) rfl ?_); clear hS a; intro a hS
        refine L_op (s_storeA hS rfl rfl ty_sz136 (by repeat constructor) (by rfl) (by rfl) (by rfl) ?_); clear hS; (try clear w); intro w hS
        refine L_nil ?_
        refine n_then ?_
        refine wp_ret ?_
        refine c_ret1 hS Try.results70 (.cellA rfl (by repeat constructor) ty_st136 ty_sz136 (by rfl)) ?_
        exact ⟨rfl, hS.chg⟩
  ·
    refine Z_op (i := 9) rfl (want_none a hS.sl) (listed' := [true, true, true, true, false, false, false, false, false, true, false, false]) rfl (s_alloc hS ty_z106 rfl ?_); clear hS a; (try clear w); intro a w b5 hS
    refine Z_and hS (sub_cons (by repeat constructor) (sub_cons (by repeat constructor) sub_nil)) ?_
    refine Z_one (i := 4) rfl (want_none a hS.sl) (listed' := [true, true, true, true, true, false, false, false, false, true, false, false]) rfl (by kernel_rfl) (s_callP hS (.cons rfl .nil) cf92 rfl (FromInt_P p.u (by omega) (by omega) _) ?_); clear hS a; (try clear w); intro a w hS
    refine Z_and hS (sub_cons (by repeat constructor) (sub_cons (by repeat constructor) sub_nil)) ?_
    refine Z_one (i := 5) rfl (want_none a hS.sl) (listed' := [true, true, true, true, true, true, false, false, false, true, false, false]) rfl (by kernel_rfl) (s_callP hS (.cons rfl (.cons rfl .nil)) cf97 rfl (Add_P s.1 p.u hs.1 f1 hr.1 _) ?_); clear hS a; (try clear w); intro a w hS
    refine Z_and hS (sub_cons (by repeat constructor) (sub_cons (by repeat constructor) sub_nil)) ?_
    refine Z_take0 (i := 6) hS rfl want_none (e_move rfl) (listed' := [true, true, true, true, true, true, true, false, false, true, false, false]) rfl (by kernel_rfl) (by kernel_rfl) (by kernel_rfl) (fun _ _ _ h => h) rfl ?_; clear hS a; intro a hS
    refine Z_take0 (i := 7) hS rfl want_none (e_extract rfl rfl) (listed' := [true, true, true, true, true, true, true, true, false, true, false, false]) rfl (by kernel_rfl) (by kernel_rfl) (by kernel_rfl) (fun _ _ _ h => h) rfl ?_; clear hS a; intro a hS
    refine Z_take0 (i := 8) hS rfl want_none (e_extract rfl rfl) (listed' := [true, true, true, true, true, true, true, true, true, true, false, false]) rfl (by kernel_rfl) (by kernel_rfl) (by kernel_rfl) (fun _ _ _ h => h) rfl ?_; clear hS a; intro a hS
    refine Z_one (i := 10) rfl (want_none a hS.sl) (listed' := [true, true, true, true, true, true, true, true, true, true, true, false]) rfl (by kernel_rfl) (s_storeA hS rfl rfl ty_sz106 (by repeat constructor) (by rfl) (by rfl) (by rfl) ?_); clear hS; (try clear w); intro w hS
    refine Z_and hS (sub_cons (by repeat constructor) (sub_cons (by repeat constructor) sub_nil)) ?_
    refine Z_take0 (i := 11) hS rfl want_none (e_assign rfl) (listed' := [true, true, true, true, true, true, true, true, true, true, true, true]) rfl (by kernel_rfl) (by kernel_rfl) (by kernel_rfl) (fun _ _ _ h => h) rfl ?_; clear hS a; intro a hS
    refine Z_done (by kernel_rfl) ?_
    refine n_then ?_
    refine c_seq ?_
    refine c_drawS [] (by kernel_rfl) hS (sub_cons (X := .blk b2 _ _) (by repeat constructor) (sub_cons (X := .blk b3 _ _) (by repeat constructor) sub_nil)) ?_; clear hS; (try clear w); intro w hS
    simp only [List.length_cons, List.length_nil, Nat.zero_add, Nat.reduceAdd, List.replicate]
    first | (refine Z_take0 (i := 0) hS rfl want_none (e_fa0 rfl ty_fo136_1) (listed' := [true, false, false, false, false, false, false, false, false, false, false, false]) rfl (by kernel_rfl) (by kernel_rfl) (by kernel_rfl) (fun _ _ _ h => h) rfl ?_; clear hS a; intro a hS) | (refine Z_take0 (i := 0) hS rfl want_none (e_faK rfl ty_fo136_1) (listed' := [true, false, false, false, false, false, false, false, false, false, false, false]) rfl (by kernel_rfl) (by kernel_rfl) (by kernel_rfl) (fun _ _ _ h => h) rfl ?_; clear hS a; intro a hS)
    refine Z_take (i := 1) hS rfl want_none (e_loadSub (l := wv s.2) rfl (by repeat constructor) ty_st106 ty_sz106 rfl) (listed' := [true, true, false, false, false, false, false, false, false, false, false, false]) rfl (by kernel_rfl) (by kernel_rfl) (by kernel_rfl) (by kernel_rfl) (by kernel_rfl) (sub_cons (by repeat constructor) (sub_cons (by repeat constructor) sub_nil)) (fun _ _ _ h => h) rfl ?_; clear hS a; intro a hS
    first | (refine Z_take0 (i := 2) hS rfl want_none (e_fa0 rfl ty_fo63_2) (listed' := [true, true, true, false, false, false, false, false, false, false, false, false]) rfl (by kernel_rfl) (by kernel_rfl) (by kernel_rfl) (fun _ _ _ h => h) rfl ?_; clear hS a; intro a hS) | (refine Z_take0 (i := 2) hS rfl want_none (e_faK rfl ty_fo63_2) (listed' := [true, true, true, false, false, false, false, false, false, false, false, false]) rfl (by kernel_rfl) (by kernel_rfl) (by kernel_rfl) (fun _ _ _ h => h) rfl ?_; clear hS a; intro a hS)
    refine Z_take (i := 3) hS rfl want_none (e_load rfl (by repeat constructor) ty_sc3 (by rfl)) (listed' := [true, true, true, true, false, false, false, false, false, false, false, false]) rfl (by kernel_rfl) (by kernel_rfl) (by kernel_rfl) (by kernel_rfl) (by kernel_rfl) (sub_cons (by repeat constructor) (sub_cons (by repeat constructor) sub_nil)) (fun _ _ _ h => h) rfl ?_; clear hS a; intro a hS
    refine Z_many (j := 4) (js := [9]) (by kernel_rfl) ⟨?_, ?_, trivial⟩
    ·
      refine Z_op (i := 4) rfl (want_none a hS.sl) (listed' := [true, true, true, true, true, false, false, false, false, false, false, false]) rfl (s_callP hS (.cons rfl .nil) cf92 rfl (FromInt_P p.f (by omega) (by omega) _) ?_); clear hS a; (try clear w); intro a w hS
      refine Z_and hS (sub_cons (by repeat constructor) (sub_cons (by repeat constructor) sub_nil)) ?_
      refine Z_many (j := 5) (js := [9]) (by kernel_rfl) ⟨?_, ?_, trivial⟩
      ·
        refine Z_op (i := 5) rfl (want_none a hS.sl) (listed' := [true, true, true, true, true, true, false, false, false, false, false, false]) rfl (s_callP hS (.cons rfl (.cons rfl .nil)) cf97 rfl (Add_P s.2 p.f hs.2 f2 hr.2 _) ?_); clear hS a; (try clear w); intro a w hS
        refine Z_and hS (sub_cons (by repeat constructor) (sub_cons (by repeat constructor) sub_nil)) ?_
        refine Z_take0 (i := 6) hS rfl want_none (e_move rfl) (listed' := [true, true, true, true, true, true, true, false, false, false, false, false]) rfl (by kernel_rfl) (by kernel_rfl) (by kernel_rfl) (fun _ _ _ h => h) rfl ?_; clear hS a; intro a hS
        refine Z_take0 (i := 7) hS rfl want_none (e_extract rfl rfl) (listed' := [true, true, true, true, true, true, true, true, false, false, false, false]) rfl (by kernel_rfl) (by kernel_rfl) (by kernel_rfl) (fun _ _ _ h => h) rfl ?_; clear hS a; intro a hS
        refine Z_take0 (i := 8) hS rfl want_none (e_extract rfl rfl) (listed' := [true, true, true, true, true, true, true, true, true, false, false, false]) rfl (by kernel_rfl) (by kernel_rfl) (by kernel_rfl) (fun _ _ _ h => h) rfl ?_; clear hS a; intro a hS
        refine Z_one (i := 9) rfl (want_none a hS.sl) (listed' := [true, true, true, true, true, true, true, true, true, true, false, false]) rfl (by kernel_rfl) (s_alloc hS ty_z106 rfl ?_); clear hS a; (try clear w); intro a w b7 hS
        refine Z_and hS (sub_cons (by repeat constructor) (sub_cons (by repeat constructor) sub_nil)) ?_
        refine Z_one (i := 10) rfl (want_none a hS.sl) (listed' := [true, true, true, true, true, true, true, true, true, true, true, false]) rfl (by kernel_rfl) (s_storeA hS rfl rfl ty_sz106 (by repeat constructor) (by rfl) (by rfl) (by rfl) ?_); clear hS; (try clear w); intro w hS
        refine Z_and hS (sub_cons (by repeat constructor) (sub_cons (by repeat constructor) sub_nil)) ?_
        refine Z_take0 (i := 11) hS rfl want_none (e_assign rfl) (listed' := [true, true, true, true, true, true, true, true, true, true, true, true]) rfl (by kernel_rfl) (by kernel_rfl) (by kernel_rfl) (fun _ _ _ h => h) rfl ?_; clear hS a; intro a hS
        refine Z_done (by kernel_rfl) ?_
        refine n_then ?_
        refine c_seq ?_
        refine c_region ?_
        refine L_op (s_e hS (e_loadA rfl (by repeat constructor) ty_st106 ty_sz106 (by rfl)) rfl ?_); clear hS a; intro a hS
        refine L_op (s_e hS (e_loadA rfl (by repeat constructor) ty_st106 ty_sz106 (by rfl)) rfl ?_); clear hS a; intro a hS
        refine L_op (s_e hS (e_build ty_z136 ty_pl136 (.agg rfl rfl rfl rfl (by repeat (first | apply UpdA.nil | (apply UpdA.cons; (repeat (first | apply Upd.z | apply Upd.s))))) (.agg rfl rfl rfl rfl (by repeat (first | apply UpdA.nil | (apply UpdA.cons; (repeat (first | apply Upd.z | apply Upd.s))))) .nil))) rfl ?_); clear hS a; intro a hS
        refine L_op (s_storeA hS rfl rfl ty_sz136 (by repeat constructor) (by rfl) (by rfl) (by rfl) ?_); clear hS; (try clear w); intro w hS
        refine L_nil ?_
        refine n_then ?_
        refine wp_ret ?_
        refine c_ret1 hS Try.results70 (.cellA rfl (by repeat constructor) ty_st136 ty_sz136 (by rfl)) ?_
        exact ⟨rfl, hS.chg⟩
      ·
        refine Z_op (i := 9) rfl (want_none a hS.sl) (listed' := [true, true, true, true, true, false, false, false, false, true, false, false]) rfl (s_alloc hS ty_z106 rfl ?_); clear hS a; (try clear w); intro a w b7 hS
        refine Z_and hS (sub_cons (by repeat constructor) (sub_cons (by repeat constructor) sub_nil)) ?_
        refine Z_one (i := 5) rfl (want_none a hS.sl) (listed' := [true, true, true, true, true, true, false, false, false, true, false, false]) rfl (by kernel_rfl) (s_callP hS (.cons rfl (.cons rfl .nil)) cf97 rfl (Add_P s.2 p.f hs.2 f2 hr.2 _) ?_); clear hS a; (try clear w); intro a w hS
        refine Z_and hS (sub_cons (by repeat constructor) (sub_cons (by repeat constructor) sub_nil)) ?_
        refine Z_take0 (i := 6) hS rfl want_none (e_move rfl) (listed' := [true, true, true, true, true, true, true, false, false, true, false, false]) rfl (by kernel_rfl) (by kernel_rfl) (by kernel_rfl) (fun _ _ _ h => h) rfl ?_; clear hS a; intro a hS
        refine Z_take0 (i := 7) hS rfl want_none (e_extract rfl rfl) (listed' := [true, true, true, true, true, true, true, true, false, true, false, false]) rfl (by kernel_rfl) (by kernel_rfl) (by kernel_rfl) (fun _ _ _ h => h) rfl ?_; clear hS a; intro a hS
        refine Z_take0 (i := 8) hS rfl want_none (e_extract rfl rfl) (listed' := [true, true, true, true, true, true, true, true, true, true, false, false]) rfl (by kernel_rfl) (by kernel_rfl) (by kernel_rfl) (fun _ _ _ h => h) rfl ?_; clear hS a; intro a hS
        refine Z_one (i := 10) rfl (want_none a hS.sl) (listed' := [true, true, true, true, true, true, true, true, true, true, true, false]) rfl (by kernel_rfl) (s_storeA hS rfl rfl ty_sz106 (by repeat constructor) (by rfl) (by rfl) (by rfl) ?_); clear hS; (try clear w); intro w hS
        refine Z_and hS (sub_cons (by repeat constructor) (sub_cons (by repeat constructor) sub_nil)) ?_
        refine Z_take0 (i := 11) hS rfl want_none (e_assign rfl) (listed' := [true, true, true, true, true, true, true, true, true, true, true, true]) rfl (by kernel_rfl) (by kernel_rfl) (by kernel_rfl) (fun _ _ _ h => h) rfl ?_; clear hS a; intro a hS
        refine Z_done (by kernel_rfl) ?_
        refine n_then ?_
        refine c_seq ?_
        refine c_region ?_
        refine L_op (s_e hS (e_loadA rfl (by repeat constructor) ty_st106 ty_sz106 (by rfl)) rfl ?_); clear hS a; intro a hS
        refine L_op (s_e hS (e_loadA rfl (by repeat constructor) ty_st106 ty_sz106 (by rfl)) rfl ?_); clear hS a; intro a hS
        refine L_op (s_e hS (e_build ty_z136 ty_pl136 (.agg rfl rfl rfl rfl (by repeat (first | apply UpdA.nil | (apply UpdA.cons; (repeat (first | apply Upd.z | apply Upd.s))))) (.agg rfl rfl rfl rfl (by repeat (first | apply UpdA.nil | (apply UpdA.cons; (repeat (first | apply Upd.z | apply Upd.s))))) .nil))) rfl ?_); clear hS a; intro a hS
        refine L_op (s_storeA hS rfl rfl ty_sz136 (by repeat constructor) (by rfl) (by rfl) (by rfl) ?_); clear hS; (try clear w); intro w hS
        refine L_nil ?_
        refine n_then ?_
        refine wp_ret ?_
        refine c_ret1 hS Try.results70 (.cellA rfl (by repeat constructor) ty_st136 ty_sz136 (by rfl)) ?_
        exact ⟨rfl, hS.chg⟩
    ·
      refine Z_op (i := 9) rfl (want_none a hS.sl) (listed' := [true, true, true, true, false, false, false, false, false, true, false, false]) rfl (s_alloc hS ty_z106 rfl ?_); clear hS a; (try clear w); intro a w b7 hS
      refine Z_and hS (sub_cons (by repeat constructor) (sub_cons (by repeat constructor) sub_nil)) ?_
      refine Z_one (i := 4) rfl (want_none a hS.sl) (listed' := [true, true, true, true, true, false, false, false, false, true, false, false]) rfl (by kernel_rfl) (s_callP hS (.cons rfl .nil) cf92 rfl (FromInt_P p.f (by omega) (by omega) _) ?_); clear hS a; (try clear w); intro a w hS
      refine Z_and hS (sub_cons (by repeat constructor) (sub_cons (by repeat constructor) sub_nil)) ?_
      refine Z_one (i := 5) rfl (want_none a hS.sl) (listed' := [true, true, true, true, true, true, false, false, false, true, false, false]) rfl (by kernel_rfl) (s_callP hS (.cons rfl (.cons rfl .nil)) cf97 rfl (Add_P s.2 p.f hs.2 f2 hr.2 _) ?_); clear hS a; (try clear w); intro a w hS
      refine Z_and hS (sub_cons (by repeat constructor) (sub_cons (by repeat constructor) sub_nil)) ?_
      refine Z_take0 (i := 6) hS rfl want_none (e_move rfl) (listed' := [true, true, true, true, true, true, true, false, false, true, false, false]) rfl (by kernel_rfl) (by kernel_rfl) (by kernel_rfl) (fun _ _ _ h => h) rfl ?_; clear hS a; intro a hS
      refine Z_take0 (i := 7) hS rfl want_none (e_extract rfl rfl) (listed' := [true, true, true, true, true, true, true, true, false, true, false, false]) rfl (by kernel_rfl) (by kernel_rfl) (by kernel_rfl) (fun _ _ _ h => h) rfl ?_; clear hS a; intro a hS
      refine Z_take0 (i := 8) hS rfl want_none (e_extract rfl rfl) (listed' := [true, true, true, true, true, true, true, true, true, true, false, false]) rfl (by kernel_rfl) (by kernel_rfl) (by kernel_rfl) (fun _ _ _ h => h) rfl ?_; clear hS a; intro a hS
      refine Z_one (i := 10) rfl (want_none a hS.sl) (listed' := [true, true, true, true, true, true, true, true, true, true, true, false]) rfl (by kernel_rfl) (s_storeA hS rfl rfl ty_sz106 (by repeat constructor) (by rfl) (by rfl) (by rfl) ?_); clear hS; (try clear w); intro w hS
      refine Z_and hS (sub_cons (by repeat constructor) (sub_cons (by repeat constructor) sub_nil)) ?_
      refine Z_take0 (i := 11) hS rfl want_none (e_assign rfl) (listed' := [true, true, true, true, true, true, true, true, true, true, true, true]) rfl (by kernel_rfl) (by kernel_rfl) (by kernel_rfl) (fun _ _ _ h => h) rfl ?_; clear hS a; intro a hS
      refine Z_done (by kernel_rfl) ?_
      refine n_then ?_
      refine c_seq ?_
      refine c_region ?_
      refine L_op (s_e hS (e_loadA rfl (by repeat constructor) ty_st106 ty_sz106 (by rfl)) rfl ?_); clear hS a; intro a hS
      refine L_op (s_e hS (e_loadA rfl (by repeat constructor) ty_st106 ty_sz106 (by rfl)) rfl ?_); clear hS a; intro a hS
      refine L_op (s_e hS (e_build ty_z136 ty_pl136 (.agg rfl rfl rfl rfl (by repeat (first | apply UpdA.nil | (apply UpdA.cons; (repeat (first | apply Upd.z | apply Upd.s))))) (.agg rfl rfl rfl rfl (by repeat (first | apply UpdA.nil | (apply UpdA.cons; (repeat (first | apply Upd.z | apply Upd.s))))) .nil))) rfl ?_); clear hS a; intro a hS
      refine L_op (s_storeA hS rfl rfl ty_sz136 (by repeat constructor) (by rfl) (by rfl) (by rfl) ?_); clear hS; (try clear w); intro w hS
      refine L_nil ?_
      refine n_then ?_
      refine wp_ret ?_
      refine c_ret1 hS Try.results70 (.cellA rfl (by repeat constructor) ty_st136 ty_sz136 (by rfl)) ?_
      exact ⟨rfl, hS.chg⟩
theorem IntE_P (v : Int) (hv : Wd.fit v) (w0 : World) : PureC Try.prog 52 [.agg (wv v).toArray] w0 (.tuple [.int .i64 (intE v).1, .int .i64 (intE v).2].toArray) := by
  unfold intE
  by_cases h : -9223372036854775808 ≤ v ∧ v < 9223372036854775808
  · rw [if_pos h]; exact PureC.of_below (Int_yes v h.1 h.2 _)
  · rw [if_neg h]; exact PureC.of_below (Int_no v hv (by omega) _)
/-- what stands in an account, if it may. -/
def balV (s : SM) : Int × Int := if inU s.1 ∧ inU s.2 then s else (0, 0)
theorem int_in {v : Int} (h : inU v) : intE v = (v, 0) := by unfold intE; unfold inU at h; rw [if_pos (by omega)]
set_option maxRecDepth 100000 in
theorem sbal_P (s : SM) (code : ByteArray) (hs : fitS s) (w0 : World) :
    PureC Try.prog 71 [.agg (encSm s).toArray, .string code] w0 (.tuple [.agg [.string code, .int .i64 (balV s).1, .int .i64 (balV s).2].toArray, .bool (decide (inU s.1 ∧ inU s.2))].toArray) := by
  have hA : ∀ v, (intE v).2 = 0 → inU (intE v).1 → inU v := fun v h1 h2 => by
    unfold intE at h1 h2; split at h1
    · rename_i h; rw [if_pos h] at h2; exact h2
    · cases h1
  refine c_enter [(0, .agg (encSm s).toArray), (1, .string code)] [] noB Try.func71 rfl Try.ntmps71 ⟨rfl, rfl, trivial⟩ rfl (by simp) (by simp) (by simp) ?_
  intro a hS
  refine c_seq ?_
  refine c_region ?_
  refine L_op (s_boxA hS rfl rfl ?_); clear hS a; (try clear w); intro a w b2 hS
  refine L_op (s_alloc hS ty_z60 rfl ?_); clear hS a; (try clear w); intro a w b4 hS
  refine L_op (s_e hS (e_assign rfl) rfl ?_); clear hS a; intro a hS
  refine L_nil ?_
  refine n_then ?_
  refine c_seq ?_
  refine c_region ?_
  first | (refine L_op (s_e hS (e_fa0 rfl ty_fo136_0) rfl ?_); clear hS a; intro a hS) | (refine L_op (s_e hS (e_faK rfl ty_fo136_0) rfl ?_); clear hS a; intro a hS)
  refine L_op (s_e hS (e_loadSub (l := wv s.1) rfl (by repeat constructor) ty_st106 ty_sz106 rfl) rfl ?_); clear hS a; intro a hS
  refine L_op (s_callP hS (.cons rfl .nil) cf52 rfl (IntE_P s.1 hs.1 _) ?_); clear hS a; (try clear w); intro a w hS
  refine L_op (s_e hS (e_move rfl) rfl ?_); clear hS a; intro a hS
  refine L_op (s_e hS (e_extract rfl rfl) rfl ?_); clear hS a; intro a hS
  refine L_op (s_e hS (e_extract rfl rfl) rfl ?_); clear hS a; intro a hS
  refine L_op (s_e hS (e_assign rfl) rfl ?_); clear hS a; intro a hS
  refine L_op (s_e hS (e_assign rfl) rfl ?_); clear hS a; intro a hS
  refine L_nil ?_
  refine n_then ?_
  refine c_seq ?_
  refine c_region ?_
  first | (refine L_op (s_e hS (e_fa0 rfl ty_fo136_1) rfl ?_); clear hS a; intro a hS) | (refine L_op (s_e hS (e_faK rfl ty_fo136_1) rfl ?_); clear hS a; intro a hS)
  refine L_op (s_e hS (e_loadSub (l := wv s.2) rfl (by repeat constructor) ty_st106 ty_sz106 rfl) rfl ?_); clear hS a; intro a hS
  refine L_op (s_callP hS (.cons rfl .nil) cf52 rfl (IntE_P s.2 hs.2 _) ?_); clear hS a; (try clear w); intro a w hS
  refine L_op (s_e hS (e_move rfl) rfl ?_); clear hS a; intro a hS
  refine L_op (s_e hS (e_extract rfl rfl) rfl ?_); clear hS a; intro a hS
  refine L_op (s_e hS (e_extract rfl rfl) rfl ?_); clear hS a; intro a hS
  refine L_op (s_e hS (e_assign rfl) rfl ?_); clear hS a; intro a hS
  refine L_op (s_e hS (e_assign rfl) rfl ?_); clear hS a; intro a hS
  refine L_nil ?_
  refine n_then ?_
  refine c_seq ?_
  refine c_seq ?_
  refine c_region ?_
  refine L_op (s_e hS (e_move rfl) rfl ?_); clear hS a; intro a hS
  refine L_op (s_e hS (e_bin rfl rfl rfl) rfl ?_); clear hS a; intro a hS
  refine L_op (s_e hS (e_move rfl) rfl ?_); clear hS a; intro a hS
  refine L_merge 3 27 (.bool (decide ((intE s.1).2 ≠ 0 ∨ (intE s.2).2 ≠ 0))) hS ?_ ?_
  · intro hcM27
    (first | refine g_splitD (t := 24) hS rfl ?_ ?_ | refine g_split (t := 24) hS rfl ?_ ?_) <;> (clear hS; intro hg24 hS)
    ·
      refine L_skip_f hS rfl rfl rfl ?_; clear hS a; intro a hS
      refine L_skip_f hS rfl rfl rfl ?_; clear hS a; intro a hS
      first | (refine L_op (s_e hS (e_pick_t rfl rfl) rfl ?_); clear hS a; intro a hS) | (refine L_op (s_e hS (e_pick_f rfl rfl) rfl ?_); clear hS a; intro a hS)
      exact hcM27 _ _ (hS.ends 4 27 24 rfl (congrArg Value.bool (by first | rfl | (simp [hg24]; done) | (simp [hg24]; omega) | grind)) rfl rfl (by first | exact congrArg Value.bool (decide_eq_true hg24).symm | exact congrArg Value.bool hg24.symm | simp [hg24]) rfl)
    ·
      refine L_go hS rfl rfl (s_e hS (e_move rfl) rfl ?_); clear hS a; intro a hS
      refine L_go hS rfl rfl (s_e hS (e_bin rfl rfl rfl) rfl ?_); clear hS a; intro a hS
      first | (refine L_op (s_e hS (e_pick_t rfl rfl) rfl ?_); clear hS a; intro a hS) | (refine L_op (s_e hS (e_pick_f rfl rfl) rfl ?_); clear hS a; intro a hS)
      exact hcM27 _ _ (hS.ends 4 27 24 rfl (congrArg Value.bool (by first | rfl | (simp [hg24]; done) | (simp [hg24]; omega) | grind)) rfl rfl (by first | exact congrArg Value.bool (decide_eq_false hg24).symm | exact congrArg Value.bool hg24.symm | simp [hg24]) rfl)
  · clear hS a; (try clear w); intro a w hS
    simp only [List.drop_succ_cons, List.drop_zero]
    refine L_op (s_e hS (e_move rfl) rfl ?_); clear hS a; intro a hS
    refine L_merge 4 32 (.bool (decide (((intE s.1).2 ≠ 0 ∨ (intE s.2).2 ≠ 0) ∨ ¬ inU (intE s.1).1))) hS ?_ ?_
    · intro hcM32
      (first | refine g_splitD (t := 28) hS rfl ?_ ?_ | refine g_split (t := 28) hS rfl ?_ ?_) <;> (clear hS; intro hg28 hS)
      ·
        refine L_skip_f hS rfl rfl rfl ?_; clear hS a; intro a hS
        refine L_skip_f hS rfl rfl rfl ?_; clear hS a; intro a hS
        refine L_skip_f hS rfl rfl rfl ?_; clear hS a; intro a hS
        first | (refine L_op (s_e hS (e_pick_t rfl rfl) rfl ?_); clear hS a; intro a hS) | (refine L_op (s_e hS (e_pick_f rfl rfl) rfl ?_); clear hS a; intro a hS)
        exact hcM32 _ _ (hS.ends 5 32 28 rfl (congrArg Value.bool (by exact (decide_eq_true (.inl hg28)).symm)) rfl rfl (by first | exact congrArg Value.bool (decide_eq_true hg28).symm | exact congrArg Value.bool hg28.symm | simp [hg28]) rfl)
      ·
        refine L_go hS rfl rfl (s_e hS (e_move rfl) rfl ?_); clear hS a; intro a hS
        refine L_go hS rfl rfl (s_callP hS (.cons rfl .nil) cf98 rfl (lwithin_P (intE s.1).1 _) ?_); clear hS a; (try clear w); intro a w hS
        refine L_go hS rfl rfl (s_e hS (e_not rfl) rfl ?_); clear hS a; intro a hS
        first | (refine L_op (s_e hS (e_pick_t rfl rfl) rfl ?_); clear hS a; intro a hS) | (refine L_op (s_e hS (e_pick_f rfl rfl) rfl ?_); clear hS a; intro a hS)
        exact hcM32 _ _ (hS.ends 5 32 28 rfl (congrArg Value.bool (by rw [← decide_not, decide_eq_decide]; exact ⟨.inr, fun h => h.resolve_left hg28⟩)) rfl rfl (by first | exact congrArg Value.bool (decide_eq_false hg28).symm | exact congrArg Value.bool hg28.symm | simp [hg28]) rfl)
    · clear hS a; (try clear w); intro a w hS
      simp only [List.drop_succ_cons, List.drop_zero]
      refine L_op (s_e hS (e_move rfl) rfl ?_); clear hS a; intro a hS
      refine L_merge 4 37 (.bool (decide ((((intE s.1).2 ≠ 0 ∨ (intE s.2).2 ≠ 0) ∨ ¬ inU (intE s.1).1) ∨ ¬ inU (intE s.2).1))) hS ?_ ?_
      · intro hcM37
        (first | refine g_splitD (t := 33) hS rfl ?_ ?_ | refine g_split (t := 33) hS rfl ?_ ?_) <;> (clear hS; intro hg33 hS)
        ·
          refine L_skip_f hS rfl rfl rfl ?_; clear hS a; intro a hS
          refine L_skip_f hS rfl rfl rfl ?_; clear hS a; intro a hS
          refine L_skip_f hS rfl rfl rfl ?_; clear hS a; intro a hS
          first | (refine L_op (s_e hS (e_pick_t rfl rfl) rfl ?_); clear hS a; intro a hS) | (refine L_op (s_e hS (e_pick_f rfl rfl) rfl ?_); clear hS a; intro a hS)
          exact hcM37 _ _ (hS.ends 5 37 33 rfl (congrArg Value.bool (by exact (decide_eq_true (.inl hg33)).symm)) rfl rfl (by first | exact congrArg Value.bool (decide_eq_true hg33).symm | exact congrArg Value.bool hg33.symm | simp [hg33]) rfl)
        ·
          refine L_go hS rfl rfl (s_e hS (e_move rfl) rfl ?_); clear hS a; intro a hS
          refine L_go hS rfl rfl (s_callP hS (.cons rfl .nil) cf98 rfl (lwithin_P (intE s.2).1 _) ?_); clear hS a; (try clear w); intro a w hS
          refine L_go hS rfl rfl (s_e hS (e_not rfl) rfl ?_); clear hS a; intro a hS
          first | (refine L_op (s_e hS (e_pick_t rfl rfl) rfl ?_); clear hS a; intro a hS) | (refine L_op (s_e hS (e_pick_f rfl rfl) rfl ?_); clear hS a; intro a hS)
          exact hcM37 _ _ (hS.ends 5 37 33 rfl (congrArg Value.bool (by rw [← decide_not, decide_eq_decide]; exact ⟨.inr, fun h => h.resolve_left hg33⟩)) rfl rfl (by first | exact congrArg Value.bool (decide_eq_false hg33).symm | exact congrArg Value.bool hg33.symm | simp [hg33]) rfl)
      · clear hS a; (try clear w); intro a w hS
        simp only [List.drop_succ_cons, List.drop_zero]
        refine L_nil ?_
        refine n_then ?_
        first | refine c_ifD hS rfl (fun hc37 => ?_) (fun hc37 => ?_) | refine c_if hS rfl (fun hc37 => ?_) (fun hc37 => ?_)
        ·
          refine c_seq ?_
          refine c_region ?_
          refine L_op (s_e hS (e_move rfl) rfl ?_); clear hS a; intro a hS
          refine L_op (s_e hS (e_build ty_z60 ty_pl60 (.one rfl rfl rfl (by repeat constructor) .nil)) rfl ?_); clear hS a; intro a hS
          refine L_op (s_storeA hS rfl rfl ty_sz60 (by repeat constructor) (by rfl) (by rfl) (by rfl) ?_); clear hS; (try clear w); intro w hS
          refine L_op (s_e hS (e_assign rfl) rfl ?_); clear hS a; intro a hS
          refine L_nil ?_
          refine n_then ?_
          refine wp_ret ?_
          refine r_then ?_
          refine c_retN hS Try.results71 (.cons (.cellA rfl (by repeat constructor) ty_st60 ty_sz60 (by rfl)) (.cons (.tmp rfl) .nil)) rfl ?_
          have hno : ¬ (inU s.1 ∧ inU s.2) := fun ⟨h1, h2⟩ => by
            rw [int_in h1, int_in h2] at hc37
            rcases hc37 with ((h | h) | h) | h
            · exact h rfl
            · exact h rfl
            · exact h h1
            · exact h h2
          exact ⟨by rw [show balV s = (0, 0) from if_neg hno, decide_eq_false hno], hS.chg⟩
        ·
          refine wp_skip ?_
          refine n_then ?_
          refine c_seq ?_
          refine c_region ?_
          refine L_op (s_e hS (e_move rfl) rfl ?_); clear hS a; intro a hS
          refine L_op (s_e hS (e_move rfl) rfl ?_); clear hS a; intro a hS
          refine L_op (s_e hS (e_move rfl) rfl ?_); clear hS a; intro a hS
          refine L_op (s_e hS (e_build ty_z60 ty_pl60 (.one rfl rfl rfl (by repeat constructor) (.one rfl rfl rfl (by repeat constructor) (.one rfl rfl rfl (by repeat constructor) .nil)))) rfl ?_); clear hS a; intro a hS
          refine L_op (s_storeA hS rfl rfl ty_sz60 (by repeat constructor) (by rfl) (by rfl) (by rfl) ?_); clear hS; (try clear w); intro w hS
          refine L_op (s_e hS (e_assign rfl) rfl ?_); clear hS a; intro a hS
          refine L_nil ?_
          refine n_then ?_
          refine wp_ret ?_
          refine c_retN hS Try.results71 (.cons (.cellA rfl (by repeat constructor) ty_st60 ty_sz60 (by rfl)) (.cons (.tmp rfl) .nil)) rfl ?_
          have h1 : (intE s.1).2 = 0 := Classical.byContradiction fun h => hc37 (.inl (.inl (.inl h)))
          have h2 : (intE s.2).2 = 0 := Classical.byContradiction fun h => hc37 (.inl (.inl (.inr h)))
          have h3 : inU (intE s.1).1 := Classical.byContradiction fun h => hc37 (.inl (.inr h))
          have h4 : inU (intE s.2).1 := Classical.byContradiction fun h => hc37 (.inr h)
          have hyes : inU s.1 ∧ inU s.2 := ⟨hA _ h1 h3, hA _ h2 h4⟩
          exact ⟨by rw [show balV s = s from if_pos hyes, decide_eq_true hyes, int_in hyes.1, int_in hyes.2], hS.chg⟩
end Go.Proofs.Ytheofhegdjjfgaa

namespace Go.Proofs.Ytheofhegdjjfgaa
open Go.RowKit

theorem owns_keepL {w w' : World} {E s : Nat} {v : Value} {m : Nat} {xs : List Value} (h : w.ownsRow 0 E s v m xs) (hw : ∀ b, v.ownBlock = some b → w'.heap[b]? = w.heap[b]?) : w'.ownsRow 0 E s v m xs :=
  (ok_own h).hold w' hw
theorem row_objL {w : World} {E s : Nat} {v : Value} {m : Nat} {xs : List Value} (h : w.ownsRow 0 E s v m xs) {g : Nat} (hg : v.ownBlock = some g) : ∃ cs, w.heap[g]? = some (.cells cs E (0, 0)) := by
  rcases h.2 with ⟨rfl, _⟩ | ⟨g', cap, cur, rfl, _, e2, _⟩
  · cases hg
  · simp [Value.ownBlock] at hg; subst hg; exact ⟨_, e2⟩

/-! ### maps made of a list -/
theorem idxM_map {α : Type} (key : α → ByteArray) (val : α → Value) (k : ByteArray) : ∀ (l : List α) (m : Nat), (idxM (l.map fun x => (key x, val x)) k m).map (·.2) = (l.find? fun x => decide (key x = k)).map val
  | [], _ => rfl
  | a :: r, m => by
    rw [List.map_cons, idxM, List.find?_cons]
    by_cases e : key a = k
    · simp [e]
    · rw [if_neg e, idxM_map key val k r (m + 1)]; simp [e]
theorem lkM_map {α : Type} (key : α → ByteArray) (val : α → Value) (k : ByteArray) (l : List α) (z : Value) : lkM (l.map fun x => (key x, val x)) k z = ((l.find? fun x => decide (key x = k)).map val).getD z := by
  have h := idxM_map key val k l 0
  unfold lkM
  rw [← h]
  cases idxM (l.map fun x => (key x, val x)) k 0 <;> rfl
theorem hasM_map {α : Type} (key : α → ByteArray) (val : α → Value) (k : ByteArray) (l : List α) : hasM (l.map fun x => (key x, val x)) k = (l.find? fun x => decide (key x = k)).isSome := by
  have h := idxM_map key val k l 0
  unfold hasM
  have h2 := congrArg Option.isSome h
  simpa using h2
theorem setM_new {l : List (ByteArray × Value)} {k : ByteArray} (v : Value) (h : hasM l k = false) : setM l k v = l ++ [(k, v)] := by
  unfold hasM at h
  exact setM_none (m := 0) v (by cases e : idxM l k 0 with | none => rfl | some p => rw [e] at h; cases h)

structure Acc where
  code : ByteArray
  cur : ByteArray
  kind : Int
  mon : Bool
def encAc (a : Acc) : List Value := [.string a.code, .string a.cur, .int .i64 a.kind, .bool a.mon]
structure Ent where
  id : Int
  at_ : Int
  memo : ByteArray
  ps : List Pst
structure EA where
  v : Ent
  b : Nat
  c : Nat
def psV (x : EA) : Value := .slice (some ⟨x.b, 0, none⟩) x.v.ps.length x.c
def encE (x : EA) : List Value := [.int .i64 x.v.id, .int .i64 x.v.at_, .string x.v.memo, psV x]
def psOk (x : EA) (w : World) : Prop := w.ownsRow 0 63 3 (psV x) x.v.ps.length (x.v.ps.flatMap encP)
def entAc (acs : List Acc) : List (ByteArray × Value) := acs.map fun a => (a.code, .agg (encAc a).toArray)
def entSm (tot : List (ByteArray × SM)) : List (ByteArray × Value) := tot.map fun t => (t.1, .agg (encSm t.2).toArray)
def noAcc : Acc := ⟨⟨#[]⟩, ⟨#[]⟩, 0, false⟩
def findA (acs : List Acc) (c : ByteArray) : Option Acc := acs.find? fun a => decide (a.code = c)
def accOf (acs : List Acc) (c : ByteArray) : Acc := (findA acs c).getD noAcc
def totOf (tot : List (ByteArray × SM)) (c : ByteArray) : SM := ((tot.find? fun t => decide (t.1 = c)).map (·.2)).getD (0, 0)
def putT : List (ByteArray × SM) → ByteArray → SM → List (ByteArray × SM)
  | [], c, s => [(c, s)]
  | (k, u) :: l, c, s => if k = c then (c, s) :: l else (k, u) :: putT l c s
theorem putT_set (c : ByteArray) (s : SM) : ∀ tot, setM (entSm tot) c (.agg (encSm s).toArray) = entSm (putT tot c s)
  | [] => rfl
  | (k, u) :: l => by
    show (if k = c then _ else _) = _
    unfold putT
    by_cases e : k = c
    · rw [if_pos e, if_pos e]; rfl
    · rw [if_neg e, if_neg e]
      show _ :: setM (entSm l) c _ = _
      rw [putT_set c s l]; rfl
theorem totOf_put (c d : ByteArray) (s : SM) : ∀ tot, totOf (putT tot c s) d = if c = d then s else totOf tot d
  | [] => by
    unfold putT totOf
    by_cases e : c = d
    · simp [e]
    · simp [e]
  | (k, u) :: l => by
    have ih := totOf_put c d s l
    unfold putT
    unfold totOf at ih ⊢
    by_cases e : k = c
    · rw [if_pos e]
      by_cases e2 : c = d
      · simp [e2]
      · simp [e2, e]
    · rw [if_neg e, List.find?_cons]
      by_cases e2 : k = d
      · have : ¬ c = d := fun h => e (e2.trans h.symm)
        simp [e2, this]
      · simp only [e2, decide_false]
        rw [ih]
        rw [List.find?_cons]
        simp [e2]
theorem lk_acc (acs : List Acc) (c : ByteArray) : lkM (entAc acs) c (.agg #[.string ⟨#[]⟩, .string ⟨#[]⟩, .int .i64 0, .bool false]) = .agg (encAc (accOf acs c)).toArray := by
  unfold entAc
  rw [lkM_map (fun a : Acc => a.code) (fun a => .agg (encAc a).toArray)]
  unfold accOf findA
  cases acs.find? fun a => decide (a.code = c) <;> rfl
theorem has_acc (acs : List Acc) (c : ByteArray) : hasM (entAc acs) c = (findA acs c).isSome := hasM_map (fun a : Acc => a.code) (fun a => .agg (encAc a).toArray) c acs
theorem lk_tot (tot : List (ByteArray × SM)) (c : ByteArray) : lkM (entSm tot) c (.agg #[.int .u64 0, .int .u64 0, .int .u64 0, .int .u64 0]) = .agg (encSm (totOf tot c)).toArray := by
  unfold entSm
  rw [lkM_map (fun t : ByteArray × SM => t.1) (fun t => .agg (encSm t.2).toArray)]
  unfold totOf
  cases tot.find? fun t => decide (t.1 = c) with
  | none => simp only [Option.map_none, Option.getD_none]; rw [encSm_zero]
  | some t => rfl

/-- a ledger's blocks, and what lies in them. -/
structure LB where
  lb : Nat
  ma : Nat
  ml : Nat
structure LS where
  cur : ByteArray
  acs : List Acc
  es : List EA
  tot : List (ByteArray × SM)
  closed : Int
  sv : Value
def ledC (B : LB) (s : LS) : List Value := [.string s.cur, .map (some B.ma), s.sv, .map (some B.ml), .int .i64 s.closed]
def rowE (s : LS) : Asn := ownA 58 4 s.sv s.es.length (s.es.flatMap encE)
def psAll (es : List EA) : Asn := .any (fun k => ∃ x ∈ es, k = x.b) (fun w => ∀ x ∈ es, psOk x w) true
structure ledφ (B : LB) (s : LS) (w : World) : Prop where
  bk : w.heap[B.lb]? = some (.cells (ledC B s).toArray 129 (0, 0))
  am : w.heap[B.ma]? = some (.map (mkM 0 (entAc s.acs)).toArray (entAc s.acs).length)
  tm : w.heap[B.ml]? = some (.map (mkM 0 (entSm s.tot)).toArray (entSm s.tot).length)
  row : w.ownsRow 0 58 4 s.sv s.es.length (s.es.flatMap encE)
  ps : ∀ x ∈ s.es, psOk x w
  ne : B.ma ≠ B.ml
def ledF (B : LB) (s : LS) (k : Nat) : Prop := k = B.lb ∨ k = B.ma ∨ k = B.ml ∨ s.sv.ownBlock = some k ∨ ∃ x ∈ s.es, k = x.b
def ledA (B : LB) (s : LS) (m : Bool) : Asn := .any (ledF B s) (ledφ B s) m
theorem psOk.own {x : EA} {w : World} (h : psOk x w) : x.b < w.heap.size := (World.ownsRow.lt h x.b rfl).2
theorem psOk.keep {x : EA} {w w' : World} (h : psOk x w) (hw : w'.heap[x.b]? = w.heap[x.b]?) : psOk x w' := owns_keepL h (fun b hb => by
  simp [psV, Value.ownBlock] at hb; subst hb; exact hw)
theorem ps_ok {es : List EA} {w : World} (h : ∀ x ∈ es, psOk x w) : (psAll es).ok w :=
  ⟨fun b hb => by obtain ⟨x, hx, rfl⟩ := hb; exact (h x hx).own, fun w' hw x hx => (h x hx).keep (hw x.b ⟨x, hx, rfl⟩)⟩
theorem led_ok {B : LB} {s : LS} {w : World} (m : Bool) (h : ledφ B s w) : (ledA B s m).ok w := by
  refine ⟨fun b hb => ?_, fun w' hw => ⟨?_, ?_, ?_, owns_keepL h.row (fun b hb => hw b (.inr (.inr (.inr (.inl hb))))), fun x hx => (h.ps x hx).keep (hw x.b (.inr (.inr (.inr (.inr ⟨x, hx, rfl⟩))))), h.ne⟩⟩
  · rcases hb with rfl | rfl | rfl | hb | ⟨x, hx, rfl⟩
    · exact (Array.getElem?_eq_some_iff.1 h.bk).1
    · exact (Array.getElem?_eq_some_iff.1 h.am).1
    · exact (Array.getElem?_eq_some_iff.1 h.tm).1
    · exact (World.ownsRow.lt h.row b hb).2
    · exact (h.ps x hx).own
  · rw [hw B.lb (.inl rfl)]; exact h.bk
  · rw [hw B.ma (.inr (.inl rfl))]; exact h.am
  · rw [hw B.ml (.inr (.inr (.inl rfl)))]; exact h.tm
theorem led_okP {B : LB} {s : LS} {w : World} (h : ledφ B s w) : ∀ X ∈ [.blk B.lb (ledC B s) 129, smapA B.ma (entAc s.acs), smapA B.ml (entSm s.tot), rowE s, psAll s.es], X.ok w := by
  have hm : ∀ (b : Nat) (l : List (ByteArray × Value)), w.heap[b]? = some (.map (mkM 0 l).toArray l.length) → (smapA b l).ok w := fun b l hb =>
    ⟨fun k hk => by obtain rfl : k = b := hk; exact (Array.getElem?_eq_some_iff.1 hb).1, fun w' hw => by show w'.heap[b]? = _; rw [hw b rfl]; exact hb⟩
  exact okC (ok_blk h.bk) (okC (hm _ _ h.am) (okC (hm _ _ h.tm) (okC (ok_own h.row) (okC (ps_ok h.ps) okN))))
theorem led_apart {B : LB} {s : LS} {w : World} (h : ledφ B s w) : B.lb ≠ B.ma ∧ B.lb ≠ B.ml ∧ s.sv.ownBlock ≠ some B.lb ∧ s.sv.ownBlock ≠ some B.ma ∧ s.sv.ownBlock ≠ some B.ml ∧ ∀ x ∈ s.es, x.b ≠ B.lb ∧ x.b ≠ B.ma ∧ x.b ≠ B.ml ∧ s.sv.ownBlock ≠ some x.b := by
  have hT1 : (58 : Nat) ≠ 129 := by decide
  have hT2 : (63 : Nat) ≠ 129 := by decide
  have hT3 : (63 : Nat) ≠ 58 := by decide
  refine ⟨fun e => ?_, fun e => ?_, fun e => ?_, fun e => ?_, fun e => ?_, fun x hx => ?_⟩
  · have h1 := h.bk; rw [e, h.am] at h1; cases h1
  · have h1 := h.bk; rw [e, h.tm] at h1; cases h1
  · obtain ⟨cs, h1⟩ := row_objL h.row e
    rw [h.bk] at h1; injection h1 with h1; injection h1 with _ h2 _; exact hT1 h2.symm
  · obtain ⟨cs, h1⟩ := row_objL h.row e
    rw [h.am] at h1; cases h1
  · obtain ⟨cs, h1⟩ := row_objL h.row e
    rw [h.tm] at h1; cases h1
  · obtain ⟨cs, h1⟩ := row_objL (h.ps x hx) (g := x.b) rfl
    refine ⟨fun e => ?_, fun e => ?_, fun e => ?_, fun e => ?_⟩
    · rw [e, h.bk] at h1; injection h1 with h1; injection h1 with _ h2 _; exact hT2 h2.symm
    · rw [e, h.am] at h1; cases h1
    · rw [e, h.tm] at h1; cases h1
    · obtain ⟨cs2, h2⟩ := row_objL h.row e
      rw [h1] at h2; injection h2 with h2; injection h2 with _ h3 _; exact hT3 h3
theorem led_dis {B : LB} {s : LS} {w : World} (h : ledφ B s w) : [.blk B.lb (ledC B s) 129, smapA B.ma (entAc s.acs), smapA B.ml (entSm s.tot), rowE s, psAll s.es].Pairwise (fun X Y => ∀ b, X.F b → ¬ Y.F b) := by
  obtain ⟨a1, a2, a3, a4, a5, a6⟩ := led_apart h
  have hb : ∀ {b c : Nat} {cs : List Value} {E : Nat}, (Asn.blk c cs E).F b → b = c := fun h => h
  have hm : ∀ {b c : Nat} {l : List (ByteArray × Value)}, (smapA c l).F b → b = c := fun h => h
  have hr : ∀ {b : Nat}, (rowE s).F b → s.sv.ownBlock = some b := fun h => h
  have hp : ∀ {b : Nat}, (psAll s.es).F b → ∃ x ∈ s.es, b = x.b := fun h => h
  exact disC (sepC (fun b h1 h2 => a1 ((hb h1).symm.trans (hm h2))) (sepC (fun b h1 h2 => a2 ((hb h1).symm.trans (hm h2))) (sepC (fun b h1 h2 => a3 (by rw [← hb h1]; exact hr h2)) (sepC (fun b h1 h2 => by obtain ⟨x, hx, e⟩ := hp h2; exact (a6 x hx).1 (e.symm.trans (hb h1))) sepN))))
    (disC (sepC (fun b h1 h2 => h.ne ((hm h1).symm.trans (hm h2))) (sepC (fun b h1 h2 => a4 (by rw [← hm h1]; exact hr h2)) (sepC (fun b h1 h2 => by obtain ⟨x, hx, e⟩ := hp h2; exact (a6 x hx).2.1 (e.symm.trans (hm h1))) sepN)))
    (disC (sepC (fun b h1 h2 => a5 (by rw [← hm h1]; exact hr h2)) (sepC (fun b h1 h2 => by obtain ⟨x, hx, e⟩ := hp h2; exact (a6 x hx).2.2.1 (e.symm.trans (hm h1))) sepN))
    (disC (sepC (fun b h1 h2 => by obtain ⟨x, hx, e⟩ := hp h2; exact (a6 x hx).2.2.2 (by rw [← e]; exact hr h1)) sepN) dis1)))
theorem led_mine {B : LB} {s : LS} {w : World} : ∀ X ∈ [.blk B.lb (ledC B s) 129, smapA B.ma (entAc s.acs), smapA B.ml (entSm s.tot), rowE s, psAll s.es], X.mine = true → ∀ b, X.F b → w.heap.size ≤ b ∨ ledF B s b :=
  mineO (fun _ hb => .inl hb) (mineO (fun _ hb => .inr (.inl hb)) (mineO (fun _ hb => .inr (.inr (.inl hb))) (mineO (fun _ hb => .inr (.inr (.inr (.inl hb)))) (mineO (fun _ hb => .inr (.inr (.inr (.inr hb)))) mineN))))
/-- the parts put together again. -/
theorem led_end {n : Nat} {w0 w : World} {a : Act} {L : List (Nat × Value)} {Γ : List Asn} {B : LB} {s s' : LS} (hS : St n (ledF B s) w0 a w L Γ) (h1 : .blk B.lb (ledC B s') 129 ∈ Γ) (h2 : smapA B.ma (entAc s'.acs) ∈ Γ) (h3 : smapA B.ml (entSm s'.tot) ∈ Γ) (h4 : rowE s' ∈ Γ) (h5 : psAll s'.es ∈ Γ) (hne : B.ma ≠ B.ml) :
    (ledA B s' true).ok w ∧ ∀ b, (ledA B s' true).F b → (ledA B s true).F b ∨ w0.heap.size ≤ b := by
  refine ⟨led_ok true ⟨hS.get h1, hS.get h2, hS.get h3, hS.get h4, hS.get h5, hne⟩, fun b hb => ?_⟩
  rcases hb with hb | hb | hb | hb | hb
  · exact (hS.mine _ h1 rfl b hb).symm
  · exact (hS.mine _ h2 rfl b hb).symm
  · exact (hS.mine _ h3 rfl b hb).symm
  · exact (hS.mine _ h4 rfl b hb).symm
  · exact (hS.mine _ h5 rfl b hb).symm
def newL (cur : ByteArray) : LS := ⟨cur, [], [], [], -1, .slice none 0 0⟩
set_option maxRecDepth 100000 in
theorem lNew_P (c : ByteArray) (w0 : World) (hc : (scaleR c).2 = 0) : NewC Try.prog 61 [.string c] w0 (fun B : LB => .tuple [.pointer (some ⟨B.lb, 0, none⟩), .int .i64 0].toArray) (fun B => ledA B (newL c) true) := by
  refine c_enter [(0, .string c)] [] noB Try.func61 rfl Try.ntmps61 ⟨rfl, trivial⟩ rfl (by simp) (by simp) (by simp) ?_
  intro a hS
  refine c_seq ?_
  refine c_region ?_
  refine L_op (s_e hS (e_assign rfl) rfl ?_); clear hS a; intro a hS
  refine L_op (s_e hS (e_assign rfl) rfl ?_); clear hS a; intro a hS
  refine L_nil ?_
  refine n_then ?_
  refine c_seq ?_
  refine c_seq ?_
  refine c_region ?_
  refine L_op (s_e hS (e_move rfl) rfl ?_); clear hS a; intro a hS
  refine L_op (s_callP hS (.cons rfl .nil) cf79 rfl (Scale_P c _) ?_); clear hS a; (try clear w); intro a w hS
  refine L_op (s_e hS (e_move rfl) rfl ?_); clear hS a; intro a hS
  refine L_op (s_e hS (e_extract rfl rfl) rfl ?_); clear hS a; intro a hS
  refine L_op (s_e hS (e_extract rfl rfl) rfl ?_); clear hS a; intro a hS
  refine L_op (s_e hS (e_assign rfl) rfl ?_); clear hS a; intro a hS
  refine L_op (s_e hS (e_assign rfl) rfl ?_); clear hS a; intro a hS
  refine L_nil ?_
  refine n_then ?_
  refine c_seq ?_
  refine c_region ?_
  refine L_op (s_e hS (e_move rfl) rfl ?_); clear hS a; intro a hS
  refine L_op (s_e hS (e_bin rfl rfl rfl) rfl ?_); clear hS a; intro a hS
  refine L_nil ?_
  refine n_then ?_
  replace hS := hS.is (t := 12) (c := false) rfl ((decide_eq_false (by rw [hc]; decide)))
  refine c_if_f hS rfl ?_
  refine wp_skip ?_
  refine n_then ?_
  refine c_seq ?_
  refine c_region ?_
  refine L_op (s_e hS (e_move rfl) rfl ?_); clear hS a; intro a hS
  refine L_op (s_makeMapS hS rfl ?_); clear hS a; (try clear w); intro a w b15 hS
  refine L_op (s_makeMapS hS rfl ?_); clear hS a; (try clear w); intro a w b16 hS
  refine L_op (s_e hS (e_build ty_z129 ty_pl129 (.one rfl rfl rfl (by repeat constructor) (.one rfl rfl rfl (by repeat constructor) (.one rfl rfl rfl (by repeat constructor) (.one rfl rfl rfl (by repeat constructor) .nil))))) rfl ?_); clear hS a; intro a hS
  refine L_op (s_boxA hS rfl rfl ?_); clear hS a; (try clear w); intro a w b18 hS
  refine L_op (s_e hS (e_assign rfl) rfl ?_); clear hS a; intro a hS
  refine L_op (s_e hS (e_assign rfl) rfl ?_); clear hS a; intro a hS
  refine L_nil ?_
  refine n_then ?_
  refine wp_ret ?_
  refine c_retN hS Try.results61 (.cons (.tmp rfl) (.cons (.tmp rfl) .nil)) rfl ?_
  have hne : b15 ≠ b16 := fun e => hS.sep (X := smapA b16 []) (Y := smapA b15 []) (by repeat (first | exact Rem.head | apply Rem.tail)) (by repeat constructor) b16 rfl e.symm
  refine ⟨⟨b18, b15, b16⟩, rfl, hS.chg, led_ok (B := ⟨b18, b15, b16⟩) (s := newL c) true ⟨hS.get (X := .blk b18 _ _) (by repeat constructor), hS.get (X := smapA b15 []) (by repeat constructor), hS.get (X := smapA b16 []) (by repeat constructor), World.ownsRow_nil _ _ _ _, fun x hx => (by cases hx), hne⟩, fun b hb => ?_⟩
  rcases hb with hb | hb | hb | hb | ⟨x, hx, _⟩
  · rw [hb]; exact (hS.new (X := .blk b18 _ _) (by repeat constructor) rfl).2 _ rfl
  · rw [hb]; exact (hS.new (X := smapA b15 []) (by repeat constructor) rfl).2 _ rfl
  · rw [hb]; exact (hS.new (X := smapA b16 []) (by repeat constructor) rfl).2 _ rfl
  · cases hb
  · cases hx
theorem led_cell {B : LB} {s : LS} {m : Bool} {Γ : List Asn} (hm : ledA B s m ∈ Γ) {k : Nat} {v : Value} (hv : (ledC B s)[k]? = some v) : ∀ w, Hd Γ w → w.cell? ⟨B.lb, k, none⟩ = some v := fun _ hh => cell_of_blk (hh _ hm).bk hv
set_option maxRecDepth 100000 in
theorem lClosed_P (B : LB) (s : LS) (w0 : World) (h : ledφ B s w0) : PureC Try.prog 43 [.pointer (some ⟨B.lb, 0, none⟩)] w0 (.int .i64 s.closed) := by
  refine c_enter [(0, .pointer (some ⟨B.lb, 0, none⟩))] [ledA B s false] noB Try.func43 rfl Try.ntmps43 ⟨rfl, trivial⟩ rfl (okC (led_ok false h) okN) dis1 (mineC (by rfl) mineN) ?_
  intro a hS
  refine c_seq ?_
  refine c_region ?_
  refine L_op (s_e hS (e_assign rfl) rfl ?_); clear hS a; intro a hS
  refine L_nil ?_
  refine n_then ?_
  refine c_seq ?_
  refine c_region ?_
  refine L_op (s_e hS (e_move rfl) rfl ?_); clear hS a; intro a hS
  refine L_op (s_e hS (e_nilCheck rfl) rfl ?_); clear hS a; intro a hS
  first | (refine L_op (s_e hS (e_fa0 rfl ty_fo129_4) rfl ?_); clear hS a; intro a hS) | (refine L_op (s_e hS (e_faK rfl ty_fo129_4) rfl ?_); clear hS a; intro a hS)
  refine L_op (s_e hS (e_loadC rfl ty_sc3 (led_cell (by repeat constructor) (k := 4) rfl)) rfl ?_); clear hS a; intro a hS
  refine L_op (s_e hS (e_assign rfl) rfl ?_); clear hS a; intro a hS
  refine L_nil ?_
  refine n_then ?_
  refine wp_ret ?_
  refine c_ret1 hS Try.results43 (.tmp rfl) ?_
  exact ⟨rfl, hS.chg⟩
set_option maxRecDepth 100000 in
theorem lLen_P (B : LB) (s : LS) (w0 : World) (h : ledφ B s w0) : PureC Try.prog 34 [.pointer (some ⟨B.lb, 0, none⟩)] w0 (.int .i64 (s.es.length : Int)) := by
  obtain ⟨q, c, hsv⟩ := own_slice h.row
  refine c_enter [(0, .pointer (some ⟨B.lb, 0, none⟩))] [ledA B s false] noB Try.func34 rfl Try.ntmps34 ⟨rfl, trivial⟩ rfl (okC (led_ok false h) okN) dis1 (mineC (by rfl) mineN) ?_
  intro a hS
  refine c_seq ?_
  refine c_region ?_
  refine L_op (s_e hS (e_assign rfl) rfl ?_); clear hS a; intro a hS
  refine L_nil ?_
  refine n_then ?_
  refine c_seq ?_
  refine c_region ?_
  refine L_op (s_e hS (e_move rfl) rfl ?_); clear hS a; intro a hS
  refine L_op (s_e hS (e_nilCheck rfl) rfl ?_); clear hS a; intro a hS
  first | (refine L_op (s_e hS (e_fa0 rfl ty_fo129_2) rfl ?_); clear hS a; intro a hS) | (refine L_op (s_e hS (e_faK rfl ty_fo129_2) rfl ?_); clear hS a; intro a hS)
  refine L_op (s_e hS (e_loadC rfl ty_sc54 (led_cell (by repeat constructor) (k := 2) rfl)) rfl ?_); clear hS a; intro a hS
  rw [hsv] at hS
  refine L_op (s_e hS (e_len rfl rfl ty_sl54) rfl ?_); clear hS a; intro a hS
  refine L_op (s_e hS (e_assign rfl) rfl ?_); clear hS a; intro a hS
  refine L_nil ?_
  refine n_then ?_
  refine wp_ret ?_
  refine c_ret1 hS Try.results34 (.tmp rfl) ?_
  exact ⟨rfl, hS.chg⟩
def closeE (s : LS) (at_ : Int) : Int := if ¬ inst at_ then 6 else if at_ ≤ s.closed then 34 else 0
def closeL (s : LS) (at_ : Int) : LS := if closeE s at_ = 0 then { s with closed := at_ } else s
set_option maxRecDepth 100000 in
theorem lClose_P (B : LB) (s : LS) (at_ : Int) (w0 : World) (h : ledφ B s w0) :
    MutC Try.prog 45 [.pointer (some ⟨B.lb, 0, none⟩), .int .i64 at_] w0 (ledA B s true) (fun _ : Unit => .int .i64 (closeE s at_)) (fun _ => ledA B (closeL s at_) true) := by
  refine c_enter [(0, .pointer (some ⟨B.lb, 0, none⟩)), (1, .int .i64 at_)] [.blk B.lb (ledC B s) 129, smapA B.ma (entAc s.acs), smapA B.ml (entSm s.tot), rowE s, psAll s.es] (ledF B s) Try.func45 rfl Try.ntmps45 ⟨rfl, rfl, trivial⟩ rfl (led_okP h) (led_dis h) led_mine ?_
  intro a hS
  refine c_seq ?_
  refine c_region ?_
  refine L_op (s_e hS (e_assign rfl) rfl ?_); clear hS a; intro a hS
  refine L_nil ?_
  refine n_then ?_
  refine c_seq ?_
  refine wp_block ?_
  refine c_seq ?_
  refine c_region ?_
  refine L_op (s_e hS (e_move rfl) rfl ?_); clear hS a; intro a hS
  refine L_op (s_callP hS (.cons rfl .nil) cf67 rfl (linst_P at_ _) ?_); clear hS a; (try clear w); intro a w hS
  refine L_op (s_e hS (e_not rfl) rfl ?_); clear hS a; intro a hS
  refine L_op (s_e hS (e_assign rfl) rfl ?_); clear hS a; intro a hS
  refine L_nil ?_
  refine n_then ?_
  first | refine c_ifD hS rfl (fun hc5 => ?_) (fun hc5 => ?_) | refine c_if hS rfl (fun hc5 => ?_) (fun hc5 => ?_)
  ·
    refine c_seq ?_
    refine c_region ?_
    refine L_op (s_e hS (e_assign rfl) rfl ?_); clear hS a; intro a hS
    refine L_nil ?_
    refine n_then ?_
    refine wp_ret ?_
    refine r_block (r_then ?_)
    refine c_ret1 hS Try.results45 (.tmp rfl) ?_
    have hE : closeE s at_ = 6 := if_pos (by simpa using hc5)
    have hL : closeL s at_ = s := if_neg (by rw [hE]; decide)
    rw [hE, hL]
    exact ⟨(), rfl, hS.chg, led_end hS (by repeat constructor) (by repeat constructor) (by repeat constructor) (by repeat constructor) (by repeat constructor) h.ne⟩
  ·
    refine c_seq ?_
    refine c_region ?_
    refine L_op (s_e hS (e_move rfl) rfl ?_); clear hS a; intro a hS
    refine L_op (s_e hS (e_move rfl) rfl ?_); clear hS a; intro a hS
    refine L_op (s_e hS (e_nilCheck rfl) rfl ?_); clear hS a; intro a hS
    first | (refine L_op (s_e hS (e_fa0 rfl ty_fo129_4) rfl ?_); clear hS a; intro a hS) | (refine L_op (s_e hS (e_faK rfl ty_fo129_4) rfl ?_); clear hS a; intro a hS)
    refine L_op (s_e hS (e_load rfl (by repeat constructor) ty_sc3 (by rfl)) rfl ?_); clear hS a; intro a hS
    refine L_op (s_e hS (e_bin rfl rfl rfl) rfl ?_); clear hS a; intro a hS
    refine L_op (s_e hS (e_assign rfl) rfl ?_); clear hS a; intro a hS
    refine L_nil ?_
    refine n_then ?_
    first | refine c_ifD hS rfl (fun hc9 => ?_) (fun hc9 => ?_) | refine c_if hS rfl (fun hc9 => ?_) (fun hc9 => ?_)
    ·
      refine c_seq ?_
      refine c_region ?_
      refine L_op (s_e hS (e_assign rfl) rfl ?_); clear hS a; intro a hS
      refine L_nil ?_
      refine n_then ?_
      refine wp_ret ?_
      refine r_block (r_then ?_)
      refine c_ret1 hS Try.results45 (.tmp rfl) ?_
      have hE : closeE s at_ = 34 := by unfold closeE; rw [if_neg (by simpa using hc5), if_pos hc9]
      have hL : closeL s at_ = s := if_neg (by rw [hE]; decide)
      rw [hE, hL]
      exact ⟨(), rfl, hS.chg, led_end hS (by repeat constructor) (by repeat constructor) (by repeat constructor) (by repeat constructor) (by repeat constructor) h.ne⟩
    ·
      refine wp_skip ?_
      refine n_block ?_
      refine n_then ?_
      refine c_seq ?_
      refine c_region ?_
      refine L_op (s_e hS (e_move rfl) rfl ?_); clear hS a; intro a hS
      refine L_op (s_e hS (e_move rfl) rfl ?_); clear hS a; intro a hS
      refine L_op (s_e hS (e_nilCheck rfl) rfl ?_); clear hS a; intro a hS
      first | (refine L_op (s_e hS (e_fa0 rfl ty_fo129_4) rfl ?_); clear hS a; intro a hS) | (refine L_op (s_e hS (e_faK rfl ty_fo129_4) rfl ?_); clear hS a; intro a hS)
      refine L_op (s_store hS rfl rfl rfl ty_sz3 (by repeat constructor) (by repeat constructor) ?_); clear hS; (try clear w); intro w hS
      refine L_nil ?_
      refine n_then ?_
      refine c_seq ?_
      refine c_region ?_
      refine L_op (s_e hS (e_assign rfl) rfl ?_); clear hS a; intro a hS
      refine L_nil ?_
      refine n_then ?_
      refine wp_ret ?_
      refine c_ret1 hS Try.results45 (.tmp rfl) ?_
      have hE : closeE s at_ = 0 := by unfold closeE; rw [if_neg (by simpa using hc5), if_neg hc9]
      have hL : closeL s at_ = { s with closed := at_ } := if_pos hE
      rw [hE, hL]
      exact ⟨(), rfl, hS.chg, led_end (s' := { s with closed := at_ }) hS (by repeat constructor) (by repeat constructor) (by repeat constructor) (by repeat constructor) (by repeat constructor) h.ne⟩
def openE (s : LS) (a : Acc) : Int :=
  if ¬ ValidN a.code.data.toList then 1 else if (scaleR a.cur).2 ≠ 0 then 18 else if a.kind < 1 ∨ 5 < a.kind then 7 else if (findA s.acs a.code).isSome = true then 3 else if 200 ≤ s.acs.length then 9 else 0
def openL (s : LS) (a : Acc) : LS := if openE s a = 0 then { s with acs := s.acs ++ [a] } else s
end Go.Proofs.Ytheofhegdjjfgaa

namespace Go.Proofs.Ytheofhegdjjfgaa
open Go.RowKit

/-! ### in order: by instant, then by number -/
def ltE (x y : EA) : Prop := x.v.at_ < y.v.at_ ∨ (x.v.at_ = y.v.at_ ∧ x.v.id < y.v.id)
def cmpI (u v : Int) : Int := if u < v then -1 else if v < u then 1 else 0
theorem cmpI_neg {u v : Int} : cmpI u v < 0 ↔ u < v := by unfold cmpI; split <;> (try split) <;> omega
structure IsS (orig S : List EA) : Prop where
  perm : S.Perm orig
  srt : S.Pairwise ltE
theorem IsS.len {o S : List EA} (h : IsS o S) : S.length = o.length := h.perm.length_eq
/-- numbers grow. -/
def Ids (l : List EA) : Prop := l.Pairwise fun x y => x.v.id < y.v.id

section
variable {α : Type}
theorem swap_mid (P R S : List α) (x y : α) (l : List α) (hl : l = P ++ x :: (R ++ y :: S)) :
    l[P.length]? = some x ∧ l[P.length + 1 + R.length]? = some y ∧ (l.set P.length y).set (P.length + 1 + R.length) x = P ++ y :: (R ++ x :: S) := by
  subst hl
  refine ⟨by simp, ?_, ?_⟩
  · rw [List.getElem?_append_right (by omega), show P.length + 1 + R.length - P.length = R.length + 1 from by omega, List.getElem?_cons_succ, List.getElem?_append_right (by omega), Nat.sub_self]; rfl
  · rw [List.set_append_right _ _ (by omega), Nat.sub_self, List.set_cons_zero, List.set_append_right _ _ (by omega), show P.length + 1 + R.length - P.length = R.length + 1 from by omega, List.set_cons_succ, List.set_append_right _ _ (by omega), Nat.sub_self, List.set_cons_zero]
theorem swap_mid2 (P R S : List α) (x y : α) (l : List α) (hl : l = P ++ x :: (R ++ y :: S)) : (l.set (P.length + 1 + R.length) x).set P.length y = P ++ y :: (R ++ x :: S) := by
  rw [List.set_comm _ _ (by omega)]
  exact (swap_mid P R S x y l hl).2.2
/-- two pieces changing places, i elements done. -/
def swapS (A X M Y B : List α) (i : Nat) : List α := A ++ (Y.take i ++ (X.drop i ++ (M ++ (X.take i ++ (Y.drop i ++ B)))))
theorem swapS_zero (A X M Y B : List α) : swapS A X M Y B 0 = A ++ (X ++ (M ++ (Y ++ B))) := by simp [swapS]
theorem swapS_end (A X M Y B : List α) (h : X.length = Y.length) : swapS A X M Y B X.length = A ++ (Y ++ (M ++ (X ++ B))) := by
  unfold swapS
  rw [List.drop_of_length_le (Nat.le_refl X.length), List.take_of_length_le (Nat.le_refl X.length), List.drop_of_length_le (by omega : Y.length ≤ X.length), List.take_of_length_le (by omega : Y.length ≤ X.length)]
  simp
theorem swapS_step (A X M Y B : List α) (h : X.length = Y.length) {i : Nat} {x y : α} (hx : X[i]? = some x) (hy : Y[i]? = some y) :
    (swapS A X M Y B i)[A.length + i]? = some x ∧ (swapS A X M Y B i)[A.length + X.length + M.length + i]? = some y ∧ ((swapS A X M Y B i).set (A.length + i) y).set (A.length + X.length + M.length + i) x = swapS A X M Y B (i + 1) := by
  obtain ⟨h1, h2⟩ := List.getElem?_eq_some_iff.1 hx
  obtain ⟨h3, h4⟩ := List.getElem?_eq_some_iff.1 hy
  have dx : X.drop i = x :: X.drop (i + 1) := by rw [← h2, List.getElem_cons_drop]
  have dy : Y.drop i = y :: Y.drop (i + 1) := by rw [← h4, List.getElem_cons_drop]
  have tx : X.take (i + 1) = X.take i ++ [x] := by rw [List.take_add_one, hx]; rfl
  have ty : Y.take (i + 1) = Y.take i ++ [y] := by rw [List.take_add_one, hy]; rfl
  have e : swapS A X M Y B i = (A ++ Y.take i) ++ x :: ((X.drop (i + 1) ++ (M ++ X.take i)) ++ y :: (Y.drop (i + 1) ++ B)) := by
    unfold swapS; rw [dx, dy]; simp
  have e2 : swapS A X M Y B (i + 1) = (A ++ Y.take i) ++ y :: ((X.drop (i + 1) ++ (M ++ X.take i)) ++ x :: (Y.drop (i + 1) ++ B)) := by
    unfold swapS; rw [tx, ty]; simp
  have l1 : (A ++ Y.take i).length = A.length + i := by simp; omega
  have l2 : (X.drop (i + 1) ++ (M ++ X.take i)).length = X.length - (i + 1) + (M.length + i) := by simp; omega
  have h5 := swap_mid _ _ _ _ _ _ e
  rw [l1, l2, show A.length + i + 1 + (X.length - (i + 1) + (M.length + i)) = A.length + X.length + M.length + i from by omega, ← e2] at h5
  exact h5
end

/-! ### one element brought to its place -/
theorem ltE.le {x y : EA} (h : ltE x y) : x.v.at_ ≤ y.v.at_ := by unfold ltE at h; omega
theorem srt_le {S : List EA} (h : S.Pairwise ltE) {i j : Nat} {x y : EA} (hx : S[i]? = some x) (hy : S[j]? = some y) (hij : i ≤ j) : x.v.at_ ≤ y.v.at_ := by
  obtain ⟨h1, rfl⟩ := List.getElem?_eq_some_iff.1 hx
  obtain ⟨h2, rfl⟩ := List.getElem?_eq_some_iff.1 hy
  by_cases e : i = j
  · subst e; omega
  · exact (List.pairwise_iff_getElem.1 h i j h1 h2 (by omega)).le
theorem mem_take_get {α : Type} {l : List α} {k : Nat} {x : α} (h : x ∈ l.take k) : ∃ i, i < k ∧ l[i]? = some x := by
  obtain ⟨i, hi, rfl⟩ := List.mem_iff_getElem.1 h
  rw [List.length_take] at hi
  exact ⟨i, by omega, by rw [List.getElem_take]; exact List.getElem?_eq_getElem (by omega)⟩
theorem mem_drop_get {α : Type} {l : List α} {k : Nat} {x : α} (h : x ∈ l.drop k) : ∃ i, k ≤ i ∧ l[i]? = some x := by
  obtain ⟨i, hi, rfl⟩ := List.mem_iff_getElem.1 h
  rw [List.length_drop] at hi
  exact ⟨k + i, by omega, by rw [List.getElem_drop]; exact List.getElem?_eq_getElem (by omega)⟩
theorem put_srt {S1 S2 : List EA} {y : EA} (h : (S1 ++ S2).Pairwise ltE) (h1 : ∀ x ∈ S1, ltE x y) (h2 : ∀ x ∈ S2, ltE y x) : (S1 ++ y :: S2).Pairwise ltE := by
  obtain ⟨a1, a2, a3⟩ := List.pairwise_append.1 h
  refine List.pairwise_append.2 ⟨a1, List.pairwise_cons.2 ⟨h2, a2⟩, fun x hx z hz => ?_⟩
  rcases List.mem_cons.1 hz with rfl | hz
  · exact h1 x hx
  · exact a3 x hx z hz
/-- equal instants: the left one's number is the smaller. -/
def Cross (X Y : List EA) : Prop := ∀ x ∈ X, ∀ y ∈ Y, x.v.at_ = y.v.at_ → x.v.id < y.v.id
theorem Cross.lt {X Y : List EA} (h : Cross X Y) {x y : EA} (hx : x ∈ X) (hy : y ∈ Y) (hle : x.v.at_ ≤ y.v.at_) : ltE x y := by
  by_cases e : x.v.at_ = y.v.at_
  · exact .inr ⟨e, h x hx y hy e⟩
  · exact .inl (by omega)
/-- the first of two pieces is one element: it goes behind all that are earlier. -/
theorem one_left {x : EA} {Y : List EA} {k : Nat} (hY : Y.Pairwise ltE) (hc : Cross [x] Y) (_ : k ≤ Y.length) (h1 : ∀ j y, j < k → Y[j]? = some y → y.v.at_ < x.v.at_) (h2 : ∀ j y, k ≤ j → Y[j]? = some y → ¬ y.v.at_ < x.v.at_) : IsS ([x] ++ Y) (Y.take k ++ x :: Y.drop k) := by
  refine ⟨?_, put_srt (by rw [List.take_append_drop]; exact hY) (fun y hy => ?_) (fun y hy => ?_)⟩
  · refine List.perm_middle.trans ?_
    rw [List.take_append_drop]; exact .refl _
  · obtain ⟨i, hi, hg⟩ := mem_take_get hy
    exact .inl (h1 i y hi hg)
  · obtain ⟨i, hi, hg⟩ := mem_drop_get hy
    exact hc.lt (.head _) (List.mem_of_getElem? hg) (by have := h2 i y hi hg; omega)
/-- the second is one element: it goes before all that are later. -/
theorem one_right {y : EA} {X : List EA} {k : Nat} (hX : X.Pairwise ltE) (hc : Cross X [y]) (_ : k ≤ X.length) (h1 : ∀ j x, j < k → X[j]? = some x → ¬ y.v.at_ < x.v.at_) (h2 : ∀ j x, k ≤ j → X[j]? = some x → y.v.at_ < x.v.at_) : IsS (X ++ [y]) (X.take k ++ y :: X.drop k) := by
  refine ⟨?_, put_srt (by rw [List.take_append_drop]; exact hX) (fun x hx => ?_) (fun x hx => ?_)⟩
  · refine List.perm_middle.trans ?_
    rw [List.take_append_drop]
    exact (List.perm_append_comm (l₁ := [y]) (l₂ := X))
  · obtain ⟨i, hi, hg⟩ := mem_take_get hx
    exact hc.lt (List.mem_of_getElem? hg) (.head _) (by have := h1 i x hi hg; omega)
  · obtain ⟨i, hi, hg⟩ := mem_drop_get hx
    exact .inl (h2 i x hi hg)

/-! ### two pieces merged by halves -/
/-- where they are cut: u of the left one, v of the right one go first. -/
structure CutOk (X Y : List EA) (u v : Nat) : Prop where
  hu : u ≤ X.length
  hv : v ≤ Y.length
  lo : ∀ x ∈ X.take u, ∀ y ∈ Y.drop v, x.v.at_ ≤ y.v.at_
  hi : ∀ x ∈ X.drop u, ∀ y ∈ Y.take v, y.v.at_ < x.v.at_
theorem merge_halves {X Y S1 S2 : List EA} {u v : Nat} (hX : X.Pairwise ltE) (hY : Y.Pairwise ltE) (hc : Cross X Y) (hk : CutOk X Y u v) (h1 : IsS (X.take u ++ Y.take v) S1) (h2 : IsS (X.drop u ++ Y.drop v) S2) : IsS (X ++ Y) (S1 ++ S2) := by
  constructor
  · refine (h1.perm.append h2.perm).trans ?_
    rw [List.append_assoc]
    have e : X ++ Y = X.take u ++ (X.drop u ++ (Y.take v ++ Y.drop v)) := by
      rw [List.take_append_drop v Y, ← List.append_assoc, List.take_append_drop]
    rw [e]
    refine List.Perm.append_left _ ?_
    rw [← List.append_assoc, ← List.append_assoc]
    exact List.Perm.append_right _ List.perm_append_comm
  · refine List.pairwise_append.2 ⟨h1.srt, h2.srt, fun a ha b hb => ?_⟩
    have ha := h1.perm.mem_iff.1 ha
    have hb := h2.perm.mem_iff.1 hb
    have mX : ∀ {x}, x ∈ X.take u → x ∈ X := fun h => List.mem_of_mem_take h
    have eX := List.take_append_drop u X
    have eY := List.take_append_drop v Y
    rcases List.mem_append.1 ha with ha | ha <;> rcases List.mem_append.1 hb with hb | hb
    · rw [← eX] at hX; exact (List.pairwise_append.1 hX).2.2 a ha b hb
    · exact hc.lt (List.mem_of_mem_take ha) (List.mem_of_mem_drop hb) (hk.lo a ha b hb)
    · exact .inl (hk.hi b hb a ha)
    · rw [← eY] at hY; exact (List.pairwise_append.1 hY).2.2 a ha b hb
theorem Cross.sub {X Y X' Y' : List EA} (h : Cross X Y) (h1 : ∀ x ∈ X', x ∈ X) (h2 : ∀ y ∈ Y', y ∈ Y) : Cross X' Y' := fun x hx y hy => h x (h1 x hx) y (h2 y hy)

/-! ### a piece sorted one by one -/
structure InsOk (seg : List EA) (u : Nat) (P1 P2 : List EA) (y : EA) : Prop where
  is : IsS (seg.take u) (P1 ++ P2)
  at_ : seg[u]? = some y
  lt : ∀ x ∈ P2, y.v.at_ < x.v.at_
theorem ins_done {seg P1 P2 : List EA} {u : Nat} {y : EA} (hids : Ids seg) (h : InsOk seg u P1 P2 y) (hstop : P1 = [] ∨ ∃ z, P1.getLast? = some z ∧ ¬ y.v.at_ < z.v.at_) : IsS (seg.take (u + 1)) (P1 ++ y :: P2) := by
  obtain ⟨hs, hy, hlt⟩ := h
  have et : seg.take (u + 1) = seg.take u ++ [y] := by rw [List.take_add_one, hy]; rfl
  constructor
  · refine List.perm_middle.trans ?_
    rw [et]
    exact (List.Perm.cons y hs.perm).trans (List.perm_append_comm (l₁ := [y]))
  · refine put_srt hs.srt (fun x hx => ?_) (fun x hx => .inl (hlt x hx))
    have hxle : x.v.at_ ≤ y.v.at_ := by
      rcases hstop with e | ⟨z, hz, hle⟩
      · rw [e] at hx; cases hx
      · have hzx : x.v.at_ ≤ z.v.at_ := by
          have hp := (List.pairwise_append.1 hs.srt).1
          rw [List.getLast?_eq_getElem?] at hz
          obtain ⟨i, hi, rfl⟩ := List.mem_iff_getElem.1 hx
          exact srt_le hp (List.getElem?_eq_getElem hi) hz (by omega)
        omega
    have hxid : x.v.id < y.v.id := by
      have hm : x ∈ seg.take u := hs.perm.mem_iff.1 (List.mem_append.2 (.inl hx))
      obtain ⟨i, hi, hg⟩ := mem_take_get hm
      obtain ⟨h1, rfl⟩ := List.getElem?_eq_some_iff.1 hg
      obtain ⟨h2, rfl⟩ := List.getElem?_eq_some_iff.1 hy
      exact List.pairwise_iff_getElem.1 hids i u h1 h2 hi
    by_cases e : x.v.at_ = y.v.at_
    · exact .inr ⟨e, hxid⟩
    · exact .inl (by omega)
theorem ins_back {seg P1 P2 : List EA} {u : Nat} {y z : EA} (h : InsOk seg u (P1 ++ [z]) P2 y) (hlt : y.v.at_ < z.v.at_) : InsOk seg u P1 (z :: P2) y := by
  obtain ⟨hs, hy, h1⟩ := h
  refine ⟨by simpa using hs, hy, fun x hx => ?_⟩
  rcases List.mem_cons.1 hx with rfl | hx
  · exact hlt
  · exact h1 x hx

/-! ### pieces of one length -/
def blkE (s t : Nat) (l : List EA) : List EA := (l.drop (t * s)).take s
theorem blk_left {s t : Nat} {A R R' : List EA} (h : t * s + s ≤ A.length) : blkE s t (A ++ R) = blkE s t (A ++ R') := by
  unfold blkE
  rw [List.drop_append_of_le_length (by omega), List.drop_append_of_le_length (by omega), List.take_append_of_le_length (by rw [List.length_drop]; omega), List.take_append_of_le_length (by rw [List.length_drop]; omega)]
theorem blk_right {s t : Nat} {A A' R : List EA} (hl : A.length = A'.length) (h : A.length ≤ t * s) : blkE s t (A ++ R) = blkE s t (A' ++ R) := by
  unfold blkE
  have e1 : A.drop (t * s) = [] := List.drop_of_length_le h
  have e2 : A'.drop (t * s) = [] := List.drop_of_length_le (by omega)
  rw [List.drop_append (l₁ := A), List.drop_append (l₁ := A'), e1, e2, hl]
/-- the first T pieces of twice the length are in order, and all of the simple length behind them. -/
structure Half (s T : Nat) (orig zs : List EA) : Prop where
  len : zs.length = orig.length
  two : ∀ t, t < T → IsS (blkE (2 * s) t orig) (blkE (2 * s) t zs)
  one : ∀ t, 2 * T ≤ t → IsS (blkE s t orig) (blkE s t zs)
theorem blk_split (s T : Nat) (l : List EA) : blkE (2 * s) T l = blkE s (2 * T) l ++ blkE s (2 * T + 1) l := by
  unfold blkE
  rw [show (2 * T + 1) * s = 2 * T * s + s from by rw [Nat.add_mul]; omega, ← List.drop_drop, show T * (2 * s) = 2 * T * s from by rw [Nat.mul_comm 2 T, Nat.mul_assoc], show 2 * s = s + s from by omega, List.take_add]
theorem Half.step {s T : Nat} {orig zs zs' A S B : List EA} (h : Half s T orig zs) (hA : A.length = T * (2 * s)) (hz : zs = A ++ (blkE (2 * s) T zs ++ B)) (hz' : zs' = A ++ (S ++ B)) (hB : B.length = 0 ∨ (blkE (2 * s) T zs).length = 2 * s) (hS : IsS (blkE (2 * s) T zs) S) : Half s (T + 1) orig zs' := by
  have hsl := hS.len
  have hzl : zs.length = A.length + ((blkE (2 * s) T zs).length + B.length) := by
    have := congrArg List.length hz
    rw [List.length_append, List.length_append] at this; exact this
  have hlen : zs'.length = zs.length := by rw [hz', List.length_append, List.length_append]; omega
  have hcut : blkE (2 * s) T zs' = S := by
    rw [hz']
    unfold blkE
    rw [← hA, List.drop_left']
    · rcases hB with hb | hb
      · rw [List.eq_nil_of_length_eq_zero hb, List.append_nil]
        exact List.take_of_length_le (by rw [hsl]; unfold blkE; rw [List.length_take]; omega)
      · rw [List.take_left' (by omega)]
    · rfl
  refine ⟨hlen.trans h.len, fun t ht => ?_, fun t ht => ?_⟩
  · by_cases e : t = T
    · subst e
      rw [hcut]
      refine ⟨hS.perm.trans ?_, hS.srt⟩
      rw [blk_split, blk_split]
      exact (h.one (2 * t) (Nat.le_refl _)).perm.append (h.one (2 * t + 1) (by omega)).perm
    · have h1 := h.two t (by omega)
      have h2 : t * (2 * s) + 2 * s ≤ A.length := by
        rw [hA]
        have := Nat.mul_le_mul_right (2 * s) (show t + 1 ≤ T from by omega)
        rw [Nat.add_mul] at this; omega
      rw [hz, blk_left (R' := S ++ B) h2, ← hz'] at h1
      exact h1
  · have h1 := h.one t (by omega)
    rcases hB with hb | hb
    · have hn : orig.length ≤ t * s := by
        have e2 : (blkE (2 * s) T zs).length ≤ 2 * s := by unfold blkE; rw [List.length_take]; omega
        have := Nat.mul_le_mul_right s (show 2 * T + 2 ≤ t from by omega)
        rw [Nat.add_mul, Nat.mul_comm 2 T, Nat.mul_assoc] at this
        have := h.len
        omega
      unfold blkE
      rw [List.drop_of_length_le hn, List.drop_of_length_le (by rw [hlen, h.len]; exact hn)]
      exact ⟨.refl _, by simp⟩
    · have hAl : (A ++ blkE (2 * s) T zs).length ≤ t * s := by
        rw [List.length_append, hb, hA]
        have := Nat.mul_le_mul_right s (show 2 * T + 2 ≤ t from by omega)
        rw [Nat.add_mul, Nat.mul_comm 2 T, Nat.mul_assoc] at this
        omega
      have e3 : zs' = (A ++ S) ++ B := by rw [hz', List.append_assoc]
      have e4 : zs = (A ++ blkE (2 * s) T zs) ++ B := by rw [List.append_assoc]; exact hz
      rw [e4, blk_right (A' := A ++ S) (by rw [List.length_append, List.length_append, hsl]) hAl, ← e3] at h1
      exact h1
/-- a short rest, at most one piece long, is in order already. -/
theorem Half.short {s T : Nat} {orig zs : List EA} (h : Half s T orig zs) (hs : orig.length ≤ T * (2 * s) + s) : Half s (T + 1) orig zs := by
  refine ⟨h.len, fun t ht => ?_, fun t ht => h.one t (by omega)⟩
  by_cases e : t = T
  · subst e
    have e2 : ∀ l : List EA, l.length ≤ t * (2 * s) + s → blkE s (2 * t + 1) l = [] := fun l hl => by
      unfold blkE
      rw [List.drop_of_length_le (by rw [Nat.add_mul, Nat.mul_comm 2 t, Nat.mul_assoc]; omega)]; simp
    rw [blk_split, blk_split, e2 _ hs, e2 _ (by rw [h.len]; exact hs), List.append_nil, List.append_nil]
    exact h.one (2 * t) (Nat.le_refl _)
  · exact h.two t (by omega)
theorem Half.next {s T : Nat} {orig zs : List EA} (h : Half s T orig zs) (hT : orig.length ≤ T * (2 * s)) : Half (2 * s) 0 orig zs := by
  refine ⟨h.len, fun t ht => absurd ht (Nat.not_lt_zero t), fun t _ => ?_⟩
  by_cases e : t < T
  · exact h.two t e
  · have hn : orig.length ≤ t * (2 * s) := Nat.le_trans hT (Nat.mul_le_mul_right _ (by omega))
    unfold blkE
    rw [List.drop_of_length_le hn, List.drop_of_length_le (by rw [h.len]; exact hn)]
    exact ⟨.refl _, by simp⟩
theorem Half.all {s : Nat} {orig zs : List EA} (h : Half s 0 orig zs) (hs : orig.length ≤ s) : IsS orig zs := by
  have h1 := h.one 0 (Nat.le_refl _)
  unfold blkE at h1
  rw [Nat.zero_mul, List.drop_zero, List.drop_zero, List.take_of_length_le hs, List.take_of_length_le (by rw [h.len]; exact hs)] at h1
  exact h1
/-- what stood before stands before: numbers of an earlier piece are smaller. -/
theorem blk_cross {s T : Nat} {orig zs : List EA} (hids : Ids orig) (h : Half s T orig zs) : Cross (blkE s (2 * T) zs) (blkE s (2 * T + 1) zs) := by
  intro x hx y hy _
  have hx := (h.one (2 * T) (Nat.le_refl _)).perm.mem_iff.1 hx
  have hy := (h.one (2 * T + 1) (by omega)).perm.mem_iff.1 hy
  unfold blkE at hx hy
  obtain ⟨i, hi, hgx⟩ := mem_take_get hx
  obtain ⟨j, hj, hgy⟩ := mem_take_get hy
  rw [List.getElem?_drop] at hgx hgy
  obtain ⟨h1, rfl⟩ := List.getElem?_eq_some_iff.1 hgx
  obtain ⟨h2, rfl⟩ := List.getElem?_eq_some_iff.1 hgy
  exact List.pairwise_iff_getElem.1 hids _ _ h1 h2 (by rw [Nat.add_mul]; omega)
/-- the first T pieces are in order, the rest is as it was. -/
structure Ins (s T : Nat) (orig zs : List EA) : Prop where
  len : zs.length = orig.length
  one : ∀ t, t < T → IsS (blkE s t orig) (blkE s t zs)
  rest : zs.drop (T * s) = orig.drop (T * s)
theorem Ins.step {s T : Nat} {orig zs zs' A seg S B : List EA} (h : Ins s T orig zs) (hA : A.length = T * s) (hz : zs = A ++ (seg ++ B)) (hz' : zs' = A ++ (S ++ B)) (hseg : seg.length = s ∨ (B = [] ∧ seg.length ≤ s)) (hS : IsS seg S) : Ins s (T + 1) orig zs' := by
  have hsl := hS.len
  have hlen : zs'.length = zs.length := by rw [hz', hz]; simp only [List.length_append]; omega
  have ho : orig.drop (T * s) = seg ++ B := by rw [← h.rest, hz, ← hA, List.drop_left']; rfl
  refine ⟨hlen.trans h.len, fun t ht => ?_, ?_⟩
  · by_cases e : t = T
    · subst e
      have e1 : blkE s t orig = seg := by
        unfold blkE
        rw [ho]
        rcases hseg with e | ⟨rfl, e⟩
        · rw [List.take_left' e]
        · rw [List.append_nil, List.take_of_length_le e]
      have e2 : blkE s t zs' = S := by
        unfold blkE
        rw [hz', ← hA, List.drop_left' rfl]
        rcases hseg with e | ⟨rfl, e⟩
        · rw [List.take_left' (by omega)]
        · rw [List.append_nil, List.take_of_length_le (by omega)]
      rw [e1, e2]; exact hS
    · have h1 := h.one t (by omega)
      have h2 : t * s + s ≤ A.length := by
        rw [hA]
        have := Nat.mul_le_mul_right s (show t + 1 ≤ T from by omega)
        rw [Nat.add_mul] at this; omega
      rw [hz, blk_left (R' := S ++ B) h2, ← hz'] at h1
      exact h1
  · have e1 : ∀ l : List EA, l.drop ((T + 1) * s) = (l.drop (T * s)).drop s := fun l => by rw [List.drop_drop, Nat.add_mul, Nat.one_mul]
    rw [e1, e1, ho, hz', ← hA, List.drop_left' rfl]
    rcases hseg with e | ⟨rfl, e⟩
    · rw [List.drop_left' (by omega), List.drop_left' e]
    · rw [List.append_nil, List.append_nil, List.drop_of_length_le (by omega), List.drop_of_length_le e]
theorem Ins.all {s T : Nat} {orig zs : List EA} (h : Ins s T orig zs) (hT : orig.length ≤ T * s) : Half s 0 orig zs := by
  refine ⟨h.len, fun t ht => absurd ht (Nat.not_lt_zero t), fun t _ => ?_⟩
  by_cases e : t < T
  · exact h.one t e
  · have hn : orig.length ≤ t * s := Nat.le_trans hT (Nat.mul_le_mul_right _ (by omega))
    unfold blkE
    rw [List.drop_of_length_le hn, List.drop_of_length_le (by rw [h.len]; exact hn)]
    exact ⟨.refl _, by simp⟩
end Go.Proofs.Ytheofhegdjjfgaa

namespace Go.Proofs.Ytheofhegdjjfgaa
open Go.RowKit
variable {P : Program} {n : Nat} {w : World} {a : Act} {L : List (Nat × Value)} {Γ : List Asn} {dst : Option Nat}
variable {ty : Nat} {pos : String} {af : Array Edge} {g : Option (Nat × Bool)}

theorem run_append_nothing (t ty e : TypeId) (i : TypeInfo) (size : Nat) (ht : P.underlying t = some (.slice e)) (hi : P.info? e = some i) (v : Value) (m : Nat) (xs : List Value) (hown : w.ownsRow 0 e size v m xs) (ad : Option Addr) (c : Nat) :
    (Builtin.append_ #[t, t] ty #[v, .slice ad 0 c]).run P w = .ok v w := by
  rcases hown.2 with ⟨rfl, rfl⟩ | ⟨g, cap, cur, rfl, _, _, hnc, _⟩
  · cases ad <;> simp [Builtin.append_, run_underlying ht, sizeOf, typeInfo, hi, Builtin.lenOf, Builtin.firstCells, loadCells, loadCellsFrom]
  · cases ad <;> simp [Builtin.append_, run_underlying ht, sizeOf, typeInfo, hi, Builtin.lenOf, Builtin.firstCells, loadCells, loadCellsFrom, hnc, storeCells]
theorem e_appendE {T E s b m c : Nat} {zs : List Value} {x y : Operand} {v : Value} {ad : Option Addr} {cs : List Value} (hx : ev L x = some v) (hy : ev L y = some (.slice ad 0 c))
    (hT : sliceT P T = some E) (hs : szOf P E = some s) (hb : byOf P E = some b) (hz : zeroOf P E = some zs) (hm : ownA E s v m cs ∈ Γ) : Ex P n a L Γ ⟨dst, .call ⟨.builtin .append, #[x, y], #[T, T]⟩, ty, pos, af, g⟩ v := fun hs' w hh => by
  obtain ⟨i, z, hi, hz', hsz, hby, hzc⟩ := info_of hs hb hz
  have hown : w.ownsRow 0 E s v m cs := hh _ hm
  have h := run_append_nothing (P := P) (w := w) T ty E i s (sliceT_eq hT) hi v m cs hown ad c
  simp [execOp, resolve, invoke, builtin, hs'.ev hx, hs'.ev hy, h]
section
variable {F0 : Nat → Prop} {w0 : World} {K : Act → World → Prop} {Q : Exit → Act → World → Prop} {d : Nat}
/-- 'append(s, x..)' of what can be read, or of nothing. -/
theorem s_appendL {T E s b : Nat} {zs : List Value} {x y : Operand} {v : Value} {m k c : Nat} {q : Option Addr} {cs ys : List Value} {Γ' : Value → List Asn} (hS : St n F0 w0 a w L Γ) (hx : ev L x = some v) (hy : ev L y = some (.slice q k c))
    (hT : sliceT P T = some E) (hs : szOf P E = some s) (hb : byOf P E = some b) (hz : zeroOf P E = some zs) (hzl : Nat.beq zs.length s = true) (hs0 : Nat.blt 0 s = true) (hn : Nat.blt d n = true)
    (hm : ownA E s v m cs ∈ Γ) (hyl : ys.length = k * s) (hq : (k = 0 ∧ ys = []) ∨ ∃ bx ox, q = some ⟨bx, ox, none⟩ ∧ ∀ j u, ys[j]? = some u → w.cell? ⟨bx, ox + j, none⟩ = some u) (h1 : ∀ u ∈ ys, isOne u = true) (hbd : (m + k) * b ≤ 140737488355328 ∧ m + k ≤ 4611686018427387904)
    (hr : ∀ v', Rep (ownA E s v m cs) (ownA E s v' (m + k) (cs ++ ys)) Γ (Γ' v'))
    (h : ∀ v' a' w', (v' = .slice none 0 0 ↔ v = .slice none 0 0 ∧ k = 0) → St n F0 w0 a' w' ((d, v') :: L) (Γ' v') → K a' w') : OW P ⟨some d, .call ⟨.builtin .append, #[x, y], #[T, T]⟩, ty, pos, af, g⟩ a w K Q := by
  rcases hq with ⟨rfl, rfl⟩ | ⟨bx, ox, rfl, hys⟩
  · refine s_e hS (e_appendE hx hy hT hs hb hz hm) hn (fun a' hS' => h v a' w (by simp) ?_)
    have hown : w.ownsRow 0 E s v m cs := hS.get hm
    refine hS'.upd (hr v) (Chg.refl _ _) ?_ (fun b hb => .inl hb) rfl
    have := ok_own (w := w) (E := E) (s := s) (v := v) (m := m) (xs := cs) hown
    rwa [Nat.add_zero, List.append_nil]
  · exact s_append hS hx hy hT hs hb hz hzl hs0 hn hm hyl hys h1 hbd hr h
end
end Go.Proofs.Ytheofhegdjjfgaa

namespace Go.Proofs.Ytheofhegdjjfgaa
open Go.RowKit

section
variable {P : Program} {n : Nat} {a : Act} {L : List (Nat × Value)} {Γ : List Asn} {dst : Option Nat} {ty : Nat} {pos : String} {af : Array Edge} {g : Option (Nat × Bool)}
theorem e_lenM {x : Operand} {ts : Array TypeId} {T Kt Et b : Nat} {l : List (ByteArray × Value)} (hx : ev L x = some (.map (some b))) (ht : ts[0]? = some T) (hu : mapT P T = some (Kt, Et)) (hm : ∀ w, Hd Γ w → w.heap[b]? = some (.map (mkM 0 l).toArray l.length)) :
    Ex P n a L Γ ⟨dst, .call ⟨.builtin .len, #[x], ts⟩, ty, pos, af, g⟩ (.int .i64 (l.length : Int)) := fun hs w hh => by
  have hb := hm w hh
  simp [execOp, resolve, invoke, builtin, Builtin.len_, hs.ev hx, ht, underlying, mapT_eq hu, goInt, getObj, Sem.run, hb, mkM_len]
theorem e_lookupTC {T Kt Et b : Nat} {x y : Operand} {k : ByteArray} {l : List (ByteArray × Value)} {z : Value} (hx : ev L x = some (.map (some b))) (hy : ev L y = some (.string k))
    (hT : mapT P T = some (Kt, Et)) (hD : P.underlying Kt = some .string) (hz : zvOf P Et = some z) (hm : ∀ w, Hd Γ w → w.heap[b]? = some (.map (mkM 0 l).toArray l.length)) : Ex P n a L Γ ⟨dst, .lookup T x y true, ty, pos, af, g⟩ (.tuple [lkM l k z, .bool (hasM l k)].toArray) := fun hs w hh =>
  e_lookupT (Γ := [smapA b l]) hx hy hT hD hz (.head _) hs w (fun X hX => by obtain rfl := List.mem_singleton.1 hX; exact hm w hh)
theorem lkM_set (l : List (ByteArray × Value)) (k : ByteArray) (v z : Value) : lkM (setM l k v) k z = v := by
  unfold lkM
  have h : ∀ (l : List (ByteArray × Value)) (m : Nat), ∃ i, idxM (setM l k v) k m = some (i, v) := by
    intro l
    induction l with
    | nil => intro m; exact ⟨m, by simp [setM, idxM]⟩
    | cons p r ih =>
      obtain ⟨k', u⟩ := p
      intro m
      unfold setM
      by_cases e : k' = k
      · rw [if_pos e]; exact ⟨m, by simp [idxM]⟩
      · rw [if_neg e]
        obtain ⟨i, hi⟩ := ih (m + 1)
        exact ⟨i, by rw [idxM, if_neg e]; exact hi⟩
  obtain ⟨i, hi⟩ := h l 0
  rw [hi]
end

set_option maxRecDepth 100000 in
theorem lOpen_P (B : LB) (s : LS) (x : Acc) (hx : x.code.size ≤ 4611686018427387904) (w0 : World) (h : ledφ B s w0) :
    MutC Try.prog 44 [.pointer (some ⟨B.lb, 0, none⟩), .agg (encAc x).toArray] w0 (ledA B s true) (fun _ : Unit => .int .i64 (openE s x)) (fun _ => ledA B (openL s x) true) := by
  have hse := scale_err x.cur
  have same : openE s x ≠ 0 → openL s x = s := fun hne => if_neg hne
  refine c_enter [(0, .pointer (some ⟨B.lb, 0, none⟩)), (1, .agg (encAc x).toArray)] [.blk B.lb (ledC B s) 129, smapA B.ma (entAc s.acs), smapA B.ml (entSm s.tot), rowE s, psAll s.es] (ledF B s) Try.func44 rfl Try.ntmps44 ⟨rfl, rfl, trivial⟩ rfl (led_okP h) (led_dis h) led_mine ?_
  intro a hS
  refine c_seq ?_
  refine c_region ?_
  refine L_op (s_boxA hS rfl rfl ?_); clear hS a; (try clear w); intro a w b3 hS
  refine L_op (s_e hS (e_assign rfl) rfl ?_); clear hS a; intro a hS
  refine L_nil ?_
  refine n_then ?_
  refine c_seq ?_
  refine c_region ?_
  first | (refine L_op (s_e hS (e_fa0 rfl ty_fo68_1) rfl ?_); clear hS a; intro a hS) | (refine L_op (s_e hS (e_faK rfl ty_fo68_1) rfl ?_); clear hS a; intro a hS)
  refine L_op (s_e hS (e_load rfl (by repeat constructor) ty_sc9 (by rfl)) rfl ?_); clear hS a; intro a hS
  refine L_op (s_callP hS (.cons rfl .nil) cf79 rfl (Scale_P x.cur _) ?_); clear hS a; (try clear w); intro a w hS
  refine L_op (s_e hS (e_move rfl) rfl ?_); clear hS a; intro a hS
  refine L_op (s_e hS (e_extract rfl rfl) rfl ?_); clear hS a; intro a hS
  refine L_op (s_e hS (e_extract rfl rfl) rfl ?_); clear hS a; intro a hS
  refine L_op (s_e hS (e_assign rfl) rfl ?_); clear hS a; intro a hS
  refine L_op (s_e hS (e_assign rfl) rfl ?_); clear hS a; intro a hS
  refine L_nil ?_
  refine n_then ?_
  refine c_seq ?_
  refine c_drawS [] (by kernel_rfl) hS (sub_cons (X := .blk b3 _ _) (by repeat constructor) (sub_cons (X := .blk B.lb (ledC B s) 129) (by repeat constructor) (sub_cons (X := smapA B.ma (entAc s.acs)) (by repeat constructor) sub_nil))) ?_; clear hS; (try clear w); intro w hS
  simp only [List.length_cons, List.length_nil, Nat.zero_add, Nat.reduceAdd, List.replicate]
  refine Z_take0 (i := 0) hS rfl want_none (e_move rfl) (listed' := [true, false, false, false, false, false, false, false, false, false, false, false, false]) rfl (by kernel_rfl) (by kernel_rfl) (by kernel_rfl) (fun _ _ _ h => h) rfl ?_; clear hS a; intro a hS
  refine Z_take0 (i := 1) hS rfl want_none (e_nilCheck rfl) (listed' := [true, true, false, false, false, false, false, false, false, false, false, false, false]) rfl (by kernel_rfl) (by kernel_rfl) (by kernel_rfl) (fun _ _ _ h => h) rfl ?_; clear hS a; intro a hS
  first | (refine Z_take0 (i := 2) hS rfl want_none (e_fa0 rfl ty_fo129_1) (listed' := [true, true, true, false, false, false, false, false, false, false, false, false, false]) rfl (by kernel_rfl) (by kernel_rfl) (by kernel_rfl) (fun _ _ _ h => h) rfl ?_; clear hS a; intro a hS) | (refine Z_take0 (i := 2) hS rfl want_none (e_faK rfl ty_fo129_1) (listed' := [true, true, true, false, false, false, false, false, false, false, false, false, false]) rfl (by kernel_rfl) (by kernel_rfl) (by kernel_rfl) (fun _ _ _ h => h) rfl ?_; clear hS a; intro a hS)
  refine Z_take (i := 3) hS rfl want_none (e_load rfl (by repeat constructor) ty_sc126 (by rfl)) (listed' := [true, true, true, true, false, false, false, false, false, false, false, false, false]) rfl (by kernel_rfl) (by kernel_rfl) (by kernel_rfl) (by kernel_rfl) (by kernel_rfl) (sub_cons (by repeat constructor) (sub_cons (by repeat constructor) (sub_cons (by repeat constructor) sub_nil))) (fun _ _ _ h => h) rfl ?_; clear hS a; intro a hS
  first | (refine Z_take0 (i := 4) hS rfl want_none (e_fa0 rfl ty_fo68_0) (listed' := [true, true, true, true, true, false, false, false, false, false, false, false, false]) rfl (by kernel_rfl) (by kernel_rfl) (by kernel_rfl) (fun _ _ _ h => h) rfl ?_; clear hS a; intro a hS) | (refine Z_take0 (i := 4) hS rfl want_none (e_faK rfl ty_fo68_0) (listed' := [true, true, true, true, true, false, false, false, false, false, false, false, false]) rfl (by kernel_rfl) (by kernel_rfl) (by kernel_rfl) (fun _ _ _ h => h) rfl ?_; clear hS a; intro a hS)
  refine Z_take (i := 5) hS rfl want_none (e_load rfl (by repeat constructor) ty_sc9 (by rfl)) (listed' := [true, true, true, true, true, true, false, false, false, false, false, false, false]) rfl (by kernel_rfl) (by kernel_rfl) (by kernel_rfl) (by kernel_rfl) (by kernel_rfl) (sub_cons (by repeat constructor) (sub_cons (by repeat constructor) (sub_cons (by repeat constructor) sub_nil))) (fun _ _ _ h => h) rfl ?_; clear hS a; intro a hS
  refine Z_take (i := 6) hS rfl want_none (e_lookupT rfl rfl ty_mp126 ty_u9 ty_zv68 (by repeat constructor)) (listed' := [true, true, true, true, true, true, true, false, false, false, false, false, false]) rfl (by kernel_rfl) (by kernel_rfl) (by kernel_rfl) (by kernel_rfl) (by kernel_rfl) (sub_cons (by repeat constructor) (sub_cons (by repeat constructor) (sub_cons (by repeat constructor) sub_nil))) (fun _ _ _ h => h) rfl ?_; clear hS a; intro a hS
  rw [lk_acc, has_acc] at hS
  refine Z_take0 (i := 7) hS rfl want_none (e_move rfl) (listed' := [true, true, true, true, true, true, true, true, false, false, false, false, false]) rfl (by kernel_rfl) (by kernel_rfl) (by kernel_rfl) (fun _ _ _ h => h) rfl ?_; clear hS a; intro a hS
  refine Z_take0 (i := 8) hS rfl want_none (e_extract rfl rfl) (listed' := [true, true, true, true, true, true, true, true, true, false, false, false, false]) rfl (by kernel_rfl) (by kernel_rfl) (by kernel_rfl) (fun _ _ _ h => h) rfl ?_; clear hS a; intro a hS
  refine Z_take0 (i := 9) hS rfl want_none (e_extract rfl rfl) (listed' := [true, true, true, true, true, true, true, true, true, true, false, false, false]) rfl (by kernel_rfl) (by kernel_rfl) (by kernel_rfl) (fun _ _ _ h => h) rfl ?_; clear hS a; intro a hS
  refine Z_one (i := 10) rfl (want_none a hS.sl) (listed' := [true, true, true, true, true, true, true, true, true, true, true, false, false]) rfl (by kernel_rfl) (s_alloc hS ty_z68 rfl ?_); clear hS a; (try clear w); intro a w b7 hS
  refine Z_and hS (sub_cons (by repeat constructor) (sub_cons (by repeat constructor) (sub_cons (by repeat constructor) sub_nil))) ?_
  refine Z_one (i := 11) rfl (want_none a hS.sl) (listed' := [true, true, true, true, true, true, true, true, true, true, true, true, false]) rfl (by kernel_rfl) (s_storeA hS rfl rfl ty_sz68 (by repeat constructor) (by rfl) (by rfl) (by rfl) ?_); clear hS; (try clear w); intro w hS
  refine Z_and hS (sub_cons (by repeat constructor) (sub_cons (by repeat constructor) (sub_cons (by repeat constructor) sub_nil))) ?_
  refine Z_take0 (i := 12) hS rfl want_none (e_assign rfl) (listed' := [true, true, true, true, true, true, true, true, true, true, true, true, true]) rfl (by kernel_rfl) (by kernel_rfl) (by kernel_rfl) (fun _ _ _ h => h) rfl ?_; clear hS a; intro a hS
  refine Z_done (by kernel_rfl) ?_
  refine n_then ?_
  refine c_seq ?_
  refine wp_block ?_
  refine c_seq ?_
  refine c_region ?_
  first | (refine L_op (s_e hS (e_fa0 rfl ty_fo68_0) rfl ?_); clear hS a; intro a hS) | (refine L_op (s_e hS (e_faK rfl ty_fo68_0) rfl ?_); clear hS a; intro a hS)
  refine L_op (s_e hS (e_load rfl (by repeat constructor) ty_sc9 (by rfl)) rfl ?_); clear hS a; intro a hS
  refine L_op (s_callP hS (.cons rfl .nil) cf84 rfl (ValidName_w x.code hx _) ?_); clear hS a; (try clear w); intro a w hS
  refine L_op (s_e hS (e_not rfl) rfl ?_); clear hS a; intro a hS
  refine L_op (s_e hS (e_assign rfl) rfl ?_); clear hS a; intro a hS
  refine L_nil ?_
  refine n_then ?_
  first | refine c_ifD hS rfl (fun hc25 => ?_) (fun hc25 => ?_) | refine c_if hS rfl (fun hc25 => ?_) (fun hc25 => ?_)
  ·
    refine c_seq ?_
    refine c_region ?_
    refine L_op (s_e hS (e_assign rfl) rfl ?_); clear hS a; intro a hS
    refine L_nil ?_
    refine n_then ?_
    refine wp_ret ?_
    refine r_block (r_then ?_)
    refine c_ret1 hS Try.results44 (.tmp rfl) ?_
    have hE : openE s x = 1 := if_pos (by simpa using hc25)
    rw [same (by rw [hE]; decide), hE]
    exact ⟨(), rfl, hS.chg, led_end hS (by repeat constructor) (by repeat constructor) (by repeat constructor) (by repeat constructor) (by repeat constructor) h.ne⟩
  ·
    refine c_seq ?_
    refine c_region ?_
    refine L_op (s_e hS (e_move rfl) rfl ?_); clear hS a; intro a hS
    refine L_op (s_e hS (e_bin rfl rfl rfl) rfl ?_); clear hS a; intro a hS
    refine L_op (s_e hS (e_assign rfl) rfl ?_); clear hS a; intro a hS
    refine L_nil ?_
    refine n_then ?_
    first | refine c_ifD hS rfl (fun hc30 => ?_) (fun hc30 => ?_) | refine c_if hS rfl (fun hc30 => ?_) (fun hc30 => ?_)
    ·
      refine c_seq ?_
      refine c_region ?_
      refine L_op (s_e hS (e_move rfl) rfl ?_); clear hS a; intro a hS
      refine L_op (s_e hS (e_assign rfl) rfl ?_); clear hS a; intro a hS
      refine L_nil ?_
      refine n_then ?_
      refine wp_ret ?_
      refine r_block (r_then ?_)
      refine c_ret1 hS Try.results44 (.tmp rfl) ?_
      have hE : openE s x = (scaleR x.cur).2 := by unfold openE; rw [if_neg (by simpa using hc25), if_pos hc30]; omega
      rw [same (by rw [hE]; exact hc30), hE]
      exact ⟨(), rfl, hS.chg, led_end hS (by repeat constructor) (by repeat constructor) (by repeat constructor) (by repeat constructor) (by repeat constructor) h.ne⟩
    ·
      refine c_seq ?_
      refine c_region ?_
      first | (refine L_op (s_e hS (e_fa0 rfl ty_fo68_2) rfl ?_); clear hS a; intro a hS) | (refine L_op (s_e hS (e_faK rfl ty_fo68_2) rfl ?_); clear hS a; intro a hS)
      refine L_op (s_e hS (e_load rfl (by repeat constructor) ty_sc3 (by rfl)) rfl ?_); clear hS a; intro a hS
      refine L_op (s_e hS (e_bin rfl rfl rfl) rfl ?_); clear hS a; intro a hS
      refine L_op (s_e hS (e_move rfl) rfl ?_); clear hS a; intro a hS
      refine L_merge 4 42 (.bool (decide (x.kind < 1 ∨ 5 < x.kind))) hS ?_ ?_
      · intro hcM42
        (first | refine g_splitD (t := 38) hS rfl ?_ ?_ | refine g_split (t := 38) hS rfl ?_ ?_) <;> (clear hS; intro hg38 hS)
        ·
          refine L_skip_f hS rfl rfl rfl ?_; clear hS a; intro a hS
          refine L_skip_f hS rfl rfl rfl ?_; clear hS a; intro a hS
          refine L_skip_f hS rfl rfl rfl ?_; clear hS a; intro a hS
          first | (refine L_op (s_e hS (e_pick_t rfl rfl) rfl ?_); clear hS a; intro a hS) | (refine L_op (s_e hS (e_pick_f rfl rfl) rfl ?_); clear hS a; intro a hS)
          exact hcM42 _ _ (hS.ends 5 42 38 rfl (congrArg Value.bool (by first | rfl | (simp [hg38]; done) | (simp [hg38]; omega) | grind)) rfl rfl (by first | exact congrArg Value.bool (decide_eq_true hg38).symm | exact congrArg Value.bool hg38.symm | simp [hg38]) rfl)
        ·
          first | (refine L_go hS rfl rfl (s_e hS (e_fa0 rfl ty_fo68_2) rfl ?_); clear hS a; intro a hS) | (refine L_go hS rfl rfl (s_e hS (e_faK rfl ty_fo68_2) rfl ?_); clear hS a; intro a hS)
          refine L_go hS rfl rfl (s_e hS (e_load rfl (by repeat constructor) ty_sc3 (by rfl)) rfl ?_); clear hS a; intro a hS
          refine L_go hS rfl rfl (s_e hS (e_bin rfl rfl rfl) rfl ?_); clear hS a; intro a hS
          first | (refine L_op (s_e hS (e_pick_t rfl rfl) rfl ?_); clear hS a; intro a hS) | (refine L_op (s_e hS (e_pick_f rfl rfl) rfl ?_); clear hS a; intro a hS)
          exact hcM42 _ _ (hS.ends 5 42 38 rfl (congrArg Value.bool (by first | rfl | (simp [hg38]; done) | (simp [hg38]; omega) | grind)) rfl rfl (by first | exact congrArg Value.bool (decide_eq_false hg38).symm | exact congrArg Value.bool hg38.symm | simp [hg38]) rfl)
      · clear hS a; (try clear w); intro a w hS
        simp only [List.drop_succ_cons, List.drop_zero]
        refine L_op (s_e hS (e_assign rfl) rfl ?_); clear hS a; intro a hS
        refine L_nil ?_
        refine n_then ?_
        first | refine c_ifD hS rfl (fun hc34 => ?_) (fun hc34 => ?_) | refine c_if hS rfl (fun hc34 => ?_) (fun hc34 => ?_)
        ·
          refine c_seq ?_
          refine c_region ?_
          refine L_op (s_e hS (e_assign rfl) rfl ?_); clear hS a; intro a hS
          refine L_nil ?_
          refine n_then ?_
          refine wp_ret ?_
          refine r_block (r_then ?_)
          refine c_ret1 hS Try.results44 (.tmp rfl) ?_
          have hE : openE s x = 7 := by unfold openE; rw [if_neg (by simpa using hc25), if_neg hc30, if_pos hc34]
          rw [same (by rw [hE]; decide), hE]
          exact ⟨(), rfl, hS.chg, led_end hS (by repeat constructor) (by repeat constructor) (by repeat constructor) (by repeat constructor) (by repeat constructor) h.ne⟩
        ·
          refine c_seq ?_
          refine c_region ?_
          refine L_op (s_e hS (e_move rfl) rfl ?_); clear hS a; intro a hS
          refine L_op (s_e hS (e_assign rfl) rfl ?_); clear hS a; intro a hS
          refine L_nil ?_
          refine n_then ?_
          first | refine c_ifD hS rfl (fun hc43 => ?_) (fun hc43 => ?_) | refine c_if hS rfl (fun hc43 => ?_) (fun hc43 => ?_)
          ·
            refine c_seq ?_
            refine c_region ?_
            refine L_op (s_e hS (e_assign rfl) rfl ?_); clear hS a; intro a hS
            refine L_nil ?_
            refine n_then ?_
            refine wp_ret ?_
            refine r_block (r_then ?_)
            refine c_ret1 hS Try.results44 (.tmp rfl) ?_
            have hE : openE s x = 3 := by unfold openE; rw [if_neg (by simpa using hc25), if_neg hc30, if_neg hc34, if_pos hc43]
            rw [same (by rw [hE]; decide), hE]
            exact ⟨(), rfl, hS.chg, led_end hS (by repeat constructor) (by repeat constructor) (by repeat constructor) (by repeat constructor) (by repeat constructor) h.ne⟩
          ·
            refine c_seq ?_
            refine c_region ?_
            refine L_op (s_e hS (e_move rfl) rfl ?_); clear hS a; intro a hS
            refine L_op (s_e hS (e_nilCheck rfl) rfl ?_); clear hS a; intro a hS
            first | (refine L_op (s_e hS (e_fa0 rfl ty_fo129_1) rfl ?_); clear hS a; intro a hS) | (refine L_op (s_e hS (e_faK rfl ty_fo129_1) rfl ?_); clear hS a; intro a hS)
            refine L_op (s_e hS (e_load rfl (by repeat constructor) ty_sc126 (by rfl)) rfl ?_); clear hS a; intro a hS
            refine L_op (s_e hS (e_lenM rfl rfl ty_mp126 (fun w hh => hh (smapA B.ma (entAc s.acs)) (by repeat constructor))) rfl ?_); clear hS a; intro a hS
            rw [show (entAc s.acs).length = s.acs.length by simp [entAc]] at hS
            refine L_op (s_e hS (e_bin rfl rfl rfl) rfl ?_); clear hS a; intro a hS
            refine L_op (s_e hS (e_assign rfl) rfl ?_); clear hS a; intro a hS
            refine L_nil ?_
            refine n_then ?_
            first | refine c_ifD hS rfl (fun hc45 => ?_) (fun hc45 => ?_) | refine c_if hS rfl (fun hc45 => ?_) (fun hc45 => ?_)
            ·
              refine c_seq ?_
              refine c_region ?_
              refine L_op (s_e hS (e_assign rfl) rfl ?_); clear hS a; intro a hS
              refine L_nil ?_
              refine n_then ?_
              refine wp_ret ?_
              refine r_block (r_then ?_)
              refine c_ret1 hS Try.results44 (.tmp rfl) ?_
              have hE : openE s x = 9 := by unfold openE; rw [if_neg (by simpa using hc25), if_neg hc30, if_neg hc34, if_neg (by simpa using hc43), if_pos (by omega)]
              rw [same (by rw [hE]; decide), hE]
              exact ⟨(), rfl, hS.chg, led_end hS (by repeat constructor) (by repeat constructor) (by repeat constructor) (by repeat constructor) (by repeat constructor) h.ne⟩
            ·
              refine wp_skip ?_
              refine n_block ?_
              refine n_then ?_
              refine c_seq ?_
              refine c_drawS [7] (by kernel_rfl) hS (sub_cons (X := .blk b3 _ _) (by repeat constructor) (sub_cons (X := .blk B.lb (ledC B s) 129) (by repeat constructor) sub_nil)) ?_; clear hS; (try clear w); intro w hS
              simp only [List.length_cons, List.length_nil, Nat.zero_add, Nat.reduceAdd, List.replicate]
              refine Z_take0 (i := 0) hS rfl want_none (e_move rfl) (listed' := [true, false, false, false, false, false, false, false]) rfl (by kernel_rfl) (by kernel_rfl) (by kernel_rfl) (fun _ _ _ h => h) rfl ?_; clear hS a; intro a hS
              refine Z_take0 (i := 1) hS rfl want_none (e_nilCheck rfl) (listed' := [true, true, false, false, false, false, false, false]) rfl (by kernel_rfl) (by kernel_rfl) (by kernel_rfl) (fun _ _ _ h => h) rfl ?_; clear hS a; intro a hS
              first | (refine Z_take0 (i := 2) hS rfl want_none (e_fa0 rfl ty_fo129_1) (listed' := [true, true, true, false, false, false, false, false]) rfl (by kernel_rfl) (by kernel_rfl) (by kernel_rfl) (fun _ _ _ h => h) rfl ?_; clear hS a; intro a hS) | (refine Z_take0 (i := 2) hS rfl want_none (e_faK rfl ty_fo129_1) (listed' := [true, true, true, false, false, false, false, false]) rfl (by kernel_rfl) (by kernel_rfl) (by kernel_rfl) (fun _ _ _ h => h) rfl ?_; clear hS a; intro a hS)
              refine Z_take (i := 3) hS rfl want_none (e_load rfl (by repeat constructor) ty_sc126 (by rfl)) (listed' := [true, true, true, true, false, false, false, false]) rfl (by kernel_rfl) (by kernel_rfl) (by kernel_rfl) (by kernel_rfl) (by kernel_rfl) (sub_cons (by repeat constructor) (sub_cons (by repeat constructor) sub_nil)) (fun _ _ _ h => h) rfl ?_; clear hS a; intro a hS
              first | (refine Z_take0 (i := 4) hS rfl want_none (e_fa0 rfl ty_fo68_0) (listed' := [true, true, true, true, true, false, false, false]) rfl (by kernel_rfl) (by kernel_rfl) (by kernel_rfl) (fun _ _ _ h => h) rfl ?_; clear hS a; intro a hS) | (refine Z_take0 (i := 4) hS rfl want_none (e_faK rfl ty_fo68_0) (listed' := [true, true, true, true, true, false, false, false]) rfl (by kernel_rfl) (by kernel_rfl) (by kernel_rfl) (fun _ _ _ h => h) rfl ?_; clear hS a; intro a hS)
              refine Z_take (i := 5) hS rfl want_none (e_load rfl (by repeat constructor) ty_sc9 (by rfl)) (listed' := [true, true, true, true, true, true, false, false]) rfl (by kernel_rfl) (by kernel_rfl) (by kernel_rfl) (by kernel_rfl) (by kernel_rfl) (sub_cons (by repeat constructor) (sub_cons (by repeat constructor) sub_nil)) (fun _ _ _ h => h) rfl ?_; clear hS a; intro a hS
              refine Z_take (i := 6) hS rfl want_none (e_loadA rfl (by repeat constructor) ty_st68 ty_sz68 (by rfl)) (listed' := [true, true, true, true, true, true, true, false]) rfl (by kernel_rfl) (by kernel_rfl) (by kernel_rfl) (by kernel_rfl) (by kernel_rfl) (sub_cons (by repeat constructor) (sub_cons (by repeat constructor) sub_nil)) (fun _ _ _ h => h) rfl ?_; clear hS a; intro a hS
              refine Z_one (i := 7) rfl (want_none a hS.sl) (listed' := [true, true, true, true, true, true, true, true]) rfl (by kernel_rfl) (s_mapUp hS rfl rfl rfl ty_mp126 ty_u9 (by repeat constructor) ?_); clear hS; (try clear w); intro w hS
              refine Z_last (by simp) ?_
              refine Z_done (by kernel_rfl) ?_
              refine n_then ?_
              refine c_seq ?_
              refine c_region ?_
              refine L_op (s_e hS (e_assign rfl) rfl ?_); clear hS a; intro a hS
              refine L_nil ?_
              refine n_then ?_
              refine wp_ret ?_
              refine c_ret1 hS Try.results44 (.tmp rfl) ?_
              have hE : openE s x = 0 := by unfold openE; rw [if_neg (by simpa using hc25), if_neg hc30, if_neg hc34, if_neg (by simpa using hc43), if_neg (by omega)]
              have hL : openL s x = { s with acs := s.acs ++ [x] } := if_pos hE
              have hset : setM (entAc s.acs) x.code (.agg (encAc x).toArray) = entAc (s.acs ++ [x]) := by
                rw [setM_new _ (by rw [has_acc]; simpa using hc43)]; simp [entAc]
              rw [hset] at hS
              rw [hE, hL]
              exact ⟨(), rfl, hS.chg, led_end (s' := { s with acs := s.acs ++ [x] }) hS (by repeat constructor) (by repeat constructor) (by repeat constructor) (by repeat constructor) (by repeat constructor) h.ne⟩

theorem flatP {b off : Nat} {l : List Pst} {w : World} (h : RowAt b off 3 (l.map encP) w) : ∀ j u, (l.flatMap encP)[j]? = some u → w.cell? ⟨b, off + j, none⟩ = some u := by
  intro j u hu
  have hlt := (List.getElem?_eq_some_iff.1 hu).1
  rw [flat_len encP 3 (fun _ => rfl)] at hlt
  have hil : j / 3 < l.length := by omega
  obtain ⟨x, hx⟩ : ∃ x, l[j / 3]? = some x := ⟨l[j / 3], List.getElem?_eq_getElem hil⟩
  have hxe : (l.map encP)[j / 3]? = some (encP x) := by rw [List.getElem?_map, hx]; rfl
  have h1 := flat_get encP 3 (fun _ => rfl) l (j / 3) x hx (j % 3)
  obtain ⟨v, hv⟩ : ∃ v, (encP x)[j % 3]? = some v := ⟨(encP x)[j % 3]'(by show _ < 3; omega), List.getElem?_eq_getElem (by show _ < 3; omega)⟩
  have h2 := h1 v hv
  rw [show j / 3 * 3 + j % 3 = j by omega] at h2
  rw [hu] at h2; cases h2
  have h3 := h (j / 3) (encP x) hxe (j % 3) u hv
  rw [← h3]; congr 2; omega
theorem oneP (l : List Pst) : ∀ u ∈ l.flatMap encP, isOne u = true := fun u hu => by
  obtain ⟨x, _, hx⟩ := List.mem_flatMap.1 hu
  simp [encP] at hx
  rcases hx with rfl | rfl | rfl <;> rfl
def psO (l : List Pst) (y : Nat × Nat) : Value := .slice (some ⟨y.1, 0, none⟩) l.length y.2
set_option maxRecDepth 100000 in
theorem lfresh_P (p : Option (Nat × Nat)) (c : Nat) (l : List Pst) (hlen : l.length ≤ 1000000) (w0 : World) (hrow : RowP p 3 (l.map encP) w0) (hb : ∀ q, p = some q → q.1 < w0.heap.size) :
     NewC Try.prog 74 [sliceV p l.length c] w0 (fun y : Nat × Nat => psO l y) (fun y => ownA 63 3 (psO l y) l.length (l.flatMap encP)) := by
   refine c_enter [(0, sliceV p l.length c)] [rowP p 3 (l.map encP)] noB Try.func74 rfl Try.ntmps74 ⟨rfl, trivial⟩ rfl (okC (ok_rowP hrow hb) okN) dis1 (mineC (by rfl) mineN) ?_
   intro a hS
   refine c_seq ?_
   refine c_region ?_
   refine L_op (s_e hS (e_assign rfl) rfl ?_); clear hS a; intro a hS
   refine L_nil ?_
   refine n_then ?_
   refine c_seq ?_
   refine c_region ?_
   refine L_op (s_e hS (e_move rfl) rfl ?_); clear hS a; intro a hS
   refine L_op (s_e hS (e_len rfl rfl ty_sl56) rfl ?_); clear hS a; intro a hS
   refine L_op (s_make0 hS rfl rfl ty_sl56 ty_sz63 ty_by63 ty_z63 rfl (by omega) ?_); clear hS a; (try clear w); intro x5 a w hS
   refine L_op (s_e hS (e_move rfl) rfl ?_); clear hS a; intro a hS
   refine L_op (s_appendL hS rfl rfl ty_sl56 ty_sz63 ty_by63 ty_z63 rfl rfl rfl (by repeat constructor) (ys := l.flatMap encP) (flat_len encP 3 (fun _ => rfl) l) (by
 have hr : RowP p 3 (l.map encP) _ := hS.get (X := rowP p 3 (l.map encP)) (by repeat constructor)
 cases p with
 | none =>
   have : l = [] := by simpa [RowP] using hr
   exact .inl ⟨by rw [this]; rfl, by rw [this]; rfl⟩
 | some q => exact .inr ⟨q.1, q.2, rfl, flatP hr⟩) (oneP l) (by omega) (fun _ => (by repeat constructor)) ?_); clear hS a; (try clear w); intro v7 a w hv7 hS
   rw [Nat.zero_add, List.nil_append] at hS
   obtain ⟨g7, c7, rfl⟩ := own_some (hS.get (X := ownA 63 3 v7 l.length (l.flatMap encP)) (by repeat constructor)) (fun e => by have := (hv7.1 e).1; cases this)
   refine L_op (s_e hS (e_assign rfl) rfl ?_); clear hS a; intro a hS
   refine L_nil ?_
   refine n_then ?_
   refine wp_ret ?_
   refine c_ret1 hS Try.results74 (.tmp rfl) ?_
   exact ⟨(g7, c7), rfl, hS.chg, hS.new (X := ownA 63 3 (.slice (some ⟨g7, 0, none⟩) l.length c7) l.length (l.flatMap encP)) (by repeat constructor) rfl⟩

instance memBA (c : ByteArray) (l : List ByteArray) : Decidable (c ∈ l) := decidable_of_iff (∃ x ∈ l, x = c) ⟨fun ⟨_, h, e⟩ => e ▸ h, fun h => ⟨c, h, rfl⟩⟩
/-- the error of postings, one by one. -/
def postE (acs : List Acc) : List Pst → List ByteArray → Int
  | [], _ => 0
  | p :: r, seen => if (findA acs p.acc).isSome = false then 2 else if p.acc ∈ seen then 12 else if ¬ inU p.u ∨ ¬ inU p.f then 6 else postE acs r (seen ++ [p.acc])
theorem postE_cons (acs : List Acc) (p : Pst) (r : List Pst) (seen : List ByteArray) : postE acs (p :: r) seen = if (findA acs p.acc).isSome = false then 2 else if p.acc ∈ seen then 12 else if ¬ inU p.u ∨ ¬ inU p.f then 6 else postE acs r (seen ++ [p.acc]) := rfl
def seenM (l : List ByteArray) : List (ByteArray × Value) := l.map fun c => (c, .int .i64 1)
theorem seen_has (l : List ByteArray) (c : ByteArray) : hasM (seenM l) c = decide (c ∈ l) := by
  unfold seenM
  rw [hasM_map (fun c : ByteArray => c) (fun _ => .int .i64 1)]
  by_cases h : c ∈ l
  · rw [decide_eq_true h, List.find?_isSome]; exact ⟨c, h, by simp⟩
  · rw [decide_eq_false h]
    rw [List.find?_eq_none.2 (fun x hx e => h (by have : x = c := by simpa using e
                                                  rw [← this]; exact hx))]; rfl
theorem seen_lk (l : List ByteArray) (c : ByteArray) : lkM (seenM l) c (.int .i64 0) = .int .i64 (if c ∈ l then 1 else 0) := by
  have hh := seen_has l c
  unfold seenM at hh ⊢
  rw [hasM_map (fun c : ByteArray => c) (fun _ => .int .i64 1)] at hh
  rw [lkM_map (fun c : ByteArray => c) (fun _ => .int .i64 1)]
  by_cases h : c ∈ l
  · rw [decide_eq_true h] at hh
    obtain ⟨x, hx⟩ := Option.isSome_iff_exists.1 hh
    rw [hx, if_pos h]; rfl
  · rw [decide_eq_false h] at hh
    rw [Option.isSome_eq_false_iff, Option.isNone_iff_eq_none] at hh
    rw [hh, if_neg h]; rfl
set_option maxRecDepth 100000 in
theorem lpost_P (B : LB) (s : LS) (p : Option (Nat × Nat)) (c : Nat) (ps : List Pst) (hlen : ps.length ≤ 1000000) (w0 : World) (h : ledφ B s w0) (hrow : RowP p 3 (ps.map encP) w0) (hb : ∀ q, p = some q → q.1 < w0.heap.size) (hd : ∀ q, p = some q → ¬ ledF B s q.1) :
    PureC Try.prog 75 [.pointer (some ⟨B.lb, 0, none⟩), sliceV p ps.length c] w0 (.int .i64 (postE s.acs ps [])) := by
  refine c_enter [(0, .pointer (some ⟨B.lb, 0, none⟩)), (1, sliceV p ps.length c)] [ledA B s false, rowP p 3 (ps.map encP)] noB Try.func75 rfl Try.ntmps75 ⟨rfl, rfl, trivial⟩ rfl (okC (led_ok false h) (okC (ok_rowP hrow hb) okN)) (disC (sepC (fun b h1 h2 => by obtain ⟨off, e⟩ := h2; exact hd _ e h1) sepN) dis1) (mineC (by rfl) (mineC (by rfl) mineN)) ?_
  intro a hS
  refine c_seq ?_
  refine c_region ?_
  refine L_op (s_e hS (e_assign rfl) rfl ?_); clear hS a; intro a hS
  refine L_nil ?_
  refine n_then ?_
  refine c_seq ?_
  refine c_region ?_
  refine L_op (s_makeMapS hS rfl ?_); clear hS a; (try clear w); intro a w b10 hS
  refine L_op (s_e hS (e_assign rfl) rfl ?_); clear hS a; intro a hS
  refine L_nil ?_
  refine n_then ?_
  refine c_seq ?_
  refine c_seq ?_
  refine c_region ?_
  refine L_op (s_e hS (e_move rfl) rfl ?_); clear hS a; intro a hS
  refine L_op (s_e hS (e_len rfl rfl ty_sl56) rfl ?_); clear hS a; intro a hS
  refine L_op (s_e hS (e_move rfl) rfl ?_); clear hS a; intro a hS
  refine L_nil ?_
  refine n_then ?_
  refine wp_block ?_
  skip
  refine c_loop (γ := Nat) (fun i a w => St 52 noB w0 a w [(13, .int .i64 (i : Int)), (12, .int .i64 (ps.length : Int)), (11, sliceV p ps.length c), (5, .map (some b10)), (0, .pointer (some ⟨B.lb, 0, none⟩))] [smapA b10 (seenM ((ps.take i).map (·.acc))), ledA B s false, rowP p 3 (ps.map encP)] ∧ i ≤ ps.length ∧ postE s.acs ps [] = postE s.acs (ps.drop i) ((ps.take i).map (·.acc))) (fun i => ps.length - i) 0 ⟨(hS.slots (by repeat (first | exact trivial | refine ⟨rfl, ?_⟩))).pick (by repeat (first | exact Pick.nil | (refine Pick.cons (by repeat (first | exact Rem.head | apply Rem.tail)) ?_))), Nat.zero_le _, rfl⟩ ?_
  clear hS a; (try clear w); intro i a w hI
  obtain ⟨hS, hi, hpe⟩ := hI
  refine c_seq ?_
  refine c_region ?_
  refine L_op (s_e hS (e_bin rfl rfl rfl) rfl ?_); clear hS a; intro a hS
  refine L_nil ?_
  refine n_then ?_
  refine c_seq ?_
  first | refine c_ifD hS rfl (fun hc14 => ?_) (fun hc14 => ?_) | refine c_if hS rfl (fun hc14 => ?_) (fun hc14 => ?_)
  ·
    have hil : i < ps.length := by omega
    obtain ⟨x, hx⟩ : ∃ x, ps[i]? = some x := ⟨ps[i], List.getElem?_eq_getElem hil⟩
    have hx' : (ps.map encP)[i]? = some (encP x) := by simp [hx]
    obtain ⟨b, off, rfl⟩ := rowP_some (hS.get (X := rowP p 3 (ps.map encP)) (by repeat constructor)) hx'
    have hdr : ps.drop i = x :: ps.drop (i + 1) := by
      obtain ⟨h1, h2⟩ := List.getElem?_eq_some_iff.1 hx
      rw [List.drop_eq_getElem_cons h1, h2]
    have htk : (ps.take (i + 1)).map (·.acc) = (ps.take i).map (·.acc) ++ [x.acc] := by rw [List.take_add_one, hx]; simp
    rw [hdr, postE_cons] at hpe
    refine wp_skip ?_
    refine n_then ?_
    refine c_seq ?_
    refine wp_block ?_
    refine c_seq ?_
    refine c_region ?_
    refine L_op (s_e hS (e_ixN rfl rfl ty_sl56 ty_sz63 (by omega)) rfl ?_); clear hS a; intro a hS
    refine L_op (s_e hS (e_loadAC (l := encP x) rfl ty_st63 ty_sz63 (fun w hh => rowP_get (by repeat constructor) hx' w hh)) rfl ?_); clear hS a; intro a hS
    refine L_op (s_alloc hS ty_z63 rfl ?_); clear hS a; (try clear w); intro a w b7 hS
    refine L_op (s_storeA hS rfl rfl ty_sz63 (by repeat constructor) (by rfl) (by rfl) (by rfl) ?_); clear hS; (try clear w); intro w hS
    refine L_nil ?_
    refine n_then ?_
    refine c_seq ?_
    refine c_seq ?_
    refine c_drawS [] (by kernel_rfl) hS (sub_cons (X := .blk b7 _ _) (by repeat constructor) (sub_cons (X := ledA B s false) (by repeat constructor) sub_nil)) ?_; clear hS; (try clear w); intro w hS
    simp only [List.length_cons, List.length_nil, Nat.zero_add, Nat.reduceAdd, List.replicate]
    refine Z_take0 (i := 0) hS rfl want_none (e_move rfl) (listed' := [true, false, false, false, false, false, false, false, false, false, false, false, false]) rfl (by kernel_rfl) (by kernel_rfl) (by kernel_rfl) (fun _ _ _ h => h) rfl ?_; clear hS a; intro a hS
    refine Z_take0 (i := 1) hS rfl want_none (e_nilCheck rfl) (listed' := [true, true, false, false, false, false, false, false, false, false, false, false, false]) rfl (by kernel_rfl) (by kernel_rfl) (by kernel_rfl) (fun _ _ _ h => h) rfl ?_; clear hS a; intro a hS
    first | (refine Z_take0 (i := 2) hS rfl want_none (e_fa0 rfl ty_fo129_1) (listed' := [true, true, true, false, false, false, false, false, false, false, false, false, false]) rfl (by kernel_rfl) (by kernel_rfl) (by kernel_rfl) (fun _ _ _ h => h) rfl ?_; clear hS a; intro a hS) | (refine Z_take0 (i := 2) hS rfl want_none (e_faK rfl ty_fo129_1) (listed' := [true, true, true, false, false, false, false, false, false, false, false, false, false]) rfl (by kernel_rfl) (by kernel_rfl) (by kernel_rfl) (fun _ _ _ h => h) rfl ?_; clear hS a; intro a hS)
    refine Z_take (i := 3) hS rfl want_none (e_loadC rfl ty_sc126 (led_cell (k := 1) (by repeat constructor) rfl)) (listed' := [true, true, true, true, false, false, false, false, false, false, false, false, false]) rfl (by kernel_rfl) (by kernel_rfl) (by kernel_rfl) (by kernel_rfl) (by kernel_rfl) (sub_cons (by repeat constructor) (sub_cons (by repeat constructor) sub_nil)) (fun _ _ _ h => h) rfl ?_; clear hS a; intro a hS
    first | (refine Z_take0 (i := 4) hS rfl want_none (e_fa0 rfl ty_fo63_0) (listed' := [true, true, true, true, true, false, false, false, false, false, false, false, false]) rfl (by kernel_rfl) (by kernel_rfl) (by kernel_rfl) (fun _ _ _ h => h) rfl ?_; clear hS a; intro a hS) | (refine Z_take0 (i := 4) hS rfl want_none (e_faK rfl ty_fo63_0) (listed' := [true, true, true, true, true, false, false, false, false, false, false, false, false]) rfl (by kernel_rfl) (by kernel_rfl) (by kernel_rfl) (fun _ _ _ h => h) rfl ?_; clear hS a; intro a hS)
    refine Z_take (i := 5) hS rfl want_none (e_load rfl (by repeat constructor) ty_sc9 (by rfl)) (listed' := [true, true, true, true, true, true, false, false, false, false, false, false, false]) rfl (by kernel_rfl) (by kernel_rfl) (by kernel_rfl) (by kernel_rfl) (by kernel_rfl) (sub_cons (by repeat constructor) (sub_cons (by repeat constructor) sub_nil)) (fun _ _ _ h => h) rfl ?_; clear hS a; intro a hS
    refine Z_take (i := 6) hS rfl want_none (e_lookupTC rfl rfl ty_mp126 ty_u9 ty_zv68 (fun w hh => (hh (ledA B s false) (by repeat constructor)).am)) (listed' := [true, true, true, true, true, true, true, false, false, false, false, false, false]) rfl (by kernel_rfl) (by kernel_rfl) (by kernel_rfl) (by kernel_rfl) (by kernel_rfl) (sub_cons (by repeat constructor) (sub_cons (by repeat constructor) sub_nil)) (fun _ _ _ h => h) rfl ?_; clear hS a; intro a hS
    rw [lk_acc, has_acc] at hS
    refine Z_take0 (i := 7) hS rfl want_none (e_move rfl) (listed' := [true, true, true, true, true, true, true, true, false, false, false, false, false]) rfl (by kernel_rfl) (by kernel_rfl) (by kernel_rfl) (fun _ _ _ h => h) rfl ?_; clear hS a; intro a hS
    refine Z_take0 (i := 8) hS rfl want_none (e_extract rfl rfl) (listed' := [true, true, true, true, true, true, true, true, true, false, false, false, false]) rfl (by kernel_rfl) (by kernel_rfl) (by kernel_rfl) (fun _ _ _ h => h) rfl ?_; clear hS a; intro a hS
    refine Z_take0 (i := 9) hS rfl want_none (e_extract rfl rfl) (listed' := [true, true, true, true, true, true, true, true, true, true, false, false, false]) rfl (by kernel_rfl) (by kernel_rfl) (by kernel_rfl) (fun _ _ _ h => h) rfl ?_; clear hS a; intro a hS
    refine Z_one (i := 10) rfl (want_none a hS.sl) (listed' := [true, true, true, true, true, true, true, true, true, true, true, false, false]) rfl (by kernel_rfl) (s_alloc hS ty_z68 rfl ?_); clear hS a; (try clear w); intro a w b8 hS
    refine Z_and hS (sub_cons (by repeat constructor) (sub_cons (by repeat constructor) sub_nil)) ?_
    refine Z_one (i := 11) rfl (want_none a hS.sl) (listed' := [true, true, true, true, true, true, true, true, true, true, true, true, false]) rfl (by kernel_rfl) (s_storeA hS rfl rfl ty_sz68 (by repeat constructor) (by rfl) (by rfl) (by rfl) ?_); clear hS; (try clear w); intro w hS
    refine Z_and hS (sub_cons (by repeat constructor) (sub_cons (by repeat constructor) sub_nil)) ?_
    refine Z_take0 (i := 12) hS rfl want_none (e_assign rfl) (listed' := [true, true, true, true, true, true, true, true, true, true, true, true, true]) rfl (by kernel_rfl) (by kernel_rfl) (by kernel_rfl) (fun _ _ _ h => h) rfl ?_; clear hS a; intro a hS
    refine Z_done (by kernel_rfl) ?_
    refine n_then ?_
    refine c_seq ?_
    refine c_region ?_
    refine L_op (s_e hS (e_move rfl) rfl ?_); clear hS a; intro a hS
    refine L_op (s_e hS (e_not rfl) rfl ?_); clear hS a; intro a hS
    refine L_nil ?_
    refine n_then ?_
    first | refine c_ifD hS rfl (fun hc28 => ?_) (fun hc28 => ?_) | refine c_if hS rfl (fun hc28 => ?_) (fun hc28 => ?_)
    ·
      refine c_seq ?_
      refine c_region ?_
      refine L_op (s_e hS (e_assign rfl) rfl ?_); clear hS a; intro a hS
      refine L_nil ?_
      refine n_then ?_
      refine wp_ret ?_
      refine r_then (r_block (r_then (r_then (r_block (r_then ?_)))))
      refine c_ret1 hS Try.results75 (.tmp rfl) ?_
      exact ⟨by rw [hpe, if_pos (by simpa using hc28)], hS.chg⟩
    ·
      have hfnd : (findA s.acs x.acc).isSome = true := by simpa using hc28
      refine wp_skip ?_
      refine n_then ?_
      refine c_seq ?_
      refine c_region ?_
      refine L_op (s_e hS (e_move rfl) rfl ?_); clear hS a; intro a hS
      first | (refine L_op (s_e hS (e_fa0 rfl ty_fo63_0) rfl ?_); clear hS a; intro a hS) | (refine L_op (s_e hS (e_faK rfl ty_fo63_0) rfl ?_); clear hS a; intro a hS)
      refine L_op (s_e hS (e_load rfl (by repeat constructor) ty_sc9 (by rfl)) rfl ?_); clear hS a; intro a hS
      refine L_op (s_e hS (e_lookupS rfl rfl ty_mp174 ty_u9 ty_zv3 (by repeat constructor)) rfl ?_); clear hS a; intro a hS
      rw [seen_lk] at hS
      first | (refine L_op (s_e hS (e_binN rfl rfl rfl (by omega)) rfl ?_); clear hS a; intro a hS) | (refine L_op (s_e hS (e_bin rfl rfl rfl) rfl ?_); clear hS a; intro a hS)
      refine L_op (s_mapUp hS rfl rfl rfl ty_mp174 ty_u9 (by repeat constructor) ?_); clear hS; (try clear w); intro w hS
      refine L_nil ?_
      refine n_then ?_
      refine wp_block ?_
      refine c_seq ?_
      refine c_region ?_
      refine L_op (s_e hS (e_move rfl) rfl ?_); clear hS a; intro a hS
      first | (refine L_op (s_e hS (e_fa0 rfl ty_fo63_0) rfl ?_); clear hS a; intro a hS) | (refine L_op (s_e hS (e_faK rfl ty_fo63_0) rfl ?_); clear hS a; intro a hS)
      refine L_op (s_e hS (e_load rfl (by repeat constructor) ty_sc9 (by rfl)) rfl ?_); clear hS a; intro a hS
      refine L_op (s_e hS (e_lookupS rfl rfl ty_mp174 ty_u9 ty_zv3 (by repeat constructor)) rfl ?_); clear hS a; intro a hS
      rw [lkM_set] at hS
      refine L_op (s_e hS (e_bin rfl rfl rfl) rfl ?_); clear hS a; intro a hS
      refine L_op (s_e hS (e_assign rfl) rfl ?_); clear hS a; intro a hS
      refine L_nil ?_
      refine n_then ?_
      first | refine c_ifD hS rfl (fun hc34 => ?_) (fun hc34 => ?_) | refine c_if hS rfl (fun hc34 => ?_) (fun hc34 => ?_)
      ·
        have hin : x.acc ∈ (ps.take i).map (·.acc) := by
          by_cases hh : x.acc ∈ (ps.take i).map (·.acc)
          · exact hh
          · rw [if_neg hh] at hc34; omega
        refine c_seq ?_
        refine c_region ?_
        refine L_op (s_e hS (e_assign rfl) rfl ?_); clear hS a; intro a hS
        refine L_nil ?_
        refine n_then ?_
        refine wp_ret ?_
        refine r_block (r_block (r_then (r_then (r_block (r_then ?_)))))
        refine c_ret1 hS Try.results75 (.tmp rfl) ?_
        exact ⟨by rw [hpe, if_neg (by rw [hfnd]; decide), if_pos hin], hS.chg⟩
      ·
        have hnin : ¬ x.acc ∈ (ps.take i).map (·.acc) := fun hh => by rw [if_pos hh] at hc34; omega
        refine c_seq ?_
        refine c_region ?_
        first | (refine L_op (s_e hS (e_fa0 rfl ty_fo63_1) rfl ?_); clear hS a; intro a hS) | (refine L_op (s_e hS (e_faK rfl ty_fo63_1) rfl ?_); clear hS a; intro a hS)
        refine L_op (s_e hS (e_load rfl (by repeat constructor) ty_sc3 (by rfl)) rfl ?_); clear hS a; intro a hS
        refine L_op (s_callP hS (.cons rfl .nil) cf98 rfl (lwithin_P x.u _) ?_); clear hS a; (try clear w); intro a w hS
        refine L_op (s_e hS (e_not rfl) rfl ?_); clear hS a; intro a hS
        refine L_op (s_e hS (e_move rfl) rfl ?_); clear hS a; intro a hS
        refine L_merge 5 50 (.bool (decide (¬ inU x.u ∨ ¬ inU x.f))) hS ?_ ?_
        · intro hcM50
          (first | refine g_splitD (t := 45) hS rfl ?_ ?_ | refine g_split (t := 45) hS rfl ?_ ?_) <;> (clear hS; intro hg45 hS)
          ·
            refine L_skip_f hS rfl rfl rfl ?_; clear hS a; intro a hS
            refine L_skip_f hS rfl rfl rfl ?_; clear hS a; intro a hS
            refine L_skip_f hS rfl rfl rfl ?_; clear hS a; intro a hS
            refine L_skip_f hS rfl rfl rfl ?_; clear hS a; intro a hS
            first | (refine L_op (s_e hS (e_pick_t rfl rfl) rfl ?_); clear hS a; intro a hS) | (refine L_op (s_e hS (e_pick_f rfl rfl) rfl ?_); clear hS a; intro a hS)
            exact hcM50 _ _ (hS.ends 6 50 45 rfl (congrArg Value.bool (by exact (decide_eq_true (.inl (by simpa using hg45))).symm)) rfl rfl (by first | exact congrArg Value.bool (decide_eq_true hg45).symm | exact congrArg Value.bool hg45.symm | simp [hg45]) rfl)
          ·
            first | (refine L_go hS rfl rfl (s_e hS (e_fa0 rfl ty_fo63_2) rfl ?_); clear hS a; intro a hS) | (refine L_go hS rfl rfl (s_e hS (e_faK rfl ty_fo63_2) rfl ?_); clear hS a; intro a hS)
            refine L_go hS rfl rfl (s_e hS (e_load rfl (by repeat constructor) ty_sc3 (by rfl)) rfl ?_); clear hS a; intro a hS
            refine L_go hS rfl rfl (s_callP hS (.cons rfl .nil) cf98 rfl (lwithin_P x.f _) ?_); clear hS a; (try clear w); intro a w hS
            refine L_go hS rfl rfl (s_e hS (e_not rfl) rfl ?_); clear hS a; intro a hS
            first | (refine L_op (s_e hS (e_pick_t rfl rfl) rfl ?_); clear hS a; intro a hS) | (refine L_op (s_e hS (e_pick_f rfl rfl) rfl ?_); clear hS a; intro a hS)
            exact hcM50 _ _ (hS.ends 6 50 45 rfl (congrArg Value.bool (by rw [← decide_not, decide_eq_decide]; exact ⟨.inr, fun h => h.resolve_left (by simpa using hg45)⟩)) rfl rfl (by first | exact congrArg Value.bool (decide_eq_false hg45).symm | exact congrArg Value.bool hg45.symm | simp [hg45]) rfl)
        · clear hS a; (try clear w); intro a w hS
          simp only [List.drop_succ_cons, List.drop_zero]
          refine L_op (s_e hS (e_assign rfl) rfl ?_); clear hS a; intro a hS
          refine L_nil ?_
          refine n_then ?_
          first | refine c_ifD hS rfl (fun hc40 => ?_) (fun hc40 => ?_) | refine c_if hS rfl (fun hc40 => ?_) (fun hc40 => ?_)
          ·
            refine c_seq ?_
            refine c_region ?_
            refine L_op (s_e hS (e_assign rfl) rfl ?_); clear hS a; intro a hS
            refine L_nil ?_
            refine n_then ?_
            refine wp_ret ?_
            refine r_block (r_block (r_then (r_then (r_block (r_then ?_)))))
            refine c_ret1 hS Try.results75 (.tmp rfl) ?_
            exact ⟨by rw [hpe, if_neg (by rw [hfnd]; decide), if_neg hnin, if_pos hc40], hS.chg⟩
          ·
            refine wp_skip ?_
            refine n_block ?_
            refine n_block ?_
            refine n_then ?_
            refine c_region ?_
            first | (refine L_op (s_e hS (e_binN rfl rfl rfl (by omega)) rfl ?_); clear hS a; intro a hS) | (refine L_op (s_e hS (e_bin rfl rfl rfl) rfl ?_); clear hS a; intro a hS)
            refine L_op (s_e hS (e_move rfl) rfl ?_); clear hS a; intro a hS
            refine L_nil ?_
            rw [if_neg (by rw [hfnd]; decide), if_neg hnin, if_neg hc40] at hpe
            have hsm : setM (seenM ((ps.take i).map (·.acc))) x.acc (.int .i64 (0 + 1)) = seenM ((ps.take (i + 1)).map (·.acc)) := by
              rw [setM_new _ (by rw [seen_has]; exact decide_eq_false hnin), htk]; simp [seenM]
            rw [if_neg hnin, hsm] at hS
            exact ⟨i + 1, by omega, (hS.slots (by repeat (first | exact trivial | refine ⟨rfl, ?_⟩))).pick (by repeat (first | exact Pick.nil | (refine Pick.cons (by repeat (first | exact Rem.head | apply Rem.tail)) ?_))), by omega, by rw [htk]; exact hpe⟩
  ·
    refine wp_exit ?_
    refine x_then (x_then (x_hit ?_))
    refine n_then ?_
    refine c_seq ?_
    refine c_region ?_
    refine L_op (s_e hS (e_assign rfl) rfl ?_); clear hS a; intro a hS
    refine L_nil ?_
    refine n_then ?_
    refine wp_ret ?_
    refine c_ret1 hS Try.results75 (.tmp rfl) ?_
    obtain rfl : i = ps.length := by omega
    rw [List.drop_length] at hpe
    exact ⟨by rw [hpe]; rfl, hS.chg⟩
end Go.Proofs.Ytheofhegdjjfgaa

namespace Go.Proofs.Ytheofhegdjjfgaa
open Go.RowKit

/-- a range's own place: what it has seen. -/
def itA (it m : Nat) (seen : List Nat) (n : Nat) : Asn := .any (fun k => k = it) (fun w => w.heap[it]? = some (.mapIter (some m) n seen.toArray n)) true
theorem it_ok {it m n : Nat} {seen : List Nat} {w : World} (h : w.heap[it]? = some (.mapIter (some m) n seen.toArray n)) : (itA it m seen n).ok w :=
  ⟨fun k hk => by obtain rfl : k = it := hk; exact (Array.getElem?_eq_some_iff.1 h).1, fun w' hw => by show w'.heap[it]? = _; rw [hw it rfl]; exact h⟩
theorem mkM_mem {l : List (ByteArray × Value)} {e : MapEntry} : ∀ {j : Nat}, e ∈ mkM j l → ∃ i k v, l[i]? = some (k, v) ∧ e = ⟨.string k, v, j + i⟩ := by
  induction l with
  | nil => intro j h; cases h
  | cons p l ih =>
    obtain ⟨k, v⟩ := p
    intro j h
    rcases List.mem_cons.1 h with rfl | h
    · exact ⟨0, k, v, rfl, rfl⟩
    · obtain ⟨i, k2, v2, h1, h2⟩ := ih h
      exact ⟨i + 1, k2, v2, h1, by rw [h2]; congr 1; omega⟩
theorem mkM_born (l : List (ByteArray × Value)) : ∀ j, (mkM j l).map (·.born) = List.range' j l.length := by
  induction l with
  | nil => intro j; rfl
  | cons p l ih => intro j; simp only [mkM, List.map_cons, ih, List.length_cons, List.range'_succ]

section
variable {P : Program} {n : Nat} {F0 : Nat → Prop} {w0 : World} {a : Act} {w : World} {L : List (Nat × Value)} {Γ : List Asn}
variable {K : Act → World → Prop} {Q : Exit → Act → World → Prop} {d ty : Nat} {dst : Option Tmp} {pos : String} {af : Array Edge} {g : Option (Nat × Bool)}
theorem s_rangeM {T Kt Et m : Nat} {l : List (ByteArray × Value)} {x : Operand} (hS : St n F0 w0 a w L Γ) (hx : ev L x = some (.map (some m))) (hT : mapT P T = some (Kt, Et))
    (hm : ∀ w, Hd Γ w → w.heap[m]? = some (.map (mkM 0 l).toArray l.length)) (hn : Nat.blt d n = true)
    (h : ∀ a' w' b, St n F0 w0 a' w' ((d, .pointer (some ⟨b, 0, none⟩)) :: L) (itA b m [] l.length :: Γ) → K a' w') : OW P ⟨some d, .range T x, ty, pos, af, g⟩ a w K Q := by
  have hb := hm w hS.hd
  have he : (execOp a.eval (⟨some d, .range T x, ty, pos, af, g⟩ : Oper)).run P w = .ok (.value (.pointer (some ⟨w.heap.size, 0, none⟩))) (w.alloc (.mapIter (some m) l.length #[] l.length)) := by
    simp only [execOp, hS.sl.ev hx, Instr.range, Sem.run_bind, underlying, run_program, Result.andThen_ok, mapT_eq hT, Sem.run_pure]
    simp [getObj, newObj, Sem.run, hb]
  refine ⟨?_⟩
  unfold Oper.wp
  rw [he]
  refine h _ _ w.heap.size ((hS.fresh (Chg.alloc _ _ _) (Y := itA w.heap.size m [] l.length) (it_ok (Go.World.alloc_heap_new w _)) ?_).put hn _)
  intro b hb2
  have : b = w.heap.size := hb2
  omega
theorem s_nextM {it m : Nat} {l : List (ByteArray × Value)} {seen : List Nat} {x : Operand} {Γ' : Nat → List Asn} (hS : St n F0 w0 a w L Γ) (hx : ev L x = some (.pointer (some ⟨it, 0, none⟩)))
    (hm : ∀ w, Hd Γ w → w.heap[m]? = some (.map (mkM 0 l).toArray l.length)) (hn : Nat.blt d n = true)
    (hr : ∀ i, Rep (itA it m seen l.length) (itA it m (seen ++ [i]) l.length) Γ (Γ' i))
    (h0 : (∀ i, i < l.length → i ∈ seen) → ∀ a', St n F0 w0 a' w ((d, .tuple [.bool false].toArray) :: L) Γ → K a' w)
    (h1 : ∀ i k v, l[i]? = some (k, v) → i ∉ seen → ∀ a' w', St n F0 w0 a' w' ((d, .tuple [.bool true, .string k, v].toArray) :: L) (Γ' i) → K a' w') :
    OW P ⟨some d, .next x false, ty, pos, af, g⟩ a w K Q := by
  have hb := hm w hS.hd
  have hi : w.heap[it]? = some (.mapIter (some m) l.length seen.toArray l.length) := hS.get (hr 0).mem
  have hlt := (Array.getElem?_eq_some_iff.1 hi).1
  refine ⟨?_⟩
  unfold Oper.wp
  have hop : (execOp a.eval (⟨some d, .next x false, ty, pos, af, g⟩ : Oper)).run P w = ((Instr.next (.pointer (some ⟨it, 0, none⟩)) false ty).run P w).andThen (fun v w' => .ok (.value v) w') := by
    simp only [execOp, hS.sl.ev hx, Sem.run_bind, Sem.run_pure]
  rw [hop]
  rcases run_next_at (P := P) w ty it m l.length l.length seen.toArray (mkM 0 l).toArray l.length hi hb (fun e he => by
      obtain ⟨i, k, v, h2, rfl⟩ := mkM_mem (j := 0) (by simpa using he)
      have := (List.getElem?_eq_some_iff.1 h2).1
      simp only; omega) (Nat.le_refl _) with ⟨hz, hrun⟩ | ⟨e, he, w1, hw1, hrun⟩
  · rw [hrun]
    refine h0 (fun i hil => ?_) _ (hS.put hn _)
    have hg := mkM_get (j := 0) (List.getElem?_eq_getElem hil : l[i]? = some (l[i].1, l[i].2))
    have hmem := List.mem_of_getElem? hg
    unfold leftOf at hz
    have hemp := Array.eq_empty_of_size_eq_zero hz
    rw [Array.filter_eq_empty_iff] at hemp
    have := hemp _ (by simpa using hmem)
    simpa using this
  · rw [hrun]
    unfold leftOf at he
    have he2 : e ∈ mkM 0 l ∧ e.born ∉ seen := by simpa using he
    obtain ⟨i, k, v, h2, h3⟩ := mkM_mem he2.1
    rw [Nat.zero_add] at h3
    have hns : i ∉ seen := by have := he2.2; rw [h3] at this; exact this
    rw [h3]
    have hch : Chg (itA it m seen l.length).F w (Go.ChangeMaps.setBlock w1 it (.mapIter (some m) l.length (seen.toArray.push i) l.length)) ∧ (Go.ChangeMaps.setBlock w1 it (.mapIter (some m) l.length (seen.toArray.push i) l.length)).heap[it]? = some (.mapIter (some m) l.length (seen ++ [i]).toArray l.length) := by
      have hpush : seen.toArray.push i = (seen ++ [i]).toArray := by simp
      have hq : w1.heap = w.heap ∧ w1.os = w.os ∧ w1.tape = w.tape ∧ w1.output = w.output := by
        rcases hw1 with rfl | rfl
        · exact ⟨rfl, rfl, rfl, rfl⟩
        · exact ⟨rfl, rfl, rfl, rfl⟩
      obtain ⟨q1, q2, q3, q4⟩ := hq
      refine ⟨⟨q2, q3, q4, by simp [Go.ChangeMaps.setBlock, q1], fun q hq hne => ?_⟩, ?_⟩
      · have : it ≠ q := fun e => hne e.symm
        simp [Go.ChangeMaps.setBlock, Array.getElem?_setIfInBounds_ne this, q1]
      · simp [Go.ChangeMaps.setBlock, hlt, q1]
    exact h1 i k v h2 hns _ _ ((hS.upd (hr i) hch.1 (it_ok hch.2) (fun q hq => .inl hq) rfl).put hn _)
theorem e_entryM {it m i : Nat} {l : List (ByteArray × Value)} {seen : List Nat} {x : Operand} {k : ByteArray} {v : Value} (hx : ev L x = some (.pointer (some ⟨it, 0, none⟩)))
    (hm : ∀ w, Hd Γ w → w.heap[m]? = some (.map (mkM 0 l).toArray l.length)) (hi : itA it m (seen ++ [i]) l.length ∈ Γ) (hl : l[i]? = some (k, v)) :
    Ex P n a L Γ ⟨dst, .entry x, ty, pos, af, g⟩ (.tuple [.string k, v].toArray) := fun hs w hh => by
  have hb := hm w hh
  have hit : w.heap[it]? = some (.mapIter (some m) l.length (seen.toArray.push i) l.length) := by
    have : w.heap[it]? = some (.mapIter (some m) l.length (seen ++ [i]).toArray l.length) := hh _ hi
    rw [this]; simp
  have hg := mkM_get (j := 0) hl
  rw [Nat.zero_add] at hg
  have hrun := run_entry_at (P := P) w it m l.length seen.toArray (mkM 0 l).toArray l.length ⟨.string k, v, i⟩ hit hb (by simpa using List.mem_of_getElem? hg) (by
    show (((mkM 0 l).toArray.toList).map (·.born)).Nodup
    rw [show (mkM 0 l).toArray.toList = mkM 0 l from rfl, mkM_born]
    exact List.nodup_range')
  simp only [execOp, hs.ev hx, Sem.run_bind, hrun, Result.andThen_ok, Sem.run_pure]
end

/-- what a step of a range may yield: nothing, or an entry. -/
def nxL : Option (Nat × ByteArray × Value) → List Value
  | none => [.bool false]
  | some (_, k, v) => [.bool true, .string k, v]
def nxS (seen : List Nat) : Option (Nat × ByteArray × Value) → List Nat
  | none => seen
  | some (i, _, _) => seen ++ [i]
def nxO (l : List (ByteArray × Value)) (seen : List Nat) : Option (Nat × ByteArray × Value) → Prop
  | none => ∀ i, i < l.length → i ∈ seen
  | some (i, k, v) => l[i]? = some (k, v) ∧ i ∉ seen
theorem nx0 (o : Option (Nat × ByteArray × Value)) : nth (nxL o) 0 = some (.bool o.isSome) := by
  rcases o with _ | ⟨i, k, v⟩ <;> rfl
section
variable {P : Program} {n : Nat} {F0 : Nat → Prop} {w0 : World} {a : Act} {w : World} {L : List (Nat × Value)} {Γ : List Asn}
variable {K : Act → World → Prop} {Q : Exit → Act → World → Prop} {d ty : Nat} {pos : String} {af : Array Edge} {g : Option (Nat × Bool)}
theorem s_nextO {it m : Nat} {l : List (ByteArray × Value)} {seen : List Nat} {x : Operand} {Γ' : List Nat → List Asn} (hS : St n F0 w0 a w L Γ) (hx : ev L x = some (.pointer (some ⟨it, 0, none⟩)))
    (hm : ∀ w, Hd Γ w → w.heap[m]? = some (.map (mkM 0 l).toArray l.length)) (hn : Nat.blt d n = true)
    (hr : ∀ s, Rep (itA it m seen l.length) (itA it m s l.length) Γ (Γ' s))
    (h : ∀ o, nxO l seen o → ∀ a' w', St n F0 w0 a' w' ((d, .tuple (nxL o).toArray) :: L) (Γ' (nxS seen o)) → K a' w') : OW P ⟨some d, .next x false, ty, pos, af, g⟩ a w K Q := by
  refine s_nextM hS hx hm hn (Γ' := fun i => Γ' (seen ++ [i])) (fun i => hr _) (fun h0 a' hS' => ?_) (fun i k v h1 h2 a' w' hS' => h (some (i, k, v)) ⟨h1, h2⟩ a' w' hS')
  refine h none h0 a' w ?_
  have hid : ∀ {Γ Γ' : List Asn} {X : Asn}, Rep X X Γ Γ' → Γ = Γ' := by
    intro Γ Γ' X hR
    induction hR with
    | head => rfl
    | tail _ ih => rw [ih]
  show St n F0 w0 a' w _ (Γ' seen)
  rw [← hid (hr seen)]; exact hS'
end
end Go.Proofs.Ytheofhegdjjfgaa

namespace Go.Proofs.Ytheofhegdjjfgaa
open Go.RowKit

/-- what is said hangs on the blocks below B alone. -/
def AbB {β : Type} (B : Nat) (I : β → World → Prop) : Prop :=
  ∀ s W W', I s W → W'.os = W.os → W'.tape = W.tape → W'.output = W.output → W.heap.size ≤ W'.heap.size → (∀ k, k < B → W'.heap[k]? = W.heap[k]?) → I s W'
theorem AbB.alloc {β : Type} {B : Nat} {I : β → World → Prop} (h : AbB B I) {s : β} {W : World} (hB : B ≤ W.heap.size) (hs : I s W) (o : Obj) : I s (W.alloc o) :=
  h s W _ hs rfl rfl rfl (by simp) (fun k hk => Below.heap_alloc W o k (by omega))
theorem AbB.put {β : Type} {B : Nat} {I : β → World → Prop} (h : AbB B I) {s : β} {W : World} {l : Nat} (hl : B ≤ l) (hs : I s W) (o : Obj) : I s (W.putObj l o) :=
  h s W _ hs rfl rfl rfl (by simp) (fun k hk => World.putObj_heap_other (by omega))

/-- an iterator's contract: what it needs of memory between two rounds is K0. -/
def SeqB {α : Type} (P : Program) (gf : Nat) (lb : Array Value) (encs : α → Array Value) (S Sp : List α → Prop) (N : Nat) (K0 : World → Prop) : Prop :=
  ∀ (l : Nat) (J Jx : List α → World → Prop) (W : World), (∀ pre W', J pre W' → K0 W') → AbB W.heap.size J → AbB W.heap.size Jx →
    (∀ pre x W1, J pre W1 → pre.length < N → YieldAt Fence.wide 0 P l (encs x) W1 fun e W' => (e = .returned (.bool true) ∧ J (pre ++ [x]) W') ∨ (e = .returned (.bool false) ∧ Jx (pre ++ [x]) W')) →
    J [] W → CallsIn Fence.wide 0 P gf (#[.func (.yield l) #[] #[]] ++ lb) W fun e W' => (∃ v, e = .returned v) ∧ ((∃ xs, S xs ∧ J xs W') ∨ ∃ pre, Sp pre ∧ Jx pre W')

/-- how a round's body may be left: what lay above B lies as it lay. -/
def postB {α : Type} (B : Nat) (I : List α → World → Prop) (Ix : Code → List α → World → Prop) (xs : List α) (W : World) : Exit → Act → World → Prop
  | .normal, _, W' => (∀ k, B ≤ k → k < W.heap.size → W'.heap[k]? = W.heap[k]?) ∧ I xs W'
  | .ret, _, W' => (∀ k, B ≤ k → k < W.heap.size → W'.heap[k]? = W.heap[k]?) ∧ Ix .ret xs W'
  | .exit id, _, W' => (∀ k, B ≤ k → k < W.heap.size → W'.heap[k]? = W.heap[k]?) ∧ Ix (.exit id) xs W'
  | .goto t, _, W' => (∀ k, B ≤ k → k < W.heap.size → W'.heap[k]? = W.heap[k]?) ∧ Ix (.goto t) xs W'
  | .panic _, _, _ => False
  | .outgrown, _, _ => False

theorem putObj_at {W : World} {l : Nat} {o : Obj} {o' : Obj} (h : W.heap[l]? = some o) : (W.putObj l o').heap[l]? = some o' := World.putObj_heap_same (Array.getElem?_eq_some_iff.1 h).1

/-- one block turned, of those that were. -/
structure Turn (l : Nat) (W W' : World) : Prop where
  os : W'.os = W.os
  tape : W'.tape = W.tape
  output : W'.output = W.output
  size : W'.heap.size = W.heap.size
  same : ∀ k, k ≠ l → W'.heap[k]? = W.heap[k]?
theorem Turn.put (W : World) (l : Nat) (o : Obj) : Turn l W (W.putObj l o) := ⟨rfl, rfl, rfl, by simp, fun _ hk => World.putObj_heap_other hk⟩
theorem rangeFunc_B {P : Program} {α : Type} {g : Operand} {ps : Array Tmp} {assign body : Code} {Q : Exit → Act → World → Prop} {a : Act} {w : World}
    {gf : Nat} {lb : Array Value} (hg : a.eval g = .func (.func gf) #[] lb) (eg : CallsTo P gf) {encs : α → Array Value} {S Sp : List α → Prop} {N : Nat} {K0 : World → Prop}
    (hseq : SeqB P gf lb encs S Sp N K0) (hps : ∀ x, (encs x).size = ps.size) (I : List α → World → Prop) (Ix : Code → List α → World → Prop)
    (hI : AbB w.heap.size I) (hIx : ∀ c, AbB w.heap.size (Ix c)) (hK : ∀ pre W', I pre W' → K0 W') (h0 : I [] w)
    (hround : ∀ (l : Nat) (pre : List α) (x : α) (W : World), w.heap.size + 2 ≤ W.heap.size → I pre W → pre.length < N →
      assign.wpIn (Fence.wide.inRound l) 0 P (Exit.then (fun a1 W1 => ((∀ k, w.heap.size ≤ k → k < W.heap.size → W1.heap[k]? = W.heap[k]?) ∧ W.heap.size ≤ W1.heap.size) ∧ ∀ W2, Turn (w.heap.size + 1) W1 W2 → body.wpIn (Fence.wide.inRound l) 0 P (postB w.heap.size I Ix (pre ++ [x]) W2) a1 W2) (fun _ _ _ => False))
        { tmps := (ps.zip (encs x)).foldl (fun t (p, v) => t.setIfInBounds p v) a.tmps, defers := [] } W)
    (hdone : ∀ (D : Nat) (xs : List α) (W : World), w.heap.size ≤ D → S xs → I xs W → W.heap[D]? = some (.deferred (some [])) → Q .normal { a with defers := { target := .collected D, args := #[] } :: a.defers } W)
    (hstop : ∀ (D : Nat) (c : Code) (pre : List α) (W : World), w.heap.size ≤ D → Sp pre → Ix c pre W → W.heap[D]? = some (.deferred (some [])) → c.wpIn Fence.wide 0 P Q { a with defers := { target := .collected D, args := #[] } :: a.defers } W) :
    (Code.rangeFunc g ps assign body).wpIn Fence.wide 0 P Q a w := by
  refine wpIn_rangeFunc fun fn hfn => ?_
  obtain ⟨rec, hrec⟩ : ∃ rec : LoopState → Option Code → Loop, rec = fun st pe => { state := st, pending := pe, fn, tmps := a.tmps, params := ps, assign, body, defers := w.heap.size } := ⟨_, rfl⟩
  obtain ⟨W1, hW1⟩ : ∃ W1, (w.alloc (.deferred (some []))).alloc (.loop (rec .ready none)) = W1 := ⟨_, rfl⟩
  have hs1 : W1.heap.size = w.heap.size + 2 := by rw [← hW1]; simp
  have hL : W1.heap[w.heap.size + 1]? = some (.loop (rec .ready none)) := by
    rw [← hW1]; have := World.alloc_heap_new (w.alloc (.deferred (some []))) (.loop (rec .ready none)); rwa [World.size_alloc] at this
  have hD : W1.heap[w.heap.size]? = some (.deferred (some [])) := by
    rw [← hW1]; exact (Below.heap_alloc _ _ _ (by simp)).trans (World.alloc_heap_new w _)
  have hI1 : I [] W1 := by rw [← hW1]; exact hI.alloc (by simp) (hI.alloc (Nat.le_refl _) h0 _) _
  refine ⟨w.heap.size + 1, [{ target := .collected w.heap.size, args := #[] }], W1, { target := .fn (.func gf) lb, args := #[.func (.yield (w.heap.size + 1)) #[] #[]] }, W1, gf,
    #[.func (.yield (w.heap.size + 1)) #[] #[]] ++ lb, W1, ?_, ?_, fun _ _ => trivial, ?_, fun h => (by cases h), ?_⟩
  · rw [← hW1, hrec]; exact run_enterLoop_outer _ _ _ _ _
  · simp only [resolve, hg]
    simp [go_sem]
  · have := eg (#[.func (.yield (w.heap.size + 1)) #[] #[]] ++ lb) W1
    exact this
  have key := hseq (w.heap.size + 1) (fun pre W => w.heap.size + 2 ≤ W.heap.size ∧ I pre W ∧ W.heap[w.heap.size + 1]? = some (.loop (rec .ready none)) ∧ W.heap[w.heap.size]? = some (.deferred (some [])))
    (fun pre W => w.heap.size + 2 ≤ W.heap.size ∧ ∃ c, Ix c pre W ∧ W.heap[w.heap.size + 1]? = some (.loop (rec .done (some c))) ∧ W.heap[w.heap.size]? = some (.deferred (some []))) W1
    (fun pre W' h => hK pre W' h.2.1)
    (fun s A B h e1 e2 e3 e4 e5 => ⟨Nat.le_trans h.1 e4, hI s A B h.2.1 e1 e2 e3 e4 (fun k hk => e5 k (by omega)), (e5 _ (by omega)).trans h.2.2.1, (e5 _ (by omega)).trans h.2.2.2⟩)
    (fun s A B h e1 e2 e3 e4 e5 => by
      obtain ⟨hz, c, h1, h2, h3⟩ := h
      exact ⟨Nat.le_trans hz e4, c, hIx c s A B h1 e1 e2 e3 e4 (fun k hk => e5 k (by omega)), (e5 _ (by omega)).trans h2, (e5 _ (by omega)).trans h3⟩)
    ?_ ⟨by omega, hI1, hL, hD⟩
  · refine key.mono ?_
    rintro e W2 ⟨⟨v, rfl⟩, (⟨xs, hS, hz, hi, hl, hk⟩ | ⟨pre, hSp, hz, c, hi, hl, hk⟩)⟩
    · exact ⟨none, _, by have := run_endLoop (P := P) hl (by rw [hrec]; simp); rw [hrec] at this; exact this, hdone _ xs _ (Nat.le_refl _) hS (hI.put (by omega) hi _) ((World.putObj_heap_other (by omega)).trans hk)⟩
    · exact ⟨some c, _, by have := run_endLoop (P := P) hl (by rw [hrec]; simp); rw [hrec] at this; exact this, hstop _ c pre _ (Nat.le_refl _) hSp ((hIx c).put (by omega) hi _) ((World.putObj_heap_other (by omega)).trans hk)⟩
  · rintro pre x W ⟨hz, hi, hl, hk⟩ hlen
    have hy := run_yield (P := P) (args := encs x) hl (by rw [hrec]; exact hps x)
    rw [hrec] at hy
    refine ⟨fn, _, assign, body, hy, roundIn_of_wpIn hfn (wpIn_mono (hround _ pre x W hz hi hlen) ?_)⟩
    rintro e a1 W1' hp1
    cases e with
    | exit _ => exact hp1.elim
    | goto _ => exact hp1.elim
    | ret => exact hp1.elim
    | panic _ => exact hp1.elim
    | outgrown => exact hp1.elim
    | normal => ?_
    obtain ⟨⟨hkeep, hzz⟩, hbody⟩ := hp1
    have hl1 := (hkeep (w.heap.size + 1) (by omega) (by omega)).trans hl
    have hk1 := (hkeep w.heap.size (Nat.le_refl _) (by omega)).trans hk
    refine ⟨_, run_beginRound hl1 (by rw [hrec]), ?_⟩
    obtain ⟨W2, hW2⟩ : ∃ W2, W1'.putObj (w.heap.size + 1) (.loop { rec .ready none with state := .busy }) = W2 := ⟨_, rfl⟩
    have hl2 : W2.heap[w.heap.size + 1]? = some (.loop { rec .ready none with state := .busy }) := by rw [← hW2]; exact putObj_at hl1
    have hk2 : W2.heap[w.heap.size]? = some (.deferred (some [])) := by rw [← hW2]; exact (World.putObj_heap_other (by omega)).trans hk1
    have hz2 : w.heap.size + 2 ≤ W2.heap.size := by rw [← hW2]; simp; omega
    rw [hW2]
    refine wpIn_mono (hbody W2 (by rw [← hW2]; exact Turn.put _ _ _)) ?_
    have fin : ∀ (jump : Option Code) (W3 : World), (∀ k, w.heap.size ≤ k → k < W2.heap.size → W3.heap[k]? = W2.heap[k]?) → w.heap.size + 2 ≤ W3.heap.size ∧
        (Instr.endRound (w.heap.size + 1) jump).run P W3 = .ok (.bool jump.isNone) (W3.putObj (w.heap.size + 1) (.loop (rec (if jump.isNone then .ready else .done) jump))) ∧
        (W3.putObj (w.heap.size + 1) (.loop (rec (if jump.isNone then .ready else .done) jump))).heap[w.heap.size + 1]? = some (.loop (rec (if jump.isNone then .ready else .done) jump)) ∧
        (W3.putObj (w.heap.size + 1) (.loop (rec (if jump.isNone then .ready else .done) jump))).heap[w.heap.size]? = some (.deferred (some [])) := fun jump W3 hk3 => by
      have hl3 := (hk3 _ (by omega) (by omega)).trans hl2
      have hd3 := (hk3 _ (Nat.le_refl _) (by omega)).trans hk2
      have hr := run_endRound (P := P) jump hl3
      rw [hrec] at hr ⊢
      exact ⟨by have := (Array.getElem?_eq_some_iff.1 hl3).1; omega, hr, putObj_at hl3, (World.putObj_heap_other (by omega)).trans hd3⟩
    rintro e a3 W3 hp
    cases e with
    | normal =>
      obtain ⟨hk3, hi3⟩ := hp
      obtain ⟨hz3, hr, hl4, hk4⟩ := fin none W3 hk3
      exact ⟨_, _, hr, .inl ⟨rfl, by simpa using hz3, hI.put (by omega) hi3 _, hl4, hk4⟩⟩
    | ret =>
      obtain ⟨hk3, hi3⟩ := hp
      obtain ⟨hz3, hr, hl4, hk4⟩ := fin (some .ret) W3 hk3
      exact ⟨_, _, hr, .inr ⟨rfl, by simpa using hz3, .ret, (hIx _).put (by omega) hi3 _, hl4, hk4⟩⟩
    | exit id =>
      obtain ⟨hk3, hi3⟩ := hp
      obtain ⟨hz3, hr, hl4, hk4⟩ := fin (some (.exit id)) W3 hk3
      exact ⟨_, _, hr, .inr ⟨rfl, by simpa using hz3, .exit id, (hIx _).put (by omega) hi3 _, hl4, hk4⟩⟩
    | goto t =>
      obtain ⟨hk3, hi3⟩ := hp
      obtain ⟨hz3, hr, hl4, hk4⟩ := fin (some (.goto t)) W3 hk3
      exact ⟨_, _, hr, .inr ⟨rfl, by simpa using hz3, .goto t, (hIx _).put (by omega) hi3 _, hl4, hk4⟩⟩
    | panic ch => exact hp.elim
    | outgrown => exact hp.elim
end Go.Proofs.Ytheofhegdjjfgaa

namespace Go.Proofs.Ytheofhegdjjfgaa
open Go.RowKit

def FW (r : Option Nat) : Fence := { Fence.wide with round := r }
section
variable {P : Program} {n : Nat} {F0 : Nat → Prop} {w0 : World} {a : Act} {w : World} {L : List (Nat × Value)} {Γ : List Asn} {r : Option Nat} {N : Nat}
variable {K : Act → World → Prop} {Q : Exit → Act → World → Prop} {d ty : Nat} {dst : Option Tmp} {pos : String} {af : Array Edge} {g : Option (Nat × Bool)} {op : Op} {rest l : List Oper}

theorem oper_in {o : Oper} (hd : ∀ c, o.op ≠ .defer c) (h : o.wp P a w K Q) : o.wpIn (FW r) N P a w K Q := by
  refine ⟨fun _ _ => trivial, ?_⟩
  rw [Oper.semAt_eq _ _ _ hd]
  unfold Oper.wp at h
  generalize (execOp a.eval o).run P w = res at h
  cases res with
  | ok nx w' =>
    cases nx with
    | value v => exact h
    | skip => exact h
    | defer d => exact h
    | enter f args => exact ⟨fun hh => (by cases hh), CallsIn.mono (F := Fence.wide) (callsIn_wide.2 h) (fun e w2 hr => by cases e <;> exact hr)⟩
    | row nm args => exact ⟨fun hh => (by cases hh), fun c cs _ => let ⟨v, w2, hr, s⟩ := h c cs; ⟨v, w2, hr, stepsIn_wide.2 s⟩⟩
    | _ => exact h.elim
  | halt s w' => cases s <;> first | exact h | exact h.elim

def notDefer : Op → Bool
  | .defer _ => false
  | _ => true
theorem notDefer_ne {o : Op} (h : notDefer o = true) : ∀ c, o ≠ .defer c := fun c e => by subst e; cases h

theorem R_nil {ops : Array Oper} (h : Q .normal a w) : wpListIn (FW r) N P ops Q [] a w := h
theorem R_op {ops : Array Oper} (hd : notDefer op = true) (h : OW P ⟨dst, op, ty, pos, af, none⟩ a w (wpListIn (FW r) N P ops Q rest) Q) : wpListIn (FW r) N P ops Q (⟨dst, op, ty, pos, af, none⟩ :: rest) a w := by
  unfold wpListIn
  rw [if_pos (by simp [Region.wanted])]
  exact oper_in (notDefer_ne hd) h.h
theorem R_go {j t : Nat} {b : Bool} (hd : notDefer op = true) (hS : St n F0 w0 a w L Γ) (hj : opDst l j = some t) (hv : lk L t = some (.bool b))
    (h : OW P ⟨dst, op, ty, pos, af, some (j, b)⟩ a w (wpListIn (FW r) N P l.toArray Q rest) Q) : wpListIn (FW r) N P l.toArray Q (⟨dst, op, ty, pos, af, some (j, b)⟩ :: rest) a w := by
  unfold wpListIn
  rw [if_pos (by simp [Region.wanted, yielded_of hS.sl hj hv])]
  exact oper_in (notDefer_ne hd) h.h
theorem R_skip_t {j t : Nat} (hS : St n F0 w0 a w L Γ) (hj : opDst l j = some t) (hv : lk L t = some (.bool false)) (hn : Nat.blt d n = true)
    (h : ∀ a', St n F0 w0 a' w ((d, undef) :: L) Γ → wpListIn (FW r) N P l.toArray Q rest a' w) : wpListIn (FW r) N P l.toArray Q (⟨some d, op, ty, pos, af, some (j, true)⟩ :: rest) a w := by
  unfold wpListIn
  rw [if_neg (by simp [Region.wanted, yielded_of hS.sl hj hv])]
  exact ⟨fun _ _ => trivial, h _ (hS.put hn _)⟩
theorem R_skip_f {j t : Nat} (hS : St n F0 w0 a w L Γ) (hj : opDst l j = some t) (hv : lk L t = some (.bool true)) (hn : Nat.blt d n = true)
    (h : ∀ a', St n F0 w0 a' w ((d, undef) :: L) Γ → wpListIn (FW r) N P l.toArray Q rest a' w) : wpListIn (FW r) N P l.toArray Q (⟨some d, op, ty, pos, af, some (j, false)⟩ :: rest) a w := by
  unfold wpListIn
  rw [if_neg (by simp [Region.wanted, yielded_of hS.sl hj hv])]
  exact ⟨fun _ _ => trivial, h _ (hS.put hn _)⟩
theorem R_skip_u {j t : Nat} {b : Bool} (hS : St n F0 w0 a w L Γ) (hj : opDst l j = some t) (hv : lk L t = some undef) (hn : Nat.blt d n = true)
    (h : ∀ a', St n F0 w0 a' w ((d, undef) :: L) Γ → wpListIn (FW r) N P l.toArray Q rest a' w) : wpListIn (FW r) N P l.toArray Q (⟨some d, op, ty, pos, af, some (j, b)⟩ :: rest) a w := by
  unfold wpListIn
  rw [if_neg (by simp [Region.wanted, yielded_undef hS.sl hj hv])]
  exact ⟨fun _ _ => trivial, h _ (hS.put hn _)⟩
theorem R_merge {ops : Array Oper} (m t : Nat) (v : Value) (_hS : St n F0 w0 a w L Γ) (hseg : (∀ a w, St n F0 w0 a w ((t, v) :: L) Γ → wpListIn (FW r) N P ops Q (l.drop m) a w) → wpListIn (FW r) N P ops Q l a w) (hcont : ∀ a w, St n F0 w0 a w ((t, v) :: L) Γ → wpListIn (FW r) N P ops Q (l.drop m) a w) : wpListIn (FW r) N P ops Q l a w := hseg hcont
/-- a call of yield. -/
theorem R_yield {ops : Array Oper} {x : Operand} {xs : List Operand} {vs : List Value} {ts : Array TypeId} {y : Nat} {R : Ending → World → Prop} (hS : St n F0 w0 a w L Γ) (hx : ev L x = some (.func (.yield y) #[] #[])) (hxs : Evs L xs vs)
    (hy : YieldAt Fence.wide 0 P y vs.toArray w R) (h : ∀ e w', R e w' → ∃ v, e = .returned v ∧ wpListIn (FW none) 0 P ops Q rest (a.put dst v) w') :
    wpListIn (FW none) 0 P ops Q (⟨dst, .call ⟨.value x, xs.toArray, ts⟩, ty, pos, af, none⟩ :: rest) a w := by
  unfold wpListIn
  rw [if_pos (by simp [Region.wanted])]
  obtain ⟨fn, tmps, assign, body, hrun, hround⟩ := hy
  refine ⟨fun _ _ => trivial, ?_⟩
  have he : (execOp a.eval (⟨dst, .call ⟨.value x, xs.toArray, ts⟩, ty, pos, af, none⟩ : Oper)).run P w = .ok (.round y fn tmps assign body) w := by
    have h1 := hS.sl.evs hxs
    have hr : (resolve a.eval ⟨.value x, xs.toArray, ts⟩ ty).run P w = .ok ⟨.fn (.yield y) #[], #[] ++ vs.toArray⟩ w := by
      simp only [resolve, hS.sl.ev hx, h1, Deferred.ofValue]; rfl
    show ((resolve a.eval ⟨.value x, xs.toArray, ts⟩ ty) >>= fun d => invoke d.target d.args).run P w = _
    rw [Sem.run_bind, hr]
    show (invoke (.fn (.yield y) #[]) (#[] ++ vs.toArray)).run P w = _
    have e1 : (#[] ++ vs.toArray : Array Value) = vs.toArray := by simp
    rw [e1]
    simpa [invoke] using hrun
  rw [Oper.semAt_eq _ _ _ (fun c e => by cases e), he]
  refine ⟨fun hh => (by cases hh), hround.mono fun e w' hR => ?_⟩
  obtain ⟨v, rfl, hK⟩ := h e w' hR
  exact hK

theorem R_region {id : Nat} {l : List Oper} (h : wpListIn (FW r) N P l.toArray Q l a w) : (Code.region id l.toArray false).wpIn (FW r) N P Q a w := wpIn_region_lit h
theorem R_seq {x y : Code} (h : x.wpIn (FW r) N P (Exit.then (y.wpIn (FW r) N P Q) Q) a w) : (Code.seq x y).wpIn (FW r) N P Q a w := wpIn_seq h
theorem R_skip (h : Q .normal a w) : Code.skip.wpIn (FW r) N P Q a w := wpIn_skip h
theorem R_block {id : Nat} {c : Code} (h : c.wpIn (FW r) N P (Exit.inBlock id Q) a w) : (Code.block id c).wpIn (FW r) N P Q a w := wpIn_block h
theorem R_ret (h : Q .ret a w) : Code.ret.wpIn (FW r) N P Q a w := wpIn_ret h
theorem R_exit {id : Nat} (h : Q (.exit id) a w) : (Code.exit id).wpIn (FW r) N P Q a w := wpIn_exit h
theorem R_if_t {c : Operand} {x y : Code} (hS : St n F0 w0 a w L Γ) (hc : ev L c = some (.bool true)) (h : x.wpIn (FW r) N P Q a w) : (Code.cond c x y).wpIn (FW r) N P Q a w := wpIn_cond_true (hS.sl.ev hc) h
theorem R_if_f {c : Operand} {x y : Code} (hS : St n F0 w0 a w L Γ) (hc : ev L c = some (.bool false)) (h : y.wpIn (FW r) N P Q a w) : (Code.cond c x y).wpIn (FW r) N P Q a w := wpIn_cond_false (hS.sl.ev hc) h
theorem R_if {c : Operand} {x y : Code} {b : Bool} (hS : St n F0 w0 a w L Γ) (hc : ev L c = some (.bool b)) (h1 : b = true → x.wpIn (FW r) N P Q a w) (h2 : b = false → y.wpIn (FW r) N P Q a w) : (Code.cond c x y).wpIn (FW r) N P Q a w :=
  wpIn_cond_split (hS.sl.ev hc) h1 h2
theorem R_ifD {c : Operand} {x y : Code} {p : Prop} [hp : Decidable p] (hS : St n F0 w0 a w L Γ) (hc : ev L c = some (.bool (decide p))) (h1 : p → x.wpIn (FW r) N P Q a w) (h2 : ¬ p → y.wpIn (FW r) N P Q a w) : (Code.cond c x y).wpIn (FW r) N P Q a w :=
  wpIn_cond_split (hS.sl.ev hc) (fun h => h1 (of_decide_eq_true h)) (fun h => h2 (of_decide_eq_false h))
/-- a loop, by a measure on what it goes through. -/
theorem R_loop {γ : Type} {c : Code} (I : γ → Act → World → Prop) (μ : γ → Nat) (g0 : γ) (h0 : I g0 a w)
    (round : ∀ g a w, I g a w → c.wpIn (FW r) N P (Exit.then (fun a' w' => ∃ g', μ g' < μ g ∧ I g' a' w') Q) a w) : (Code.loop c).wpIn (FW r) N P Q a w := by
  intro b k cs hro hb hr
  have key : ∀ m g a w, μ g = m → I g a w → ∃ e a' w', Q e a' w' ∧ ArrivesIn (Machine.fenced P (FW r)) P (lone (b.atR a (.code c :: .inLoop c :: k)) cs w) b k cs e a' w' := by
    intro m
    induction m using Nat.strongRecOn with
    | _ m ih =>
      intro g a w hm hI
      obtain ⟨e, a1, w1, hq, harr⟩ := round g a w hI b (.inLoop c :: k) cs hro hb hr
      cases e with
      | normal =>
        obtain ⟨g', hlt, hI'⟩ := hq
        obtain ⟨e2, a2, w2, hq2, harr2⟩ := ih (μ g') (hm ▸ hlt) g' a1 w1 rfl hI'
        exact ⟨e2, a2, w2, hq2, .of_steps (StepsIn.trans harr (.one (fenced_calm hb hr rfl) stepR_inLoop)) harr2⟩
      | exit id => exact ⟨_, a1, w1, hq, .pass (x := .inLoop c) rfl (fun _ _ => .inl (by simp)) harr⟩
      | goto l => exact ⟨_, a1, w1, hq, .pass (x := .inLoop c) rfl (fun _ _ => .inl (by simp)) harr⟩
      | ret => exact ⟨_, a1, w1, hq, .pass (x := .inLoop c) rfl (fun _ _ => .inl (by simp)) harr⟩
      | panic ch => exact ⟨_, a1, w1, hq, .pass (x := .inLoop c) rfl (fun _ _ => .inl (by simp)) harr⟩
      | outgrown => exact ⟨_, a1, w1, hq, .pass (x := .inLoop c) rfl (fun _ _ => .inl (by simp)) harr⟩
  obtain ⟨e, a', w', hq, harr⟩ := key _ g0 a w rfl h0
  exact ⟨e, a', w', hq, .of_steps (.one (fenced_calm hb hr rfl) stepR_loop) harr⟩
theorem retM {fn : Func} {R : Ending → World → Prop} (hd : a.defers = []) (h : bodyPost P fn R .ret a w) : bodyPostM Fence.wide 0 P fn R .ret a w := by
  obtain ⟨_, v, h1, h2⟩ := h
  show LeavesInM Fence.wide 0 P fn a.tmps R a.defers .returning w
  rw [hd]
  exact ⟨v, h1, h2⟩
theorem callsM_enter {f : FuncId} {fn : Func} {c : Code} {args : List Value} {R : Ending → World → Prop} {m : Nat} (L : List (Nat × Value)) (Γ : List Asn) (F0 : Nat → Prop) (hf : P.funcs[f]? = some fn) (hb : fn.body = some c) (hm : fn.ntmps = m)
    (hA : SubA args L) (hn : Nat.ble args.length m = true) (ok : ∀ X ∈ Γ, X.ok w) (dis : Γ.Pairwise (fun X Y => ∀ b, X.F b → ¬ Y.F b)) (mine : ∀ X ∈ Γ, X.mine = true → ∀ b, X.F b → w.heap.size ≤ b ∨ F0 b)
    (h : ∀ a, St m F0 w a w L Γ → c.wpIn (FW none) 0 P (bodyPostM Fence.wide 0 P fn R) a w) : Calls P f args.toArray w R := by
  refine callsIn_wide.1 (callsIn_of_wp_marks (n := 0) hf hb trivial (h _ ⟨?_, Chg.refl _ _, ok, dis, mine⟩))
  have hle : args.length ≤ m := Nat.le_of_ble_eq_true hn
  have := Sl.start (l := args) (L := L) (n := m) (m := m - args.length) hA (by omega)
  simpa [hm] using this
/-- the end of a function behind a range over a function. -/
theorem endM {fn : Func} {R : Ending → World → Prop} {D : Nat} {v : Value} {e : Exit} (he : e = .ret ∨ e = .normal) (hd : a.defers = [{ target := .collected D, args := #[] }]) (hD : w.heap[D]? = some (.deferred (some [])))
    (hr : (results fn a.tmps).run P (w.putObj D (.deferred none)) = .ok v (w.putObj D (.deferred none))) (h : R (.returned v) (w.putObj D (.deferred none))) : bodyPostM Fence.wide 0 P fn R e a w := by
  have key : LeavesInM Fence.wide 0 P fn a.tmps R a.defers .returning w := by
    rw [hd]
    exact ⟨by simp, .inl ⟨_, _, rfl, run_takeDeferred hD, v, hr, h⟩⟩
  rcases he with rfl | rfl <;> exact key
theorem callsIn_enter {f : FuncId} {fn : Func} {c : Code} {args : List Value} {R : Ending → World → Prop} {m : Nat} (L : List (Nat × Value)) (Γ : List Asn) (F0 : Nat → Prop) (hf : P.funcs[f]? = some fn) (hb : fn.body = some c) (hm : fn.ntmps = m)
    (hA : SubA args L) (hn : Nat.ble args.length m = true) (ok : ∀ X ∈ Γ, X.ok w) (dis : Γ.Pairwise (fun X Y => ∀ b, X.F b → ¬ Y.F b)) (mine : ∀ X ∈ Γ, X.mine = true → ∀ b, X.F b → w.heap.size ≤ b ∨ F0 b)
    (h : ∀ a, St m F0 w a w L Γ → c.wpIn (FW none) 0 P (bodyPost P fn R) a w) : CallsIn Fence.wide 0 P f args.toArray w R := by
  refine callsIn_of_wp hf hb trivial (h _ ⟨?_, Chg.refl _ _, ok, dis, mine⟩)
  have hle : args.length ≤ m := Nat.le_of_ble_eq_true hn
  have := Sl.start (l := args) (L := L) (n := m) (m := m - args.length) hA (by omega)
  simpa [hm] using this
theorem rangeFunc_B2 {α : Type} {B : Nat} (hB : w.heap.size = B) {x : Operand} {ps : Array Tmp} {assign body : Code} 
    {gf : Nat} {lb : Array Value} (hg : a.eval x = .func (.func gf) #[] lb) (eg : CallsTo P gf) {encs : α → Array Value} {S Sp : List α → Prop} {M : Nat} {K0 : World → Prop}
    (hseq : SeqB P gf lb encs S Sp M K0) (hps : ∀ x, (encs x).size = ps.size) (I : List α → World → Prop) (Ix : Code → List α → World → Prop)
    (hI : AbB B I) (hIx : ∀ c, AbB B (Ix c)) (hK : ∀ pre W', I pre W' → K0 W') (h0 : I [] w)
    (hround : ∀ (l : Nat) (pre : List α) (x : α) (W : World), B + 2 ≤ W.heap.size → I pre W → pre.length < M →
      assign.wpIn (FW (some l)) 0 P (Exit.then (fun a1 W1 => ((∀ k, B ≤ k → k < W.heap.size → W1.heap[k]? = W.heap[k]?) ∧ W.heap.size ≤ W1.heap.size) ∧ ∀ W2, Turn (B + 1) W1 W2 → body.wpIn (FW (some l)) 0 P (postB B I Ix (pre ++ [x]) W2) a1 W2) (fun _ _ _ => False))
        { tmps := (ps.zip (encs x)).foldl (fun t (p, v) => t.setIfInBounds p v) a.tmps, defers := [] } W)
    (hdone : ∀ (D : Nat) (xs : List α) (W : World), B ≤ D → S xs → I xs W → W.heap[D]? = some (.deferred (some [])) → Q .normal { a with defers := { target := .collected D, args := #[] } :: a.defers } W)
    (hstop : ∀ (D : Nat) (c : Code) (pre : List α) (W : World), B ≤ D → Sp pre → Ix c pre W → W.heap[D]? = some (.deferred (some [])) → c.wpIn (FW none) 0 P Q { a with defers := { target := .collected D, args := #[] } :: a.defers } W) :
    (Code.rangeFunc x ps assign body).wpIn (FW none) 0 P Q a w := by
  subst hB
  exact rangeFunc_B hg eg hseq hps I Ix hI hIx hK h0 hround hdone hstop
/-- the mark of a loop is shut: what is known of other blocks stays. -/
theorem St.putD (hS : St n F0 w0 a w L Γ) {D : Nat} {o : Obj} (hD : w0.heap.size ≤ D) (hn : ∀ X ∈ Γ, ∀ b, X.F b → b ≠ D) : St n F0 w0 a (w.putObj D o) L Γ := by
  have hc : Chg (fun k => k = D) w (w.putObj D o) := ⟨rfl, rfl, rfl, by simp, fun k _ hk => World.putObj_heap_other hk⟩
  exact ⟨hS.sl, hS.chg.trans hc (fun i hi hlt => by omega), fun X hX => (hS.ok X hX).keep hc (fun b hb e => hn X hX b hb e), hS.dis, hS.mine⟩
/-- the end of a function behind a range over a function, by the state. -/
theorem endN {fn : Func} {R : Ending → World → Prop} {D : Nat} {e : Exit} {rs : List ResultVar} {vs : List Value} (hS : St n F0 w0 a (w.putObj D (.deferred none)) L Γ) (he : e = .ret ∨ e = .normal) (hD : w.heap[D]? = some (.deferred (some [])))
    (hr : fn.results = rs.toArray) (hv : ResL P L Γ rs vs) (hne : Nat.beq vs.length 1 = false) (h : R (.returned (.tuple vs.toArray)) (w.putObj D (.deferred none))) :
    bodyPostM Fence.wide 0 P fn R e { a with defers := { target := .collected D, args := #[] } :: a.defers } w := by
  refine endM he (by show _ :: a.defers = _; rw [hS.sl.defers]) hD ?_ h
  have h1 := ResL.run hS hv
  have h2 : ¬ vs.toArray.size = 1 := by simpa using nbeq_ne hne
  show (results fn a.tmps).run P _ = _
  rw [results_rvS, hr, List.mapM_toArray, Sem.run_bind, Sem.run_map, h1]
  simp only [Result.andThen_ok, h2, dite_false]
  rfl
theorem put_defers {ds : List Deferred} {v : Value} : Act.put { a with defers := ds } dst v = { a.put dst v with defers := ds } := by cases dst <;> rfl
/-- what a store does does not hang on the deferred calls. -/
theorem OW.stores {T : Nat} {x y : Operand} {ds : List Deferred} (h : OW P ⟨none, .store T x y, ty, pos, af, g⟩ a w (fun a w => K { a with defers := ds } w) (fun e a w => Q e { a with defers := ds } w)) : OW P ⟨none, .store T x y, ty, pos, af, g⟩ { a with defers := ds } w K Q := by
  refine ⟨?_⟩
  have h := h.h
  unfold Oper.wp at h ⊢
  have e : (execOp (Act.eval { a with defers := ds }) ⟨none, .store T x y, ty, pos, af, g⟩) = execOp a.eval ⟨none, .store T x y, ty, pos, af, g⟩ := rfl
  rw [e]
  have hnd : ∀ nx w', (execOp a.eval ⟨none, .store T x y, ty, pos, af, g⟩).run P w = .ok nx w' → nx = .skip := by
    intro nx w' he
    simp only [execOp, Sem.run_bind] at he
    generalize Sem.run P (Instr.storeAt T (a.eval x) (a.eval y)) w = r at he
    cases r with
    | ok u w1 => injection he with e1 e2; exact e1.symm
    | halt s w1 => cases he
  generalize (execOp a.eval ⟨none, .store T x y, ty, pos, af, g⟩).run P w = res at h hnd
  cases res with
  | ok nx w' =>
    obtain rfl := hnd nx w' rfl
    exact h
  | halt s w' => cases s <;> exact h
end
end Go.Proofs.Ytheofhegdjjfgaa

namespace Go.Proofs.Ytheofhegdjjfgaa
open Go.RowKit

/-- what is said hangs on no block from B up to hi. -/
def AbR {β : Type} (B hi : Nat) (I : β → World → Prop) : Prop :=
  ∀ s W W', I s W → W'.os = W.os → W'.tape = W.tape → W'.output = W.output → W.heap.size ≤ W'.heap.size → (∀ k, k < W.heap.size → (k < B ∨ hi ≤ k) → W'.heap[k]? = W.heap[k]?) → I s W'
theorem AbR.alloc {β : Type} {B hi : Nat} {I : β → World → Prop} (h : AbR B hi I) {s : β} {W : World} (hs : I s W) (o : Obj) : I s (W.alloc o) :=
  h s W _ hs rfl rfl rfl (by simp) (fun k hk _ => Below.heap_alloc W o k hk)
theorem AbR.put {β : Type} {B hi : Nat} {I : β → World → Prop} (h : AbR B hi I) {s : β} {W : World} {l : Nat} (hl : B ≤ l) (hl2 : l < hi) (hs : I s W) (o : Obj) : I s (W.putObj l o) :=
  h s W _ hs rfl rfl rfl (by simp) (fun k _ hk => World.putObj_heap_other (by omega))
/-- what lay from B up to hi lies as it lay. -/
def Kp (B hi : Nat) (W W' : World) : Prop := W.heap.size ≤ W'.heap.size ∧ ∀ k, B ≤ k → k < hi → W'.heap[k]? = W.heap[k]?

/-- an iterator's contract: its own blocks lie from where it began up to hi. -/
def SeqD {α : Type} (P : Program) (gf : Nat) (lb : Array Value) (encs : α → Array Value) (S Sp : List α → Prop) (N : Nat) (K0 : World → Prop) : Prop :=
  ∀ (l : Nat) (J Jx : Nat → List α → World → Prop) (W : World), (∀ hi pre W', J hi pre W' → K0 W') → (∀ hi, W.heap.size ≤ hi → AbR W.heap.size hi (J hi)) → (∀ hi, W.heap.size ≤ hi → AbR W.heap.size hi (Jx hi)) →
    (∀ hi pre x W1, W.heap.size ≤ hi → hi ≤ W1.heap.size → J hi pre W1 → pre.length < N → YieldAt Fence.wide 0 P l (encs x) W1 fun e W' => Kp W.heap.size hi W1 W' ∧ ((e = .returned (.bool true) ∧ J hi (pre ++ [x]) W') ∨ (e = .returned (.bool false) ∧ Jx hi (pre ++ [x]) W'))) →
    (∀ hi, W.heap.size ≤ hi → J hi [] W) → CallsIn Fence.wide 0 P gf (#[.func (.yield l) #[] #[]] ++ lb) W fun e W' => (∃ v, e = .returned v) ∧ ∃ hi, W.heap.size ≤ hi ∧ ((∃ xs, S xs ∧ J hi xs W') ∨ ∃ pre, Sp pre ∧ Jx hi pre W')

/-- how a round's body may be left. -/
def postD {α : Type} (B hi : Nat) (I : List α → World → Prop) (Ix : Code → List α → World → Prop) (xs : List α) (W : World) : Exit → Act → World → Prop
  | .normal, _, W' => Kp B hi W W' ∧ I xs W'
  | .ret, _, W' => Kp B hi W W' ∧ Ix .ret xs W'
  | .exit id, _, W' => Kp B hi W W' ∧ Ix (.exit id) xs W'
  | .goto t, _, W' => Kp B hi W W' ∧ Ix (.goto t) xs W'
  | .panic _, _, _ => False
  | .outgrown, _, _ => False

theorem rangeFunc_D {P : Program} {α : Type} {g : Operand} {ps : Array Tmp} {assign body : Code} {Q : Exit → Act → World → Prop} {a : Act} {w : World}
    {gf : Nat} {lb : Array Value} (hg : a.eval g = .func (.func gf) #[] lb) (eg : CallsTo P gf) {encs : α → Array Value} {S Sp : List α → Prop} {N : Nat} {K0 : World → Prop}
    (hseq : SeqD P gf lb encs S Sp N K0) (hps : ∀ x, (encs x).size = ps.size) (I : Nat → List α → World → Prop) (Ix : Nat → Code → List α → World → Prop)
    (hI : ∀ hi, w.heap.size + 2 ≤ hi → AbR w.heap.size hi (I hi)) (hIx : ∀ hi c, w.heap.size + 2 ≤ hi → AbR w.heap.size hi (Ix hi c)) (hK : ∀ hi pre W', I hi pre W' → K0 W') (h0 : ∀ hi, w.heap.size + 2 ≤ hi → I hi [] w)
    (hround : ∀ (hi l : Nat) (pre : List α) (x : α) (W : World), w.heap.size + 2 ≤ hi → hi ≤ W.heap.size → I hi pre W → pre.length < N →
      assign.wpIn (Fence.wide.inRound l) 0 P (Exit.then (fun a1 W1 => Kp w.heap.size hi W W1 ∧ ∀ W2, Turn (w.heap.size + 1) W1 W2 → body.wpIn (Fence.wide.inRound l) 0 P (postD w.heap.size hi (I hi) (Ix hi) (pre ++ [x]) W2) a1 W2) (fun _ _ _ => False))
        { tmps := (ps.zip (encs x)).foldl (fun t (p, v) => t.setIfInBounds p v) a.tmps, defers := [] } W)
    (hdone : ∀ (hi D : Nat) (xs : List α) (W : World), w.heap.size + 2 ≤ hi → w.heap.size ≤ D → D < hi → S xs → I hi xs W → W.heap[D]? = some (.deferred (some [])) → Q .normal { a with defers := { target := .collected D, args := #[] } :: a.defers } W)
    (hstop : ∀ (hi D : Nat) (c : Code) (pre : List α) (W : World), w.heap.size + 2 ≤ hi → w.heap.size ≤ D → D < hi → Sp pre → Ix hi c pre W → W.heap[D]? = some (.deferred (some [])) → c.wpIn Fence.wide 0 P Q { a with defers := { target := .collected D, args := #[] } :: a.defers } W) :
    (Code.rangeFunc g ps assign body).wpIn Fence.wide 0 P Q a w := by
  refine wpIn_rangeFunc fun fn hfn => ?_
  obtain ⟨rec, hrec⟩ : ∃ rec : LoopState → Option Code → Loop, rec = fun st pe => { state := st, pending := pe, fn, tmps := a.tmps, params := ps, assign, body, defers := w.heap.size } := ⟨_, rfl⟩
  obtain ⟨W1, hW1⟩ : ∃ W1, (w.alloc (.deferred (some []))).alloc (.loop (rec .ready none)) = W1 := ⟨_, rfl⟩
  have hs1 : W1.heap.size = w.heap.size + 2 := by rw [← hW1]; simp
  have hL : W1.heap[w.heap.size + 1]? = some (.loop (rec .ready none)) := by
    rw [← hW1]; have := World.alloc_heap_new (w.alloc (.deferred (some []))) (.loop (rec .ready none)); rwa [World.size_alloc] at this
  have hD : W1.heap[w.heap.size]? = some (.deferred (some [])) := by
    rw [← hW1]; exact (Below.heap_alloc _ _ _ (by simp)).trans (World.alloc_heap_new w _)
  have hI1 : ∀ hi, w.heap.size + 2 ≤ hi → I hi [] W1 := fun hi hh => by rw [← hW1]; exact (hI hi hh).alloc ((hI hi hh).alloc (h0 hi hh) _) _
  refine ⟨w.heap.size + 1, [{ target := .collected w.heap.size, args := #[] }], W1, { target := .fn (.func gf) lb, args := #[.func (.yield (w.heap.size + 1)) #[] #[]] }, W1, gf,
    #[.func (.yield (w.heap.size + 1)) #[] #[]] ++ lb, W1, ?_, ?_, fun _ _ => trivial, ?_, fun h => (by cases h), ?_⟩
  · rw [← hW1, hrec]; exact run_enterLoop_outer _ _ _ _ _
  · simp only [resolve, hg]
    simp [go_sem]
  · have := eg (#[.func (.yield (w.heap.size + 1)) #[] #[]] ++ lb) W1
    exact this
  have key := hseq (w.heap.size + 1) (fun hi pre W => w.heap.size + 2 ≤ W.heap.size ∧ I hi pre W ∧ W.heap[w.heap.size + 1]? = some (.loop (rec .ready none)) ∧ W.heap[w.heap.size]? = some (.deferred (some [])))
    (fun hi pre W => w.heap.size + 2 ≤ W.heap.size ∧ ∃ c, Ix hi c pre W ∧ W.heap[w.heap.size + 1]? = some (.loop (rec .done (some c))) ∧ W.heap[w.heap.size]? = some (.deferred (some []))) W1
    (fun hi pre W' h => hK hi pre W' h.2.1)
    (fun hi hh s A B h e1 e2 e3 e4 e5 => by
      have h1 := h.1
      exact ⟨Nat.le_trans h.1 e4, hI hi (by omega) s A B h.2.1 e1 e2 e3 e4 (fun k hk hk2 => e5 k hk (by omega)), (e5 _ (by omega) (by omega)).trans h.2.2.1, (e5 _ (by omega) (by omega)).trans h.2.2.2⟩)
    (fun hi hh s A B h e1 e2 e3 e4 e5 => by
      obtain ⟨hz, c, h1, h2, h3⟩ := h
      exact ⟨Nat.le_trans hz e4, c, hIx hi c (by omega) s A B h1 e1 e2 e3 e4 (fun k hk hk2 => e5 k hk (by omega)), (e5 _ (by omega) (by omega)).trans h2, (e5 _ (by omega) (by omega)).trans h3⟩)
    ?_ (fun hi hh => ⟨by omega, hI1 hi (by omega), hL, hD⟩)
  · refine key.mono ?_
    rintro e W2 ⟨⟨v, rfl⟩, hh, hhl, (⟨xs, hS, hz, hi, hl, hk⟩ | ⟨pre, hSp, hz, c, hi, hl, hk⟩)⟩
    · exact ⟨none, _, by have := run_endLoop (P := P) hl (by rw [hrec]; simp); rw [hrec] at this; exact this, hdone hh _ xs _ (by omega) (Nat.le_refl _) (by omega) hS ((hI hh (by omega)).put (by omega) (by omega) hi _) ((World.putObj_heap_other (by omega)).trans hk)⟩
    · exact ⟨some c, _, by have := run_endLoop (P := P) hl (by rw [hrec]; simp); rw [hrec] at this; exact this, hstop hh _ c pre _ (by omega) (Nat.le_refl _) (by omega) hSp ((hIx hh c (by omega)).put (by omega) (by omega) hi _) ((World.putObj_heap_other (by omega)).trans hk)⟩
  · rintro hh pre x W hhl hhW ⟨hz, hi, hl, hk⟩ hlen
    have hy := run_yield (P := P) (args := encs x) hl (by rw [hrec]; exact hps x)
    rw [hrec] at hy
    refine ⟨fn, _, assign, body, hy, roundIn_of_wpIn hfn (wpIn_mono (hround hh _ pre x W (by omega) hhW hi hlen) ?_)⟩
    rintro e a1 W1' hp1
    cases e with
    | exit _ => exact hp1.elim
    | goto _ => exact hp1.elim
    | ret => exact hp1.elim
    | panic _ => exact hp1.elim
    | outgrown => exact hp1.elim
    | normal => ?_
    obtain ⟨⟨hzz, hkeep⟩, hbody⟩ := hp1
    have hl1 := (hkeep (w.heap.size + 1) (by omega) (by omega)).trans hl
    have hk1 := (hkeep w.heap.size (Nat.le_refl _) (by omega)).trans hk
    refine ⟨_, run_beginRound hl1 (by rw [hrec]), ?_⟩
    obtain ⟨W2, hW2⟩ : ∃ W2, W1'.putObj (w.heap.size + 1) (.loop { rec .ready none with state := .busy }) = W2 := ⟨_, rfl⟩
    have hl2 : W2.heap[w.heap.size + 1]? = some (.loop { rec .ready none with state := .busy }) := by rw [← hW2]; exact putObj_at hl1
    have hk2 : W2.heap[w.heap.size]? = some (.deferred (some [])) := by rw [← hW2]; exact (World.putObj_heap_other (by omega)).trans hk1
    have hz2 : w.heap.size + 2 ≤ W2.heap.size := by rw [← hW2]; simp; omega
    rw [hW2]
    refine wpIn_mono (hbody W2 (by rw [← hW2]; exact Turn.put _ _ _)) ?_
    have fin : ∀ (jump : Option Code) (W3 : World), Kp w.heap.size hh W2 W3 → w.heap.size + 2 ≤ W3.heap.size ∧
        (Instr.endRound (w.heap.size + 1) jump).run P W3 = .ok (.bool jump.isNone) (W3.putObj (w.heap.size + 1) (.loop (rec (if jump.isNone then .ready else .done) jump))) ∧
        (W3.putObj (w.heap.size + 1) (.loop (rec (if jump.isNone then .ready else .done) jump))).heap[w.heap.size + 1]? = some (.loop (rec (if jump.isNone then .ready else .done) jump)) ∧
        (W3.putObj (w.heap.size + 1) (.loop (rec (if jump.isNone then .ready else .done) jump))).heap[w.heap.size]? = some (.deferred (some [])) ∧
        Kp W1.heap.size hh W (W3.putObj (w.heap.size + 1) (.loop (rec (if jump.isNone then .ready else .done) jump))) := fun jump W3 ⟨hsz, hk3⟩ => by
      have hl3 := (hk3 _ (by omega) (by omega)).trans hl2
      have hd3 := (hk3 _ (Nat.le_refl _) (by omega)).trans hk2
      have hr := run_endRound (P := P) jump hl3
      rw [hrec] at hr ⊢
      have hw2 : W2.heap.size = W1'.heap.size := by rw [← hW2]; simp
      refine ⟨by have := (Array.getElem?_eq_some_iff.1 hl3).1; omega, hr, putObj_at hl3, (World.putObj_heap_other (by omega)).trans hd3, by simp; omega, fun k hk1 hk2' => ?_⟩
      rw [World.putObj_heap_other (by omega), hk3 k (by omega) (by omega), ← hW2, World.putObj_heap_other (by omega)]
      exact hkeep k (by omega) hk2'
    rintro e a3 W3 hp
    cases e with
    | normal =>
      obtain ⟨hk3, hi3⟩ := hp
      obtain ⟨hz3, hr, hl4, hk4, hkp⟩ := fin none W3 hk3
      exact ⟨_, _, hr, hkp, .inl ⟨rfl, by simpa using hz3, (hI hh (by omega)).put (by omega) (by omega) hi3 _, hl4, hk4⟩⟩
    | ret =>
      obtain ⟨hk3, hi3⟩ := hp
      obtain ⟨hz3, hr, hl4, hk4, hkp⟩ := fin (some .ret) W3 hk3
      exact ⟨_, _, hr, hkp, .inr ⟨rfl, by simpa using hz3, .ret, (hIx hh _ (by omega)).put (by omega) (by omega) hi3 _, hl4, hk4⟩⟩
    | exit id =>
      obtain ⟨hk3, hi3⟩ := hp
      obtain ⟨hz3, hr, hl4, hk4, hkp⟩ := fin (some (.exit id)) W3 hk3
      exact ⟨_, _, hr, hkp, .inr ⟨rfl, by simpa using hz3, .exit id, (hIx hh _ (by omega)).put (by omega) (by omega) hi3 _, hl4, hk4⟩⟩
    | goto t =>
      obtain ⟨hk3, hi3⟩ := hp
      obtain ⟨hz3, hr, hl4, hk4, hkp⟩ := fin (some (.goto t)) W3 hk3
      exact ⟨_, _, hr, hkp, .inr ⟨rfl, by simpa using hz3, .goto t, (hIx hh _ (by omega)).put (by omega) (by omega) hi3 _, hl4, hk4⟩⟩
    | panic ch => exact hp.elim
    | outgrown => exact hp.elim
theorem rangeFunc_D2 {B : Nat} {P : Program} {α : Type} {g : Operand} {ps : Array Tmp} {assign body : Code} {Q : Exit → Act → World → Prop} {a : Act} {w : World} (hB : w.heap.size = B)
    {gf : Nat} {lb : Array Value} (hg : a.eval g = .func (.func gf) #[] lb) (eg : CallsTo P gf) {encs : α → Array Value} {S Sp : List α → Prop} {N : Nat} {K0 : World → Prop}
    (hseq : SeqD P gf lb encs S Sp N K0) (hps : ∀ x, (encs x).size = ps.size) (I : Nat → List α → World → Prop) (Ix : Nat → Code → List α → World → Prop)
    (hI : ∀ hi, B + 2 ≤ hi → AbR B hi (I hi)) (hIx : ∀ hi c, B + 2 ≤ hi → AbR B hi (Ix hi c)) (hK : ∀ hi pre W', I hi pre W' → K0 W') (h0 : ∀ hi, B + 2 ≤ hi → I hi [] w)
    (hround : ∀ (hi l : Nat) (pre : List α) (x : α) (W : World), B + 2 ≤ hi → hi ≤ W.heap.size → I hi pre W → pre.length < N →
      assign.wpIn (Fence.wide.inRound l) 0 P (Exit.then (fun a1 W1 => Kp B hi W W1 ∧ ∀ W2, Turn (B + 1) W1 W2 → body.wpIn (Fence.wide.inRound l) 0 P (postD B hi (I hi) (Ix hi) (pre ++ [x]) W2) a1 W2) (fun _ _ _ => False))
        { tmps := (ps.zip (encs x)).foldl (fun t (p, v) => t.setIfInBounds p v) a.tmps, defers := [] } W)
    (hdone : ∀ (hi D : Nat) (xs : List α) (W : World), B + 2 ≤ hi → B ≤ D → D < hi → S xs → I hi xs W → W.heap[D]? = some (.deferred (some [])) → Q .normal { a with defers := { target := .collected D, args := #[] } :: a.defers } W)
    (hstop : ∀ (hi D : Nat) (c : Code) (pre : List α) (W : World), B + 2 ≤ hi → B ≤ D → D < hi → Sp pre → Ix hi c pre W → W.heap[D]? = some (.deferred (some [])) → c.wpIn Fence.wide 0 P Q { a with defers := { target := .collected D, args := #[] } :: a.defers } W) :
    (Code.rangeFunc g ps assign body).wpIn Fence.wide 0 P Q a w := by
  subst hB
  exact rangeFunc_D hg eg hseq hps I Ix hI hIx hK h0 hround hdone hstop
section
variable {P : Program} {n : Nat} {F0 : Nat → Prop} {w0 : World} {a : Act} {w : World} {L : List (Nat × Value)} {Γ : List Asn}
variable {K : Act → World → Prop} {Q : Exit → Act → World → Prop} {d ty : Nat} {pos : String} {af : Array Edge} {g : Option (Nat × Bool)}
/-- what an operation yields does not hang on the deferred calls. -/
theorem s_eD {op : Op} {v : Value} {ds : List Deferred} (hS : St n F0 w0 a w L Γ) (he : Ex P n a L Γ ⟨some d, op, ty, pos, af, g⟩ v) (hn : Nat.blt d n = true)
    (h : ∀ a', St n F0 w0 a' w ((d, v) :: L) Γ → K { a' with defers := ds } w) : OW P ⟨some d, op, ty, pos, af, g⟩ { a with defers := ds } w K Q := by
  refine ⟨?_⟩
  unfold Oper.wp
  have e : (execOp (Act.eval { a with defers := ds }) ⟨some d, op, ty, pos, af, g⟩) = execOp a.eval ⟨some d, op, ty, pos, af, g⟩ := rfl
  rw [e, he hS.sl w hS.hd]
  show K (Act.put { a with defers := ds } (some d) v) w
  rw [put_defers]
  exact h _ (hS.put hn v)
theorem end1 {fn : Func} {R : Ending → World → Prop} {D : Nat} {e : Exit} {rs : List ResultVar} {v : Value} (hS : St n F0 w0 a (w.putObj D (.deferred none)) L Γ) (he : e = .ret ∨ e = .normal) (hD : w.heap[D]? = some (.deferred (some [])))
    (hr : fn.results = rs.toArray) (hv : ResL P L Γ rs [v]) (h : R (.returned v) (w.putObj D (.deferred none))) :
    bodyPostM Fence.wide 0 P fn R e { a with defers := [{ target := .collected D, args := #[] }] } w := by
  refine endM he rfl hD ?_ h
  have h1 := ResL.run hS hv
  show (results fn a.tmps).run P _ = _
  rw [results_rvS, hr, List.mapM_toArray, Sem.run_bind, Sem.run_map, h1]
  simp [Result.andThen_ok]
end
end Go.Proofs.Ytheofhegdjjfgaa

namespace Go.Proofs.Ytheofhegdjjfgaa
open Go.RowKit

theorem nodup_le : ∀ (n : Nat) (s : List Nat), s.Nodup → (∀ i ∈ s, i < n) → s.length ≤ n
  | 0, s, _, h => by
    cases s with
    | nil => exact Nat.le_refl _
    | cons x r => exact absurd (h x (.head _)) (by omega)
  | n + 1, s, hd, h => by
    by_cases hm : n ∈ s
    · have h1 := nodup_le n (s.erase n) (hd.erase n) (fun i hi => by
        have h2 := (List.Nodup.mem_erase_iff hd).1 hi
        have := h i h2.2
        have := h2.1
        omega)
      rw [List.length_erase_of_mem hm] at h1
      omega
    · have h1 := nodup_le n s hd (fun i hi => by
        have := h i hi
        have : i ≠ n := fun e => hm (e ▸ hi)
        omega)
      omega
def keysM (l : List (ByteArray × Value)) : List ByteArray := l.map (·.1)
def keyAt (l : List (ByteArray × Value)) (i : Nat) : ByteArray := (keysM l).getD i ⟨#[]⟩
theorem keyAt_of {l : List (ByteArray × Value)} {i : Nat} {k : ByteArray} {v : Value} (h : l[i]? = some (k, v)) : keyAt l i = k := by
  unfold keyAt keysM; rw [List.getD_eq_getElem?_getD, List.getElem?_map, h]; rfl
theorem keys_all {l : List (ByteArray × Value)} {s : List Nat} (hd : s.Nodup) (h : ∀ i ∈ s, i < l.length) (ha : ∀ i, i < l.length → i ∈ s) : (s.map (keyAt l)).Perm (keysM l) := by
  have h1 : s.Perm (List.range l.length) := (List.perm_ext_iff_of_nodup hd List.nodup_range).2 (fun i => ⟨fun hi => List.mem_range.2 (h i hi), fun hi => ha i (List.mem_range.1 hi)⟩)
  refine (h1.map (keyAt l)).trans ?_
  have h2 : (List.range l.length).map (keyAt l) = keysM l := by
    apply List.ext_getElem
    · simp [keysM]
    · intro i h3 h4
      have h5 : i < l.length := by simpa using h3
      simp [keyAt, keysM, List.getD_eq_getElem?_getD, List.getElem?_eq_getElem h5]
  rw [h2]
/-- a map's own place, and the box that holds it, only read. -/
structure keysK (b m T : Nat) (l : List (ByteArray × Value)) (w : World) : Prop where
  box : w.heap[b]? = some (.cells [Value.map (some m)].toArray T (0, 0))
  mp : w.heap[m]? = some (.map (mkM 0 l).toArray l.length)
def keysA (b m T : Nat) (l : List (ByteArray × Value)) : Asn := .any (fun k => k = b ∨ k = m) (keysK b m T l) false
theorem keys_ok {b m T : Nat} {l : List (ByteArray × Value)} {w : World} (h : keysK b m T l w) : (keysA b m T l).ok w := by
  refine ⟨fun k hk => ?_, fun w' hw => ⟨?_, ?_⟩⟩
  · rcases hk with rfl | rfl
    · exact (Array.getElem?_eq_some_iff.1 h.box).1
    · exact (Array.getElem?_eq_some_iff.1 h.mp).1
  · rw [hw b (.inl rfl)]; exact h.box
  · rw [hw m (.inr rfl)]; exact h.mp
def keyV (k : ByteArray) : Array Value := [.string k].toArray
def itF (it : Nat) : Nat → Prop := fun k => k = it
theorem St.bareK {n : Nat} {a : Act} {w : World} {L : List (Nat × Value)} (h : Sl n a L) : St n noB w a w L [] := ⟨h, Chg.refl _ _, okN, disN, mineN⟩
theorem St.iter {n : Nat} {a : Act} {w : World} {L : List (Nat × Value)} (h : Sl n a L) {it m N : Nat} {s : List Nat} {Y : Asn} (hi : w.heap[it]? = some (.mapIter (some m) N s.toArray N)) (hY : Y.ok w) (hm : Y.mine = false) (hd : ¬ Y.F it) : St n (itF it) w a w L [itA it m s N, Y] :=
  ⟨h, Chg.refl _ _, okC (it_ok hi) (okC hY okN), disC (sepC (fun b e1 e2 => hd (by have e3 : b = it := e1; rw [← e3]; exact e2)) sepN) dis1, mineO (fun _ hb => hb) (mineC hm mineN)⟩
/-- what does not hang on this place stays while only it is written. -/
theorem ab_it {β : Type} {B it : Nat} {I : β → World → Prop} (h : AbR B (it + 1) I) (hit : B ≤ it) {s : β} {w w' : World} (hs : I s w) (hc : Chg (itF it) w w') : I s w' :=
  h s w w' hs hc.os hc.tape hc.output hc.size (fun k hk hk2 => hc.block k hk (fun e => by have e2 : k = it := e; omega))

set_option maxRecDepth 100000 in
theorem Keys_Fx_seq (b m : Nat) (l : List (ByteArray × Value)) : SeqD Try.prog 109 #[.pointer (some ⟨b, 0, none⟩)] keyV (fun xs => xs.Perm (keysM l)) (fun _ => True) l.length (keysK b m 112 l) := by
  intro ly J Jx W hK hJ hJx hY h0
  have hk0 := hK _ _ _ (h0 W.heap.size (Nat.le_refl _))
  have hbW : b < W.heap.size := (Array.getElem?_eq_some_iff.1 hk0.box).1
  have hmW : m < W.heap.size := (Array.getElem?_eq_some_iff.1 hk0.mp).1
  rw [show (#[Value.func (.yield ly) #[] #[]] ++ #[Value.pointer (some ⟨b, 0, none⟩)] : Array Value) = [Value.func (.yield ly) #[] #[], Value.pointer (some ⟨b, 0, none⟩)].toArray from rfl]
  refine callsIn_enter [(0, .func (.yield ly) #[] #[]), (1, .pointer (some ⟨b, 0, none⟩))] [keysA b m 112 l] noB Try.func109 rfl Try.ntmps109 ⟨rfl, rfl, trivial⟩ rfl (okC (keys_ok hk0) okN) dis1 (mineC (by rfl) mineN) ?_
  intro a hS
  refine R_seq ?_
  refine R_region ?_
  refine R_op rfl (s_e hS (e_loadC rfl ty_sc112 (fun w hh => cell_of_blk (cs := [.map (some m)]) (hh (keysA b m 112 l) (by repeat constructor)).box rfl)) rfl ?_); clear hS a; intro a hS
  refine R_op rfl (s_rangeM (l := l) hS rfl ty_mp112 (fun w hh => (hh (keysA b m 112 l) (by repeat constructor)).mp) (by rfl) ?_); clear hS a; (try clear w); intro a w it hS
  refine R_nil ?_
  refine n_then ?_
  refine R_block ?_
  have hitW : W.heap.size ≤ it := by
    have h1 := hS.mine (itA it m [] l.length) (by repeat constructor) rfl it rfl
    rcases h1 with h1 | h1
    · exact h1
    · exact h1.elim
  have hnF : ¬ (keysA b m 112 l).F it := fun e => by
    have e2 : it = b ∨ it = m := e
    omega
  have hJi := hJ (it + 1) (by omega)
  have hJ0 : J (it + 1) [] w := hJi _ _ _ (h0 (it + 1) (by omega)) hS.chg.os hS.chg.tape hS.chg.output hS.chg.size (fun k hk _ => hS.chg.block k hk (fun e => e))
  have hWw := hS.chg.size
  refine R_loop (γ := List Nat) (fun s a w => St 14 (itF it) w a w [(5, .pointer (some ⟨it, 0, none⟩)), (0, .func (.yield ly) #[] #[]), (1, .pointer (some ⟨b, 0, none⟩))] [itA it m s l.length, keysA b m 112 l] ∧ W.heap.size ≤ w.heap.size ∧ s.Nodup ∧ (∀ i ∈ s, i < l.length) ∧ J (it + 1) (s.map (keyAt l)) w) (fun s => l.length - s.length) [] ⟨St.iter (hS.sl.sub (by repeat (first | exact trivial | refine ⟨rfl, ?_⟩))) (hS.get (X := itA it m [] l.length) (by repeat constructor)) (hS.ok _ (by repeat constructor)) rfl hnF, hWw, .nil, fun i hi => (by cases hi), hJ0⟩ ?_
  clear hS a; (try clear w); intro s a w hI
  obtain ⟨hS, hWw, hnd, hlt, hj⟩ := hI
  refine R_seq ?_
  refine R_region ?_
  refine R_op rfl (s_nextO (l := l) hS rfl (fun w hh => (hh (keysA b m 112 l) (by repeat constructor)).mp) (by rfl) (fun _ => .head) ?_); intro o ho a1 w1 hS1; have hj1 := ab_it hJi hitW hj hS1.chg; have hW1 : W.heap.size ≤ w1.heap.size := Nat.le_trans hWw hS1.chg.size; clear hS a; revert a1; intro a hS
  refine R_op rfl (s_e hS (e_extract rfl (nx0 o)) rfl ?_); clear hS a; intro a hS
  refine R_nil ?_
  refine n_then ?_
  refine R_seq ?_
  first | refine R_ifD hS rfl (fun hc7 => ?_) (fun hc7 => ?_) | refine R_if hS rfl (fun hc7 => ?_) (fun hc7 => ?_)
  ·
    obtain ⟨⟨i, k, v⟩, rfl⟩ : ∃ q, o = some q := Option.isSome_iff_exists.1 hc7
    obtain ⟨hl, hns⟩ := ho
    simp only [nxS] at hS
    have hil := (List.getElem?_eq_some_iff.1 hl).1
    have hnd2 : (s ++ [i]).Nodup := List.nodup_append.2 ⟨hnd, by simp, fun x hx y hy => by obtain rfl := List.mem_singleton.1 hy; exact fun e => hns (e ▸ hx)⟩
    have hlt2 : ∀ j ∈ s ++ [i], j < l.length := fun j hj => by
      rcases List.mem_append.1 hj with hj | hj
      · exact hlt j hj
      · obtain rfl := List.mem_singleton.1 hj; exact hil
    have hsl := nodup_le _ _ hnd2 hlt2
    rw [List.length_append, List.length_singleton] at hsl
    have hka : s.map (keyAt l) ++ [k] = (s ++ [i]).map (keyAt l) := by rw [List.map_append, List.map_singleton, keyAt_of hl]
    have hiw : w1.heap[it]? = some (.mapIter (some m) l.length (s ++ [i]).toArray l.length) := hS.get (X := itA it m (s ++ [i]) l.length) (by repeat constructor)
    have hilt := (Array.getElem?_eq_some_iff.1 hiw).1
    have hy := hY (it + 1) _ k w1 (by omega) hilt hj1 (by rw [List.length_map]; omega)
    unfold keyV at hy
    rw [hka] at hy
    refine R_skip ?_
    refine n_then ?_
    refine R_block ?_
    refine R_seq ?_
    refine R_region ?_
    refine R_op rfl (s_e hS (e_entryM rfl (fun w hh => (hh (keysA b m 112 l) (by repeat constructor)).mp) (by repeat constructor) hl) rfl ?_); clear hS a; intro a hS
    refine R_op rfl (s_e hS (e_extract rfl rfl) rfl ?_); clear hS a; intro a hS
    refine R_op rfl (s_e hS (e_assign rfl) rfl ?_); clear hS a; intro a hS
    refine R_nil ?_
    refine n_then ?_
    refine R_seq ?_
    refine R_region ?_
    refine R_op rfl (s_e hS (e_move rfl) rfl ?_); clear hS a; intro a hS
    refine R_op rfl (s_e hS (e_move rfl) rfl ?_); clear hS a; intro a hS
    refine R_yield hS rfl (.cons rfl .nil) hy (fun e' w' hR => ?_)
    obtain ⟨hKp, hR⟩ := hR
    have hit2 := (hKp.2 it hitW (by omega)).trans hiw
    have hW2 : W.heap.size ≤ w'.heap.size := Nat.le_trans hW1 hKp.1
    obtain ⟨y, rfl, hR2⟩ : ∃ y : Bool, e' = .returned (.bool y) ∧ ((y = true ∧ J (it + 1) ((s ++ [i]).map (keyAt l)) w') ∨ (y = false ∧ Jx (it + 1) ((s ++ [i]).map (keyAt l)) w')) := by
      rcases hR with ⟨h1, h2⟩ | ⟨h1, h2⟩
      · exact ⟨true, h1, .inl ⟨rfl, h2⟩⟩
      · exact ⟨false, h1, .inr ⟨rfl, h2⟩⟩
    refine ⟨_, rfl, ?_⟩
    replace hS := St.bareK (w := w') (hS.sl.put (d := 12) rfl (.bool y))
    clear hj1 hy hj hKp
    generalize a.put (some 12) (Value.bool y) = a2 at hS ⊢
    clear a; revert a2; intro a hS
    refine R_op rfl (s_e hS (e_not rfl) rfl ?_); clear hS a; intro a hS
    refine R_nil ?_
    refine n_then ?_
    first | refine R_ifD hS rfl (fun hc13 => ?_) (fun hc13 => ?_) | refine R_if hS rfl (fun hc13 => ?_) (fun hc13 => ?_)
    ·
      refine R_ret ?_
      refine r_block (r_then (r_block ?_))
      refine c_retN hS Try.results109 .nil rfl ?_
      have hx2 : Jx (it + 1) ((s ++ [i]).map (keyAt l)) w' := by
        rcases hR2 with ⟨h1, _⟩ | ⟨_, h2⟩
        · rw [h1] at hc13; cases hc13
        · exact h2
      exact ⟨⟨_, rfl⟩, it + 1, by omega, .inr ⟨_, trivial, hx2⟩⟩
    ·
      refine R_skip ?_
      refine n_block ?_
      have hx2 : J (it + 1) ((s ++ [i]).map (keyAt l)) w' := by
        rcases hR2 with ⟨_, h2⟩ | ⟨h1, _⟩
        · exact h2
        · rw [h1] at hc13; cases hc13
      exact ⟨s ++ [i], by rw [List.length_append, List.length_singleton]; omega, St.iter (hS.sl.sub (by repeat (first | exact trivial | refine ⟨rfl, ?_⟩))) hit2 (keys_ok (hK _ _ _ hx2)) rfl hnF, hW2, hnd2, hlt2, hx2⟩
  ·
    refine R_exit ?_
    refine x_then (x_then (x_hit ?_))
    refine r_norm ?_
    refine c_retN hS Try.results109 .nil rfl ?_
    obtain rfl : o = none := by
      cases o with
      | none => rfl
      | some q => cases hc7
    exact ⟨⟨_, rfl⟩, it + 1, by omega, .inl ⟨_, keys_all hnd hlt ho, hj1⟩⟩
end Go.Proofs.Ytheofhegdjjfgaa

namespace Go.Proofs.Ytheofhegdjjfgaa
open Go.RowKit

def curOf (acs : List Acc) (c : ByteArray) : ByteArray := (accOf acs c).cur
def byStep (acs : List Acc) (t : List (ByteArray × SM)) (p : Pst) : List (ByteArray × SM) := putT t (curOf acs p.acc) (addS (totOf t (curOf acs p.acc)) p)
/-- sums by currency. -/
def byF (acs : List Acc) (ps : List Pst) : List (ByteArray × SM) := ps.foldl (byStep acs) []
def sumFn (ps : List Pst) : Int := ps.foldl (fun a p => a + p.f) 0
def evenF (acs : List Acc) (ps : List Pst) : Prop := (∀ t ∈ byF acs ps, t.2.1 = 0) ∧ sumFn ps = 0
instance (acs : List Acc) (ps : List Pst) : Decidable (evenF acs ps) := by unfold evenF; infer_instance
theorem byF_take {acs : List Acc} {ps : List Pst} {i : Nat} {x : Pst} (hx : ps[i]? = some x) : byF acs (ps.take (i + 1)) = byStep acs (byF acs (ps.take i)) x := by
  unfold byF; rw [List.take_add_one, hx, List.foldl_append]; rfl
theorem sumFn_take {ps : List Pst} {i : Nat} {x : Pst} (hx : ps[i]? = some x) : sumFn (ps.take (i + 1)) = sumFn (ps.take i) + x.f := by
  unfold sumFn; rw [List.take_add_one, hx, List.foldl_append]; rfl
theorem wv_nil : wv 0 = [.int .u64 0, .int .u64 0] := by unfold wv; rw [show Wd.hi 0 = 0 from by decide, show Wd.lo 0 = 0 from by decide]
/-- no total grows beyond what so many postings may say. -/
def bdT (t : List (ByteArray × SM)) (i : Nat) : Prop := ∀ e ∈ t, (-(i * 9223372036854775808 : Int) ≤ e.2.1 ∧ e.2.1 ≤ i * 9223372036854775808) ∧ (-(i * 9223372036854775808 : Int) ≤ e.2.2 ∧ e.2.2 ≤ i * 9223372036854775808)
theorem totOf_mem (t : List (ByteArray × SM)) (c : ByteArray) : totOf t c = (0, 0) ∨ ∃ e ∈ t, e.1 = c ∧ e.2 = totOf t c := by
  unfold totOf
  cases h : t.find? fun e => decide (e.1 = c) with
  | none => exact .inl rfl
  | some e => exact .inr ⟨e, List.mem_of_find?_eq_some h, by simpa using List.find?_some h, rfl⟩
theorem bdT_of {t : List (ByteArray × SM)} {i : Nat} (h : bdT t i) (c : ByteArray) : (-(i * 9223372036854775808 : Int) ≤ (totOf t c).1 ∧ (totOf t c).1 ≤ i * 9223372036854775808) ∧ (-(i * 9223372036854775808 : Int) ≤ (totOf t c).2 ∧ (totOf t c).2 ≤ i * 9223372036854775808) := by
  rcases totOf_mem t c with e | ⟨e, he, _, e2⟩
  · rw [e]; simp only; omega
  · rw [← e2]; exact h e he
theorem putT_mem {c : ByteArray} {s : SM} {e : ByteArray × SM} : ∀ {t : List (ByteArray × SM)}, e ∈ putT t c s → e = (c, s) ∨ e ∈ t
  | [], h => .inl (by simpa [putT] using h)
  | (k, u) :: l, h => by
    unfold putT at h
    by_cases e1 : k = c
    · rw [if_pos e1] at h
      rcases List.mem_cons.1 h with h | h
      · exact .inl h
      · exact .inr (.tail _ h)
    · rw [if_neg e1] at h
      rcases List.mem_cons.1 h with h | h
      · exact .inr (by rw [h]; exact .head _)
      · rcases putT_mem h with h | h
        · exact .inl h
        · exact .inr (.tail _ h)
theorem bdT_step {t : List (ByteArray × SM)} {i : Nat} (h : bdT t i) {acs : List Acc} {p : Pst} (hp : p.fits) : bdT (byStep acs t p) (i + 1) := by
  intro e he
  have hu := hp.u
  have hf := hp.f
  rcases putT_mem he with rfl | he
  · have h2 := bdT_of h (curOf acs p.acc)
    unfold addS; simp only; omega
  · have h1 := h e he
    omega
theorem sg_zero {v : Int} : Wd.sg v = 0 ↔ v = 0 := by unfold Wd.sg; split <;> (try split) <;> omega

set_option maxHeartbeats 1000000 in
set_option maxRecDepth 100000 in
theorem leven_P (B : LB) (s : LS) (p : Option (Nat × Nat)) (c : Nat) (ps : List Pst) (hlen : ps.length ≤ 60) (hfit : ∀ x ∈ ps, x.fits) (w0 : World) (h : ledφ B s w0) (hrow : RowP p 3 (ps.map encP) w0) (hb : ∀ q, p = some q → q.1 < w0.heap.size) (hd : ∀ q, p = some q → ¬ ledF B s q.1) :
    PureC Try.prog 76 [.pointer (some ⟨B.lb, 0, none⟩), sliceV p ps.length c] w0 (.bool (decide (evenF s.acs ps))) := by
  refine c_enter [(0, .pointer (some ⟨B.lb, 0, none⟩)), (1, sliceV p ps.length c)] [ledA B s false, rowP p 3 (ps.map encP)] noB Try.func76 rfl Try.ntmps76 ⟨rfl, rfl, trivial⟩ rfl (okC (led_ok false h) (okC (ok_rowP hrow hb) okN)) (disC (sepC (fun b h1 h2 => by obtain ⟨off, e⟩ := h2; exact hd _ e h1) sepN) dis1) (mineC (by rfl) (mineC (by rfl) mineN)) ?_
  intro a hS
  refine c_seq ?_
  refine c_region ?_
  refine L_op (s_e hS (e_assign rfl) rfl ?_); clear hS a; intro a hS
  refine L_nil ?_
  refine n_then ?_
  refine c_seq ?_
  refine c_region ?_
  refine L_op (s_makeMapS hS rfl ?_); clear hS a; (try clear w); intro a w b12 hS
  refine L_op (s_e hS (e_assign rfl) rfl ?_); clear hS a; intro a hS
  refine L_nil ?_
  refine n_then ?_
  refine c_seq ?_
  refine c_region ?_
  refine L_op (s_e hS (e_build ty_z106 ty_pl106 .nil) rfl ?_); clear hS a; intro a hS
  refine L_op (s_alloc hS ty_z106 rfl ?_); clear hS a; (try clear w); intro a w b6 hS
  refine L_op (s_storeA hS rfl rfl ty_sz106 (by repeat constructor) (by rfl) (by rfl) (by rfl) ?_); clear hS; (try clear w); intro w hS
  refine L_nil ?_
  refine n_then ?_
  refine c_seq ?_
  refine c_seq ?_
  refine c_region ?_
  refine L_op (s_e hS (e_move rfl) rfl ?_); clear hS a; intro a hS
  refine L_op (s_e hS (e_len rfl rfl ty_sl56) rfl ?_); clear hS a; intro a hS
  refine L_op (s_e hS (e_move rfl) rfl ?_); clear hS a; intro a hS
  refine L_nil ?_
  refine n_then ?_
  refine wp_block ?_
  rw [show ([.int .u64 0, .int .u64 0] : List Value) = wv (sumFn (ps.take 0)) from wv_nil.symm] at hS
  refine c_loop (γ := Nat) (fun i a w => St 57 noB w0 a w [(16, .int .i64 (i : Int)), (15, .int .i64 (ps.length : Int)), (14, sliceV p ps.length c), (5, .map (some b12)), (6, .pointer (some ⟨b6, 0, none⟩)), (0, .pointer (some ⟨B.lb, 0, none⟩))] [.blk b6 (wv (sumFn (ps.take i))) 106, smapA b12 (entSm (byF s.acs (ps.take i))), ledA B s false, rowP p 3 (ps.map encP)] ∧ i ≤ ps.length ∧ bdT (byF s.acs (ps.take i)) i ∧ (-(i * 9223372036854775808 : Int) ≤ sumFn (ps.take i) ∧ sumFn (ps.take i) ≤ i * 9223372036854775808)) (fun i => ps.length - i) 0 ⟨(hS.slots (by repeat (first | exact trivial | refine ⟨rfl, ?_⟩))).pick (by repeat (first | exact Pick.nil | (refine Pick.cons (by repeat (first | exact Rem.head | apply Rem.tail)) ?_))), Nat.zero_le _, fun e he => (by cases he), by simp [sumFn]⟩ ?_
  clear hS a; (try clear w); intro i a w hI
  obtain ⟨hS, hi, hbd, hfn⟩ := hI
  refine c_seq ?_
  refine c_region ?_
  refine L_op (s_e hS (e_bin rfl rfl rfl) rfl ?_); clear hS a; intro a hS
  refine L_nil ?_
  refine n_then ?_
  refine c_seq ?_
  first | refine c_ifD hS rfl (fun hc17 => ?_) (fun hc17 => ?_) | refine c_if hS rfl (fun hc17 => ?_) (fun hc17 => ?_)
  ·
    have hil : i < ps.length := by omega
    obtain ⟨x, hx⟩ : ∃ x, ps[i]? = some x := ⟨ps[i], List.getElem?_eq_getElem hil⟩
    have hxf := hfit x (List.mem_of_getElem? hx)
    have hx' : (ps.map encP)[i]? = some (encP x) := by simp [hx]
    obtain ⟨b, off, rfl⟩ := rowP_some (hS.get (X := rowP p 3 (ps.map encP)) (by repeat constructor)) hx'
    have hby := byF_take (acs := s.acs) hx
    have hsf := sumFn_take hx
    have hb1 := bdT_of hbd (curOf s.acs x.acc)
    have hu := hxf.u
    have hf := hxf.f
    have f1 : fitS (totOf (byF s.acs (ps.take i)) (curOf s.acs x.acc)) := by unfold fitS Wd.fit; omega
    have f2 : fitS (addS (totOf (byF s.acs (ps.take i)) (curOf s.acs x.acc)) x) := by unfold fitS addS Wd.fit; simp only; omega
    have f3 : Wd.fit (sumFn (ps.take i)) := by unfold Wd.fit; omega
    have f4 : Wd.fit x.f := by unfold Wd.fit; omega
    have f5 : Wd.fit (sumFn (ps.take i) + x.f) := by unfold Wd.fit; omega
    refine wp_skip ?_
    refine n_then ?_
    refine c_seq ?_
    refine wp_block ?_
    refine c_seq ?_
    refine c_region ?_
    refine L_op (s_e hS (e_ixN rfl rfl ty_sl56 ty_sz63 (by omega)) rfl ?_); clear hS a; intro a hS
    refine L_op (s_e hS (e_loadAC (l := encP x) rfl ty_st63 ty_sz63 (fun w hh => rowP_get (by repeat constructor) hx' w hh)) rfl ?_); clear hS a; intro a hS
    refine L_op (s_alloc hS ty_z63 rfl ?_); clear hS a; (try clear w); intro a w b8 hS
    refine L_op (s_storeA hS rfl rfl ty_sz63 (by repeat constructor) (by rfl) (by rfl) (by rfl) ?_); clear hS; (try clear w); intro w hS
    refine L_nil ?_
    refine n_then ?_
    refine c_seq ?_
    refine c_drawS [] (by kernel_rfl) hS (sub_cons (X := .blk b8 _ _) (by repeat constructor) (sub_cons (X := ledA B s false) (by repeat constructor) sub_nil)) ?_; clear hS; (try clear w); intro w hS
    simp only [List.length_cons, List.length_nil, Nat.zero_add, Nat.reduceAdd, List.replicate]
    refine Z_take0 (i := 0) hS rfl want_none (e_move rfl) (listed' := [true, false, false, false, false, false, false, false, false]) rfl (by kernel_rfl) (by kernel_rfl) (by kernel_rfl) (fun _ _ _ h => h) rfl ?_; clear hS a; intro a hS
    refine Z_take0 (i := 1) hS rfl want_none (e_nilCheck rfl) (listed' := [true, true, false, false, false, false, false, false, false]) rfl (by kernel_rfl) (by kernel_rfl) (by kernel_rfl) (fun _ _ _ h => h) rfl ?_; clear hS a; intro a hS
    first | (refine Z_take0 (i := 2) hS rfl want_none (e_fa0 rfl ty_fo129_1) (listed' := [true, true, true, false, false, false, false, false, false]) rfl (by kernel_rfl) (by kernel_rfl) (by kernel_rfl) (fun _ _ _ h => h) rfl ?_; clear hS a; intro a hS) | (refine Z_take0 (i := 2) hS rfl want_none (e_faK rfl ty_fo129_1) (listed' := [true, true, true, false, false, false, false, false, false]) rfl (by kernel_rfl) (by kernel_rfl) (by kernel_rfl) (fun _ _ _ h => h) rfl ?_; clear hS a; intro a hS)
    refine Z_take (i := 3) hS rfl want_none (e_loadC rfl ty_sc126 (led_cell (k := 1) (by repeat constructor) rfl)) (listed' := [true, true, true, true, false, false, false, false, false]) rfl (by kernel_rfl) (by kernel_rfl) (by kernel_rfl) (by kernel_rfl) (by kernel_rfl) (sub_cons (by repeat constructor) (sub_cons (by repeat constructor) sub_nil)) (fun _ _ _ h => h) rfl ?_; clear hS a; intro a hS
    first | (refine Z_take0 (i := 4) hS rfl want_none (e_fa0 rfl ty_fo63_0) (listed' := [true, true, true, true, true, false, false, false, false]) rfl (by kernel_rfl) (by kernel_rfl) (by kernel_rfl) (fun _ _ _ h => h) rfl ?_; clear hS a; intro a hS) | (refine Z_take0 (i := 4) hS rfl want_none (e_faK rfl ty_fo63_0) (listed' := [true, true, true, true, true, false, false, false, false]) rfl (by kernel_rfl) (by kernel_rfl) (by kernel_rfl) (fun _ _ _ h => h) rfl ?_; clear hS a; intro a hS)
    refine Z_take (i := 5) hS rfl want_none (e_load rfl (by repeat constructor) ty_sc9 (by rfl)) (listed' := [true, true, true, true, true, true, false, false, false]) rfl (by kernel_rfl) (by kernel_rfl) (by kernel_rfl) (by kernel_rfl) (by kernel_rfl) (sub_cons (by repeat constructor) (sub_cons (by repeat constructor) sub_nil)) (fun _ _ _ h => h) rfl ?_; clear hS a; intro a hS
    refine Z_take (i := 6) hS rfl want_none (e_lookupC rfl rfl ty_mp126 ty_u9 ty_zv68 (fun w hh => (hh (ledA B s false) (by repeat constructor)).am)) (listed' := [true, true, true, true, true, true, true, false, false]) rfl (by kernel_rfl) (by kernel_rfl) (by kernel_rfl) (by kernel_rfl) (by kernel_rfl) (sub_cons (by repeat constructor) (sub_cons (by repeat constructor) sub_nil)) (fun _ _ _ h => h) rfl ?_; clear hS a; intro a hS
    rw [lk_acc] at hS
    refine Z_take0 (i := 7) hS rfl want_none (e_field rfl ty_fo68_1 ty_ft68_1 ty_sc9 rfl) (listed' := [true, true, true, true, true, true, true, true, false]) rfl (by kernel_rfl) (by kernel_rfl) (by kernel_rfl) (fun _ _ _ h => h) rfl ?_; clear hS a; intro a hS
    refine Z_take0 (i := 8) hS rfl want_none (e_assign rfl) (listed' := [true, true, true, true, true, true, true, true, true]) rfl (by kernel_rfl) (by kernel_rfl) (by kernel_rfl) (fun _ _ _ h => h) rfl ?_; clear hS a; intro a hS
    refine Z_done (by kernel_rfl) ?_
    refine n_then ?_
    refine c_seq ?_
    refine c_region ?_
    refine L_op (s_e hS (e_move rfl) rfl ?_); clear hS a; intro a hS
    refine L_op (s_e hS (e_move rfl) rfl ?_); clear hS a; intro a hS
    refine L_op (s_e hS (e_move rfl) rfl ?_); clear hS a; intro a hS
    refine L_op (s_e hS (e_move rfl) rfl ?_); clear hS a; intro a hS
    refine L_op (s_e hS (e_lookupS rfl rfl ty_mp127 ty_u9 ty_zv136 (by repeat constructor)) rfl ?_); clear hS a; intro a hS
    rw [show accOf s.acs x.acc = accOf s.acs x.acc from rfl, lk_tot] at hS
    refine L_op (s_e hS (e_loadA rfl (by repeat constructor) ty_st63 ty_sz63 (by rfl)) rfl ?_); clear hS a; intro a hS
    refine L_op (s_callP hS (.cons rfl (.cons rfl .nil)) cf70 rfl (sadd_P (totOf (byF s.acs (ps.take i)) (curOf s.acs x.acc)) x f1 hxf f2 _) ?_); clear hS a; (try clear w); intro a w hS
    refine L_op (s_mapUp hS rfl rfl rfl ty_mp127 ty_u9 (by repeat constructor) ?_); clear hS; (try clear w); intro w hS
    refine L_nil ?_
    refine n_then ?_
    rw [show setM (entSm (byF s.acs (ps.take i))) (accOf s.acs x.acc).cur (.agg (encSm (addS (totOf (byF s.acs (ps.take i)) (curOf s.acs x.acc)) x)).toArray) = entSm (byF s.acs (ps.take (i + 1))) by rw [putT_set, hby]; rfl] at hS
    refine c_drawS [8] (by kernel_rfl) hS (sub_cons (X := .blk b8 _ _) (by repeat constructor) (sub_cons (X := .blk b6 _ _) (by repeat constructor) sub_nil)) ?_; clear hS; (try clear w); intro w hS
    simp only [List.length_cons, List.length_nil, Nat.zero_add, Nat.reduceAdd, List.replicate]
    refine Z_take (i := 0) hS rfl want_none (e_loadA rfl (by repeat constructor) ty_st106 ty_sz106 (by rfl)) (listed' := [true, false, false, false, false, false, false, false, false]) rfl (by kernel_rfl) (by kernel_rfl) (by kernel_rfl) (by kernel_rfl) (by kernel_rfl) (sub_cons (by repeat constructor) (sub_cons (by repeat constructor) sub_nil)) (fun _ _ _ h => h) rfl ?_; clear hS a; intro a hS
    first | (refine Z_take0 (i := 1) hS rfl want_none (e_fa0 rfl ty_fo63_2) (listed' := [true, true, false, false, false, false, false, false, false]) rfl (by kernel_rfl) (by kernel_rfl) (by kernel_rfl) (fun _ _ _ h => h) rfl ?_; clear hS a; intro a hS) | (refine Z_take0 (i := 1) hS rfl want_none (e_faK rfl ty_fo63_2) (listed' := [true, true, false, false, false, false, false, false, false]) rfl (by kernel_rfl) (by kernel_rfl) (by kernel_rfl) (fun _ _ _ h => h) rfl ?_; clear hS a; intro a hS)
    refine Z_take (i := 2) hS rfl want_none (e_load rfl (by repeat constructor) ty_sc3 (by rfl)) (listed' := [true, true, true, false, false, false, false, false, false]) rfl (by kernel_rfl) (by kernel_rfl) (by kernel_rfl) (by kernel_rfl) (by kernel_rfl) (sub_cons (by repeat constructor) (sub_cons (by repeat constructor) sub_nil)) (fun _ _ _ h => h) rfl ?_; clear hS a; intro a hS
    refine Z_one (i := 3) rfl (want_none a hS.sl) (listed' := [true, true, true, true, false, false, false, false, false]) rfl (by kernel_rfl) (s_callP hS (.cons rfl .nil) cf92 rfl (FromInt_P x.f (by omega) (by omega) _) ?_); clear hS a; (try clear w); intro a w hS
    refine Z_and hS (sub_cons (by repeat constructor) (sub_cons (by repeat constructor) sub_nil)) ?_
    refine Z_one (i := 4) rfl (want_none a hS.sl) (listed' := [true, true, true, true, true, false, false, false, false]) rfl (by kernel_rfl) (s_callP hS (.cons rfl (.cons rfl .nil)) cf97 rfl (Add_P (sumFn (ps.take i)) x.f f3 f4 f5 _) ?_); clear hS a; (try clear w); intro a w hS
    refine Z_and hS (sub_cons (by repeat constructor) (sub_cons (by repeat constructor) sub_nil)) ?_
    refine Z_take0 (i := 5) hS rfl want_none (e_move rfl) (listed' := [true, true, true, true, true, true, false, false, false]) rfl (by kernel_rfl) (by kernel_rfl) (by kernel_rfl) (fun _ _ _ h => h) rfl ?_; clear hS a; intro a hS
    refine Z_take0 (i := 6) hS rfl want_none (e_extract rfl rfl) (listed' := [true, true, true, true, true, true, true, false, false]) rfl (by kernel_rfl) (by kernel_rfl) (by kernel_rfl) (fun _ _ _ h => h) rfl ?_; clear hS a; intro a hS
    refine Z_take0 (i := 7) hS rfl want_none (e_extract rfl rfl) (listed' := [true, true, true, true, true, true, true, true, false]) rfl (by kernel_rfl) (by kernel_rfl) (by kernel_rfl) (fun _ _ _ h => h) rfl ?_; clear hS a; intro a hS
    refine Z_one (i := 8) rfl (want_none a hS.sl) (listed' := [true, true, true, true, true, true, true, true, true]) rfl (by kernel_rfl) (s_storeA hS rfl rfl ty_sz106 (by repeat constructor) (by rfl) (by rfl) (by rfl) ?_); clear hS; (try clear w); intro w hS
    refine Z_last (by simp) ?_
    refine Z_done (by kernel_rfl) ?_
    refine n_block ?_
    refine n_then ?_
    refine c_region ?_
    first | (refine L_op (s_e hS (e_binN rfl rfl rfl (by omega)) rfl ?_); clear hS a; intro a hS) | (refine L_op (s_e hS (e_bin rfl rfl rfl) rfl ?_); clear hS a; intro a hS)
    refine L_op (s_e hS (e_move rfl) rfl ?_); clear hS a; intro a hS
    refine L_nil ?_
    rw [← hsf] at hS
    exact ⟨i + 1, by omega, (hS.slots (by repeat (first | exact trivial | refine ⟨rfl, ?_⟩))).pick (by repeat (first | exact Pick.nil | (refine Pick.cons (by repeat (first | exact Rem.head | apply Rem.tail)) ?_))), by omega, by rw [hby]; exact bdT_step hbd hxf, by rw [hsf]; omega⟩
  ·
    obtain rfl : i = ps.length := by omega
    rw [List.take_length] at hS hbd hfn
    have hln : (entSm (byF s.acs ps)).length = (byF s.acs ps).length := by simp [entSm]
    refine wp_exit ?_
    refine x_then (x_then (x_hit ?_))
    refine n_then ?_
    refine c_seq ?_
    refine c_seq ?_
    refine c_region ?_
    refine L_op (s_e hS (e_move rfl) rfl ?_); clear hS a; intro a hS
    refine L_op (s_rangeM (l := entSm (byF s.acs ps)) hS rfl ty_mp127 (fun w hh => hh (smapA b12 (entSm (byF s.acs ps))) (by repeat constructor)) (by rfl) ?_); clear hS a; (try clear w); intro a w it hS
    refine L_nil ?_
    refine n_then ?_
    refine wp_block ?_
    skip
    refine c_loop (γ := List Nat) (fun sn a w => St 57 noB w0 a w [(45, .pointer (some ⟨it, 0, none⟩)), (6, .pointer (some ⟨b6, 0, none⟩))] [itA it b12 sn (entSm (byF s.acs ps)).length, .blk b6 (wv (sumFn ps)) 106, smapA b12 (entSm (byF s.acs ps))] ∧ sn.Nodup ∧ ∀ i ∈ sn, ∃ t, (byF s.acs ps)[i]? = some t ∧ t.2.1 = 0) (fun sn => (byF s.acs ps).length - sn.length) [] ⟨(hS.slots (by repeat (first | exact trivial | refine ⟨rfl, ?_⟩))).pick (by repeat (first | exact Pick.nil | (refine Pick.cons (by repeat (first | exact Rem.head | apply Rem.tail)) ?_))), .nil, fun i hi => by cases hi⟩ ?_
    clear hS a; (try clear w); intro sn a w hI
    obtain ⟨hS, hnd, hz⟩ := hI
    refine c_seq ?_
    refine c_region ?_
    refine L_op (s_nextO (l := entSm (byF s.acs ps)) hS rfl (fun w hh => hh (smapA b12 (entSm (byF s.acs ps))) (by repeat constructor)) (by rfl) (fun _ => .head) ?_); intro o ho a1 w1 hS1; clear hS a; revert a1; intro a hS
    refine L_op (s_e hS (e_extract rfl (nx0 o)) rfl ?_); clear hS a; intro a hS
    refine L_nil ?_
    refine n_then ?_
    refine c_seq ?_
    first | refine c_ifD hS rfl (fun hc47 => ?_) (fun hc47 => ?_) | refine c_if hS rfl (fun hc47 => ?_) (fun hc47 => ?_)
    ·
      obtain ⟨⟨i, k, v⟩, rfl⟩ : ∃ q, o = some q := Option.isSome_iff_exists.1 hc47
      obtain ⟨hl, hns⟩ := ho
      simp only [nxS] at hS
      obtain ⟨t, ht, hv⟩ : ∃ t, (byF s.acs ps)[i]? = some t ∧ v = .agg (encSm t.2).toArray := by
        unfold entSm at hl
        rw [List.getElem?_map] at hl
        cases e : (byF s.acs ps)[i]? with
        | none => rw [e] at hl; cases hl
        | some t => rw [e] at hl; injection hl with hl; injection hl with _ h2; exact ⟨t, rfl, h2.symm⟩
      subst hv
      have hnd2 : (sn ++ [i]).Nodup := List.nodup_append.2 ⟨hnd, by simp, fun x hx y hy => by obtain rfl := List.mem_singleton.1 hy; exact fun e => hns (e ▸ hx)⟩
      have hlt2 : ∀ j ∈ sn ++ [i], j < (byF s.acs ps).length := fun j hj => by
        rcases List.mem_append.1 hj with hj | hj
        · obtain ⟨t', ht', _⟩ := hz j hj; exact (List.getElem?_eq_some_iff.1 ht').1
        · obtain rfl := List.mem_singleton.1 hj; exact (List.getElem?_eq_some_iff.1 ht).1
      have hsl := nodup_le _ _ hnd2 hlt2
      rw [List.length_append, List.length_singleton] at hsl
      have htm := List.mem_of_getElem? ht
      have ftt : Wd.fit t.2.1 := by have := hbd t htm; unfold Wd.fit; omega
      refine wp_skip ?_
      refine n_then ?_
      refine wp_block ?_
      refine c_seq ?_
      refine c_region ?_
      refine L_op (s_e hS (e_entryM rfl (fun w hh => hh (smapA b12 (entSm (byF s.acs ps))) (by repeat constructor)) (by repeat constructor) hl) rfl ?_); clear hS a; intro a hS
      refine L_op (s_e hS (e_extract rfl rfl) rfl ?_); clear hS a; intro a hS
      refine L_op (s_alloc hS ty_z136 rfl ?_); clear hS a; (try clear w); intro a w b11 hS
      refine L_op (s_storeA hS rfl rfl ty_sz136 (by repeat constructor) (by rfl) (by rfl) (by rfl) ?_); clear hS; (try clear w); intro w hS
      refine L_nil ?_
      refine n_then ?_
      refine c_seq ?_
      refine c_region ?_
      first | (refine L_op (s_e hS (e_fa0 rfl ty_fo136_0) rfl ?_); clear hS a; intro a hS) | (refine L_op (s_e hS (e_faK rfl ty_fo136_0) rfl ?_); clear hS a; intro a hS)
      refine L_op (s_e hS (e_loadSub (l := wv t.2.1) rfl (by repeat constructor) ty_st106 ty_sz106 rfl) rfl ?_); clear hS a; intro a hS
      refine L_op (s_callP hS (.cons rfl .nil) cf102 rfl (PureC.of_below (Sign_w t.2.1 ftt _)) ?_); clear hS a; (try clear w); intro a w hS
      refine L_op (s_e hS (e_bin rfl rfl rfl) rfl ?_); clear hS a; intro a hS
      refine L_nil ?_
      refine n_then ?_
      first | refine c_ifD hS rfl (fun hc53 => ?_) (fun hc53 => ?_) | refine c_if hS rfl (fun hc53 => ?_) (fun hc53 => ?_)
      ·
        refine c_seq ?_
        refine c_region ?_
        refine L_op (s_e hS (e_assign rfl) rfl ?_); clear hS a; intro a hS
        refine L_nil ?_
        refine n_then ?_
        refine wp_ret ?_
        refine r_block (r_then (r_block (r_then ?_)))
        refine c_ret1 hS Try.results76 (.tmp rfl) ?_
        exact ⟨by rw [decide_eq_false (fun hE : evenF s.acs ps => hc53 (sg_zero.2 (hE.1 t htm)))], hS.chg⟩
      ·
        refine wp_skip ?_
        refine n_block ?_
        have ht0 : t.2.1 = 0 := sg_zero.1 (Classical.byContradiction fun e => hc53 e)
        exact ⟨sn ++ [i], by rw [List.length_append, List.length_singleton]; omega, (hS.slots (by repeat (first | exact trivial | refine ⟨rfl, ?_⟩))).pick (by repeat (first | exact Pick.nil | (refine Pick.cons (by repeat (first | exact Rem.head | apply Rem.tail)) ?_))), hnd2, fun j hj => by
          rcases List.mem_append.1 hj with hj | hj
          · exact hz j hj
          · obtain rfl := List.mem_singleton.1 hj; exact ⟨t, ht, ht0⟩⟩
    ·
      obtain rfl : o = none := by
        cases o with
        | none => rfl
        | some q => cases hc47
      have ffn : Wd.fit (sumFn ps) := by unfold Wd.fit; omega
      refine wp_exit ?_
      refine x_then (x_then (x_hit ?_))
      refine n_then ?_
      refine c_seq ?_
      refine c_region ?_
      refine L_op (s_e hS (e_loadA rfl (by repeat constructor) ty_st106 ty_sz106 (by rfl)) rfl ?_); clear hS a; intro a hS
      refine L_op (s_callP hS (.cons rfl .nil) cf102 rfl (PureC.of_below (Sign_w (sumFn ps) ffn _)) ?_); clear hS a; (try clear w); intro a w hS
      refine L_op (s_e hS (e_bin rfl rfl rfl) rfl ?_); clear hS a; intro a hS
      refine L_op (s_e hS (e_assign rfl) rfl ?_); clear hS a; intro a hS
      refine L_nil ?_
      refine n_then ?_
      refine wp_ret ?_
      refine c_ret1 hS Try.results76 (.tmp rfl) ?_
      have hall : ∀ t ∈ byF s.acs ps, t.2.1 = 0 := fun t ht => by
        obtain ⟨j, hj, rfl⟩ := List.mem_iff_getElem.1 ht
        obtain ⟨t', ht', h0⟩ := hz j (ho j (by rw [hln]; exact hj))
        rw [List.getElem?_eq_getElem hj] at ht'
        cases ht'; exact h0
      exact ⟨congrArg (fun b => Ending.returned (Value.bool b)) (decide_eq_decide.2 ⟨fun e => ⟨hall, sg_zero.1 e⟩, fun e => sg_zero.2 e.2⟩), hS.chg⟩
end Go.Proofs.Ytheofhegdjjfgaa
