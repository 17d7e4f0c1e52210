/- Rates in memory; New and Set, walked. -/
import Derived.Test.YtheofhegdjjfgaaFx1
namespace Go.Proofs.Ytheofhegdjjfgaa
open Go.RowKit

/-- a currency's rates: instants and worths, and the slice that holds them. -/
structure RA where
  cur : ByteArray
  rows : List (Int × Int)
  v : Value
def encT (c : ByteArray) (x : Int × Int) : List Value := [.string c, .int .i64 x.1, .int .i64 x.2]
def rowT (e : RA) (w : World) : Prop := w.ownsRow 0 93 3 e.v e.rows.length (e.rows.flatMap (encT e.cur))
def entT (es : List RA) : List (ByteArray × Value) := es.map fun e => (e.cur, e.v)
def vsT (es : List RA) : List (ByteArray × List (Int × Int)) := es.map fun e => (e.cur, e.rows)
/-- what holds of the rates besides their memory. -/
structure wfT (es : List RA) (n : Int) : Prop where
  keys : es.Pairwise fun x y => x.cur ≠ y.cur
  apart : es.Pairwise fun x y => ∀ k, x.v.ownBlock = some k → y.v.ownBlock ≠ some k
  len : ∀ e ∈ es, (e.rows.length : Int) ≤ n
  n : 0 ≤ n ∧ n ≤ 500
def rowsT (es : List RA) : Asn := .any (fun k => ∃ e ∈ es, e.v.ownBlock = some k) (fun w => ∀ e ∈ es, rowT e w) true
def bkT (bk mb : Nat) (own : ByteArray) (n : Int) : Asn := .blk bk [.string own, .map (some mb), .int .i64 n] 114
structure ratesφ (bk mb : Nat) (own : ByteArray) (es : List RA) (n : Int) (w : World) : Prop where
  bk : w.heap[bk]? = some (.cells [.string own, .map (some mb), .int .i64 n].toArray 114 (0, 0))
  mp : w.heap[mb]? = some (.map (mkM 0 (entT es)).toArray (entT es).length)
  rows : ∀ e ∈ es, rowT e w
  wf : wfT es n
def ratesF (bk mb : Nat) (es : List RA) (k : Nat) : Prop := k = bk ∨ k = mb ∨ ∃ e ∈ es, e.v.ownBlock = some k
def ratesA (bk mb : Nat) (own : ByteArray) (es : List RA) (n : Int) (m : Bool) : Asn := .any (ratesF bk mb es) (ratesφ bk mb own es n) m

theorem owns_keep {w w' : World} {E s : Nat} {v : Value} {m : Nat} {xs : List Value} (h : w.ownsRow 0 E s v m xs) (hw : ∀ b, v.ownBlock = some b → w'.heap[b]? = w.heap[b]?) : w'.ownsRow 0 E s v m xs :=
  (ok_own h).hold w' hw
theorem rows_ok {es : List RA} {w : World} (h : ∀ e ∈ es, rowT e w) : (rowsT es).ok w := by
  refine ⟨fun b hb => ?_, fun w' hw e he => owns_keep (h e he) (fun b hb => hw b ⟨e, he, hb⟩)⟩
  obtain ⟨e, he, hb⟩ := hb
  exact (World.ownsRow.lt (h e he) b hb).2
theorem rates_ok {bk mb : Nat} {own : ByteArray} {es : List RA} {n : Int} {w : World} (m : Bool) (h : ratesφ bk mb own es n w) : (ratesA bk mb own es n m).ok w := by
  refine ⟨fun b hb => ?_, fun w' hw => ⟨?_, ?_, fun e he => owns_keep (h.rows e he) (fun b hb => hw b (.inr (.inr ⟨e, he, hb⟩))), h.wf⟩⟩
  · rcases hb with rfl | rfl | ⟨e, he, hb⟩
    · exact (Array.getElem?_eq_some_iff.1 h.bk).1
    · exact (Array.getElem?_eq_some_iff.1 h.mp).1
    · exact (World.ownsRow.lt (h.rows e he) b hb).2
  · rw [hw bk (.inl rfl)]; exact h.bk
  · rw [hw mb (.inr (.inl rfl))]; exact h.mp
theorem row_obj {w : World} {E s : Nat} {v : Value} {m : Nat} {xs : List Value} (h : w.ownsRow 0 E s v m xs) {g : Nat} (hg : v.ownBlock = some g) : ∃ cs, w.heap[g]? = some (.cells cs E (0, 0)) := by
  rcases h.2 with ⟨rfl, _⟩ | ⟨g', cap, cur, rfl, _, e2, _⟩
  · cases hg
  · simp [Value.ownBlock] at hg; subst hg; exact ⟨_, e2⟩
theorem rates_apart {bk mb : Nat} {own : ByteArray} {es : List RA} {n : Int} {w : World} (h : ratesφ bk mb own es n w) : bk ≠ mb ∧ (∀ e ∈ es, e.v.ownBlock ≠ some bk) ∧ ∀ e ∈ es, e.v.ownBlock ≠ some mb := by
  refine ⟨fun e => ?_, fun e he hb => ?_, fun e he hb => ?_⟩
  · have h1 := h.bk; rw [e, h.mp] at h1; cases h1
  · obtain ⟨cs, h1⟩ := row_obj (h.rows e he) hb
    rw [h.bk] at h1; cases h1
  · obtain ⟨cs, h1⟩ := row_obj (h.rows e he) hb
    rw [h.mp] at h1; cases h1

/-! ### one currency among them -/
theorem no_cur {es : List RA} {c : ByteArray} (h : ∀ e ∈ es, e.cur ≠ c) (m : Nat) : idxM (entT es) c m = none := by
  induction es generalizing m with
  | nil => rfl
  | cons e es ih =>
    show (if e.cur = c then _ else _) = _
    rw [if_neg (h e (.head _))]
    exact ih (fun x hx => h x (.tail _ hx)) _
theorem is_cur {es : List RA} (hk : es.Pairwise fun x y => x.cur ≠ y.cur) {i : Nat} {e : RA} (h : es[i]? = some e) (m : Nat) : idxM (entT es) e.cur m = some (m + i, e.v) := by
  induction es generalizing i m with
  | nil => cases h
  | cons x es ih =>
    have hk' := List.pairwise_cons.1 hk
    cases i with
    | zero =>
      simp at h; subst h
      show (if x.cur = x.cur then _ else _) = _
      rw [if_pos rfl]; rfl
    | succ i =>
      have h2 : es[i]? = some e := by simpa using h
      show (if x.cur = e.cur then _ else _) = _
      rw [if_neg (hk'.1 e (List.mem_of_getElem? h2)), show m + (i + 1) = (m + 1) + i by omega]
      exact ih hk'.2 h2 _
theorem has_cur (es : List RA) (c : ByteArray) : (∃ (i : Nat) (e : RA), es[i]? = some e ∧ e.cur = c) ∨ ∀ e ∈ es, e.cur ≠ c := by
  by_cases h : ∃ e ∈ es, e.cur = c
  · obtain ⟨e, he, hc⟩ := h
    obtain ⟨i, hi, rfl⟩ := List.mem_iff_getElem.1 he
    exact .inl ⟨i, _, List.getElem?_eq_getElem hi, hc⟩
  · exact .inr fun e he hc => h ⟨e, he, hc⟩
/-- a currency's rates, in plain data. -/
def rowsOf (l : List (ByteArray × List (Int × Int))) (c : ByteArray) : List (Int × Int) := match l.find? (fun e => decide (e.1 = c)) with | some e => e.2 | none => []
theorem rowsOf_no {es : List RA} {c : ByteArray} (h : ∀ e ∈ es, e.cur ≠ c) : rowsOf (vsT es) c = [] := by
  unfold rowsOf
  rw [List.find?_eq_none.2]
  intro x hx
  obtain ⟨e, he, rfl⟩ := List.mem_map.1 hx
  simpa using h e he
theorem rowsOf_is {es : List RA} (hk : es.Pairwise fun x y => x.cur ≠ y.cur) {i : Nat} {e : RA} (h : es[i]? = some e) : rowsOf (vsT es) e.cur = e.rows := by
  induction es generalizing i with
  | nil => cases h
  | cons x es ih =>
    have hk' := List.pairwise_cons.1 hk
    unfold rowsOf vsT
    rw [List.map_cons, List.find?_cons]
    cases i with
    | zero => simp at h; subst h; simp
    | succ i =>
      have h2 : es[i]? = some e := by simpa using h
      have : decide (x.cur = e.cur) = false := decide_eq_false (hk'.1 e (List.mem_of_getElem? h2))
      simp only [this]
      exact ih hk'.2 h2
def putL : List (ByteArray × List (Int × Int)) → ByteArray → List (Int × Int) → List (ByteArray × List (Int × Int))
  | [], c, r => [(c, r)]
  | (k, u) :: l, c, r => if k = c then (c, r) :: l else (k, u) :: putL l c r
theorem putL_no {es : List RA} {c : ByteArray} (r : List (Int × Int)) (h : ∀ e ∈ es, e.cur ≠ c) : putL (vsT es) c r = vsT es ++ [(c, r)] := by
  induction es with
  | nil => rfl
  | cons e es ih =>
    show (if e.cur = c then _ else _) = _
    rw [if_neg (h e (.head _))]
    show _ :: putL (vsT es) c r = _
    rw [ih (fun x hx => h x (.tail _ hx))]; rfl
theorem putL_is {es : List RA} (hk : es.Pairwise fun x y => x.cur ≠ y.cur) {i : Nat} {e : RA} (r : List (Int × Int)) (h : es[i]? = some e) : putL (vsT es) e.cur r = (vsT es).set i (e.cur, r) := by
  induction es generalizing i with
  | nil => cases h
  | cons x es ih =>
    have hk' := List.pairwise_cons.1 hk
    cases i with
    | zero =>
      simp at h; subst h
      show (if x.cur = x.cur then _ else _) = _
      rw [if_pos rfl]; rfl
    | succ i =>
      have h2 : es[i]? = some e := by simpa using h
      show (if x.cur = e.cur then _ else _) = _
      rw [if_neg (hk'.1 e (List.mem_of_getElem? h2))]
      show _ :: putL (vsT es) e.cur r = _
      rw [ih hk'.2 h2]; rfl
/-- the error of a rate that is set. -/
def setE (own : ByteArray) (l : List (ByteArray × List (Int × Int))) (n : Int) (c : ByteArray) (at_ nano : Int) : Int :=
  if c = own then 18 else if askF c at_ ≠ 0 then askF c at_ else if nano < 1 ∨ 1125899906842624 < nano then 6
  else if (∃ x, (rowsOf l c).getLast? = some x ∧ at_ ≤ x.1) then 34 else if 500 ≤ n then 9 else 0
instance (l : List (Int × Int)) (at_ : Int) : Decidable (∃ x, l.getLast? = some x ∧ at_ ≤ x.1) :=
  match l.getLast? with
  | none => .isFalse fun ⟨_, h, _⟩ => by cases h
  | some x => if h : at_ ≤ x.1 then .isTrue ⟨x, rfl, h⟩ else .isFalse fun ⟨_, h1, h2⟩ => by cases h1; exact h h2

set_option maxRecDepth 100000 in
theorem fxNew_P (c : ByteArray) (w0 : World) (hc : (scaleR c).2 = 0) : NewC Try.prog 37 [.string c] w0 (fun y : Nat × Nat => .tuple [.pointer (some ⟨y.1, 0, none⟩), .int .i64 0].toArray) (fun y => ratesA y.1 y.2 c [] 0 true) := by
  refine c_enter [(0, .string c)] [] noB Try.func37 rfl Try.ntmps37 ⟨rfl, trivial⟩ rfl (by simp) (by simp) (by simp) ?_
  intro a hS
  refine c_seq ?_
  refine c_region ?_
  refine L_op (s_e hS (e_assign rfl) rfl ?_); clear hS a; intro a hS
  refine L_op (s_e hS (e_assign rfl) rfl ?_); clear hS a; intro a hS
  refine L_nil ?_
  refine n_then ?_
  refine c_seq ?_
  refine c_seq ?_
  refine c_region ?_
  refine L_op (s_e hS (e_move rfl) rfl ?_); clear hS a; intro a hS
  refine L_op (s_callP hS (.cons rfl .nil) cf79 rfl (Scale_P c _) ?_); clear hS a; (try clear w); intro a w hS
  refine L_op (s_e hS (e_move rfl) rfl ?_); clear hS a; intro a hS
  refine L_op (s_e hS (e_extract rfl rfl) rfl ?_); clear hS a; intro a hS
  refine L_op (s_e hS (e_extract rfl rfl) rfl ?_); clear hS a; intro a hS
  refine L_op (s_e hS (e_assign rfl) rfl ?_); clear hS a; intro a hS
  refine L_op (s_e hS (e_assign rfl) rfl ?_); clear hS a; intro a hS
  refine L_nil ?_
  refine n_then ?_
  refine c_seq ?_
  refine c_region ?_
  refine L_op (s_e hS (e_move rfl) rfl ?_); clear hS a; intro a hS
  refine L_op (s_e hS (e_bin rfl rfl rfl) rfl ?_); clear hS a; intro a hS
  refine L_nil ?_
  refine n_then ?_
  replace hS := hS.is (t := 12) (c := false) rfl ((decide_eq_false (by rw [hc]; decide)))
  refine c_if_f hS rfl ?_
  refine wp_skip ?_
  refine n_then ?_
  refine c_seq ?_
  refine c_region ?_
  refine L_op (s_e hS (e_move rfl) rfl ?_); clear hS a; intro a hS
  refine L_op (s_makeMapS hS rfl ?_); clear hS a; (try clear w); intro a w b15 hS
  refine L_op (s_e hS (e_build ty_z114 ty_pl114 (.one rfl rfl rfl (by repeat constructor) (.one rfl rfl rfl (by repeat constructor) .nil))) rfl ?_); clear hS a; intro a hS
  refine L_op (s_boxA hS rfl rfl ?_); clear hS a; (try clear w); intro a w b17 hS
  refine L_op (s_e hS (e_assign rfl) rfl ?_); clear hS a; intro a hS
  refine L_op (s_e hS (e_assign rfl) rfl ?_); clear hS a; intro a hS
  refine L_nil ?_
  refine n_then ?_
  refine wp_ret ?_
  refine c_retN hS Try.results37 (.cons (.tmp rfl) (.cons (.tmp rfl) .nil)) rfl ?_
  refine ⟨(b17, b15), rfl, hS.chg, rates_ok true ⟨hS.get (X := .blk b17 _ _) (by repeat constructor), hS.get (X := smapA b15 []) (by repeat constructor), fun e he => (by cases he), ⟨.nil, .nil, fun e he => (by cases he), by decide, by decide⟩⟩, fun b hb => ?_⟩
  rcases hb with hb | hb | ⟨e, he, _⟩
  · rw [hb]; exact (hS.new (X := .blk b17 _ _) (by repeat constructor) rfl).2 _ rfl
  · rw [hb]; exact (hS.new (X := smapA b15 []) (by repeat constructor) rfl).2 _ rfl
  · cases he
set_option maxRecDepth 100000 in
theorem fxNew_no (c : ByteArray) (w0 : World) (hc : (scaleR c).2 ≠ 0) : PureC Try.prog 37 [.string c] w0 (.tuple [.pointer none, .int .i64 18].toArray) := by
  have := scale_err c
  refine c_enter [(0, .string c)] [] noB Try.func37 rfl Try.ntmps37 ⟨rfl, trivial⟩ rfl (by simp) (by simp) (by simp) ?_
  intro a hS
  refine c_seq ?_
  refine c_region ?_
  refine L_op (s_e hS (e_assign rfl) rfl ?_); clear hS a; intro a hS
  refine L_op (s_e hS (e_assign rfl) rfl ?_); clear hS a; intro a hS
  refine L_nil ?_
  refine n_then ?_
  refine c_seq ?_
  refine c_seq ?_
  refine c_region ?_
  refine L_op (s_e hS (e_move rfl) rfl ?_); clear hS a; intro a hS
  refine L_op (s_callP hS (.cons rfl .nil) cf79 rfl (Scale_P c _) ?_); clear hS a; (try clear w); intro a w hS
  refine L_op (s_e hS (e_move rfl) rfl ?_); clear hS a; intro a hS
  refine L_op (s_e hS (e_extract rfl rfl) rfl ?_); clear hS a; intro a hS
  refine L_op (s_e hS (e_extract rfl rfl) rfl ?_); clear hS a; intro a hS
  refine L_op (s_e hS (e_assign rfl) rfl ?_); clear hS a; intro a hS
  refine L_op (s_e hS (e_assign rfl) rfl ?_); clear hS a; intro a hS
  refine L_nil ?_
  refine n_then ?_
  refine c_seq ?_
  refine c_region ?_
  refine L_op (s_e hS (e_move rfl) rfl ?_); clear hS a; intro a hS
  refine L_op (s_e hS (e_bin rfl rfl rfl) rfl ?_); clear hS a; intro a hS
  refine L_nil ?_
  refine n_then ?_
  replace hS := hS.is (t := 12) (c := true) rfl ((decide_eq_true hc))
  refine c_if_t hS rfl ?_
  refine c_seq ?_
  refine c_region ?_
  refine L_op (s_e hS (e_move rfl) rfl ?_); clear hS a; intro a hS
  refine L_op (s_e hS (e_assign rfl) rfl ?_); clear hS a; intro a hS
  refine L_op (s_e hS (e_assign rfl) rfl ?_); clear hS a; intro a hS
  refine L_nil ?_
  refine n_then ?_
  refine wp_ret ?_
  refine r_then ?_
  refine c_retN hS Try.results37 (.cons (.tmp rfl) (.cons (.tmp rfl) .nil)) rfl ?_
  exact ⟨by rw [show (scaleR c).2 = 18 by omega], hS.chg⟩
end Go.Proofs.Ytheofhegdjjfgaa
