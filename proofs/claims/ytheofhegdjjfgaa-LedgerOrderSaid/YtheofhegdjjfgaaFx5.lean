/- Rates: Get, walked. -/
import Derived.Test.YtheofhegdjjfgaaFx4
namespace Go.Proofs.Ytheofhegdjjfgaa
open Go.RowKit

/-- the latest rate that is not later. -/
def lastLe (rows : List (Int × Int)) (at_ : Int) : Option (Int × Int) := rows.reverse.find? fun x => decide (x.1 ≤ at_)
def getF (own : ByteArray) (l : List (ByteArray × List (Int × Int))) (c : ByteArray) (at_ : Int) : Int × Int :=
  if askF c at_ ≠ 0 then (0, askF c at_) else if c = own then (1000000000, 0) else match lastLe (rowsOf l c) at_ with | some x => (x.2, 0) | none => (0, 28)
theorem last_at {rows : List (Int × Int)} {d : Nat} {x : Int × Int} {at_ : Int} (hd : d < rows.length) (hx : rows[rows.length - 1 - d]? = some x) (hle : x.1 ≤ at_) (hb : ∀ i ∈ downL rows.length d, ∀ y, rows[i]? = some y → at_ < y.1) : lastLe rows at_ = some x := by
  unfold lastLe
  rw [List.find?_eq_some_iff_getElem]
  have hx2 : rows.reverse[d]? = some x := by rw [List.getElem?_reverse hd]; exact hx
  obtain ⟨h1, h2⟩ := List.getElem?_eq_some_iff.1 hx2
  refine ⟨by simpa using hle, d, h1, h2, fun j hj => ?_⟩
  have hj2 : j < rows.length := by omega
  have h3 := hb (rows.length - 1 - j) (List.mem_map.2 ⟨j, List.mem_range.2 hj, rfl⟩) (rows[rows.length - 1 - j]'(by omega)) (List.getElem?_eq_getElem (by omega))
  rw [List.getElem_reverse]
  simp only [Bool.not_eq_true', decide_eq_false_iff_not]
  have : rows.length - 1 - j = rows.length - 1 - j := rfl
  omega
theorem last_none {rows : List (Int × Int)} {at_ : Int} (hb : ∀ i ∈ downL rows.length rows.length, ∀ y, rows[i]? = some y → at_ < y.1) : lastLe rows at_ = none := by
  unfold lastLe
  rw [List.find?_eq_none]
  intro x hx
  obtain ⟨i, hi, rfl⟩ := List.mem_iff_getElem.1 (List.mem_reverse.1 hx)
  have := hb i (List.mem_map.2 ⟨rows.length - 1 - i, List.mem_range.2 (by omega), by omega⟩) rows[i] (List.getElem?_eq_getElem hi)
  simp only [decide_eq_true_eq]; omega

/-- a currency's slice, whether it is there or not. -/
theorem cur_at {bk mb : Nat} {own c : ByteArray} {es : List RA} {n : Int} {w : World} (h : ratesφ bk mb own es n w) : ∃ e : RA, e.cur = c ∧ lkM (entT es) c (.slice none 0 0) = e.v ∧ rowsOf (vsT es) c = e.rows ∧ rowT e w ∧ (∀ k, e.v.ownBlock = some k → ratesF bk mb es k) ∧ e.rows.length ≤ 500 := by
  have hn := h.wf.n
  rcases has_cur es c with ⟨i, e, he, rfl⟩ | hno
  · have hm := List.mem_of_getElem? he
    have hl := h.wf.len e hm
    refine ⟨e, rfl, ?_, rowsOf_is h.wf.keys he, h.rows e hm, fun k hk => .inr (.inr ⟨e, hm, hk⟩), by omega⟩
    unfold lkM; rw [is_cur h.wf.keys he 0]
  · refine ⟨⟨c, [], .slice none 0 0⟩, rfl, ?_, rowsOf_no hno, World.ownsRow_nil _ _ _ _, fun k hk => (by cases hk), Nat.zero_le _⟩
    unfold lkM; rw [no_cur hno 0]
theorem rowT_keep {e : RA} {w w' : World} (h : rowT e w) (hw : ∀ b, e.v.ownBlock = some b → w'.heap[b]? = w.heap[b]?) : rowT e w' := owns_keep h hw
/-- a block that is only read. -/
def roA (b : Nat) (cs : List Value) (E : Nat) : Asn := .any (fun k => k = b) (fun w => w.heap[b]? = some (.cells cs.toArray E (0, 0))) false
theorem ro_ok {b E : Nat} {cs : List Value} {w : World} (h : w.heap[b]? = some (.cells cs.toArray E (0, 0))) : (roA b cs E).ok w :=
  ⟨fun k hk => by obtain rfl : k = b := hk; exact (Array.getElem?_eq_some_iff.1 h).1, fun w' hw => by show w'.heap[b]? = _; rw [hw b rfl]; exact h⟩
theorem ro_get {Γ : List Asn} {b E : Nat} {cs : List Value} (hm : roA b cs E ∈ Γ) {k : Nat} {v : Value} (hv : cs[k]? = some v) : ∀ w, Hd Γ w → w.cell? ⟨b, k, none⟩ = some v := fun _ hh => cell_of_blk (E := E) (hh _ hm) hv

/-- what holds between two rounds of Get's loop. -/
structure getI (w0 : World) (e : RA) (at_ : Int) (b5 b6 b7 b : Nat) (pre : List Nat) (W : World) : Prop where
  chg : Chg noB w0 W
  k : backK b e W
  h5 : W.heap[b5]? = some (.cells [Value.int .i64 at_].toArray 3 (0, 0))
  h6 : W.heap[b6]? = some (.cells [Value.int .i64 0].toArray 3 (0, 0))
  h7 : W.heap[b7]? = some (.cells [Value.int .i64 0].toArray 27 (0, 0))
  no : ∀ i ∈ pre, at_ < (e.rows.getD i (0, 0)).1
structure getX (w0 : World) (e : RA) (at_ : Int) (b6 b7 : Nat) (c : Code) (pre : List Nat) (W : World) : Prop where
  chg : Chg noB w0 W
  ret : c = .ret
  got : ∃ p i, pre = p ++ [i] ∧ (∀ j ∈ p, at_ < (e.rows.getD j (0, 0)).1) ∧ (e.rows.getD i (0, 0)).1 ≤ at_ ∧ W.heap[b6]? = some (.cells [Value.int .i64 (e.rows.getD i (0, 0)).2].toArray 3 (0, 0)) ∧ W.heap[b7]? = some (.cells [Value.int .i64 0].toArray 27 (0, 0))
theorem chg_ab {w0 W W' : World} {B : Nat} (h : Chg noB w0 W) (hB : w0.heap.size ≤ B) (e1 : W'.os = W.os) (e2 : W'.tape = W.tape) (e3 : W'.output = W.output) (e4 : W.heap.size ≤ W'.heap.size) (e5 : ∀ k, k < B → W'.heap[k]? = W.heap[k]?) : Chg noB w0 W' :=
  ⟨e1.trans h.os, e2.trans h.tape, e3.trans h.output, Nat.le_trans h.size e4, fun k hk hn => (e5 k (by omega)).trans (h.block k hk hn)⟩
theorem getI_ab {w0 : World} {e : RA} {at_ : Int} {b5 b6 b7 b B : Nat} (hB : w0.heap.size ≤ B) (h5 : b5 < B) (h6 : b6 < B) (h7 : b7 < B) (hb : b < B) (he : ∀ k, e.v.ownBlock = some k → k < B) : AbB B (getI w0 e at_ b5 b6 b7 b) :=
  fun _ _ _ h e1 e2 e3 e4 e5 => ⟨chg_ab h.chg hB e1 e2 e3 e4 e5, ⟨(e5 b hb).trans h.k.1, owns_keep h.k.2 (fun k hk => e5 k (he k hk))⟩, (e5 _ h5).trans h.h5, (e5 _ h6).trans h.h6, (e5 _ h7).trans h.h7, h.no⟩
theorem getX_ab {w0 : World} {e : RA} {at_ : Int} {b6 b7 B : Nat} (hB : w0.heap.size ≤ B) (h6 : b6 < B) (h7 : b7 < B) (c : Code) : AbB B (getX w0 e at_ b6 b7 c) :=
  fun _ _ _ h e1 e2 e3 e4 e5 => by
    obtain ⟨p, i, q1, q2, q3, q4, q5⟩ := h.got
    exact ⟨chg_ab h.chg hB e1 e2 e3 e4 e5, h.ret, p, i, q1, q2, q3, (e5 _ h6).trans q4, (e5 _ h7).trans q5⟩
/-- the three steps of a round, as a change of what the caller sees. -/
theorem chg_round {w0 W W1 W2 W3 : World} {B : Nat} {F : Nat → Prop} (h : Chg noB w0 W) (hB : w0.heap.size ≤ B) (h1 : Chg noB W W1) (hT : Turn (B + 1) W1 W2) (h3 : Chg F W2 W3) (hF : ∀ k, F k → w0.heap.size ≤ k) : Chg noB w0 W3 := by
  refine ⟨h3.os.trans (hT.os.trans (h1.os.trans h.os)), h3.tape.trans (hT.tape.trans (h1.tape.trans h.tape)), h3.output.trans (hT.output.trans (h1.output.trans h.output)), ?_, fun k hk _ => ?_⟩
  · have := h.size; have := h1.size; have := hT.size; have := h3.size; omega
  · have e1 := h.block k hk (fun hf => hf)
    have e2 := h1.block k (by have := h.size; omega) (fun hf => hf)
    have e3 := hT.same k (by omega)
    have e4 := h3.block k (by have := h.size; have := h1.size; have := hT.size; omega) (fun hf => by have := hF k hf; omega)
    exact e4.trans (e3.trans (e2.trans e1))
theorem lt_blk {w : World} {b E : Nat} {cs : Array Value} (h : w.heap[b]? = some (.cells cs E (0, 0))) : b < w.heap.size := (Array.getElem?_eq_some_iff.1 h).1

theorem mine2 {w0 : World} {F0 : Nat → Prop} {b c E E' : Nat} {l l' : List Value} (hb : w0.heap.size ≤ b) (hc : w0.heap.size ≤ c) : ∀ X ∈ [Asn.blk b l E, Asn.blk c l' E'], X.mine = true → ∀ k, X.F k → w0.heap.size ≤ k ∨ F0 k := fun X hX _ k hk => .inl (by
  rcases List.mem_cons.1 hX with rfl | hX
  · have : k = b := hk; omega
  · obtain rfl := List.mem_singleton.1 hX
    have : k = c := hk; omega)
theorem ne2 {D b c E E' : Nat} {l l' : List Value} (hb : b < D) (hc : c < D) : ∀ X ∈ [Asn.blk b l E, Asn.blk c l' E'], ∀ k, X.F k → k ≠ D := fun X hX k hk => by
  rcases List.mem_cons.1 hX with rfl | hX
  · have : k = b := hk; omega
  · obtain rfl := List.mem_singleton.1 hX
    have : k = c := hk; omega
theorem round2 {a : Act} {p q : Nat} {u v : Value} (hd : a.defers = []) : (a.put (some p) u).put (some q) v = ({ tmps := (a.tmps.setIfInBounds p u).setIfInBounds q v, defers := [] } : Act) := by
  simp [Act.put, hd]
set_option maxRecDepth 100000 in
theorem fxGet_P (bk mb : Nat) (own c : ByteArray) (es : List RA) (n at_ : Int) (w0 : World) (h : ratesφ bk mb own es n w0) :
    PureC Try.prog 18 [.pointer (some ⟨bk, 0, none⟩), .string c, .int .i64 at_] w0 (.tuple [.int .i64 (getF own (vsT es) c at_).1, .int .i64 (getF own (vsT es) c at_).2].toArray) := by
  obtain ⟨e, hec, hlk, hro, hrow, heF, hel⟩ := cur_at (c := c) h
  refine callsM_enter [(0, .pointer (some ⟨bk, 0, none⟩)), (1, .string c), (2, .int .i64 at_)] [ratesA bk mb own es n false] noB Try.func18 rfl Try.ntmps18 ⟨rfl, rfl, rfl, trivial⟩ rfl (okC (rates_ok false h) okN) dis1 (mineC (by rfl) mineN) ?_
  intro a hS
  refine R_seq ?_
  refine R_region ?_
  refine R_op rfl (s_box1 hS rfl rfl rfl ?_); clear hS a; (try clear w); intro a w b5 hS
  refine R_op rfl (s_alloc hS ty_z3 rfl ?_); clear hS a; (try clear w); intro a w b6 hS
  refine R_op rfl (s_alloc hS ty_z27 rfl ?_); clear hS a; (try clear w); intro a w b7 hS
  refine R_nil ?_
  refine n_then ?_
  refine R_seq ?_
  refine R_seq ?_
  refine R_region ?_
  refine R_op rfl (s_e hS (e_move rfl) rfl ?_); clear hS a; intro a hS
  refine R_op rfl (s_e hS (e_load rfl (by repeat constructor) ty_sc3 (by rfl)) rfl ?_); clear hS a; intro a hS
  refine R_op rfl (s_callP hS (.cons rfl (.cons rfl .nil)) cf53 rfl (fxasked_P c at_ _) ?_); clear hS a; (try clear w); intro a w hS
  refine R_op rfl (s_e hS (e_assign rfl) rfl ?_); clear hS a; intro a hS
  refine R_nil ?_
  refine n_then ?_
  refine R_seq ?_
  refine R_region ?_
  refine R_op rfl (s_e hS (e_move rfl) rfl ?_); clear hS a; intro a hS
  refine R_op rfl (s_e hS (e_bin rfl rfl rfl) rfl ?_); clear hS a; intro a hS
  refine R_nil ?_
  refine n_then ?_
  first | refine R_ifD hS rfl (fun hc15 => ?_) (fun hc15 => ?_) | refine R_if hS rfl (fun hc15 => ?_) (fun hc15 => ?_)
  ·
    refine R_seq ?_
    refine R_region ?_
    refine R_op rfl (s_e hS (e_move rfl) rfl ?_); clear hS a; intro a hS
    refine R_op rfl (s_store hS rfl rfl rfl ty_sz3 (by repeat constructor) (by repeat constructor) ?_); clear hS; (try clear w); intro w hS
    refine R_op rfl (s_store hS rfl rfl rfl ty_sz27 (by repeat constructor) (by repeat constructor) ?_); clear hS; (try clear w); intro w hS
    refine R_nil ?_
    refine n_then ?_
    refine R_ret ?_
    refine r_then ?_
    refine retM hS.sl.defers ?_
    refine c_retN hS Try.results18 (.cons (.cell rfl (by repeat constructor) ty_sc3 (by rfl)) (.cons (.cell rfl (by repeat constructor) ty_sc27 (by rfl)) .nil)) rfl ?_
    exact ⟨by rw [show getF own (vsT es) c at_ = (0, askF c at_) from if_pos hc15], hS.chg⟩
  ·
    refine R_skip ?_
    refine n_then ?_
    refine R_seq ?_
    refine R_seq ?_
    refine R_region ?_
    refine R_op rfl (s_e hS (e_move rfl) rfl ?_); clear hS a; intro a hS
    refine R_op rfl (s_e hS (e_move rfl) rfl ?_); clear hS a; intro a hS
    refine R_op rfl (s_e hS (e_nilCheck rfl) rfl ?_); clear hS a; intro a hS
    first | (refine R_op rfl (s_e hS (e_fa0 rfl ty_fo114_0) rfl ?_); clear hS a; intro a hS) | (refine R_op rfl (s_e hS (e_faK rfl ty_fo114_0) rfl ?_); clear hS a; intro a hS)
    refine R_op rfl (s_e hS (e_loadC rfl ty_sc9 (fun w hh => cell_of_blk (cs := [.string own, .map (some mb), .int .i64 n]) (hh (ratesA bk mb own es n false) (by repeat constructor)).bk rfl)) rfl ?_); clear hS a; intro a hS
    refine R_op rfl (s_e hS (e_binS rfl rfl rfl) rfl ?_); clear hS a; intro a hS
    refine R_nil ?_
    refine n_then ?_
    first | refine R_ifD hS rfl (fun hc22 => ?_) (fun hc22 => ?_) | refine R_if hS rfl (fun hc22 => ?_) (fun hc22 => ?_)
    ·
      refine R_seq ?_
      refine R_region ?_
      refine R_op rfl (s_store hS rfl rfl rfl ty_sz3 (by repeat constructor) (by repeat constructor) ?_); clear hS; (try clear w); intro w hS
      refine R_op rfl (s_store hS rfl rfl rfl ty_sz27 (by repeat constructor) (by repeat constructor) ?_); clear hS; (try clear w); intro w hS
      refine R_nil ?_
      refine n_then ?_
      refine R_ret ?_
      refine r_then ?_
      refine retM hS.sl.defers ?_
      refine c_retN hS Try.results18 (.cons (.cell rfl (by repeat constructor) ty_sc3 (by rfl)) (.cons (.cell rfl (by repeat constructor) ty_sc27 (by rfl)) .nil)) rfl ?_
      exact ⟨by rw [show getF own (vsT es) c at_ = (1000000000, 0) by unfold getF; rw [if_neg hc15, if_pos hc22]], hS.chg⟩
    ·
      refine R_skip ?_
      refine n_then ?_
      refine R_seq ?_
      refine R_seq ?_
      refine R_region ?_
      refine R_op rfl (s_e hS (e_move rfl) rfl ?_); clear hS a; intro a hS
      refine R_op rfl (s_e hS (e_nilCheck rfl) rfl ?_); clear hS a; intro a hS
      first | (refine R_op rfl (s_e hS (e_fa0 rfl ty_fo114_1) rfl ?_); clear hS a; intro a hS) | (refine R_op rfl (s_e hS (e_faK rfl ty_fo114_1) rfl ?_); clear hS a; intro a hS)
      refine R_op rfl (s_e hS (e_loadC rfl ty_sc112 (fun w hh => cell_of_blk (cs := [.string own, .map (some mb), .int .i64 n]) (hh (ratesA bk mb own es n false) (by repeat constructor)).bk rfl)) rfl ?_); clear hS a; intro a hS
      refine R_op rfl (s_e hS (e_move rfl) rfl ?_); clear hS a; intro a hS
      refine R_op rfl (s_e hS (e_lookupC rfl rfl ty_mp112 ty_u9 ty_zv91 (fun w hh => (hh (ratesA bk mb own es n false) (by repeat constructor)).mp)) rfl ?_); clear hS a; intro a hS
      rw [hlk] at hS
      refine R_op rfl (s_callN hS (.cons rfl .nil) cf54 rfl (Backward_P e.v (by obtain ⟨q, cq, hev⟩ := own_slice hrow; rw [hev]; rfl) _) ?_); clear hS a; (try clear w); intro x29 a w hS
      refine R_nil ?_
      refine n_then ?_
      refine R_block ?_
      obtain ⟨B, hB⟩ : ∃ B, w.heap.size = B := ⟨_, rfl⟩
      have g5 := hS.get (X := .blk b5 [.int .i64 at_] 3) (by repeat constructor)
      have g6 := hS.get (X := .blk b6 [.int .i64 0] 3) (by repeat constructor)
      have g7 := hS.get (X := .blk b7 [.int .i64 0] 27) (by repeat constructor)
      have gk := hS.get (X := .blk x29 [e.v] 91) (by repeat constructor)
      have l5 : b5 < B := by rw [← hB]; exact lt_blk g5
      have l6 : b6 < B := by rw [← hB]; exact lt_blk g6
      have l7 : b7 < B := by rw [← hB]; exact lt_blk g7
      have lx : x29 < B := by rw [← hB]; exact lt_blk gk
      have m6 : w0.heap.size ≤ b6 := (hS.mine (.blk b6 [.int .i64 0] 3) (by repeat constructor) rfl b6 rfl).resolve_right (fun h => h)
      have m7 : w0.heap.size ≤ b7 := (hS.mine (.blk b7 [.int .i64 0] 27) (by repeat constructor) rfl b7 rfl).resolve_right (fun h => h)
      have n67 : b6 ≠ b7 := fun h => hS.sep (X := .blk b6 [.int .i64 0] 3) (Y := .blk b7 [.int .i64 0] 27) (by repeat (first | exact Rem.head | apply Rem.tail)) (by repeat constructor) b6 rfl h
      have n65 : b6 ≠ b5 := fun h => hS.sep (X := .blk b6 [.int .i64 0] 3) (Y := .blk b5 [.int .i64 at_] 3) (by repeat (first | exact Rem.head | apply Rem.tail)) (by repeat constructor) b6 rfl h
      have n75 : b7 ≠ b5 := fun h => hS.sep (X := .blk b7 [.int .i64 0] 27) (Y := .blk b5 [.int .i64 at_] 3) (by repeat (first | exact Rem.head | apply Rem.tail)) (by repeat constructor) b7 rfl h
      have n96 : x29 ≠ b6 := fun h => hS.sep (X := .blk x29 [e.v] 91) (Y := .blk b6 [.int .i64 0] 3) (by repeat (first | exact Rem.head | apply Rem.tail)) (by repeat constructor) x29 rfl h
      have n97 : x29 ≠ b7 := fun h => hS.sep (X := .blk x29 [e.v] 91) (Y := .blk b7 [.int .i64 0] 27) (by repeat (first | exact Rem.head | apply Rem.tail)) (by repeat constructor) x29 rfl h
      have hB0 : w0.heap.size ≤ B := by rw [← hB]; exact hS.chg.size
      have hEB : ∀ k, e.v.ownBlock = some k → k < B := fun k hk => Nat.lt_of_lt_of_le (World.ownsRow.lt hrow k hk).2 hB0
      refine rangeFunc_B2 (α := Nat) hB (hS.sl.ev rfl) cf93 (Back_seq x29 e (by omega)) (fun _ => rfl) (getI w0 e at_ b5 b6 b7 x29) (getX w0 e at_ b6 b7) (getI_ab hB0 l5 l6 l7 lx hEB) (getX_ab hB0 l6 l7) (fun _ _ h => h.k)
        ⟨hS.chg, ⟨gk, rowT_keep hrow (fun k hk => hS.chg.block k (World.ownsRow.lt hrow k hk).2 (fun h => h))⟩, g5, g6, g7, fun i hi => (by cases hi)⟩ ?_ ?_ ?_
      · intro l pre x W hz hI hlen
        have hR : St 38 noB W ((a.put (some 30) (.int .i64 (x : Int))).put (some 31) (.agg (encT e.cur (e.rows.getD x (0, 0))).toArray)) W
            [(31, .agg (encT e.cur (e.rows.getD x (0, 0))).toArray), (5, .pointer (some ⟨b5, 0, none⟩)), (6, .pointer (some ⟨b6, 0, none⟩)), (7, .pointer (some ⟨b7, 0, none⟩))] [] :=
          ⟨((hS.sl.put rfl _).put rfl _).sub (by repeat (first | exact trivial | refine ⟨rfl, ?_⟩)), Chg.refl _ _, okN, disN, mineN⟩
        have hact : ({ tmps := (#[30, 31].zip (encB e.cur e.rows x)).foldl (fun t (p, v) => t.setIfInBounds p v) a.tmps, defers := [] } : Act) = ((a.put (some 30) (.int .i64 (x : Int))).put (some 31) (.agg (encT e.cur (e.rows.getD x (0, 0))).toArray)) := by
          rw [round2 hS.sl.defers, show (#[30, 31].zip (encB e.cur e.rows x)) = #[(30, .int .i64 (x : Int)), (31, .agg (encT e.cur (e.rows.getD x (0, 0))).toArray)] from by unfold encB; simp]; simp
        rw [hact]
        clear hS hact g5 g6 g7 gk hB
        generalize ((a.put (some 30) (.int .i64 (x : Int))).put (some 31) (.agg (encT e.cur (e.rows.getD x (0, 0))).toArray)) = a2 at hR ⊢
        clear a; rename Act => a
        clear w
        have hS := hR
        clear hR
        refine R_region ?_
        refine R_op rfl (s_alloc hS ty_z93 rfl ?_); clear hS a; (try clear w); intro a w b10 hS
        refine R_op rfl (s_storeA hS rfl rfl ty_sz93 (by repeat constructor) (by rfl) (by rfl) (by rfl) ?_); clear hS; (try clear w); intro w hS
        refine R_nil ?_
        refine n_then ?_
        have h10 := hS.get (X := .blk b10 (encT e.cur (e.rows.getD x (0, 0))) 93) (by repeat constructor)
        have m10 : W.heap.size ≤ b10 := (hS.mine (.blk b10 (encT e.cur (e.rows.getD x (0, 0))) 93) (by repeat constructor) rfl b10 rfl).resolve_right (fun h => h)
        have hCW := hS.chg
        refine ⟨⟨fun k h1 h2 => hCW.block k h2 (fun h => h), hCW.size⟩, fun W2 hT => ?_⟩
        have hlow : ∀ k, k < B → W2.heap[k]? = W.heap[k]? := fun k hk => (hT.same k (by omega)).trans (hCW.block k (by omega) (fun h => h))
        have hR : St 38 (fun k => k = b6 ∨ k = b7) W2 a W2 [(10, .pointer (some ⟨b10, 0, none⟩)), (5, .pointer (some ⟨b5, 0, none⟩)), (6, .pointer (some ⟨b6, 0, none⟩)), (7, .pointer (some ⟨b7, 0, none⟩))]
            [roA b10 (encT e.cur (e.rows.getD x (0, 0))) 93, .blk b7 [.int .i64 0] 27, .blk b6 [.int .i64 0] 3, roA b5 [.int .i64 at_] 3] :=
          ⟨hS.sl.sub (by repeat (first | exact trivial | refine ⟨rfl, ?_⟩)), Chg.refl _ _, okC (ro_ok ((hT.same b10 (by omega)).trans h10)) (okC (ok_blk ((hlow b7 l7).trans hI.h7)) (okC (ok_blk ((hlow b6 l6).trans hI.h6)) (okC (ro_ok ((hlow b5 l5).trans hI.h5)) okN))),
           disC (sepC (fun b h1 h2 => by have h1 : b = b10 := h1; have h2 : b = b7 := h2; omega) (sepC (fun b h1 h2 => by have h1 : b = b10 := h1; have h2 : b = b6 := h2; omega) (sepC (fun b h1 h2 => by have h1 : b = b10 := h1; have h2 : b = b5 := h2; omega) sepN)))
            (disC (sepC (fun b h1 h2 => n67 (Eq.trans (Eq.symm h2) h1)) (sepC (fun b h1 h2 => n75 (Eq.trans (Eq.symm h1) h2)) sepN)) (disC (sepC (fun b h1 h2 => n65 (Eq.trans (Eq.symm h1) h2)) sepN) dis1)),
           mineC rfl (mineO (fun b hb => .inr hb) (mineO (fun b hb => .inl hb) (mineC rfl mineN)))⟩
        clear hS
        have hS := hR
        clear hR
        refine R_block ?_
        refine R_seq ?_
        refine R_region ?_
        first | (refine R_op rfl (s_e hS (e_fa0 rfl ty_fo93_1) rfl ?_); clear hS a; intro a hS) | (refine R_op rfl (s_e hS (e_faK rfl ty_fo93_1) rfl ?_); clear hS a; intro a hS)
        refine R_op rfl (s_e hS (e_loadC rfl ty_sc3 (ro_get (b := b10) (cs := encT e.cur (e.rows.getD x (0, 0))) (by repeat constructor) (k := 1) rfl)) rfl ?_); clear hS a; intro a hS
        refine R_op rfl (s_e hS (e_loadC rfl ty_sc3 (ro_get (b := b5) (cs := [.int .i64 at_]) (by repeat constructor) (k := 0) rfl)) rfl ?_); clear hS a; intro a hS
        refine R_op rfl (s_e hS (e_bin rfl rfl rfl) rfl ?_); clear hS a; intro a hS
        refine R_nil ?_
        refine n_then ?_
        first | refine R_ifD hS rfl (fun hc35 => ?_) (fun hc35 => ?_) | refine R_if hS rfl (fun hc35 => ?_) (fun hc35 => ?_)
        ·
          refine R_seq ?_
          refine R_region ?_
          first | (refine R_op rfl (s_e hS (e_fa0 rfl ty_fo93_2) rfl ?_); clear hS a; intro a hS) | (refine R_op rfl (s_e hS (e_faK rfl ty_fo93_2) rfl ?_); clear hS a; intro a hS)
          refine R_op rfl (s_e hS (e_loadC rfl ty_sc3 (ro_get (b := b10) (cs := encT e.cur (e.rows.getD x (0, 0))) (by repeat constructor) (k := 2) rfl)) rfl ?_); clear hS a; intro a hS
          refine R_op rfl (s_store hS rfl rfl rfl ty_sz3 (by repeat constructor) (by repeat constructor) ?_); clear hS; (try clear w); intro w hS
          refine R_op rfl (s_store hS rfl rfl rfl ty_sz27 (by repeat constructor) (by repeat constructor) ?_); clear hS; (try clear w); intro w hS
          refine R_nil ?_
          refine n_then ?_
          refine R_ret ?_
          refine r_block ?_
          exact ⟨fun k h1 h2 => hS.chg.block k h2 (by rintro (h | h) <;> omega), ⟨chg_round hI.chg hB0 hCW hT hS.chg (by rintro k (h | h) <;> omega), rfl, pre, x, rfl, hI.no, hc35, hS.get (X := .blk b6 [.int .i64 (e.rows.getD x (0, 0)).2] 3) (by repeat constructor), hS.get (X := .blk b7 [.int .i64 0] 27) (by repeat constructor)⟩⟩
        ·
          refine R_skip ?_
          refine n_block ?_
          refine ⟨fun k h1 h2 => hS.chg.block k h2 (by rintro (h | h) <;> omega), ⟨chg_round hI.chg hB0 hCW hT hS.chg (by rintro k (h | h) <;> omega), ⟨(hlow x29 lx).trans hI.k.1, owns_keep hI.k.2 (fun k hk => hlow k (hEB k hk))⟩, (hlow b5 l5).trans hI.h5, hS.get (X := .blk b6 [.int .i64 0] 3) (by repeat constructor), hS.get (X := .blk b7 [.int .i64 0] 27) (by repeat constructor), fun i hi => ?_⟩⟩
          · rcases List.mem_append.1 hi with hi | hi
            · exact hI.no i hi
            · obtain rfl := List.mem_singleton.1 hi
              omega
      · intro D xs W hBD hxs hI hDc
        have hd : St 38 (fun k => k = b6 ∨ k = b7) W a W [(6, .pointer (some ⟨b6, 0, none⟩)), (7, .pointer (some ⟨b7, 0, none⟩))] [.blk b6 [.int .i64 0] 3, .blk b7 [.int .i64 0] 27] :=
          ⟨hS.sl.sub (by repeat (first | exact trivial | refine ⟨rfl, ?_⟩)), Chg.refl _ _, okC (ok_blk hI.h6) (okC (ok_blk hI.h7) okN), disC (sepC (fun b h1 h2 => n67 (Eq.trans (Eq.symm h1) h2)) sepN) dis1, mineO (fun b hb => .inl hb) (mineO (fun b hb => .inr hb) mineN)⟩
        clear hS
        refine n_block ?_
        refine n_then ?_
        refine R_seq ?_
        refine R_region ?_
        refine R_op rfl (OW.stores (s_store hd rfl rfl rfl ty_sz3 (by repeat constructor) (by repeat constructor) ?_)); clear hd; intro w1 hd
        refine R_op rfl (OW.stores (s_store hd rfl rfl rfl ty_sz27 (by repeat constructor) (by repeat constructor) ?_)); clear hd; intro w2 hd
        refine R_nil ?_
        refine n_then ?_
        refine R_ret ?_
        have hD2 := (hd.chg.block D (Array.getElem?_eq_some_iff.1 hDc).1 (by rintro (h | h) <;> omega)).trans hDc
        have hd2 : St 38 noB w0 a w2 [(6, .pointer (some ⟨b6, 0, none⟩)), (7, .pointer (some ⟨b7, 0, none⟩))] [.blk b6 [.int .i64 0] 3, .blk b7 [.int .i64 28] 27] :=
          ⟨hd.sl, hI.chg.trans hd.chg (fun i hF hlt => by rcases hF with h | h <;> omega), hd.ok, hd.dis, mine2 m6 m7⟩
        have hd3 := hd2.putD (D := D) (o := .deferred none) (by omega) (ne2 (by omega) (by omega))
        have hlast : lastLe e.rows at_ = none := last_none (fun j hj y hy => by
          rw [← hxs] at hj
          have := hI.no j hj
          rw [List.getD_eq_getElem?_getD, hy] at this; exact this)
        exact endN hd3 (.inl rfl) hD2 Try.results18 (.cons (.cell rfl (by repeat constructor) ty_sc3 rfl) (.cons (.cell rfl (by repeat constructor) ty_sc27 rfl) .nil)) rfl ⟨by unfold getF; rw [if_neg hc15, if_neg hc22, hro, hlast], hd3.chg⟩
      · intro D c pre W hBD hSp hX hDc
        obtain rfl := hX.ret
        obtain ⟨d, hdl, rfl⟩ := hSp
        obtain ⟨p, i, hpi, hno, hle, g6', g7'⟩ := hX.got
        rw [downL_succ] at hpi
        obtain ⟨rfl, hi2⟩ := List.append_inj' hpi rfl
        injection hi2 with hi2 _
        have hlast : lastLe e.rows at_ = some (e.rows.getD i (0, 0)) := by
          refine last_at hdl ?_ hle (fun j hj y hy => ?_)
          · rw [← hi2, List.getD_eq_getElem?_getD, List.getElem?_eq_getElem (by omega)]; rfl
          · have := hno j hj
            rw [List.getD_eq_getElem?_getD, hy] at this; exact this
        have hd : St 38 noB w0 a W [(6, .pointer (some ⟨b6, 0, none⟩)), (7, .pointer (some ⟨b7, 0, none⟩))] [.blk b6 [.int .i64 (e.rows.getD i (0, 0)).2] 3, .blk b7 [.int .i64 0] 27] :=
          ⟨hS.sl.sub (by repeat (first | exact trivial | refine ⟨rfl, ?_⟩)), hX.chg, okC (ok_blk g6') (okC (ok_blk g7') okN), disC (sepC (fun b h1 h2 => n67 (Eq.trans (Eq.symm h1) h2)) sepN) dis1, mine2 m6 m7⟩
        refine R_ret ?_
        refine r_block (r_then ?_)
        have hd3 := hd.putD (D := D) (o := .deferred none) (by omega) (ne2 (by omega) (by omega))
        exact endN hd3 (.inl rfl) hDc Try.results18 (.cons (.cell rfl (by repeat constructor) ty_sc3 rfl) (.cons (.cell rfl (by repeat constructor) ty_sc27 rfl) .nil)) rfl ⟨by unfold getF; rw [if_neg hc15, if_neg hc22, hro, hlast], hd3.chg⟩
end Go.Proofs.Ytheofhegdjjfgaa
