/- The ledger in memory; New, Open, Close, Closed and Len, walked. -/
import Derived.Test.YtheofhegdjjfgaaLed1
namespace Go.Proofs.Ytheofhegdjjfgaa
open Go.RowKit

theorem owns_keepL {w w' : World} {E s : Nat} {v : Value} {m : Nat} {xs : List Value} (h : w.ownsRow 0 E s v m xs) (hw : ∀ b, v.ownBlock = some b → w'.heap[b]? = w.heap[b]?) : w'.ownsRow 0 E s v m xs :=
  (ok_own h).hold w' hw
theorem row_objL {w : World} {E s : Nat} {v : Value} {m : Nat} {xs : List Value} (h : w.ownsRow 0 E s v m xs) {g : Nat} (hg : v.ownBlock = some g) : ∃ cs, w.heap[g]? = some (.cells cs E (0, 0)) := by
  rcases h.2 with ⟨rfl, _⟩ | ⟨g', cap, cur, rfl, _, e2, _⟩
  · cases hg
  · simp [Value.ownBlock] at hg; subst hg; exact ⟨_, e2⟩

/-! ### maps made of a list -/
theorem idxM_map {α : Type} (key : α → ByteArray) (val : α → Value) (k : ByteArray) : ∀ (l : List α) (m : Nat), (idxM (l.map fun x => (key x, val x)) k m).map (·.2) = (l.find? fun x => decide (key x = k)).map val
  | [], _ => rfl
  | a :: r, m => by
    rw [List.map_cons, idxM, List.find?_cons]
    by_cases e : key a = k
    · simp [e]
    · rw [if_neg e, idxM_map key val k r (m + 1)]; simp [e]
theorem lkM_map {α : Type} (key : α → ByteArray) (val : α → Value) (k : ByteArray) (l : List α) (z : Value) : lkM (l.map fun x => (key x, val x)) k z = ((l.find? fun x => decide (key x = k)).map val).getD z := by
  have h := idxM_map key val k l 0
  unfold lkM
  rw [← h]
  cases idxM (l.map fun x => (key x, val x)) k 0 <;> rfl
theorem hasM_map {α : Type} (key : α → ByteArray) (val : α → Value) (k : ByteArray) (l : List α) : hasM (l.map fun x => (key x, val x)) k = (l.find? fun x => decide (key x = k)).isSome := by
  have h := idxM_map key val k l 0
  unfold hasM
  have h2 := congrArg Option.isSome h
  simpa using h2
theorem setM_new {l : List (ByteArray × Value)} {k : ByteArray} (v : Value) (h : hasM l k = false) : setM l k v = l ++ [(k, v)] := by
  unfold hasM at h
  exact setM_none (m := 0) v (by cases e : idxM l k 0 with | none => rfl | some p => rw [e] at h; cases h)

structure Acc where
  code : ByteArray
  cur : ByteArray
  kind : Int
  mon : Bool
def encAc (a : Acc) : List Value := [.string a.code, .string a.cur, .int .i64 a.kind, .bool a.mon]
structure Ent where
  id : Int
  at_ : Int
  memo : ByteArray
  ps : List Pst
structure EA where
  v : Ent
  b : Nat
  c : Nat
def psV (x : EA) : Value := .slice (some ⟨x.b, 0, none⟩) x.v.ps.length x.c
def encE (x : EA) : List Value := [.int .i64 x.v.id, .int .i64 x.v.at_, .string x.v.memo, psV x]
def psOk (x : EA) (w : World) : Prop := w.ownsRow 0 63 3 (psV x) x.v.ps.length (x.v.ps.flatMap encP)
def entAc (acs : List Acc) : List (ByteArray × Value) := acs.map fun a => (a.code, .agg (encAc a).toArray)
def entSm (tot : List (ByteArray × SM)) : List (ByteArray × Value) := tot.map fun t => (t.1, .agg (encSm t.2).toArray)
def noAcc : Acc := ⟨⟨#[]⟩, ⟨#[]⟩, 0, false⟩
def findA (acs : List Acc) (c : ByteArray) : Option Acc := acs.find? fun a => decide (a.code = c)
def accOf (acs : List Acc) (c : ByteArray) : Acc := (findA acs c).getD noAcc
def totOf (tot : List (ByteArray × SM)) (c : ByteArray) : SM := ((tot.find? fun t => decide (t.1 = c)).map (·.2)).getD (0, 0)
def putT : List (ByteArray × SM) → ByteArray → SM → List (ByteArray × SM)
  | [], c, s => [(c, s)]
  | (k, u) :: l, c, s => if k = c then (c, s) :: l else (k, u) :: putT l c s
theorem putT_set (c : ByteArray) (s : SM) : ∀ tot, setM (entSm tot) c (.agg (encSm s).toArray) = entSm (putT tot c s)
  | [] => rfl
  | (k, u) :: l => by
    show (if k = c then _ else _) = _
    unfold putT
    by_cases e : k = c
    · rw [if_pos e, if_pos e]; rfl
    · rw [if_neg e, if_neg e]
      show _ :: setM (entSm l) c _ = _
      rw [putT_set c s l]; rfl
theorem totOf_put (c d : ByteArray) (s : SM) : ∀ tot, totOf (putT tot c s) d = if c = d then s else totOf tot d
  | [] => by
    unfold putT totOf
    by_cases e : c = d
    · simp [e]
    · simp [e]
  | (k, u) :: l => by
    have ih := totOf_put c d s l
    unfold putT
    unfold totOf at ih ⊢
    by_cases e : k = c
    · rw [if_pos e]
      by_cases e2 : c = d
      · simp [e2]
      · simp [e2, e]
    · rw [if_neg e, List.find?_cons]
      by_cases e2 : k = d
      · have : ¬ c = d := fun h => e (e2.trans h.symm)
        simp [e2, this]
      · simp only [e2, decide_false]
        rw [ih]
        rw [List.find?_cons]
        simp [e2]
theorem lk_acc (acs : List Acc) (c : ByteArray) : lkM (entAc acs) c (.agg #[.string ⟨#[]⟩, .string ⟨#[]⟩, .int .i64 0, .bool false]) = .agg (encAc (accOf acs c)).toArray := by
  unfold entAc
  rw [lkM_map (fun a : Acc => a.code) (fun a => .agg (encAc a).toArray)]
  unfold accOf findA
  cases acs.find? fun a => decide (a.code = c) <;> rfl
theorem has_acc (acs : List Acc) (c : ByteArray) : hasM (entAc acs) c = (findA acs c).isSome := hasM_map (fun a : Acc => a.code) (fun a => .agg (encAc a).toArray) c acs
theorem lk_tot (tot : List (ByteArray × SM)) (c : ByteArray) : lkM (entSm tot) c (.agg #[.int .u64 0, .int .u64 0, .int .u64 0, .int .u64 0]) = .agg (encSm (totOf tot c)).toArray := by
  unfold entSm
  rw [lkM_map (fun t : ByteArray × SM => t.1) (fun t => .agg (encSm t.2).toArray)]
  unfold totOf
  cases tot.find? fun t => decide (t.1 = c) with
  | none => simp only [Option.map_none, Option.getD_none]; rw [encSm_zero]
  | some t => rfl

/-- a ledger's blocks, and what lies in them. -/
structure LB where
  lb : Nat
  ma : Nat
  ml : Nat
structure LS where
  cur : ByteArray
  acs : List Acc
  es : List EA
  tot : List (ByteArray × SM)
  closed : Int
  sv : Value
def ledC (B : LB) (s : LS) : List Value := [.string s.cur, .map (some B.ma), s.sv, .map (some B.ml), .int .i64 s.closed]
def rowE (s : LS) : Asn := ownA 58 4 s.sv s.es.length (s.es.flatMap encE)
def psAll (es : List EA) : Asn := .any (fun k => ∃ x ∈ es, k = x.b) (fun w => ∀ x ∈ es, psOk x w) true
structure ledφ (B : LB) (s : LS) (w : World) : Prop where
  bk : w.heap[B.lb]? = some (.cells (ledC B s).toArray 129 (0, 0))
  am : w.heap[B.ma]? = some (.map (mkM 0 (entAc s.acs)).toArray (entAc s.acs).length)
  tm : w.heap[B.ml]? = some (.map (mkM 0 (entSm s.tot)).toArray (entSm s.tot).length)
  row : w.ownsRow 0 58 4 s.sv s.es.length (s.es.flatMap encE)
  ps : ∀ x ∈ s.es, psOk x w
  ne : B.ma ≠ B.ml
def ledF (B : LB) (s : LS) (k : Nat) : Prop := k = B.lb ∨ k = B.ma ∨ k = B.ml ∨ s.sv.ownBlock = some k ∨ ∃ x ∈ s.es, k = x.b
def ledA (B : LB) (s : LS) (m : Bool) : Asn := .any (ledF B s) (ledφ B s) m
theorem psOk.own {x : EA} {w : World} (h : psOk x w) : x.b < w.heap.size := (World.ownsRow.lt h x.b rfl).2
theorem psOk.keep {x : EA} {w w' : World} (h : psOk x w) (hw : w'.heap[x.b]? = w.heap[x.b]?) : psOk x w' := owns_keepL h (fun b hb => by
  simp [psV, Value.ownBlock] at hb; subst hb; exact hw)
theorem ps_ok {es : List EA} {w : World} (h : ∀ x ∈ es, psOk x w) : (psAll es).ok w :=
  ⟨fun b hb => by obtain ⟨x, hx, rfl⟩ := hb; exact (h x hx).own, fun w' hw x hx => (h x hx).keep (hw x.b ⟨x, hx, rfl⟩)⟩
theorem led_ok {B : LB} {s : LS} {w : World} (m : Bool) (h : ledφ B s w) : (ledA B s m).ok w := by
  refine ⟨fun b hb => ?_, fun w' hw => ⟨?_, ?_, ?_, owns_keepL h.row (fun b hb => hw b (.inr (.inr (.inr (.inl hb))))), fun x hx => (h.ps x hx).keep (hw x.b (.inr (.inr (.inr (.inr ⟨x, hx, rfl⟩))))), h.ne⟩⟩
  · rcases hb with rfl | rfl | rfl | hb | ⟨x, hx, rfl⟩
    · exact (Array.getElem?_eq_some_iff.1 h.bk).1
    · exact (Array.getElem?_eq_some_iff.1 h.am).1
    · exact (Array.getElem?_eq_some_iff.1 h.tm).1
    · exact (World.ownsRow.lt h.row b hb).2
    · exact (h.ps x hx).own
  · rw [hw B.lb (.inl rfl)]; exact h.bk
  · rw [hw B.ma (.inr (.inl rfl))]; exact h.am
  · rw [hw B.ml (.inr (.inr (.inl rfl)))]; exact h.tm
theorem led_okP {B : LB} {s : LS} {w : World} (h : ledφ B s w) : ∀ X ∈ [.blk B.lb (ledC B s) 129, smapA B.ma (entAc s.acs), smapA B.ml (entSm s.tot), rowE s, psAll s.es], X.ok w := by
  have hm : ∀ (b : Nat) (l : List (ByteArray × Value)), w.heap[b]? = some (.map (mkM 0 l).toArray l.length) → (smapA b l).ok w := fun b l hb =>
    ⟨fun k hk => by obtain rfl : k = b := hk; exact (Array.getElem?_eq_some_iff.1 hb).1, fun w' hw => by show w'.heap[b]? = _; rw [hw b rfl]; exact hb⟩
  exact okC (ok_blk h.bk) (okC (hm _ _ h.am) (okC (hm _ _ h.tm) (okC (ok_own h.row) (okC (ps_ok h.ps) okN))))
theorem led_apart {B : LB} {s : LS} {w : World} (h : ledφ B s w) : B.lb ≠ B.ma ∧ B.lb ≠ B.ml ∧ s.sv.ownBlock ≠ some B.lb ∧ s.sv.ownBlock ≠ some B.ma ∧ s.sv.ownBlock ≠ some B.ml ∧ ∀ x ∈ s.es, x.b ≠ B.lb ∧ x.b ≠ B.ma ∧ x.b ≠ B.ml ∧ s.sv.ownBlock ≠ some x.b := by
  have hT1 : (58 : Nat) ≠ 129 := by decide
  have hT2 : (63 : Nat) ≠ 129 := by decide
  have hT3 : (63 : Nat) ≠ 58 := by decide
  refine ⟨fun e => ?_, fun e => ?_, fun e => ?_, fun e => ?_, fun e => ?_, fun x hx => ?_⟩
  · have h1 := h.bk; rw [e, h.am] at h1; cases h1
  · have h1 := h.bk; rw [e, h.tm] at h1; cases h1
  · obtain ⟨cs, h1⟩ := row_objL h.row e
    rw [h.bk] at h1; injection h1 with h1; injection h1 with _ h2 _; exact hT1 h2.symm
  · obtain ⟨cs, h1⟩ := row_objL h.row e
    rw [h.am] at h1; cases h1
  · obtain ⟨cs, h1⟩ := row_objL h.row e
    rw [h.tm] at h1; cases h1
  · obtain ⟨cs, h1⟩ := row_objL (h.ps x hx) (g := x.b) rfl
    refine ⟨fun e => ?_, fun e => ?_, fun e => ?_, fun e => ?_⟩
    · rw [e, h.bk] at h1; injection h1 with h1; injection h1 with _ h2 _; exact hT2 h2.symm
    · rw [e, h.am] at h1; cases h1
    · rw [e, h.tm] at h1; cases h1
    · obtain ⟨cs2, h2⟩ := row_objL h.row e
      rw [h1] at h2; injection h2 with h2; injection h2 with _ h3 _; exact hT3 h3
theorem led_dis {B : LB} {s : LS} {w : World} (h : ledφ B s w) : [.blk B.lb (ledC B s) 129, smapA B.ma (entAc s.acs), smapA B.ml (entSm s.tot), rowE s, psAll s.es].Pairwise (fun X Y => ∀ b, X.F b → ¬ Y.F b) := by
  obtain ⟨a1, a2, a3, a4, a5, a6⟩ := led_apart h
  have hb : ∀ {b c : Nat} {cs : List Value} {E : Nat}, (Asn.blk c cs E).F b → b = c := fun h => h
  have hm : ∀ {b c : Nat} {l : List (ByteArray × Value)}, (smapA c l).F b → b = c := fun h => h
  have hr : ∀ {b : Nat}, (rowE s).F b → s.sv.ownBlock = some b := fun h => h
  have hp : ∀ {b : Nat}, (psAll s.es).F b → ∃ x ∈ s.es, b = x.b := fun h => h
  exact disC (sepC (fun b h1 h2 => a1 ((hb h1).symm.trans (hm h2))) (sepC (fun b h1 h2 => a2 ((hb h1).symm.trans (hm h2))) (sepC (fun b h1 h2 => a3 (by rw [← hb h1]; exact hr h2)) (sepC (fun b h1 h2 => by obtain ⟨x, hx, e⟩ := hp h2; exact (a6 x hx).1 (e.symm.trans (hb h1))) sepN))))
    (disC (sepC (fun b h1 h2 => h.ne ((hm h1).symm.trans (hm h2))) (sepC (fun b h1 h2 => a4 (by rw [← hm h1]; exact hr h2)) (sepC (fun b h1 h2 => by obtain ⟨x, hx, e⟩ := hp h2; exact (a6 x hx).2.1 (e.symm.trans (hm h1))) sepN)))
    (disC (sepC (fun b h1 h2 => a5 (by rw [← hm h1]; exact hr h2)) (sepC (fun b h1 h2 => by obtain ⟨x, hx, e⟩ := hp h2; exact (a6 x hx).2.2.1 (e.symm.trans (hm h1))) sepN))
    (disC (sepC (fun b h1 h2 => by obtain ⟨x, hx, e⟩ := hp h2; exact (a6 x hx).2.2.2 (by rw [← e]; exact hr h1)) sepN) dis1)))
theorem led_mine {B : LB} {s : LS} {w : World} : ∀ X ∈ [.blk B.lb (ledC B s) 129, smapA B.ma (entAc s.acs), smapA B.ml (entSm s.tot), rowE s, psAll s.es], X.mine = true → ∀ b, X.F b → w.heap.size ≤ b ∨ ledF B s b :=
  mineO (fun _ hb => .inl hb) (mineO (fun _ hb => .inr (.inl hb)) (mineO (fun _ hb => .inr (.inr (.inl hb))) (mineO (fun _ hb => .inr (.inr (.inr (.inl hb)))) (mineO (fun _ hb => .inr (.inr (.inr (.inr hb)))) mineN))))
/-- the parts put together again. -/
theorem led_end {n : Nat} {w0 w : World} {a : Act} {L : List (Nat × Value)} {Γ : List Asn} {B : LB} {s s' : LS} (hS : St n (ledF B s) w0 a w L Γ) (h1 : .blk B.lb (ledC B s') 129 ∈ Γ) (h2 : smapA B.ma (entAc s'.acs) ∈ Γ) (h3 : smapA B.ml (entSm s'.tot) ∈ Γ) (h4 : rowE s' ∈ Γ) (h5 : psAll s'.es ∈ Γ) (hne : B.ma ≠ B.ml) :
    (ledA B s' true).ok w ∧ ∀ b, (ledA B s' true).F b → (ledA B s true).F b ∨ w0.heap.size ≤ b := by
  refine ⟨led_ok true ⟨hS.get h1, hS.get h2, hS.get h3, hS.get h4, hS.get h5, hne⟩, fun b hb => ?_⟩
  rcases hb with hb | hb | hb | hb | hb
  · exact (hS.mine _ h1 rfl b hb).symm
  · exact (hS.mine _ h2 rfl b hb).symm
  · exact (hS.mine _ h3 rfl b hb).symm
  · exact (hS.mine _ h4 rfl b hb).symm
  · exact (hS.mine _ h5 rfl b hb).symm
def newL (cur : ByteArray) : LS := ⟨cur, [], [], [], -1, .slice none 0 0⟩
set_option maxRecDepth 100000 in
theorem lNew_P (c : ByteArray) (w0 : World) (hc : (scaleR c).2 = 0) : NewC Try.prog 61 [.string c] w0 (fun B : LB => .tuple [.pointer (some ⟨B.lb, 0, none⟩), .int .i64 0].toArray) (fun B => ledA B (newL c) true) := by
  refine c_enter [(0, .string c)] [] noB Try.func61 rfl Try.ntmps61 ⟨rfl, trivial⟩ rfl (by simp) (by simp) (by simp) ?_
  intro a hS
  refine c_seq ?_
  refine c_region ?_
  refine L_op (s_e hS (e_assign rfl) rfl ?_); clear hS a; intro a hS
  refine L_op (s_e hS (e_assign rfl) rfl ?_); clear hS a; intro a hS
  refine L_nil ?_
  refine n_then ?_
  refine c_seq ?_
  refine c_seq ?_
  refine c_region ?_
  refine L_op (s_e hS (e_move rfl) rfl ?_); clear hS a; intro a hS
  refine L_op (s_callP hS (.cons rfl .nil) cf79 rfl (Scale_P c _) ?_); clear hS a; (try clear w); intro a w hS
  refine L_op (s_e hS (e_move rfl) rfl ?_); clear hS a; intro a hS
  refine L_op (s_e hS (e_extract rfl rfl) rfl ?_); clear hS a; intro a hS
  refine L_op (s_e hS (e_extract rfl rfl) rfl ?_); clear hS a; intro a hS
  refine L_op (s_e hS (e_assign rfl) rfl ?_); clear hS a; intro a hS
  refine L_op (s_e hS (e_assign rfl) rfl ?_); clear hS a; intro a hS
  refine L_nil ?_
  refine n_then ?_
  refine c_seq ?_
  refine c_region ?_
  refine L_op (s_e hS (e_move rfl) rfl ?_); clear hS a; intro a hS
  refine L_op (s_e hS (e_bin rfl rfl rfl) rfl ?_); clear hS a; intro a hS
  refine L_nil ?_
  refine n_then ?_
  replace hS := hS.is (t := 12) (c := false) rfl ((decide_eq_false (by rw [hc]; decide)))
  refine c_if_f hS rfl ?_
  refine wp_skip ?_
  refine n_then ?_
  refine c_seq ?_
  refine c_region ?_
  refine L_op (s_e hS (e_move rfl) rfl ?_); clear hS a; intro a hS
  refine L_op (s_makeMapS hS rfl ?_); clear hS a; (try clear w); intro a w b15 hS
  refine L_op (s_makeMapS hS rfl ?_); clear hS a; (try clear w); intro a w b16 hS
  refine L_op (s_e hS (e_build ty_z129 ty_pl129 (.one rfl rfl rfl (by repeat constructor) (.one rfl rfl rfl (by repeat constructor) (.one rfl rfl rfl (by repeat constructor) (.one rfl rfl rfl (by repeat constructor) .nil))))) rfl ?_); clear hS a; intro a hS
  refine L_op (s_boxA hS rfl rfl ?_); clear hS a; (try clear w); intro a w b18 hS
  refine L_op (s_e hS (e_assign rfl) rfl ?_); clear hS a; intro a hS
  refine L_op (s_e hS (e_assign rfl) rfl ?_); clear hS a; intro a hS
  refine L_nil ?_
  refine n_then ?_
  refine wp_ret ?_
  refine c_retN hS Try.results61 (.cons (.tmp rfl) (.cons (.tmp rfl) .nil)) rfl ?_
  have hne : b15 ≠ b16 := fun e => hS.sep (X := smapA b16 []) (Y := smapA b15 []) (by repeat (first | exact Rem.head | apply Rem.tail)) (by repeat constructor) b16 rfl e.symm
  refine ⟨⟨b18, b15, b16⟩, rfl, hS.chg, led_ok (B := ⟨b18, b15, b16⟩) (s := newL c) true ⟨hS.get (X := .blk b18 _ _) (by repeat constructor), hS.get (X := smapA b15 []) (by repeat constructor), hS.get (X := smapA b16 []) (by repeat constructor), World.ownsRow_nil _ _ _ _, fun x hx => (by cases hx), hne⟩, fun b hb => ?_⟩
  rcases hb with hb | hb | hb | hb | ⟨x, hx, _⟩
  · rw [hb]; exact (hS.new (X := .blk b18 _ _) (by repeat constructor) rfl).2 _ rfl
  · rw [hb]; exact (hS.new (X := smapA b15 []) (by repeat constructor) rfl).2 _ rfl
  · rw [hb]; exact (hS.new (X := smapA b16 []) (by repeat constructor) rfl).2 _ rfl
  · cases hb
  · cases hx
theorem led_cell {B : LB} {s : LS} {m : Bool} {Γ : List Asn} (hm : ledA B s m ∈ Γ) {k : Nat} {v : Value} (hv : (ledC B s)[k]? = some v) : ∀ w, Hd Γ w → w.cell? ⟨B.lb, k, none⟩ = some v := fun _ hh => cell_of_blk (hh _ hm).bk hv
set_option maxRecDepth 100000 in
theorem lClosed_P (B : LB) (s : LS) (w0 : World) (h : ledφ B s w0) : PureC Try.prog 43 [.pointer (some ⟨B.lb, 0, none⟩)] w0 (.int .i64 s.closed) := by
  refine c_enter [(0, .pointer (some ⟨B.lb, 0, none⟩))] [ledA B s false] noB Try.func43 rfl Try.ntmps43 ⟨rfl, trivial⟩ rfl (okC (led_ok false h) okN) dis1 (mineC (by rfl) mineN) ?_
  intro a hS
  refine c_seq ?_
  refine c_region ?_
  refine L_op (s_e hS (e_assign rfl) rfl ?_); clear hS a; intro a hS
  refine L_nil ?_
  refine n_then ?_
  refine c_seq ?_
  refine c_region ?_
  refine L_op (s_e hS (e_move rfl) rfl ?_); clear hS a; intro a hS
  refine L_op (s_e hS (e_nilCheck rfl) rfl ?_); clear hS a; intro a hS
  first | (refine L_op (s_e hS (e_fa0 rfl ty_fo129_4) rfl ?_); clear hS a; intro a hS) | (refine L_op (s_e hS (e_faK rfl ty_fo129_4) rfl ?_); clear hS a; intro a hS)
  refine L_op (s_e hS (e_loadC rfl ty_sc3 (led_cell (by repeat constructor) (k := 4) rfl)) rfl ?_); clear hS a; intro a hS
  refine L_op (s_e hS (e_assign rfl) rfl ?_); clear hS a; intro a hS
  refine L_nil ?_
  refine n_then ?_
  refine wp_ret ?_
  refine c_ret1 hS Try.results43 (.tmp rfl) ?_
  exact ⟨rfl, hS.chg⟩
set_option maxRecDepth 100000 in
theorem lLen_P (B : LB) (s : LS) (w0 : World) (h : ledφ B s w0) : PureC Try.prog 34 [.pointer (some ⟨B.lb, 0, none⟩)] w0 (.int .i64 (s.es.length : Int)) := by
  obtain ⟨q, c, hsv⟩ := own_slice h.row
  refine c_enter [(0, .pointer (some ⟨B.lb, 0, none⟩))] [ledA B s false] noB Try.func34 rfl Try.ntmps34 ⟨rfl, trivial⟩ rfl (okC (led_ok false h) okN) dis1 (mineC (by rfl) mineN) ?_
  intro a hS
  refine c_seq ?_
  refine c_region ?_
  refine L_op (s_e hS (e_assign rfl) rfl ?_); clear hS a; intro a hS
  refine L_nil ?_
  refine n_then ?_
  refine c_seq ?_
  refine c_region ?_
  refine L_op (s_e hS (e_move rfl) rfl ?_); clear hS a; intro a hS
  refine L_op (s_e hS (e_nilCheck rfl) rfl ?_); clear hS a; intro a hS
  first | (refine L_op (s_e hS (e_fa0 rfl ty_fo129_2) rfl ?_); clear hS a; intro a hS) | (refine L_op (s_e hS (e_faK rfl ty_fo129_2) rfl ?_); clear hS a; intro a hS)
  refine L_op (s_e hS (e_loadC rfl ty_sc54 (led_cell (by repeat constructor) (k := 2) rfl)) rfl ?_); clear hS a; intro a hS
  rw [hsv] at hS
  refine L_op (s_e hS (e_len rfl rfl ty_sl54) rfl ?_); clear hS a; intro a hS
  refine L_op (s_e hS (e_assign rfl) rfl ?_); clear hS a; intro a hS
  refine L_nil ?_
  refine n_then ?_
  refine wp_ret ?_
  refine c_ret1 hS Try.results34 (.tmp rfl) ?_
  exact ⟨rfl, hS.chg⟩
def closeE (s : LS) (at_ : Int) : Int := if ¬ inst at_ then 6 else if at_ ≤ s.closed then 34 else 0
def closeL (s : LS) (at_ : Int) : LS := if closeE s at_ = 0 then { s with closed := at_ } else s
set_option maxRecDepth 100000 in
theorem lClose_P (B : LB) (s : LS) (at_ : Int) (w0 : World) (h : ledφ B s w0) :
    MutC Try.prog 45 [.pointer (some ⟨B.lb, 0, none⟩), .int .i64 at_] w0 (ledA B s true) (fun _ : Unit => .int .i64 (closeE s at_)) (fun _ => ledA B (closeL s at_) true) := by
  refine c_enter [(0, .pointer (some ⟨B.lb, 0, none⟩)), (1, .int .i64 at_)] [.blk B.lb (ledC B s) 129, smapA B.ma (entAc s.acs), smapA B.ml (entSm s.tot), rowE s, psAll s.es] (ledF B s) Try.func45 rfl Try.ntmps45 ⟨rfl, rfl, trivial⟩ rfl (led_okP h) (led_dis h) led_mine ?_
  intro a hS
  refine c_seq ?_
  refine c_region ?_
  refine L_op (s_e hS (e_assign rfl) rfl ?_); clear hS a; intro a hS
  refine L_nil ?_
  refine n_then ?_
  refine c_seq ?_
  refine wp_block ?_
  refine c_seq ?_
  refine c_region ?_
  refine L_op (s_e hS (e_move rfl) rfl ?_); clear hS a; intro a hS
  refine L_op (s_callP hS (.cons rfl .nil) cf67 rfl (linst_P at_ _) ?_); clear hS a; (try clear w); intro a w hS
  refine L_op (s_e hS (e_not rfl) rfl ?_); clear hS a; intro a hS
  refine L_op (s_e hS (e_assign rfl) rfl ?_); clear hS a; intro a hS
  refine L_nil ?_
  refine n_then ?_
  first | refine c_ifD hS rfl (fun hc5 => ?_) (fun hc5 => ?_) | refine c_if hS rfl (fun hc5 => ?_) (fun hc5 => ?_)
  ·
    refine c_seq ?_
    refine c_region ?_
    refine L_op (s_e hS (e_assign rfl) rfl ?_); clear hS a; intro a hS
    refine L_nil ?_
    refine n_then ?_
    refine wp_ret ?_
    refine r_block (r_then ?_)
    refine c_ret1 hS Try.results45 (.tmp rfl) ?_
    have hE : closeE s at_ = 6 := if_pos (by simpa using hc5)
    have hL : closeL s at_ = s := if_neg (by rw [hE]; decide)
    rw [hE, hL]
    exact ⟨(), rfl, hS.chg, led_end hS (by repeat constructor) (by repeat constructor) (by repeat constructor) (by repeat constructor) (by repeat constructor) h.ne⟩
  ·
    refine c_seq ?_
    refine c_region ?_
    refine L_op (s_e hS (e_move rfl) rfl ?_); clear hS a; intro a hS
    refine L_op (s_e hS (e_move rfl) rfl ?_); clear hS a; intro a hS
    refine L_op (s_e hS (e_nilCheck rfl) rfl ?_); clear hS a; intro a hS
    first | (refine L_op (s_e hS (e_fa0 rfl ty_fo129_4) rfl ?_); clear hS a; intro a hS) | (refine L_op (s_e hS (e_faK rfl ty_fo129_4) rfl ?_); clear hS a; intro a hS)
    refine L_op (s_e hS (e_load rfl (by repeat constructor) ty_sc3 (by rfl)) rfl ?_); clear hS a; intro a hS
    refine L_op (s_e hS (e_bin rfl rfl rfl) rfl ?_); clear hS a; intro a hS
    refine L_op (s_e hS (e_assign rfl) rfl ?_); clear hS a; intro a hS
    refine L_nil ?_
    refine n_then ?_
    first | refine c_ifD hS rfl (fun hc9 => ?_) (fun hc9 => ?_) | refine c_if hS rfl (fun hc9 => ?_) (fun hc9 => ?_)
    ·
      refine c_seq ?_
      refine c_region ?_
      refine L_op (s_e hS (e_assign rfl) rfl ?_); clear hS a; intro a hS
      refine L_nil ?_
      refine n_then ?_
      refine wp_ret ?_
      refine r_block (r_then ?_)
      refine c_ret1 hS Try.results45 (.tmp rfl) ?_
      have hE : closeE s at_ = 34 := by unfold closeE; rw [if_neg (by simpa using hc5), if_pos hc9]
      have hL : closeL s at_ = s := if_neg (by rw [hE]; decide)
      rw [hE, hL]
      exact ⟨(), rfl, hS.chg, led_end hS (by repeat constructor) (by repeat constructor) (by repeat constructor) (by repeat constructor) (by repeat constructor) h.ne⟩
    ·
      refine wp_skip ?_
      refine n_block ?_
      refine n_then ?_
      refine c_seq ?_
      refine c_region ?_
      refine L_op (s_e hS (e_move rfl) rfl ?_); clear hS a; intro a hS
      refine L_op (s_e hS (e_move rfl) rfl ?_); clear hS a; intro a hS
      refine L_op (s_e hS (e_nilCheck rfl) rfl ?_); clear hS a; intro a hS
      first | (refine L_op (s_e hS (e_fa0 rfl ty_fo129_4) rfl ?_); clear hS a; intro a hS) | (refine L_op (s_e hS (e_faK rfl ty_fo129_4) rfl ?_); clear hS a; intro a hS)
      refine L_op (s_store hS rfl rfl rfl ty_sz3 (by repeat constructor) (by repeat constructor) ?_); clear hS; (try clear w); intro w hS
      refine L_nil ?_
      refine n_then ?_
      refine c_seq ?_
      refine c_region ?_
      refine L_op (s_e hS (e_assign rfl) rfl ?_); clear hS a; intro a hS
      refine L_nil ?_
      refine n_then ?_
      refine wp_ret ?_
      refine c_ret1 hS Try.results45 (.tmp rfl) ?_
      have hE : closeE s at_ = 0 := by unfold closeE; rw [if_neg (by simpa using hc5), if_neg hc9]
      have hL : closeL s at_ = { s with closed := at_ } := if_pos hE
      rw [hE, hL]
      exact ⟨(), rfl, hS.chg, led_end (s' := { s with closed := at_ }) hS (by repeat constructor) (by repeat constructor) (by repeat constructor) (by repeat constructor) (by repeat constructor) h.ne⟩
def openE (s : LS) (a : Acc) : Int :=
  if ¬ ValidN a.code.data.toList then 1 else if (scaleR a.cur).2 ≠ 0 then 18 else if a.kind < 1 ∨ 5 < a.kind then 7 else if (findA s.acs a.code).isSome = true then 3 else if 200 ≤ s.acs.length then 9 else 0
def openL (s : LS) (a : Acc) : LS := if openE s a = 0 then { s with acs := s.acs ++ [a] } else s
end Go.Proofs.Ytheofhegdjjfgaa
