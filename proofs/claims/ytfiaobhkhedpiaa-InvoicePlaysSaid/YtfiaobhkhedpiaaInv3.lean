/- Scales of currencies and an invoice's copy, walked. -/
import Derived.Test.YtfiaobhkhedpiaaInv2
namespace Go.Proofs.Ytfiaobhkhedpiaa
open Go.RowKit

set_option maxRecDepth 100000 in
theorem Scale1_P (x : ByteArray × Int) (s : ByteArray) (bp E : Nat) (w0 : World) (h : w0.heap[bp]? = some (.cells [Value.string s].toArray E (0, 0))) :
    PureC Try.prog 114 [.agg (encC x).toArray, .pointer (some ⟨bp, 0, none⟩)] w0 (.bool (decide (x.1 = s))) := by
  refine c_enter [(0, .agg (encC x).toArray), (1, .pointer (some ⟨bp, 0, none⟩))] [.any (fun k => k = bp) (fun w => w.heap[bp]? = some (.cells [Value.string s].toArray E (0, 0))) false] noB Try.func114 rfl Try.ntmps114 ⟨rfl, rfl, trivial⟩ rfl (by intro X hX; obtain rfl := List.mem_singleton.1 hX; exact ⟨fun k hk => by obtain rfl : k = bp := hk; exact (Array.getElem?_eq_some_iff.1 h).1, fun w' hw => by show w'.heap[bp]? = _; rw [hw bp rfl]; exact h⟩) (by simp) (by intro X hX hm; obtain rfl := List.mem_singleton.1 hX; cases hm) ?_
  intro a hS
  refine c_seq ?_
  refine c_region ?_
  refine L_op (s_boxA hS rfl rfl ?_); clear hS a; (try clear w); intro a w b2 hS
  refine L_op (s_e hS (e_assign rfl) rfl ?_); clear hS a; intro a hS
  refine L_nil ?_
  refine n_then ?_
  refine c_seq ?_
  refine c_region ?_
  first | (refine L_op (s_e hS (e_fa0 rfl ty_fo158_0) rfl ?_); clear hS a; intro a hS) | (refine L_op (s_e hS (e_faK rfl ty_fo158_0) rfl ?_); clear hS a; intro a hS)
  refine L_op (s_e hS (e_load rfl (by repeat constructor) ty_sc9 (by rfl)) rfl ?_); clear hS a; intro a hS
  refine L_op (s_e hS (e_loadC rfl ty_sc9 (fun w hh => cell_of_blk (cs := [Value.string s]) (E := E) (hh _ (.tail _ (.head _))) rfl)) rfl ?_); clear hS a; intro a hS
  refine L_op (s_e hS (e_binS rfl rfl rfl) rfl ?_); clear hS a; intro a hS
  refine L_op (s_e hS (e_assign rfl) rfl ?_); clear hS a; intro a hS
  refine L_nil ?_
  refine n_then ?_
  refine wp_ret ?_
  refine c_ret1 hS Try.results114 (.tmp rfl) ?_
  exact ⟨rfl, hS.chg⟩

def curIdx (s : ByteArray) : Int := firstIdx (fun x : ByteArray × Int => decide (x.1 = s)) curs
def scaleR (s : ByteArray) : Int × Int := if curIdx s < 0 then (0, 18) else ((curs.getD (curIdx s).toNat (⟨#[]⟩, 0)).2, 0)

set_option maxRecDepth 100000 in
theorem Scale_P (s : ByteArray) (w0 : World) : PureC Try.prog 95 [.string s] w0 (.tuple [.int .i64 (scaleR s).1, .int .i64 (scaleR s).2].toArray) := by
  refine c_enter [(0, .string s)] [] noB Try.func95 rfl Try.ntmps95 ⟨rfl, trivial⟩ rfl (by simp) (by simp) (by simp) ?_
  intro a hS
  refine c_seq ?_
  refine c_region ?_
  refine L_op (s_box1 hS rfl rfl rfl ?_); clear hS a; (try clear w); intro a w b1 hS
  refine L_op (s_e hS (e_assign rfl) rfl ?_); clear hS a; intro a hS
  refine L_op (s_e hS (e_assign rfl) rfl ?_); clear hS a; intro a hS
  refine L_nil ?_
  refine n_then ?_
  refine c_seq ?_
  refine c_region ?_
  refine L_op (s_callN hS .nil cf112 rfl (Currencies_w _) ?_); clear hS a; (try clear w); intro x6 a w hS
  refine L_op (s_e hS (e_assign rfl) rfl ?_); clear hS a; intro a hS
  refine L_nil ?_
  refine n_then ?_
  refine c_seq ?_
  refine c_region ?_
  refine L_op (s_e hS (e_move rfl) rfl ?_); clear hS a; intro a hS
  refine L_op (s_e hS (e_makeFunc .nil (.cons rfl .nil)) rfl ?_); clear hS a; intro a hS
  refine L_op (s_callP hS (.cons rfl (.cons rfl .nil)) cf113 rfl (IndexFuncCur_w x6 6 curs (by decide) 114 [.pointer (some ⟨b1, 0, none⟩)] (fun x : ByteArray × Int => decide (x.1 = s)) _ (row_of_flat (enc := encC) (fun _ => rfl) (hS.get (.head _))) ((hS.ok _ (.head _)).lt x6 rfl) cf114 (fun x w' hc => Scale1_P x s b1 _ w' (by rw [hc.block b1 ((hS.ok _ (.tail _ (.head _))).lt b1 rfl) (fun hf => hf)]; exact hS.get (.tail _ (.head _))))) ?_); clear hS a; (try clear w); intro a w hS
  refine L_op (s_e hS (e_assign rfl) rfl ?_); clear hS a; intro a hS
  refine L_nil ?_
  refine n_then ?_
  refine c_seq ?_
  refine c_seq ?_
  refine c_region ?_
  refine L_op (s_e hS (e_move rfl) rfl ?_); clear hS a; intro a hS
  refine L_op (s_e hS (e_bin rfl rfl rfl) rfl ?_); clear hS a; intro a hS
  refine L_nil ?_
  refine n_then ?_
  first | refine c_ifD hS rfl (fun hc11 => ?_) (fun hc11 => ?_) | refine c_if hS rfl (fun hc11 => ?_) (fun hc11 => ?_)
  ·
    refine c_seq ?_
    refine c_region ?_
    refine L_op (s_e hS (e_assign rfl) rfl ?_); clear hS a; intro a hS
    refine L_op (s_e hS (e_assign rfl) rfl ?_); clear hS a; intro a hS
    refine L_nil ?_
    refine n_then ?_
    refine wp_ret ?_
    refine r_then ?_
    refine c_retN hS Try.results95 (.cons (.tmp rfl) (.cons (.tmp rfl) .nil)) rfl ?_
    have hi : curIdx s < 0 := hc11
    rw [scaleR, if_pos hi]; exact ⟨rfl, hS.chg⟩
  ·
    obtain ⟨i, x, hi, hx, hp⟩ : ∃ i x, curIdx s = ((i : Nat) : Int) ∧ curs[i]? = some x ∧ decide (x.1 = s) = true := by
      rcases firstIdx_cases (fun x : ByteArray × Int => decide (x.1 = s)) curs with h | h
      · exact h
      · exfalso; have := h.1; exact hc11 (by show curIdx s < 0; unfold curIdx; omega)
    have hlt : i < 6 := (List.getElem?_eq_some_iff.1 hx).1
    change St _ _ _ _ _ ((11, _) :: (10, .int .i64 (curIdx s)) :: (5, .int .i64 (curIdx s)) :: (9, .int .i64 (curIdx s)) :: _) _ at hS
    rw [hi] at hS
    refine wp_skip ?_
    refine n_then ?_
    refine c_seq ?_
    refine c_region ?_
    refine L_op (s_e hS (e_move rfl) rfl ?_); clear hS a; intro a hS
    refine L_op (s_e hS (e_move rfl) rfl ?_); clear hS a; intro a hS
    refine L_op (s_e hS (e_ixN rfl rfl ty_sl154 ty_sz158 (by omega)) rfl ?_); clear hS a; intro a hS
    first | (refine L_op (s_e hS (e_fa0 rfl ty_fo158_1) rfl ?_); clear hS a; intro a hS) | (refine L_op (s_e hS (e_faK rfl ty_fo158_1) rfl ?_); clear hS a; intro a hS)
    refine L_op (s_e hS (e_loadC rfl ty_sc3 (fun w hh => blkrow_get (enc := encC) (by repeat (first | exact .head _ | refine .tail _ ?_)) (fun _ => rfl) hx w hh 1 (.int .i64 x.2) rfl)) rfl ?_); clear hS a; intro a hS
    refine L_op (s_e hS (e_assign rfl) rfl ?_); clear hS a; intro a hS
    refine L_op (s_e hS (e_assign rfl) rfl ?_); clear hS a; intro a hS
    refine L_nil ?_
    refine n_then ?_
    refine wp_ret ?_
    refine c_retN hS Try.results95 (.cons (.tmp rfl) (.cons (.tmp rfl) .nil)) rfl ?_
    have hg : curs.getD i (⟨#[]⟩, 0) = x := by rw [List.getD_eq_getElem?_getD, hx]; rfl
    rw [scaleR, if_neg (show ¬ curIdx s < 0 from hc11), hi, Int.toNat_natCast, hg]; exact ⟨rfl, hS.chg⟩

structure Inv where
  number : Int
  at_ : Int
  from_ : Int
  to_ : Int
  account : ByteArray
  cur : ByteArray
  lines : List RLine
  net : Int
  tax : Int
  total : Int
  paid : Int
  credited : Int
  state : Int
/-- an invoice's cells, its lines' slice given. -/
def encI (v : Inv) (sl : Value) : List Value :=
  [.int .i64 v.number, .int .i64 v.at_, .int .i64 v.from_, .int .i64 v.to_, .string v.account, .string v.cur, sl, .int .i64 v.net, .int .i64 v.tax, .int .i64 v.total, .int .i64 v.paid, .int .i64 v.credited, .int .i64 v.state]
def lnV (v : Inv) (b c : Nat) : Value := .slice (some ⟨b, 0, none⟩) v.lines.length c
def lnA (v : Inv) (b c : Nat) : Asn := ownA 26 4 (lnV v b c) v.lines.length (v.lines.flatMap encL)

set_option maxRecDepth 100000 in
theorem own_none (v : Inv) (hl : v.lines = []) (w0 : World) :
    NewC Try.prog 58 [.agg (encI v (sliceV none 0 0)).toArray] w0 (fun y : Nat × Nat => .agg (encI v (lnV v y.1 y.2)).toArray) (fun y => lnA v y.1 y.2) := by
  refine c_enter [(0, .agg (encI v (sliceV none 0 0)).toArray)] [] noB Try.func58 rfl Try.ntmps58 ⟨rfl, trivial⟩ rfl (by simp) (by simp) (by simp) ?_
  intro a hS
  refine c_seq ?_
  refine c_region ?_
  refine L_op (s_boxA hS rfl rfl ?_); clear hS a; (try clear w); intro a w b1 hS
  refine L_op (s_alloc hS ty_z34 rfl ?_); clear hS a; (try clear w); intro a w b2 hS
  refine L_nil ?_
  refine n_then ?_
  refine c_seq ?_
  refine c_draw1 [8] (by kernel_rfl) hS ?_; clear hS; (try clear w); intro w hS
  simp only [List.length_cons, List.length_nil, Nat.zero_add, Nat.reduceAdd, List.replicate]
  first | (refine Z_take0 (i := 0) hS rfl want_none (e_fa0 rfl ty_fo34_6) (listed' := [true, false, false, false, false, false, false, false, false]) rfl (by kernel_rfl) (by kernel_rfl) (by kernel_rfl) (fun _ _ _ h => h) rfl ?_; clear hS a; intro a hS) | (refine Z_take0 (i := 0) hS rfl want_none (e_faK rfl ty_fo34_6) (listed' := [true, false, false, false, false, false, false, false, false]) rfl (by kernel_rfl) (by kernel_rfl) (by kernel_rfl) (fun _ _ _ h => h) rfl ?_; clear hS a; intro a hS)
  refine Z_take (i := 1) hS rfl want_none (e_load rfl (by repeat constructor) ty_sc22 (by rfl)) (listed' := [true, true, false, false, false, false, false, false, false]) rfl (by kernel_rfl) (by kernel_rfl) (by kernel_rfl) (by kernel_rfl) (by kernel_rfl) (by intro X hX; repeat (first | exact hX | apply List.Mem.tail)) (fun _ _ _ h => h) rfl ?_; clear hS a; intro a hS
  refine Z_take0 (i := 2) hS rfl want_none (e_len rfl rfl ty_sl22) (listed' := [true, true, true, false, false, false, false, false, false]) rfl (by kernel_rfl) (by kernel_rfl) (by kernel_rfl) (fun _ _ _ h => h) rfl ?_; clear hS a; intro a hS
  first | (refine Z_take0 (i := 4) hS rfl want_none (e_fa0 rfl ty_fo34_6) (listed' := [true, true, true, false, true, false, false, false, false]) rfl (by kernel_rfl) (by kernel_rfl) (by kernel_rfl) (fun _ _ _ h => h) rfl ?_; clear hS a; intro a hS) | (refine Z_take0 (i := 4) hS rfl want_none (e_faK rfl ty_fo34_6) (listed' := [true, true, true, false, true, false, false, false, false]) rfl (by kernel_rfl) (by kernel_rfl) (by kernel_rfl) (fun _ _ _ h => h) rfl ?_; clear hS a; intro a hS)
  refine Z_take (i := 5) hS rfl want_none (e_load rfl (by repeat constructor) ty_sc22 (by rfl)) (listed' := [true, true, true, false, true, true, false, false, false]) rfl (by kernel_rfl) (by kernel_rfl) (by kernel_rfl) (by kernel_rfl) (by kernel_rfl) (by intro X hX; repeat (first | exact hX | apply List.Mem.tail)) (fun _ _ _ h => h) rfl ?_; clear hS a; intro a hS
  refine Z_one (i := 3) rfl (want_none a hS.sl) (listed' := [true, true, true, true, true, true, false, false, false]) rfl (by kernel_rfl) (s_make0 hS rfl rfl ty_sl22 ty_sz26 ty_by26 ty_z26 rfl (by omega) ?_); clear hS a; (try clear w); intro x6 a w hS
  refine Z_and hS (by intro X hX; repeat (first | exact hX | apply List.Mem.tail)) ?_
  refine Z_one (i := 6) rfl (want_none a hS.sl) (listed' := [true, true, true, true, true, true, true, false, false]) rfl (by kernel_rfl) (s_e hS (e_append0 rfl rfl ty_sl22 ty_sz26 ty_by26 ty_z26 (by exact .head _)) rfl ?_); clear hS a; intro a hS
  refine Z_and hS (by intro X hX; repeat (first | exact hX | apply List.Mem.tail)) ?_
  first | (refine Z_take0 (i := 7) hS rfl want_none (e_fa0 rfl ty_fo34_6) (listed' := [true, true, true, true, true, true, true, true, false]) rfl (by kernel_rfl) (by kernel_rfl) (by kernel_rfl) (fun _ _ _ h => h) rfl ?_; clear hS a; intro a hS) | (refine Z_take0 (i := 7) hS rfl want_none (e_faK rfl ty_fo34_6) (listed' := [true, true, true, true, true, true, true, true, false]) rfl (by kernel_rfl) (by kernel_rfl) (by kernel_rfl) (fun _ _ _ h => h) rfl ?_; clear hS a; intro a hS)
  refine Z_one (i := 8) rfl (want_none a hS.sl) (listed' := [true, true, true, true, true, true, true, true, true]) rfl (by kernel_rfl) (s_store hS rfl rfl rfl ty_sz22 (by repeat constructor) (by repeat constructor) ?_); clear hS; (try clear w); intro w hS
  refine Z_last (by simp) ?_
  refine Z_done (by kernel_rfl) ?_
  refine n_then ?_
  refine c_seq ?_
  refine c_region ?_
  refine L_op (s_e hS (e_loadA rfl (by repeat constructor) ty_st34 ty_sz34 (by rfl)) rfl ?_); clear hS a; intro a hS
  refine L_op (s_storeA hS rfl rfl ty_sz34 (by repeat constructor) (by rfl) (by rfl) (by rfl) ?_); clear hS; (try clear w); intro w hS
  refine L_nil ?_
  refine n_then ?_
  refine wp_ret ?_
  refine c_ret1 hS Try.results58 (.cellA rfl (by repeat constructor) ty_st34 ty_sz34 (by rfl)) ?_
  exact ⟨(x6, 0), by unfold lnV; rw [hl]; rfl, hS.chg, by unfold lnA lnV; rw [hl]; exact hS.new (.head _) rfl⟩
theorem linesOne (l : List RLine) : ∀ u ∈ l.flatMap encL, isOne u = true := by
  intro u hu
  obtain ⟨x, _, hx⟩ := List.mem_flatMap.1 hu
  simp only [encL, List.mem_cons, List.not_mem_nil, or_false] at hx
  rcases hx with rfl | rfl | rfl | rfl <;> rfl
theorem row_flat {b off : Nat} {l : List RLine} {w : World} (h : RowAt b off 4 (l.map encL) w) : ∀ j u, (l.flatMap encL)[j]? = some u → w.cell? ⟨b, off + j, none⟩ = some u := by
  intro j u hu
  have hlt := (List.getElem?_eq_some_iff.1 hu).1
  rw [flat_len encL 4 (fun _ => rfl)] at hlt
  have hi : j / 4 < l.length := by omega
  have hx : (l.map encL)[j / 4]? = some (encL l[j / 4]) := by simp [hi]
  have hj : (encL l[j / 4])[j % 4]? = (l.flatMap encL)[j]? := by
    have h4 : j % 4 < (encL l[j / 4]).length := by simp [encL]; omega
    have := flat_get encL 4 (fun _ => rfl) l (j / 4) l[j / 4] (by simp) (j % 4) _ (List.getElem?_eq_getElem h4)
    rw [show j / 4 * 4 + j % 4 = j by omega] at this
    rw [this, List.getElem?_eq_getElem h4]
  have := h (j / 4) _ hx (j % 4) u (by rw [hj]; exact hu)
  rwa [show off + j / 4 * 4 + j % 4 = off + j by omega] at this

set_option maxRecDepth 100000 in
theorem own_one (v : Inv) (b off c : Nat) (hlen : v.lines.length ≤ 1000000) (w0 : World) (hrow : RowAt b off 4 (v.lines.map encL) w0) (hb : b < w0.heap.size) :
    NewC Try.prog 58 [.agg (encI v (sliceV (some (b, off)) v.lines.length c)).toArray] w0 (fun y : Nat × Nat => .agg (encI v (lnV v y.1 y.2)).toArray) (fun y => lnA v y.1 y.2) := by
  refine c_enter [(0, .agg (encI v (sliceV (some (b, off)) v.lines.length c)).toArray)] [rowA b off 4 (v.lines.map encL)] noB Try.func58 rfl Try.ntmps58 ⟨rfl, trivial⟩ rfl (by intro X hX; obtain rfl := List.mem_singleton.1 hX; exact ok_row hrow hb) (by simp) (by intro X hX hm; obtain rfl := List.mem_singleton.1 hX; cases hm) ?_
  intro a hS
  refine c_seq ?_
  refine c_region ?_
  refine L_op (s_boxA hS rfl rfl ?_); clear hS a; (try clear w); intro a w b1 hS
  refine L_op (s_alloc hS ty_z34 rfl ?_); clear hS a; (try clear w); intro a w b2 hS
  refine L_nil ?_
  refine n_then ?_
  refine c_seq ?_
  refine c_draw1 [8] (by kernel_rfl) hS ?_; clear hS; (try clear w); intro w hS
  simp only [List.length_cons, List.length_nil, Nat.zero_add, Nat.reduceAdd, List.replicate]
  first | (refine Z_take0 (i := 0) hS rfl want_none (e_fa0 rfl ty_fo34_6) (listed' := [true, false, false, false, false, false, false, false, false]) rfl (by kernel_rfl) (by kernel_rfl) (by kernel_rfl) (fun _ _ _ h => h) rfl ?_; clear hS a; intro a hS) | (refine Z_take0 (i := 0) hS rfl want_none (e_faK rfl ty_fo34_6) (listed' := [true, false, false, false, false, false, false, false, false]) rfl (by kernel_rfl) (by kernel_rfl) (by kernel_rfl) (fun _ _ _ h => h) rfl ?_; clear hS a; intro a hS)
  refine Z_take (i := 1) hS rfl want_none (e_load rfl (by repeat constructor) ty_sc22 (by rfl)) (listed' := [true, true, false, false, false, false, false, false, false]) rfl (by kernel_rfl) (by kernel_rfl) (by kernel_rfl) (by kernel_rfl) (by kernel_rfl) (by intro X hX; repeat (first | exact hX | apply List.Mem.tail)) (fun _ _ _ h => h) rfl ?_; clear hS a; intro a hS
  refine Z_take0 (i := 2) hS rfl want_none (e_len rfl rfl ty_sl22) (listed' := [true, true, true, false, false, false, false, false, false]) rfl (by kernel_rfl) (by kernel_rfl) (by kernel_rfl) (fun _ _ _ h => h) rfl ?_; clear hS a; intro a hS
  first | (refine Z_take0 (i := 4) hS rfl want_none (e_fa0 rfl ty_fo34_6) (listed' := [true, true, true, false, true, false, false, false, false]) rfl (by kernel_rfl) (by kernel_rfl) (by kernel_rfl) (fun _ _ _ h => h) rfl ?_; clear hS a; intro a hS) | (refine Z_take0 (i := 4) hS rfl want_none (e_faK rfl ty_fo34_6) (listed' := [true, true, true, false, true, false, false, false, false]) rfl (by kernel_rfl) (by kernel_rfl) (by kernel_rfl) (fun _ _ _ h => h) rfl ?_; clear hS a; intro a hS)
  refine Z_take (i := 5) hS rfl want_none (e_load rfl (by repeat constructor) ty_sc22 (by rfl)) (listed' := [true, true, true, false, true, true, false, false, false]) rfl (by kernel_rfl) (by kernel_rfl) (by kernel_rfl) (by kernel_rfl) (by kernel_rfl) (by intro X hX; repeat (first | exact hX | apply List.Mem.tail)) (fun _ _ _ h => h) rfl ?_; clear hS a; intro a hS
  refine Z_one (i := 3) rfl (want_none a hS.sl) (listed' := [true, true, true, true, true, true, false, false, false]) rfl (by kernel_rfl) (s_make0 hS rfl rfl ty_sl22 ty_sz26 ty_by26 ty_z26 rfl (by omega) ?_); clear hS a; (try clear w); intro x6 a w hS
  refine Z_and hS (by intro X hX; repeat (first | exact hX | apply List.Mem.tail)) ?_
  refine Z_one (i := 6) rfl (want_none a hS.sl) (listed' := [true, true, true, true, true, true, true, false, false]) rfl (by kernel_rfl) (s_append hS rfl rfl ty_sl22 ty_sz26 ty_by26 ty_z26 rfl rfl rfl (by repeat constructor) (flat_len encL 4 (fun _ => rfl) v.lines) (row_flat (hS.get (X := rowA b off 4 (v.lines.map encL)) (by repeat constructor))) (linesOne v.lines) (by omega) (fun _ => (by repeat constructor)) ?_); clear hS a; (try clear w); intro v9 a w hv9 hS
  obtain ⟨lb, c', rfl⟩ := own_some (hS.get (.head _)) (fun e => by have := (hv9.1 e).1; cases this)
  rw [Nat.zero_add, List.nil_append] at hS
  clear hv9
  refine Z_and hS (by intro X hX; repeat (first | exact hX | apply List.Mem.tail)) ?_
  first | (refine Z_take0 (i := 7) hS rfl want_none (e_fa0 rfl ty_fo34_6) (listed' := [true, true, true, true, true, true, true, true, false]) rfl (by kernel_rfl) (by kernel_rfl) (by kernel_rfl) (fun _ _ _ h => h) rfl ?_; clear hS a; intro a hS) | (refine Z_take0 (i := 7) hS rfl want_none (e_faK rfl ty_fo34_6) (listed' := [true, true, true, true, true, true, true, true, false]) rfl (by kernel_rfl) (by kernel_rfl) (by kernel_rfl) (fun _ _ _ h => h) rfl ?_; clear hS a; intro a hS)
  refine Z_one (i := 8) rfl (want_none a hS.sl) (listed' := [true, true, true, true, true, true, true, true, true]) rfl (by kernel_rfl) (s_store hS rfl rfl rfl ty_sz22 (by repeat constructor) (by repeat constructor) ?_); clear hS; (try clear w); intro w hS
  refine Z_last (by simp) ?_
  refine Z_done (by kernel_rfl) ?_
  refine n_then ?_
  refine c_seq ?_
  refine c_region ?_
  refine L_op (s_e hS (e_loadA rfl (by repeat constructor) ty_st34 ty_sz34 (by rfl)) rfl ?_); clear hS a; intro a hS
  refine L_op (s_storeA hS rfl rfl ty_sz34 (by repeat constructor) (by rfl) (by rfl) (by rfl) ?_); clear hS; (try clear w); intro w hS
  refine L_nil ?_
  refine n_then ?_
  refine wp_ret ?_
  refine c_ret1 hS Try.results58 (.cellA rfl (by repeat constructor) ty_st34 ty_sz34 (by rfl)) ?_
  exact ⟨(lb, c'), rfl, hS.chg, hS.new (.head _) rfl⟩
theorem own_P (v : Inv) (p : Option (Nat × Nat)) (c : Nat) (hc : p = none → c = 0) (hlen : v.lines.length ≤ 1000000) (w0 : World) (hrow : RowP p 4 (v.lines.map encL) w0) (hb : ∀ q, p = some q → q.1 < w0.heap.size) :
    NewC Try.prog 58 [.agg (encI v (sliceV p v.lines.length c)).toArray] w0 (fun y : Nat × Nat => .agg (encI v (lnV v y.1 y.2)).toArray) (fun y => lnA v y.1 y.2) := by
  cases p with
  | none =>
    obtain rfl := hc rfl
    have hl : v.lines = [] := by simpa [RowP] using hrow
    have := own_none v hl w0
    rwa [show v.lines.length = 0 by rw [hl]; rfl]
  | some q => exact own_one v q.1 q.2 c hlen w0 hrow (hb q rfl)
end Go.Proofs.Ytfiaobhkhedpiaa
