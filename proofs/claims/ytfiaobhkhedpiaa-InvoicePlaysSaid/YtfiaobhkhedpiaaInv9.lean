/- Voidings of a book of invoices, walked. -/
import Derived.Test.YtfiaobhkhedpiaaInv8
namespace Go.Proofs.Ytfiaobhkhedpiaa
open Go.RowKit

def voidI (v : Inv) : Inv := { v with state := 3 }

set_option maxRecDepth 100000 in
theorem Void1_bad (g k c : Nat) (its : List IA) (x : IA) (hx : its[k]? = some x) (hg : goodI x.v) (w0 : World) (h : rowOk (.slice (some ⟨g, 0, none⟩) its.length c) its w0) (hbad : 0 < x.v.paid + x.v.credited) :
    PureC Try.prog 66 [.pointer (some ⟨g, 0 + k * 13, none⟩)] w0 (.int .i64 25) := by
  have b0 := hg.tot
  have b1 := hg.sum
  have b2 := hg.paid
  have b3 := hg.cred
  refine c_enter [(0, .pointer (some ⟨g, 0 + k * 13, none⟩))] [.any (fun b => b = g) (rowOk (.slice (some ⟨g, 0, none⟩) its.length c) its) false] noB Try.func66 rfl Try.ntmps66 ⟨rfl, trivial⟩ rfl (by intro X hX; obtain rfl := List.mem_singleton.1 hX; exact ⟨fun b hb => by obtain rfl : b = g := hb; exact (World.ownsRow.lt h b rfl).2, fun w' hw => owns_keep h (fun b hb => by simp [Value.ownBlock] at hb; subst hb; exact hw _ rfl)⟩) (by simp) (by intro X hX hm; obtain rfl := List.mem_singleton.1 hX; cases hm) ?_
  intro a hS
  refine c_seq ?_
  refine c_region ?_
  refine L_op (s_e hS (e_assign rfl) rfl ?_); clear hS a; intro a hS
  refine L_nil ?_
  refine n_then ?_
  refine c_seq ?_
  refine c_seq ?_
  refine c_draw1 [] (by kernel_rfl) hS ?_; clear hS; (try clear w); intro w hS
  simp only [List.length_cons, List.length_nil, Nat.zero_add, Nat.reduceAdd, List.replicate]
  refine Z_take0 (i := 0) hS rfl want_none (e_move rfl) (listed' := [true, false, false, false, false, false, false, false, false, false]) rfl (by kernel_rfl) (by kernel_rfl) (by kernel_rfl) (fun _ _ _ h => h) rfl ?_; clear hS a; intro a hS
  refine Z_take0 (i := 1) hS rfl want_none (e_nilCheck rfl) (listed' := [true, true, false, false, false, false, false, false, false, false]) rfl (by kernel_rfl) (by kernel_rfl) (by kernel_rfl) (fun _ _ _ h => h) rfl ?_; clear hS a; intro a hS
  first | (refine Z_take0 (i := 2) hS rfl want_none (e_fa0 rfl ty_fo34_10) (listed' := [true, true, true, false, false, false, false, false, false, false]) rfl (by kernel_rfl) (by kernel_rfl) (by kernel_rfl) (fun _ _ _ h => h) rfl ?_; clear hS a; intro a hS) | (refine Z_take0 (i := 2) hS rfl want_none (e_faK rfl ty_fo34_10) (listed' := [true, true, true, false, false, false, false, false, false, false]) rfl (by kernel_rfl) (by kernel_rfl) (by kernel_rfl) (fun _ _ _ h => h) rfl ?_; clear hS a; intro a hS)
  refine Z_take (i := 3) hS rfl want_none (e_loadC rfl ty_sc3 (fun w hh => row_cells (hh (.any (fun b => b = g) (rowOk (.slice (some ⟨g, 0, none⟩) its.length c) its) false) (.head _)) hx 10 (.int .i64 x.v.paid) rfl)) (listed' := [true, true, true, true, false, false, false, false, false, false]) rfl (by kernel_rfl) (by kernel_rfl) (by kernel_rfl) (by kernel_rfl) (by kernel_rfl) (by intro X hX; repeat (first | exact hX | apply List.Mem.tail)) (fun _ _ _ h => h) rfl ?_; clear hS a; intro a hS
  refine Z_take0 (i := 4) hS rfl want_none (e_move rfl) (listed' := [true, true, true, true, true, false, false, false, false, false]) rfl (by kernel_rfl) (by kernel_rfl) (by kernel_rfl) (fun _ _ _ h => h) rfl ?_; clear hS a; intro a hS
  refine Z_take0 (i := 5) hS rfl want_none (e_nilCheck rfl) (listed' := [true, true, true, true, true, true, false, false, false, false]) rfl (by kernel_rfl) (by kernel_rfl) (by kernel_rfl) (fun _ _ _ h => h) rfl ?_; clear hS a; intro a hS
  first | (refine Z_take0 (i := 6) hS rfl want_none (e_fa0 rfl ty_fo34_11) (listed' := [true, true, true, true, true, true, true, false, false, false]) rfl (by kernel_rfl) (by kernel_rfl) (by kernel_rfl) (fun _ _ _ h => h) rfl ?_; clear hS a; intro a hS) | (refine Z_take0 (i := 6) hS rfl want_none (e_faK rfl ty_fo34_11) (listed' := [true, true, true, true, true, true, true, false, false, false]) rfl (by kernel_rfl) (by kernel_rfl) (by kernel_rfl) (fun _ _ _ h => h) rfl ?_; clear hS a; intro a hS)
  refine Z_take (i := 7) hS rfl want_none (e_loadC rfl ty_sc3 (fun w hh => row_cells (hh (.any (fun b => b = g) (rowOk (.slice (some ⟨g, 0, none⟩) its.length c) its) false) (.head _)) hx 11 (.int .i64 x.v.credited) rfl)) (listed' := [true, true, true, true, true, true, true, true, false, false]) rfl (by kernel_rfl) (by kernel_rfl) (by kernel_rfl) (by kernel_rfl) (by kernel_rfl) (by intro X hX; repeat (first | exact hX | apply List.Mem.tail)) (fun _ _ _ h => h) rfl ?_; clear hS a; intro a hS
  first | (refine Z_take0 (i := 8) hS rfl want_none (e_binN rfl rfl rfl (by omega)) (listed' := [true, true, true, true, true, true, true, true, true, false]) rfl (by kernel_rfl) (by kernel_rfl) (by kernel_rfl) (fun _ _ _ h => h) rfl ?_; clear hS a; intro a hS) | (refine Z_take0 (i := 8) hS rfl want_none (e_bin rfl rfl rfl) (listed' := [true, true, true, true, true, true, true, true, true, false]) rfl (by kernel_rfl) (by kernel_rfl) (by kernel_rfl) (fun _ _ _ h => h) rfl ?_; clear hS a; intro a hS)
  refine Z_take0 (i := 9) hS rfl want_none (e_bin rfl rfl rfl) (listed' := [true, true, true, true, true, true, true, true, true, true]) rfl (by kernel_rfl) (by kernel_rfl) (by kernel_rfl) (fun _ _ _ h => h) rfl ?_; clear hS a; intro a hS
  refine Z_done (by kernel_rfl) ?_
  refine n_then ?_
  replace hS := hS.is (t := 12) (c := true) rfl ((decide_eq_true (by omega)))
  refine c_if_t hS rfl ?_
  refine c_seq ?_
  refine c_region ?_
  refine L_op (s_e hS (e_assign rfl) rfl ?_); clear hS a; intro a hS
  refine L_nil ?_
  refine n_then ?_
  refine wp_ret ?_
  refine r_then ?_
  refine c_ret1 hS Try.results66 (.tmp rfl) ?_
  exact ⟨rfl, hS.chg⟩

set_option maxRecDepth 100000 in
theorem Void1_ok (g k c : Nat) (its : List IA) (x : IA) (hx : its[k]? = some x) (hg : goodI x.v) (w0 : World) (h : rowOk (.slice (some ⟨g, 0, none⟩) its.length c) its w0) (hok : x.v.paid + x.v.credited ≤ 0) :
    Calls Try.prog 66 [.pointer (some ⟨g, 0 + k * 13, none⟩)].toArray w0 (fun e w' => e = .returned (.int .i64 0) ∧ Chg (fun b => b = g) w0 w' ∧ rowOk (.slice (some ⟨g, 0, none⟩) its.length c) (its.set k ⟨voidI x.v, x.b, x.c⟩) w') := by
  have b0 := hg.tot
  have b1 := hg.sum
  have b2 := hg.paid
  have b3 := hg.cred
  have hlt := (List.getElem?_eq_some_iff.1 hx).1
  refine c_enter [(0, .pointer (some ⟨g, 0 + k * 13, none⟩))] [rowA13 (.slice (some ⟨g, 0, none⟩) its.length c) its] (fun b => b = g) Try.func66 rfl Try.ntmps66 ⟨rfl, trivial⟩ rfl (by intro X hX; obtain rfl := List.mem_singleton.1 hX; exact ok_own h) (by simp) (by intro X hX hm b hb; obtain rfl := List.mem_singleton.1 hX; simp [rowA13, ownA, Asn.F, Value.ownBlock] at hb; exact .inr hb.symm) ?_
  intro a hS
  refine c_seq ?_
  refine c_region ?_
  refine L_op (s_e hS (e_assign rfl) rfl ?_); clear hS a; intro a hS
  refine L_nil ?_
  refine n_then ?_
  refine c_seq ?_
  refine c_seq ?_
  refine c_draw1 [] (by kernel_rfl) hS ?_; clear hS; (try clear w); intro w hS
  simp only [List.length_cons, List.length_nil, Nat.zero_add, Nat.reduceAdd, List.replicate]
  refine Z_take0 (i := 0) hS rfl want_none (e_move rfl) (listed' := [true, false, false, false, false, false, false, false, false, false]) rfl (by kernel_rfl) (by kernel_rfl) (by kernel_rfl) (fun _ _ _ h => h) rfl ?_; clear hS a; intro a hS
  refine Z_take0 (i := 1) hS rfl want_none (e_nilCheck rfl) (listed' := [true, true, false, false, false, false, false, false, false, false]) rfl (by kernel_rfl) (by kernel_rfl) (by kernel_rfl) (fun _ _ _ h => h) rfl ?_; clear hS a; intro a hS
  first | (refine Z_take0 (i := 2) hS rfl want_none (e_fa0 rfl ty_fo34_10) (listed' := [true, true, true, false, false, false, false, false, false, false]) rfl (by kernel_rfl) (by kernel_rfl) (by kernel_rfl) (fun _ _ _ h => h) rfl ?_; clear hS a; intro a hS) | (refine Z_take0 (i := 2) hS rfl want_none (e_faK rfl ty_fo34_10) (listed' := [true, true, true, false, false, false, false, false, false, false]) rfl (by kernel_rfl) (by kernel_rfl) (by kernel_rfl) (fun _ _ _ h => h) rfl ?_; clear hS a; intro a hS)
  refine Z_take (i := 3) hS rfl want_none (e_loadC rfl ty_sc3 (fun w hh => own_row (by repeat (first | exact .head _ | refine .tail _ ?_)) hx w hh 10 (.int .i64 x.v.paid) rfl)) (listed' := [true, true, true, true, false, false, false, false, false, false]) rfl (by kernel_rfl) (by kernel_rfl) (by kernel_rfl) (by kernel_rfl) (by kernel_rfl) (by intro X hX; repeat (first | exact hX | apply List.Mem.tail)) (fun _ _ _ h => h) rfl ?_; clear hS a; intro a hS
  refine Z_take0 (i := 4) hS rfl want_none (e_move rfl) (listed' := [true, true, true, true, true, false, false, false, false, false]) rfl (by kernel_rfl) (by kernel_rfl) (by kernel_rfl) (fun _ _ _ h => h) rfl ?_; clear hS a; intro a hS
  refine Z_take0 (i := 5) hS rfl want_none (e_nilCheck rfl) (listed' := [true, true, true, true, true, true, false, false, false, false]) rfl (by kernel_rfl) (by kernel_rfl) (by kernel_rfl) (fun _ _ _ h => h) rfl ?_; clear hS a; intro a hS
  first | (refine Z_take0 (i := 6) hS rfl want_none (e_fa0 rfl ty_fo34_11) (listed' := [true, true, true, true, true, true, true, false, false, false]) rfl (by kernel_rfl) (by kernel_rfl) (by kernel_rfl) (fun _ _ _ h => h) rfl ?_; clear hS a; intro a hS) | (refine Z_take0 (i := 6) hS rfl want_none (e_faK rfl ty_fo34_11) (listed' := [true, true, true, true, true, true, true, false, false, false]) rfl (by kernel_rfl) (by kernel_rfl) (by kernel_rfl) (fun _ _ _ h => h) rfl ?_; clear hS a; intro a hS)
  refine Z_take (i := 7) hS rfl want_none (e_loadC rfl ty_sc3 (fun w hh => own_row (by repeat (first | exact .head _ | refine .tail _ ?_)) hx w hh 11 (.int .i64 x.v.credited) rfl)) (listed' := [true, true, true, true, true, true, true, true, false, false]) rfl (by kernel_rfl) (by kernel_rfl) (by kernel_rfl) (by kernel_rfl) (by kernel_rfl) (by intro X hX; repeat (first | exact hX | apply List.Mem.tail)) (fun _ _ _ h => h) rfl ?_; clear hS a; intro a hS
  first | (refine Z_take0 (i := 8) hS rfl want_none (e_binN rfl rfl rfl (by omega)) (listed' := [true, true, true, true, true, true, true, true, true, false]) rfl (by kernel_rfl) (by kernel_rfl) (by kernel_rfl) (fun _ _ _ h => h) rfl ?_; clear hS a; intro a hS) | (refine Z_take0 (i := 8) hS rfl want_none (e_bin rfl rfl rfl) (listed' := [true, true, true, true, true, true, true, true, true, false]) rfl (by kernel_rfl) (by kernel_rfl) (by kernel_rfl) (fun _ _ _ h => h) rfl ?_; clear hS a; intro a hS)
  refine Z_take0 (i := 9) hS rfl want_none (e_bin rfl rfl rfl) (listed' := [true, true, true, true, true, true, true, true, true, true]) rfl (by kernel_rfl) (by kernel_rfl) (by kernel_rfl) (fun _ _ _ h => h) rfl ?_; clear hS a; intro a hS
  refine Z_done (by kernel_rfl) ?_
  refine n_then ?_
  replace hS := hS.is (t := 12) (c := false) rfl ((decide_eq_false (by omega)))
  refine c_if_f hS rfl ?_
  refine wp_skip ?_
  refine n_then ?_
  refine c_seq ?_
  refine c_region ?_
  refine L_op (s_e hS (e_move rfl) rfl ?_); clear hS a; intro a hS
  refine L_op (s_e hS (e_nilCheck rfl) rfl ?_); clear hS a; intro a hS
  first | (refine L_op (s_e hS (e_fa0 rfl ty_fo34_12) rfl ?_); clear hS a; intro a hS) | (refine L_op (s_e hS (e_faK rfl ty_fo34_12) rfl ?_); clear hS a; intro a hS)
  refine L_op (s_storeO hS rfl rfl rfl ty_sz3 (by repeat (first | apply Rep.head | apply Rep.tail)) (by omega) ?_); clear hS; (try clear w); intro w hS; rw [flat_set0 encA 13 (fun _ => rfl) its k x ⟨voidI x.v, x.b, x.c⟩ 12 (.int .i64 3) hx (by omega) rfl] at hS
  refine L_nil ?_
  refine n_then ?_
  refine c_seq ?_
  refine c_region ?_
  refine L_op (s_e hS (e_assign rfl) rfl ?_); clear hS a; intro a hS
  refine L_nil ?_
  refine n_then ?_
  refine wp_ret ?_
  refine c_ret1 hS Try.results66 (.tmp rfl) ?_
  refine ⟨rfl, hS.chg, ?_⟩
  unfold rowOk
  rw [List.length_set]
  exact hS.get (X := ownA 34 13 (.slice (some ⟨g, 0, none⟩) its.length c) its.length _) (by repeat (first | exact .head _ | refine .tail _ ?_))

set_option maxRecDepth 100000 in
theorem Void_none (bk : Nat) (sv : Value) (its : List IA) (number : Int) (hn : its.length ≤ 1000000) (w0 : World) (h : bookφ bk sv its w0) (hno : number < 1 ∨ (its.length : Int) < number) :
    PureC Try.prog 22 [.pointer (some ⟨bk, 0, none⟩), .int .i64 number] w0 (.int .i64 2) := by
  refine c_enter [(0, .pointer (some ⟨bk, 0, none⟩)), (1, .int .i64 number)] [bookA bk sv its false] noB Try.func22 rfl Try.ntmps22 ⟨rfl, rfl, trivial⟩ rfl (by intro X hX; obtain rfl := List.mem_singleton.1 hX; exact book_ok false h) (by simp) (by intro X hX hm; obtain rfl := List.mem_singleton.1 hX; cases hm) ?_
  intro a hS
  refine c_seq ?_
  refine c_region ?_
  refine L_op (s_e hS (e_assign rfl) rfl ?_); clear hS a; intro a hS
  refine L_nil ?_
  refine n_then ?_
  refine c_seq ?_
  refine c_region ?_
  refine L_op (s_e hS (e_move rfl) rfl ?_); clear hS a; intro a hS
  refine L_op (s_e hS (e_move rfl) rfl ?_); clear hS a; intro a hS
  refine L_op (s_callP hS (.cons rfl (.cons rfl (.cons rfl .nil))) cf65 rfl (does_none bk sv its number hn _ _ (hS.get (X := bookA bk sv its false) (by repeat (first | exact .head _ | refine .tail _ ?_))) hno) ?_); clear hS a; (try clear w); intro a w hS
  refine L_op (s_e hS (e_assign rfl) rfl ?_); clear hS a; intro a hS
  refine L_nil ?_
  refine n_then ?_
  refine wp_ret ?_
  refine c_ret1 hS Try.results22 (.tmp rfl) ?_
  exact ⟨rfl, hS.chg⟩
set_option maxRecDepth 100000 in
theorem Void_shut (bk : Nat) (sv : Value) (its : List IA) (k : Nat) (x : IA) (hx : its[k]? = some x) (hst : x.v.state = 2 ∨ x.v.state = 3) (hn : its.length ≤ 1000000) (w0 : World) (h : bookφ bk sv its w0) :
    PureC Try.prog 22 [.pointer (some ⟨bk, 0, none⟩), .int .i64 ((k : Int) + 1)] w0 (.int .i64 25) := by
  refine c_enter [(0, .pointer (some ⟨bk, 0, none⟩)), (1, .int .i64 ((k : Int) + 1))] [bookA bk sv its false] noB Try.func22 rfl Try.ntmps22 ⟨rfl, rfl, trivial⟩ rfl (by intro X hX; obtain rfl := List.mem_singleton.1 hX; exact book_ok false h) (by simp) (by intro X hX hm; obtain rfl := List.mem_singleton.1 hX; cases hm) ?_
  intro a hS
  refine c_seq ?_
  refine c_region ?_
  refine L_op (s_e hS (e_assign rfl) rfl ?_); clear hS a; intro a hS
  refine L_nil ?_
  refine n_then ?_
  refine c_seq ?_
  refine c_region ?_
  refine L_op (s_e hS (e_move rfl) rfl ?_); clear hS a; intro a hS
  refine L_op (s_e hS (e_move rfl) rfl ?_); clear hS a; intro a hS
  refine L_op (s_callP hS (.cons rfl (.cons rfl (.cons rfl .nil))) cf65 rfl (does_shut bk sv its k x hx hst hn _ _ (hS.get (X := bookA bk sv its false) (by repeat (first | exact .head _ | refine .tail _ ?_)))) ?_); clear hS a; (try clear w); intro a w hS
  refine L_op (s_e hS (e_assign rfl) rfl ?_); clear hS a; intro a hS
  refine L_nil ?_
  refine n_then ?_
  refine wp_ret ?_
  refine c_ret1 hS Try.results22 (.tmp rfl) ?_
  exact ⟨rfl, hS.chg⟩
set_option maxRecDepth 100000 in
theorem Void_bad (bk : Nat) (sv : Value) (its : List IA) (k : Nat) (x : IA) (hx : its[k]? = some x) (hst : x.v.state = 1) (hg : goodI x.v) (hn : its.length ≤ 1000000) (hbad : 0 < x.v.paid + x.v.credited) (w0 : World) (h : bookφ bk sv its w0) :
    PureC Try.prog 22 [.pointer (some ⟨bk, 0, none⟩), .int .i64 ((k : Int) + 1)] w0 (.int .i64 25) := by
  obtain ⟨g, c, rfl⟩ := sv_some h.2.1 hx
  refine c_enter [(0, .pointer (some ⟨bk, 0, none⟩)), (1, .int .i64 ((k : Int) + 1))] [bookA bk (.slice (some ⟨g, 0, none⟩) its.length c) its false] noB Try.func22 rfl Try.ntmps22 ⟨rfl, rfl, trivial⟩ rfl (by intro X hX; obtain rfl := List.mem_singleton.1 hX; exact book_ok false h) (by simp) (by intro X hX hm; obtain rfl := List.mem_singleton.1 hX; cases hm) ?_
  intro a hS
  refine c_seq ?_
  refine c_region ?_
  refine L_op (s_e hS (e_assign rfl) rfl ?_); clear hS a; intro a hS
  refine L_nil ?_
  refine n_then ?_
  refine c_seq ?_
  refine c_region ?_
  refine L_op (s_e hS (e_move rfl) rfl ?_); clear hS a; intro a hS
  refine L_op (s_e hS (e_move rfl) rfl ?_); clear hS a; intro a hS
  have hb := hS.get (X := bookA bk (.slice (some ⟨g, 0, none⟩) its.length c) its false) (by repeat (first | exact .head _ | refine .tail _ ?_))
  refine L_op (s_callP hS (.cons rfl (.cons rfl (.cons rfl .nil))) cf65 rfl ((does_open bk (.slice (some ⟨g, 0, none⟩) its.length c) its k x hx hst hn 66 [] _ hb cf66 (fun w1 e w' => e = .returned (.int .i64 25) ∧ Chg noB w1 w') (fun w1 e w' hh => ⟨_, hh.1, hh.2.any⟩) _ rfl (fun w1 hc => Void1_bad g k c its x hx hg w1 (hb.later hc).2.1 hbad)).mono (fun e w' ⟨w1, h1, h2, h3⟩ => ⟨h2, h1.ext h3⟩)) ?_); clear hS a; (try clear w); intro a w hS
  refine L_op (s_e hS (e_assign rfl) rfl ?_); clear hS a; intro a hS
  refine L_nil ?_
  refine n_then ?_
  refine wp_ret ?_
  refine c_ret1 hS Try.results22 (.tmp rfl) ?_
  exact ⟨rfl, hS.chg⟩
set_option maxRecDepth 100000 in
theorem Void_ok (bk : Nat) (sv : Value) (its : List IA) (k : Nat) (x : IA) (hx : its[k]? = some x) (hst : x.v.state = 1) (hg : goodI x.v) (hn : its.length ≤ 1000000) (hok : x.v.paid + x.v.credited ≤ 0) (w0 : World) (h : bookφ bk sv its w0) :
    MutC Try.prog 22 [.pointer (some ⟨bk, 0, none⟩), .int .i64 ((k : Int) + 1)] w0 (bookA bk sv its true) (fun _ : Unit => .int .i64 0) (fun _ => bookA bk sv (its.set k ⟨voidI x.v, x.b, x.c⟩) true) := by
  obtain ⟨g, c, rfl⟩ := sv_some h.2.1 hx
  refine c_enter [(0, .pointer (some ⟨bk, 0, none⟩)), (1, .int .i64 ((k : Int) + 1))] (bookL bk (.slice (some ⟨g, 0, none⟩) its.length c) its) (bookF bk (.slice (some ⟨g, 0, none⟩) its.length c) its) Try.func22 rfl Try.ntmps22 ⟨rfl, rfl, trivial⟩ rfl (bookL_ok h) (bookL_dis h) (by intro X hX hm b hb; exact .inr (bookL_F X hX b hb)) ?_
  intro a hS
  refine c_seq ?_
  refine c_region ?_
  refine L_op (s_e hS (e_assign rfl) rfl ?_); clear hS a; intro a hS
  refine L_nil ?_
  refine n_then ?_
  refine c_seq ?_
  refine c_region ?_
  refine L_op (s_e hS (e_move rfl) rfl ?_); clear hS a; intro a hS
  refine L_op (s_e hS (e_move rfl) rfl ?_); clear hS a; intro a hS
  have hb : bookφ bk (.slice (some ⟨g, 0, none⟩) its.length c) its w0 := ⟨hS.get (X := .blk bk _ _) (by repeat (first | exact .head _ | refine .tail _ ?_)), ⟨hS.get (X := rowA13 (.slice (some ⟨g, 0, none⟩) its.length c) its) (by repeat (first | exact .head _ | refine .tail _ ?_)), hS.get (X := linesAll its) (by repeat (first | exact .head _ | refine .tail _ ?_))⟩⟩
  have hM : MutC Try.prog 65 [.pointer (some ⟨bk, 0, none⟩), .int .i64 ((k : Int) + 1), .func (.func 66) #[] [].toArray] w0 (rowA13 (.slice (some ⟨g, 0, none⟩) its.length c) its) (fun _ : Unit => .int .i64 0) (fun _ => rowA13 (.slice (some ⟨g, 0, none⟩) (its.set k ⟨voidI x.v, x.b, x.c⟩).length c) (its.set k ⟨voidI x.v, x.b, x.c⟩)) :=
    (does_open bk (.slice (some ⟨g, 0, none⟩) its.length c) its k x hx hst hn 66 [] _ hb cf66 (fun w1 e w' => e = .returned (.int .i64 0) ∧ Chg (fun b => b = g) w1 w' ∧ rowOk (.slice (some ⟨g, 0, none⟩) its.length c) (its.set k ⟨voidI x.v, x.b, x.c⟩) w') (fun w1 e w' hh => ⟨_, hh.1, hh.2.1.any⟩) _ rfl
      (fun w1 hc => Void1_ok g k c its x hx hg w1 (hb.later hc).2.1 hok)).mono (fun e w' ⟨w1, h1, h2, h3, h4⟩ => ⟨(), h2, ⟨h3.os.trans h1.os, h3.tape.trans h1.tape, h3.output.trans h1.output, Nat.le_trans h1.size h3.size, fun q hq hne => (h3.block q (Nat.lt_of_lt_of_le hq h1.size) (fun e => hne (by subst e; rfl))).trans (h1.block q hq (fun hf => hf))⟩, ok_own (by unfold rowOk at h4; rw [List.length_set] at h4 ⊢; exact h4), fun b hb => .inl hb⟩)
  clear hb
  refine L_op (s_callM hS (.cons rfl (.cons rfl (.cons rfl .nil))) cf65 rfl hM (fun _ => (by repeat (first | apply Rep.head | apply Rep.tail))) rfl ?_); clear hS a hM; (try clear w); intro _ a w hS
  refine L_op (s_e hS (e_assign rfl) rfl ?_); clear hS a; intro a hS
  refine L_nil ?_
  refine n_then ?_
  refine wp_ret ?_
  refine c_ret1 hS Try.results22 (.tmp rfl) ?_
  have hro : rowOk (.slice (some ⟨g, 0, none⟩) (its.set k ⟨voidI x.v, x.b, x.c⟩).length c) (its.set k ⟨voidI x.v, x.b, x.c⟩) w := hS.get (X := rowA13 (.slice (some ⟨g, 0, none⟩) (its.set k ⟨voidI x.v, x.b, x.c⟩).length c) (its.set k ⟨voidI x.v, x.b, x.c⟩)) (by repeat (first | exact .head _ | refine .tail _ ?_))
  rw [List.length_set] at hro
  refine ⟨(), rfl, hS.chg, book_ok true ⟨hS.get (X := .blk bk [.slice (some ⟨g, 0, none⟩) its.length c] _) (by repeat (first | exact .head _ | refine .tail _ ?_)), hro, linesAll_set (z := ⟨voidI x.v, x.b, x.c⟩) hx rfl rfl rfl (hS.get (X := linesAll its) (by repeat (first | exact .head _ | refine .tail _ ?_)))⟩, fun b hb => .inl ?_⟩
  rcases hb with rfl | hb | hb
  · exact .inl rfl
  · exact .inr (.inl hb)
  · exact .inr (.inr (lines_F (z := ⟨voidI x.v, x.b, x.c⟩) hx rfl b hb))

/-- what a voiding makes of an invoice: the invoice then, the error. -/
def VoidRel (x y : IA) (f : Int) : Prop :=
  ((x.v.state ≠ 1 ∨ 0 < x.v.paid + x.v.credited) ∧ f = 25 ∧ y = x) ∨ (x.v.state = 1 ∧ x.v.paid + x.v.credited ≤ 0 ∧ f = 0 ∧ y = ⟨voidI x.v, x.b, x.c⟩)
theorem Void_any (bk : Nat) (sv : Value) (its : List IA) (k : Nat) (x : IA) (hx : its[k]? = some x) (hg : goodI x.v) (hn : its.length ≤ 1000000) (w0 : World) (h : bookφ bk sv its w0) :
    MutC Try.prog 22 [.pointer (some ⟨bk, 0, none⟩), .int .i64 ((k : Int) + 1)] w0 (bookA bk sv its true) (fun y : { y : IA × Int // VoidRel x y.1 y.2 } => .int .i64 y.1.2) (fun y => bookA bk sv (its.set k y.1.1) true) := by
  rcases hg.state with h1 | h23
  · by_cases hu : x.v.paid + x.v.credited ≤ 0
    · exact (Void_ok bk sv its k x hx h1 hg hn hu w0 h).mono fun e w' ⟨_, he, hc, hY, hF⟩ => ⟨⟨(⟨voidI x.v, x.b, x.c⟩, 0), .inr ⟨h1, hu, rfl, rfl⟩⟩, he, hc, hY, hF⟩
    · have hb : 0 < x.v.paid + x.v.credited := by omega
      exact pure_mut (Void_bad bk sv its k x hx h1 hg hn hb w0 h) (book_ok true h) ⟨(x, 25), .inl ⟨.inr hb, rfl, rfl⟩⟩ rfl (by simp only [set_self hx])
  · exact pure_mut (Void_shut bk sv its k x hx h23 hn w0 h) (book_ok true h) ⟨(x, 25), .inl ⟨.inl (by omega), rfl, rfl⟩⟩ rfl (by simp only [set_self hx])
end Go.Proofs.Ytfiaobhkhedpiaa
