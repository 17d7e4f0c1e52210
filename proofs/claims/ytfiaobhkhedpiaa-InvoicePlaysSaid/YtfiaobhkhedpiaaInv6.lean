/- Payments, credits and voidings of a book of invoices, walked. -/
import Derived.Test.YtfiaobhkhedpiaaInv5
namespace Go.Proofs.Ytfiaobhkhedpiaa
open Go.RowKit

set_option maxRecDepth 100000 in
theorem acts_P (w0 : World) : NewC Try.prog 100 [] w0 (fun r : Nat => .map (some r)) (fun r => .mp r [⟨.int .i64 1, .func (.func 116) #[] #[], 0⟩, ⟨.int .i64 2, .func (.func 115) #[] #[], 1⟩, ⟨.int .i64 3, .func (.func 115) #[] #[], 2⟩] 3) := by
  refine c_enter [] [] noB Try.func100 rfl Try.ntmps100 trivial rfl (by simp) (by simp) (by simp) ?_
  intro a hS
  refine c_seq ?_
  refine c_region ?_
  refine L_op (s_e hS (e_assign rfl) rfl ?_); clear hS a; intro a hS
  refine L_nil ?_
  refine n_then ?_
  refine c_seq ?_
  refine c_region ?_
  refine L_op (s_e hS (e_assign rfl) rfl ?_); clear hS a; intro a hS
  refine L_nil ?_
  refine n_then ?_
  refine c_seq ?_
  refine c_region ?_
  refine L_op (s_makeMap hS rfl ?_); clear hS a; (try clear w); intro a w b2 hS
  refine L_op (s_insert hS rfl rfl rfl ty_mp143 ty_u3 rfl (by repeat constructor) (by rfl) ?_); clear hS; (try clear w); intro w hS
  refine L_op (s_e hS (e_move rfl) rfl ?_); clear hS a; intro a hS
  refine L_op (s_insert hS rfl rfl rfl ty_mp143 ty_u3 rfl (by repeat constructor) (by rfl) ?_); clear hS; (try clear w); intro w hS
  refine L_op (s_e hS (e_move rfl) rfl ?_); clear hS a; intro a hS
  refine L_op (s_insert hS rfl rfl rfl ty_mp143 ty_u3 rfl (by repeat constructor) (by rfl) ?_); clear hS; (try clear w); intro w hS
  refine L_op (s_e hS (e_move rfl) rfl ?_); clear hS a; intro a hS
  refine L_op (s_e hS (e_assign rfl) rfl ?_); clear hS a; intro a hS
  refine L_nil ?_
  refine n_then ?_
  refine wp_ret ?_
  refine c_ret1 hS Try.results100 (.tmp rfl) ?_
  exact ⟨b2, rfl, hS.chg, hS.new (.head _) rfl⟩
set_option maxRecDepth 100000 in
theorem acts1_P (u v : Value) (w0 : World) : PureC Try.prog 115 [u, v] w0 (.int .i64 25) := by
  refine c_enter [(0, u), (1, v)] [] noB Try.func115 rfl Try.ntmps115 ⟨rfl, rfl, trivial⟩ rfl (by simp) (by simp) (by simp) ?_
  intro a hS
  refine c_seq ?_
  refine c_region ?_
  refine L_op (s_e hS (e_assign rfl) rfl ?_); clear hS a; intro a hS
  refine L_nil ?_
  refine n_then ?_
  refine c_seq ?_
  refine c_region ?_
  refine L_op (s_e hS (e_assign rfl) rfl ?_); clear hS a; intro a hS
  refine L_nil ?_
  refine n_then ?_
  refine wp_ret ?_
  refine c_ret1 hS Try.results115 (.tmp rfl) ?_
  exact ⟨rfl, hS.chg⟩
set_option maxRecDepth 100000 in
theorem acts2_P (u : Value) (f : FuncId) (caps : List Value) (w0 : World) (R : Ending → World → Prop) (hf : CallsTo Try.prog f) (hc : Calls Try.prog f ([u] ++ caps).toArray w0 R) (hR : ∀ e w', R e w' → ∃ v, e = .returned v ∧ Chg anyB w0 w') :
    Calls Try.prog 116 [u, .func (.func f) #[] caps.toArray].toArray w0 R := by
  refine c_enter [(0, u), (1, .func (.func f) #[] caps.toArray)] [] noB Try.func116 rfl Try.ntmps116 ⟨rfl, rfl, trivial⟩ rfl (by simp) (by simp) (by simp) ?_
  intro a hS
  refine c_seq ?_
  refine c_region ?_
  refine L_op (s_e hS (e_assign rfl) rfl ?_); clear hS a; intro a hS
  refine L_nil ?_
  refine n_then ?_
  refine c_seq ?_
  refine c_region ?_
  refine L_op (s_e hS (e_move rfl) rfl ?_); clear hS a; intro a hS
  refine L_op (s_e hS (e_move rfl) rfl ?_); clear hS a; intro a hS
  refine L_op (s_callvR hS rfl (.cons rfl .nil) hf rfl hc hR ?_); clear hS a; intro v7 a w hr hS
  refine L_op (s_e hS (e_assign rfl) rfl ?_); clear hS a; intro a hS
  refine L_nil ?_
  refine n_then ?_
  refine wp_ret ?_
  refine c_ret1 hS Try.results116 (.tmp rfl) ?_
  exact hr
set_option maxRecDepth 100000 in
/-- something is done to the open invoice of that number. -/
theorem does_open (bk : Nat) (sv : Value) (its : List IA) (k : Nat) (x : IA) (hx : its[k]? = some x) (hst : x.v.state = 1) (hn : its.length ≤ 1000000) (f : FuncId) (caps : List Value) (w0 : World) (h : bookφ bk sv its w0) (hf : CallsTo Try.prog f) (R : World → Ending → World → Prop)
    (hR : ∀ w1 e w', R w1 e w' → ∃ v, e = .returned v ∧ Chg anyB w1 w') (p : Addr) (hp : rowPtr sv k = some p) (hc : ∀ w1, Chg noB w0 w1 → Calls Try.prog f ([Value.pointer (some p)] ++ caps).toArray w1 (R w1)) :
    Calls Try.prog 65 [.pointer (some ⟨bk, 0, none⟩), .int .i64 ((k : Int) + 1), .func (.func f) #[] caps.toArray].toArray w0 (fun e w' => ∃ w1, Chg noB w0 w1 ∧ R w1 e w') := by
  have hlt := (List.getElem?_eq_some_iff.1 hx).1
  have hof := fun w h => of_P bk sv its ((k : Int) + 1) hn w h
  rw [ofR, if_neg (by omega), show ((k : Int) + 1 - 1).toNat = k by omega, hp] at hof
  obtain ⟨g, c, rfl⟩ := own_some h.2.1 (fun e => by
    rcases h.2.1.2 with ⟨_, e2⟩ | ⟨g, cap, cur, e3, _⟩
    · omega
    · rw [e] at e3; cases e3)
  simp only [rowPtr, Option.some.injEq] at hp
  subst hp
  refine c_enter [(0, .pointer (some ⟨bk, 0, none⟩)), (1, .int .i64 ((k : Int) + 1)), (2, .func (.func f) #[] caps.toArray)] [bookA bk (.slice (some ⟨g, 0, none⟩) its.length c) its false] noB Try.func65 rfl Try.ntmps65 ⟨rfl, rfl, rfl, trivial⟩ rfl (by intro X hX; obtain rfl := List.mem_singleton.1 hX; exact book_ok false h) (by simp) (by intro X hX hm; obtain rfl := List.mem_singleton.1 hX; cases hm) ?_
  intro a hS
  refine c_seq ?_
  refine c_region ?_
  refine L_op (s_e hS (e_assign rfl) rfl ?_); clear hS a; intro a hS
  refine L_nil ?_
  refine n_then ?_
  refine c_seq ?_
  refine c_region ?_
  refine L_op (s_e hS (e_move rfl) rfl ?_); clear hS a; intro a hS
  refine L_op (s_e hS (e_move rfl) rfl ?_); clear hS a; intro a hS
  refine L_op (s_callP hS (.cons rfl (.cons rfl .nil)) cf59 rfl (hof _ (hS.get (X := bookA bk (.slice (some ⟨g, 0, none⟩) its.length c) its false) (by repeat (first | exact .head _ | refine .tail _ ?_)))) ?_); clear hS a; (try clear w); intro a w hS
  refine L_op (s_e hS (e_assign rfl) rfl ?_); clear hS a; intro a hS
  refine L_nil ?_
  refine n_then ?_
  refine c_seq ?_
  refine c_seq ?_
  refine c_region ?_
  refine L_op (s_e hS (e_move rfl) rfl ?_); clear hS a; intro a hS
  refine L_op (s_e hS (e_nil rfl ty_u98) rfl ?_); clear hS a; intro a hS
  refine L_nil ?_
  refine n_then ?_
  replace hS := hS.is (t := 12) (c := false) rfl (rfl)
  refine c_if_f hS rfl ?_
  refine wp_skip ?_
  refine n_then ?_
  refine c_seq ?_
  refine c_draw1 [8] (by kernel_rfl) hS ?_; clear hS; (try clear w); intro w hS
  simp only [List.length_cons, List.length_nil, Nat.zero_add, Nat.reduceAdd, List.replicate]
  refine Z_take0 (i := 1) hS rfl want_none (e_move rfl) (listed' := [false, true, false, false, false, false, false, false, false, false]) rfl (by kernel_rfl) (by kernel_rfl) (by kernel_rfl) (fun _ _ _ h => h) rfl ?_; clear hS a; intro a hS
  refine Z_take0 (i := 2) hS rfl want_none (e_nilCheck rfl) (listed' := [false, true, true, false, false, false, false, false, false, false]) rfl (by kernel_rfl) (by kernel_rfl) (by kernel_rfl) (fun _ _ _ h => h) rfl ?_; clear hS a; intro a hS
  first | (refine Z_take0 (i := 3) hS rfl want_none (e_fa0 rfl ty_fo34_12) (listed' := [false, true, true, true, false, false, false, false, false, false]) rfl (by kernel_rfl) (by kernel_rfl) (by kernel_rfl) (fun _ _ _ h => h) rfl ?_; clear hS a; intro a hS) | (refine Z_take0 (i := 3) hS rfl want_none (e_faK rfl ty_fo34_12) (listed' := [false, true, true, true, false, false, false, false, false, false]) rfl (by kernel_rfl) (by kernel_rfl) (by kernel_rfl) (fun _ _ _ h => h) rfl ?_; clear hS a; intro a hS)
  refine Z_take (i := 4) hS rfl want_none (e_loadC rfl ty_sc3 (fun w hh => rd_row (by repeat (first | exact .head _ | refine .tail _ ?_)) hx w hh 12 (.int .i64 x.v.state) rfl)) (listed' := [false, true, true, true, true, false, false, false, false, false]) rfl (by kernel_rfl) (by kernel_rfl) (by kernel_rfl) (by kernel_rfl) (by kernel_rfl) (by intro X hX; repeat (first | exact hX | apply List.Mem.tail)) (fun _ _ _ h => h) rfl ?_; clear hS a; intro a hS
  refine Z_take0 (i := 6) hS rfl want_none (e_move rfl) (listed' := [false, true, true, true, true, false, true, false, false, false]) rfl (by kernel_rfl) (by kernel_rfl) (by kernel_rfl) (fun _ _ _ h => h) rfl ?_; clear hS a; intro a hS
  refine Z_take0 (i := 7) hS rfl want_none (e_move rfl) (listed' := [false, true, true, true, true, false, true, true, false, false]) rfl (by kernel_rfl) (by kernel_rfl) (by kernel_rfl) (fun _ _ _ h => h) rfl ?_; clear hS a; intro a hS
  refine Z_one (i := 0) rfl (want_none a hS.sl) (listed' := [true, true, true, true, true, false, true, true, false, false]) rfl (by kernel_rfl) (s_callN hS .nil cf100 rfl (acts_P _) ?_); clear hS a; (try clear w); intro x13 a w hS
  refine Z_and hS (by intro X hX; repeat (first | exact hX | apply List.Mem.tail)) ?_
  rw [hst] at hS
  refine Z_one (i := 5) rfl (want_none a hS.sl) (listed' := [true, true, true, true, true, true, true, true, false, false]) rfl (by kernel_rfl) (s_e hS (e_lookup rfl rfl ty_mp143 ty_u3 rfl (by repeat (first | exact .head _ | refine .tail _ ?_)) (by rfl)) rfl ?_); clear hS a; intro a hS
  refine Z_and hS (by intro X hX; repeat (first | exact hX | apply List.Mem.tail)) ?_
  refine Z_one (i := 8) rfl (want_none a hS.sl) (listed' := [true, true, true, true, true, true, true, true, true, false]) rfl (by kernel_rfl) (s_callvR (cs := []) hS rfl (.cons rfl (.cons rfl .nil)) cf116 rfl (acts2_P _ f caps _ _ hf (hc _ hS.chg) (hR _)) (hR _) ?_); have h1 := hS.chg; clear hS a; intro v21 a w2 hr hS
  refine Z_last (by simp) ?_
  refine Z_take0 (i := 9) hS rfl want_none (e_assign rfl) (listed' := [true, true, true, true, true, true, true, true, true, true]) rfl (by kernel_rfl) (by kernel_rfl) (by kernel_rfl) (fun _ _ _ h => h) rfl ?_; clear hS a; intro a hS
  refine Z_done (by kernel_rfl) ?_
  refine n_then ?_
  refine wp_ret ?_
  refine c_ret1 hS Try.results65 (.tmp rfl) ?_
  exact ⟨w, h1, hr⟩

set_option maxRecDepth 100000 in
theorem does_none (bk : Nat) (sv : Value) (its : List IA) (number : Int) (hn : its.length ≤ 1000000) (u : Value) (w0 : World) (h : bookφ bk sv its w0) (hno : number < 1 ∨ (its.length : Int) < number) :
    PureC Try.prog 65 [.pointer (some ⟨bk, 0, none⟩), .int .i64 number, u] w0 (.int .i64 2) := by
  have hof := fun w h => of_P bk sv its number hn w h
  rw [ofR, if_pos hno] at hof
  refine c_enter [(0, .pointer (some ⟨bk, 0, none⟩)), (1, .int .i64 number), (2, u)] [bookA bk sv its false] noB Try.func65 rfl Try.ntmps65 ⟨rfl, rfl, rfl, trivial⟩ rfl (by intro X hX; obtain rfl := List.mem_singleton.1 hX; exact book_ok false h) (by simp) (by intro X hX hm; obtain rfl := List.mem_singleton.1 hX; cases hm) ?_
  intro a hS
  refine c_seq ?_
  refine c_region ?_
  refine L_op (s_e hS (e_assign rfl) rfl ?_); clear hS a; intro a hS
  refine L_nil ?_
  refine n_then ?_
  refine c_seq ?_
  refine c_region ?_
  refine L_op (s_e hS (e_move rfl) rfl ?_); clear hS a; intro a hS
  refine L_op (s_e hS (e_move rfl) rfl ?_); clear hS a; intro a hS
  refine L_op (s_callP hS (.cons rfl (.cons rfl .nil)) cf59 rfl (hof _ (hS.get (X := bookA bk sv its false) (by repeat (first | exact .head _ | refine .tail _ ?_)))) ?_); clear hS a; (try clear w); intro a w hS
  refine L_op (s_e hS (e_assign rfl) rfl ?_); clear hS a; intro a hS
  refine L_nil ?_
  refine n_then ?_
  refine c_seq ?_
  refine c_seq ?_
  refine c_region ?_
  refine L_op (s_e hS (e_move rfl) rfl ?_); clear hS a; intro a hS
  refine L_op (s_e hS (e_nil rfl ty_u98) rfl ?_); clear hS a; intro a hS
  refine L_nil ?_
  refine n_then ?_
  replace hS := hS.is (t := 12) (c := true) rfl (rfl)
  refine c_if_t hS rfl ?_
  refine c_seq ?_
  refine c_region ?_
  refine L_op (s_e hS (e_assign rfl) rfl ?_); clear hS a; intro a hS
  refine L_nil ?_
  refine n_then ?_
  refine wp_ret ?_
  refine r_then ?_
  refine c_ret1 hS Try.results65 (.tmp rfl) ?_
  exact ⟨rfl, hS.chg⟩
set_option maxRecDepth 100000 in
theorem does_shut (bk : Nat) (sv : Value) (its : List IA) (k : Nat) (x : IA) (hx : its[k]? = some x) (hst : x.v.state = 2 ∨ x.v.state = 3) (hn : its.length ≤ 1000000) (u : Value) (w0 : World) (h : bookφ bk sv its w0) :
    PureC Try.prog 65 [.pointer (some ⟨bk, 0, none⟩), .int .i64 ((k : Int) + 1), u] w0 (.int .i64 25) := by
  have hlt := (List.getElem?_eq_some_iff.1 hx).1
  obtain ⟨g, c, rfl⟩ := own_some h.2.1 (fun e => by
    rcases h.2.1.2 with ⟨_, e2⟩ | ⟨g, cap, cur, e3, _⟩
    · omega
    · rw [e] at e3; cases e3)
  have hof := fun w h => of_P bk (.slice (some ⟨g, 0, none⟩) its.length c) its ((k : Int) + 1) hn w h
  rw [ofR, if_neg (by omega), show ((k : Int) + 1 - 1).toNat = k by omega] at hof
  simp only [rowPtr] at hof
  rcases hst with hst | hst
  ·
    refine c_enter [(0, .pointer (some ⟨bk, 0, none⟩)), (1, .int .i64 ((k : Int) + 1)), (2, u)] [bookA bk (.slice (some ⟨g, 0, none⟩) its.length c) its false] noB Try.func65 rfl Try.ntmps65 ⟨rfl, rfl, rfl, trivial⟩ rfl (by intro X hX; obtain rfl := List.mem_singleton.1 hX; exact book_ok false h) (by simp) (by intro X hX hm; obtain rfl := List.mem_singleton.1 hX; cases hm) ?_
    intro a hS
    refine c_seq ?_
    refine c_region ?_
    refine L_op (s_e hS (e_assign rfl) rfl ?_); clear hS a; intro a hS
    refine L_nil ?_
    refine n_then ?_
    refine c_seq ?_
    refine c_region ?_
    refine L_op (s_e hS (e_move rfl) rfl ?_); clear hS a; intro a hS
    refine L_op (s_e hS (e_move rfl) rfl ?_); clear hS a; intro a hS
    refine L_op (s_callP hS (.cons rfl (.cons rfl .nil)) cf59 rfl (hof _ (hS.get (X := bookA bk (.slice (some ⟨g, 0, none⟩) its.length c) its false) (by repeat (first | exact .head _ | refine .tail _ ?_)))) ?_); clear hS a; (try clear w); intro a w hS
    refine L_op (s_e hS (e_assign rfl) rfl ?_); clear hS a; intro a hS
    refine L_nil ?_
    refine n_then ?_
    refine c_seq ?_
    refine c_seq ?_
    refine c_region ?_
    refine L_op (s_e hS (e_move rfl) rfl ?_); clear hS a; intro a hS
    refine L_op (s_e hS (e_nil rfl ty_u98) rfl ?_); clear hS a; intro a hS
    refine L_nil ?_
    refine n_then ?_
    replace hS := hS.is (t := 12) (c := false) rfl (rfl)
    refine c_if_f hS rfl ?_
    refine wp_skip ?_
    refine n_then ?_
    refine c_seq ?_
    refine c_draw1 [] (by kernel_rfl) hS ?_; clear hS; (try clear w); intro w hS
    simp only [List.length_cons, List.length_nil, Nat.zero_add, Nat.reduceAdd, List.replicate]
    refine Z_take0 (i := 1) hS rfl want_none (e_move rfl) (listed' := [false, true, false, false, false, false, false, false, false, false]) rfl (by kernel_rfl) (by kernel_rfl) (by kernel_rfl) (fun _ _ _ h => h) rfl ?_; clear hS a; intro a hS
    refine Z_take0 (i := 2) hS rfl want_none (e_nilCheck rfl) (listed' := [false, true, true, false, false, false, false, false, false, false]) rfl (by kernel_rfl) (by kernel_rfl) (by kernel_rfl) (fun _ _ _ h => h) rfl ?_; clear hS a; intro a hS
    first | (refine Z_take0 (i := 3) hS rfl want_none (e_fa0 rfl ty_fo34_12) (listed' := [false, true, true, true, false, false, false, false, false, false]) rfl (by kernel_rfl) (by kernel_rfl) (by kernel_rfl) (fun _ _ _ h => h) rfl ?_; clear hS a; intro a hS) | (refine Z_take0 (i := 3) hS rfl want_none (e_faK rfl ty_fo34_12) (listed' := [false, true, true, true, false, false, false, false, false, false]) rfl (by kernel_rfl) (by kernel_rfl) (by kernel_rfl) (fun _ _ _ h => h) rfl ?_; clear hS a; intro a hS)
    refine Z_take (i := 4) hS rfl want_none (e_loadC rfl ty_sc3 (fun w hh => rd_row (by repeat (first | exact .head _ | refine .tail _ ?_)) hx w hh 12 (.int .i64 x.v.state) rfl)) (listed' := [false, true, true, true, true, false, false, false, false, false]) rfl (by kernel_rfl) (by kernel_rfl) (by kernel_rfl) (by kernel_rfl) (by kernel_rfl) (by intro X hX; repeat (first | exact hX | apply List.Mem.tail)) (fun _ _ _ h => h) rfl ?_; clear hS a; intro a hS
    refine Z_take0 (i := 6) hS rfl want_none (e_move rfl) (listed' := [false, true, true, true, true, false, true, false, false, false]) rfl (by kernel_rfl) (by kernel_rfl) (by kernel_rfl) (fun _ _ _ h => h) rfl ?_; clear hS a; intro a hS
    refine Z_take0 (i := 7) hS rfl want_none (e_move rfl) (listed' := [false, true, true, true, true, false, true, true, false, false]) rfl (by kernel_rfl) (by kernel_rfl) (by kernel_rfl) (fun _ _ _ h => h) rfl ?_; clear hS a; intro a hS
    refine Z_one (i := 0) rfl (want_none a hS.sl) (listed' := [true, true, true, true, true, false, true, true, false, false]) rfl (by kernel_rfl) (s_callN hS .nil cf100 rfl (acts_P _) ?_); clear hS a; (try clear w); intro x13 a w hS
    refine Z_and hS (by intro X hX; repeat (first | exact hX | apply List.Mem.tail)) ?_
    rw [hst] at hS
    refine Z_one (i := 5) rfl (want_none a hS.sl) (listed' := [true, true, true, true, true, true, true, true, false, false]) rfl (by kernel_rfl) (s_e hS (e_lookup rfl rfl ty_mp143 ty_u3 rfl (by repeat (first | exact .head _ | refine .tail _ ?_)) (by rfl)) rfl ?_); clear hS a; intro a hS
    refine Z_and hS (by intro X hX; repeat (first | exact hX | apply List.Mem.tail)) ?_
    refine Z_one (i := 8) rfl (want_none a hS.sl) (listed' := [true, true, true, true, true, true, true, true, true, false]) rfl (by kernel_rfl) (s_callvP (cs := []) hS rfl (.cons rfl (.cons rfl .nil)) cf115 rfl (acts1_P _ _ _) ?_); clear hS a; (try clear w); intro a w hS
    refine Z_and hS (by intro X hX; repeat (first | exact hX | apply List.Mem.tail)) ?_
    refine Z_take0 (i := 9) hS rfl want_none (e_assign rfl) (listed' := [true, true, true, true, true, true, true, true, true, true]) rfl (by kernel_rfl) (by kernel_rfl) (by kernel_rfl) (fun _ _ _ h => h) rfl ?_; clear hS a; intro a hS
    refine Z_done (by kernel_rfl) ?_
    refine n_then ?_
    refine wp_ret ?_
    refine c_ret1 hS Try.results65 (.tmp rfl) ?_
    exact ⟨rfl, hS.chg⟩
  ·
    refine c_enter [(0, .pointer (some ⟨bk, 0, none⟩)), (1, .int .i64 ((k : Int) + 1)), (2, u)] [bookA bk (.slice (some ⟨g, 0, none⟩) its.length c) its false] noB Try.func65 rfl Try.ntmps65 ⟨rfl, rfl, rfl, trivial⟩ rfl (by intro X hX; obtain rfl := List.mem_singleton.1 hX; exact book_ok false h) (by simp) (by intro X hX hm; obtain rfl := List.mem_singleton.1 hX; cases hm) ?_
    intro a hS
    refine c_seq ?_
    refine c_region ?_
    refine L_op (s_e hS (e_assign rfl) rfl ?_); clear hS a; intro a hS
    refine L_nil ?_
    refine n_then ?_
    refine c_seq ?_
    refine c_region ?_
    refine L_op (s_e hS (e_move rfl) rfl ?_); clear hS a; intro a hS
    refine L_op (s_e hS (e_move rfl) rfl ?_); clear hS a; intro a hS
    refine L_op (s_callP hS (.cons rfl (.cons rfl .nil)) cf59 rfl (hof _ (hS.get (X := bookA bk (.slice (some ⟨g, 0, none⟩) its.length c) its false) (by repeat (first | exact .head _ | refine .tail _ ?_)))) ?_); clear hS a; (try clear w); intro a w hS
    refine L_op (s_e hS (e_assign rfl) rfl ?_); clear hS a; intro a hS
    refine L_nil ?_
    refine n_then ?_
    refine c_seq ?_
    refine c_seq ?_
    refine c_region ?_
    refine L_op (s_e hS (e_move rfl) rfl ?_); clear hS a; intro a hS
    refine L_op (s_e hS (e_nil rfl ty_u98) rfl ?_); clear hS a; intro a hS
    refine L_nil ?_
    refine n_then ?_
    replace hS := hS.is (t := 12) (c := false) rfl (rfl)
    refine c_if_f hS rfl ?_
    refine wp_skip ?_
    refine n_then ?_
    refine c_seq ?_
    refine c_draw1 [] (by kernel_rfl) hS ?_; clear hS; (try clear w); intro w hS
    simp only [List.length_cons, List.length_nil, Nat.zero_add, Nat.reduceAdd, List.replicate]
    refine Z_take0 (i := 1) hS rfl want_none (e_move rfl) (listed' := [false, true, false, false, false, false, false, false, false, false]) rfl (by kernel_rfl) (by kernel_rfl) (by kernel_rfl) (fun _ _ _ h => h) rfl ?_; clear hS a; intro a hS
    refine Z_take0 (i := 2) hS rfl want_none (e_nilCheck rfl) (listed' := [false, true, true, false, false, false, false, false, false, false]) rfl (by kernel_rfl) (by kernel_rfl) (by kernel_rfl) (fun _ _ _ h => h) rfl ?_; clear hS a; intro a hS
    first | (refine Z_take0 (i := 3) hS rfl want_none (e_fa0 rfl ty_fo34_12) (listed' := [false, true, true, true, false, false, false, false, false, false]) rfl (by kernel_rfl) (by kernel_rfl) (by kernel_rfl) (fun _ _ _ h => h) rfl ?_; clear hS a; intro a hS) | (refine Z_take0 (i := 3) hS rfl want_none (e_faK rfl ty_fo34_12) (listed' := [false, true, true, true, false, false, false, false, false, false]) rfl (by kernel_rfl) (by kernel_rfl) (by kernel_rfl) (fun _ _ _ h => h) rfl ?_; clear hS a; intro a hS)
    refine Z_take (i := 4) hS rfl want_none (e_loadC rfl ty_sc3 (fun w hh => rd_row (by repeat (first | exact .head _ | refine .tail _ ?_)) hx w hh 12 (.int .i64 x.v.state) rfl)) (listed' := [false, true, true, true, true, false, false, false, false, false]) rfl (by kernel_rfl) (by kernel_rfl) (by kernel_rfl) (by kernel_rfl) (by kernel_rfl) (by intro X hX; repeat (first | exact hX | apply List.Mem.tail)) (fun _ _ _ h => h) rfl ?_; clear hS a; intro a hS
    refine Z_take0 (i := 6) hS rfl want_none (e_move rfl) (listed' := [false, true, true, true, true, false, true, false, false, false]) rfl (by kernel_rfl) (by kernel_rfl) (by kernel_rfl) (fun _ _ _ h => h) rfl ?_; clear hS a; intro a hS
    refine Z_take0 (i := 7) hS rfl want_none (e_move rfl) (listed' := [false, true, true, true, true, false, true, true, false, false]) rfl (by kernel_rfl) (by kernel_rfl) (by kernel_rfl) (fun _ _ _ h => h) rfl ?_; clear hS a; intro a hS
    refine Z_one (i := 0) rfl (want_none a hS.sl) (listed' := [true, true, true, true, true, false, true, true, false, false]) rfl (by kernel_rfl) (s_callN hS .nil cf100 rfl (acts_P _) ?_); clear hS a; (try clear w); intro x13 a w hS
    refine Z_and hS (by intro X hX; repeat (first | exact hX | apply List.Mem.tail)) ?_
    rw [hst] at hS
    refine Z_one (i := 5) rfl (want_none a hS.sl) (listed' := [true, true, true, true, true, true, true, true, false, false]) rfl (by kernel_rfl) (s_e hS (e_lookup rfl rfl ty_mp143 ty_u3 rfl (by repeat (first | exact .head _ | refine .tail _ ?_)) (by rfl)) rfl ?_); clear hS a; intro a hS
    refine Z_and hS (by intro X hX; repeat (first | exact hX | apply List.Mem.tail)) ?_
    refine Z_one (i := 8) rfl (want_none a hS.sl) (listed' := [true, true, true, true, true, true, true, true, true, false]) rfl (by kernel_rfl) (s_callvP (cs := []) hS rfl (.cons rfl (.cons rfl .nil)) cf115 rfl (acts1_P _ _ _) ?_); clear hS a; (try clear w); intro a w hS
    refine Z_and hS (by intro X hX; repeat (first | exact hX | apply List.Mem.tail)) ?_
    refine Z_take0 (i := 9) hS rfl want_none (e_assign rfl) (listed' := [true, true, true, true, true, true, true, true, true, true]) rfl (by kernel_rfl) (by kernel_rfl) (by kernel_rfl) (fun _ _ _ h => h) rfl ?_; clear hS a; intro a hS
    refine Z_done (by kernel_rfl) ?_
    refine n_then ?_
    refine wp_ret ?_
    refine c_ret1 hS Try.results65 (.tmp rfl) ?_
    exact ⟨rfl, hS.chg⟩

/-! ### paying and crediting -/
def leftI (v : Inv) : Int := v.total - v.paid - v.credited
structure goodI (v : Inv) : Prop where
  paid : 0 ≤ v.paid
  cred : 0 ≤ v.credited
  sum : v.paid + v.credited ≤ v.total
  tot : v.total ≤ 4611686018427387904
  lines : v.lines.length ≤ 50
  state : v.state = 1 ∨ v.state = 2 ∨ v.state = 3
set_option maxRecDepth 100000 in
theorem left_P (v : Inv) (hv : goodI v) (sl : Value) (w0 : World) : PureC Try.prog 99 [.agg (encI v sl).toArray] w0 (.int .i64 (leftI v)) := by
  obtain ⟨h1, h2, h3, h4, _, _⟩ := hv
  refine c_enter [(0, .agg (encI v sl).toArray)] [] noB Try.func99 rfl Try.ntmps99 ⟨rfl, trivial⟩ rfl (by simp) (by simp) (by simp) ?_
  intro a hS
  refine c_seq ?_
  refine c_region ?_
  refine L_op (s_boxA hS rfl rfl ?_); clear hS a; (try clear w); intro a w b1 hS
  refine L_op (s_e hS (e_assign rfl) rfl ?_); clear hS a; intro a hS
  refine L_nil ?_
  refine n_then ?_
  refine c_seq ?_
  refine c_region ?_
  first | (refine L_op (s_e hS (e_fa0 rfl ty_fo34_9) rfl ?_); clear hS a; intro a hS) | (refine L_op (s_e hS (e_faK rfl ty_fo34_9) rfl ?_); clear hS a; intro a hS)
  refine L_op (s_e hS (e_load rfl (by repeat constructor) ty_sc3 (by rfl)) rfl ?_); clear hS a; intro a hS
  first | (refine L_op (s_e hS (e_fa0 rfl ty_fo34_10) rfl ?_); clear hS a; intro a hS) | (refine L_op (s_e hS (e_faK rfl ty_fo34_10) rfl ?_); clear hS a; intro a hS)
  refine L_op (s_e hS (e_load rfl (by repeat constructor) ty_sc3 (by rfl)) rfl ?_); clear hS a; intro a hS
  first | (refine L_op (s_e hS (e_binN rfl rfl rfl (by omega)) rfl ?_); clear hS a; intro a hS) | (refine L_op (s_e hS (e_bin rfl rfl rfl) rfl ?_); clear hS a; intro a hS)
  first | (refine L_op (s_e hS (e_fa0 rfl ty_fo34_11) rfl ?_); clear hS a; intro a hS) | (refine L_op (s_e hS (e_faK rfl ty_fo34_11) rfl ?_); clear hS a; intro a hS)
  refine L_op (s_e hS (e_load rfl (by repeat constructor) ty_sc3 (by rfl)) rfl ?_); clear hS a; intro a hS
  first | (refine L_op (s_e hS (e_binN rfl rfl rfl (by omega)) rfl ?_); clear hS a; intro a hS) | (refine L_op (s_e hS (e_bin rfl rfl rfl) rfl ?_); clear hS a; intro a hS)
  refine L_op (s_e hS (e_assign rfl) rfl ?_); clear hS a; intro a hS
  refine L_nil ?_
  refine n_then ?_
  refine wp_ret ?_
  refine c_ret1 hS Try.results99 (.tmp rfl) ?_
  exact ⟨rfl, hS.chg⟩
set_option maxRecDepth 100000 in
theorem Pay1_P (g j : Nat) (w0 : World) : PureC Try.prog 61 [.pointer (some ⟨g, j, none⟩)] w0 (.pointer (some ⟨g, j + 10, none⟩)) := by
  refine c_enter [(0, .pointer (some ⟨g, j, none⟩))] [] noB Try.func61 rfl Try.ntmps61 ⟨rfl, trivial⟩ rfl (by simp) (by simp) (by simp) ?_
  intro a hS
  refine c_seq ?_
  refine c_region ?_
  refine L_op (s_e hS (e_assign rfl) rfl ?_); clear hS a; intro a hS
  refine L_nil ?_
  refine n_then ?_
  refine c_seq ?_
  refine c_region ?_
  refine L_op (s_e hS (e_move rfl) rfl ?_); clear hS a; intro a hS
  refine L_op (s_e hS (e_nilCheck rfl) rfl ?_); clear hS a; intro a hS
  refine L_op (s_e hS (e_faK rfl ty_fo34_10) rfl ?_); clear hS a; intro a hS
  refine L_op (s_e hS (e_assign rfl) rfl ?_); clear hS a; intro a hS
  refine L_nil ?_
  refine n_then ?_
  refine wp_ret ?_
  refine c_ret1 hS Try.results61 (.tmp rfl) ?_
  exact ⟨rfl, hS.chg⟩
set_option maxRecDepth 100000 in
theorem Credit1_P (g j : Nat) (w0 : World) : PureC Try.prog 62 [.pointer (some ⟨g, j, none⟩)] w0 (.pointer (some ⟨g, j + 11, none⟩)) := by
  refine c_enter [(0, .pointer (some ⟨g, j, none⟩))] [] noB Try.func62 rfl Try.ntmps62 ⟨rfl, trivial⟩ rfl (by simp) (by simp) (by simp) ?_
  intro a hS
  refine c_seq ?_
  refine c_region ?_
  refine L_op (s_e hS (e_assign rfl) rfl ?_); clear hS a; intro a hS
  refine L_nil ?_
  refine n_then ?_
  refine c_seq ?_
  refine c_region ?_
  refine L_op (s_e hS (e_move rfl) rfl ?_); clear hS a; intro a hS
  refine L_op (s_e hS (e_nilCheck rfl) rfl ?_); clear hS a; intro a hS
  refine L_op (s_e hS (e_faK rfl ty_fo34_11) rfl ?_); clear hS a; intro a hS
  refine L_op (s_e hS (e_assign rfl) rfl ?_); clear hS a; intro a hS
  refine L_nil ?_
  refine n_then ?_
  refine wp_ret ?_
  refine c_ret1 hS Try.results62 (.tmp rfl) ?_
  exact ⟨rfl, hS.chg⟩
theorem flat_set0 {α : Type} (enc : α → List Value) (s : Nat) (hl : ∀ x, (enc x).length = s) (xs : List α) (i : Nat) (x y : α) (j : Nat) (v : Value) (hx : xs[i]? = some x) (hj : j < s) (he : (enc x).set j v = enc y) : (xs.flatMap enc).set (0 + i * s + j) v = (xs.set i y).flatMap enc := by
  rw [Nat.zero_add]; exact flat_set enc s hl xs i x y j v hx hj he

theorem row_cells {g c n : Nat} {its : List IA} {w : World} (h : w.ownsRow 0 34 13 (.slice (some ⟨g, 0, none⟩) n c) n (its.flatMap encA)) {i : Nat} {x : IA} (hx : its[i]? = some x) : ∀ j v, (encA x)[j]? = some v → w.cell? ⟨g, 0 + i * 13 + j, none⟩ = some v := by
  intro j v hj
  have h1 := flat_get encA 13 (fun _ => rfl) its i x hx j v hj
  have h2 := World.ownsRow.cells h (g := g) rfl _ _ h1
  rw [addr_add] at h2
  rw [← h2]; congr 2; omega
/-- the row of invoices as one walk's own: reading it. -/
theorem own_row {Γ : List Asn} {g c n : Nat} {its : List IA} (hm : ownA 34 13 (.slice (some ⟨g, 0, none⟩) n c) n (its.flatMap encA) ∈ Γ) {i : Nat} {x : IA} (hx : its[i]? = some x) : ∀ w, Hd Γ w → ∀ j v, (encA x)[j]? = some v → w.cell? ⟨g, 0 + i * 13 + j, none⟩ = some v := by
  intro w hh j v hj
  have h : w.ownsRow 0 34 13 (.slice (some ⟨g, 0, none⟩) n c) n (its.flatMap encA) := hh _ hm
  have h1 := flat_get encA 13 (fun _ => rfl) its i x hx j v hj
  have h2 := World.ownsRow.cells h (g := g) rfl _ _ h1
  rw [addr_add] at h2
  rw [← h2]; congr 2; omega

set_option maxRecDepth 100000 in
theorem settles1_bad (g k c : Nat) (its : List IA) (x : IA) (hx : its[k]? = some x) (hg : goodI x.v) (bu bp bl : Nat) (units : Int) (Eu : Nat) (w0 : World) (h : rowOk (.slice (some ⟨g, 0, none⟩) its.length c) its w0) (hu : w0.heap[bu]? = some (.cells [Value.int .i64 units].toArray Eu (0, 0)))
    (d1 : bu ≠ g) (hbad : units < 1 ∨ leftI x.v < units) :
    PureC Try.prog 98 [.pointer (some ⟨g, 0 + k * 13, none⟩), .pointer (some ⟨bu, 0, none⟩), .pointer (some ⟨bp, 0, none⟩), .pointer (some ⟨bl, 0, none⟩)] w0 (.int .i64 6) := by
  refine c_enter [(0, .pointer (some ⟨g, 0 + k * 13, none⟩)), (1, .pointer (some ⟨bu, 0, none⟩)), (2, .pointer (some ⟨bp, 0, none⟩)), (3, .pointer (some ⟨bl, 0, none⟩))] [.any (fun b => b = g) (rowOk (.slice (some ⟨g, 0, none⟩) its.length c) its) false, capA bu (.int .i64 units) Eu] noB Try.func98 rfl Try.ntmps98 ⟨rfl, rfl, rfl, rfl, trivial⟩ rfl (by intro X hX; simp only [List.mem_cons, List.not_mem_nil, or_false] at hX; rcases hX with rfl | rfl; exact ⟨fun b hb => by obtain rfl : b = g := hb; exact (World.ownsRow.lt h b rfl).2, fun w' hw => owns_keep h (fun b hb => by simp [Value.ownBlock] at hb; subst hb; exact hw _ rfl)⟩; exact ok_cap hu) (by simp [capA, Asn.F]; omega) (by intro X hX hm; simp only [List.mem_cons, List.not_mem_nil, or_false] at hX; rcases hX with rfl | rfl <;> cases hm) ?_
  intro a hS
  refine c_seq ?_
  refine c_region ?_
  refine L_op (s_e hS (e_assign rfl) rfl ?_); clear hS a; intro a hS
  refine L_nil ?_
  refine n_then ?_
  refine c_seq ?_
  refine c_seq ?_
  refine c_draw1 [] (by kernel_rfl) hS ?_; clear hS; (try clear w); intro w hS
  simp only [List.length_cons, List.length_nil, Nat.zero_add, Nat.reduceAdd, List.replicate]
  refine Z_take (i := 0) hS rfl want_none (e_loadC rfl ty_sc3 (cap_get (by repeat (first | exact .head _ | refine .tail _ ?_)))) (listed' := [true, false, false, false, false, false, false, false, false, false]) rfl (by kernel_rfl) (by kernel_rfl) (by kernel_rfl) (by kernel_rfl) (by kernel_rfl) (by intro X hX; repeat (first | exact hX | apply List.Mem.tail)) (fun _ _ _ h => h) rfl ?_; clear hS a; intro a hS
  refine Z_take0 (i := 1) hS rfl want_none (e_bin rfl rfl rfl) (listed' := [true, true, false, false, false, false, false, false, false, false]) rfl (by kernel_rfl) (by kernel_rfl) (by kernel_rfl) (fun _ _ _ h => h) rfl ?_; clear hS a; intro a hS
  refine Z_take0 (i := 2) hS rfl want_none (e_move rfl) (listed' := [true, true, true, false, false, false, false, false, false, false]) rfl (by kernel_rfl) (by kernel_rfl) (by kernel_rfl) (fun _ _ _ h => h) rfl ?_; clear hS a; intro a hS
  (first | refine g_splitD (t := 8) hS rfl ?_ ?_ | refine g_split (t := 8) hS rfl ?_ ?_) <;> (clear hS; intro hg8 hS)
  ·
    refine Z_none_f (i := 3) hS rfl rfl rfl (listed' := [true, true, true, true, false, false, false, false, false, false]) rfl (by kernel_rfl) (by kernel_rfl) (by kernel_rfl) (fun _ _ _ h => h) rfl ?_; clear hS a; intro a hS
    refine Z_none_f (i := 4) hS rfl rfl rfl (listed' := [true, true, true, true, true, false, false, false, false, false]) rfl (by kernel_rfl) (by kernel_rfl) (by kernel_rfl) (fun _ _ _ h => h) rfl ?_; clear hS a; intro a hS
    refine Z_none_f (i := 5) hS rfl rfl rfl (listed' := [true, true, true, true, true, true, false, false, false, false]) rfl (by kernel_rfl) (by kernel_rfl) (by kernel_rfl) (fun _ _ _ h => h) rfl ?_; clear hS a; intro a hS
    refine Z_none_f (i := 6) hS rfl rfl rfl (listed' := [true, true, true, true, true, true, true, false, false, false]) rfl (by kernel_rfl) (by kernel_rfl) (by kernel_rfl) (fun _ _ _ h => h) rfl ?_; clear hS a; intro a hS
    refine Z_none_f (i := 7) hS rfl rfl rfl (listed' := [true, true, true, true, true, true, true, true, false, false]) rfl (by kernel_rfl) (by kernel_rfl) (by kernel_rfl) (fun _ _ _ h => h) rfl ?_; clear hS a; intro a hS
    refine Z_none_f (i := 8) hS rfl rfl rfl (listed' := [true, true, true, true, true, true, true, true, true, false]) rfl (by kernel_rfl) (by kernel_rfl) (by kernel_rfl) (fun _ _ _ h => h) rfl ?_; clear hS a; intro a hS
    first | (refine Z_take0 (i := 9) hS rfl want_none (e_pick_t rfl rfl) (listed' := [true, true, true, true, true, true, true, true, true, true]) rfl (by kernel_rfl) (by kernel_rfl) (by kernel_rfl) (fun _ _ _ h => h) rfl ?_; clear hS a; intro a hS) | (refine Z_take0 (i := 9) hS rfl want_none (e_pick_f rfl rfl) (listed' := [true, true, true, true, true, true, true, true, true, true]) rfl (by kernel_rfl) (by kernel_rfl) (by kernel_rfl) (fun _ _ _ h => h) rfl ?_; clear hS a; intro a hS)
    refine Z_done (by kernel_rfl) ?_
    refine n_then ?_
    refine c_if_t hS rfl ?_
    refine c_seq ?_
    refine c_region ?_
    refine L_op (s_e hS (e_assign rfl) rfl ?_); clear hS a; intro a hS
    refine L_nil ?_
    refine n_then ?_
    refine wp_ret ?_
    refine r_then ?_
    refine c_ret1 hS Try.results98 (.tmp rfl) ?_
    exact ⟨rfl, hS.chg⟩
  ·
    refine Z_take (i := 3) hS rfl (want_go rfl rfl) (e_loadC rfl ty_sc3 (cap_get (by repeat (first | exact .head _ | refine .tail _ ?_)))) (listed' := [true, true, true, true, false, false, false, false, false, false]) rfl (by kernel_rfl) (by kernel_rfl) (by kernel_rfl) (by kernel_rfl) (by kernel_rfl) (by intro X hX; repeat (first | exact hX | apply List.Mem.tail)) (fun _ _ _ h => h) rfl ?_; clear hS a; intro a hS
    refine Z_take0 (i := 4) hS rfl (want_go rfl rfl) (e_move rfl) (listed' := [true, true, true, true, true, false, false, false, false, false]) rfl (by kernel_rfl) (by kernel_rfl) (by kernel_rfl) (fun _ _ _ h => h) rfl ?_; clear hS a; intro a hS
    refine Z_take0 (i := 5) hS rfl (want_go rfl rfl) (e_nilCheck rfl) (listed' := [true, true, true, true, true, true, false, false, false, false]) rfl (by kernel_rfl) (by kernel_rfl) (by kernel_rfl) (fun _ _ _ h => h) rfl ?_; clear hS a; intro a hS
    refine Z_take (i := 6) hS rfl (want_go rfl rfl) (e_loadAC (l := encA x) rfl ty_st34 ty_sz34 (fun w hh => row_cells (hh (.any (fun b => b = g) (rowOk (.slice (some ⟨g, 0, none⟩) its.length c) its) false) (.head _)) hx)) (listed' := [true, true, true, true, true, true, true, false, false, false]) rfl (by kernel_rfl) (by kernel_rfl) (by kernel_rfl) (by kernel_rfl) (by kernel_rfl) (by intro X hX; repeat (first | exact hX | apply List.Mem.tail)) (fun _ _ _ h => h) rfl ?_; clear hS a; intro a hS
    refine Z_one (i := 7) rfl (want_go rfl rfl a hS.sl) (listed' := [true, true, true, true, true, true, true, true, false, false]) rfl (by kernel_rfl) (s_callP hS (.cons rfl .nil) cf99 rfl (left_P x.v hg _ _) ?_); clear hS a; (try clear w); intro a w hS
    refine Z_and hS (by intro X hX; repeat (first | exact hX | apply List.Mem.tail)) ?_
    refine Z_take0 (i := 8) hS rfl (want_go rfl rfl) (e_bin rfl rfl rfl) (listed' := [true, true, true, true, true, true, true, true, true, false]) rfl (by kernel_rfl) (by kernel_rfl) (by kernel_rfl) (fun _ _ _ h => h) rfl ?_; clear hS a; intro a hS
    first | (refine Z_take0 (i := 9) hS rfl want_none (e_pick_t rfl rfl) (listed' := [true, true, true, true, true, true, true, true, true, true]) rfl (by kernel_rfl) (by kernel_rfl) (by kernel_rfl) (fun _ _ _ h => h) rfl ?_; clear hS a; intro a hS) | (refine Z_take0 (i := 9) hS rfl want_none (e_pick_f rfl rfl) (listed' := [true, true, true, true, true, true, true, true, true, true]) rfl (by kernel_rfl) (by kernel_rfl) (by kernel_rfl) (fun _ _ _ h => h) rfl ?_; clear hS a; intro a hS)
    refine Z_done (by kernel_rfl) ?_
    refine n_then ?_
    replace hS := hS.is (t := 15) (c := true) rfl ((decide_eq_true (by omega)))
    refine c_if_t hS rfl ?_
    refine c_seq ?_
    refine c_region ?_
    refine L_op (s_e hS (e_assign rfl) rfl ?_); clear hS a; intro a hS
    refine L_nil ?_
    refine n_then ?_
    refine wp_ret ?_
    refine r_then ?_
    refine c_ret1 hS Try.results98 (.tmp rfl) ?_
    exact ⟨rfl, hS.chg⟩

/-- what a settling makes of an invoice: field jf grows; it is paid when nothing is left. -/
structure Settle (x y z : IA) (jf : Nat) (cur units : Int) : Prop where
  jlt : jf < 12
  get : (encA x)[jf]? = some (.int .i64 cur)
  set : (encA x).set jf (.int .i64 (cur + units)) = encA y
  good : goodI y.v
  bd : -9223372036854775808 ≤ cur + units ∧ cur + units ≤ 9223372036854775807
  fin : z = if leftI y.v = 0 then ⟨{ y.v with state := 2 }, y.b, y.c⟩ else y

set_option maxRecDepth 100000 in
theorem settles1_ok (g k c : Nat) (its : List IA) (x y z : IA) (hx : its[k]? = some x) (hg : goodI x.v) (bu bp bl jf : Nat) (cur units : Int) (l0 : Value) (Eu Ep El : Nat) (fp : FuncId) (hst : Settle x y z jf cur units) (w0 : World) (h : rowOk (.slice (some ⟨g, 0, none⟩) its.length c) its w0)
    (hu : w0.heap[bu]? = some (.cells [Value.int .i64 units].toArray Eu (0, 0))) (hp : w0.heap[bp]? = some (.cells [Value.func (.func fp) #[] #[]].toArray Ep (0, 0))) (hl : w0.heap[bl]? = some (.cells [l0].toArray El (0, 0)))
    (hd : bu ≠ g ∧ bp ≠ g ∧ bl ≠ g ∧ bu ≠ bp ∧ bu ≠ bl ∧ bp ≠ bl) (hok : 1 ≤ units ∧ units ≤ leftI x.v) (hf : CallsTo Try.prog fp) (hfp : ∀ w, PureC Try.prog fp [.pointer (some ⟨g, 0 + k * 13, none⟩)] w (.pointer (some ⟨g, 0 + k * 13 + jf, none⟩))) :
    Calls Try.prog 98 [.pointer (some ⟨g, 0 + k * 13, none⟩), .pointer (some ⟨bu, 0, none⟩), .pointer (some ⟨bp, 0, none⟩), .pointer (some ⟨bl, 0, none⟩)].toArray w0 (fun e w' => e = .returned (.int .i64 0) ∧ Chg (fun b => b = g ∨ b = bl) w0 w' ∧ rowOk (.slice (some ⟨g, 0, none⟩) its.length c) (its.set k z) w' ∧ w'.heap[bl]? = some (.cells [Value.int .i64 (leftI y.v)].toArray El (0, 0))) := by
  obtain ⟨d1, d2, d3, d4, d5, d6⟩ := hd
  have hlt := (List.getElem?_eq_some_iff.1 hx).1
  have hy : (its.set k y)[k]? = some y := by simp [hlt]
  refine c_enter [(0, .pointer (some ⟨g, 0 + k * 13, none⟩)), (1, .pointer (some ⟨bu, 0, none⟩)), (2, .pointer (some ⟨bp, 0, none⟩)), (3, .pointer (some ⟨bl, 0, none⟩))] [rowA13 (.slice (some ⟨g, 0, none⟩) its.length c) its, .blk bl [l0] El, capA bu (.int .i64 units) Eu, capA bp (.func (.func fp) #[] #[]) Ep] (fun b => b = g ∨ b = bl) Try.func98 rfl Try.ntmps98 ⟨rfl, rfl, rfl, rfl, trivial⟩ rfl (by intro X hX; simp only [List.mem_cons, List.not_mem_nil, or_false] at hX; rcases hX with rfl | rfl | rfl | rfl; exact ok_own h; exact ok_blk hl; exact ok_cap hu; exact ok_cap hp) (by simp [rowA13, ownA, capA, Asn.F, Value.ownBlock]; omega) (by intro X hX hm b hb; simp only [List.mem_cons, List.not_mem_nil, or_false] at hX; rcases hX with rfl | rfl | rfl | rfl; (simp [rowA13, ownA, Asn.F, Value.ownBlock] at hb; exact .inr (.inl hb.symm)); exact .inr (.inr hb); cases hm; cases hm) ?_
  intro a hS
  refine c_seq ?_
  refine c_region ?_
  refine L_op (s_e hS (e_assign rfl) rfl ?_); clear hS a; intro a hS
  refine L_nil ?_
  refine n_then ?_
  refine c_seq ?_
  refine c_seq ?_
  refine c_draw1 [] (by kernel_rfl) hS ?_; clear hS; (try clear w); intro w hS
  simp only [List.length_cons, List.length_nil, Nat.zero_add, Nat.reduceAdd, List.replicate]
  refine Z_take (i := 0) hS rfl want_none (e_loadC rfl ty_sc3 (cap_get (by repeat (first | exact .head _ | refine .tail _ ?_)))) (listed' := [true, false, false, false, false, false, false, false, false, false]) rfl (by kernel_rfl) (by kernel_rfl) (by kernel_rfl) (by kernel_rfl) (by kernel_rfl) (by intro X hX; repeat (first | exact hX | apply List.Mem.tail)) (fun _ _ _ h => h) rfl ?_; clear hS a; intro a hS
  refine Z_take0 (i := 1) hS rfl want_none (e_bin rfl rfl rfl) (listed' := [true, true, false, false, false, false, false, false, false, false]) rfl (by kernel_rfl) (by kernel_rfl) (by kernel_rfl) (fun _ _ _ h => h) rfl ?_; clear hS a; intro a hS
  refine Z_take0 (i := 2) hS rfl want_none (e_move rfl) (listed' := [true, true, true, false, false, false, false, false, false, false]) rfl (by kernel_rfl) (by kernel_rfl) (by kernel_rfl) (fun _ _ _ h => h) rfl ?_; clear hS a; intro a hS
  (first | refine g_splitD (t := 8) hS rfl ?_ ?_ | refine g_split (t := 8) hS rfl ?_ ?_) <;> (clear hS; intro hg8 hS)
  ·
    exfalso; omega
  ·
    refine Z_take (i := 3) hS rfl (want_go rfl rfl) (e_loadC rfl ty_sc3 (cap_get (by repeat (first | exact .head _ | refine .tail _ ?_)))) (listed' := [true, true, true, true, false, false, false, false, false, false]) rfl (by kernel_rfl) (by kernel_rfl) (by kernel_rfl) (by kernel_rfl) (by kernel_rfl) (by intro X hX; repeat (first | exact hX | apply List.Mem.tail)) (fun _ _ _ h => h) rfl ?_; clear hS a; intro a hS
    refine Z_take0 (i := 4) hS rfl (want_go rfl rfl) (e_move rfl) (listed' := [true, true, true, true, true, false, false, false, false, false]) rfl (by kernel_rfl) (by kernel_rfl) (by kernel_rfl) (fun _ _ _ h => h) rfl ?_; clear hS a; intro a hS
    refine Z_take0 (i := 5) hS rfl (want_go rfl rfl) (e_nilCheck rfl) (listed' := [true, true, true, true, true, true, false, false, false, false]) rfl (by kernel_rfl) (by kernel_rfl) (by kernel_rfl) (fun _ _ _ h => h) rfl ?_; clear hS a; intro a hS
    refine Z_take (i := 6) hS rfl (want_go rfl rfl) (e_loadAC (l := encA x) rfl ty_st34 ty_sz34 (own_row (by repeat (first | exact .head _ | refine .tail _ ?_)) hx)) (listed' := [true, true, true, true, true, true, true, false, false, false]) rfl (by kernel_rfl) (by kernel_rfl) (by kernel_rfl) (by kernel_rfl) (by kernel_rfl) (by intro X hX; repeat (first | exact hX | apply List.Mem.tail)) (fun _ _ _ h => h) rfl ?_; clear hS a; intro a hS
    refine Z_one (i := 7) rfl (want_go rfl rfl a hS.sl) (listed' := [true, true, true, true, true, true, true, true, false, false]) rfl (by kernel_rfl) (s_callP hS (.cons rfl .nil) cf99 rfl (left_P x.v hg _ _) ?_); clear hS a; (try clear w); intro a w hS
    refine Z_and hS (by intro X hX; repeat (first | exact hX | apply List.Mem.tail)) ?_
    refine Z_take0 (i := 8) hS rfl (want_go rfl rfl) (e_bin rfl rfl rfl) (listed' := [true, true, true, true, true, true, true, true, true, false]) rfl (by kernel_rfl) (by kernel_rfl) (by kernel_rfl) (fun _ _ _ h => h) rfl ?_; clear hS a; intro a hS
    first | (refine Z_take0 (i := 9) hS rfl want_none (e_pick_t rfl rfl) (listed' := [true, true, true, true, true, true, true, true, true, true]) rfl (by kernel_rfl) (by kernel_rfl) (by kernel_rfl) (fun _ _ _ h => h) rfl ?_; clear hS a; intro a hS) | (refine Z_take0 (i := 9) hS rfl want_none (e_pick_f rfl rfl) (listed' := [true, true, true, true, true, true, true, true, true, true]) rfl (by kernel_rfl) (by kernel_rfl) (by kernel_rfl) (fun _ _ _ h => h) rfl ?_; clear hS a; intro a hS)
    refine Z_done (by kernel_rfl) ?_
    refine n_then ?_
    replace hS := hS.is (t := 15) (c := false) rfl ((decide_eq_false (by omega)))
    refine c_if_f hS rfl ?_
    refine wp_skip ?_
    refine n_then ?_
    refine c_seq ?_
    refine c_draw1 [8] (by kernel_rfl) hS ?_; clear hS; (try clear w); intro w hS
    simp only [List.length_cons, List.length_nil, Nat.zero_add, Nat.reduceAdd, List.replicate]
    refine Z_take (i := 0) hS rfl want_none (e_loadC rfl ty_sc102 (cap_get (by repeat (first | exact .head _ | refine .tail _ ?_)))) (listed' := [true, false, false, false, false, false, false, false, false]) rfl (by kernel_rfl) (by kernel_rfl) (by kernel_rfl) (by kernel_rfl) (by kernel_rfl) (by intro X hX; repeat (first | exact hX | apply List.Mem.tail)) (fun _ _ _ h => h) rfl ?_; clear hS a; intro a hS
    refine Z_take0 (i := 1) hS rfl want_none (e_move rfl) (listed' := [true, true, false, false, false, false, false, false, false]) rfl (by kernel_rfl) (by kernel_rfl) (by kernel_rfl) (fun _ _ _ h => h) rfl ?_; clear hS a; intro a hS
    refine Z_take (i := 5) hS rfl want_none (e_loadC rfl ty_sc3 (cap_get (by repeat (first | exact .head _ | refine .tail _ ?_)))) (listed' := [true, true, false, false, false, true, false, false, false]) rfl (by kernel_rfl) (by kernel_rfl) (by kernel_rfl) (by kernel_rfl) (by kernel_rfl) (by intro X hX; repeat (first | exact hX | apply List.Mem.tail)) (fun _ _ _ h => h) rfl ?_; clear hS a; intro a hS
    refine Z_one (i := 2) rfl (want_none a hS.sl) (listed' := [true, true, true, false, false, true, false, false, false]) rfl (by kernel_rfl) (s_callvP (cs := []) hS rfl (.cons rfl .nil) hf rfl (hfp _) ?_); clear hS a; (try clear w); intro a w hS
    refine Z_and hS (by intro X hX; repeat (first | exact hX | apply List.Mem.tail)) ?_
    refine Z_take0 (i := 3) hS rfl want_none (e_nilCheck rfl) (listed' := [true, true, true, true, false, true, false, false, false]) rfl (by kernel_rfl) (by kernel_rfl) (by kernel_rfl) (fun _ _ _ h => h) rfl ?_; clear hS a; intro a hS
    refine Z_take (i := 4) hS rfl want_none (e_loadC rfl ty_sc3 (fun w hh => own_row (by repeat (first | exact .head _ | refine .tail _ ?_)) hx w hh jf (.int .i64 cur) hst.get)) (listed' := [true, true, true, true, true, true, false, false, false]) rfl (by kernel_rfl) (by kernel_rfl) (by kernel_rfl) (by kernel_rfl) (by kernel_rfl) (by intro X hX; repeat (first | exact hX | apply List.Mem.tail)) (fun _ _ _ h => h) rfl ?_; clear hS a; intro a hS
    refine Z_take0 (i := 6) hS rfl want_none (e_binN rfl rfl rfl hst.bd) (listed' := [true, true, true, true, true, true, true, false, false]) rfl (by kernel_rfl) (by kernel_rfl) (by kernel_rfl) (fun _ _ _ h => h) rfl ?_; clear hS a; intro a hS
    refine Z_take0 (i := 7) hS rfl want_none (e_nilCheck rfl) (listed' := [true, true, true, true, true, true, true, true, false]) rfl (by kernel_rfl) (by kernel_rfl) (by kernel_rfl) (fun _ _ _ h => h) rfl ?_; clear hS a; intro a hS
    refine Z_one (i := 8) rfl (want_none a hS.sl) (listed' := [true, true, true, true, true, true, true, true, true]) rfl (by kernel_rfl) (s_storeO hS rfl rfl rfl ty_sz3 (by repeat (first | apply Rep.head | apply Rep.tail)) (by have := hst.jlt; omega) ?_); clear hS; (try clear w); intro w hS; rw [flat_set0 encA 13 (fun _ => rfl) its k x y jf _ hx (by have := hst.jlt; omega) hst.set] at hS
    refine Z_last (by simp) ?_
    refine Z_done (by kernel_rfl) ?_
    refine n_then ?_
    refine c_seq ?_
    refine c_region ?_
    refine L_op (s_e hS (e_move rfl) rfl ?_); clear hS a; intro a hS
    refine L_op (s_e hS (e_nilCheck rfl) rfl ?_); clear hS a; intro a hS
    refine L_op (s_e hS (e_loadAC (l := encA y) rfl ty_st34 ty_sz34 (own_row (by repeat (first | exact .head _ | refine .tail _ ?_)) hy)) rfl ?_); clear hS a; intro a hS
    refine L_op (s_callP hS (.cons rfl .nil) cf99 rfl (left_P y.v hst.good _ _) ?_); clear hS a; (try clear w); intro a w hS
    refine L_op (s_store hS rfl rfl rfl ty_sz3 (by repeat constructor) (by repeat constructor) ?_); clear hS; (try clear w); intro w hS
    refine L_nil ?_
    refine n_then ?_
    refine c_seq ?_
    refine c_seq ?_
    refine c_region ?_
    refine L_op (s_e hS (e_load rfl (by repeat constructor) ty_sc3 (by rfl)) rfl ?_); clear hS a; intro a hS
    refine L_op (s_e hS (e_bin rfl rfl rfl) rfl ?_); clear hS a; intro a hS
    refine L_nil ?_
    refine n_then ?_
    first | refine c_ifD hS rfl (fun hc29 => ?_) (fun hc29 => ?_) | refine c_if hS rfl (fun hc29 => ?_) (fun hc29 => ?_)
    ·
      refine c_region ?_
      refine L_op (s_e hS (e_move rfl) rfl ?_); clear hS a; intro a hS
      refine L_op (s_e hS (e_nilCheck rfl) rfl ?_); clear hS a; intro a hS
      first | (refine L_op (s_e hS (e_fa0 rfl ty_fo34_12) rfl ?_); clear hS a; intro a hS) | (refine L_op (s_e hS (e_faK rfl ty_fo34_12) rfl ?_); clear hS a; intro a hS)
      refine L_op (s_storeO hS rfl rfl rfl ty_sz3 (by repeat (first | apply Rep.head | apply Rep.tail)) (by omega) ?_); clear hS; (try clear w); intro w hS; rw [flat_set0 encA 13 (fun _ => rfl) (its.set k y) k y ⟨{ y.v with state := 2 }, y.b, y.c⟩ 12 _ hy (by omega) rfl, List.set_set] at hS
      refine L_nil ?_
      refine n_then ?_
      refine c_seq ?_
      refine c_region ?_
      refine L_op (s_e hS (e_assign rfl) rfl ?_); clear hS a; intro a hS
      refine L_nil ?_
      refine n_then ?_
      refine wp_ret ?_
      refine c_ret1 hS Try.results98 (.tmp rfl) ?_
      refine ⟨rfl, hS.chg, ?_, hS.get (X := .blk bl [.int .i64 (leftI y.v)] El) (by repeat (first | exact .head _ | refine .tail _ ?_))⟩
      unfold rowOk
      rw [List.length_set, hst.fin]
      first
      | (rw [if_pos hc29]; exact hS.get (X := ownA 34 13 (.slice (some ⟨g, 0, none⟩) its.length c) its.length _) (by repeat (first | exact .head _ | refine .tail _ ?_)))
      | (rw [if_neg hc29]; exact hS.get (X := ownA 34 13 (.slice (some ⟨g, 0, none⟩) its.length c) its.length _) (by repeat (first | exact .head _ | refine .tail _ ?_)))
    ·
      refine wp_skip ?_
      refine n_then ?_
      refine c_seq ?_
      refine c_region ?_
      refine L_op (s_e hS (e_assign rfl) rfl ?_); clear hS a; intro a hS
      refine L_nil ?_
      refine n_then ?_
      refine wp_ret ?_
      refine c_ret1 hS Try.results98 (.tmp rfl) ?_
      refine ⟨rfl, hS.chg, ?_, hS.get (X := .blk bl [.int .i64 (leftI y.v)] El) (by repeat (first | exact .head _ | refine .tail _ ?_))⟩
      unfold rowOk
      rw [List.length_set, hst.fin]
      first
      | (rw [if_pos hc29]; exact hS.get (X := ownA 34 13 (.slice (some ⟨g, 0, none⟩) its.length c) its.length _) (by repeat (first | exact .head _ | refine .tail _ ?_)))
      | (rw [if_neg hc29]; exact hS.get (X := ownA 34 13 (.slice (some ⟨g, 0, none⟩) its.length c) its.length _) (by repeat (first | exact .head _ | refine .tail _ ?_)))
end Go.Proofs.Ytfiaobhkhedpiaa
