/- The reference's Pay, Credit and Void, by what they make of the plain book. -/
import Derived.Test.YtfiaobhkhedpiaaRB6
namespace Go.Proofs.Ytfiaobhkhedpiaa
open Go.RowKit

theorem payV_ok {add : Inv → Int → Inv} {v : Inv} {u : Int} (h : settV v u = 0) : v.state = 1 ∧ 1 ≤ u ∧ u ≤ leftI v ∧ payV add v u = (doneI (add v u), leftI (add v u), 0) := by
  unfold settV at h
  split at h
  · cases h
  · rename_i h1
    split at h
    · cases h
    · rename_i h2
      exact ⟨by omega, by omega, by omega, by unfold payV; rw [if_neg h1, if_neg h2]⟩
theorem payV_no {add : Inv → Int → Inv} {v : Inv} {u : Int} (h : settV v u ≠ 0) : payV add v u = (v, 0, settV v u) := by
  unfold payV settV at *
  split
  · rfl
  · rename_i h1
    rw [if_neg h1] at h
    split
    · rfl
    · rename_i h2; rw [if_neg h2] at h; exact absurd rfl h
theorem set_same {its : List IA} {k : Nat} {x : IA} (hx : its[k]? = some x) : (vs its).set k x.v = vs its := by
  obtain ⟨h1, h2⟩ := List.getElem?_eq_some_iff.1 hx
  have : (vs its)[k]'(by rw [vs_len]; exact h1) = x.v := by simp [vs, h2]
  rw [← this, List.set_getElem_self]
theorem addP_PC (v : Inv) (u : Int) : addPC v u 0 = addP v u := by unfold addPC addP; rw [Int.add_zero]
theorem addC_PC (v : Inv) (u : Int) : addPC v 0 u = addC v u := by unfold addPC addC; rw [Int.add_zero]

set_option maxRecDepth 100000 in
theorem xPay_F (bw : Nat) (sv : Value) (its : List IA) (hg : ∀ x ∈ its, goodI x.v) (number u : Int) (hn : its.length ≤ 1000000) (w0 : World) (h : rbφ bw sv its w0) :
    MutC Try.prog 74 [.pointer (some ⟨bw, 0, none⟩), .int .i64 number, .int .i64 u] w0 (rbA bw sv its true) (fun _ : { y : Value × List IA // vs y.2 = (payF addP (vs its) number u).1 ∧ y.2.length = its.length } => .tuple [.int .i64 (payF addP (vs its) number u).2.1, .int .i64 (payF addP (vs its) number u).2.2].toArray) (fun y => rbA bw y.1.1 y.1.2 true) := by
  by_cases h0 : number < 1 ∨ (its.length : Int) < number
  · have e := payF_none (add := addP) (l := vs its) (u := u) (by rw [vs_len]; exact h0)
    rw [e]
    refine c_enter [(0, .pointer (some ⟨bw, 0, none⟩)), (1, .int .i64 number), (2, .int .i64 u)] [rbA bw sv its true] (rbF bw sv its) Try.func74 rfl Try.ntmps74 ⟨rfl, rfl, rfl, trivial⟩ rfl (okC (rb_ok true h) okN) dis1 (mineO (fun _ hb => hb) mineN) ?_
    intro a hS
    refine c_seq ?_
    refine c_region ?_
    refine L_op (s_e hS (e_assign rfl) rfl ?_); clear hS a; intro a hS
    refine L_op (s_e hS (e_assign rfl) rfl ?_); clear hS a; intro a hS
    refine L_nil ?_
    refine n_then ?_
    refine c_seq ?_
    refine c_region ?_
    refine L_op (s_e hS (e_move rfl) rfl ?_); clear hS a; intro a hS
    refine L_op (s_e hS (e_move rfl) rfl ?_); clear hS a; intro a hS
    refine L_op (s_e hS (e_move rfl) rfl ?_); clear hS a; intro a hS
    refine L_op (s_callP hS (.cons rfl (.cons rfl (.cons rfl .nil))) cf103 rfl (xSettle_none bw sv its number u hn _ (hS.get (X := rbA bw sv its true) (by repeat constructor)) h0) ?_); clear hS a; (try clear w); intro a w hS
    refine L_op (s_e hS (e_assign rfl) rfl ?_); clear hS a; intro a hS
    refine L_nil ?_
    refine n_then ?_
    refine c_seq ?_
    refine c_seq ?_
    refine c_region ?_
    refine L_op (s_e hS (e_move rfl) rfl ?_); clear hS a; intro a hS
    refine L_op (s_e hS (e_bin rfl rfl rfl) rfl ?_); clear hS a; intro a hS
    refine L_nil ?_
    refine n_then ?_
    replace hS := hS.is (t := 14) (c := true) rfl (rfl)
    refine c_if_t hS rfl ?_
    refine c_seq ?_
    refine c_region ?_
    refine L_op (s_e hS (e_move rfl) rfl ?_); clear hS a; intro a hS
    refine L_op (s_e hS (e_assign rfl) rfl ?_); clear hS a; intro a hS
    refine L_op (s_e hS (e_assign rfl) rfl ?_); clear hS a; intro a hS
    refine L_nil ?_
    refine n_then ?_
    refine wp_ret ?_
    refine r_then ?_
    refine c_retN hS Try.results74 (.cons (.tmp rfl) (.cons (.tmp rfl) .nil)) rfl ?_
    exact ⟨⟨(sv, its), rfl, rfl⟩, rfl, hS.chg, hS.ok (rbA bw sv its true) (by repeat constructor), fun b hb => .inl hb⟩
  · obtain ⟨k, x, rfl, hx⟩ := its_get (its := its) (number := number) (by omega) (by omega)
    have e := payF_some (add := addP) (u := u) (vs_get hx)
    rw [e]
    have hgx := hg x (List.mem_of_getElem? hx)
    by_cases hs : settV x.v u = 0
    · obtain ⟨s1, s2, s3, e2⟩ := payV_ok (add := addP) hs
      rw [e2]
      refine c_enter [(0, .pointer (some ⟨bw, 0, none⟩)), (1, .int .i64 ((k : Int) + 1)), (2, .int .i64 u)] [rbA bw sv its true] (rbF bw sv its) Try.func74 rfl Try.ntmps74 ⟨rfl, rfl, rfl, trivial⟩ rfl (okC (rb_ok true h) okN) dis1 (mineO (fun _ hb => hb) mineN) ?_
      intro a hS
      refine c_seq ?_
      refine c_region ?_
      refine L_op (s_e hS (e_assign rfl) rfl ?_); clear hS a; intro a hS
      refine L_op (s_e hS (e_assign rfl) rfl ?_); clear hS a; intro a hS
      refine L_nil ?_
      refine n_then ?_
      refine c_seq ?_
      refine c_region ?_
      refine L_op (s_e hS (e_move rfl) rfl ?_); clear hS a; intro a hS
      refine L_op (s_e hS (e_move rfl) rfl ?_); clear hS a; intro a hS
      refine L_op (s_e hS (e_move rfl) rfl ?_); clear hS a; intro a hS
      refine L_op (s_callP hS (.cons rfl (.cons rfl (.cons rfl .nil))) cf103 rfl (xSettle_some bw sv its k x hx hgx u hn _ (hS.get (X := rbA bw sv its true) (by repeat constructor))) ?_); clear hS a; (try clear w); intro a w hS
      refine L_op (s_e hS (e_assign rfl) rfl ?_); clear hS a; intro a hS
      refine L_nil ?_
      refine n_then ?_
      refine c_seq ?_
      refine c_seq ?_
      refine c_region ?_
      refine L_op (s_e hS (e_move rfl) rfl ?_); clear hS a; intro a hS
      refine L_op (s_e hS (e_bin rfl rfl rfl) rfl ?_); clear hS a; intro a hS
      refine L_nil ?_
      refine n_then ?_
      replace hS := hS.is (t := 14) (c := false) rfl ((decide_eq_false (fun hh => hh hs)))
      refine c_if_f hS rfl ?_
      refine wp_skip ?_
      refine n_then ?_
      refine c_seq ?_
      refine c_region ?_
      refine L_op (s_e hS (e_move rfl) rfl ?_); clear hS a; intro a hS
      refine L_op (s_e hS (e_move rfl) rfl ?_); clear hS a; intro a hS
      refine L_op (s_e hS (e_move rfl) rfl ?_); clear hS a; intro a hS
      refine L_op (s_callM hS (.cons rfl (.cons rfl (.cons rfl (.cons rfl .nil)))) cf104 rfl (xSettled_P bw sv its k x hx hgx u 0 (by omega) (by decide) (by omega) hn _ (hS.get (X := rbA bw sv its true) (by repeat constructor))) (fun x => (by repeat constructor)) rfl ?_); clear hS a; (try clear w); intro x19 a w hS
      refine L_op (s_e hS (e_assign rfl) rfl ?_); clear hS a; intro a hS
      refine L_op (s_e hS (e_assign rfl) rfl ?_); clear hS a; intro a hS
      refine L_nil ?_
      refine n_then ?_
      refine wp_ret ?_
      refine c_retN hS Try.results74 (.cons (.tmp rfl) (.cons (.tmp rfl) .nil)) rfl ?_
      have e3 := addP_PC x.v u
      rw [e3] at hS
      exact ⟨⟨(x19, its.set k ⟨doneI (addP x.v u), x.b, x.c⟩), by rw [vs_set], by simp⟩, by rw [← e3], hS.chg, hS.ok (rbA bw x19 (its.set k ⟨doneI (addP x.v u), x.b, x.c⟩) true) (by repeat constructor), fun b hb => (hS.mine (rbA bw x19 (its.set k ⟨doneI (addP x.v u), x.b, x.c⟩) true) (by repeat constructor) rfl b hb).symm⟩
    · rw [payV_no hs]
      refine c_enter [(0, .pointer (some ⟨bw, 0, none⟩)), (1, .int .i64 ((k : Int) + 1)), (2, .int .i64 u)] [rbA bw sv its true] (rbF bw sv its) Try.func74 rfl Try.ntmps74 ⟨rfl, rfl, rfl, trivial⟩ rfl (okC (rb_ok true h) okN) dis1 (mineO (fun _ hb => hb) mineN) ?_
      intro a hS
      refine c_seq ?_
      refine c_region ?_
      refine L_op (s_e hS (e_assign rfl) rfl ?_); clear hS a; intro a hS
      refine L_op (s_e hS (e_assign rfl) rfl ?_); clear hS a; intro a hS
      refine L_nil ?_
      refine n_then ?_
      refine c_seq ?_
      refine c_region ?_
      refine L_op (s_e hS (e_move rfl) rfl ?_); clear hS a; intro a hS
      refine L_op (s_e hS (e_move rfl) rfl ?_); clear hS a; intro a hS
      refine L_op (s_e hS (e_move rfl) rfl ?_); clear hS a; intro a hS
      refine L_op (s_callP hS (.cons rfl (.cons rfl (.cons rfl .nil))) cf103 rfl (xSettle_some bw sv its k x hx hgx u hn _ (hS.get (X := rbA bw sv its true) (by repeat constructor))) ?_); clear hS a; (try clear w); intro a w hS
      refine L_op (s_e hS (e_assign rfl) rfl ?_); clear hS a; intro a hS
      refine L_nil ?_
      refine n_then ?_
      refine c_seq ?_
      refine c_seq ?_
      refine c_region ?_
      refine L_op (s_e hS (e_move rfl) rfl ?_); clear hS a; intro a hS
      refine L_op (s_e hS (e_bin rfl rfl rfl) rfl ?_); clear hS a; intro a hS
      refine L_nil ?_
      refine n_then ?_
      replace hS := hS.is (t := 14) (c := true) rfl ((decide_eq_true hs))
      refine c_if_t hS rfl ?_
      refine c_seq ?_
      refine c_region ?_
      refine L_op (s_e hS (e_move rfl) rfl ?_); clear hS a; intro a hS
      refine L_op (s_e hS (e_assign rfl) rfl ?_); clear hS a; intro a hS
      refine L_op (s_e hS (e_assign rfl) rfl ?_); clear hS a; intro a hS
      refine L_nil ?_
      refine n_then ?_
      refine wp_ret ?_
      refine r_then ?_
      refine c_retN hS Try.results74 (.cons (.tmp rfl) (.cons (.tmp rfl) .nil)) rfl ?_
      exact ⟨⟨(sv, its), (set_same hx).symm, rfl⟩, rfl, hS.chg, hS.ok (rbA bw sv its true) (by repeat constructor), fun b hb => .inl hb⟩
set_option maxRecDepth 100000 in
theorem xCredit_F (bw : Nat) (sv : Value) (its : List IA) (hg : ∀ x ∈ its, goodI x.v) (number u : Int) (hn : its.length ≤ 1000000) (w0 : World) (h : rbφ bw sv its w0) :
    MutC Try.prog 75 [.pointer (some ⟨bw, 0, none⟩), .int .i64 number, .int .i64 u] w0 (rbA bw sv its true) (fun _ : { y : Value × List IA // vs y.2 = (payF addC (vs its) number u).1 ∧ y.2.length = its.length } => .tuple [.int .i64 (payF addC (vs its) number u).2.1, .int .i64 (payF addC (vs its) number u).2.2].toArray) (fun y => rbA bw y.1.1 y.1.2 true) := by
  by_cases h0 : number < 1 ∨ (its.length : Int) < number
  · have e := payF_none (add := addC) (l := vs its) (u := u) (by rw [vs_len]; exact h0)
    rw [e]
    refine c_enter [(0, .pointer (some ⟨bw, 0, none⟩)), (1, .int .i64 number), (2, .int .i64 u)] [rbA bw sv its true] (rbF bw sv its) Try.func75 rfl Try.ntmps75 ⟨rfl, rfl, rfl, trivial⟩ rfl (okC (rb_ok true h) okN) dis1 (mineO (fun _ hb => hb) mineN) ?_
    intro a hS
    refine c_seq ?_
    refine c_region ?_
    refine L_op (s_e hS (e_assign rfl) rfl ?_); clear hS a; intro a hS
    refine L_op (s_e hS (e_assign rfl) rfl ?_); clear hS a; intro a hS
    refine L_nil ?_
    refine n_then ?_
    refine c_seq ?_
    refine c_region ?_
    refine L_op (s_e hS (e_move rfl) rfl ?_); clear hS a; intro a hS
    refine L_op (s_e hS (e_move rfl) rfl ?_); clear hS a; intro a hS
    refine L_op (s_e hS (e_move rfl) rfl ?_); clear hS a; intro a hS
    refine L_op (s_callP hS (.cons rfl (.cons rfl (.cons rfl .nil))) cf103 rfl (xSettle_none bw sv its number u hn _ (hS.get (X := rbA bw sv its true) (by repeat constructor)) h0) ?_); clear hS a; (try clear w); intro a w hS
    refine L_op (s_e hS (e_assign rfl) rfl ?_); clear hS a; intro a hS
    refine L_nil ?_
    refine n_then ?_
    refine c_seq ?_
    refine c_seq ?_
    refine c_region ?_
    refine L_op (s_e hS (e_move rfl) rfl ?_); clear hS a; intro a hS
    refine L_op (s_e hS (e_bin rfl rfl rfl) rfl ?_); clear hS a; intro a hS
    refine L_nil ?_
    refine n_then ?_
    replace hS := hS.is (t := 14) (c := true) rfl (rfl)
    refine c_if_t hS rfl ?_
    refine c_seq ?_
    refine c_region ?_
    refine L_op (s_e hS (e_move rfl) rfl ?_); clear hS a; intro a hS
    refine L_op (s_e hS (e_assign rfl) rfl ?_); clear hS a; intro a hS
    refine L_op (s_e hS (e_assign rfl) rfl ?_); clear hS a; intro a hS
    refine L_nil ?_
    refine n_then ?_
    refine wp_ret ?_
    refine r_then ?_
    refine c_retN hS Try.results75 (.cons (.tmp rfl) (.cons (.tmp rfl) .nil)) rfl ?_
    exact ⟨⟨(sv, its), rfl, rfl⟩, rfl, hS.chg, hS.ok (rbA bw sv its true) (by repeat constructor), fun b hb => .inl hb⟩
  · obtain ⟨k, x, rfl, hx⟩ := its_get (its := its) (number := number) (by omega) (by omega)
    have e := payF_some (add := addC) (u := u) (vs_get hx)
    rw [e]
    have hgx := hg x (List.mem_of_getElem? hx)
    by_cases hs : settV x.v u = 0
    · obtain ⟨s1, s2, s3, e2⟩ := payV_ok (add := addC) hs
      rw [e2]
      refine c_enter [(0, .pointer (some ⟨bw, 0, none⟩)), (1, .int .i64 ((k : Int) + 1)), (2, .int .i64 u)] [rbA bw sv its true] (rbF bw sv its) Try.func75 rfl Try.ntmps75 ⟨rfl, rfl, rfl, trivial⟩ rfl (okC (rb_ok true h) okN) dis1 (mineO (fun _ hb => hb) mineN) ?_
      intro a hS
      refine c_seq ?_
      refine c_region ?_
      refine L_op (s_e hS (e_assign rfl) rfl ?_); clear hS a; intro a hS
      refine L_op (s_e hS (e_assign rfl) rfl ?_); clear hS a; intro a hS
      refine L_nil ?_
      refine n_then ?_
      refine c_seq ?_
      refine c_region ?_
      refine L_op (s_e hS (e_move rfl) rfl ?_); clear hS a; intro a hS
      refine L_op (s_e hS (e_move rfl) rfl ?_); clear hS a; intro a hS
      refine L_op (s_e hS (e_move rfl) rfl ?_); clear hS a; intro a hS
      refine L_op (s_callP hS (.cons rfl (.cons rfl (.cons rfl .nil))) cf103 rfl (xSettle_some bw sv its k x hx hgx u hn _ (hS.get (X := rbA bw sv its true) (by repeat constructor))) ?_); clear hS a; (try clear w); intro a w hS
      refine L_op (s_e hS (e_assign rfl) rfl ?_); clear hS a; intro a hS
      refine L_nil ?_
      refine n_then ?_
      refine c_seq ?_
      refine c_seq ?_
      refine c_region ?_
      refine L_op (s_e hS (e_move rfl) rfl ?_); clear hS a; intro a hS
      refine L_op (s_e hS (e_bin rfl rfl rfl) rfl ?_); clear hS a; intro a hS
      refine L_nil ?_
      refine n_then ?_
      replace hS := hS.is (t := 14) (c := false) rfl ((decide_eq_false (fun hh => hh hs)))
      refine c_if_f hS rfl ?_
      refine wp_skip ?_
      refine n_then ?_
      refine c_seq ?_
      refine c_region ?_
      refine L_op (s_e hS (e_move rfl) rfl ?_); clear hS a; intro a hS
      refine L_op (s_e hS (e_move rfl) rfl ?_); clear hS a; intro a hS
      refine L_op (s_e hS (e_move rfl) rfl ?_); clear hS a; intro a hS
      refine L_op (s_callM hS (.cons rfl (.cons rfl (.cons rfl (.cons rfl .nil)))) cf104 rfl (xSettled_P bw sv its k x hx hgx 0 u (by decide) (by omega) (by omega) hn _ (hS.get (X := rbA bw sv its true) (by repeat constructor))) (fun x => (by repeat constructor)) rfl ?_); clear hS a; (try clear w); intro x19 a w hS
      refine L_op (s_e hS (e_assign rfl) rfl ?_); clear hS a; intro a hS
      refine L_op (s_e hS (e_assign rfl) rfl ?_); clear hS a; intro a hS
      refine L_nil ?_
      refine n_then ?_
      refine wp_ret ?_
      refine c_retN hS Try.results75 (.cons (.tmp rfl) (.cons (.tmp rfl) .nil)) rfl ?_
      have e3 := addC_PC x.v u
      rw [e3] at hS
      exact ⟨⟨(x19, its.set k ⟨doneI (addC x.v u), x.b, x.c⟩), by rw [vs_set], by simp⟩, by rw [← e3], hS.chg, hS.ok (rbA bw x19 (its.set k ⟨doneI (addC x.v u), x.b, x.c⟩) true) (by repeat constructor), fun b hb => (hS.mine (rbA bw x19 (its.set k ⟨doneI (addC x.v u), x.b, x.c⟩) true) (by repeat constructor) rfl b hb).symm⟩
    · rw [payV_no hs]
      refine c_enter [(0, .pointer (some ⟨bw, 0, none⟩)), (1, .int .i64 ((k : Int) + 1)), (2, .int .i64 u)] [rbA bw sv its true] (rbF bw sv its) Try.func75 rfl Try.ntmps75 ⟨rfl, rfl, rfl, trivial⟩ rfl (okC (rb_ok true h) okN) dis1 (mineO (fun _ hb => hb) mineN) ?_
      intro a hS
      refine c_seq ?_
      refine c_region ?_
      refine L_op (s_e hS (e_assign rfl) rfl ?_); clear hS a; intro a hS
      refine L_op (s_e hS (e_assign rfl) rfl ?_); clear hS a; intro a hS
      refine L_nil ?_
      refine n_then ?_
      refine c_seq ?_
      refine c_region ?_
      refine L_op (s_e hS (e_move rfl) rfl ?_); clear hS a; intro a hS
      refine L_op (s_e hS (e_move rfl) rfl ?_); clear hS a; intro a hS
      refine L_op (s_e hS (e_move rfl) rfl ?_); clear hS a; intro a hS
      refine L_op (s_callP hS (.cons rfl (.cons rfl (.cons rfl .nil))) cf103 rfl (xSettle_some bw sv its k x hx hgx u hn _ (hS.get (X := rbA bw sv its true) (by repeat constructor))) ?_); clear hS a; (try clear w); intro a w hS
      refine L_op (s_e hS (e_assign rfl) rfl ?_); clear hS a; intro a hS
      refine L_nil ?_
      refine n_then ?_
      refine c_seq ?_
      refine c_seq ?_
      refine c_region ?_
      refine L_op (s_e hS (e_move rfl) rfl ?_); clear hS a; intro a hS
      refine L_op (s_e hS (e_bin rfl rfl rfl) rfl ?_); clear hS a; intro a hS
      refine L_nil ?_
      refine n_then ?_
      replace hS := hS.is (t := 14) (c := true) rfl ((decide_eq_true hs))
      refine c_if_t hS rfl ?_
      refine c_seq ?_
      refine c_region ?_
      refine L_op (s_e hS (e_move rfl) rfl ?_); clear hS a; intro a hS
      refine L_op (s_e hS (e_assign rfl) rfl ?_); clear hS a; intro a hS
      refine L_op (s_e hS (e_assign rfl) rfl ?_); clear hS a; intro a hS
      refine L_nil ?_
      refine n_then ?_
      refine wp_ret ?_
      refine r_then ?_
      refine c_retN hS Try.results75 (.cons (.tmp rfl) (.cons (.tmp rfl) .nil)) rfl ?_
      exact ⟨⟨(sv, its), (set_same hx).symm, rfl⟩, rfl, hS.chg, hS.ok (rbA bw sv its true) (by repeat constructor), fun b hb => .inl hb⟩
end Go.Proofs.Ytfiaobhkhedpiaa
