/- The reference's Void and Issue, by what they make of the plain book. -/
import Derived.Test.YtfiaobhkhedpiaaRB7
import Derived.Test.YtfiaobhkhedpiaaSe12
namespace Go.Proofs.Ytfiaobhkhedpiaa
open Go.RowKit

theorem voidV_ok {v : Inv} (h : (voidV v).2 = 0) : voidV v = (voidI v, 0) := by
  unfold voidV at h ⊢
  split at h
  · cases h
  · rename_i h1; rw [if_neg h1]
theorem voidV_no {v : Inv} (h : (voidV v).2 ≠ 0) : voidV v = (v, 25) := by
  unfold voidV at h ⊢
  split at h
  · rename_i h1; rw [if_pos h1]
  · exact absurd rfl h
set_option maxRecDepth 100000 in
theorem xVoid_F (bw : Nat) (sv : Value) (its : List IA) (hg : ∀ x ∈ its, goodI x.v) (number : Int) (hn : its.length ≤ 1000000) (w0 : World) (h : rbφ bw sv its w0) :
    MutC Try.prog 76 [.pointer (some ⟨bw, 0, none⟩), .int .i64 number] w0 (rbA bw sv its true) (fun _ : { y : Value × List IA // vs y.2 = (voidF (vs its) number).1 ∧ y.2.length = its.length } => .int .i64 (voidF (vs its) number).2) (fun y => rbA bw y.1.1 y.1.2 true) := by
  by_cases h0 : number < 1 ∨ (its.length : Int) < number
  · have e := voidF_none (l := vs its) (by rw [vs_len]; exact h0)
    rw [e]
    refine c_enter [(0, .pointer (some ⟨bw, 0, none⟩)), (1, .int .i64 number)] [rbA bw sv its true] (rbF bw sv its) Try.func76 rfl Try.ntmps76 ⟨rfl, rfl, trivial⟩ rfl (okC (rb_ok true h) okN) dis1 (mineO (fun _ hb => hb) mineN) ?_
    intro a hS
    refine c_seq ?_
    refine c_region ?_
    refine L_op (s_e hS (e_assign rfl) rfl ?_); clear hS a; intro a hS
    refine L_nil ?_
    refine n_then ?_
    refine c_seq ?_
    refine c_region ?_
    refine L_op (s_e hS (e_move rfl) rfl ?_); clear hS a; intro a hS
    refine L_op (s_e hS (e_move rfl) rfl ?_); clear hS a; intro a hS
    refine L_op (s_callP hS (.cons rfl (.cons rfl .nil)) cf105 rfl (xVoids_none bw sv its number hn _ (hS.get (X := rbA bw sv its true) (by repeat constructor)) h0) ?_); clear hS a; (try clear w); intro a w hS
    refine L_op (s_e hS (e_assign rfl) rfl ?_); clear hS a; intro a hS
    refine L_nil ?_
    refine n_then ?_
    refine c_seq ?_
    refine c_seq ?_
    refine c_region ?_
    refine L_op (s_e hS (e_move rfl) rfl ?_); clear hS a; intro a hS
    refine L_op (s_e hS (e_bin rfl rfl rfl) rfl ?_); clear hS a; intro a hS
    refine L_nil ?_
    refine n_then ?_
    replace hS := hS.is (t := 10) (c := true) rfl (rfl)
    refine c_if_t hS rfl ?_
    refine c_seq ?_
    refine c_region ?_
    refine L_op (s_e hS (e_move rfl) rfl ?_); clear hS a; intro a hS
    refine L_op (s_e hS (e_assign rfl) rfl ?_); clear hS a; intro a hS
    refine L_nil ?_
    refine n_then ?_
    refine wp_ret ?_
    refine r_then ?_
    refine c_ret1 hS Try.results76 (.tmp rfl) ?_
    exact ⟨⟨(sv, its), rfl, rfl⟩, rfl, hS.chg, hS.ok (rbA bw sv its true) (by repeat constructor), fun b hb => .inl hb⟩
  · obtain ⟨k, x, rfl, hx⟩ := its_get (its := its) (number := number) (by omega) (by omega)
    have e := voidF_some (vs_get hx)
    rw [e]
    have hgx := hg x (List.mem_of_getElem? hx)
    by_cases hs : (voidV x.v).2 = 0
    · rw [voidV_ok hs]
      obtain ⟨p, c, rfl, hsh⟩ := rb_shape h
      have hkl : k < its.length := (List.getElem?_eq_some_iff.1 hx).1
      obtain ⟨g, rfl⟩ : ∃ g, p = some ⟨g, 0, none⟩ := hsh.resolve_left (by omega)
      have hlx : ∀ w, lnR x w → lnR ⟨voidI x.v, x.b, x.c⟩ w := fun w hw => hw
      refine c_enter [(0, .pointer (some ⟨bw, 0, none⟩)), (1, .int .i64 ((k : Int) + 1))] [.blk bw [.slice (some ⟨g, 0, none⟩) its.length c] 56, ownA 119 13 (.slice (some ⟨g, 0, none⟩) its.length c) its.length (its.flatMap encA), rlnA its] (rbF bw (.slice (some ⟨g, 0, none⟩) its.length c) its) Try.func76 rfl Try.ntmps76 ⟨rfl, rfl, trivial⟩ rfl (rbΓ_ok h) (rbΓ_dis h) rbΓ_mine ?_
      intro a hS
      refine c_seq ?_
      refine c_region ?_
      refine L_op (s_e hS (e_assign rfl) rfl ?_); clear hS a; intro a hS
      refine L_nil ?_
      refine n_then ?_
      refine c_seq ?_
      refine c_region ?_
      refine L_op (s_e hS (e_move rfl) rfl ?_); clear hS a; intro a hS
      refine L_op (s_e hS (e_move rfl) rfl ?_); clear hS a; intro a hS
      refine L_op (s_callP hS (.cons rfl (.cons rfl .nil)) cf105 rfl (xVoids_some bw (.slice (some ⟨g, 0, none⟩) its.length c) its k x hx hgx hn _ ⟨hS.get (X := .blk bw [.slice (some ⟨g, 0, none⟩) its.length c] 56) (by repeat constructor), hS.get (X := ownA 119 13 (.slice (some ⟨g, 0, none⟩) its.length c) its.length (its.flatMap encA)) (by repeat constructor), hS.get (X := rlnA its) (by repeat constructor)⟩) ?_); clear hS a; (try clear w); intro a w hS
      refine L_op (s_e hS (e_assign rfl) rfl ?_); clear hS a; intro a hS
      refine L_nil ?_
      refine n_then ?_
      refine c_seq ?_
      refine c_seq ?_
      refine c_region ?_
      refine L_op (s_e hS (e_move rfl) rfl ?_); clear hS a; intro a hS
      refine L_op (s_e hS (e_bin rfl rfl rfl) rfl ?_); clear hS a; intro a hS
      refine L_nil ?_
      refine n_then ?_
      replace hS := hS.is (t := 10) (c := false) rfl ((decide_eq_false (fun hh => hh hs)))
      refine c_if_f hS rfl ?_
      refine wp_skip ?_
      refine n_then ?_
      refine c_seq ?_
      refine c_region ?_
      refine L_op (s_e hS (e_move rfl) rfl ?_); clear hS a; intro a hS
      refine L_op (s_bslice hS ty_sl54 ty_sz119 ty_z119 rfl rfl rfl rfl .nil rfl ?_); clear hS a; (try clear w); intro a w b13 hS
      refine L_op (s_e hS (e_move rfl) rfl ?_); clear hS a; intro a hS
      refine L_op (s_e hS (e_nilCheck rfl) rfl ?_); clear hS a; intro a hS
      first | (refine L_op (s_e hS (e_fa0 rfl ty_fo56_0) rfl ?_); clear hS a; intro a hS) | (refine L_op (s_e hS (e_faK rfl ty_fo56_0) rfl ?_); clear hS a; intro a hS)
      refine L_op (s_e hS (e_load rfl (by repeat constructor) ty_sc54 (by rfl)) rfl ?_); clear hS a; intro a hS
      replace hS := hS.swap (X := .blk b13 [] 119) (Y := ownA 119 13 (.slice (some ⟨b13, 0, none⟩) 0 0) 0 []) (by repeat constructor) (own_empty (hS.get (X := .blk b13 [] 119) (by repeat constructor))) (fun b hb => by simpa [ownA, Asn.F, Value.ownBlock, eq_comm] using hb) rfl
      refine L_op (s_append hS rfl rfl ty_sl54 ty_sz119 ty_by119 ty_z119 rfl rfl rfl (by repeat constructor) (flat_len encA 13 (fun _ => rfl) its) (fun j u hj => by have h2 := World.ownsRow.cells (hS.get (X := ownA 119 13 (.slice (some ⟨g, 0, none⟩) its.length c) its.length (its.flatMap encA)) (by repeat constructor)) (g := g) rfl _ _ hj; rw [addr_add] at h2; exact h2) (encA_one its) (by omega) (fun _ => (by repeat constructor)) ?_); clear hS a; (try clear w); intro v18 a w hv18 hS
      rw [Nat.zero_add, List.nil_append] at hS
      obtain ⟨g2, c2, rfl⟩ := own_some (hS.get (X := ownA 119 13 v18 its.length (its.flatMap encA)) (by repeat constructor)) (fun e => by cases (hv18.1 e).1)
      refine L_op (s_e hS (e_nilCheck rfl) rfl ?_); clear hS a; intro a hS
      first | (refine L_op (s_e hS (e_fa0 rfl ty_fo56_0) rfl ?_); clear hS a; intro a hS) | (refine L_op (s_e hS (e_faK rfl ty_fo56_0) rfl ?_); clear hS a; intro a hS)
      refine L_op (s_store hS rfl rfl rfl ty_sz54 (by repeat constructor) (by repeat constructor) ?_); clear hS; (try clear w); intro w hS
      refine L_nil ?_
      refine n_then ?_
      refine c_seq ?_
      refine c_region ?_
      refine L_op (s_e hS (e_move rfl) rfl ?_); clear hS a; intro a hS
      refine L_op (s_e hS (e_nilCheck rfl) rfl ?_); clear hS a; intro a hS
      first | (refine L_op (s_e hS (e_fa0 rfl ty_fo56_0) rfl ?_); clear hS a; intro a hS) | (refine L_op (s_e hS (e_faK rfl ty_fo56_0) rfl ?_); clear hS a; intro a hS)
      refine L_op (s_e hS (e_load rfl (by repeat constructor) ty_sc54 (by rfl)) rfl ?_); clear hS a; intro a hS
      refine L_op (s_e hS (e_move rfl) rfl ?_); clear hS a; intro a hS
      first | (refine L_op (s_e hS (e_binN rfl rfl rfl (by omega)) rfl ?_); clear hS a; intro a hS) | (refine L_op (s_e hS (e_bin rfl rfl rfl) rfl ?_); clear hS a; intro a hS)
      rw [show (k : Int) + 1 - 1 = (k : Int) by omega] at hS
      refine L_op (s_e hS (e_ixN rfl rfl ty_sl54 ty_sz119 (by omega)) rfl ?_); clear hS a; intro a hS
      first | (refine L_op (s_e hS (e_fa0 rfl ty_fo119_12) rfl ?_); clear hS a; intro a hS) | (refine L_op (s_e hS (e_faK rfl ty_fo119_12) rfl ?_); clear hS a; intro a hS)
      refine L_op (s_storeO (gb := g2) (cs := its.flatMap encA) hS rfl rfl rfl ty_sz3 (by repeat constructor) (by omega) ?_); clear hS; (try clear w); intro w hS
      rw [flat_set0 encA 13 (fun _ => rfl) its k x ⟨voidI x.v, x.b, x.c⟩ 12 (.int .i64 3) hx (by decide) rfl] at hS
      refine L_nil ?_
      refine n_then ?_
      refine c_seq ?_
      refine c_region ?_
      refine L_op (s_e hS (e_assign rfl) rfl ?_); clear hS a; intro a hS
      refine L_nil ?_
      refine n_then ?_
      refine wp_ret ?_
      refine c_ret1 hS Try.results76 (.tmp rfl) ?_
      have hrow := hS.get (X := ownA 119 13 (.slice (some ⟨g2, 0, none⟩) its.length c2) its.length ((its.set k ⟨voidI x.v, x.b, x.c⟩).flatMap encA)) (by repeat constructor)
      have hmine := hS.mine (ownA 119 13 (.slice (some ⟨g2, 0, none⟩) its.length c2) its.length ((its.set k ⟨voidI x.v, x.b, x.c⟩).flatMap encA)) (by repeat constructor) rfl
      have hrow2 : w.ownsRow 0 119 13 (.slice (some ⟨g2, 0, none⟩) its.length c2) (its.set k ⟨voidI x.v, x.b, x.c⟩).length ((its.set k ⟨voidI x.v, x.b, x.c⟩).flatMap encA) := by rw [List.length_set]; exact hrow
      have hlns : ∀ x ∈ its, lnR x w := hS.get (X := rlnA its) (by repeat constructor)
      refine ⟨⟨(.slice (some ⟨g2, 0, none⟩) its.length c2, its.set k ⟨voidI x.v, x.b, x.c⟩), by rw [vs_set], by simp⟩, rfl, hS.chg, rb_ok true ⟨hS.get (X := .blk bw [.slice (some ⟨g2, 0, none⟩) its.length c2] 56) (by repeat constructor), hrow2, lns_set (y := ⟨voidI x.v, x.b, x.c⟩) hx rfl hlns (hlx _ (hlns x (List.mem_of_getElem? hx)))⟩, fun b hb => ?_⟩
      rcases hb with hb | hb | hb
      · exact .inl (.inl hb)
      · exact (hmine b hb).symm
      · exact .inl (.inr (.inr (lns_b (y := ⟨voidI x.v, x.b, x.c⟩) hx rfl hb)))
    · rw [voidV_no hs]
      have e25 : (voidV x.v).2 = 25 := by rw [voidV_no hs]
      refine c_enter [(0, .pointer (some ⟨bw, 0, none⟩)), (1, .int .i64 ((k : Int) + 1))] [rbA bw sv its true] (rbF bw sv its) Try.func76 rfl Try.ntmps76 ⟨rfl, rfl, trivial⟩ rfl (okC (rb_ok true h) okN) dis1 (mineO (fun _ hb => hb) mineN) ?_
      intro a hS
      refine c_seq ?_
      refine c_region ?_
      refine L_op (s_e hS (e_assign rfl) rfl ?_); clear hS a; intro a hS
      refine L_nil ?_
      refine n_then ?_
      refine c_seq ?_
      refine c_region ?_
      refine L_op (s_e hS (e_move rfl) rfl ?_); clear hS a; intro a hS
      refine L_op (s_e hS (e_move rfl) rfl ?_); clear hS a; intro a hS
      refine L_op (s_callP hS (.cons rfl (.cons rfl .nil)) cf105 rfl (xVoids_some bw sv its k x hx hgx hn _ (hS.get (X := rbA bw sv its true) (by repeat constructor))) ?_); clear hS a; (try clear w); intro a w hS
      refine L_op (s_e hS (e_assign rfl) rfl ?_); clear hS a; intro a hS
      refine L_nil ?_
      refine n_then ?_
      refine c_seq ?_
      refine c_seq ?_
      refine c_region ?_
      refine L_op (s_e hS (e_move rfl) rfl ?_); clear hS a; intro a hS
      refine L_op (s_e hS (e_bin rfl rfl rfl) rfl ?_); clear hS a; intro a hS
      refine L_nil ?_
      refine n_then ?_
      replace hS := hS.is (t := 10) (c := true) rfl ((decide_eq_true hs))
      refine c_if_t hS rfl ?_
      refine c_seq ?_
      refine c_region ?_
      refine L_op (s_e hS (e_move rfl) rfl ?_); clear hS a; intro a hS
      refine L_op (s_e hS (e_assign rfl) rfl ?_); clear hS a; intro a hS
      refine L_nil ?_
      refine n_then ?_
      refine wp_ret ?_
      refine r_then ?_
      refine c_ret1 hS Try.results76 (.tmp rfl) ?_
      exact ⟨⟨(sv, its), (set_same hx).symm, rfl⟩, by rw [e25], hS.chg, hS.ok (rbA bw sv its true) (by repeat constructor), fun b hb => .inl hb⟩
end Go.Proofs.Ytfiaobhkhedpiaa
