/- Numbers by digits in base 10000 (exref), walked: BigAdd, BigNeg, BigSub. -/
import Derived.Test.YtheofhegdjjfgaaBig3
namespace Go.Proofs.Ytheofhegdjjfgaa
open Go.RowKit

theorem two_swap {p q : Option (Nat × Nat)} {xs ys : List Int} {w : World} (h : (twoA p q xs ys).ok w) : (twoA q p ys xs).ok w :=
  two_ok h.now.2 h.now.1 (fun r e => h.lt r.1 (.inr ⟨r.2, e⟩)) (fun r e => h.lt r.1 (.inl ⟨r.2, e⟩))
set_option maxHeartbeats 1000000 in
set_option maxRecDepth 100000 in
theorem BigAdd_P (p q : Option (Nat × Nat)) (c1 c2 : Nat) (x y : Int) (N : Nat) (hN : N ≤ 100000) (hx : (dgs x.natAbs).length ≤ N) (hy : (dgs y.natAbs).length ≤ N) (w0 : World) (h : (twoA p q (dgs x.natAbs) (dgs y.natAbs)).ok w0) :
    NewC Try.prog 23 [bigV x p c1, bigV y q c2] w0 (fun r : At (x + y) => bigV (x + y) (some (r.1.1, 0)) r.1.2) (fun r => bigA (x + y) r.1.1) := by
  refine c_enter [(0, bigV x p c1), (1, bigV y q c2)] [twoA p q (dgs x.natAbs) (dgs y.natAbs)] noB Try.func23 rfl Try.ntmps23 ⟨rfl, rfl, trivial⟩ rfl (by intro X hX; obtain rfl := List.mem_singleton.1 hX; exact h) (by simp) (by intro X hX hm; obtain rfl := List.mem_singleton.1 hX; cases hm) ?_
  intro a hS
  refine c_seq ?_
  refine c_region ?_
  refine L_op (s_boxA hS rfl rfl ?_); clear hS a; (try clear w); intro a w b2 hS
  refine L_op (s_boxA hS rfl rfl ?_); clear hS a; (try clear w); intro a w b3 hS
  refine L_op (s_alloc hS ty_z44 rfl ?_); clear hS a; (try clear w); intro a w b4 hS
  refine L_nil ?_
  refine n_then ?_
  refine c_seq ?_
  refine c_seq ?_
  refine c_region ?_
  first | (refine L_op (s_e hS (e_fa0 rfl ty_fo44_0) rfl ?_); clear hS a; intro a hS) | (refine L_op (s_e hS (e_faK rfl ty_fo44_0) rfl ?_); clear hS a; intro a hS)
  refine L_op (s_e hS (e_load rfl (by repeat constructor) ty_sc4 (by rfl)) rfl ?_); clear hS a; intro a hS
  first | (refine L_op (s_e hS (e_fa0 rfl ty_fo44_0) rfl ?_); clear hS a; intro a hS) | (refine L_op (s_e hS (e_faK rfl ty_fo44_0) rfl ?_); clear hS a; intro a hS)
  refine L_op (s_e hS (e_load rfl (by repeat constructor) ty_sc4 (by rfl)) rfl ?_); clear hS a; intro a hS
  refine L_op (s_e hS (e_binB rfl rfl ty_u4 rfl) rfl ?_); clear hS a; intro a hS
  refine L_nil ?_
  refine n_then ?_
  first | refine c_ifD hS rfl (fun hc9 => ?_) (fun hc9 => ?_) | refine c_if hS rfl (fun hc9 => ?_) (fun hc9 => ?_)
  ·
    have hsame : x < 0 ↔ y < 0 := by simpa using hc9
    refine c_seq ?_
    refine c_drawS [8] (by kernel_rfl) hS (sub_cons (X := .blk b2 _ _) (by repeat constructor) (sub_cons (X := .blk b3 _ _) (by repeat constructor) sub_nil)) ?_; clear hS; (try clear w); intro w hS
    simp only [List.length_cons, List.length_nil, Nat.zero_add, Nat.reduceAdd, List.replicate]
    first | (refine Z_take0 (i := 0) hS rfl want_none (e_fa0 rfl ty_fo44_0) (listed' := [true, false, false, false, false, false, false, false, false]) rfl (by kernel_rfl) (by kernel_rfl) (by kernel_rfl) (fun _ _ _ h => h) rfl ?_; clear hS a; intro a hS) | (refine Z_take0 (i := 0) hS rfl want_none (e_faK rfl ty_fo44_0) (listed' := [true, false, false, false, false, false, false, false, false]) rfl (by kernel_rfl) (by kernel_rfl) (by kernel_rfl) (fun _ _ _ h => h) rfl ?_; clear hS a; intro a hS)
    refine Z_take (i := 1) hS rfl want_none (e_load rfl (by repeat constructor) ty_sc4 (by rfl)) (listed' := [true, true, false, false, false, false, false, false, false]) rfl (by kernel_rfl) (by kernel_rfl) (by kernel_rfl) (by kernel_rfl) (by kernel_rfl) (sub_cons (by repeat constructor) (sub_cons (by repeat constructor) sub_nil)) (fun _ _ _ h => h) rfl ?_; clear hS a; intro a hS
    first | (refine Z_take0 (i := 2) hS rfl want_none (e_fa0 rfl ty_fo44_1) (listed' := [true, true, true, false, false, false, false, false, false]) rfl (by kernel_rfl) (by kernel_rfl) (by kernel_rfl) (fun _ _ _ h => h) rfl ?_; clear hS a; intro a hS) | (refine Z_take0 (i := 2) hS rfl want_none (e_faK rfl ty_fo44_1) (listed' := [true, true, true, false, false, false, false, false, false]) rfl (by kernel_rfl) (by kernel_rfl) (by kernel_rfl) (fun _ _ _ h => h) rfl ?_; clear hS a; intro a hS)
    refine Z_take (i := 3) hS rfl want_none (e_load rfl (by repeat constructor) ty_sc42 (by rfl)) (listed' := [true, true, true, true, false, false, false, false, false]) rfl (by kernel_rfl) (by kernel_rfl) (by kernel_rfl) (by kernel_rfl) (by kernel_rfl) (sub_cons (by repeat constructor) (sub_cons (by repeat constructor) sub_nil)) (fun _ _ _ h => h) rfl ?_; clear hS a; intro a hS
    first | (refine Z_take0 (i := 4) hS rfl want_none (e_fa0 rfl ty_fo44_1) (listed' := [true, true, true, true, true, false, false, false, false]) rfl (by kernel_rfl) (by kernel_rfl) (by kernel_rfl) (fun _ _ _ h => h) rfl ?_; clear hS a; intro a hS) | (refine Z_take0 (i := 4) hS rfl want_none (e_faK rfl ty_fo44_1) (listed' := [true, true, true, true, true, false, false, false, false]) rfl (by kernel_rfl) (by kernel_rfl) (by kernel_rfl) (fun _ _ _ h => h) rfl ?_; clear hS a; intro a hS)
    refine Z_take (i := 5) hS rfl want_none (e_load rfl (by repeat constructor) ty_sc42 (by rfl)) (listed' := [true, true, true, true, true, true, false, false, false]) rfl (by kernel_rfl) (by kernel_rfl) (by kernel_rfl) (by kernel_rfl) (by kernel_rfl) (sub_cons (by repeat constructor) (sub_cons (by repeat constructor) sub_nil)) (fun _ _ _ h => h) rfl ?_; clear hS a; intro a hS
    refine Z_one (i := 6) rfl (want_none a hS.sl) (listed' := [true, true, true, true, true, true, true, false, false]) rfl (by kernel_rfl) (s_callN hS (.cons rfl (.cons rfl .nil)) cf58 rfl (add_P p q c1 c2 (dgs x.natAbs) (dgs y.natAbs) (inR_dgs _) (inR_dgs _) N (by omega) hx hy _ (hS.ok _ (by repeat (first | exact .head _ | refine .tail _ ?_)))) ?_); clear hS a; (try clear w); intro x16 a w hS
    obtain ⟨⟨l, sv⟩, hin, hnv, hll⟩ := x16
    simp only at hin hnv hll
    obtain ⟨p5, c5, e5, h4, h5, h6, h7⟩ := own_digs (hS.get (X := digA (l, sv)) (by repeat (first | exact .head _ | refine .tail _ ?_)))
    have e5 : sv = sliceV p5 l.length c5 := e5
    subst e5
    have hT := trim_P (decide (x < 0)) p5 c5 h4 l hin h5 (by omega) w h6 h7
    rw [show sgn (decide (x < 0)) (nv l) = x + y by rw [nv_dgs, nv_dgs] at hnv; unfold sgn; by_cases hneg : x < 0 <;> simp [hneg] <;> omega] at hT
    refine Z_and hS (sub_cons (by repeat constructor) (sub_cons (by repeat constructor) sub_nil)) ?_
    refine Z_one (i := 7) rfl (want_none a hS.sl) (listed' := [true, true, true, true, true, true, true, true, false]) rfl (by kernel_rfl) (s_callN hS (.cons rfl (.cons rfl .nil)) cf57 rfl (hT) ?_); clear hS a; (try clear w); intro x17 a w hS
    refine Z_and hS (sub_cons (by repeat constructor) (sub_cons (by repeat constructor) sub_nil)) ?_
    refine Z_one (i := 8) rfl (want_none a hS.sl) (listed' := [true, true, true, true, true, true, true, true, true]) rfl (by kernel_rfl) (s_storeA hS rfl rfl ty_sz44 (by repeat constructor) (by rfl) (by rfl) (by rfl) ?_); clear hS; (try clear w); intro w hS
    refine Z_last (by simp) ?_
    refine Z_done (by kernel_rfl) ?_
    refine n_then ?_
    refine wp_ret ?_
    refine r_then ?_
    refine c_ret1 hS Try.results23 (.cellA rfl (by repeat constructor) ty_st44 ty_sz44 (by rfl)) ?_
    exact ⟨x17, rfl, hS.chg, hS.new (X := bigA (x + y) x17.1.1) (by repeat (first | exact .head _ | refine .tail _ ?_)) rfl⟩
  ·
    have hdiff : ¬ (x < 0 ↔ y < 0) := by simpa using hc9
    refine wp_skip ?_
    refine n_then ?_
    refine c_seq ?_
    refine c_seq ?_
    refine c_region ?_
    first | (refine L_op (s_e hS (e_fa0 rfl ty_fo44_1) rfl ?_); clear hS a; intro a hS) | (refine L_op (s_e hS (e_faK rfl ty_fo44_1) rfl ?_); clear hS a; intro a hS)
    refine L_op (s_e hS (e_load rfl (by repeat constructor) ty_sc42 (by rfl)) rfl ?_); clear hS a; intro a hS
    first | (refine L_op (s_e hS (e_fa0 rfl ty_fo44_1) rfl ?_); clear hS a; intro a hS) | (refine L_op (s_e hS (e_faK rfl ty_fo44_1) rfl ?_); clear hS a; intro a hS)
    refine L_op (s_e hS (e_load rfl (by repeat constructor) ty_sc42 (by rfl)) rfl ?_); clear hS a; intro a hS
    refine L_op (s_callP hS (.cons rfl (.cons rfl .nil)) cf59 rfl (cmp_P p q c1 c2 x.natAbs y.natAbs (by omega) _ (hS.ok _ (by repeat (first | exact .head _ | refine .tail _ ?_)))) ?_); clear hS a; (try clear w); intro a w hS
    refine L_op (s_e hS (e_bin rfl rfl rfl) rfl ?_); clear hS a; intro a hS
    refine L_nil ?_
    refine n_then ?_
    first | refine c_ifD hS rfl (fun hc23 => ?_) (fun hc23 => ?_) | refine c_if hS rfl (fun hc23 => ?_) (fun hc23 => ?_)
    ·
      have hge : y.natAbs ≤ x.natAbs := by
        unfold cmpN at hc23
        split at hc23
        · omega
        · omega
      have hlm := dgs_len_mono hge
      refine c_seq ?_
      refine c_drawS [8] (by kernel_rfl) hS (sub_cons (X := .blk b2 _ _) (by repeat constructor) (sub_cons (X := .blk b3 _ _) (by repeat constructor) sub_nil)) ?_; clear hS; (try clear w); intro w hS
      simp only [List.length_cons, List.length_nil, Nat.zero_add, Nat.reduceAdd, List.replicate]
      first | (refine Z_take0 (i := 0) hS rfl want_none (e_fa0 rfl ty_fo44_0) (listed' := [true, false, false, false, false, false, false, false, false]) rfl (by kernel_rfl) (by kernel_rfl) (by kernel_rfl) (fun _ _ _ h => h) rfl ?_; clear hS a; intro a hS) | (refine Z_take0 (i := 0) hS rfl want_none (e_faK rfl ty_fo44_0) (listed' := [true, false, false, false, false, false, false, false, false]) rfl (by kernel_rfl) (by kernel_rfl) (by kernel_rfl) (fun _ _ _ h => h) rfl ?_; clear hS a; intro a hS)
      refine Z_take (i := 1) hS rfl want_none (e_load rfl (by repeat constructor) ty_sc4 (by rfl)) (listed' := [true, true, false, false, false, false, false, false, false]) rfl (by kernel_rfl) (by kernel_rfl) (by kernel_rfl) (by kernel_rfl) (by kernel_rfl) (sub_cons (by repeat constructor) (sub_cons (by repeat constructor) sub_nil)) (fun _ _ _ h => h) rfl ?_; clear hS a; intro a hS
      first | (refine Z_take0 (i := 2) hS rfl want_none (e_fa0 rfl ty_fo44_1) (listed' := [true, true, true, false, false, false, false, false, false]) rfl (by kernel_rfl) (by kernel_rfl) (by kernel_rfl) (fun _ _ _ h => h) rfl ?_; clear hS a; intro a hS) | (refine Z_take0 (i := 2) hS rfl want_none (e_faK rfl ty_fo44_1) (listed' := [true, true, true, false, false, false, false, false, false]) rfl (by kernel_rfl) (by kernel_rfl) (by kernel_rfl) (fun _ _ _ h => h) rfl ?_; clear hS a; intro a hS)
      refine Z_take (i := 3) hS rfl want_none (e_load rfl (by repeat constructor) ty_sc42 (by rfl)) (listed' := [true, true, true, true, false, false, false, false, false]) rfl (by kernel_rfl) (by kernel_rfl) (by kernel_rfl) (by kernel_rfl) (by kernel_rfl) (sub_cons (by repeat constructor) (sub_cons (by repeat constructor) sub_nil)) (fun _ _ _ h => h) rfl ?_; clear hS a; intro a hS
      first | (refine Z_take0 (i := 4) hS rfl want_none (e_fa0 rfl ty_fo44_1) (listed' := [true, true, true, true, true, false, false, false, false]) rfl (by kernel_rfl) (by kernel_rfl) (by kernel_rfl) (fun _ _ _ h => h) rfl ?_; clear hS a; intro a hS) | (refine Z_take0 (i := 4) hS rfl want_none (e_faK rfl ty_fo44_1) (listed' := [true, true, true, true, true, false, false, false, false]) rfl (by kernel_rfl) (by kernel_rfl) (by kernel_rfl) (fun _ _ _ h => h) rfl ?_; clear hS a; intro a hS)
      refine Z_take (i := 5) hS rfl want_none (e_load rfl (by repeat constructor) ty_sc42 (by rfl)) (listed' := [true, true, true, true, true, true, false, false, false]) rfl (by kernel_rfl) (by kernel_rfl) (by kernel_rfl) (by kernel_rfl) (by kernel_rfl) (sub_cons (by repeat constructor) (sub_cons (by repeat constructor) sub_nil)) (fun _ _ _ h => h) rfl ?_; clear hS a; intro a hS
      refine Z_one (i := 6) rfl (want_none a hS.sl) (listed' := [true, true, true, true, true, true, true, false, false]) rfl (by kernel_rfl) (s_callN hS (.cons rfl (.cons rfl .nil)) cf60 rfl (sub_P p q c1 c2 (dgs x.natAbs) (dgs y.natAbs) (inR_dgs _) (inR_dgs _) (by omega) hlm (by rw [nv_dgs, nv_dgs]; omega) _ (hS.ok _ (by repeat (first | exact .head _ | refine .tail _ ?_)))) ?_); clear hS a; (try clear w); intro x30 a w hS
      obtain ⟨⟨l, sv⟩, hin, hnv, hll⟩ := x30
      simp only at hin hnv hll
      obtain ⟨p5, c5, e5, h4, h5, h6, h7⟩ := own_digs (hS.get (X := digA (l, sv)) (by repeat (first | exact .head _ | refine .tail _ ?_)))
      have e5 : sv = sliceV p5 l.length c5 := e5
      subst e5
      have hT := trim_P (decide (x < 0)) p5 c5 h4 l hin h5 (by omega) w h6 h7
      rw [show sgn (decide (x < 0)) (nv l) = x + y by rw [nv_dgs, nv_dgs] at hnv; unfold sgn; by_cases hneg : x < 0 <;> simp [hneg] <;> omega] at hT
      refine Z_and hS (sub_cons (by repeat constructor) (sub_cons (by repeat constructor) sub_nil)) ?_
      refine Z_one (i := 7) rfl (want_none a hS.sl) (listed' := [true, true, true, true, true, true, true, true, false]) rfl (by kernel_rfl) (s_callN hS (.cons rfl (.cons rfl .nil)) cf57 rfl (hT) ?_); clear hS a; (try clear w); intro x31 a w hS
      refine Z_and hS (sub_cons (by repeat constructor) (sub_cons (by repeat constructor) sub_nil)) ?_
      refine Z_one (i := 8) rfl (want_none a hS.sl) (listed' := [true, true, true, true, true, true, true, true, true]) rfl (by kernel_rfl) (s_storeA hS rfl rfl ty_sz44 (by repeat constructor) (by rfl) (by rfl) (by rfl) ?_); clear hS; (try clear w); intro w hS
      refine Z_last (by simp) ?_
      refine Z_done (by kernel_rfl) ?_
      refine n_then ?_
      refine wp_ret ?_
      refine r_then ?_
      refine c_ret1 hS Try.results23 (.cellA rfl (by repeat constructor) ty_st44 ty_sz44 (by rfl)) ?_
      exact ⟨x31, rfl, hS.chg, hS.new (X := bigA (x + y) x31.1.1) (by repeat (first | exact .head _ | refine .tail _ ?_)) rfl⟩
    ·
      have hge : x.natAbs ≤ y.natAbs := by
        unfold cmpN at hc23
        split at hc23
        · omega
        · split at hc23 <;> omega
      have hlm := dgs_len_mono hge
      refine wp_skip ?_
      refine n_then ?_
      refine c_seq ?_
      refine c_drawS [8] (by kernel_rfl) hS (sub_cons (X := .blk b2 _ _) (by repeat constructor) (sub_cons (X := .blk b3 _ _) (by repeat constructor) sub_nil)) ?_; clear hS; (try clear w); intro w hS
      simp only [List.length_cons, List.length_nil, Nat.zero_add, Nat.reduceAdd, List.replicate]
      first | (refine Z_take0 (i := 0) hS rfl want_none (e_fa0 rfl ty_fo44_0) (listed' := [true, false, false, false, false, false, false, false, false]) rfl (by kernel_rfl) (by kernel_rfl) (by kernel_rfl) (fun _ _ _ h => h) rfl ?_; clear hS a; intro a hS) | (refine Z_take0 (i := 0) hS rfl want_none (e_faK rfl ty_fo44_0) (listed' := [true, false, false, false, false, false, false, false, false]) rfl (by kernel_rfl) (by kernel_rfl) (by kernel_rfl) (fun _ _ _ h => h) rfl ?_; clear hS a; intro a hS)
      refine Z_take (i := 1) hS rfl want_none (e_load rfl (by repeat constructor) ty_sc4 (by rfl)) (listed' := [true, true, false, false, false, false, false, false, false]) rfl (by kernel_rfl) (by kernel_rfl) (by kernel_rfl) (by kernel_rfl) (by kernel_rfl) (sub_cons (by repeat constructor) (sub_cons (by repeat constructor) sub_nil)) (fun _ _ _ h => h) rfl ?_; clear hS a; intro a hS
      first | (refine Z_take0 (i := 2) hS rfl want_none (e_fa0 rfl ty_fo44_1) (listed' := [true, true, true, false, false, false, false, false, false]) rfl (by kernel_rfl) (by kernel_rfl) (by kernel_rfl) (fun _ _ _ h => h) rfl ?_; clear hS a; intro a hS) | (refine Z_take0 (i := 2) hS rfl want_none (e_faK rfl ty_fo44_1) (listed' := [true, true, true, false, false, false, false, false, false]) rfl (by kernel_rfl) (by kernel_rfl) (by kernel_rfl) (fun _ _ _ h => h) rfl ?_; clear hS a; intro a hS)
      refine Z_take (i := 3) hS rfl want_none (e_load rfl (by repeat constructor) ty_sc42 (by rfl)) (listed' := [true, true, true, true, false, false, false, false, false]) rfl (by kernel_rfl) (by kernel_rfl) (by kernel_rfl) (by kernel_rfl) (by kernel_rfl) (sub_cons (by repeat constructor) (sub_cons (by repeat constructor) sub_nil)) (fun _ _ _ h => h) rfl ?_; clear hS a; intro a hS
      first | (refine Z_take0 (i := 4) hS rfl want_none (e_fa0 rfl ty_fo44_1) (listed' := [true, true, true, true, true, false, false, false, false]) rfl (by kernel_rfl) (by kernel_rfl) (by kernel_rfl) (fun _ _ _ h => h) rfl ?_; clear hS a; intro a hS) | (refine Z_take0 (i := 4) hS rfl want_none (e_faK rfl ty_fo44_1) (listed' := [true, true, true, true, true, false, false, false, false]) rfl (by kernel_rfl) (by kernel_rfl) (by kernel_rfl) (fun _ _ _ h => h) rfl ?_; clear hS a; intro a hS)
      refine Z_take (i := 5) hS rfl want_none (e_load rfl (by repeat constructor) ty_sc42 (by rfl)) (listed' := [true, true, true, true, true, true, false, false, false]) rfl (by kernel_rfl) (by kernel_rfl) (by kernel_rfl) (by kernel_rfl) (by kernel_rfl) (sub_cons (by repeat constructor) (sub_cons (by repeat constructor) sub_nil)) (fun _ _ _ h => h) rfl ?_; clear hS a; intro a hS
      refine Z_one (i := 6) rfl (want_none a hS.sl) (listed' := [true, true, true, true, true, true, true, false, false]) rfl (by kernel_rfl) (s_callN hS (.cons rfl (.cons rfl .nil)) cf60 rfl (sub_P q p c2 c1 (dgs y.natAbs) (dgs x.natAbs) (inR_dgs _) (inR_dgs _) (by omega) hlm (by rw [nv_dgs, nv_dgs]; omega) _ (two_swap (hS.ok (twoA p q _ _) (by repeat (first | exact .head _ | refine .tail _ ?_))))) ?_); clear hS a; (try clear w); intro x38 a w hS
      obtain ⟨⟨l, sv⟩, hin, hnv, hll⟩ := x38
      simp only at hin hnv hll
      obtain ⟨p5, c5, e5, h4, h5, h6, h7⟩ := own_digs (hS.get (X := digA (l, sv)) (by repeat (first | exact .head _ | refine .tail _ ?_)))
      have e5 : sv = sliceV p5 l.length c5 := e5
      subst e5
      have hT := trim_P (decide (y < 0)) p5 c5 h4 l hin h5 (by omega) w h6 h7
      rw [show sgn (decide (y < 0)) (nv l) = x + y by rw [nv_dgs, nv_dgs] at hnv; unfold sgn; by_cases hneg : y < 0 <;> simp [hneg] <;> omega] at hT
      refine Z_and hS (sub_cons (by repeat constructor) (sub_cons (by repeat constructor) sub_nil)) ?_
      refine Z_one (i := 7) rfl (want_none a hS.sl) (listed' := [true, true, true, true, true, true, true, true, false]) rfl (by kernel_rfl) (s_callN hS (.cons rfl (.cons rfl .nil)) cf57 rfl (hT) ?_); clear hS a; (try clear w); intro x39 a w hS
      refine Z_and hS (sub_cons (by repeat constructor) (sub_cons (by repeat constructor) sub_nil)) ?_
      refine Z_one (i := 8) rfl (want_none a hS.sl) (listed' := [true, true, true, true, true, true, true, true, true]) rfl (by kernel_rfl) (s_storeA hS rfl rfl ty_sz44 (by repeat constructor) (by rfl) (by rfl) (by rfl) ?_); clear hS; (try clear w); intro w hS
      refine Z_last (by simp) ?_
      refine Z_done (by kernel_rfl) ?_
      refine n_then ?_
      refine wp_ret ?_
      refine c_ret1 hS Try.results23 (.cellA rfl (by repeat constructor) ty_st44 ty_sz44 (by rfl)) ?_
      exact ⟨x39, rfl, hS.chg, hS.new (X := bigA (x + y) x39.1.1) (by repeat (first | exact .head _ | refine .tail _ ?_)) rfl⟩
/-- one slice of digits that came in. -/
def oneA (p : Option (Nat × Nat)) (xs : List Int) : Asn := rowP p 1 (xs.map encD)
section
variable {n : Nat} {F0 : Nat → Prop} {w0 w : World} {a : Act} {L : List (Nat × Value)} {Γ : List Asn}
theorem two_bb (hS : St n F0 w0 a w L Γ) {x y : Int} {b c : Nat} (h1 : bigA x b ∈ Γ) (h2 : bigA y c ∈ Γ) : (twoA (some (b, 0)) (some (c, 0)) (dgs x.natAbs) (dgs y.natAbs)).ok w :=
  two_ok (hS.get h1) (hS.get h2) (fun r e => by cases e; exact (hS.ok _ h1).lt b rfl) (fun r e => by cases e; exact (hS.ok _ h2).lt c rfl)
theorem two_ob (hS : St n F0 w0 a w L Γ) {xs : List Int} {y : Int} {p : Option (Nat × Nat)} {c : Nat} (h1 : oneA p xs ∈ Γ) (h2 : bigA y c ∈ Γ) : (twoA p (some (c, 0)) xs (dgs y.natAbs)).ok w :=
  two_ok (hS.get h1) (hS.get h2) (fun r e => (hS.ok _ h1).lt r.1 ⟨r.2, e⟩) (fun r e => by cases e; exact (hS.ok _ h2).lt c rfl)
theorem two_bo (hS : St n F0 w0 a w L Γ) {xs : List Int} {y : Int} {p : Option (Nat × Nat)} {c : Nat} (h1 : bigA y c ∈ Γ) (h2 : oneA p xs ∈ Γ) : (twoA (some (c, 0)) p (dgs y.natAbs) xs).ok w :=
  two_ok (hS.get h1) (hS.get h2) (fun r e => by cases e; exact (hS.ok _ h1).lt c rfl) (fun r e => (hS.ok _ h2).lt r.1 ⟨r.2, e⟩)
theorem row_b (hS : St n F0 w0 a w L Γ) {x : Int} {b : Nat} (h1 : bigA x b ∈ Γ) : RowP (some (b, 0)) 1 ((dgs x.natAbs).map encD) w ∧ ∀ r, some (b, 0) = some r → r.1 < w.heap.size :=
  ⟨hS.get h1, fun r e => by cases e; exact (hS.ok _ h1).lt b rfl⟩
end

theorem len20 {z : Int} (h : z.natAbs < 100000000000000000000000000000000000000000000000000000000000000000000000000000000) : (dgs z.natAbs).length ≤ 20 := dgs_length_le (Nat.lt_of_lt_of_le h (by decide))
end Go.Proofs.Ytheofhegdjjfgaa
