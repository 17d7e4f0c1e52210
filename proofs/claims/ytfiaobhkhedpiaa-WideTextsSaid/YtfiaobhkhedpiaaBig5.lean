/- Numbers by digits in base 10000 (exref), walked: BigNeg, BigSub, BigUint, Power. -/
import Derived.Test.YtfiaobhkhedpiaaBig4
namespace Go.Proofs.Ytfiaobhkhedpiaa
open Go.RowKit

set_option maxRecDepth 100000 in
theorem BigNeg_P (p : Option (Nat × Nat)) (c : Nat) (hp : p = none → c = 0) (x : Int) (hc : (dgs x.natAbs).length ≤ c) (hx : (dgs x.natAbs).length ≤ 1000000) (w0 : World) (h : RowP p 1 ((dgs x.natAbs).map encD) w0) (hb : ∀ r, p = some r → r.1 < w0.heap.size) :
    NewC Try.prog 53 [bigV x p c] w0 (fun r : At (-x) => bigV (-x) (some (r.1.1, 0)) r.1.2) (fun r => bigA (-x) r.1.1) := by
  refine c_enter [(0, bigV x p c)] [oneA p (dgs x.natAbs)] noB Try.func53 rfl Try.ntmps53 ⟨rfl, trivial⟩ rfl (by intro X hX; obtain rfl := List.mem_singleton.1 hX; exact ok_rowP h hb) (by simp) (by intro X hX hm; obtain rfl := List.mem_singleton.1 hX; cases hm) ?_
  intro a hS
  refine c_seq ?_
  refine c_region ?_
  refine L_op (s_boxA hS rfl rfl ?_); clear hS a; (try clear w); intro a w b1 hS
  refine L_op (s_alloc hS ty_z47 rfl ?_); clear hS a; (try clear w); intro a w b2 hS
  refine L_nil ?_
  refine n_then ?_
  refine c_seq ?_
  refine c_region ?_
  first | (refine L_op (s_e hS (e_fa0 rfl ty_fo47_0) rfl ?_); clear hS a; intro a hS) | (refine L_op (s_e hS (e_faK rfl ty_fo47_0) rfl ?_); clear hS a; intro a hS)
  refine L_op (s_e hS (e_load rfl (by repeat constructor) ty_sc4 (by rfl)) rfl ?_); clear hS a; intro a hS
  refine L_op (s_e hS (e_not rfl) rfl ?_); clear hS a; intro a hS
  first | (refine L_op (s_e hS (e_fa0 rfl ty_fo47_1) rfl ?_); clear hS a; intro a hS) | (refine L_op (s_e hS (e_faK rfl ty_fo47_1) rfl ?_); clear hS a; intro a hS)
  refine L_op (s_e hS (e_load rfl (by repeat constructor) ty_sc23 (by rfl)) rfl ?_); clear hS a; intro a hS
  have hT := trim_P (!decide (x < 0)) p c hp (dgs x.natAbs) (inR_dgs _) hc hx w (hS.get (X := oneA p (dgs x.natAbs)) (by repeat (first | exact .head _ | refine .tail _ ?_))) (fun q hq => (hS.ok (oneA p (dgs x.natAbs)) (by repeat (first | exact .head _ | refine .tail _ ?_))).lt q.1 ⟨q.2, hq⟩)
  rw [show sgn (!decide (x < 0)) (nv (dgs x.natAbs)) = -x by rw [nv_dgs]; unfold sgn; by_cases hneg : x < 0 <;> simp [hneg] <;> omega] at hT
  refine L_op (s_callN hS (.cons rfl (.cons rfl .nil)) cf67 rfl (hT) ?_); clear hS a; (try clear w); intro x8 a w hS
  refine L_op (s_storeA hS rfl rfl ty_sz47 (by repeat constructor) (by rfl) (by rfl) (by rfl) ?_); clear hS; (try clear w); intro w hS
  refine L_nil ?_
  refine n_then ?_
  refine wp_ret ?_
  refine c_ret1 hS Try.results53 (.cellA rfl (by repeat constructor) ty_st47 ty_sz47 (by rfl)) ?_
  exact ⟨x8, rfl, hS.chg, hS.new (X := bigA (-x) x8.1.1) (by repeat (first | exact .head _ | refine .tail _ ?_)) rfl⟩

set_option maxRecDepth 100000 in
theorem BigSub_P (p q : Option (Nat × Nat)) (c1 c2 : Nat) (hq0 : q = none → c2 = 0) (x y : Int) (hc : (dgs y.natAbs).length ≤ c2) (N : Nat) (hN : N ≤ 100000) (hx : (dgs x.natAbs).length ≤ N) (hy : (dgs y.natAbs).length ≤ N) (w0 : World) (h : (twoA p q (dgs x.natAbs) (dgs y.natAbs)).ok w0) :
    NewC Try.prog 51 [bigV x p c1, bigV y q c2] w0 (fun r : At (x - y) => bigV (x - y) (some (r.1.1, 0)) r.1.2) (fun r => bigA (x - y) r.1.1) := by
  have hny : (-y).natAbs = y.natAbs := by omega
  refine c_enter [(0, bigV x p c1), (1, bigV y q c2)] [twoA p q (dgs x.natAbs) (dgs y.natAbs)] noB Try.func51 rfl Try.ntmps51 ⟨rfl, rfl, trivial⟩ rfl (by intro X hX; obtain rfl := List.mem_singleton.1 hX; exact h) (by simp) (by intro X hX hm; obtain rfl := List.mem_singleton.1 hX; cases hm) ?_
  intro a hS
  refine c_seq ?_
  refine c_region ?_
  refine L_op (s_boxA hS rfl rfl ?_); clear hS a; (try clear w); intro a w b2 hS
  refine L_op (s_boxA hS rfl rfl ?_); clear hS a; (try clear w); intro a w b3 hS
  refine L_op (s_alloc hS ty_z47 rfl ?_); clear hS a; (try clear w); intro a w b4 hS
  refine L_nil ?_
  refine n_then ?_
  refine c_seq ?_
  refine c_drawS [4] (by kernel_rfl) hS (sub_cons (X := .blk b2 _ _) (by repeat constructor) (sub_cons (X := .blk b3 _ _) (by repeat constructor) sub_nil)) ?_; clear hS; (try clear w); intro w hS
  simp only [List.length_cons, List.length_nil, Nat.zero_add, Nat.reduceAdd, List.replicate]
  refine Z_take (i := 0) hS rfl want_none (e_loadA rfl (by repeat constructor) ty_st47 ty_sz47 (by rfl)) (listed' := [true, false, false, false, false]) rfl (by kernel_rfl) (by kernel_rfl) (by kernel_rfl) (by kernel_rfl) (by kernel_rfl) (sub_cons (by repeat constructor) (sub_cons (by repeat constructor) sub_nil)) (fun _ _ _ h => h) rfl ?_; clear hS a; intro a hS
  refine Z_take (i := 1) hS rfl want_none (e_loadA rfl (by repeat constructor) ty_st47 ty_sz47 (by rfl)) (listed' := [true, true, false, false, false]) rfl (by kernel_rfl) (by kernel_rfl) (by kernel_rfl) (by kernel_rfl) (by kernel_rfl) (sub_cons (by repeat constructor) (sub_cons (by repeat constructor) sub_nil)) (fun _ _ _ h => h) rfl ?_; clear hS a; intro a hS
  refine Z_one (i := 2) rfl (want_none a hS.sl) (listed' := [true, true, true, false, false]) rfl (by kernel_rfl) (s_callN hS (.cons rfl .nil) cf53 rfl (BigNeg_P q c2 hq0 y hc (by omega) _ (hS.get (X := twoA p q _ _) (by repeat (first | exact .head _ | refine .tail _ ?_))).2 (fun r e => (hS.ok (twoA p q _ _) (by repeat (first | exact .head _ | refine .tail _ ?_))).lt r.1 (.inr ⟨r.2, e⟩))) ?_); clear hS a; (try clear w); intro x7 a w hS
  refine Z_and hS (sub_cons (by repeat constructor) (sub_cons (by repeat constructor) sub_nil)) ?_
  have hT := BigAdd_P p (some (x7.1.1, 0)) c1 x7.1.2 x (-y) N hN hx (by rw [hny]; exact hy) w (two_ok (hS.get (X := twoA p q _ _) (by repeat (first | exact .head _ | refine .tail _ ?_))).1 (hS.get (X := bigA (-y) x7.1.1) (by repeat (first | exact .head _ | refine .tail _ ?_))) (fun r e => (hS.ok (twoA p q _ _) (by repeat (first | exact .head _ | refine .tail _ ?_))).lt r.1 (.inl ⟨r.2, e⟩)) (fun r e => by cases e; exact (hS.ok (bigA (-y) x7.1.1) (by repeat (first | exact .head _ | refine .tail _ ?_))).lt x7.1.1 rfl))
  rw [show x + -y = x - y by omega] at hT
  refine Z_one (i := 3) rfl (want_none a hS.sl) (listed' := [true, true, true, true, false]) rfl (by kernel_rfl) (s_callN hS (.cons rfl (.cons rfl .nil)) cf23 rfl (hT) ?_); clear hS a; (try clear w); intro x8 a w hS
  refine Z_and hS (sub_cons (by repeat constructor) (sub_cons (by repeat constructor) sub_nil)) ?_
  refine Z_one (i := 4) rfl (want_none a hS.sl) (listed' := [true, true, true, true, true]) rfl (by kernel_rfl) (s_storeA hS rfl rfl ty_sz47 (by repeat constructor) (by rfl) (by rfl) (by rfl) ?_); clear hS; (try clear w); intro w hS
  refine Z_last (by simp) ?_
  refine Z_done (by kernel_rfl) ?_
  refine n_then ?_
  refine wp_ret ?_
  refine c_ret1 hS Try.results51 (.cellA rfl (by repeat constructor) ty_st47 ty_sz47 (by rfl)) ?_
  exact ⟨x8, rfl, hS.chg, hS.new (X := bigA (x - y) x8.1.1) (by repeat (first | exact .head _ | refine .tail _ ?_)) rfl⟩

theorem wrap_u64 {m : Int} (h : 0 ≤ m ∧ m ≤ 18446744073709551615) : IntKind.u64.wrap m = m := IntWalk.u64_in _ (by omega)
set_option maxRecDepth 100000 in
theorem BigUint_P (z : Int) (hz : 0 ≤ z ∧ z ≤ 18446744073709551615) (w0 : World) :
    NewC Try.prog 88 [.int .u64 z] w0 (fun y : At z => bigV z (some (y.1.1, 0)) y.1.2) (fun y => bigA z y.1.1) := by
  have hlz : (dgs z.natAbs).length ≤ 5 := dgs_length_le (by omega)
  refine c_enter [(0, .int .u64 z)] [] noB Try.func88 rfl Try.ntmps88 ⟨rfl, trivial⟩ rfl (by simp) (by simp) (by simp) ?_
  intro a hS
  refine c_seq ?_
  refine c_region ?_
  refine L_op (s_alloc hS ty_z47 rfl ?_); clear hS a; (try clear w); intro a w b2 hS
  refine L_nil ?_
  refine n_then ?_
  refine c_seq ?_
  refine c_region ?_
  refine L_op (s_e hS (e_assign rfl) rfl ?_); clear hS a; intro a hS
  refine L_nil ?_
  refine n_then ?_
  refine c_seq ?_
  refine wp_block ?_
  skip
  refine c_loop (γ := (Int × List Int × Value)) (fun G a w => St 16 noB w0 a w [(0, .int .u64 G.1), (2, .pointer (some ⟨b2, 0, none⟩)), (3, G.2.2)] [ownA 3 1 G.2.2 G.2.1.length (G.2.1.flatMap encD), .blk b2 [.bool false, .slice none 0 0] 47] ∧ G.2.1 ++ dgs G.1.natAbs = dgs z.natAbs ∧ 0 ≤ G.1 ∧ G.1 ≤ 18446744073709551615) (fun G => G.1.natAbs) (z, [], .slice none 0 0) ⟨(hS.own_nil 3 1).slots ⟨rfl, rfl, rfl, trivial⟩, rfl, hz⟩ ?_
  clear hS a; (try clear w); intro G a w hI
  obtain ⟨n, l, sv⟩ := G
  obtain ⟨hS, hl, hn⟩ := hI
  simp only at hS hl hn
  refine c_seq ?_
  refine c_seq ?_
  refine c_region ?_
  refine L_op (s_e hS (e_move rfl) rfl ?_); clear hS a; intro a hS
  refine L_op (s_e hS (e_bin rfl rfl rfl) rfl ?_); clear hS a; intro a hS
  refine L_nil ?_
  refine n_then ?_
  first | refine c_ifD hS rfl (fun hc5 => ?_) (fun hc5 => ?_) | refine c_if hS rfl (fun hc5 => ?_) (fun hc5 => ?_)
  ·
    have hn0 : n.natAbs ≠ 0 := by omega
    have hll : l.length < 5 := by
      have := congrArg List.length hl
      rw [dgs_pos hn0, List.length_append, List.length_cons] at this
      omega
    have e1 : (l ++ [n % 10000]).flatMap encD = l.flatMap encD ++ [.int .i64 (n % 10000)] := by simp [encD]
    refine wp_skip ?_
    refine n_then ?_
    refine wp_block ?_
    refine c_seq ?_
    refine c_region ?_
    refine L_op (s_e hS (e_move rfl) rfl ?_); clear hS a; intro a hS
    refine L_op (s_e hS (e_move rfl) rfl ?_); clear hS a; intro a hS
    first | (refine L_op (s_e hS (e_remN rfl rfl (by omega)) rfl ?_); clear hS a; intro a hS) | (refine L_op (s_e hS (e_rem rfl rfl (by omega)) rfl ?_); clear hS a; intro a hS)
    first | (refine L_op (s_e hS (e_convN rfl ty_u58 ty_u3 (by omega)) rfl ?_); clear hS a; intro a hS) | (refine L_op (s_e hS (e_conv rfl ty_u58 ty_u3) rfl ?_); clear hS a; intro a hS)
    refine L_op (s_bslice hS ty_sl23 ty_sz3 ty_z3 rfl rfl rfl rfl (.one rfl rfl rfl .nil) rfl ?_); clear hS a; (try clear w); intro a w b10 hS
    refine L_op (s_append1 hS rfl rfl ty_sl23 ty_sz3 ty_by3 ty_z3 rfl rfl rfl (by repeat constructor) (by repeat constructor) (by rfl) (by rfl) (fun _ => (by repeat constructor)) (by omega) ?_); clear hS a; (try clear w); intro v11 a w hv11 hS
    refine L_op (s_e hS (e_assign rfl) rfl ?_); clear hS a; intro a hS
    refine L_nil ?_
    refine n_then ?_
    refine c_region ?_
    refine L_op (s_e hS (e_move rfl) rfl ?_); clear hS a; intro a hS
    refine L_op (s_e hS (e_quo rfl rfl (by decide)) rfl ?_); clear hS a; intro a hS
    rw [Int.tdiv_eq_ediv_of_nonneg hn.1, wrap_u64 (by omega)] at hS
    refine L_op (s_e hS (e_assign rfl) rfl ?_); clear hS a; intro a hS
    refine L_nil ?_
    refine n_block ?_
    refine ⟨(n / 10000, l ++ [n % 10000], v11), by simp only; omega, ?_, ?_, by simp only; omega⟩
    · simp only [List.length_append, List.length_cons, List.length_nil, Nat.zero_add, e1]
      exact (hS.drop (by repeat (first | exact List.Sublist.refl _ | apply List.Sublist.cons_cons | apply List.Sublist.cons))).slots (by exact ⟨rfl, rfl, rfl, trivial⟩)
    · show l ++ [n % 10000] ++ dgs (n / 10000).natAbs = _
      rw [← hl, dgs_pos hn0, show (n / 10000).natAbs = n.natAbs / 10000 by omega, show ((n.natAbs % 10000 : Nat) : Int) = n % 10000 by omega]; simp
  ·
    obtain rfl : n = 0 := by omega
    rw [show (0 : Int).natAbs = 0 from rfl, dgs_zero, List.append_nil] at hl
    obtain ⟨p4, c4, rfl, h4, h5, _, _⟩ := own_digs (hS.get (X := ownA 3 1 sv l.length (l.flatMap encD)) (by repeat (first | exact .head _ | refine .tail _ ?_)))
    refine wp_exit ?_
    refine x_then (x_then (x_hit ?_))
    refine n_then ?_
    refine c_seq ?_
    refine c_region ?_
    refine L_op (s_e hS (e_move rfl) rfl ?_); clear hS a; intro a hS
    obtain ⟨p5, c5, e5, _, _, h6, h7⟩ := own_digs (hS.get (X := ownA 3 1 (sliceV p4 l.length c4) l.length (l.flatMap encD)) (by repeat (first | exact .head _ | refine .tail _ ?_)))
    obtain ⟨rfl, rfl⟩ := sliceV_inj e5
    have hT := trim_P false p4 c4 h4 l (by rw [hl]; exact inR_dgs _) h5 (by rw [hl]; omega) w h6 h7
    rw [show sgn false (nv l) = z by rw [hl, nv_dgs]; unfold sgn; simp; omega] at hT
    clear e5
    refine L_op (s_callN hS (.cons rfl (.cons rfl .nil)) cf67 rfl (hT) ?_); clear hS a; (try clear w); intro x15 a w hS
    refine L_op (s_storeA hS rfl rfl ty_sz47 (by repeat constructor) (by rfl) (by rfl) (by rfl) ?_); clear hS; (try clear w); intro w hS
    refine L_nil ?_
    refine n_then ?_
    refine wp_ret ?_
    refine c_ret1 hS Try.results88 (.cellA rfl (by repeat constructor) ty_st47 ty_sz47 (by rfl)) ?_
    exact ⟨x15, rfl, hS.chg, hS.new (X := bigA z x15.1.1) (by repeat (first | exact .head _ | refine .tail _ ?_)) rfl⟩

theorem dgs_two (k : Nat) (hk : k ≤ 200) : (dgs ((2 : Int) ^ k).natAbs).length ≤ 50 := by
  refine dgs_length_le ?_
  have h1 : ((2 : Int) ^ k).natAbs = 2 ^ k := by rw [Int.natAbs_pow]; rfl
  rw [h1]
  have h2 : 2 ^ k ≤ 2 ^ 200 := Nat.pow_le_pow_right (by decide) hk
  have h3 : 2 ^ 200 < 10000 ^ 50 := by decide +kernel
  omega
set_option maxRecDepth 100000 in
theorem Power_P (k : Nat) (hk : k ≤ 200) (w0 : World) :
    NewC Try.prog 87 [.int .i64 (k : Int)] w0 (fun y : At ((2 : Int) ^ k) => bigV ((2 : Int) ^ k) (some (y.1.1, 0)) y.1.2) (fun y => bigA ((2 : Int) ^ k) y.1.1) := by
  refine c_enter [(0, .int .i64 (k : Int))] [] noB Try.func87 rfl Try.ntmps87 ⟨rfl, trivial⟩ rfl (by simp) (by simp) (by simp) ?_
  intro a hS
  refine c_seq ?_
  refine c_region ?_
  refine L_op (s_alloc hS ty_z47 rfl ?_); clear hS a; (try clear w); intro a w b2 hS
  refine L_nil ?_
  refine n_then ?_
  refine c_seq ?_
  refine c_region ?_
  refine L_op (s_callN hS (.cons rfl .nil) cf24 rfl (BigOf_P 1 (by decide) _) ?_); clear hS a; (try clear w); intro x5 a w hS
  refine L_op (s_alloc hS ty_z47 rfl ?_); clear hS a; (try clear w); intro a w b3 hS
  refine L_op (s_storeA hS rfl rfl ty_sz47 (by repeat constructor) (by rfl) (by rfl) (by rfl) ?_); clear hS; (try clear w); intro w hS
  refine L_nil ?_
  refine n_then ?_
  refine c_seq ?_
  refine c_seq ?_
  refine c_region ?_
  refine L_op (s_e hS (e_assign rfl) rfl ?_); clear hS a; intro a hS
  refine L_nil ?_
  refine n_then ?_
  refine wp_block ?_
  skip
  refine c_loop (γ := Nat) (fun i a w => ∃ y : At ((2 : Int) ^ i), St 15 noB w0 a w [(0, .int .i64 (k : Int)), (2, .pointer (some ⟨b2, 0, none⟩)), (3, .pointer (some ⟨b3, 0, none⟩)), (4, .int .i64 (i : Int))] [.blk b3 [.bool (decide ((2 : Int) ^ i < 0)), sliceV (some (y.1.1, 0)) (dgs ((2 : Int) ^ i).natAbs).length y.1.2] 47, bigA ((2 : Int) ^ i) y.1.1, .blk b2 [.bool false, .slice none 0 0] 47] ∧ i ≤ k) (fun i => k - i) 0 ⟨x5, hS.slots ⟨rfl, rfl, rfl, rfl, trivial⟩, Nat.zero_le _⟩ ?_
  clear hS a; (try clear w); intro i a w hI
  obtain ⟨y, hS, hi⟩ := hI
  refine c_seq ?_
  refine c_seq ?_
  refine c_region ?_
  refine L_op (s_e hS (e_move rfl) rfl ?_); clear hS a; intro a hS
  refine L_op (s_e hS (e_move rfl) rfl ?_); clear hS a; intro a hS
  refine L_op (s_e hS (e_bin rfl rfl rfl) rfl ?_); clear hS a; intro a hS
  refine L_nil ?_
  refine n_then ?_
  first | refine c_ifD hS rfl (fun hc8 => ?_) (fun hc8 => ?_) | refine c_if hS rfl (fun hc8 => ?_) (fun hc8 => ?_)
  ·
    refine wp_skip ?_
    refine n_then ?_
    refine c_seq ?_
    refine wp_block ?_
    refine c_region ?_
    refine L_op (s_e hS (e_loadA rfl (by repeat constructor) ty_st47 ty_sz47 (by rfl)) rfl ?_); clear hS a; intro a hS
    refine L_op (s_e hS (e_loadA rfl (by repeat constructor) ty_st47 ty_sz47 (by rfl)) rfl ?_); clear hS a; intro a hS
    have hd := dgs_two i (by omega)
    have hl := (hS.ok (bigA ((2 : Int) ^ i) y.1.1) (by repeat (first | exact .head _ | refine .tail _ ?_))).lt y.1.1 rfl
    have hr := hS.get (X := bigA ((2 : Int) ^ i) y.1.1) (by repeat (first | exact .head _ | refine .tail _ ?_))
    have hT := BigAdd_P (some (y.1.1, 0)) (some (y.1.1, 0)) y.1.2 y.1.2 ((2 : Int) ^ i) ((2 : Int) ^ i) 50 (by decide) hd hd w (two_ok hr hr (fun r e => by cases e; exact hl) (fun r e => by cases e; exact hl))
    rw [show (2 : Int) ^ i + 2 ^ i = 2 ^ (i + 1) by rw [Int.pow_succ]; omega] at hT
    refine L_op (s_callN hS (.cons rfl (.cons rfl .nil)) cf23 rfl (hT) ?_); clear hS a; (try clear w); intro x13 a w hS
    refine L_op (s_storeA hS rfl rfl ty_sz47 (by repeat constructor) (by rfl) (by rfl) (by rfl) ?_); clear hS; (try clear w); intro w hS
    refine L_nil ?_
    refine n_block ?_
    refine n_then ?_
    refine c_region ?_
    refine L_op (s_e hS (e_move rfl) rfl ?_); clear hS a; intro a hS
    first | (refine L_op (s_e hS (e_binN rfl rfl rfl (by omega)) rfl ?_); clear hS a; intro a hS) | (refine L_op (s_e hS (e_bin rfl rfl rfl) rfl ?_); clear hS a; intro a hS)
    refine L_op (s_e hS (e_assign rfl) rfl ?_); clear hS a; intro a hS
    refine L_nil ?_
    exact ⟨i + 1, by omega, ⟨x13, ((hS.drop (.cons_cons _ (.cons_cons _ (.cons _ (.refl _))))).perm (List.Perm.swap _ _ _)).slots (by exact ⟨rfl, rfl, rfl, rfl, trivial⟩), by omega⟩⟩
  ·
    obtain rfl : i = k := by omega
    refine wp_exit ?_
    refine x_then (x_then (x_hit ?_))
    refine n_then ?_
    refine c_seq ?_
    refine c_region ?_
    refine L_op (s_e hS (e_loadA rfl (by repeat constructor) ty_st47 ty_sz47 (by rfl)) rfl ?_); clear hS a; intro a hS
    refine L_op (s_storeA hS rfl rfl ty_sz47 (by repeat constructor) (by rfl) (by rfl) (by rfl) ?_); clear hS; (try clear w); intro w hS
    refine L_nil ?_
    refine n_then ?_
    refine wp_ret ?_
    refine c_ret1 hS Try.results87 (.cellA rfl (by repeat constructor) ty_st47 ty_sz47 (by rfl)) ?_
    exact ⟨y, rfl, hS.chg, hS.new (X := bigA ((2 : Int) ^ i) y.1.1) (by repeat (first | exact .head _ | refine .tail _ ?_)) rfl⟩
end Go.Proofs.Ytfiaobhkhedpiaa

