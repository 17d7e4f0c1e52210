/- Numbers by digits in base 10000 (exref), walked: BigNeg, BigSub, BigUint, Power. -/
import Derived.Test.YtheofhegdjjfgaaBig4
namespace Go.Proofs.Ytheofhegdjjfgaa
open Go.RowKit

set_option maxRecDepth 100000 in
theorem BigNeg_P (p : Option (Nat × Nat)) (c : Nat) (hp : p = none → c = 0) (x : Int) (hc : (dgs x.natAbs).length ≤ c) (hx : (dgs x.natAbs).length ≤ 1000000) (w0 : World) (h : RowP p 1 ((dgs x.natAbs).map encD) w0) (hb : ∀ r, p = some r → r.1 < w0.heap.size) :
    NewC Try.prog 56 [bigV x p c] w0 (fun r : At (-x) => bigV (-x) (some (r.1.1, 0)) r.1.2) (fun r => bigA (-x) r.1.1) := by
  refine c_enter [(0, bigV x p c)] [oneA p (dgs x.natAbs)] noB Try.func56 rfl Try.ntmps56 ⟨rfl, trivial⟩ rfl (by intro X hX; obtain rfl := List.mem_singleton.1 hX; exact ok_rowP h hb) (by simp) (by intro X hX hm; obtain rfl := List.mem_singleton.1 hX; cases hm) ?_
  intro a hS
  refine c_seq ?_
  refine c_region ?_
  refine L_op (s_boxA hS rfl rfl ?_); clear hS a; (try clear w); intro a w b1 hS
  refine L_op (s_alloc hS ty_z44 rfl ?_); clear hS a; (try clear w); intro a w b2 hS
  refine L_nil ?_
  refine n_then ?_
  refine c_seq ?_
  refine c_region ?_
  first | (refine L_op (s_e hS (e_fa0 rfl ty_fo44_0) rfl ?_); clear hS a; intro a hS) | (refine L_op (s_e hS (e_faK rfl ty_fo44_0) rfl ?_); clear hS a; intro a hS)
  refine L_op (s_e hS (e_load rfl (by repeat constructor) ty_sc4 (by rfl)) rfl ?_); clear hS a; intro a hS
  refine L_op (s_e hS (e_not rfl) rfl ?_); clear hS a; intro a hS
  first | (refine L_op (s_e hS (e_fa0 rfl ty_fo44_1) rfl ?_); clear hS a; intro a hS) | (refine L_op (s_e hS (e_faK rfl ty_fo44_1) rfl ?_); clear hS a; intro a hS)
  refine L_op (s_e hS (e_load rfl (by repeat constructor) ty_sc42 (by rfl)) rfl ?_); clear hS a; intro a hS
  have hT := trim_P (!decide (x < 0)) p c hp (dgs x.natAbs) (inR_dgs _) hc hx w (hS.get (X := oneA p (dgs x.natAbs)) (by repeat (first | exact .head _ | refine .tail _ ?_))) (fun q hq => (hS.ok (oneA p (dgs x.natAbs)) (by repeat (first | exact .head _ | refine .tail _ ?_))).lt q.1 ⟨q.2, hq⟩)
  rw [show sgn (!decide (x < 0)) (nv (dgs x.natAbs)) = -x by rw [nv_dgs]; unfold sgn; by_cases hneg : x < 0 <;> simp [hneg] <;> omega] at hT
  refine L_op (s_callN hS (.cons rfl (.cons rfl .nil)) cf57 rfl (hT) ?_); clear hS a; (try clear w); intro x8 a w hS
  refine L_op (s_storeA hS rfl rfl ty_sz44 (by repeat constructor) (by rfl) (by rfl) (by rfl) ?_); clear hS; (try clear w); intro w hS
  refine L_nil ?_
  refine n_then ?_
  refine wp_ret ?_
  refine c_ret1 hS Try.results56 (.cellA rfl (by repeat constructor) ty_st44 ty_sz44 (by rfl)) ?_
  exact ⟨x8, rfl, hS.chg, hS.new (X := bigA (-x) x8.1.1) (by repeat (first | exact .head _ | refine .tail _ ?_)) rfl⟩

set_option maxRecDepth 100000 in
theorem BigSub_P (p q : Option (Nat × Nat)) (c1 c2 : Nat) (hq0 : q = none → c2 = 0) (x y : Int) (hc : (dgs y.natAbs).length ≤ c2) (N : Nat) (hN : N ≤ 100000) (hx : (dgs x.natAbs).length ≤ N) (hy : (dgs y.natAbs).length ≤ N) (w0 : World) (h : (twoA p q (dgs x.natAbs) (dgs y.natAbs)).ok w0) :
    NewC Try.prog 21 [bigV x p c1, bigV y q c2] w0 (fun r : At (x - y) => bigV (x - y) (some (r.1.1, 0)) r.1.2) (fun r => bigA (x - y) r.1.1) := by
  have hny : (-y).natAbs = y.natAbs := by omega
  refine c_enter [(0, bigV x p c1), (1, bigV y q c2)] [twoA p q (dgs x.natAbs) (dgs y.natAbs)] noB Try.func21 rfl Try.ntmps21 ⟨rfl, rfl, trivial⟩ rfl (by intro X hX; obtain rfl := List.mem_singleton.1 hX; exact h) (by simp) (by intro X hX hm; obtain rfl := List.mem_singleton.1 hX; cases hm) ?_
  intro a hS
  refine c_seq ?_
  refine c_region ?_
  refine L_op (s_boxA hS rfl rfl ?_); clear hS a; (try clear w); intro a w b2 hS
  refine L_op (s_boxA hS rfl rfl ?_); clear hS a; (try clear w); intro a w b3 hS
  refine L_op (s_alloc hS ty_z44 rfl ?_); clear hS a; (try clear w); intro a w b4 hS
  refine L_nil ?_
  refine n_then ?_
  refine c_seq ?_
  refine c_drawS [4] (by kernel_rfl) hS (sub_cons (X := .blk b2 _ _) (by repeat constructor) (sub_cons (X := .blk b3 _ _) (by repeat constructor) sub_nil)) ?_; clear hS; (try clear w); intro w hS
  simp only [List.length_cons, List.length_nil, Nat.zero_add, Nat.reduceAdd, List.replicate]
  refine Z_take (i := 0) hS rfl want_none (e_loadA rfl (by repeat constructor) ty_st44 ty_sz44 (by rfl)) (listed' := [true, false, false, false, false]) rfl (by kernel_rfl) (by kernel_rfl) (by kernel_rfl) (by kernel_rfl) (by kernel_rfl) (sub_cons (by repeat constructor) (sub_cons (by repeat constructor) sub_nil)) (fun _ _ _ h => h) rfl ?_; clear hS a; intro a hS
  refine Z_take (i := 1) hS rfl want_none (e_loadA rfl (by repeat constructor) ty_st44 ty_sz44 (by rfl)) (listed' := [true, true, false, false, false]) rfl (by kernel_rfl) (by kernel_rfl) (by kernel_rfl) (by kernel_rfl) (by kernel_rfl) (sub_cons (by repeat constructor) (sub_cons (by repeat constructor) sub_nil)) (fun _ _ _ h => h) rfl ?_; clear hS a; intro a hS
  refine Z_one (i := 2) rfl (want_none a hS.sl) (listed' := [true, true, true, false, false]) rfl (by kernel_rfl) (s_callN hS (.cons rfl .nil) cf56 rfl (BigNeg_P q c2 hq0 y hc (by omega) _ (hS.get (X := twoA p q _ _) (by repeat (first | exact .head _ | refine .tail _ ?_))).2 (fun r e => (hS.ok (twoA p q _ _) (by repeat (first | exact .head _ | refine .tail _ ?_))).lt r.1 (.inr ⟨r.2, e⟩))) ?_); clear hS a; (try clear w); intro x7 a w hS
  refine Z_and hS (sub_cons (by repeat constructor) (sub_cons (by repeat constructor) sub_nil)) ?_
  have hT := BigAdd_P p (some (x7.1.1, 0)) c1 x7.1.2 x (-y) N hN hx (by rw [hny]; exact hy) w (two_ok (hS.get (X := twoA p q _ _) (by repeat (first | exact .head _ | refine .tail _ ?_))).1 (hS.get (X := bigA (-y) x7.1.1) (by repeat (first | exact .head _ | refine .tail _ ?_))) (fun r e => (hS.ok (twoA p q _ _) (by repeat (first | exact .head _ | refine .tail _ ?_))).lt r.1 (.inl ⟨r.2, e⟩)) (fun r e => by cases e; exact (hS.ok (bigA (-y) x7.1.1) (by repeat (first | exact .head _ | refine .tail _ ?_))).lt x7.1.1 rfl))
  rw [show x + -y = x - y by omega] at hT
  refine Z_one (i := 3) rfl (want_none a hS.sl) (listed' := [true, true, true, true, false]) rfl (by kernel_rfl) (s_callN hS (.cons rfl (.cons rfl .nil)) cf23 rfl (hT) ?_); clear hS a; (try clear w); intro x8 a w hS
  refine Z_and hS (sub_cons (by repeat constructor) (sub_cons (by repeat constructor) sub_nil)) ?_
  refine Z_one (i := 4) rfl (want_none a hS.sl) (listed' := [true, true, true, true, true]) rfl (by kernel_rfl) (s_storeA hS rfl rfl ty_sz44 (by repeat constructor) (by rfl) (by rfl) (by rfl) ?_); clear hS; (try clear w); intro w hS
  refine Z_last (by simp) ?_
  refine Z_done (by kernel_rfl) ?_
  refine n_then ?_
  refine wp_ret ?_
  refine c_ret1 hS Try.results21 (.cellA rfl (by repeat constructor) ty_st44 ty_sz44 (by rfl)) ?_
  exact ⟨x8, rfl, hS.chg, hS.new (X := bigA (x - y) x8.1.1) (by repeat (first | exact .head _ | refine .tail _ ?_)) rfl⟩

theorem wrap_u64 {m : Int} (h : 0 ≤ m ∧ m ≤ 18446744073709551615) : IntKind.u64.wrap m = m := IntWalk.u64_in _ (by omega)
theorem dgs_two (k : Nat) (hk : k ≤ 200) : (dgs ((2 : Int) ^ k).natAbs).length ≤ 50 := by
  refine dgs_length_le ?_
  have h1 : ((2 : Int) ^ k).natAbs = 2 ^ k := by rw [Int.natAbs_pow]; rfl
  rw [h1]
  have h2 : 2 ^ k ≤ 2 ^ 200 := Nat.pow_le_pow_right (by decide) hk
  have h3 : 2 ^ 200 < 10000 ^ 50 := by decide +kernel
  omega
end Go.Proofs.Ytheofhegdjjfgaa

