/- Two 128-bit Ints compared; whether an answer is a number's. -/
import Derived.Test.YtfiaobhkhedpiaaBig7
import Derived.ChangeKeysEq
namespace Go.Proofs.Ytfiaobhkhedpiaa
open Go.RowKit

set_option maxRecDepth 100000 in
theorem eq_wide (x y c d : Int) (w : World) : (Op.equalIn (9999 + 1) 60 (.agg #[.int .u64 x, .int .u64 y]) (.agg #[.int .u64 c, .int .u64 d])).run Try.prog w = .ok (decide (x = c ∧ y = d)) w := by
  have hk : Try.prog.plainKey 58 = true := by kernel_rfl
  have p0 : ∀ a b w, (part 58 #[.int .u64 a, .int .u64 b] 0).run Try.prog w = .ok (.int .u64 a) w := fun a b w => run_part_plain w hk rfl
  have p1 : ∀ a b w, (part 58 #[.int .u64 a, .int .u64 b] 1).run Try.prog w = .ok (.int .u64 b) w := fun a b w => run_part_plain w hk rfl
  have q : ∀ a b w, (Op.equalIn 9999 58 (.int .u64 a) (.int .u64 b)).run Try.prog w = .ok (a == b) w := fun a b w => run_equalIn_int w 9998 58 .u64 .u64 a b Try.underlying58
  rw [run_equalIn_agg w 9999 60 _ _ (by kernel_rfl) (by kernel_rfl)]
  have hf : (Try.prog.fieldsOf 60) = #[⟨ "Hi", 58, 0, false, "", "", 0⟩, ⟨ "Lo", 58, 1, false, "", "", 8⟩] := by kernel_rfl
  rw [hf]
  simp only [Op.eqFields, Sem.run_bind, p0, p1, q, Result.andThen_ok, Sem.run_ite, Sem.run_pure]
  by_cases h1 : x = c <;> by_cases h2 : y = d <;> simp [h1, h2]
section
variable {n : Nat} {F0 : Nat → Prop} {w0 w : World} {a : Act} {L : List (Nat × Value)} {Γ : List Asn} {dst : Option Nat} {ty t' : Nat} {pos : String} {af : Array Edge} {g : Option (Nat × Bool)} {x y : Operand} {p q r s : Int}
theorem guard_wide : Try.prog.eqGuardType Try.prog.depth 60 = false := by kernel_rfl
theorem e_eqW (hx : ev L x = some (.agg [.int .u64 p, .int .u64 q].toArray)) (hy : ev L y = some (.agg [.int .u64 r, .int .u64 s].toArray)) : Ex Try.prog n a L Γ ⟨dst, .binOp .eql 60 x y t', ty, pos, af, g⟩ (.bool (decide (p = r ∧ q = s))) := fun hs w _ => by
  have h := run_eql_struct (P := Try.prog) w 60 #[.int .u64 p, .int .u64 q] #[.int .u64 r, .int .u64 s]
  rw [eq_wide] at h
  simp [execOp, hs.ev hx, hs.ev hy, run_eqGuard_agg w .eql 60 x y _ _ guard_wide, h, Result.andThen]
theorem e_neW (hx : ev L x = some (.agg [.int .u64 p, .int .u64 q].toArray)) (hy : ev L y = some (.agg [.int .u64 r, .int .u64 s].toArray)) : Ex Try.prog n a L Γ ⟨dst, .binOp .neq 60 x y t', ty, pos, af, g⟩ (.bool (decide (¬ (p = r ∧ q = s)))) := fun hs w _ => by
  have h := run_neq_struct (P := Try.prog) w 60 #[.int .u64 p, .int .u64 q] #[.int .u64 r, .int .u64 s]
  rw [eq_wide] at h
  simp [execOp, hs.ev hx, hs.ev hy, run_eqGuard_agg w .neq 60 x y _ _ guard_wide, h, Result.andThen]
end

theorem wV_zero {v : Int} (hv : Wd.fit v) : (Wd.hi v = 0 ∧ Wd.lo v = 0) ↔ v = 0 := by
  unfold Wd.fit at hv; unfold Wd.hi Wd.lo; omega
def isB (v e z : Int) : Prop := if Wd.fit z then e = 0 ∧ v = z else e = 16 ∧ v = 0
instance (v e z : Int) : Decidable (isB v e z) := by unfold isB; infer_instance
set_option maxRecDepth 100000 in
theorem is_P (v e z : Int) (p : Option (Nat × Nat)) (c : Nat) (hv : Wd.fit v) (hz : (dgs z.natAbs).length ≤ 1000) (w0 : World) (h : (oneA p (dgs z.natAbs)).ok w0) :
    PureC Try.prog 40 [wV v, .int .i64 e, bigV z p c] w0 (.bool (decide (isB v e z))) := by
  refine c_enter [(0, .agg [.int .u64 (Wd.hi v), .int .u64 (Wd.lo v)].toArray), (1, .int .i64 e), (2, bigV z p c)] [oneA p (dgs z.natAbs)] noB Try.func40 rfl Try.ntmps40 ⟨rfl, rfl, rfl, trivial⟩ rfl (by intro X hX; obtain rfl := List.mem_singleton.1 hX; exact h) (by simp) (by intro X hX hm; obtain rfl := List.mem_singleton.1 hX; cases hm) ?_
  intro a hS
  refine c_seq ?_
  refine c_region ?_
  refine L_op (s_boxA hS rfl rfl ?_); clear hS a; (try clear w); intro a w b3 hS
  refine L_op (s_boxA hS rfl rfl ?_); clear hS a; (try clear w); intro a w b5 hS
  refine L_op (s_e hS (e_assign rfl) rfl ?_); clear hS a; intro a hS
  refine L_nil ?_
  refine n_then ?_
  refine c_seq ?_
  refine c_seq ?_
  refine c_region ?_
  refine L_op (s_e hS (e_loadA rfl (by repeat constructor) ty_st47 ty_sz47 (by rfl)) rfl ?_); clear hS a; intro a hS
  refine L_op (s_callP hS (.cons rfl .nil) cf33 rfl (fits_P p c z hz _ (hS.ok _ (by repeat (first | exact .head _ | refine .tail _ ?_)))) ?_); clear hS a; (try clear w); intro a w hS
  refine L_op (s_e hS (e_not rfl) rfl ?_); clear hS a; intro a hS
  refine L_nil ?_
  refine n_then ?_
  first | refine c_ifD hS rfl (fun hc9 => ?_) (fun hc9 => ?_) | refine c_if hS rfl (fun hc9 => ?_) (fun hc9 => ?_)
  ·
    refine c_seq ?_
    refine c_region ?_
    refine L_op (s_e hS (e_move rfl) rfl ?_); clear hS a; intro a hS
    refine L_op (s_e hS (e_bin rfl rfl rfl) rfl ?_); clear hS a; intro a hS
    refine L_op (s_e hS (e_move rfl) rfl ?_); clear hS a; intro a hS
    (first | refine g_splitD (t := 12) hS rfl ?_ ?_ | refine g_split (t := 12) hS rfl ?_ ?_) <;> (clear hS; intro hg12 hS)
    ·
      refine L_go hS rfl rfl (s_e hS (e_loadA rfl (by repeat constructor) ty_st60 ty_sz60 (by rfl)) rfl ?_); clear hS a; intro a hS
      refine L_go hS rfl rfl (s_e hS (e_build ty_z60 ty_pl60 .nil) rfl ?_); clear hS a; intro a hS
      refine L_go hS rfl rfl (s_e hS (e_eqW rfl rfl) rfl ?_); clear hS a; intro a hS
      first | (refine L_op (s_e hS (e_pick_t rfl rfl) rfl ?_); clear hS a; intro a hS) | (refine L_op (s_e hS (e_pick_f rfl rfl) rfl ?_); clear hS a; intro a hS)
      refine L_op (s_e hS (e_assign rfl) rfl ?_); clear hS a; intro a hS
      refine L_nil ?_
      refine n_then ?_
      refine wp_ret ?_
      refine r_then ?_
      refine c_ret1 hS Try.results40 (.tmp rfl) ?_
      have hz' : ¬ Wd.fit z := by simpa using hc9
      refine ⟨?_, hS.chg⟩
      first
      | exact congrArg (fun b => Ending.returned (Value.bool b)) (decide_eq_decide.2 (by unfold isB; rw [if_neg hz', wV_zero hv]; simp [hg12]))
      | exact congrArg (fun b => Ending.returned (Value.bool b)) (decide_eq_false (by unfold isB; rw [if_neg hz']; simp [hg12])).symm
    ·
      refine L_skip_t hS rfl rfl rfl ?_; clear hS a; intro a hS
      refine L_skip_t hS rfl rfl rfl ?_; clear hS a; intro a hS
      refine L_skip_t hS rfl rfl rfl ?_; clear hS a; intro a hS
      first | (refine L_op (s_e hS (e_pick_t rfl rfl) rfl ?_); clear hS a; intro a hS) | (refine L_op (s_e hS (e_pick_f rfl rfl) rfl ?_); clear hS a; intro a hS)
      refine L_op (s_e hS (e_assign rfl) rfl ?_); clear hS a; intro a hS
      refine L_nil ?_
      refine n_then ?_
      refine wp_ret ?_
      refine r_then ?_
      refine c_ret1 hS Try.results40 (.tmp rfl) ?_
      have hz' : ¬ Wd.fit z := by simpa using hc9
      refine ⟨?_, hS.chg⟩
      first
      | exact congrArg (fun b => Ending.returned (Value.bool b)) (decide_eq_decide.2 (by unfold isB; rw [if_neg hz', wV_zero hv]; simp [hg12]))
      | exact congrArg (fun b => Ending.returned (Value.bool b)) (decide_eq_false (by unfold isB; rw [if_neg hz']; simp [hg12])).symm
  ·
    refine wp_skip ?_
    refine n_then ?_
    refine c_seq ?_
    refine c_drawS [] (by kernel_rfl) hS (sub_cons (X := .blk b3 _ _) (by repeat constructor) (sub_cons (X := .blk b5 _ _) (by repeat constructor) sub_nil)) ?_; clear hS; (try clear w); intro w hS
    simp only [List.length_cons, List.length_nil, Nat.zero_add, Nat.reduceAdd, List.replicate]
    refine Z_take0 (i := 0) hS rfl want_none (e_move rfl) (listed' := [true, false, false, false, false, false, false, false, false, false]) rfl (by kernel_rfl) (by kernel_rfl) (by kernel_rfl) (fun _ _ _ h => h) rfl ?_; clear hS a; intro a hS
    refine Z_take0 (i := 1) hS rfl want_none (e_bin rfl rfl rfl) (listed' := [true, true, false, false, false, false, false, false, false, false]) rfl (by kernel_rfl) (by kernel_rfl) (by kernel_rfl) (fun _ _ _ h => h) rfl ?_; clear hS a; intro a hS
    refine Z_take0 (i := 2) hS rfl want_none (e_move rfl) (listed' := [true, true, true, false, false, false, false, false, false, false]) rfl (by kernel_rfl) (by kernel_rfl) (by kernel_rfl) (fun _ _ _ h => h) rfl ?_; clear hS a; intro a hS
    (first | refine g_splitD (t := 19) hS rfl ?_ ?_ | refine g_split (t := 19) hS rfl ?_ ?_) <;> (clear hS; intro hg19 hS)
    ·
      refine Z_take (i := 3) hS rfl (want_go rfl rfl) (e_loadA rfl (by repeat constructor) ty_st60 ty_sz60 (by rfl)) (listed' := [true, true, true, true, false, false, false, false, false, false]) rfl (by kernel_rfl) (by kernel_rfl) (by kernel_rfl) (by kernel_rfl) (by kernel_rfl) (sub_cons (by repeat constructor) (sub_cons (by repeat constructor) sub_nil)) (fun _ _ _ h => h) rfl ?_; clear hS a; intro a hS
      refine Z_take (i := 5) hS rfl (want_go rfl rfl) (e_loadA rfl (by repeat constructor) ty_st47 ty_sz47 (by rfl)) (listed' := [true, true, true, true, false, true, false, false, false, false]) rfl (by kernel_rfl) (by kernel_rfl) (by kernel_rfl) (by kernel_rfl) (by kernel_rfl) (sub_cons (by repeat constructor) (sub_cons (by repeat constructor) sub_nil)) (fun _ _ _ h => h) rfl ?_; clear hS a; intro a hS
      refine Z_one (i := 4) rfl (want_go rfl rfl a hS.sl) (listed' := [true, true, true, true, true, true, false, false, false, false]) rfl (by kernel_rfl) (s_callN hS (.cons rfl .nil) cf34 rfl (Value_P v hv _) ?_); clear hS a; (try clear w); intro x21 a w hS
      refine Z_and hS (sub_cons (by repeat constructor) (sub_cons (by repeat constructor) sub_nil)) ?_
      refine Z_one (i := 6) rfl (want_go rfl rfl a hS.sl) (listed' := [true, true, true, true, true, true, true, false, false, false]) rfl (by kernel_rfl) (s_callP hS (.cons rfl (.cons rfl .nil)) cf25 rfl (BigCmp_P (some (x21.1.1, 0)) p x21.1.2 c v z (by have := len20 (z := v) (by unfold Wd.fit at hv; omega); omega) _ (two_bo hS (xs := dgs z.natAbs) (by repeat (first | exact .head _ | refine .tail _ ?_)) (by repeat (first | exact .head _ | refine .tail _ ?_)))) ?_); clear hS a; (try clear w); intro a w hS
      refine Z_and hS (sub_cons (by repeat constructor) (sub_cons (by repeat constructor) sub_nil)) ?_
      refine Z_take0 (i := 7) hS rfl (want_go rfl rfl) (e_bin rfl rfl rfl) (listed' := [true, true, true, true, true, true, true, true, false, false]) rfl (by kernel_rfl) (by kernel_rfl) (by kernel_rfl) (fun _ _ _ h => h) rfl ?_; clear hS a; intro a hS
      first | (refine Z_take0 (i := 8) hS rfl want_none (e_pick_t rfl rfl) (listed' := [true, true, true, true, true, true, true, true, true, false]) rfl (by kernel_rfl) (by kernel_rfl) (by kernel_rfl) (fun _ _ _ h => h) rfl ?_; clear hS a; intro a hS) | (refine Z_take0 (i := 8) hS rfl want_none (e_pick_f rfl rfl) (listed' := [true, true, true, true, true, true, true, true, true, false]) rfl (by kernel_rfl) (by kernel_rfl) (by kernel_rfl) (fun _ _ _ h => h) rfl ?_; clear hS a; intro a hS)
      refine Z_take0 (i := 9) hS rfl want_none (e_assign rfl) (listed' := [true, true, true, true, true, true, true, true, true, true]) rfl (by kernel_rfl) (by kernel_rfl) (by kernel_rfl) (fun _ _ _ h => h) rfl ?_; clear hS a; intro a hS
      refine Z_done (by kernel_rfl) ?_
      refine n_then ?_
      refine wp_ret ?_
      refine c_ret1 hS Try.results40 (.tmp rfl) ?_
      have hz' : Wd.fit z := by simpa using hc9
      refine ⟨?_, hS.chg⟩
      first
      | exact congrArg (fun b => Ending.returned (Value.bool b)) (decide_eq_decide.2 (by unfold isB; rw [if_pos hz', cmpZ_eq]; simp [hg19]))
      | exact congrArg (fun b => Ending.returned (Value.bool b)) (decide_eq_false (by unfold isB; rw [if_pos hz']; simp [hg19])).symm
    ·
      refine Z_none_t (i := 3) hS rfl rfl rfl (listed' := [true, true, true, true, false, false, false, false, false, false]) rfl (by kernel_rfl) (by kernel_rfl) (by kernel_rfl) (fun _ _ _ h => h) rfl ?_; clear hS a; intro a hS
      refine Z_none_t (i := 4) hS rfl rfl rfl (listed' := [true, true, true, true, true, false, false, false, false, false]) rfl (by kernel_rfl) (by kernel_rfl) (by kernel_rfl) (fun _ _ _ h => h) rfl ?_; clear hS a; intro a hS
      refine Z_none_t (i := 5) hS rfl rfl rfl (listed' := [true, true, true, true, true, true, false, false, false, false]) rfl (by kernel_rfl) (by kernel_rfl) (by kernel_rfl) (fun _ _ _ h => h) rfl ?_; clear hS a; intro a hS
      refine Z_none_t (i := 6) hS rfl rfl rfl (listed' := [true, true, true, true, true, true, true, false, false, false]) rfl (by kernel_rfl) (by kernel_rfl) (by kernel_rfl) (fun _ _ _ h => h) rfl ?_; clear hS a; intro a hS
      refine Z_none_t (i := 7) hS rfl rfl rfl (listed' := [true, true, true, true, true, true, true, true, false, false]) rfl (by kernel_rfl) (by kernel_rfl) (by kernel_rfl) (fun _ _ _ h => h) rfl ?_; clear hS a; intro a hS
      first | (refine Z_take0 (i := 8) hS rfl want_none (e_pick_t rfl rfl) (listed' := [true, true, true, true, true, true, true, true, true, false]) rfl (by kernel_rfl) (by kernel_rfl) (by kernel_rfl) (fun _ _ _ h => h) rfl ?_; clear hS a; intro a hS) | (refine Z_take0 (i := 8) hS rfl want_none (e_pick_f rfl rfl) (listed' := [true, true, true, true, true, true, true, true, true, false]) rfl (by kernel_rfl) (by kernel_rfl) (by kernel_rfl) (fun _ _ _ h => h) rfl ?_; clear hS a; intro a hS)
      refine Z_take0 (i := 9) hS rfl want_none (e_assign rfl) (listed' := [true, true, true, true, true, true, true, true, true, true]) rfl (by kernel_rfl) (by kernel_rfl) (by kernel_rfl) (fun _ _ _ h => h) rfl ?_; clear hS a; intro a hS
      refine Z_done (by kernel_rfl) ?_
      refine n_then ?_
      refine wp_ret ?_
      refine c_ret1 hS Try.results40 (.tmp rfl) ?_
      have hz' : Wd.fit z := by simpa using hc9
      refine ⟨?_, hS.chg⟩
      first
      | exact congrArg (fun b => Ending.returned (Value.bool b)) (decide_eq_decide.2 (by unfold isB; rw [if_pos hz', cmpZ_eq]; simp [hg19]))
      | exact congrArg (fun b => Ending.returned (Value.bool b)) (decide_eq_false (by unfold isB; rw [if_pos hz']; simp [hg19])).symm
end Go.Proofs.Ytfiaobhkhedpiaa

