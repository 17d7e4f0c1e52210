/- Package wide by rule: sums of whole numbers of 128 bits that stay within them, ints there and back. -/
import Derived.Test.YtheofhegdjjfgaaSeTz
import Derived.Test.YtheofhegdjjfgaaWdM
import Derived.Shelf.Spec.BitsCarry
namespace Go.Proofs.Ytheofhegdjjfgaa
open Go.RowKit

section
variable {P : Program} {n : Nat} {a : Act} {L : List (Nat × Value)} {Γ : List Asn}
variable {ty : Nat} {dst : Option Tmp} {pos : String} {af : Array Edge} {g : Option (Nat × Bool)}
theorem e_binV {op : BinOp} {t t' : TypeId} {x y : Operand} {u v r : Value} (hx : ev L x = some u) (hy : ev L y = some v)
    (hr : ∀ p q w, ((do eqGuard op t p q u v; binOp op t u v) : Sem Value).run P w = .ok r w) : Ex P n a L Γ ⟨dst, .binOp op t x y t', ty, pos, af, g⟩ r := fun hs w _ => by
  have h := hr x y w
  simp only [Sem.run_bind] at h
  simp only [execOp, hs.ev hx, hs.ev hy, Sem.run_bind]
  rw [h]; rfl
theorem e_shr {t t' : TypeId} {x : Operand} {k k' : IntKind} {i : Int} {j : Nat} (hx : ev L x = some (.int k i)) (hj : j ≤ k.bits) :
    Ex P n a L Γ ⟨dst, .binOp .shr t x (.const (.int k' (j : Int))) t', ty, pos, af, g⟩ (.int k (i / 2 ^ j)) := fun hs w _ => by
  have he : a.eval (.const (.int k' (j : Int))) = .int k' (j : Int) := rfl
  have h : ¬ (j : Int) < 0 := by omega
  simp only [execOp, hs.ev hx, he, eqGuard, binOp, Op.shift, Sem.run_bind]
  simp [h, Nat.min_eq_left hj]
  rw [Int.fdiv_eq_ediv_of_nonneg]
  exact Int.le_of_lt (Int.pow_pos (by decide))
end

def wv (v : Int) : List Value := [.int .u64 (Wd.hi v), .int .u64 (Wd.lo v)]

theorem add64_at (x y c : Int) (hx : 0 ≤ x) (hy : 0 ≤ y) (hc : 0 ≤ c) (hc1 : c ≤ 1) (w : World) :
    (callFunc 90 #[.int .u64 x, .int .u64 y, .int .u64 c]).run Try.prog w =
      .ok (.value (.tuple #[.int .u64 ((x + y + c) % 18446744073709551616), .int .u64 ((x + y + c) / 18446744073709551616)])) w := by
  obtain ⟨x, rfl⟩ := Int.eq_ofNat_of_zero_le hx
  obtain ⟨y, rfl⟩ := Int.eq_ofNat_of_zero_le hy
  obtain ⟨c, rfl⟩ := Int.eq_ofNat_of_zero_le hc
  rw [run_callFunc_extern Try.func90 (by kernel_rfl) (by kernel_rfl) (by kernel_rfl) (e := add64Entry) (by kernel_rfl), run_add64 x y c (by omega) (by omega) (by omega) (by omega)]
  rfl
theorem wadd_lo (a b : Int) : ExtC Try.prog 90 [.int .u64 (Wd.lo a), .int .u64 (Wd.lo b), .int .u64 0] (.tuple [.int .u64 (Wd.lo (a + b)), .int .u64 (Wd.cy a b)].toArray) := fun w => by
  have h := add64_at _ _ 0 (Wd.lo_bd a).1 (Wd.lo_bd b).1 (by omega) (by omega) w
  rw [Wd.add_lo] at h; exact h
theorem wadd_hi (a b : Int) : ExtC Try.prog 90 [.int .u64 (Wd.hi a), .int .u64 (Wd.hi b), .int .u64 (Wd.cy a b)] (.tuple [.int .u64 (Wd.hi (a + b)), .int .u64 (Wd.cy2 a b)].toArray) := fun w => by
  have h := add64_at _ _ _ (Wd.hi_bd a).1 (Wd.hi_bd b).1 (Wd.cy_bd a b).1 (Wd.cy_bd a b).2 w
  rw [Wd.carry_hi] at h; exact h
theorem neq_Int (x y x' y' : Int) (p q : Operand) (w : World) : ((do eqGuard .neq 106 p q (.agg [.int .u64 x, .int .u64 y].toArray) (.agg [.int .u64 x', .int .u64 y'].toArray); binOp .neq 106 (.agg [.int .u64 x, .int .u64 y].toArray) (.agg [.int .u64 x', .int .u64 y'].toArray)) : Sem Value).run Try.prog w
    = .ok (.bool (!(decide (x = x') && decide (y = y')))) w := by
  have h := run_equalIn_struct (P := Try.prog) w 9999 106 #[.int .u64 x, .int .u64 y] #[.int .u64 x', .int .u64 y'] (by kernel_rfl) (by kernel_rfl)
  by_cases h1 : x = x' <;> by_cases h2 : y = y' <;> simp [eqGuard, binOp, Op.equal, Op.maxDepth, h, h1, h2] <;> go_simp


set_option maxRecDepth 100000 in
theorem below_P (v : Int) (w0 : World) : PureC Try.prog 91 [.agg (wv v).toArray] w0 (.bool (decide (9223372036854775808 ≤ Wd.hi v))) := by
  refine c_enter [(0, .agg (wv v).toArray)] [] noB Try.func91 rfl Try.ntmps91 ⟨rfl, trivial⟩ rfl (by simp) (by simp) (by simp) ?_
  intro a hS
  refine c_seq ?_
  refine c_region ?_
  refine L_op (s_boxA hS rfl rfl ?_); clear hS a; (try clear w); intro a w b1 hS
  refine L_op (s_e hS (e_assign rfl) rfl ?_); clear hS a; intro a hS
  refine L_nil ?_
  refine n_then ?_
  refine c_seq ?_
  refine c_region ?_
  first | (refine L_op (s_e hS (e_fa0 rfl ty_fo106_0) rfl ?_); clear hS a; intro a hS) | (refine L_op (s_e hS (e_faK rfl ty_fo106_0) rfl ?_); clear hS a; intro a hS)
  refine L_op (s_e hS (e_load rfl (by repeat constructor) ty_sc104 (by rfl)) rfl ?_); clear hS a; intro a hS
  refine L_op (s_e hS (e_bin rfl rfl rfl) rfl ?_); clear hS a; intro a hS
  refine L_op (s_e hS (e_assign rfl) rfl ?_); clear hS a; intro a hS
  refine L_nil ?_
  refine n_then ?_
  refine wp_ret ?_
  refine c_ret1 hS Try.results91 (.tmp rfl) ?_
  exact ⟨rfl, hS.chg⟩
set_option maxRecDepth 100000 in
theorem FromInt_P (m : Int) (h1 : -9223372036854775808 ≤ m) (h2 : m < 9223372036854775808) (w0 : World) : PureC Try.prog 92 [.int .i64 m] w0 (.agg (wv m).toArray) := by
  have e1 := Wd.wrap_hi m h1 h2
  have e2 := Wd.wrap_lo m
  refine c_enter [(0, .int .i64 m)] [] noB Try.func92 rfl Try.ntmps92 ⟨rfl, trivial⟩ rfl (by simp) (by simp) (by simp) ?_
  intro a hS
  refine c_seq ?_
  refine c_region ?_
  refine L_op (s_alloc hS ty_z106 rfl ?_); clear hS a; (try clear w); intro a w b2 hS
  refine L_nil ?_
  refine n_then ?_
  refine c_seq ?_
  refine c_region ?_
  refine L_op (s_e hS (e_move rfl) rfl ?_); clear hS a; intro a hS
  refine L_op (s_e hS (e_shr (j := 63) rfl (by decide)) rfl ?_); clear hS a; intro a hS
  first | (refine L_op (s_e hS (e_convN rfl ty_u3 ty_u104 (by omega)) rfl ?_); clear hS a; intro a hS) | (refine L_op (s_e hS (e_conv rfl ty_u3 ty_u104) rfl ?_); clear hS a; intro a hS)
  refine L_op (s_e hS (e_move rfl) rfl ?_); clear hS a; intro a hS
  first | (refine L_op (s_e hS (e_convN rfl ty_u3 ty_u104 (by omega)) rfl ?_); clear hS a; intro a hS) | (refine L_op (s_e hS (e_conv rfl ty_u3 ty_u104) rfl ?_); clear hS a; intro a hS)
  refine L_op (s_e hS (e_build ty_z106 ty_pl106 (.one rfl rfl rfl (by repeat constructor) (.one rfl rfl rfl (by repeat constructor) .nil))) rfl ?_); clear hS a; intro a hS
  refine L_op (s_storeA hS rfl rfl ty_sz106 (by repeat constructor) (by rfl) (by rfl) (by rfl) ?_); clear hS; (try clear w); intro w hS
  refine L_nil ?_
  refine n_then ?_
  refine wp_ret ?_
  refine c_ret1 hS Try.results92 (.cellA rfl (by repeat constructor) ty_st106 ty_sz106 (by rfl)) ?_
  exact ⟨by rw [wv, ← e1, ← e2]; rfl, hS.chg⟩
set_option maxRecDepth 100000 in
theorem Add_P (x y : Int) (hx : Wd.fit x) (hy : Wd.fit y) (hs : Wd.fit (x + y)) (w0 : World) : PureC Try.prog 97 [.agg (wv x).toArray, .agg (wv y).toArray] w0 (.tuple [.agg (wv (x + y)).toArray, .int .i64 0].toArray) := by
  have i1 := Wd.hi_neg x hx
  have i2 := Wd.hi_neg y hy
  have i3 := Wd.hi_neg (x + y) hs
  refine c_enter [(0, .agg (wv x).toArray), (1, .agg (wv y).toArray)] [] noB Try.func97 rfl Try.ntmps97 ⟨rfl, rfl, trivial⟩ rfl (by simp) (by simp) (by simp) ?_
  intro a hS
  refine c_seq ?_
  refine c_region ?_
  refine L_op (s_boxA hS rfl rfl ?_); clear hS a; (try clear w); intro a w b2 hS
  refine L_op (s_boxA hS rfl rfl ?_); clear hS a; (try clear w); intro a w b3 hS
  refine L_op (s_alloc hS ty_z106 rfl ?_); clear hS a; (try clear w); intro a w b4 hS
  refine L_op (s_e hS (e_assign rfl) rfl ?_); clear hS a; intro a hS
  refine L_nil ?_
  refine n_then ?_
  refine c_seq ?_
  refine c_region ?_
  first | (refine L_op (s_e hS (e_fa0 rfl ty_fo106_1) rfl ?_); clear hS a; intro a hS) | (refine L_op (s_e hS (e_faK rfl ty_fo106_1) rfl ?_); clear hS a; intro a hS)
  refine L_op (s_e hS (e_load rfl (by repeat constructor) ty_sc104 (by rfl)) rfl ?_); clear hS a; intro a hS
  first | (refine L_op (s_e hS (e_fa0 rfl ty_fo106_1) rfl ?_); clear hS a; intro a hS) | (refine L_op (s_e hS (e_faK rfl ty_fo106_1) rfl ?_); clear hS a; intro a hS)
  refine L_op (s_e hS (e_load rfl (by repeat constructor) ty_sc104 (by rfl)) rfl ?_); clear hS a; intro a hS
  refine L_op (s_e hS (e_extern (.cons rfl (.cons rfl (.cons rfl .nil))) (wadd_lo x y)) rfl ?_); clear hS a; intro a hS
  refine L_op (s_e hS (e_move rfl) rfl ?_); clear hS a; intro a hS
  refine L_op (s_e hS (e_extract rfl rfl) rfl ?_); clear hS a; intro a hS
  refine L_op (s_e hS (e_extract rfl rfl) rfl ?_); clear hS a; intro a hS
  refine L_op (s_e hS (e_assign rfl) rfl ?_); clear hS a; intro a hS
  refine L_op (s_e hS (e_assign rfl) rfl ?_); clear hS a; intro a hS
  refine L_nil ?_
  refine n_then ?_
  refine c_seq ?_
  refine c_region ?_
  first | (refine L_op (s_e hS (e_fa0 rfl ty_fo106_0) rfl ?_); clear hS a; intro a hS) | (refine L_op (s_e hS (e_faK rfl ty_fo106_0) rfl ?_); clear hS a; intro a hS)
  refine L_op (s_e hS (e_load rfl (by repeat constructor) ty_sc104 (by rfl)) rfl ?_); clear hS a; intro a hS
  first | (refine L_op (s_e hS (e_fa0 rfl ty_fo106_0) rfl ?_); clear hS a; intro a hS) | (refine L_op (s_e hS (e_faK rfl ty_fo106_0) rfl ?_); clear hS a; intro a hS)
  refine L_op (s_e hS (e_load rfl (by repeat constructor) ty_sc104 (by rfl)) rfl ?_); clear hS a; intro a hS
  refine L_op (s_e hS (e_move rfl) rfl ?_); clear hS a; intro a hS
  refine L_op (s_e hS (e_extern (.cons rfl (.cons rfl (.cons rfl .nil))) (wadd_hi x y)) rfl ?_); clear hS a; intro a hS
  refine L_op (s_e hS (e_move rfl) rfl ?_); clear hS a; intro a hS
  refine L_op (s_e hS (e_extract rfl rfl) rfl ?_); clear hS a; intro a hS
  refine L_op (s_e hS (e_extract rfl rfl) rfl ?_); clear hS a; intro a hS
  refine L_op (s_e hS (e_assign rfl) rfl ?_); clear hS a; intro a hS
  refine L_op (s_e hS (e_assign rfl) rfl ?_); clear hS a; intro a hS
  refine L_nil ?_
  refine n_then ?_
  refine c_seq ?_
  refine c_region ?_
  refine L_op (s_e hS (e_move rfl) rfl ?_); clear hS a; intro a hS
  refine L_op (s_e hS (e_move rfl) rfl ?_); clear hS a; intro a hS
  refine L_op (s_e hS (e_build ty_z106 ty_pl106 (.one rfl rfl rfl (by repeat constructor) (.one rfl rfl rfl (by repeat constructor) .nil))) rfl ?_); clear hS a; intro a hS
  refine L_op (s_alloc hS ty_z106 rfl ?_); clear hS a; (try clear w); intro a w b10 hS
  refine L_op (s_storeA hS rfl rfl ty_sz106 (by repeat constructor) (by rfl) (by rfl) (by rfl) ?_); clear hS; (try clear w); intro w hS
  refine L_nil ?_
  refine n_then ?_
  refine c_seq ?_
  refine c_seq ?_
  refine c_draw1 [] (by kernel_rfl) hS ?_; clear hS; (try clear w); intro w hS
  simp only [List.length_cons, List.length_nil, Nat.zero_add, Nat.reduceAdd, List.replicate]
  refine Z_take (i := 0) hS rfl want_none (e_loadA rfl (by repeat constructor) ty_st106 ty_sz106 (by rfl)) (listed' := [true, false, false, false, false, false, false, false, false, false, false, false]) rfl (by kernel_rfl) (by kernel_rfl) (by kernel_rfl) (by kernel_rfl) (by kernel_rfl) (by intro X hX; repeat (first | exact hX | apply List.Mem.tail)) (fun _ _ _ h => h) rfl ?_; clear hS a; intro a hS
  refine Z_take (i := 2) hS rfl want_none (e_loadA rfl (by repeat constructor) ty_st106 ty_sz106 (by rfl)) (listed' := [true, false, true, false, false, false, false, false, false, false, false, false]) rfl (by kernel_rfl) (by kernel_rfl) (by kernel_rfl) (by kernel_rfl) (by kernel_rfl) (by intro X hX; repeat (first | exact hX | apply List.Mem.tail)) (fun _ _ _ h => h) rfl ?_; clear hS a; intro a hS
  refine Z_one (i := 1) rfl (want_none a hS.sl) (listed' := [true, true, true, false, false, false, false, false, false, false, false, false]) rfl (by kernel_rfl) (s_callP hS (.cons rfl .nil) cf91 rfl (below_P x _) ?_); clear hS a; (try clear w); intro a w hS
  refine Z_and hS (by intro X hX; repeat (first | exact hX | apply List.Mem.tail)) ?_
  refine Z_one (i := 3) rfl (want_none a hS.sl) (listed' := [true, true, true, true, false, false, false, false, false, false, false, false]) rfl (by kernel_rfl) (s_callP hS (.cons rfl .nil) cf91 rfl (below_P y _) ?_); clear hS a; (try clear w); intro a w hS
  refine Z_and hS (by intro X hX; repeat (first | exact hX | apply List.Mem.tail)) ?_
  refine Z_take0 (i := 4) hS rfl want_none (e_binB rfl rfl ty_u4 rfl) (listed' := [true, true, true, true, true, false, false, false, false, false, false, false]) rfl (by kernel_rfl) (by kernel_rfl) (by kernel_rfl) (fun _ _ _ h => h) rfl ?_; clear hS a; intro a hS
  refine Z_take0 (i := 5) hS rfl want_none (e_move rfl) (listed' := [true, true, true, true, true, true, false, false, false, false, false, false]) rfl (by kernel_rfl) (by kernel_rfl) (by kernel_rfl) (fun _ _ _ h => h) rfl ?_; clear hS a; intro a hS
  (first | refine g_splitD (t := 36) hS rfl ?_ ?_ | refine g_split (t := 36) hS rfl ?_ ?_) <;> (clear hS; intro hg36 hS)
  ·
    refine Z_take (i := 6) hS rfl (want_go rfl rfl) (e_loadA rfl (by repeat constructor) ty_st106 ty_sz106 (by rfl)) (listed' := [true, true, true, true, true, true, true, false, false, false, false, false]) rfl (by kernel_rfl) (by kernel_rfl) (by kernel_rfl) (by kernel_rfl) (by kernel_rfl) (by intro X hX; repeat (first | exact hX | apply List.Mem.tail)) (fun _ _ _ h => h) rfl ?_; clear hS a; intro a hS
    refine Z_take (i := 8) hS rfl (want_go rfl rfl) (e_loadA rfl (by repeat constructor) ty_st106 ty_sz106 (by rfl)) (listed' := [true, true, true, true, true, true, true, false, true, false, false, false]) rfl (by kernel_rfl) (by kernel_rfl) (by kernel_rfl) (by kernel_rfl) (by kernel_rfl) (by intro X hX; repeat (first | exact hX | apply List.Mem.tail)) (fun _ _ _ h => h) rfl ?_; clear hS a; intro a hS
    refine Z_one (i := 7) rfl (want_go rfl rfl a hS.sl) (listed' := [true, true, true, true, true, true, true, true, true, false, false, false]) rfl (by kernel_rfl) (s_callP hS (.cons rfl .nil) cf91 rfl (below_P (x + y) _) ?_); clear hS a; (try clear w); intro a w hS
    refine Z_and hS (by intro X hX; repeat (first | exact hX | apply List.Mem.tail)) ?_
    refine Z_one (i := 9) rfl (want_go rfl rfl a hS.sl) (listed' := [true, true, true, true, true, true, true, true, true, true, false, false]) rfl (by kernel_rfl) (s_callP hS (.cons rfl .nil) cf91 rfl (below_P x _) ?_); clear hS a; (try clear w); intro a w hS
    refine Z_and hS (by intro X hX; repeat (first | exact hX | apply List.Mem.tail)) ?_
    refine Z_take0 (i := 10) hS rfl (want_go rfl rfl) (e_binBn rfl rfl ty_u4) (listed' := [true, true, true, true, true, true, true, true, true, true, true, false]) rfl (by kernel_rfl) (by kernel_rfl) (by kernel_rfl) (fun _ _ _ h => h) rfl ?_; clear hS a; intro a hS
    first | (refine Z_take0 (i := 11) hS rfl want_none (e_pick_t rfl rfl) (listed' := [true, true, true, true, true, true, true, true, true, true, true, true]) rfl (by kernel_rfl) (by kernel_rfl) (by kernel_rfl) (fun _ _ _ h => h) rfl ?_; clear hS a; intro a hS) | (refine Z_take0 (i := 11) hS rfl want_none (e_pick_f rfl rfl) (listed' := [true, true, true, true, true, true, true, true, true, true, true, true]) rfl (by kernel_rfl) (by kernel_rfl) (by kernel_rfl) (fun _ _ _ h => h) rfl ?_; clear hS a; intro a hS)
    refine Z_done (by kernel_rfl) ?_
    refine n_then ?_
    replace hS := hS.is (t := 42) (c := false) rfl ((by simp; simp at hg36; omega))
    refine c_if_f hS rfl ?_
    refine wp_skip ?_
    refine n_then ?_
    refine c_seq ?_
    refine c_region ?_
    refine L_op (s_e hS (e_loadA rfl (by repeat constructor) ty_st106 ty_sz106 (by rfl)) rfl ?_); clear hS a; intro a hS
    refine L_op (s_storeA hS rfl rfl ty_sz106 (by repeat constructor) (by rfl) (by rfl) (by rfl) ?_); clear hS; (try clear w); intro w hS
    refine L_op (s_e hS (e_assign rfl) rfl ?_); clear hS a; intro a hS
    refine L_nil ?_
    refine n_then ?_
    refine wp_ret ?_
    refine c_retN hS Try.results97 (.cons (.cellA rfl (by repeat constructor) ty_st106 ty_sz106 (by rfl)) (.cons (.tmp rfl) .nil)) rfl ?_
    exact ⟨rfl, hS.chg⟩
  ·
    refine Z_none_t (i := 6) hS rfl rfl rfl (listed' := [true, true, true, true, true, true, true, false, false, false, false, false]) rfl (by kernel_rfl) (by kernel_rfl) (by kernel_rfl) (fun _ _ _ h => h) rfl ?_; clear hS a; intro a hS
    refine Z_none_t (i := 7) hS rfl rfl rfl (listed' := [true, true, true, true, true, true, true, true, false, false, false, false]) rfl (by kernel_rfl) (by kernel_rfl) (by kernel_rfl) (fun _ _ _ h => h) rfl ?_; clear hS a; intro a hS
    refine Z_none_t (i := 8) hS rfl rfl rfl (listed' := [true, true, true, true, true, true, true, true, true, false, false, false]) rfl (by kernel_rfl) (by kernel_rfl) (by kernel_rfl) (fun _ _ _ h => h) rfl ?_; clear hS a; intro a hS
    refine Z_none_t (i := 9) hS rfl rfl rfl (listed' := [true, true, true, true, true, true, true, true, true, true, false, false]) rfl (by kernel_rfl) (by kernel_rfl) (by kernel_rfl) (fun _ _ _ h => h) rfl ?_; clear hS a; intro a hS
    refine Z_none_t (i := 10) hS rfl rfl rfl (listed' := [true, true, true, true, true, true, true, true, true, true, true, false]) rfl (by kernel_rfl) (by kernel_rfl) (by kernel_rfl) (fun _ _ _ h => h) rfl ?_; clear hS a; intro a hS
    first | (refine Z_take0 (i := 11) hS rfl want_none (e_pick_t rfl rfl) (listed' := [true, true, true, true, true, true, true, true, true, true, true, true]) rfl (by kernel_rfl) (by kernel_rfl) (by kernel_rfl) (fun _ _ _ h => h) rfl ?_; clear hS a; intro a hS) | (refine Z_take0 (i := 11) hS rfl want_none (e_pick_f rfl rfl) (listed' := [true, true, true, true, true, true, true, true, true, true, true, true]) rfl (by kernel_rfl) (by kernel_rfl) (by kernel_rfl) (fun _ _ _ h => h) rfl ?_; clear hS a; intro a hS)
    refine Z_done (by kernel_rfl) ?_
    refine n_then ?_
    refine c_if_f hS rfl ?_
    refine wp_skip ?_
    refine n_then ?_
    refine c_seq ?_
    refine c_region ?_
    refine L_op (s_e hS (e_loadA rfl (by repeat constructor) ty_st106 ty_sz106 (by rfl)) rfl ?_); clear hS a; intro a hS
    refine L_op (s_storeA hS rfl rfl ty_sz106 (by repeat constructor) (by rfl) (by rfl) (by rfl) ?_); clear hS; (try clear w); intro w hS
    refine L_op (s_e hS (e_assign rfl) rfl ?_); clear hS a; intro a hS
    refine L_nil ?_
    refine n_then ?_
    refine wp_ret ?_
    refine c_retN hS Try.results97 (.cons (.cellA rfl (by repeat constructor) ty_st106 ty_sz106 (by rfl)) (.cons (.tmp rfl) .nil)) rfl ?_
    exact ⟨rfl, hS.chg⟩
set_option maxRecDepth 100000 in
theorem Int_P (m : Int) (h1 : -9223372036854775808 ≤ m) (h2 : m < 9223372036854775808) (w0 : World) : PureC Try.prog 52 [.agg (wv m).toArray] w0 (.tuple [.int .i64 m, .int .i64 0].toArray) := by
  have e1 : IntKind.i64.wrap (Wd.lo m) = m := by rw [IntKind.wrap_i64]; unfold Wd.lo; omega
  refine c_enter [(0, .agg (wv m).toArray)] [] noB Try.func52 rfl Try.ntmps52 ⟨rfl, trivial⟩ rfl (by simp) (by simp) (by simp) ?_
  intro a hS
  refine c_seq ?_
  refine c_region ?_
  refine L_op (s_boxA hS rfl rfl ?_); clear hS a; (try clear w); intro a w b1 hS
  refine L_op (s_e hS (e_assign rfl) rfl ?_); clear hS a; intro a hS
  refine L_op (s_e hS (e_assign rfl) rfl ?_); clear hS a; intro a hS
  refine L_nil ?_
  refine n_then ?_
  refine c_seq ?_
  refine c_region ?_
  first | (refine L_op (s_e hS (e_fa0 rfl ty_fo106_1) rfl ?_); clear hS a; intro a hS) | (refine L_op (s_e hS (e_faK rfl ty_fo106_1) rfl ?_); clear hS a; intro a hS)
  refine L_op (s_e hS (e_load rfl (by repeat constructor) ty_sc104 (by rfl)) rfl ?_); clear hS a; intro a hS
  refine L_op (s_e hS (e_conv rfl ty_u104 ty_u3) rfl ?_); clear hS a; intro a hS
  rw [e1] at hS
  refine L_op (s_e hS (e_assign rfl) rfl ?_); clear hS a; intro a hS
  refine L_nil ?_
  refine n_then ?_
  refine c_seq ?_
  refine c_seq ?_
  refine c_draw1 [] (by kernel_rfl) hS ?_; clear hS; (try clear w); intro w hS
  simp only [List.length_cons, List.length_nil, Nat.zero_add, Nat.reduceAdd, List.replicate]
  refine Z_take0 (i := 0) hS rfl want_none (e_move rfl) (listed' := [true, false, false, false]) rfl (by kernel_rfl) (by kernel_rfl) (by kernel_rfl) (fun _ _ _ h => h) rfl ?_; clear hS a; intro a hS
  refine Z_take (i := 2) hS rfl want_none (e_loadA rfl (by repeat constructor) ty_st106 ty_sz106 (by rfl)) (listed' := [true, false, true, false]) rfl (by kernel_rfl) (by kernel_rfl) (by kernel_rfl) (by kernel_rfl) (by kernel_rfl) (by intro X hX; repeat (first | exact hX | apply List.Mem.tail)) (fun _ _ _ h => h) rfl ?_; clear hS a; intro a hS
  refine Z_one (i := 1) rfl (want_none a hS.sl) (listed' := [true, true, true, false]) rfl (by kernel_rfl) (s_callP hS (.cons rfl .nil) cf92 rfl (FromInt_P m h1 h2 _) ?_); clear hS a; (try clear w); intro a w hS
  refine Z_and hS (by intro X hX; repeat (first | exact hX | apply List.Mem.tail)) ?_
  refine Z_take0 (i := 3) hS rfl want_none (e_binV rfl rfl (neq_Int _ _ _ _)) (listed' := [true, true, true, true]) rfl (by kernel_rfl) (by kernel_rfl) (by kernel_rfl) (fun _ _ _ h => h) rfl ?_; clear hS a; intro a hS
  refine Z_done (by kernel_rfl) ?_
  refine n_then ?_
  replace hS := hS.is (t := 11) (c := false) rfl ((by simp))
  refine c_if_f hS rfl ?_
  refine wp_skip ?_
  refine n_then ?_
  refine c_seq ?_
  refine c_region ?_
  refine L_op (s_e hS (e_move rfl) rfl ?_); clear hS a; intro a hS
  refine L_op (s_e hS (e_assign rfl) rfl ?_); clear hS a; intro a hS
  refine L_op (s_e hS (e_assign rfl) rfl ?_); clear hS a; intro a hS
  refine L_nil ?_
  refine n_then ?_
  refine wp_ret ?_
  refine c_retN hS Try.results52 (.cons (.tmp rfl) (.cons (.tmp rfl) .nil)) rfl ?_
  exact ⟨rfl, hS.chg⟩
end Go.Proofs.Ytheofhegdjjfgaa
