/- The reference's sum of lines, walked. -/
import Derived.Test.YtfiaobhkhedpiaaRB1
import Derived.Test.YtfiaobhkhedpiaaBig10
namespace Go.Proofs.Ytfiaobhkhedpiaa
open Go.RowKit

theorem some_bd {w : World} {b off : Nat} (hb : b < w.heap.size) : ∀ q, some (b, off) = some q → q.1 < w.heap.size := fun q hq => by cases hq; exact hb
theorem units_iff (z : Int) : inU z ↔ ((i64R z).2 = true ∧ (i64R z).1 ≤ 4611686018427387904) ∧ -4611686018427387904 ≤ (i64R z).1 := by
  unfold inU i64R
  split
  · simp; omega
  · simp; omega
set_option maxRecDepth 100000 in
theorem xUnits_P (p : Option (Nat × Nat)) (c : Nat) (z : Int) (hz : (dgs z.natAbs).length ≤ 1000) (w0 : World) (h : (oneA p (dgs z.natAbs)).ok w0) :
    PureC Try.prog 120 [bigV z p c] w0 (.tuple [.int .i64 (i64R z).1, .bool (decide (inU z))].toArray) := by
  refine c_enter [(0, bigV z p c)] [oneA p (dgs z.natAbs)] noB Try.func120 rfl Try.ntmps120 ⟨rfl, trivial⟩ rfl (okC (h) okN) dis1 (mineC (by rfl) mineN) ?_
  intro a hS
  refine c_seq ?_
  refine c_region ?_
  refine L_op (s_boxA hS rfl rfl ?_); clear hS a; (try clear w); intro a w b1 hS
  refine L_op (s_e hS (e_assign rfl) rfl ?_); clear hS a; intro a hS
  refine L_op (s_e hS (e_assign rfl) rfl ?_); clear hS a; intro a hS
  refine L_nil ?_
  refine n_then ?_
  refine c_seq ?_
  refine c_region ?_
  refine L_op (s_e hS (e_loadA rfl (by repeat constructor) ty_st47 ty_sz47 (by rfl)) rfl ?_); clear hS a; intro a hS
  refine L_op (s_callP hS (.cons rfl .nil) cf39 rfl (BigInt_P p c z hz _ (hS.ok (oneA p (dgs z.natAbs)) (by repeat constructor))) ?_); clear hS a; (try clear w); intro a w hS
  refine L_op (s_e hS (e_move rfl) rfl ?_); clear hS a; intro a hS
  refine L_op (s_e hS (e_extract rfl rfl) rfl ?_); clear hS a; intro a hS
  refine L_op (s_e hS (e_extract rfl rfl) rfl ?_); clear hS a; intro a hS
  refine L_op (s_e hS (e_assign rfl) rfl ?_); clear hS a; intro a hS
  refine L_op (s_e hS (e_assign rfl) rfl ?_); clear hS a; intro a hS
  refine L_nil ?_
  refine n_then ?_
  refine c_seq ?_
  refine c_region ?_
  refine L_op (s_e hS (e_move rfl) rfl ?_); clear hS a; intro a hS
  refine L_op (s_e hS (e_move rfl) rfl ?_); clear hS a; intro a hS
  refine L_op (s_e hS (e_move rfl) rfl ?_); clear hS a; intro a hS
  refine L_merge 3 16 (.bool (decide ((i64R z).2 = true ∧ (i64R z).1 ≤ 4611686018427387904))) hS ?_ ?_
  · intro hcM16
    (first | refine g_splitD (t := 13) hS rfl ?_ ?_ | refine g_split (t := 13) hS rfl ?_ ?_) <;> (clear hS; intro hg13 hS)
    ·
      refine L_go hS rfl rfl (s_e hS (e_move rfl) rfl ?_); clear hS a; intro a hS
      refine L_go hS rfl rfl (s_e hS (e_bin rfl rfl rfl) rfl ?_); clear hS a; intro a hS
      first | (refine L_op (s_e hS (e_pick_t rfl rfl) rfl ?_); clear hS a; intro a hS) | (refine L_op (s_e hS (e_pick_f rfl rfl) rfl ?_); clear hS a; intro a hS)
      exact hcM16 _ _ (hS.ends 4 16 13 rfl (congrArg Value.bool (by first | rfl | (simp [hg13]; done) | (simp [hg13]; omega) | grind)) rfl rfl (by first | exact congrArg Value.bool (decide_eq_true hg13).symm | exact congrArg Value.bool hg13.symm | simp [hg13]) rfl)
    ·
      refine L_skip_t hS rfl rfl rfl ?_; clear hS a; intro a hS
      refine L_skip_t hS rfl rfl rfl ?_; clear hS a; intro a hS
      first | (refine L_op (s_e hS (e_pick_t rfl rfl) rfl ?_); clear hS a; intro a hS) | (refine L_op (s_e hS (e_pick_f rfl rfl) rfl ?_); clear hS a; intro a hS)
      exact hcM16 _ _ (hS.ends 4 16 13 rfl (congrArg Value.bool (by first | rfl | (simp [hg13]; done) | (simp [hg13]; omega) | grind)) rfl rfl (by first | exact congrArg Value.bool (decide_eq_false hg13).symm | exact congrArg Value.bool hg13.symm | simp [hg13]) rfl)
  · clear hS a; (try clear w); intro a w hS
    simp only [List.drop_succ_cons, List.drop_zero]
    refine L_op (s_e hS (e_move rfl) rfl ?_); clear hS a; intro a hS
    refine L_merge 3 20 (.bool (decide (inU z))) hS ?_ ?_
    · intro hcM20
      (first | refine g_splitD (t := 17) hS rfl ?_ ?_ | refine g_split (t := 17) hS rfl ?_ ?_) <;> (clear hS; intro hg17 hS)
      ·
        refine L_go hS rfl rfl (s_e hS (e_move rfl) rfl ?_); clear hS a; intro a hS
        refine L_go hS rfl rfl (s_e hS (e_bin rfl rfl rfl) rfl ?_); clear hS a; intro a hS
        first | (refine L_op (s_e hS (e_pick_t rfl rfl) rfl ?_); clear hS a; intro a hS) | (refine L_op (s_e hS (e_pick_f rfl rfl) rfl ?_); clear hS a; intro a hS)
        exact hcM20 _ _ (hS.ends 4 20 17 rfl (congrArg Value.bool (by exact decide_eq_decide.2 ⟨fun h => (units_iff z).2 ⟨hg17, h⟩, fun h => ((units_iff z).1 h).2⟩)) rfl rfl (by first | exact congrArg Value.bool (decide_eq_true hg17).symm | exact congrArg Value.bool hg17.symm | simp [hg17]) rfl)
      ·
        refine L_skip_t hS rfl rfl rfl ?_; clear hS a; intro a hS
        refine L_skip_t hS rfl rfl rfl ?_; clear hS a; intro a hS
        first | (refine L_op (s_e hS (e_pick_t rfl rfl) rfl ?_); clear hS a; intro a hS) | (refine L_op (s_e hS (e_pick_f rfl rfl) rfl ?_); clear hS a; intro a hS)
        exact hcM20 _ _ (hS.ends 4 20 17 rfl (congrArg Value.bool (by exact (decide_eq_false (fun h => hg17 ((units_iff z).1 h).1)).symm)) rfl rfl (by first | exact congrArg Value.bool (decide_eq_false hg17).symm | exact congrArg Value.bool hg17.symm | simp [hg17]) rfl)
    · clear hS a; (try clear w); intro a w hS
      simp only [List.drop_succ_cons, List.drop_zero]
      refine L_op (s_e hS (e_assign rfl) rfl ?_); clear hS a; intro a hS
      refine L_op (s_e hS (e_assign rfl) rfl ?_); clear hS a; intro a hS
      refine L_nil ?_
      refine n_then ?_
      refine wp_ret ?_
      refine c_retN hS Try.results120 (.cons (.tmp rfl) (.cons (.tmp rfl) .nil)) rfl ?_
      exact ⟨rfl, hS.chg⟩
theorem i64R_in {z : Int} (h : inU z) : (i64R z).1 = z := by unfold i64R; unfold inU at h; rw [if_pos (by omega)]
section
variable {n : Nat} {F0 : Nat → Prop} {w0 w : World} {a : Act} {L : List (Nat × Value)} {Γ : List Asn}
theorem two_oo (hS : St n F0 w0 a w L Γ) {xs ys : List Int} {p q : Option (Nat × Nat)} (h1 : oneA p xs ∈ Γ) (h2 : oneA q ys ∈ Γ) : (twoA p q xs ys).ok w :=
  two_ok (hS.get h1) (hS.get h2) (fun r e => (hS.ok _ h1).lt r.1 ⟨r.2, e⟩) (fun r e => (hS.ok _ h2).lt r.1 ⟨r.2, e⟩)
theorem one_of (hS : St n F0 w0 a w L Γ) {z : Int} {b : Nat} (h1 : bigA z b ∈ Γ) : (oneA (some (b, 0)) (dgs z.natAbs)).ok w := ok_rowP (hS.get h1) (fun q hq => by cases hq; exact (hS.ok _ h1).lt b rfl)
end
abbrev BP := Option (Nat × Nat) × Nat
def bigC (z : Int) (g : BP) : List Value := [.bool (decide (z < 0)), sliceV g.1 (dgs z.natAbs).length g.2]
set_option maxRecDepth 100000 in
theorem xSum_P (p : Option (Nat × Nat)) (c : Nat) (l : List RLine) (hlen : l.length ≤ 1000000) (hfit : ∀ x ∈ l, x.fits) (w0 : World) (hrow : RowP p 4 (l.map encL) w0) (hb : ∀ q, p = some q → q.1 < w0.heap.size) :
    PureC Try.prog 102 [sliceV p l.length c] w0 (.tuple [.int .i64 (sumR l).1, .int .i64 (sumR l).2.1, .int .i64 (sumR l).2.2].toArray) := by
  have bd : ∀ k, k ≤ l.length → (-9223372036854775808000000 ≤ sumN (l.take k) ∧ sumN (l.take k) ≤ 9223372036854775808000000) ∧ (-9223372036854775808000000 ≤ sumT (l.take k) ∧ sumT (l.take k) ≤ 9223372036854775808000000) := fun k hk => by
    have h1 := sumN_bd (l.take k) (fun x hx => hfit x (List.mem_of_mem_take hx))
    have h2 := sumT_bd (l.take k) (fun x hx => hfit x (List.mem_of_mem_take hx))
    have h3 : (l.take k).length = k := by simp; omega
    rw [h3] at h1 h2
    omega
  have hN0 : sumN (l.take 0) = 0 := rfl
  have hT0 : sumT (l.take 0) = 0 := rfl
  have hd0 : dgs (0 : Int).natAbs = [] := by decide +kernel
  refine c_enter [(0, sliceV p l.length c)] [rowP p 4 (l.map encL)] noB Try.func102 rfl Try.ntmps102 ⟨rfl, trivial⟩ rfl (okC (ok_rowP hrow hb) okN) dis1 (mineC (by rfl) mineN) ?_
  intro a hS
  refine c_seq ?_
  refine c_region ?_
  refine L_op (s_e hS (e_assign rfl) rfl ?_); clear hS a; intro a hS
  refine L_op (s_e hS (e_assign rfl) rfl ?_); clear hS a; intro a hS
  refine L_op (s_e hS (e_assign rfl) rfl ?_); clear hS a; intro a hS
  refine L_nil ?_
  refine n_then ?_
  refine c_seq ?_
  refine c_region ?_
  refine L_op (s_e hS (e_build ty_z47 ty_pl47 .nil) rfl ?_); clear hS a; intro a hS
  refine L_op (s_alloc hS ty_z47 rfl ?_); clear hS a; (try clear w); intro a w b5 hS
  refine L_op (s_storeA hS rfl rfl ty_sz47 (by repeat constructor) (by rfl) (by rfl) (by rfl) ?_); clear hS; (try clear w); intro w hS
  refine L_nil ?_
  refine n_then ?_
  refine c_seq ?_
  refine c_region ?_
  refine L_op (s_e hS (e_build ty_z47 ty_pl47 .nil) rfl ?_); clear hS a; intro a hS
  refine L_op (s_alloc hS ty_z47 rfl ?_); clear hS a; (try clear w); intro a w b6 hS
  refine L_op (s_storeA hS rfl rfl ty_sz47 (by repeat constructor) (by rfl) (by rfl) (by rfl) ?_); clear hS; (try clear w); intro w hS
  refine L_nil ?_
  refine n_then ?_
  refine c_seq ?_
  refine c_seq ?_
  replace hS := (hS.fresh (Y := oneA none (dgs (sumN (l.take 0)).natAbs)) (Chg.refl _ _) (ok_rowP (by show _ = _; rw [hN0, hd0]; rfl) (fun q hq => by cases hq)) (fun b hb => by obtain ⟨_, hb⟩ := hb; cases hb)).fresh (Y := oneA none (dgs (sumT (l.take 0)).natAbs)) (Chg.refl _ _) (ok_rowP (by show _ = _; rw [hT0, hd0]; rfl) (fun q hq => by cases hq)) (fun b hb => by obtain ⟨_, hb⟩ := hb; cases hb)
  have ec : ([.bool false, .slice none 0 0] : List Value) = bigC (sumN (l.take 0)) (none, 0) := by unfold bigC; rw [hN0, hd0]; rfl
  have ed : ([.bool false, .slice none 0 0] : List Value) = bigC (sumT (l.take 0)) (none, 0) := by unfold bigC; rw [hT0, hd0]; rfl
  replace hS : St 67 noB w0 a w [(0, sliceV p l.length c), (5, .pointer (some ⟨b5, 0, none⟩)), (6, .pointer (some ⟨b6, 0, none⟩))] [oneA none (dgs (sumT (l.take 0)).natAbs), oneA none (dgs (sumN (l.take 0)).natAbs), .blk b6 (bigC (sumT (l.take 0)) (none, 0)) 47, .blk b5 (bigC (sumN (l.take 0)) (none, 0)) 47, rowP p 4 (l.map encL)] := by rw [← ec, ← ed]; exact hS.slots (by repeat (first | exact trivial | refine ⟨rfl, ?_⟩))
  refine c_region ?_
  refine L_op (s_e hS (e_assign rfl) rfl ?_); clear hS a; intro a hS
  refine L_nil ?_
  refine n_then ?_
  refine wp_block ?_
  skip
  refine c_loop (γ := Nat × BP × BP) (fun s a w => St 67 noB w0 a w [(7, .int .i64 (s.1 : Int)), (0, sliceV p l.length c), (5, .pointer (some ⟨b5, 0, none⟩)), (6, .pointer (some ⟨b6, 0, none⟩))] [oneA s.2.2.1 (dgs (sumT (l.take s.1)).natAbs), oneA s.2.1.1 (dgs (sumN (l.take s.1)).natAbs), .blk b6 (bigC (sumT (l.take s.1)) s.2.2) 47, .blk b5 (bigC (sumN (l.take s.1)) s.2.1) 47, rowP p 4 (l.map encL)] ∧ s.1 ≤ l.length) (fun s => l.length - s.1) (0, (none, 0), (none, 0)) ⟨hS.slots (by repeat (first | exact trivial | refine ⟨rfl, ?_⟩)), Nat.zero_le _⟩ ?_
  clear hS a; (try clear w); intro s a w hI
  obtain ⟨hS, hk⟩ := hI
  obtain ⟨k, ⟨pN, cN⟩, pT, cT⟩ := s
  simp only at hS hk ⊢
  have bk := bd k hk
  refine c_seq ?_
  refine c_seq ?_
  refine c_region ?_
  refine L_op (s_e hS (e_move rfl) rfl ?_); clear hS a; intro a hS
  refine L_op (s_e hS (e_move rfl) rfl ?_); clear hS a; intro a hS
  refine L_op (s_e hS (e_len rfl rfl ty_sl112) rfl ?_); clear hS a; intro a hS
  refine L_op (s_e hS (e_bin rfl rfl rfl) rfl ?_); clear hS a; intro a hS
  refine L_nil ?_
  refine n_then ?_
  first | refine c_ifD hS rfl (fun hc19 => ?_) (fun hc19 => ?_) | refine c_if hS rfl (fun hc19 => ?_) (fun hc19 => ?_)
  ·
    obtain ⟨x, hx⟩ : ∃ x, l[k]? = some x := ⟨l[k], by simp⟩
    have hx' : (l.map encL)[k]? = some (encL x) := by simp [hx]
    obtain ⟨br, off, rfl⟩ := rowP_some hrow hx'
    have hxf := fits_get hfit hx
    have x1 := hxf.2.2.1
    have x2 := hxf.2.2.2
    have e1 := sumN_take l k x hx
    have e2 := sumT_take l k x hx
    refine wp_skip ?_
    refine n_then ?_
    refine c_seq ?_
    refine wp_block ?_
    refine c_seq ?_
    refine c_draw1 [8] (by kernel_rfl) hS ?_; clear hS; (try clear w); intro w hS
    simp only [List.length_cons, List.length_nil, Nat.zero_add, Nat.reduceAdd, List.replicate]
    refine Z_take (i := 0) hS rfl want_none (e_loadA rfl (by repeat constructor) ty_st47 ty_sz47 (by rfl)) (listed' := [true, false, false, false, false, false, false, false, false]) rfl (by kernel_rfl) (by kernel_rfl) (by kernel_rfl) (by kernel_rfl) (by kernel_rfl) (by intro X hX; repeat (first | exact hX | apply List.Mem.tail)) (fun _ _ _ h => h) rfl ?_; clear hS a; intro a hS
    refine Z_take0 (i := 1) hS rfl want_none (e_move rfl) (listed' := [true, true, false, false, false, false, false, false, false]) rfl (by kernel_rfl) (by kernel_rfl) (by kernel_rfl) (fun _ _ _ h => h) rfl ?_; clear hS a; intro a hS
    refine Z_take0 (i := 2) hS rfl want_none (e_move rfl) (listed' := [true, true, true, false, false, false, false, false, false]) rfl (by kernel_rfl) (by kernel_rfl) (by kernel_rfl) (fun _ _ _ h => h) rfl ?_; clear hS a; intro a hS
    refine Z_take0 (i := 3) hS rfl want_none (e_ixN rfl rfl ty_sl112 ty_sz148 (by omega)) (listed' := [true, true, true, true, false, false, false, false, false]) rfl (by kernel_rfl) (by kernel_rfl) (by kernel_rfl) (fun _ _ _ h => h) rfl ?_; clear hS a; intro a hS
    first | (refine Z_take0 (i := 4) hS rfl want_none (e_fa0 rfl ty_fo148_2) (listed' := [true, true, true, true, true, false, false, false, false]) rfl (by kernel_rfl) (by kernel_rfl) (by kernel_rfl) (fun _ _ _ h => h) rfl ?_; clear hS a; intro a hS) | (refine Z_take0 (i := 4) hS rfl want_none (e_faK rfl ty_fo148_2) (listed' := [true, true, true, true, true, false, false, false, false]) rfl (by kernel_rfl) (by kernel_rfl) (by kernel_rfl) (fun _ _ _ h => h) rfl ?_; clear hS a; intro a hS)
    refine Z_take (i := 5) hS rfl want_none (e_loadC rfl ty_sc3 (fun w hh => rowP_get (by repeat constructor) hx' w hh 2 (.int .i64 x.net) rfl)) (listed' := [true, true, true, true, true, true, false, false, false]) rfl (by kernel_rfl) (by kernel_rfl) (by kernel_rfl) (by kernel_rfl) (by kernel_rfl) (by intro X hX; repeat (first | exact hX | apply List.Mem.tail)) (fun _ _ _ h => h) rfl ?_; clear hS a; intro a hS
    refine Z_one (i := 6) rfl (want_none a hS.sl) (listed' := [true, true, true, true, true, true, true, false, false]) rfl (by kernel_rfl) (s_callN hS (.cons rfl .nil) cf24 rfl (BigOf_P x.net (by omega) _) ?_); clear hS a; (try clear w); intro x28 a w hS
    refine Z_and hS (by intro X hX; repeat (first | exact hX | apply List.Mem.tail)) ?_
    refine Z_one (i := 7) rfl (want_none a hS.sl) (listed' := [true, true, true, true, true, true, true, true, false]) rfl (by kernel_rfl) (s_callN hS (.cons rfl (.cons rfl .nil)) cf23 rfl (BigAdd_P pN (some (x28.1.1, 0)) cN x28.1.2 (sumN (l.take k)) x.net 20 (by decide) (len20 (by omega)) (len20 (by omega)) _ (two_ob hS (by repeat constructor) (by repeat constructor))) ?_); clear hS a; (try clear w); intro x29 a w hS
    obtain ⟨⟨g29, c29⟩, h29⟩ := x29
    simp only at hS
    rw [← e1] at hS
    refine Z_and hS (by intro X hX; repeat (first | exact hX | apply List.Mem.tail)) ?_
    refine Z_one (i := 8) rfl (want_none a hS.sl) (listed' := [true, true, true, true, true, true, true, true, true]) rfl (by kernel_rfl) (s_storeA hS rfl rfl ty_sz47 (by repeat constructor) (by rfl) (by rfl) (by rfl) ?_); clear hS; (try clear w); intro w hS
    refine Z_last (by simp) ?_
    refine Z_done (by kernel_rfl) ?_
    refine n_then ?_
    refine c_draw1 [8] (by kernel_rfl) hS ?_; clear hS; (try clear w); intro w hS
    simp only [List.length_cons, List.length_nil, Nat.zero_add, Nat.reduceAdd, List.replicate]
    refine Z_take (i := 0) hS rfl want_none (e_loadA rfl (by repeat constructor) ty_st47 ty_sz47 (by rfl)) (listed' := [true, false, false, false, false, false, false, false, false]) rfl (by kernel_rfl) (by kernel_rfl) (by kernel_rfl) (by kernel_rfl) (by kernel_rfl) (by intro X hX; repeat (first | exact hX | apply List.Mem.tail)) (fun _ _ _ h => h) rfl ?_; clear hS a; intro a hS
    refine Z_take0 (i := 1) hS rfl want_none (e_move rfl) (listed' := [true, true, false, false, false, false, false, false, false]) rfl (by kernel_rfl) (by kernel_rfl) (by kernel_rfl) (fun _ _ _ h => h) rfl ?_; clear hS a; intro a hS
    refine Z_take0 (i := 2) hS rfl want_none (e_move rfl) (listed' := [true, true, true, false, false, false, false, false, false]) rfl (by kernel_rfl) (by kernel_rfl) (by kernel_rfl) (fun _ _ _ h => h) rfl ?_; clear hS a; intro a hS
    refine Z_take0 (i := 3) hS rfl want_none (e_ixN rfl rfl ty_sl112 ty_sz148 (by omega)) (listed' := [true, true, true, true, false, false, false, false, false]) rfl (by kernel_rfl) (by kernel_rfl) (by kernel_rfl) (fun _ _ _ h => h) rfl ?_; clear hS a; intro a hS
    first | (refine Z_take0 (i := 4) hS rfl want_none (e_fa0 rfl ty_fo148_3) (listed' := [true, true, true, true, true, false, false, false, false]) rfl (by kernel_rfl) (by kernel_rfl) (by kernel_rfl) (fun _ _ _ h => h) rfl ?_; clear hS a; intro a hS) | (refine Z_take0 (i := 4) hS rfl want_none (e_faK rfl ty_fo148_3) (listed' := [true, true, true, true, true, false, false, false, false]) rfl (by kernel_rfl) (by kernel_rfl) (by kernel_rfl) (fun _ _ _ h => h) rfl ?_; clear hS a; intro a hS)
    refine Z_take (i := 5) hS rfl want_none (e_loadC rfl ty_sc3 (fun w hh => rowP_get (by repeat constructor) hx' w hh 3 (.int .i64 x.tax) rfl)) (listed' := [true, true, true, true, true, true, false, false, false]) rfl (by kernel_rfl) (by kernel_rfl) (by kernel_rfl) (by kernel_rfl) (by kernel_rfl) (by intro X hX; repeat (first | exact hX | apply List.Mem.tail)) (fun _ _ _ h => h) rfl ?_; clear hS a; intro a hS
    refine Z_one (i := 6) rfl (want_none a hS.sl) (listed' := [true, true, true, true, true, true, true, false, false]) rfl (by kernel_rfl) (s_callN hS (.cons rfl .nil) cf24 rfl (BigOf_P x.tax (by omega) _) ?_); clear hS a; (try clear w); intro x36 a w hS
    refine Z_and hS (by intro X hX; repeat (first | exact hX | apply List.Mem.tail)) ?_
    refine Z_one (i := 7) rfl (want_none a hS.sl) (listed' := [true, true, true, true, true, true, true, true, false]) rfl (by kernel_rfl) (s_callN hS (.cons rfl (.cons rfl .nil)) cf23 rfl (BigAdd_P pT (some (x36.1.1, 0)) cT x36.1.2 (sumT (l.take k)) x.tax 20 (by decide) (len20 (by omega)) (len20 (by omega)) _ (two_ob hS (by repeat constructor) (by repeat constructor))) ?_); clear hS a; (try clear w); intro x37 a w hS
    obtain ⟨⟨g37, c37⟩, h37⟩ := x37
    simp only at hS
    rw [← e2] at hS
    refine Z_and hS (by intro X hX; repeat (first | exact hX | apply List.Mem.tail)) ?_
    refine Z_one (i := 8) rfl (want_none a hS.sl) (listed' := [true, true, true, true, true, true, true, true, true]) rfl (by kernel_rfl) (s_storeA hS rfl rfl ty_sz47 (by repeat constructor) (by rfl) (by rfl) (by rfl) ?_); clear hS; (try clear w); intro w hS
    refine Z_last (by simp) ?_
    refine Z_done (by kernel_rfl) ?_
    refine n_block ?_
    refine n_then ?_
    refine c_region ?_
    refine L_op (s_e hS (e_move rfl) rfl ?_); clear hS a; intro a hS
    first | (refine L_op (s_e hS (e_binN rfl rfl rfl (by omega)) rfl ?_); clear hS a; intro a hS) | (refine L_op (s_e hS (e_bin rfl rfl rfl) rfl ?_); clear hS a; intro a hS)
    refine L_op (s_e hS (e_assign rfl) rfl ?_); clear hS a; intro a hS
    refine L_nil ?_
    replace hS := hS.swap (X := bigA (sumT (l.take (k + 1))) g37) (Y := oneA (some (g37, 0)) (dgs (sumT (l.take (k + 1))).natAbs)) (by repeat constructor) (one_of hS (by repeat constructor)) (fun b hb => by obtain ⟨o, ho⟩ := hb; cases ho; rfl) rfl
    replace hS := hS.swap (X := bigA (sumN (l.take (k + 1))) g29) (Y := oneA (some (g29, 0)) (dgs (sumN (l.take (k + 1))).natAbs)) (by repeat constructor) (one_of hS (by repeat constructor)) (fun b hb => by obtain ⟨o, ho⟩ := hb; cases ho; rfl) rfl
    exact ⟨(k + 1, (some (g29, 0), c29), some (g37, 0), c37), by simp only; omega, (hS.slots (by repeat (first | exact trivial | refine ⟨rfl, ?_⟩))).pick (by repeat (first | exact Pick.nil | (refine Pick.cons (by repeat (first | exact Rem.head | apply Rem.tail)) ?_))), by simp only; omega⟩
  ·
    obtain rfl : k = l.length := by omega
    rw [List.take_length] at hS bk
    refine wp_exit ?_
    refine x_then (x_then (x_hit ?_))
    refine n_then ?_
    refine c_seq ?_
    refine c_region ?_
    refine L_op (s_e hS (e_loadA rfl (by repeat constructor) ty_st47 ty_sz47 (by rfl)) rfl ?_); clear hS a; intro a hS
    refine L_op (s_callP hS (.cons rfl .nil) cf120 rfl (xUnits_P pN cN (sumN l) (by have := len20 (z := sumN l) (by omega); omega) _ (hS.ok (oneA pN (dgs (sumN l).natAbs)) (by repeat constructor))) ?_); clear hS a; (try clear w); intro a w hS
    refine L_op (s_e hS (e_move rfl) rfl ?_); clear hS a; intro a hS
    refine L_op (s_e hS (e_extract rfl rfl) rfl ?_); clear hS a; intro a hS
    refine L_op (s_e hS (e_extract rfl rfl) rfl ?_); clear hS a; intro a hS
    refine L_op (s_e hS (e_assign rfl) rfl ?_); clear hS a; intro a hS
    refine L_op (s_e hS (e_assign rfl) rfl ?_); clear hS a; intro a hS
    refine L_nil ?_
    refine n_then ?_
    refine c_seq ?_
    refine c_region ?_
    refine L_op (s_e hS (e_loadA rfl (by repeat constructor) ty_st47 ty_sz47 (by rfl)) rfl ?_); clear hS a; intro a hS
    refine L_op (s_callP hS (.cons rfl .nil) cf120 rfl (xUnits_P pT cT (sumT l) (by have := len20 (z := sumT l) (by omega); omega) _ (hS.ok (oneA pT (dgs (sumT l).natAbs)) (by repeat constructor))) ?_); clear hS a; (try clear w); intro a w hS
    refine L_op (s_e hS (e_move rfl) rfl ?_); clear hS a; intro a hS
    refine L_op (s_e hS (e_extract rfl rfl) rfl ?_); clear hS a; intro a hS
    refine L_op (s_e hS (e_extract rfl rfl) rfl ?_); clear hS a; intro a hS
    refine L_op (s_e hS (e_assign rfl) rfl ?_); clear hS a; intro a hS
    refine L_op (s_e hS (e_assign rfl) rfl ?_); clear hS a; intro a hS
    refine L_nil ?_
    refine n_then ?_
    refine c_seq ?_
    refine c_region ?_
    refine L_op (s_e hS (e_loadA rfl (by repeat constructor) ty_st47 ty_sz47 (by rfl)) rfl ?_); clear hS a; intro a hS
    refine L_op (s_e hS (e_loadA rfl (by repeat constructor) ty_st47 ty_sz47 (by rfl)) rfl ?_); clear hS a; intro a hS
    refine L_op (s_callN hS (.cons rfl (.cons rfl .nil)) cf23 rfl (BigAdd_P pN pT cN cT (sumN l) (sumT l) 20 (by decide) (len20 (by omega)) (len20 (by omega)) _ (two_oo hS (by repeat constructor) (by repeat constructor))) ?_); clear hS a; (try clear w); intro x51 a w hS
    refine L_op (s_callP hS (.cons rfl .nil) cf120 rfl (xUnits_P (some (x51.1.1, 0)) x51.1.2 (sumN l + sumT l) (by have := len20 (z := sumN l + sumT l) (by omega); omega) _ (one_of hS (b := x51.1.1) (by repeat constructor))) ?_); clear hS a; (try clear w); intro a w hS
    refine L_op (s_e hS (e_move rfl) rfl ?_); clear hS a; intro a hS
    refine L_op (s_e hS (e_extract rfl rfl) rfl ?_); clear hS a; intro a hS
    refine L_op (s_e hS (e_extract rfl rfl) rfl ?_); clear hS a; intro a hS
    refine L_op (s_e hS (e_assign rfl) rfl ?_); clear hS a; intro a hS
    refine L_op (s_e hS (e_assign rfl) rfl ?_); clear hS a; intro a hS
    refine L_nil ?_
    refine n_then ?_
    refine c_seq ?_
    refine c_seq ?_
    refine c_region ?_
    refine L_op (s_e hS (e_move rfl) rfl ?_); clear hS a; intro a hS
    refine L_op (s_e hS (e_not rfl) rfl ?_); clear hS a; intro a hS
    refine L_op (s_e hS (e_move rfl) rfl ?_); clear hS a; intro a hS
    refine L_merge 3 60 (.bool (decide (¬ inU (sumN l) ∨ ¬ inU (sumT l)))) hS ?_ ?_
    · intro hcM60
      (first | refine g_splitD (t := 57) hS rfl ?_ ?_ | refine g_split (t := 57) hS rfl ?_ ?_) <;> (clear hS; intro hg57 hS)
      ·
        refine L_skip_f hS rfl rfl rfl ?_; clear hS a; intro a hS
        refine L_skip_f hS rfl rfl rfl ?_; clear hS a; intro a hS
        first | (refine L_op (s_e hS (e_pick_t rfl rfl) rfl ?_); clear hS a; intro a hS) | (refine L_op (s_e hS (e_pick_f rfl rfl) rfl ?_); clear hS a; intro a hS)
        exact hcM60 _ _ (hS.ends 4 60 57 rfl (congrArg Value.bool (by simp at hg57; simp [hg57])) rfl rfl (by first | exact congrArg Value.bool (decide_eq_true hg57).symm | exact congrArg Value.bool hg57.symm | simp [hg57]) rfl)
      ·
        refine L_go hS rfl rfl (s_e hS (e_move rfl) rfl ?_); clear hS a; intro a hS
        refine L_go hS rfl rfl (s_e hS (e_not rfl) rfl ?_); clear hS a; intro a hS
        first | (refine L_op (s_e hS (e_pick_t rfl rfl) rfl ?_); clear hS a; intro a hS) | (refine L_op (s_e hS (e_pick_f rfl rfl) rfl ?_); clear hS a; intro a hS)
        exact hcM60 _ _ (hS.ends 4 60 57 rfl (congrArg Value.bool (by simp at hg57; simp [hg57])) rfl rfl (by first | exact congrArg Value.bool (decide_eq_false hg57).symm | exact congrArg Value.bool hg57.symm | simp [hg57]) rfl)
    · clear hS a; (try clear w); intro a w hS
      simp only [List.drop_succ_cons, List.drop_zero]
      refine L_op (s_e hS (e_move rfl) rfl ?_); clear hS a; intro a hS
      refine L_merge 3 64 (.bool (decide ((¬ inU (sumN l) ∨ ¬ inU (sumT l)) ∨ ¬ inU (sumN l + sumT l)))) hS ?_ ?_
      · intro hcM64
        (first | refine g_splitD (t := 61) hS rfl ?_ ?_ | refine g_split (t := 61) hS rfl ?_ ?_) <;> (clear hS; intro hg61 hS)
        ·
          refine L_skip_f hS rfl rfl rfl ?_; clear hS a; intro a hS
          refine L_skip_f hS rfl rfl rfl ?_; clear hS a; intro a hS
          first | (refine L_op (s_e hS (e_pick_t rfl rfl) rfl ?_); clear hS a; intro a hS) | (refine L_op (s_e hS (e_pick_f rfl rfl) rfl ?_); clear hS a; intro a hS)
          exact hcM64 _ _ (hS.ends 4 64 61 rfl (congrArg Value.bool (by exact (decide_eq_true (.inl hg61)).symm)) rfl rfl (by first | exact congrArg Value.bool (decide_eq_true hg61).symm | exact congrArg Value.bool hg61.symm | simp [hg61]) rfl)
        ·
          refine L_go hS rfl rfl (s_e hS (e_move rfl) rfl ?_); clear hS a; intro a hS
          refine L_go hS rfl rfl (s_e hS (e_not rfl) rfl ?_); clear hS a; intro a hS
          first | (refine L_op (s_e hS (e_pick_t rfl rfl) rfl ?_); clear hS a; intro a hS) | (refine L_op (s_e hS (e_pick_f rfl rfl) rfl ?_); clear hS a; intro a hS)
          exact hcM64 _ _ (hS.ends 4 64 61 rfl (congrArg Value.bool (by simp [hg61])) rfl rfl (by first | exact congrArg Value.bool (decide_eq_false hg61).symm | exact congrArg Value.bool hg61.symm | simp [hg61]) rfl)
      · clear hS a; (try clear w); intro a w hS
        simp only [List.drop_succ_cons, List.drop_zero]
        refine L_nil ?_
        refine n_then ?_
        first | refine c_ifD hS rfl (fun hc64 => ?_) (fun hc64 => ?_) | refine c_if hS rfl (fun hc64 => ?_) (fun hc64 => ?_)
        ·
          refine c_seq ?_
          refine c_region ?_
          refine L_op (s_e hS (e_assign rfl) rfl ?_); clear hS a; intro a hS
          refine L_op (s_e hS (e_assign rfl) rfl ?_); clear hS a; intro a hS
          refine L_op (s_e hS (e_assign rfl) rfl ?_); clear hS a; intro a hS
          refine L_nil ?_
          refine n_then ?_
          refine wp_ret ?_
          refine r_then ?_
          refine c_retN hS Try.results102 (.cons (.tmp rfl) (.cons (.tmp rfl) (.cons (.tmp rfl) .nil))) rfl ?_
          exact ⟨by unfold sumR; rw [if_neg (fun hh => hc64.elim (fun h1 => h1.elim (fun h2 => h2 hh.1) (fun h2 => h2 hh.2.1)) (fun h1 => h1 hh.2.2))], hS.chg⟩
        ·
          refine wp_skip ?_
          refine n_then ?_
          refine c_seq ?_
          refine c_region ?_
          refine L_op (s_e hS (e_move rfl) rfl ?_); clear hS a; intro a hS
          refine L_op (s_e hS (e_move rfl) rfl ?_); clear hS a; intro a hS
          refine L_op (s_e hS (e_assign rfl) rfl ?_); clear hS a; intro a hS
          refine L_op (s_e hS (e_assign rfl) rfl ?_); clear hS a; intro a hS
          refine L_op (s_e hS (e_assign rfl) rfl ?_); clear hS a; intro a hS
          refine L_nil ?_
          refine n_then ?_
          refine wp_ret ?_
          refine c_retN hS Try.results102 (.cons (.tmp rfl) (.cons (.tmp rfl) (.cons (.tmp rfl) .nil))) rfl ?_
          have h1 : inU (sumN l) := Classical.byContradiction fun h => hc64 (.inl (.inl h))
          have h2 : inU (sumT l) := Classical.byContradiction fun h => hc64 (.inl (.inr h))
          have h3 : inU (sumN l + sumT l) := Classical.byContradiction fun h => hc64 (.inr h)
          exact ⟨by unfold sumR; rw [if_pos ⟨h1, h2, h3⟩, i64R_in h1, i64R_in h2], hS.chg⟩
end Go.Proofs.Ytfiaobhkhedpiaa
