/- Sums of lines, scales of currencies, an invoice's copy: walked. -/
import Derived.Test.YtfiaobhkhedpiaaInv1
import Derived.Test.YtfiaobhkhedpiaaWide1
namespace Go.Proofs.Ytfiaobhkhedpiaa
open Go.RowKit

def sumN (l : List RLine) : Int := (l.map (·.net)).sum
def sumT (l : List RLine) : Int := (l.map (·.tax)).sum
theorem sumN_take (l : List RLine) (k : Nat) (x : RLine) (h : l[k]? = some x) : sumN (l.take (k + 1)) = sumN (l.take k) + x.net := by
  unfold sumN; rw [List.take_add_one, h]; simp
theorem sumT_take (l : List RLine) (k : Nat) (x : RLine) (h : l[k]? = some x) : sumT (l.take (k + 1)) = sumT (l.take k) + x.tax := by
  unfold sumT; rw [List.take_add_one, h]; simp
theorem sumN_bd (l : List RLine) (h : ∀ x ∈ l, x.fits) : -9223372036854775808 * (l.length : Int) ≤ sumN l ∧ sumN l ≤ 9223372036854775808 * (l.length : Int) := by
  induction l with
  | nil => simp [sumN]
  | cons x l ih =>
    have h1 := ih (fun y hy => h y (.tail _ hy))
    have h2 := (h x (.head _)).2.2.1
    simp only [sumN, List.map_cons, List.sum_cons, List.length_cons] at *
    omega
theorem sumT_bd (l : List RLine) (h : ∀ x ∈ l, x.fits) : -9223372036854775808 * (l.length : Int) ≤ sumT l ∧ sumT l ≤ 9223372036854775808 * (l.length : Int) := by
  induction l with
  | nil => simp [sumT]
  | cons x l ih =>
    have h1 := ih (fun y hy => h y (.tail _ hy))
    have h2 := (h x (.head _)).2.2.2
    simp only [sumT, List.map_cons, List.sum_cons, List.length_cons] at *
    omega
def inU (n : Int) : Prop := -4611686018427387904 ≤ n ∧ n ≤ 4611686018427387904
instance (n : Int) : Decidable (inU n) := by unfold inU; infer_instance
/-- what a sum of lines answers: the two sums and an error. -/
def sumR (l : List RLine) : Int × Int × Int := if inU (sumN l) ∧ inU (sumT l) ∧ inU (sumN l + sumT l) then (sumN l, sumT l, 0) else (0, 0, 16)

theorem fits_get {l : List RLine} (h : ∀ x ∈ l, x.fits) {k : Nat} {x : RLine} (hx : l[k]? = some x) : x.fits := h x (List.mem_of_getElem? hx)

/-- a whole number of 128 bits that may be no int: what 'Int' answers. -/
def intR (v : Int) : Int × Int := if -9223372036854775808 ≤ v ∧ v < 9223372036854775808 then (v, 0) else (0, 16)
set_option maxRecDepth 100000 in
theorem Int_R (v : Int) (hf : Wd.fit v) (w0 : World) : PureC Try.prog 43 [.agg (wv v).toArray] w0 (.tuple [.int .i64 (intR v).1, .int .i64 (intR v).2].toArray) := by
  by_cases h : -9223372036854775808 ≤ v ∧ v < 9223372036854775808
  · rw [intR, if_pos h]; exact Int_P v h.1 h.2 w0
  · rw [intR, if_neg h]
    have hb := Wd.back_bd v
    have hne := Wd.back_ne v hf (by omega)
    have e1 : IntKind.i64.wrap (Wd.lo v) = Wd.back v := by rw [IntKind.wrap_i64]; unfold Wd.back RowKit.wrap64; omega
    refine c_enter [(0, .agg (wv v).toArray)] [] noB Try.func43 rfl Try.ntmps43 ⟨rfl, trivial⟩ rfl (by simp) (by simp) (by simp) ?_
    intro a hS
    refine c_seq ?_
    refine c_region ?_
    refine L_op (s_boxA hS rfl rfl ?_); clear hS a; (try clear w); intro a w b1 hS
    refine L_op (s_e hS (e_assign rfl) rfl ?_); clear hS a; intro a hS
    refine L_op (s_e hS (e_assign rfl) rfl ?_); clear hS a; intro a hS
    refine L_nil ?_
    refine n_then ?_
    refine c_seq ?_
    refine c_region ?_
    first | (refine L_op (s_e hS (e_fa0 rfl ty_fo60_1) rfl ?_); clear hS a; intro a hS) | (refine L_op (s_e hS (e_faK rfl ty_fo60_1) rfl ?_); clear hS a; intro a hS)
    refine L_op (s_e hS (e_load rfl (by repeat constructor) ty_sc58 (by rfl)) rfl ?_); clear hS a; intro a hS
    refine L_op (s_e hS (e_conv rfl ty_u58 ty_u3) rfl ?_); clear hS a; intro a hS
    rw [e1] at hS
    refine L_op (s_e hS (e_assign rfl) rfl ?_); clear hS a; intro a hS
    refine L_nil ?_
    refine n_then ?_
    refine c_seq ?_
    refine c_seq ?_
    refine c_draw1 [] (by kernel_rfl) hS ?_; clear hS; (try clear w); intro w hS
    simp only [List.length_cons, List.length_nil, Nat.zero_add, Nat.reduceAdd, List.replicate]
    refine Z_take0 (i := 0) hS rfl want_none (e_move rfl) (listed' := [true, false, false, false]) rfl (by kernel_rfl) (by kernel_rfl) (by kernel_rfl) (fun _ _ _ h => h) rfl ?_; clear hS a; intro a hS
    refine Z_take (i := 2) hS rfl want_none (e_loadA rfl (by repeat constructor) ty_st60 ty_sz60 (by rfl)) (listed' := [true, false, true, false]) rfl (by kernel_rfl) (by kernel_rfl) (by kernel_rfl) (by kernel_rfl) (by kernel_rfl) (by intro X hX; repeat (first | exact hX | apply List.Mem.tail)) (fun _ _ _ h => h) rfl ?_; clear hS a; intro a hS
    refine Z_one (i := 1) rfl (want_none a hS.sl) (listed' := [true, true, true, false]) rfl (by kernel_rfl) (s_callP hS (.cons rfl .nil) cf42 rfl (FromInt_P (Wd.back v) hb.1 hb.2 _) ?_); clear hS a; (try clear w); intro a w hS
    refine Z_and hS (by intro X hX; repeat (first | exact hX | apply List.Mem.tail)) ?_
    refine Z_take0 (i := 3) hS rfl want_none (e_binV rfl rfl (neq_Int _ _ _ _)) (listed' := [true, true, true, true]) rfl (by kernel_rfl) (by kernel_rfl) (by kernel_rfl) (fun _ _ _ h => h) rfl ?_; clear hS a; intro a hS
    refine Z_done (by kernel_rfl) ?_
    refine n_then ?_
    replace hS := hS.is (t := 11) (c := true) rfl ((by simp at hne; simp [hne]))
    refine c_if_t hS rfl ?_
    refine c_seq ?_
    refine c_region ?_
    refine L_op (s_e hS (e_assign rfl) rfl ?_); clear hS a; intro a hS
    refine L_op (s_e hS (e_assign rfl) rfl ?_); clear hS a; intro a hS
    refine L_nil ?_
    refine n_then ?_
    refine wp_ret ?_
    refine r_then ?_
    refine c_retN hS Try.results43 (.cons (.tmp rfl) (.cons (.tmp rfl) .nil)) rfl ?_
    exact ⟨rfl, hS.chg⟩

theorem intR_in (v : Int) : inU v ↔ (intR v).2 = 0 ∧ -4611686018427387904 ≤ (intR v).1 ∧ (intR v).1 ≤ 4611686018427387904 := by
  unfold inU intR; split <;> simp <;> omega
def ws3 (l : List RLine) : List Int := [sumN l, sumT l, sumN l + sumT l]
theorem ws3_fit {l : List RLine} (h1 : Wd.fit (sumN l) ∧ Wd.fit (sumT l)) (h2 : Wd.fit (sumN l + sumT l)) {k : Nat} {v : Int} (hv : (ws3 l)[k]? = some v) : Wd.fit v := by
  have := List.mem_of_getElem? hv
  simp only [ws3, List.mem_cons, List.not_mem_nil, or_false] at this
  rcases this with rfl | rfl | rfl
  · exact h1.1
  · exact h1.2
  · exact h2
theorem sumR_bad {l : List RLine} {k : Nat} {v : Int} (hv : (ws3 l)[k]? = some v) (hb : ¬ inU v) : sumR l = (0, 0, 16) := by
  have := List.mem_of_getElem? hv
  simp only [ws3, List.mem_cons, List.not_mem_nil, or_false] at this
  unfold sumR
  rw [if_neg]
  rintro ⟨h1, h2, h3⟩
  rcases this with rfl | rfl | rfl
  · exact hb h1
  · exact hb h2
  · exact hb h3
theorem sumR_good {l : List RLine} (h : ∀ j, j < 3 → ∀ v, (ws3 l)[j]? = some v → inU v) : (inU (sumN l) ∧ inU (sumT l)) ∧ sumR l = (sumN l, sumT l, 0) := by
  have h0 := h 0 (by omega) _ rfl
  have h1 := h 1 (by omega) _ rfl
  have h2 := h 2 (by omega) _ rfl
  exact ⟨⟨h0, h1⟩, by unfold sumR; rw [if_pos ⟨h0, h1, h2⟩]⟩

set_option maxRecDepth 100000 in
theorem rSum_P (p : Option (Nat × Nat)) (c : Nat) (l : List RLine) (hlen : l.length ≤ 1000000) (hfit : ∀ x ∈ l, x.fits) (w0 : World) (hrow : RowP p 4 (l.map encL) w0) (hb : ∀ q, p = some q → q.1 < w0.heap.size) :
    PureC Try.prog 57 [sliceV p l.length c] w0 (.tuple [.int .i64 (sumR l).1, .int .i64 (sumR l).2.1, .int .i64 (sumR l).2.2].toArray) := by
  have fitN : ∀ k, k ≤ l.length → Wd.fit (sumN (l.take k)) ∧ Wd.fit (sumT (l.take k)) := fun k hk => by
    have h1 := sumN_bd (l.take k) (fun x hx => hfit x (List.mem_of_mem_take hx))
    have h2 := sumT_bd (l.take k) (fun x hx => hfit x (List.mem_of_mem_take hx))
    have h3 : (l.take k).length = k := by simp; omega
    rw [h3] at h1 h2
    unfold Wd.fit; omega
  have hall := fitN l.length (Nat.le_refl _)
  rw [List.take_length] at hall
  have hN := sumN_bd l hfit
  have hT := sumT_bd l hfit
  have hboth : Wd.fit (sumN l + sumT l) := by unfold Wd.fit; omega
  refine c_enter [(0, sliceV p l.length c)] [rowP p 4 (l.map encL)] noB Try.func57 rfl Try.ntmps57 ⟨rfl, trivial⟩ rfl (by intro X hX; obtain rfl := List.mem_singleton.1 hX; exact ok_rowP hrow hb) (by simp) (by intro X hX hm; obtain rfl := List.mem_singleton.1 hX; cases hm) ?_
  intro a hS
  refine c_seq ?_
  refine c_region ?_
  refine L_op (s_e hS (e_assign rfl) rfl ?_); clear hS a; intro a hS
  refine L_op (s_e hS (e_assign rfl) rfl ?_); clear hS a; intro a hS
  refine L_op (s_e hS (e_assign rfl) rfl ?_); clear hS a; intro a hS
  refine L_nil ?_
  refine n_then ?_
  refine c_seq ?_
  refine c_region ?_
  refine L_op (s_e hS (e_build ty_z60 ty_pl60 .nil) rfl ?_); clear hS a; intro a hS
  refine L_op (s_e hS (e_build ty_z60 ty_pl60 .nil) rfl ?_); clear hS a; intro a hS
  refine L_op (s_alloc hS ty_z60 rfl ?_); clear hS a; (try clear w); intro a w b5 hS
  refine L_op (s_alloc hS ty_z60 rfl ?_); clear hS a; (try clear w); intro a w b6 hS
  refine L_op (s_storeA hS rfl rfl ty_sz60 (by repeat constructor) (by rfl) (by rfl) (by rfl) ?_); clear hS; (try clear w); intro w hS
  refine L_op (s_storeA hS rfl rfl ty_sz60 (by repeat constructor) (by rfl) (by rfl) (by rfl) ?_); clear hS; (try clear w); intro w hS
  refine L_nil ?_
  refine n_then ?_
  refine c_seq ?_
  refine c_seq ?_
  refine c_region ?_
  refine L_op (s_e hS (e_move rfl) rfl ?_); clear hS a; intro a hS
  refine L_op (s_e hS (e_len rfl rfl ty_sl22) rfl ?_); clear hS a; intro a hS
  refine L_op (s_e hS (e_move rfl) rfl ?_); clear hS a; intro a hS
  refine L_nil ?_
  refine n_then ?_
  refine wp_block ?_
  replace hS : ∃ b5 b6, St 87 noB w0 a w [(23, .int .i64 ((0 : Nat) : Int)), (22, .int .i64 (l.length : Int)), (21, sliceV p l.length c), (5, .pointer (some ⟨b5, 0, none⟩)), (6, .pointer (some ⟨b6, 0, none⟩))] [.blk b6 (wv (sumT (l.take 0))) 60, .blk b5 (wv (sumN (l.take 0))) 60, rowP p 4 (l.map encL)] := ⟨b5, b6, hS.slots ⟨rfl, rfl, rfl, rfl, rfl, trivial⟩⟩
  clear b5 b6
  obtain ⟨b5, b6, hS⟩ := hS
  refine c_loop (γ := Nat) (fun k a w => St 87 noB w0 a w [(23, .int .i64 (k : Int)), (22, .int .i64 (l.length : Int)), (21, sliceV p l.length c), (5, .pointer (some ⟨b5, 0, none⟩)), (6, .pointer (some ⟨b6, 0, none⟩))] [.blk b6 (wv (sumT (l.take k))) 60, .blk b5 (wv (sumN (l.take k))) 60, rowP p 4 (l.map encL)] ∧ k ≤ l.length) (fun k => l.length - k) 0 ⟨hS, Nat.zero_le _⟩ ?_
  clear hS a; (try clear w); intro k a w hI
  obtain ⟨hS, hk⟩ := hI
  refine c_seq ?_
  refine c_region ?_
  refine L_op (s_e hS (e_bin rfl rfl rfl) rfl ?_); clear hS a; intro a hS
  refine L_nil ?_
  refine n_then ?_
  refine c_seq ?_
  first | refine c_ifD hS rfl (fun hc24 => ?_) (fun hc24 => ?_) | refine c_if hS rfl (fun hc24 => ?_) (fun hc24 => ?_)
  ·
    obtain ⟨x, hx⟩ : ∃ x, l[k]? = some x := ⟨l[k], by simp⟩
    have hx' : (l.map encL)[k]? = some (encL x) := by simp [hx]
    obtain ⟨br, off, rfl⟩ := rowP_some hrow hx'
    have hxf := fits_get hfit hx
    have f1 := fitN k hk
    have f2 := fitN (k + 1) (by omega)
    have e1 := sumN_take l k x hx
    have e2 := sumT_take l k x hx
    refine wp_skip ?_
    refine n_then ?_
    refine c_seq ?_
    refine wp_block ?_
    refine c_seq ?_
    refine c_region ?_
    refine L_op (s_e hS (e_ixN rfl rfl ty_sl22 ty_sz26 (by omega)) rfl ?_); clear hS a; intro a hS
    refine L_op (s_e hS (e_loadAC (l := encL x) rfl ty_st26 ty_sz26 (rowP_get (by repeat (first | exact .head _ | refine .tail _ ?_)) hx')) rfl ?_); clear hS a; intro a hS
    refine L_op (s_alloc hS ty_z26 rfl ?_); clear hS a; (try clear w); intro a w b8 hS
    refine L_op (s_storeA hS rfl rfl ty_sz26 (by repeat constructor) (by rfl) (by rfl) (by rfl) ?_); clear hS; (try clear w); intro w hS
    refine L_nil ?_
    refine n_then ?_
    refine c_seq ?_
    refine c_draw1 [8] (by kernel_rfl) hS ?_; clear hS; (try clear w); intro w hS
    simp only [List.length_cons, List.length_nil, Nat.zero_add, Nat.reduceAdd, List.replicate]
    refine Z_take (i := 0) hS rfl want_none (e_loadA rfl (by repeat constructor) ty_st60 ty_sz60 (by rfl)) (listed' := [true, false, false, false, false, false, false, false, false]) rfl (by kernel_rfl) (by kernel_rfl) (by kernel_rfl) (by kernel_rfl) (by kernel_rfl) (by intro X hX; repeat (first | exact hX | apply List.Mem.tail)) (fun _ _ _ h => h) rfl ?_; clear hS a; intro a hS
    first | (refine Z_take0 (i := 1) hS rfl want_none (e_fa0 rfl ty_fo26_2) (listed' := [true, true, false, false, false, false, false, false, false]) rfl (by kernel_rfl) (by kernel_rfl) (by kernel_rfl) (fun _ _ _ h => h) rfl ?_; clear hS a; intro a hS) | (refine Z_take0 (i := 1) hS rfl want_none (e_faK rfl ty_fo26_2) (listed' := [true, true, false, false, false, false, false, false, false]) rfl (by kernel_rfl) (by kernel_rfl) (by kernel_rfl) (fun _ _ _ h => h) rfl ?_; clear hS a; intro a hS)
    refine Z_take (i := 2) hS rfl want_none (e_load rfl (by repeat constructor) ty_sc3 (by rfl)) (listed' := [true, true, true, false, false, false, false, false, false]) rfl (by kernel_rfl) (by kernel_rfl) (by kernel_rfl) (by kernel_rfl) (by kernel_rfl) (by intro X hX; repeat (first | exact hX | apply List.Mem.tail)) (fun _ _ _ h => h) rfl ?_; clear hS a; intro a hS
    refine Z_one (i := 3) rfl (want_none a hS.sl) (listed' := [true, true, true, true, false, false, false, false, false]) rfl (by kernel_rfl) (s_callP hS (.cons rfl .nil) cf42 rfl (FromInt_P x.net hxf.2.2.1.1 (by have := hxf.2.2.1.2; omega) _) ?_); clear hS a; (try clear w); intro a w hS
    refine Z_and hS (by intro X hX; repeat (first | exact hX | apply List.Mem.tail)) ?_
    refine Z_one (i := 4) rfl (want_none a hS.sl) (listed' := [true, true, true, true, true, false, false, false, false]) rfl (by kernel_rfl) (s_callP hS (.cons rfl (.cons rfl .nil)) cf46 rfl (Add_P (sumN (l.take k)) x.net f1.1 (by have := hxf.2.2.1; unfold Wd.fit; omega) (by rw [← e1]; exact f2.1) _) ?_); clear hS a; (try clear w); intro a w hS
    refine Z_and hS (by intro X hX; repeat (first | exact hX | apply List.Mem.tail)) ?_
    refine Z_take0 (i := 5) hS rfl want_none (e_move rfl) (listed' := [true, true, true, true, true, true, false, false, false]) rfl (by kernel_rfl) (by kernel_rfl) (by kernel_rfl) (fun _ _ _ h => h) rfl ?_; clear hS a; intro a hS
    refine Z_take0 (i := 6) hS rfl want_none (e_extract rfl rfl) (listed' := [true, true, true, true, true, true, true, false, false]) rfl (by kernel_rfl) (by kernel_rfl) (by kernel_rfl) (fun _ _ _ h => h) rfl ?_; clear hS a; intro a hS
    refine Z_take0 (i := 7) hS rfl want_none (e_extract rfl rfl) (listed' := [true, true, true, true, true, true, true, true, false]) rfl (by kernel_rfl) (by kernel_rfl) (by kernel_rfl) (fun _ _ _ h => h) rfl ?_; clear hS a; intro a hS
    refine Z_one (i := 8) rfl (want_none a hS.sl) (listed' := [true, true, true, true, true, true, true, true, true]) rfl (by kernel_rfl) (s_storeA hS rfl rfl ty_sz60 (by repeat constructor) (by rfl) (by rfl) (by rfl) ?_); clear hS; (try clear w); intro w hS
    refine Z_last (by simp) ?_
    refine Z_done (by kernel_rfl) ?_
    refine n_then ?_
    refine c_draw1 [8] (by kernel_rfl) hS ?_; clear hS; (try clear w); intro w hS
    simp only [List.length_cons, List.length_nil, Nat.zero_add, Nat.reduceAdd, List.replicate]
    refine Z_take (i := 0) hS rfl want_none (e_loadA rfl (by repeat constructor) ty_st60 ty_sz60 (by rfl)) (listed' := [true, false, false, false, false, false, false, false, false]) rfl (by kernel_rfl) (by kernel_rfl) (by kernel_rfl) (by kernel_rfl) (by kernel_rfl) (by intro X hX; repeat (first | exact hX | apply List.Mem.tail)) (fun _ _ _ h => h) rfl ?_; clear hS a; intro a hS
    first | (refine Z_take0 (i := 1) hS rfl want_none (e_fa0 rfl ty_fo26_3) (listed' := [true, true, false, false, false, false, false, false, false]) rfl (by kernel_rfl) (by kernel_rfl) (by kernel_rfl) (fun _ _ _ h => h) rfl ?_; clear hS a; intro a hS) | (refine Z_take0 (i := 1) hS rfl want_none (e_faK rfl ty_fo26_3) (listed' := [true, true, false, false, false, false, false, false, false]) rfl (by kernel_rfl) (by kernel_rfl) (by kernel_rfl) (fun _ _ _ h => h) rfl ?_; clear hS a; intro a hS)
    refine Z_take (i := 2) hS rfl want_none (e_load rfl (by repeat constructor) ty_sc3 (by rfl)) (listed' := [true, true, true, false, false, false, false, false, false]) rfl (by kernel_rfl) (by kernel_rfl) (by kernel_rfl) (by kernel_rfl) (by kernel_rfl) (by intro X hX; repeat (first | exact hX | apply List.Mem.tail)) (fun _ _ _ h => h) rfl ?_; clear hS a; intro a hS
    refine Z_one (i := 3) rfl (want_none a hS.sl) (listed' := [true, true, true, true, false, false, false, false, false]) rfl (by kernel_rfl) (s_callP hS (.cons rfl .nil) cf42 rfl (FromInt_P x.tax hxf.2.2.2.1 (by have := hxf.2.2.2.2; omega) _) ?_); clear hS a; (try clear w); intro a w hS
    refine Z_and hS (by intro X hX; repeat (first | exact hX | apply List.Mem.tail)) ?_
    refine Z_one (i := 4) rfl (want_none a hS.sl) (listed' := [true, true, true, true, true, false, false, false, false]) rfl (by kernel_rfl) (s_callP hS (.cons rfl (.cons rfl .nil)) cf46 rfl (Add_P (sumT (l.take k)) x.tax f1.2 (by have := hxf.2.2.2; unfold Wd.fit; omega) (by rw [← e2]; exact f2.2) _) ?_); clear hS a; (try clear w); intro a w hS
    refine Z_and hS (by intro X hX; repeat (first | exact hX | apply List.Mem.tail)) ?_
    refine Z_take0 (i := 5) hS rfl want_none (e_move rfl) (listed' := [true, true, true, true, true, true, false, false, false]) rfl (by kernel_rfl) (by kernel_rfl) (by kernel_rfl) (fun _ _ _ h => h) rfl ?_; clear hS a; intro a hS
    refine Z_take0 (i := 6) hS rfl want_none (e_extract rfl rfl) (listed' := [true, true, true, true, true, true, true, false, false]) rfl (by kernel_rfl) (by kernel_rfl) (by kernel_rfl) (fun _ _ _ h => h) rfl ?_; clear hS a; intro a hS
    refine Z_take0 (i := 7) hS rfl want_none (e_extract rfl rfl) (listed' := [true, true, true, true, true, true, true, true, false]) rfl (by kernel_rfl) (by kernel_rfl) (by kernel_rfl) (fun _ _ _ h => h) rfl ?_; clear hS a; intro a hS
    refine Z_one (i := 8) rfl (want_none a hS.sl) (listed' := [true, true, true, true, true, true, true, true, true]) rfl (by kernel_rfl) (s_storeA hS rfl rfl ty_sz60 (by repeat constructor) (by rfl) (by rfl) (by rfl) ?_); clear hS; (try clear w); intro w hS
    refine Z_last (by simp) ?_
    refine Z_done (by kernel_rfl) ?_
    refine n_block ?_
    refine n_then ?_
    refine c_region ?_
    first | (refine L_op (s_e hS (e_binN rfl rfl rfl (by omega)) rfl ?_); clear hS a; intro a hS) | (refine L_op (s_e hS (e_bin rfl rfl rfl) rfl ?_); clear hS a; intro a hS)
    refine L_op (s_e hS (e_move rfl) rfl ?_); clear hS a; intro a hS
    refine L_nil ?_
    rw [← e1, ← e2] at hS
    exact ⟨k + 1, by omega, (hS.drop (.cons _ (.refl _))).slots ⟨rfl, rfl, rfl, rfl, rfl, trivial⟩, by omega⟩
  ·
    obtain rfl : k = l.length := by omega
    rw [List.take_length] at hS
    refine wp_exit ?_
    refine x_then (x_then (x_hit ?_))
    refine n_then ?_
    refine c_seq ?_
    refine c_region ?_
    refine L_op (s_e hS (e_loadA rfl (by repeat constructor) ty_st60 ty_sz60 (by rfl)) rfl ?_); clear hS a; intro a hS
    refine L_op (s_e hS (e_loadA rfl (by repeat constructor) ty_st60 ty_sz60 (by rfl)) rfl ?_); clear hS a; intro a hS
    refine L_op (s_callP hS (.cons rfl (.cons rfl .nil)) cf46 rfl (Add_P (sumN l) (sumT l) hall.1 hall.2 hboth _) ?_); clear hS a; (try clear w); intro a w hS
    refine L_op (s_e hS (e_move rfl) rfl ?_); clear hS a; intro a hS
    refine L_op (s_e hS (e_extract rfl rfl) rfl ?_); clear hS a; intro a hS
    refine L_op (s_e hS (e_extract rfl rfl) rfl ?_); clear hS a; intro a hS
    refine L_op (s_alloc hS ty_z60 rfl ?_); clear hS a; (try clear w); intro a w b9 hS
    refine L_op (s_storeA hS rfl rfl ty_sz60 (by repeat constructor) (by rfl) (by rfl) (by rfl) ?_); clear hS; (try clear w); intro w hS
    refine L_op (s_e hS (e_assign rfl) rfl ?_); clear hS a; intro a hS
    refine L_nil ?_
    refine n_then ?_
    refine c_seq ?_
    refine c_seq ?_
    refine c_region ?_
    refine L_op (s_e hS (e_loadA rfl (by repeat constructor) ty_st60 ty_sz60 (by rfl)) rfl ?_); clear hS a; intro a hS
    refine L_op (s_e hS (e_loadA rfl (by repeat constructor) ty_st60 ty_sz60 (by rfl)) rfl ?_); clear hS a; intro a hS
    refine L_op (s_e hS (e_loadA rfl (by repeat constructor) ty_st60 ty_sz60 (by rfl)) rfl ?_); clear hS a; intro a hS
    refine L_op (s_bslice hS ty_sl141 ty_sz60 ty_z60 rfl rfl rfl rfl (.agg rfl rfl (.agg rfl rfl (.agg rfl rfl .nil))) rfl ?_); clear hS a; (try clear w); intro a w b53 hS
    refine L_op (s_e hS (e_len rfl rfl ty_sl141) rfl ?_); clear hS a; intro a hS
    refine L_op (s_e hS (e_move rfl) rfl ?_); clear hS a; intro a hS
    refine L_nil ?_
    refine n_then ?_
    refine wp_block ?_
    have e3 : wv (sumN l) ++ (wv (sumT l) ++ (wv (sumN l + sumT l) ++ [])) = (ws3 l).flatMap wv := by simp [ws3]
    rw [e3] at hS
    refine c_loop (γ := Nat) (fun k a w => St 87 noB w0 a w [(55, .int .i64 (k : Int)), (54, .int .i64 ((3 : Nat) : Int)), (53, .slice (some ⟨b53, 0, none⟩) 3 3), (5, .pointer (some ⟨b5, 0, none⟩)), (6, .pointer (some ⟨b6, 0, none⟩))] [.blk b53 ((ws3 l).flatMap wv) 60, .blk b9 (wv (sumN l + sumT l)) 60, .blk b6 (wv (sumT l)) 60, .blk b5 (wv (sumN l)) 60, rowP p 4 (l.map encL)] ∧ k ≤ 3 ∧ ∀ j, j < k → ∀ v, (ws3 l)[j]? = some v → inU v) (fun k => 3 - k) 0 ⟨hS.slots ⟨rfl, rfl, rfl, rfl, rfl, trivial⟩, Nat.zero_le _, fun j hj => by omega⟩ ?_
    clear hS a; (try clear w); intro k a w hI
    obtain ⟨hS, hk2, hin⟩ := hI
    refine c_seq ?_
    refine c_region ?_
    refine L_op (s_e hS (e_bin rfl rfl rfl) rfl ?_); clear hS a; intro a hS
    refine L_nil ?_
    refine n_then ?_
    refine c_seq ?_
    first | refine c_ifD hS rfl (fun hc56 => ?_) (fun hc56 => ?_) | refine c_if hS rfl (fun hc56 => ?_) (fun hc56 => ?_)
    ·
      obtain ⟨v, hv⟩ : ∃ v, (ws3 l)[k]? = some v := ⟨(ws3 l)[k]'(by simp [ws3]; omega), by simp⟩
      have hvf := ws3_fit hall hboth hv
      have hvi := intR_in v
      refine wp_skip ?_
      refine n_then ?_
      refine c_seq ?_
      refine wp_block ?_
      refine c_seq ?_
      refine c_region ?_
      refine L_op (s_e hS (e_ixN rfl rfl ty_sl141 ty_sz60 (by omega)) rfl ?_); clear hS a; intro a hS
      refine L_op (s_e hS (e_loadAC (l := wv v) rfl ty_st60 ty_sz60 (blkrow_get (enc := wv) (by repeat (first | exact .head _ | refine .tail _ ?_)) (fun _ => rfl) hv)) rfl ?_); clear hS a; intro a hS
      refine L_op (s_alloc hS ty_z60 rfl ?_); clear hS a; (try clear w); intro a w b12 hS
      refine L_op (s_storeA hS rfl rfl ty_sz60 (by repeat constructor) (by rfl) (by rfl) (by rfl) ?_); clear hS; (try clear w); intro w hS
      refine L_nil ?_
      refine n_then ?_
      refine c_seq ?_
      refine c_region ?_
      refine L_op (s_e hS (e_loadA rfl (by repeat constructor) ty_st60 ty_sz60 (by rfl)) rfl ?_); clear hS a; intro a hS
      refine L_op (s_callP hS (.cons rfl .nil) cf43 rfl (Int_R v hvf _) ?_); clear hS a; (try clear w); intro a w hS
      refine L_op (s_e hS (e_move rfl) rfl ?_); clear hS a; intro a hS
      refine L_op (s_e hS (e_extract rfl rfl) rfl ?_); clear hS a; intro a hS
      refine L_op (s_e hS (e_extract rfl rfl) rfl ?_); clear hS a; intro a hS
      refine L_op (s_e hS (e_assign rfl) rfl ?_); clear hS a; intro a hS
      refine L_op (s_e hS (e_assign rfl) rfl ?_); clear hS a; intro a hS
      refine L_nil ?_
      refine n_then ?_
      refine c_seq ?_
      refine c_region ?_
      refine L_op (s_e hS (e_move rfl) rfl ?_); clear hS a; intro a hS
      refine L_op (s_e hS (e_bin rfl rfl rfl) rfl ?_); clear hS a; intro a hS
      refine L_op (s_e hS (e_move rfl) rfl ?_); clear hS a; intro a hS
      (first | refine g_splitD (t := 66) hS rfl ?_ ?_ | refine g_split (t := 66) hS rfl ?_ ?_) <;> (clear hS; intro hg66 hS)
      ·
        refine L_skip_f hS rfl rfl rfl ?_; clear hS a; intro a hS
        refine L_skip_f hS rfl rfl rfl ?_; clear hS a; intro a hS
        first | (refine L_op (s_e hS (e_pick_t rfl rfl) rfl ?_); clear hS a; intro a hS) | (refine L_op (s_e hS (e_pick_f rfl rfl) rfl ?_); clear hS a; intro a hS)
        refine L_op (s_e hS (e_move rfl) rfl ?_); clear hS a; intro a hS
        refine L_skip_f hS rfl rfl rfl ?_; clear hS a; intro a hS
        refine L_skip_f hS rfl rfl rfl ?_; clear hS a; intro a hS
        first | (refine L_op (s_e hS (e_pick_t rfl rfl) rfl ?_); clear hS a; intro a hS) | (refine L_op (s_e hS (e_pick_f rfl rfl) rfl ?_); clear hS a; intro a hS)
        refine L_nil ?_
        refine n_then ?_
        refine c_if_t hS rfl ?_
        refine c_seq ?_
        refine c_region ?_
        refine L_op (s_e hS (e_assign rfl) rfl ?_); clear hS a; intro a hS
        refine L_op (s_e hS (e_assign rfl) rfl ?_); clear hS a; intro a hS
        refine L_op (s_e hS (e_assign rfl) rfl ?_); clear hS a; intro a hS
        refine L_nil ?_
        refine n_then ?_
        refine wp_ret ?_
        refine r_block (r_then (r_then (r_block (r_then ?_))))
        refine c_retN hS Try.results57 (.cons (.tmp rfl) (.cons (.tmp rfl) (.cons (.tmp rfl) .nil))) rfl ?_
        have hb : ¬ inU v := by rw [hvi]; omega
        rw [sumR_bad hv hb]; exact ⟨rfl, hS.chg⟩
      ·
        refine L_go hS rfl rfl (s_e hS (e_move rfl) rfl ?_); clear hS a; intro a hS
        refine L_go hS rfl rfl (s_e hS (e_bin rfl rfl rfl) rfl ?_); clear hS a; intro a hS
        first | (refine L_op (s_e hS (e_pick_t rfl rfl) rfl ?_); clear hS a; intro a hS) | (refine L_op (s_e hS (e_pick_f rfl rfl) rfl ?_); clear hS a; intro a hS)
        refine L_op (s_e hS (e_move rfl) rfl ?_); clear hS a; intro a hS
        (first | refine g_splitD (t := 70) hS rfl ?_ ?_ | refine g_split (t := 70) hS rfl ?_ ?_) <;> (clear hS; intro hg70 hS)
        ·
          refine L_skip_f hS rfl rfl rfl ?_; clear hS a; intro a hS
          refine L_skip_f hS rfl rfl rfl ?_; clear hS a; intro a hS
          first | (refine L_op (s_e hS (e_pick_t rfl rfl) rfl ?_); clear hS a; intro a hS) | (refine L_op (s_e hS (e_pick_f rfl rfl) rfl ?_); clear hS a; intro a hS)
          refine L_nil ?_
          refine n_then ?_
          refine c_if_t hS rfl ?_
          refine c_seq ?_
          refine c_region ?_
          refine L_op (s_e hS (e_assign rfl) rfl ?_); clear hS a; intro a hS
          refine L_op (s_e hS (e_assign rfl) rfl ?_); clear hS a; intro a hS
          refine L_op (s_e hS (e_assign rfl) rfl ?_); clear hS a; intro a hS
          refine L_nil ?_
          refine n_then ?_
          refine wp_ret ?_
          refine r_block (r_then (r_then (r_block (r_then ?_))))
          refine c_retN hS Try.results57 (.cons (.tmp rfl) (.cons (.tmp rfl) (.cons (.tmp rfl) .nil))) rfl ?_
          have hb : ¬ inU v := by rw [hvi]; omega
          rw [sumR_bad hv hb]; exact ⟨rfl, hS.chg⟩
        ·
          refine L_go hS rfl rfl (s_e hS (e_move rfl) rfl ?_); clear hS a; intro a hS
          refine L_go hS rfl rfl (s_e hS (e_bin rfl rfl rfl) rfl ?_); clear hS a; intro a hS
          first | (refine L_op (s_e hS (e_pick_t rfl rfl) rfl ?_); clear hS a; intro a hS) | (refine L_op (s_e hS (e_pick_f rfl rfl) rfl ?_); clear hS a; intro a hS)
          refine L_nil ?_
          refine n_then ?_
          first | refine c_ifD hS rfl (fun hc73 => ?_) (fun hc73 => ?_) | refine c_if hS rfl (fun hc73 => ?_) (fun hc73 => ?_)
          ·
            refine c_seq ?_
            refine c_region ?_
            refine L_op (s_e hS (e_assign rfl) rfl ?_); clear hS a; intro a hS
            refine L_op (s_e hS (e_assign rfl) rfl ?_); clear hS a; intro a hS
            refine L_op (s_e hS (e_assign rfl) rfl ?_); clear hS a; intro a hS
            refine L_nil ?_
            refine n_then ?_
            refine wp_ret ?_
            refine r_block (r_then (r_then (r_block (r_then ?_))))
            refine c_retN hS Try.results57 (.cons (.tmp rfl) (.cons (.tmp rfl) (.cons (.tmp rfl) .nil))) rfl ?_
            have hb : ¬ inU v := by rw [hvi]; omega
            rw [sumR_bad hv hb]; exact ⟨rfl, hS.chg⟩
          ·
            refine wp_skip ?_
            refine n_block ?_
            refine n_then ?_
            refine c_region ?_
            first | (refine L_op (s_e hS (e_binN rfl rfl rfl (by omega)) rfl ?_); clear hS a; intro a hS) | (refine L_op (s_e hS (e_bin rfl rfl rfl) rfl ?_); clear hS a; intro a hS)
            refine L_op (s_e hS (e_move rfl) rfl ?_); clear hS a; intro a hS
            refine L_nil ?_
            have hok : inU v := by rw [hvi]; omega
            exact ⟨k + 1, by omega, (hS.drop (.cons _ (.refl _))).slots ⟨rfl, rfl, rfl, rfl, rfl, trivial⟩, by omega, fun j hj u hu => by
              by_cases e : j = k
              · subst e; rw [hv] at hu; cases hu; exact hok
              · exact hin j (by omega) u hu⟩
    ·
      obtain rfl : k = 3 := by omega
      obtain ⟨⟨u1, u2⟩, hgood⟩ := sumR_good hin
      unfold inU at u1 u2
      refine wp_exit ?_
      refine x_then (x_then (x_hit ?_))
      refine n_then ?_
      refine c_seq ?_
      refine c_region ?_
      refine L_op (s_e hS (e_loadA rfl (by repeat constructor) ty_st60 ty_sz60 (by rfl)) rfl ?_); clear hS a; intro a hS
      refine L_op (s_callP hS (.cons rfl .nil) cf43 rfl (Int_P (sumN l) (by omega) (by omega) _) ?_); clear hS a; (try clear w); intro a w hS
      refine L_op (s_e hS (e_move rfl) rfl ?_); clear hS a; intro a hS
      refine L_op (s_e hS (e_extract rfl rfl) rfl ?_); clear hS a; intro a hS
      refine L_op (s_e hS (e_extract rfl rfl) rfl ?_); clear hS a; intro a hS
      refine L_op (s_e hS (e_assign rfl) rfl ?_); clear hS a; intro a hS
      refine L_op (s_e hS (e_assign rfl) rfl ?_); clear hS a; intro a hS
      refine L_nil ?_
      refine n_then ?_
      refine c_seq ?_
      refine c_region ?_
      refine L_op (s_e hS (e_loadA rfl (by repeat constructor) ty_st60 ty_sz60 (by rfl)) rfl ?_); clear hS a; intro a hS
      refine L_op (s_callP hS (.cons rfl .nil) cf43 rfl (Int_P (sumT l) (by omega) (by omega) _) ?_); clear hS a; (try clear w); intro a w hS
      refine L_op (s_e hS (e_move rfl) rfl ?_); clear hS a; intro a hS
      refine L_op (s_e hS (e_extract rfl rfl) rfl ?_); clear hS a; intro a hS
      refine L_op (s_e hS (e_extract rfl rfl) rfl ?_); clear hS a; intro a hS
      refine L_op (s_e hS (e_assign rfl) rfl ?_); clear hS a; intro a hS
      refine L_op (s_e hS (e_assign rfl) rfl ?_); clear hS a; intro a hS
      refine L_nil ?_
      refine n_then ?_
      refine c_seq ?_
      refine c_region ?_
      refine L_op (s_e hS (e_move rfl) rfl ?_); clear hS a; intro a hS
      refine L_op (s_e hS (e_move rfl) rfl ?_); clear hS a; intro a hS
      refine L_op (s_e hS (e_assign rfl) rfl ?_); clear hS a; intro a hS
      refine L_op (s_e hS (e_assign rfl) rfl ?_); clear hS a; intro a hS
      refine L_op (s_e hS (e_assign rfl) rfl ?_); clear hS a; intro a hS
      refine L_nil ?_
      refine n_then ?_
      refine wp_ret ?_
      refine c_retN hS Try.results57 (.cons (.tmp rfl) (.cons (.tmp rfl) (.cons (.tmp rfl) .nil))) rfl ?_
      rw [hgood]; exact ⟨rfl, hS.chg⟩
end Go.Proofs.Ytfiaobhkhedpiaa
