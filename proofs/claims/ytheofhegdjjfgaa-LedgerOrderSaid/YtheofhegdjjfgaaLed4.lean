/- The ledger: whether postings sum up to zero, walked. -/
import Derived.Test.YtheofhegdjjfgaaLed3
import Derived.Test.YtheofhegdjjfgaaSe15
import Derived.Test.YtheofhegdjjfgaaKey1
namespace Go.Proofs.Ytheofhegdjjfgaa
open Go.RowKit

def curOf (acs : List Acc) (c : ByteArray) : ByteArray := (accOf acs c).cur
def byStep (acs : List Acc) (t : List (ByteArray × SM)) (p : Pst) : List (ByteArray × SM) := putT t (curOf acs p.acc) (addS (totOf t (curOf acs p.acc)) p)
/-- sums by currency. -/
def byF (acs : List Acc) (ps : List Pst) : List (ByteArray × SM) := ps.foldl (byStep acs) []
def sumFn (ps : List Pst) : Int := ps.foldl (fun a p => a + p.f) 0
def evenF (acs : List Acc) (ps : List Pst) : Prop := (∀ t ∈ byF acs ps, t.2.1 = 0) ∧ sumFn ps = 0
instance (acs : List Acc) (ps : List Pst) : Decidable (evenF acs ps) := by unfold evenF; infer_instance
theorem byF_take {acs : List Acc} {ps : List Pst} {i : Nat} {x : Pst} (hx : ps[i]? = some x) : byF acs (ps.take (i + 1)) = byStep acs (byF acs (ps.take i)) x := by
  unfold byF; rw [List.take_add_one, hx, List.foldl_append]; rfl
theorem sumFn_take {ps : List Pst} {i : Nat} {x : Pst} (hx : ps[i]? = some x) : sumFn (ps.take (i + 1)) = sumFn (ps.take i) + x.f := by
  unfold sumFn; rw [List.take_add_one, hx, List.foldl_append]; rfl
theorem wv_nil : wv 0 = [.int .u64 0, .int .u64 0] := by unfold wv; rw [show Wd.hi 0 = 0 from by decide, show Wd.lo 0 = 0 from by decide]
/-- no total grows beyond what so many postings may say. -/
def bdT (t : List (ByteArray × SM)) (i : Nat) : Prop := ∀ e ∈ t, (-(i * 9223372036854775808 : Int) ≤ e.2.1 ∧ e.2.1 ≤ i * 9223372036854775808) ∧ (-(i * 9223372036854775808 : Int) ≤ e.2.2 ∧ e.2.2 ≤ i * 9223372036854775808)
theorem totOf_mem (t : List (ByteArray × SM)) (c : ByteArray) : totOf t c = (0, 0) ∨ ∃ e ∈ t, e.1 = c ∧ e.2 = totOf t c := by
  unfold totOf
  cases h : t.find? fun e => decide (e.1 = c) with
  | none => exact .inl rfl
  | some e => exact .inr ⟨e, List.mem_of_find?_eq_some h, by simpa using List.find?_some h, rfl⟩
theorem bdT_of {t : List (ByteArray × SM)} {i : Nat} (h : bdT t i) (c : ByteArray) : (-(i * 9223372036854775808 : Int) ≤ (totOf t c).1 ∧ (totOf t c).1 ≤ i * 9223372036854775808) ∧ (-(i * 9223372036854775808 : Int) ≤ (totOf t c).2 ∧ (totOf t c).2 ≤ i * 9223372036854775808) := by
  rcases totOf_mem t c with e | ⟨e, he, _, e2⟩
  · rw [e]; simp only; omega
  · rw [← e2]; exact h e he
theorem putT_mem {c : ByteArray} {s : SM} {e : ByteArray × SM} : ∀ {t : List (ByteArray × SM)}, e ∈ putT t c s → e = (c, s) ∨ e ∈ t
  | [], h => .inl (by simpa [putT] using h)
  | (k, u) :: l, h => by
    unfold putT at h
    by_cases e1 : k = c
    · rw [if_pos e1] at h
      rcases List.mem_cons.1 h with h | h
      · exact .inl h
      · exact .inr (.tail _ h)
    · rw [if_neg e1] at h
      rcases List.mem_cons.1 h with h | h
      · exact .inr (by rw [h]; exact .head _)
      · rcases putT_mem h with h | h
        · exact .inl h
        · exact .inr (.tail _ h)
theorem bdT_step {t : List (ByteArray × SM)} {i : Nat} (h : bdT t i) {acs : List Acc} {p : Pst} (hp : p.fits) : bdT (byStep acs t p) (i + 1) := by
  intro e he
  have hu := hp.u
  have hf := hp.f
  rcases putT_mem he with rfl | he
  · have h2 := bdT_of h (curOf acs p.acc)
    unfold addS; simp only; omega
  · have h1 := h e he
    omega
theorem sg_zero {v : Int} : Wd.sg v = 0 ↔ v = 0 := by unfold Wd.sg; split <;> (try split) <;> omega

set_option maxHeartbeats 1000000 in
set_option maxRecDepth 100000 in
theorem leven_P (B : LB) (s : LS) (p : Option (Nat × Nat)) (c : Nat) (ps : List Pst) (hlen : ps.length ≤ 60) (hfit : ∀ x ∈ ps, x.fits) (w0 : World) (h : ledφ B s w0) (hrow : RowP p 3 (ps.map encP) w0) (hb : ∀ q, p = some q → q.1 < w0.heap.size) (hd : ∀ q, p = some q → ¬ ledF B s q.1) :
    PureC Try.prog 76 [.pointer (some ⟨B.lb, 0, none⟩), sliceV p ps.length c] w0 (.bool (decide (evenF s.acs ps))) := by
  refine c_enter [(0, .pointer (some ⟨B.lb, 0, none⟩)), (1, sliceV p ps.length c)] [ledA B s false, rowP p 3 (ps.map encP)] noB Try.func76 rfl Try.ntmps76 ⟨rfl, rfl, trivial⟩ rfl (okC (led_ok false h) (okC (ok_rowP hrow hb) okN)) (disC (sepC (fun b h1 h2 => by obtain ⟨off, e⟩ := h2; exact hd _ e h1) sepN) dis1) (mineC (by rfl) (mineC (by rfl) mineN)) ?_
  intro a hS
  refine c_seq ?_
  refine c_region ?_
  refine L_op (s_e hS (e_assign rfl) rfl ?_); clear hS a; intro a hS
  refine L_nil ?_
  refine n_then ?_
  refine c_seq ?_
  refine c_region ?_
  refine L_op (s_makeMapS hS rfl ?_); clear hS a; (try clear w); intro a w b12 hS
  refine L_op (s_e hS (e_assign rfl) rfl ?_); clear hS a; intro a hS
  refine L_nil ?_
  refine n_then ?_
  refine c_seq ?_
  refine c_region ?_
  refine L_op (s_e hS (e_build ty_z106 ty_pl106 .nil) rfl ?_); clear hS a; intro a hS
  refine L_op (s_alloc hS ty_z106 rfl ?_); clear hS a; (try clear w); intro a w b6 hS
  refine L_op (s_storeA hS rfl rfl ty_sz106 (by repeat constructor) (by rfl) (by rfl) (by rfl) ?_); clear hS; (try clear w); intro w hS
  refine L_nil ?_
  refine n_then ?_
  refine c_seq ?_
  refine c_seq ?_
  refine c_region ?_
  refine L_op (s_e hS (e_move rfl) rfl ?_); clear hS a; intro a hS
  refine L_op (s_e hS (e_len rfl rfl ty_sl56) rfl ?_); clear hS a; intro a hS
  refine L_op (s_e hS (e_move rfl) rfl ?_); clear hS a; intro a hS
  refine L_nil ?_
  refine n_then ?_
  refine wp_block ?_
  rw [show ([.int .u64 0, .int .u64 0] : List Value) = wv (sumFn (ps.take 0)) from wv_nil.symm] at hS
  refine c_loop (γ := Nat) (fun i a w => St 57 noB w0 a w [(16, .int .i64 (i : Int)), (15, .int .i64 (ps.length : Int)), (14, sliceV p ps.length c), (5, .map (some b12)), (6, .pointer (some ⟨b6, 0, none⟩)), (0, .pointer (some ⟨B.lb, 0, none⟩))] [.blk b6 (wv (sumFn (ps.take i))) 106, smapA b12 (entSm (byF s.acs (ps.take i))), ledA B s false, rowP p 3 (ps.map encP)] ∧ i ≤ ps.length ∧ bdT (byF s.acs (ps.take i)) i ∧ (-(i * 9223372036854775808 : Int) ≤ sumFn (ps.take i) ∧ sumFn (ps.take i) ≤ i * 9223372036854775808)) (fun i => ps.length - i) 0 ⟨(hS.slots (by repeat (first | exact trivial | refine ⟨rfl, ?_⟩))).pick (by repeat (first | exact Pick.nil | (refine Pick.cons (by repeat (first | exact Rem.head | apply Rem.tail)) ?_))), Nat.zero_le _, fun e he => (by cases he), by simp [sumFn]⟩ ?_
  clear hS a; (try clear w); intro i a w hI
  obtain ⟨hS, hi, hbd, hfn⟩ := hI
  refine c_seq ?_
  refine c_region ?_
  refine L_op (s_e hS (e_bin rfl rfl rfl) rfl ?_); clear hS a; intro a hS
  refine L_nil ?_
  refine n_then ?_
  refine c_seq ?_
  first | refine c_ifD hS rfl (fun hc17 => ?_) (fun hc17 => ?_) | refine c_if hS rfl (fun hc17 => ?_) (fun hc17 => ?_)
  ·
    have hil : i < ps.length := by omega
    obtain ⟨x, hx⟩ : ∃ x, ps[i]? = some x := ⟨ps[i], List.getElem?_eq_getElem hil⟩
    have hxf := hfit x (List.mem_of_getElem? hx)
    have hx' : (ps.map encP)[i]? = some (encP x) := by simp [hx]
    obtain ⟨b, off, rfl⟩ := rowP_some (hS.get (X := rowP p 3 (ps.map encP)) (by repeat constructor)) hx'
    have hby := byF_take (acs := s.acs) hx
    have hsf := sumFn_take hx
    have hb1 := bdT_of hbd (curOf s.acs x.acc)
    have hu := hxf.u
    have hf := hxf.f
    have f1 : fitS (totOf (byF s.acs (ps.take i)) (curOf s.acs x.acc)) := by unfold fitS Wd.fit; omega
    have f2 : fitS (addS (totOf (byF s.acs (ps.take i)) (curOf s.acs x.acc)) x) := by unfold fitS addS Wd.fit; simp only; omega
    have f3 : Wd.fit (sumFn (ps.take i)) := by unfold Wd.fit; omega
    have f4 : Wd.fit x.f := by unfold Wd.fit; omega
    have f5 : Wd.fit (sumFn (ps.take i) + x.f) := by unfold Wd.fit; omega
    refine wp_skip ?_
    refine n_then ?_
    refine c_seq ?_
    refine wp_block ?_
    refine c_seq ?_
    refine c_region ?_
    refine L_op (s_e hS (e_ixN rfl rfl ty_sl56 ty_sz63 (by omega)) rfl ?_); clear hS a; intro a hS
    refine L_op (s_e hS (e_loadAC (l := encP x) rfl ty_st63 ty_sz63 (fun w hh => rowP_get (by repeat constructor) hx' w hh)) rfl ?_); clear hS a; intro a hS
    refine L_op (s_alloc hS ty_z63 rfl ?_); clear hS a; (try clear w); intro a w b8 hS
    refine L_op (s_storeA hS rfl rfl ty_sz63 (by repeat constructor) (by rfl) (by rfl) (by rfl) ?_); clear hS; (try clear w); intro w hS
    refine L_nil ?_
    refine n_then ?_
    refine c_seq ?_
    refine c_drawS [] (by kernel_rfl) hS (sub_cons (X := .blk b8 _ _) (by repeat constructor) (sub_cons (X := ledA B s false) (by repeat constructor) sub_nil)) ?_; clear hS; (try clear w); intro w hS
    simp only [List.length_cons, List.length_nil, Nat.zero_add, Nat.reduceAdd, List.replicate]
    refine Z_take0 (i := 0) hS rfl want_none (e_move rfl) (listed' := [true, false, false, false, false, false, false, false, false]) rfl (by kernel_rfl) (by kernel_rfl) (by kernel_rfl) (fun _ _ _ h => h) rfl ?_; clear hS a; intro a hS
    refine Z_take0 (i := 1) hS rfl want_none (e_nilCheck rfl) (listed' := [true, true, false, false, false, false, false, false, false]) rfl (by kernel_rfl) (by kernel_rfl) (by kernel_rfl) (fun _ _ _ h => h) rfl ?_; clear hS a; intro a hS
    first | (refine Z_take0 (i := 2) hS rfl want_none (e_fa0 rfl ty_fo129_1) (listed' := [true, true, true, false, false, false, false, false, false]) rfl (by kernel_rfl) (by kernel_rfl) (by kernel_rfl) (fun _ _ _ h => h) rfl ?_; clear hS a; intro a hS) | (refine Z_take0 (i := 2) hS rfl want_none (e_faK rfl ty_fo129_1) (listed' := [true, true, true, false, false, false, false, false, false]) rfl (by kernel_rfl) (by kernel_rfl) (by kernel_rfl) (fun _ _ _ h => h) rfl ?_; clear hS a; intro a hS)
    refine Z_take (i := 3) hS rfl want_none (e_loadC rfl ty_sc126 (led_cell (k := 1) (by repeat constructor) rfl)) (listed' := [true, true, true, true, false, false, false, false, false]) rfl (by kernel_rfl) (by kernel_rfl) (by kernel_rfl) (by kernel_rfl) (by kernel_rfl) (sub_cons (by repeat constructor) (sub_cons (by repeat constructor) sub_nil)) (fun _ _ _ h => h) rfl ?_; clear hS a; intro a hS
    first | (refine Z_take0 (i := 4) hS rfl want_none (e_fa0 rfl ty_fo63_0) (listed' := [true, true, true, true, true, false, false, false, false]) rfl (by kernel_rfl) (by kernel_rfl) (by kernel_rfl) (fun _ _ _ h => h) rfl ?_; clear hS a; intro a hS) | (refine Z_take0 (i := 4) hS rfl want_none (e_faK rfl ty_fo63_0) (listed' := [true, true, true, true, true, false, false, false, false]) rfl (by kernel_rfl) (by kernel_rfl) (by kernel_rfl) (fun _ _ _ h => h) rfl ?_; clear hS a; intro a hS)
    refine Z_take (i := 5) hS rfl want_none (e_load rfl (by repeat constructor) ty_sc9 (by rfl)) (listed' := [true, true, true, true, true, true, false, false, false]) rfl (by kernel_rfl) (by kernel_rfl) (by kernel_rfl) (by kernel_rfl) (by kernel_rfl) (sub_cons (by repeat constructor) (sub_cons (by repeat constructor) sub_nil)) (fun _ _ _ h => h) rfl ?_; clear hS a; intro a hS
    refine Z_take (i := 6) hS rfl want_none (e_lookupC rfl rfl ty_mp126 ty_u9 ty_zv68 (fun w hh => (hh (ledA B s false) (by repeat constructor)).am)) (listed' := [true, true, true, true, true, true, true, false, false]) rfl (by kernel_rfl) (by kernel_rfl) (by kernel_rfl) (by kernel_rfl) (by kernel_rfl) (sub_cons (by repeat constructor) (sub_cons (by repeat constructor) sub_nil)) (fun _ _ _ h => h) rfl ?_; clear hS a; intro a hS
    rw [lk_acc] at hS
    refine Z_take0 (i := 7) hS rfl want_none (e_field rfl ty_fo68_1 ty_ft68_1 ty_sc9 rfl) (listed' := [true, true, true, true, true, true, true, true, false]) rfl (by kernel_rfl) (by kernel_rfl) (by kernel_rfl) (fun _ _ _ h => h) rfl ?_; clear hS a; intro a hS
    refine Z_take0 (i := 8) hS rfl want_none (e_assign rfl) (listed' := [true, true, true, true, true, true, true, true, true]) rfl (by kernel_rfl) (by kernel_rfl) (by kernel_rfl) (fun _ _ _ h => h) rfl ?_; clear hS a; intro a hS
    refine Z_done (by kernel_rfl) ?_
    refine n_then ?_
    refine c_seq ?_
    refine c_region ?_
    refine L_op (s_e hS (e_move rfl) rfl ?_); clear hS a; intro a hS
    refine L_op (s_e hS (e_move rfl) rfl ?_); clear hS a; intro a hS
    refine L_op (s_e hS (e_move rfl) rfl ?_); clear hS a; intro a hS
    refine L_op (s_e hS (e_move rfl) rfl ?_); clear hS a; intro a hS
    refine L_op (s_e hS (e_lookupS rfl rfl ty_mp127 ty_u9 ty_zv136 (by repeat constructor)) rfl ?_); clear hS a; intro a hS
    rw [show accOf s.acs x.acc = accOf s.acs x.acc from rfl, lk_tot] at hS
    refine L_op (s_e hS (e_loadA rfl (by repeat constructor) ty_st63 ty_sz63 (by rfl)) rfl ?_); clear hS a; intro a hS
    refine L_op (s_callP hS (.cons rfl (.cons rfl .nil)) cf70 rfl (sadd_P (totOf (byF s.acs (ps.take i)) (curOf s.acs x.acc)) x f1 hxf f2 _) ?_); clear hS a; (try clear w); intro a w hS
    refine L_op (s_mapUp hS rfl rfl rfl ty_mp127 ty_u9 (by repeat constructor) ?_); clear hS; (try clear w); intro w hS
    refine L_nil ?_
    refine n_then ?_
    rw [show setM (entSm (byF s.acs (ps.take i))) (accOf s.acs x.acc).cur (.agg (encSm (addS (totOf (byF s.acs (ps.take i)) (curOf s.acs x.acc)) x)).toArray) = entSm (byF s.acs (ps.take (i + 1))) by rw [putT_set, hby]; rfl] at hS
    refine c_drawS [8] (by kernel_rfl) hS (sub_cons (X := .blk b8 _ _) (by repeat constructor) (sub_cons (X := .blk b6 _ _) (by repeat constructor) sub_nil)) ?_; clear hS; (try clear w); intro w hS
    simp only [List.length_cons, List.length_nil, Nat.zero_add, Nat.reduceAdd, List.replicate]
    refine Z_take (i := 0) hS rfl want_none (e_loadA rfl (by repeat constructor) ty_st106 ty_sz106 (by rfl)) (listed' := [true, false, false, false, false, false, false, false, false]) rfl (by kernel_rfl) (by kernel_rfl) (by kernel_rfl) (by kernel_rfl) (by kernel_rfl) (sub_cons (by repeat constructor) (sub_cons (by repeat constructor) sub_nil)) (fun _ _ _ h => h) rfl ?_; clear hS a; intro a hS
    first | (refine Z_take0 (i := 1) hS rfl want_none (e_fa0 rfl ty_fo63_2) (listed' := [true, true, false, false, false, false, false, false, false]) rfl (by kernel_rfl) (by kernel_rfl) (by kernel_rfl) (fun _ _ _ h => h) rfl ?_; clear hS a; intro a hS) | (refine Z_take0 (i := 1) hS rfl want_none (e_faK rfl ty_fo63_2) (listed' := [true, true, false, false, false, false, false, false, false]) rfl (by kernel_rfl) (by kernel_rfl) (by kernel_rfl) (fun _ _ _ h => h) rfl ?_; clear hS a; intro a hS)
    refine Z_take (i := 2) hS rfl want_none (e_load rfl (by repeat constructor) ty_sc3 (by rfl)) (listed' := [true, true, true, false, false, false, false, false, false]) rfl (by kernel_rfl) (by kernel_rfl) (by kernel_rfl) (by kernel_rfl) (by kernel_rfl) (sub_cons (by repeat constructor) (sub_cons (by repeat constructor) sub_nil)) (fun _ _ _ h => h) rfl ?_; clear hS a; intro a hS
    refine Z_one (i := 3) rfl (want_none a hS.sl) (listed' := [true, true, true, true, false, false, false, false, false]) rfl (by kernel_rfl) (s_callP hS (.cons rfl .nil) cf92 rfl (FromInt_P x.f (by omega) (by omega) _) ?_); clear hS a; (try clear w); intro a w hS
    refine Z_and hS (sub_cons (by repeat constructor) (sub_cons (by repeat constructor) sub_nil)) ?_
    refine Z_one (i := 4) rfl (want_none a hS.sl) (listed' := [true, true, true, true, true, false, false, false, false]) rfl (by kernel_rfl) (s_callP hS (.cons rfl (.cons rfl .nil)) cf97 rfl (Add_P (sumFn (ps.take i)) x.f f3 f4 f5 _) ?_); clear hS a; (try clear w); intro a w hS
    refine Z_and hS (sub_cons (by repeat constructor) (sub_cons (by repeat constructor) sub_nil)) ?_
    refine Z_take0 (i := 5) hS rfl want_none (e_move rfl) (listed' := [true, true, true, true, true, true, false, false, false]) rfl (by kernel_rfl) (by kernel_rfl) (by kernel_rfl) (fun _ _ _ h => h) rfl ?_; clear hS a; intro a hS
    refine Z_take0 (i := 6) hS rfl want_none (e_extract rfl rfl) (listed' := [true, true, true, true, true, true, true, false, false]) rfl (by kernel_rfl) (by kernel_rfl) (by kernel_rfl) (fun _ _ _ h => h) rfl ?_; clear hS a; intro a hS
    refine Z_take0 (i := 7) hS rfl want_none (e_extract rfl rfl) (listed' := [true, true, true, true, true, true, true, true, false]) rfl (by kernel_rfl) (by kernel_rfl) (by kernel_rfl) (fun _ _ _ h => h) rfl ?_; clear hS a; intro a hS
    refine Z_one (i := 8) rfl (want_none a hS.sl) (listed' := [true, true, true, true, true, true, true, true, true]) rfl (by kernel_rfl) (s_storeA hS rfl rfl ty_sz106 (by repeat constructor) (by rfl) (by rfl) (by rfl) ?_); clear hS; (try clear w); intro w hS
    refine Z_last (by simp) ?_
    refine Z_done (by kernel_rfl) ?_
    refine n_block ?_
    refine n_then ?_
    refine c_region ?_
    first | (refine L_op (s_e hS (e_binN rfl rfl rfl (by omega)) rfl ?_); clear hS a; intro a hS) | (refine L_op (s_e hS (e_bin rfl rfl rfl) rfl ?_); clear hS a; intro a hS)
    refine L_op (s_e hS (e_move rfl) rfl ?_); clear hS a; intro a hS
    refine L_nil ?_
    rw [← hsf] at hS
    exact ⟨i + 1, by omega, (hS.slots (by repeat (first | exact trivial | refine ⟨rfl, ?_⟩))).pick (by repeat (first | exact Pick.nil | (refine Pick.cons (by repeat (first | exact Rem.head | apply Rem.tail)) ?_))), by omega, by rw [hby]; exact bdT_step hbd hxf, by rw [hsf]; omega⟩
  ·
    obtain rfl : i = ps.length := by omega
    rw [List.take_length] at hS hbd hfn
    have hln : (entSm (byF s.acs ps)).length = (byF s.acs ps).length := by simp [entSm]
    refine wp_exit ?_
    refine x_then (x_then (x_hit ?_))
    refine n_then ?_
    refine c_seq ?_
    refine c_seq ?_
    refine c_region ?_
    refine L_op (s_e hS (e_move rfl) rfl ?_); clear hS a; intro a hS
    refine L_op (s_rangeM (l := entSm (byF s.acs ps)) hS rfl ty_mp127 (fun w hh => hh (smapA b12 (entSm (byF s.acs ps))) (by repeat constructor)) (by rfl) ?_); clear hS a; (try clear w); intro a w it hS
    refine L_nil ?_
    refine n_then ?_
    refine wp_block ?_
    skip
    refine c_loop (γ := List Nat) (fun sn a w => St 57 noB w0 a w [(45, .pointer (some ⟨it, 0, none⟩)), (6, .pointer (some ⟨b6, 0, none⟩))] [itA it b12 sn (entSm (byF s.acs ps)).length, .blk b6 (wv (sumFn ps)) 106, smapA b12 (entSm (byF s.acs ps))] ∧ sn.Nodup ∧ ∀ i ∈ sn, ∃ t, (byF s.acs ps)[i]? = some t ∧ t.2.1 = 0) (fun sn => (byF s.acs ps).length - sn.length) [] ⟨(hS.slots (by repeat (first | exact trivial | refine ⟨rfl, ?_⟩))).pick (by repeat (first | exact Pick.nil | (refine Pick.cons (by repeat (first | exact Rem.head | apply Rem.tail)) ?_))), .nil, fun i hi => by cases hi⟩ ?_
    clear hS a; (try clear w); intro sn a w hI
    obtain ⟨hS, hnd, hz⟩ := hI
    refine c_seq ?_
    refine c_region ?_
    refine L_op (s_nextO (l := entSm (byF s.acs ps)) hS rfl (fun w hh => hh (smapA b12 (entSm (byF s.acs ps))) (by repeat constructor)) (by rfl) (fun _ => .head) ?_); intro o ho a1 w1 hS1; clear hS a; revert a1; intro a hS
    refine L_op (s_e hS (e_extract rfl (nx0 o)) rfl ?_); clear hS a; intro a hS
    refine L_nil ?_
    refine n_then ?_
    refine c_seq ?_
    first | refine c_ifD hS rfl (fun hc47 => ?_) (fun hc47 => ?_) | refine c_if hS rfl (fun hc47 => ?_) (fun hc47 => ?_)
    ·
      obtain ⟨⟨i, k, v⟩, rfl⟩ : ∃ q, o = some q := Option.isSome_iff_exists.1 hc47
      obtain ⟨hl, hns⟩ := ho
      simp only [nxS] at hS
      obtain ⟨t, ht, hv⟩ : ∃ t, (byF s.acs ps)[i]? = some t ∧ v = .agg (encSm t.2).toArray := by
        unfold entSm at hl
        rw [List.getElem?_map] at hl
        cases e : (byF s.acs ps)[i]? with
        | none => rw [e] at hl; cases hl
        | some t => rw [e] at hl; injection hl with hl; injection hl with _ h2; exact ⟨t, rfl, h2.symm⟩
      subst hv
      have hnd2 : (sn ++ [i]).Nodup := List.nodup_append.2 ⟨hnd, by simp, fun x hx y hy => by obtain rfl := List.mem_singleton.1 hy; exact fun e => hns (e ▸ hx)⟩
      have hlt2 : ∀ j ∈ sn ++ [i], j < (byF s.acs ps).length := fun j hj => by
        rcases List.mem_append.1 hj with hj | hj
        · obtain ⟨t', ht', _⟩ := hz j hj; exact (List.getElem?_eq_some_iff.1 ht').1
        · obtain rfl := List.mem_singleton.1 hj; exact (List.getElem?_eq_some_iff.1 ht).1
      have hsl := nodup_le _ _ hnd2 hlt2
      rw [List.length_append, List.length_singleton] at hsl
      have htm := List.mem_of_getElem? ht
      have ftt : Wd.fit t.2.1 := by have := hbd t htm; unfold Wd.fit; omega
      refine wp_skip ?_
      refine n_then ?_
      refine wp_block ?_
      refine c_seq ?_
      refine c_region ?_
      refine L_op (s_e hS (e_entryM rfl (fun w hh => hh (smapA b12 (entSm (byF s.acs ps))) (by repeat constructor)) (by repeat constructor) hl) rfl ?_); clear hS a; intro a hS
      refine L_op (s_e hS (e_extract rfl rfl) rfl ?_); clear hS a; intro a hS
      refine L_op (s_alloc hS ty_z136 rfl ?_); clear hS a; (try clear w); intro a w b11 hS
      refine L_op (s_storeA hS rfl rfl ty_sz136 (by repeat constructor) (by rfl) (by rfl) (by rfl) ?_); clear hS; (try clear w); intro w hS
      refine L_nil ?_
      refine n_then ?_
      refine c_seq ?_
      refine c_region ?_
      first | (refine L_op (s_e hS (e_fa0 rfl ty_fo136_0) rfl ?_); clear hS a; intro a hS) | (refine L_op (s_e hS (e_faK rfl ty_fo136_0) rfl ?_); clear hS a; intro a hS)
      refine L_op (s_e hS (e_loadSub (l := wv t.2.1) rfl (by repeat constructor) ty_st106 ty_sz106 rfl) rfl ?_); clear hS a; intro a hS
      refine L_op (s_callP hS (.cons rfl .nil) cf102 rfl (PureC.of_below (Sign_w t.2.1 ftt _)) ?_); clear hS a; (try clear w); intro a w hS
      refine L_op (s_e hS (e_bin rfl rfl rfl) rfl ?_); clear hS a; intro a hS
      refine L_nil ?_
      refine n_then ?_
      first | refine c_ifD hS rfl (fun hc53 => ?_) (fun hc53 => ?_) | refine c_if hS rfl (fun hc53 => ?_) (fun hc53 => ?_)
      ·
        refine c_seq ?_
        refine c_region ?_
        refine L_op (s_e hS (e_assign rfl) rfl ?_); clear hS a; intro a hS
        refine L_nil ?_
        refine n_then ?_
        refine wp_ret ?_
        refine r_block (r_then (r_block (r_then ?_)))
        refine c_ret1 hS Try.results76 (.tmp rfl) ?_
        exact ⟨by rw [decide_eq_false (fun hE : evenF s.acs ps => hc53 (sg_zero.2 (hE.1 t htm)))], hS.chg⟩
      ·
        refine wp_skip ?_
        refine n_block ?_
        have ht0 : t.2.1 = 0 := sg_zero.1 (Classical.byContradiction fun e => hc53 e)
        exact ⟨sn ++ [i], by rw [List.length_append, List.length_singleton]; omega, (hS.slots (by repeat (first | exact trivial | refine ⟨rfl, ?_⟩))).pick (by repeat (first | exact Pick.nil | (refine Pick.cons (by repeat (first | exact Rem.head | apply Rem.tail)) ?_))), hnd2, fun j hj => by
          rcases List.mem_append.1 hj with hj | hj
          · exact hz j hj
          · obtain rfl := List.mem_singleton.1 hj; exact ⟨t, ht, ht0⟩⟩
    ·
      obtain rfl : o = none := by
        cases o with
        | none => rfl
        | some q => cases hc47
      have ffn : Wd.fit (sumFn ps) := by unfold Wd.fit; omega
      refine wp_exit ?_
      refine x_then (x_then (x_hit ?_))
      refine n_then ?_
      refine c_seq ?_
      refine c_region ?_
      refine L_op (s_e hS (e_loadA rfl (by repeat constructor) ty_st106 ty_sz106 (by rfl)) rfl ?_); clear hS a; intro a hS
      refine L_op (s_callP hS (.cons rfl .nil) cf102 rfl (PureC.of_below (Sign_w (sumFn ps) ffn _)) ?_); clear hS a; (try clear w); intro a w hS
      refine L_op (s_e hS (e_bin rfl rfl rfl) rfl ?_); clear hS a; intro a hS
      refine L_op (s_e hS (e_assign rfl) rfl ?_); clear hS a; intro a hS
      refine L_nil ?_
      refine n_then ?_
      refine wp_ret ?_
      refine c_ret1 hS Try.results76 (.tmp rfl) ?_
      have hall : ∀ t ∈ byF s.acs ps, t.2.1 = 0 := fun t ht => by
        obtain ⟨j, hj, rfl⟩ := List.mem_iff_getElem.1 ht
        obtain ⟨t', ht', h0⟩ := hz j (ho j (by rw [hln]; exact hj))
        rw [List.getElem?_eq_getElem hj] at ht'
        cases ht'; exact h0
      exact ⟨congrArg (fun b => Ending.returned (Value.bool b)) (decide_eq_decide.2 ⟨fun e => ⟨hall, sg_zero.1 e⟩, fun e => sg_zero.2 e.2⟩), hS.chg⟩
end Go.Proofs.Ytheofhegdjjfgaa
