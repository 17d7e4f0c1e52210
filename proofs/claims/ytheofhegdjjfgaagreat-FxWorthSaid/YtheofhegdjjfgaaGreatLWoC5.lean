/- FxWorth: for every argument the law returns true, and each argument reads afterwards as it read before. No conditions. (text 5 of 5) -/
import Derived.Test.YtheofhegdjjfgaaGreatLWoC4
import Derived.Deep.Slices
import Derived.Deep.Fields
import Derived.ChangeSame
import Derived.SizedLaws
import Derived.OpenShut
import Derived.Lib.SmallJoins
import Derived.Laws.LoneSync
import Derived.ProofKit
import Derived.ShutString
import Derived.ChangeOld
import Derived.Below
namespace Go.Proofs.YtheofhegdjjfgaaGreat
open Go.RowKit
theorem nil_new {E s : Nat} {w w0 : World} : (ownA E s (.slice none 0 0) 0 []).ok w ∧ ∀ k, (ownA E s (.slice none 0 0) 0 []).F k → w0.heap.size ≤ k :=
  ⟨own_nil w E s, fun k hk => by simp [ownA, Asn.F, Value.ownBlock] at hk⟩
set_option maxHeartbeats 2000000 in
set_option maxRecDepth 100000 in
theorem fxRevalue_P (B : LB) (s : LS) (bk mb : Nat) (own : ByteArray) (es : List RA) (n : Int) (at_ : Int) (gain : ByteArray) (hfl : fitL (pl s)) (hacs : s.acs.length ≤ 1000) (hno : nanoOK (vsT es)) (w0 : World) (h1 : ledφ B s w0) (h2 : ratesφ bk mb own es n w0) :
    NewC Tryz.prog 22 [.pointer (some ⟨B.lb, 0, none⟩), .pointer (some ⟨bk, 0, none⟩), .int .i64 at_, .string gain] w0 (fun v : Value => .tuple [v, .int .i64 (revF own (vsT es) (pl s) at_ gain).2].toArray) (fun v => ownA 82 3 v (revF own (vsT es) (pl s) at_ gain).1.length ((revF own (vsT es) (pl s) at_ gain).1.flatMap encP)) := by
  have haL := accs_len s.acs
  have hpa : (pl s).acs = s.acs := rfl
  have hpc : (pl s).cur = s.cur := rfl
  have hrl := fun i => rv_len own (vsT es) (pl s) at_ ((accsL s.acs).take i)
  have hrs := fun i => rv_sum own (vsT es) (pl s) at_ ((accsL s.acs).take i)
  unfold revF
  rw [hpa, hpc]
  refine c_enter [(0, .pointer (some ⟨B.lb, 0, none⟩)), (1, .pointer (some ⟨bk, 0, none⟩)), (2, .int .i64 at_), (3, .string gain)] [lrA B s bk mb own es n] noB Tryz.func22 rfl Tryz.ntmps22 ⟨rfl, rfl, rfl, rfl, trivial⟩ rfl (okC (lr_ok h1 h2) okN) dis1 (mineC (by rfl) mineN) ?_
  intro a hS
  refine c_seq (c_region ?_)
  refine L_e hS (e_assign rfl) rfl ?_; clear hS a; intro a hS
  refine L_e hS (e_assign rfl) rfl ?_; clear hS a; intro a hS
  refine L_nil (n_then (c_seq (c_seq ?_)))
  refine c_drawS [] (by kernel_rfl) hS (sub_cons (X := lrA B s bk mb own es n) (by repeat constructor) sub_nil) ?_; clear hS; (try clear w); intro w hS
  simp only [List.length_cons, List.length_nil, Nat.zero_add, Nat.reduceAdd, List.replicate]
  refine Zt0 0 (tf 1 6) hS rfl want_none (e_move rfl) rfl (by kernel_rfl) rfl ?_; clear hS a; intro a hS
  refine Zt0 2 [true, false, true, false, false, false, false] hS rfl want_none (e_move rfl) rfl (by kernel_rfl) rfl ?_; clear hS a; intro a hS
  refine Zt0 3 [true, false, true, true, false, false, false] hS rfl want_none (e_nilCheck rfl) rfl (by kernel_rfl) rfl ?_; clear hS a; intro a hS
  (first | refine Zt0 4 [true, false, true, true, true, false, false] hS rfl want_none (e_fa0 rfl ty_fo128_0) rfl (by kernel_rfl) rfl ?_ | refine Zt0 4 [true, false, true, true, true, false, false] hS rfl want_none (e_faK rfl ty_fo128_0) rfl (by kernel_rfl) rfl ?_); clear hS a; intro a hS
  refine Zt 5 [true, false, true, true, true, true, false] hS rfl want_none (e_loadC rfl ty_sc9 (lr_bk (k := 0) (v := .string own) (by repeat constructor) rfl)) rfl (by kernel_rfl) (sub_cons (by repeat constructor) sub_nil) rfl ?_; clear hS a; intro a hS
  refine Z_one (i := 1) rfl (want_none a hS.sl) (listed' := (tf 6 1)) rfl (by kernel_rfl) (s_callP hS (.cons rfl .nil) cf39 rfl (lCurrency_P B s _ (hS.get (X := lrA B s bk mb own es n) (by repeat constructor)).l) ?_); clear hS a; (try clear w); intro a w hS
  refine Z_and hS (sub_cons (by repeat constructor) sub_nil) ?_
  refine Zt0 6 (tf 7 0) hS rfl want_none (e_binS rfl rfl rfl) rfl (by kernel_rfl) rfl ?_; clear hS a; intro a hS
  refine Z_done (by kernel_rfl) ?_
  refine n_then ?_
  first | refine c_ifD hS rfl (fun hc26 => ?_) (fun hc26 => ?_) | refine c_if hS rfl (fun hc26 => ?_) (fun hc26 => ?_)
  ·
    refine c_seq (c_region ?_)
    refine L_e hS (e_assign rfl) rfl ?_; clear hS a; intro a hS
    refine L_e hS (e_assign rfl) rfl ?_; clear hS a; intro a hS
    refine L_nil (n_then (wp_ret (r_then ?_)))
    refine c_retN hS Tryz.results22 (.cons (.tmp rfl) (.cons (.tmp rfl) .nil)) rfl ?_
    rw [if_pos hc26]
    exact ⟨.slice none 0 0, rfl, hS.chg, nil_new⟩
  rw [if_neg hc26]
  refine wp_skip (n_then (c_seq (c_region ?_)))
  refine L_e hS (e_move rfl) rfl ?_; clear hS a; intro a hS
  refine L_e hS (e_move rfl) rfl ?_; clear hS a; intro a hS
  refine L_op (s_callP hS (.cons rfl (.cons rfl .nil)) cf45 rfl (lAccount_P B s gain _ (hS.get (X := lrA B s bk mb own es n) (by repeat constructor)).l) ?_); clear hS a; (try clear w); intro a w hS
  refine L_e hS (e_move rfl) rfl ?_; clear hS a; intro a hS
  refine L_e hS (e_extract rfl rfl) rfl ?_; clear hS a; intro a hS
  refine L_e hS (e_extract rfl rfl) rfl ?_; clear hS a; intro a hS
  refine L_op (s_alloc hS ty_z35 rfl ?_); clear hS a; (try clear w); intro a w b10 hS
  refine L_op (s_storeA hS rfl rfl ty_sz35 (by repeat constructor) (by rfl) (by rfl) (by rfl) ?_); clear hS; (try clear w); intro w hS
  refine L_e hS (e_assign rfl) rfl ?_; clear hS a; intro a hS
  refine L_nil (n_then (c_seq (wp_block (c_seq (c_region ?_)))))
  refine L_e hS (e_move rfl) rfl ?_; clear hS a; intro a hS
  refine L_e hS (e_not rfl) rfl ?_; clear hS a; intro a hS
  refine L_e hS (e_assign rfl) rfl ?_; clear hS a; intro a hS
  refine L_nil (n_then ?_)
  first | refine c_ifD hS rfl (fun hc33 => ?_) (fun hc33 => ?_) | refine c_if hS rfl (fun hc33 => ?_) (fun hc33 => ?_)
  ·
    refine c_seq (c_region ?_)
    refine L_e hS (e_assign rfl) rfl ?_; clear hS a; intro a hS
    refine L_e hS (e_assign rfl) rfl ?_; clear hS a; intro a hS
    refine L_nil (n_then (wp_ret ?_))
    refine r_block (r_then ?_)
    refine c_retN hS Tryz.results22 (.cons (.tmp rfl) (.cons (.tmp rfl) .nil)) rfl ?_
    rw [if_pos (show (findA s.acs gain).isSome = false from by simpa using hc33)]
    exact ⟨.slice none 0 0, rfl, hS.chg, nil_new⟩
  have hfs : ¬ (findA s.acs gain).isSome = false := by
    have h3 : (findA s.acs gain).isSome = true := by simpa using hc33
    rw [h3]; decide
  rw [if_neg hfs]
  refine c_seq ?_
  refine c_drawS [] (by kernel_rfl) hS (sub_cons (X := .blk b10 (encAc (accOf s.acs gain)) 35) (by repeat constructor) (sub_cons (X := lrA B s bk mb own es n) (by repeat constructor) sub_nil)) ?_; clear hS; (try clear w); intro w hS
  simp only [List.length_cons, List.length_nil, Nat.zero_add, Nat.reduceAdd, List.replicate]
  (first | refine Zt0 0 (tf 1 7) hS rfl want_none (e_fa0 rfl ty_fo35_1) rfl (by kernel_rfl) rfl ?_ | refine Zt0 0 (tf 1 7) hS rfl want_none (e_faK rfl ty_fo35_1) rfl (by kernel_rfl) rfl ?_); clear hS a; intro a hS
  refine Zt 1 (tf 2 6) hS rfl want_none (e_load rfl (by repeat constructor) ty_sc9 (by rfl)) rfl (by kernel_rfl) (sub_cons (by repeat constructor) (sub_cons (by repeat constructor) sub_nil)) rfl ?_; clear hS a; intro a hS
  refine Zt0 2 (tf 3 5) hS rfl want_none (e_move rfl) rfl (by kernel_rfl) rfl ?_; clear hS a; intro a hS
  refine Zt0 3 (tf 4 4) hS rfl want_none (e_nilCheck rfl) rfl (by kernel_rfl) rfl ?_; clear hS a; intro a hS
  (first | refine Zt0 4 (tf 5 3) hS rfl want_none (e_fa0 rfl ty_fo128_0) rfl (by kernel_rfl) rfl ?_ | refine Zt0 4 (tf 5 3) hS rfl want_none (e_faK rfl ty_fo128_0) rfl (by kernel_rfl) rfl ?_); clear hS a; intro a hS
  refine Zt 5 (tf 6 2) hS rfl want_none (e_loadC rfl ty_sc9 (lr_bk (k := 0) (v := .string own) (by repeat constructor) rfl)) rfl (by kernel_rfl) (sub_cons (by repeat constructor) (sub_cons (by repeat constructor) sub_nil)) rfl ?_; clear hS a; intro a hS
  refine Zt0 6 (tf 7 1) hS rfl want_none (e_binS rfl rfl rfl) rfl (by kernel_rfl) rfl ?_; clear hS a; intro a hS
  refine Zt0 7 (tf 8 0) hS rfl want_none (e_assign rfl) rfl (by kernel_rfl) rfl ?_; clear hS a; intro a hS
  refine Z_done (by kernel_rfl) ?_
  refine n_then ?_
  first | refine c_ifD hS rfl (fun hc36 => ?_) (fun hc36 => ?_) | refine c_if hS rfl (fun hc36 => ?_) (fun hc36 => ?_)
  ·
    refine c_seq (c_region ?_)
    refine L_e hS (e_assign rfl) rfl ?_; clear hS a; intro a hS
    refine L_e hS (e_assign rfl) rfl ?_; clear hS a; intro a hS
    refine L_nil (n_then (wp_ret ?_))
    refine r_block (r_then ?_)
    refine c_retN hS Tryz.results22 (.cons (.tmp rfl) (.cons (.tmp rfl) .nil)) rfl ?_
    rw [if_pos hc36]
    exact ⟨.slice none 0 0, rfl, hS.chg, nil_new⟩
  rw [if_neg hc36]
  refine wp_skip (n_block (n_then (c_seq (c_region ?_))))
  refine L_e hS (e_assign rfl) rfl ?_; clear hS a; intro a hS
  refine L_nil (n_then (c_seq (c_region ?_)))
  refine L_e hS (e_build ty_z131 ty_pl131 .nil) rfl ?_; clear hS a; intro a hS
  refine L_op (s_alloc hS ty_z131 rfl ?_); clear hS a; (try clear w); intro a w b13 hS
  refine L_op (s_storeA hS rfl rfl ty_sz131 (by repeat constructor) (by rfl) (by rfl) (by rfl) ?_); clear hS; (try clear w); intro w hS
  refine L_nil (n_then (c_seq (c_seq (c_region ?_))))
  refine L_e hS (e_move rfl) rfl ?_; clear hS a; intro a hS
  refine L_op (s_callN hS (.cons rfl .nil) cf27 rfl (lAccs_P B s (by omega) _ (hS.get (X := lrA B s bk mb own es n) (by repeat constructor)).l) ?_); clear hS a; (try clear w); intro x46 a w hS
  rw [haL] at hS
  obtain ⟨q46, c46, rfl⟩ := own_slice (hS.get (X := ownA 35 4 x46 s.acs.length ((accsL s.acs).flatMap encAc)) (by repeat constructor))
  refine L_e hS (e_len rfl rfl ty_sl48) rfl ?_; clear hS a; intro a hS
  refine L_e hS (e_move rfl) rfl ?_; clear hS a; intro a hS
  refine L_nil (n_then (wp_block ?_))
  replace hS := hS.own_nil 82 3
  replace hS := hS.swap (X := .blk b13 [.int .u64 0, .int .u64 0] 131) (Y := .blk b13 (wv (-(sumFn (rvOut own (vsT es) (pl s) at_ ((accsL s.acs).take 0))))) 131) (by repeat constructor) (by rw [show -(sumFn (rvOut own (vsT es) (pl s) at_ ((accsL s.acs).take 0))) = 0 from rfl, wv_nil]; exact hS.ok (.blk b13 [.int .u64 0, .int .u64 0] 131) (by repeat constructor)) (fun _ hb => hb) rfl
  refine c_loop (γ := Nat × Value) (fun G a w => St 109 noB w0 a w [(48, .int .i64 (G.1 : Int)), (47, .int .i64 (s.acs.length : Int)), (46, .slice q46 s.acs.length c46), (13, .pointer (some ⟨b13, 0, none⟩)), (12, G.2), (0, .pointer (some ⟨B.lb, 0, none⟩)), (1, .pointer (some ⟨bk, 0, none⟩)), (2, .int .i64 at_), (3, .string gain)] [ownA 82 3 G.2 (rvOut own (vsT es) (pl s) at_ ((accsL s.acs).take G.1)).length ((rvOut own (vsT es) (pl s) at_ ((accsL s.acs).take G.1)).flatMap encP), .blk b13 (wv (-(sumFn (rvOut own (vsT es) (pl s) at_ ((accsL s.acs).take G.1))))) 131, ownA 35 4 (.slice q46 s.acs.length c46) s.acs.length ((accsL s.acs).flatMap encAc), lrA B s bk mb own es n] ∧ G.1 ≤ s.acs.length ∧ ∀ j, j < G.1 → ∀ y, (accsL s.acs)[j]? = some y → ¬ rvBad own (vsT es) (pl s) at_ y) (fun G => s.acs.length - G.1) (0, .slice none 0 0) ⟨(hS.slots (by repeat (first | exact trivial | refine ⟨rfl, ?_⟩))).pick (by repeat (first | exact Pick.nil | (refine Pick.cons (by repeat (first | exact Rem.head | apply Rem.tail)) ?_))), Nat.zero_le _, fun j hj => by simp only at hj; omega⟩ ?_
  clear hS a; (try clear w); intro G a w hI
  obtain ⟨i, out⟩ := G
  obtain ⟨hS, hi, hgd⟩ := hI
  simp only at hS hi hgd
  have hrl' := hrl i
  have hrs' := hrs i
  have htl : ((accsL s.acs).take i).length ≤ 1000 := by rw [List.length_take]; omega
  refine c_seq (c_region ?_)
  refine L_e hS (e_bin rfl rfl rfl) rfl ?_; clear hS a; intro a hS
  refine L_nil (n_then (c_seq ?_))
  first | refine c_ifD hS rfl (fun hc49 => ?_) (fun hc49 => ?_) | refine c_if hS rfl (fun hc49 => ?_) (fun hc49 => ?_)
  ·
    have hil : i < s.acs.length := by omega
    obtain ⟨x, hx⟩ : ∃ x, (accsL s.acs)[i]? = some x := ⟨(accsL s.acs)[i]'(by omega), List.getElem?_eq_getElem (by omega)⟩
    obtain ⟨g46, rfl⟩ : ∃ g, q46 = some ⟨g, 0, none⟩ := own_at (hS.get (X := ownA 35 4 (.slice q46 s.acs.length c46) s.acs.length ((accsL s.acs).flatMap encAc)) (by repeat constructor)) (by omega)
    have htk := rv_take (own := own) (l := vsT es) (P := pl s) (at_ := at_) hx
    have hdb := dif_bd own (vsT es) (pl s) at_ x
    generalize hO : rvOut own (vsT es) (pl s) at_ ((accsL s.acs).take i) = O at hS htk hrl' hrs'
    refine wp_skip (n_then (c_seq (wp_block (c_seq (c_region ?_)))))
    refine L_e hS (e_ixN rfl rfl ty_sl48 ty_sz35 (by omega)) rfl ?_; clear hS a; intro a hS
    refine L_e hS (e_loadAC (l := encAc x) rfl ty_st35 ty_sz35 (own_getL (enc := encAc) (s := 4) (fun _ => rfl) (by repeat constructor) hx)) rfl ?_; clear hS a; intro a hS
    refine L_op (s_alloc hS ty_z35 rfl ?_); clear hS a; (try clear w); intro a w b15 hS
    refine L_op (s_storeA hS rfl rfl ty_sz35 (by repeat constructor) (by rfl) (by rfl) (by rfl) ?_); clear hS; (try clear w); intro w hS
    refine L_nil (n_then (c_seq (c_seq ?_)))
    refine c_drawS [] (by kernel_rfl) hS (sub_cons (X := .blk b15 (encAc x) 35) (by repeat constructor) (sub_cons (X := lrA B s bk mb own es n) (by repeat constructor) sub_nil)) ?_; clear hS; (try clear w); intro w hS
    simp only [List.length_cons, List.length_nil, Nat.zero_add, Nat.reduceAdd, List.replicate]
    (first | refine Zt0 0 (tf 1 11) hS rfl want_none (e_fa0 rfl ty_fo35_3) rfl (by kernel_rfl) rfl ?_ | refine Zt0 0 (tf 1 11) hS rfl want_none (e_faK rfl ty_fo35_3) rfl (by kernel_rfl) rfl ?_); clear hS a; intro a hS
    refine Zt 1 (tf 2 10) hS rfl want_none (e_load rfl (by repeat constructor) ty_sc4 (by rfl)) rfl (by kernel_rfl) (sub_cons (by repeat constructor) (sub_cons (by repeat constructor) sub_nil)) rfl ?_; clear hS a; intro a hS
    refine Zt0 2 (tf 3 9) hS rfl want_none (e_not rfl) rfl (by kernel_rfl) rfl ?_; clear hS a; intro a hS
    refine Zt0 3 (tf 4 8) hS rfl want_none (e_move rfl) rfl (by kernel_rfl) rfl ?_; clear hS a; intro a hS
    refine Z_merge 0 (tf 12 0) 63 (.bool (decide (¬ isF own x))) hS ?_ ?_
    · intro hcM63
      (first | refine g_splitD (t := 55) hS rfl ?_ ?_ | refine g_split (t := 55) hS rfl ?_ ?_) <;> (clear hS; intro hg55 hS)
      ·
        refine Zn_f 4 (tf 5 7) hS rfl rfl rfl rfl (by kernel_rfl) rfl ?_; clear hS a; intro a hS
        refine Zn_f 5 (tf 6 6) hS rfl rfl rfl rfl (by kernel_rfl) rfl ?_; clear hS a; intro a hS
        refine Zn_f 6 (tf 7 5) hS rfl rfl rfl rfl (by kernel_rfl) rfl ?_; clear hS a; intro a hS
        refine Zn_f 7 (tf 8 4) hS rfl rfl rfl rfl (by kernel_rfl) rfl ?_; clear hS a; intro a hS
        refine Zn_f 8 (tf 9 3) hS rfl rfl rfl rfl (by kernel_rfl) rfl ?_; clear hS a; intro a hS
        refine Zn_f 9 (tf 10 2) hS rfl rfl rfl rfl (by kernel_rfl) rfl ?_; clear hS a; intro a hS
        refine Zn_f 10 (tf 11 1) hS rfl rfl rfl rfl (by kernel_rfl) rfl ?_; clear hS a; intro a hS
        refine Zt0 11 (tf 12 0) hS rfl want_none (e_pk rfl rfl) rfl (by kernel_rfl) rfl ?_; clear hS a; intro a hS
        exact hcM63 _ _ (hS.ends 9 63 55 rfl (congrArg Value.bool (by exact (decide_eq_true (show ¬ isF own x from fun e => by have h3 := e.1; simp [h3] at hg55)).symm)) rfl rfl (by first | exact congrArg Value.bool (decide_eq_true hg55).symm | exact congrArg Value.bool hg55.symm | simp [hg55]) rfl)
      (first | refine Zt0 4 (tf 5 7) hS rfl (want_go rfl rfl) (e_fa0 rfl ty_fo35_1) rfl (by kernel_rfl) rfl ?_ | refine Zt0 4 (tf 5 7) hS rfl (want_go rfl rfl) (e_faK rfl ty_fo35_1) rfl (by kernel_rfl) rfl ?_); clear hS a; intro a hS
      refine Zt 5 (tf 6 6) hS rfl (want_go rfl rfl) (e_load rfl (by repeat constructor) ty_sc9 (by rfl)) rfl (by kernel_rfl) (sub_cons (by repeat constructor) (sub_cons (by repeat constructor) sub_nil)) rfl ?_; clear hS a; intro a hS
      refine Zt0 6 (tf 7 5) hS rfl (want_go rfl rfl) (e_move rfl) rfl (by kernel_rfl) rfl ?_; clear hS a; intro a hS
      refine Zt0 7 (tf 8 4) hS rfl (want_go rfl rfl) (e_nilCheck rfl) rfl (by kernel_rfl) rfl ?_; clear hS a; intro a hS
      (first | refine Zt0 8 (tf 9 3) hS rfl (want_go rfl rfl) (e_fa0 rfl ty_fo128_0) rfl (by kernel_rfl) rfl ?_ | refine Zt0 8 (tf 9 3) hS rfl (want_go rfl rfl) (e_faK rfl ty_fo128_0) rfl (by kernel_rfl) rfl ?_); clear hS a; intro a hS
      refine Zt 9 (tf 10 2) hS rfl (want_go rfl rfl) (e_loadC rfl ty_sc9 (lr_bk (k := 0) (v := .string own) (by repeat constructor) rfl)) rfl (by kernel_rfl) (sub_cons (by repeat constructor) (sub_cons (by repeat constructor) sub_nil)) rfl ?_; clear hS a; intro a hS
      refine Zt0 10 (tf 11 1) hS rfl (want_go rfl rfl) (e_binS rfl rfl rfl) rfl (by kernel_rfl) rfl ?_; clear hS a; intro a hS
      refine Zt0 11 (tf 12 0) hS rfl want_none (e_pk rfl rfl) rfl (by kernel_rfl) rfl ?_; clear hS a; intro a hS
      exact hcM63 _ _ (hS.ends 9 63 55 rfl (congrArg Value.bool (by rw [decide_eq_decide]; exact ⟨fun e e2 => e2.2 e, fun e => Classical.byContradiction fun e2 => e ⟨by simpa using hg55, e2⟩⟩)) rfl rfl (by first | exact congrArg Value.bool (decide_eq_false hg55).symm | exact congrArg Value.bool hg55.symm | simp [hg55]) rfl)
    · clear hS a; (try clear w); intro a w hS
      refine Z_done (by kernel_rfl) ?_
      refine n_then ?_
      first | refine c_ifD hS rfl (fun hc63 => ?_) (fun hc63 => ?_) | refine c_if hS rfl (fun hc63 => ?_) (fun hc63 => ?_)
      ·
        refine wp_exit ?_
        refine x_then (x_hit ?_)
        refine n_then (c_region ?_)
        (first | refine L_e hS (e_binN rfl rfl rfl (by omega)) rfl ?_ | refine L_e hS (e_bin rfl rfl rfl) rfl ?_); clear hS a; intro a hS
        refine L_e hS (e_move rfl) rfl ?_; clear hS a; intro a hS
        refine L_nil ?_
        first
        | (have hn : ¬ isF own x := hc63
           have hone : rvOne own (vsT es) (pl s) at_ x = [] := if_neg (fun e => hn e.1)
           rw [hone, List.append_nil] at htk
           refine ⟨(i + 1, out), by simp only; omega, ?_, by simp only; omega, fun j hj y hy => ?_⟩
           · simp only
             rw [htk]
             exact (hS.slots (by repeat (first | exact trivial | refine ⟨rfl, ?_⟩))).pick (by repeat (first | exact Pick.nil | (refine Pick.cons (by repeat (first | exact Rem.head | apply Rem.tail)) ?_)))
           · by_cases e : j = i
             · subst e; rw [hx] at hy; cases hy; exact fun e => hn e.1
             · exact hgd j (by simp only at hj; omega) y hy)
        | (have hn : ¬ (difF own (vsT es) (pl s) at_ x).1 ≠ 0 := hc76
           have hone : rvOne own (vsT es) (pl s) at_ x = [] := if_neg (fun e => hn e.2)
           rw [hone, List.append_nil] at htk
           refine ⟨(i + 1, out), by simp only; omega, ?_, by simp only; omega, hg2⟩
           simp only
           rw [htk]
           exact (hS.slots (by repeat (first | exact trivial | refine ⟨rfl, ?_⟩))).pick (by repeat (first | exact Pick.nil | (refine Pick.cons (by repeat (first | exact Rem.head | apply Rem.tail)) ?_))))
        | (rw [hone] at htk
           have e1 : (O ++ [(⟨x.code, 0, D⟩ : Pst)]).length = O.length + 1 := by simp
           have e2 : (O ++ [(⟨x.code, 0, D⟩ : Pst)]).flatMap encP = O.flatMap encP ++ encP ⟨x.code, 0, D⟩ := by simp
           have e3 : -(sumFn (O ++ [(⟨x.code, 0, D⟩ : Pst)])) = -(sumFn O) - D := by
             rw [sumFn_append, sumFn_cons]; simp only [sumFn, List.foldl]; omega
           refine ⟨(i + 1, v83), by simp only; omega, ?_, by simp only; omega, hg2⟩
           simp only
           rw [htk, e1, e2, e3]
           exact (hS.slots (by repeat (first | exact trivial | refine ⟨rfl, ?_⟩))).pick (by repeat (first | exact Pick.nil | (refine Pick.cons (by repeat (first | exact Rem.head | apply Rem.tail)) ?_))))
      have hisF : isF own x := Classical.byContradiction fun e => hc63 e
      refine wp_skip (n_then (c_seq (c_region ?_)))
      refine L_e hS (e_move rfl) rfl ?_; clear hS a; intro a hS
      refine L_e hS (e_move rfl) rfl ?_; clear hS a; intro a hS
      refine L_e hS (e_loadA rfl (by repeat constructor) ty_st35 ty_sz35 (by rfl)) rfl ?_; clear hS a; intro a hS
      refine L_e hS (e_move rfl) rfl ?_; clear hS a; intro a hS
      refine L_op (s_callP hS (.cons rfl (.cons rfl (.cons rfl (.cons rfl .nil)))) cf55 rfl (fxdiffers_P B s bk mb own es n x at_ hfl hno _ (hS.get (X := lrA B s bk mb own es n) (by repeat constructor)).l (hS.get (X := lrA B s bk mb own es n) (by repeat constructor)).t) ?_); clear hS a; (try clear w); intro a w hS
      refine L_e hS (e_move rfl) rfl ?_; clear hS a; intro a hS
      refine L_e hS (e_extract rfl rfl) rfl ?_; clear hS a; intro a hS
      refine L_e hS (e_extract rfl rfl) rfl ?_; clear hS a; intro a hS
      refine L_e hS (e_assign rfl) rfl ?_; clear hS a; intro a hS
      refine L_e hS (e_assign rfl) rfl ?_; clear hS a; intro a hS
      refine L_nil (n_then (c_seq (c_seq (c_region ?_))))
      refine L_e hS (e_move rfl) rfl ?_; clear hS a; intro a hS
      refine L_e hS (e_bin rfl rfl rfl) rfl ?_; clear hS a; intro a hS
      refine L_nil (n_then ?_)
      first | refine c_ifD hS rfl (fun hc73 => ?_) (fun hc73 => ?_) | refine c_if hS rfl (fun hc73 => ?_) (fun hc73 => ?_)
      ·
        refine c_seq (c_region ?_)
        refine L_e hS (e_move rfl) rfl ?_; clear hS a; intro a hS
        refine L_e hS (e_assign rfl) rfl ?_; clear hS a; intro a hS
        refine L_e hS (e_assign rfl) rfl ?_; clear hS a; intro a hS
        refine L_nil (n_then (wp_ret ?_))
        refine r_then (r_block (r_then (r_then (r_block (r_then ?_)))))
        refine c_retN hS Tryz.results22 (.cons (.tmp rfl) (.cons (.tmp rfl) .nil)) rfl ?_
        have hbad : rvBad own (vsT es) (pl s) at_ x := ⟨hisF, hc73⟩
        have hre := rv_bad hx hbad hgd
        have hne : rvErr own (vsT es) (pl s) at_ (accsL s.acs) ≠ 0 := by rw [hre]; exact hc73
        rw [if_pos hne, hre]
        exact ⟨.slice none 0 0, rfl, hS.chg, nil_new⟩
      have hng : ¬ rvBad own (vsT es) (pl s) at_ x := fun e => hc73 e.2
      have hg2 : ∀ j, j < i + 1 → ∀ y, (accsL s.acs)[j]? = some y → ¬ rvBad own (vsT es) (pl s) at_ y := fun j hj y hy => by
        by_cases e : j = i
        · subst e; rw [hx] at hy; cases hy; exact hng
        · exact hgd j (by omega) y hy
      refine wp_skip (n_then (c_seq (c_region ?_)))
      refine L_e hS (e_move rfl) rfl ?_; clear hS a; intro a hS
      refine L_e hS (e_bin rfl rfl rfl) rfl ?_; clear hS a; intro a hS
      refine L_nil (n_then ?_)
      first | refine c_ifD hS rfl (fun hc76 => ?_) (fun hc76 => ?_) | refine c_if hS rfl (fun hc76 => ?_) (fun hc76 => ?_)
      ·
        have hone : rvOne own (vsT es) (pl s) at_ x = [⟨x.code, 0, (difF own (vsT es) (pl s) at_ x).1⟩] := if_pos ⟨hisF, hc76⟩
        generalize hD : (difF own (vsT es) (pl s) at_ x).1 = D at hS hone hdb
        refine c_seq (c_region ?_)
        refine L_e hS (e_move rfl) rfl ?_; clear hS a; intro a hS
        (first | refine L_e hS (e_fa0 rfl ty_fo35_0) rfl ?_ | refine L_e hS (e_faK rfl ty_fo35_0) rfl ?_); clear hS a; intro a hS
        refine L_e hS (e_load rfl (by repeat constructor) ty_sc9 (by rfl)) rfl ?_; clear hS a; intro a hS
        refine L_e hS (e_move rfl) rfl ?_; clear hS a; intro a hS
        refine L_e hS (e_build ty_z82 ty_pl82 (.one rfl rfl rfl (by repeat constructor) (.one rfl rfl rfl (by repeat constructor) .nil))) rfl ?_; clear hS a; intro a hS
        refine L_op (s_bslice hS ty_sl36 ty_sz82 ty_z82 rfl rfl rfl rfl (.agg rfl rfl .nil) rfl ?_); clear hS a; (try clear w); intro a w b82 hS
        refine L_op (s_append1 hS rfl rfl ty_sl36 ty_sz82 ty_by82 ty_z82 rfl rfl rfl (by repeat constructor) (by repeat constructor) (by rfl) (by rfl) (fun _ => (by repeat constructor)) (by omega) ?_); clear hS a; (try clear w); intro v83 a w hv83 hS
        refine L_e hS (e_assign rfl) rfl ?_; clear hS a; intro a hS
        refine L_nil (n_then ?_)
        refine c_drawS [7] (by kernel_rfl) hS (sub_cons (X := .blk b13 _ _) (by repeat constructor) sub_nil) ?_; clear hS; (try clear w); intro w hS
        simp only [List.length_cons, List.length_nil, Nat.zero_add, Nat.reduceAdd, List.replicate]
        refine Zt 0 (tf 1 7) hS rfl want_none (e_loadA rfl (by repeat constructor) ty_st131 ty_sz131 (by rfl)) rfl (by kernel_rfl) (sub_cons (by repeat constructor) sub_nil) rfl ?_; clear hS a; intro a hS
        refine Zt0 1 (tf 2 6) hS rfl want_none (e_move rfl) rfl (by kernel_rfl) rfl ?_; clear hS a; intro a hS
        refine Z_one (i := 2) rfl (want_none a hS.sl) (listed' := (tf 3 5)) rfl (by kernel_rfl) (s_callP hS (.cons rfl .nil) cf57 rfl (FromInt_P D (by omega) (by omega) _) ?_); clear hS a; (try clear w); intro a w hS
        refine Z_and hS (sub_cons (by repeat constructor) sub_nil) ?_
        refine Z_one (i := 3) rfl (want_none a hS.sl) (listed' := (tf 4 4)) rfl (by kernel_rfl) (s_callP hS (.cons rfl (.cons rfl .nil)) cf56 rfl (Sub_P (-(sumFn O)) D (by unfold Wd.fit; omega) (by unfold Wd.fit; omega) (by unfold Wd.fit; omega) _) ?_); clear hS a; (try clear w); intro a w hS
        refine Z_and hS (sub_cons (by repeat constructor) sub_nil) ?_
        refine Zt0 4 (tf 5 3) hS rfl want_none (e_move rfl) rfl (by kernel_rfl) rfl ?_; clear hS a; intro a hS
        refine Zt0 5 (tf 6 2) hS rfl want_none (e_extract rfl rfl) rfl (by kernel_rfl) rfl ?_; clear hS a; intro a hS
        refine Zt0 6 (tf 7 1) hS rfl want_none (e_extract rfl rfl) rfl (by kernel_rfl) rfl ?_; clear hS a; intro a hS
        refine Z_one (i := 7) rfl (want_none a hS.sl) (listed' := (tf 8 0)) rfl (by kernel_rfl) (s_storeA hS rfl rfl ty_sz131 (by repeat constructor) (by rfl) (by rfl) (by rfl) ?_); clear hS; (try clear w); intro w hS
        refine Z_last (by simp) ?_
        refine Z_done (by kernel_rfl) ?_
        refine n_block (n_then (c_region ?_))
        (first | refine L_e hS (e_binN rfl rfl rfl (by omega)) rfl ?_ | refine L_e hS (e_bin rfl rfl rfl) rfl ?_); clear hS a; intro a hS
        refine L_e hS (e_move rfl) rfl ?_; clear hS a; intro a hS
        refine L_nil ?_
        first
        | (have hn : ¬ isF own x := hc63
           have hone : rvOne own (vsT es) (pl s) at_ x = [] := if_neg (fun e => hn e.1)
           rw [hone, List.append_nil] at htk
           refine ⟨(i + 1, out), by simp only; omega, ?_, by simp only; omega, fun j hj y hy => ?_⟩
           · simp only
             rw [htk]
             exact (hS.slots (by repeat (first | exact trivial | refine ⟨rfl, ?_⟩))).pick (by repeat (first | exact Pick.nil | (refine Pick.cons (by repeat (first | exact Rem.head | apply Rem.tail)) ?_)))
           · by_cases e : j = i
             · subst e; rw [hx] at hy; cases hy; exact fun e => hn e.1
             · exact hgd j (by simp only at hj; omega) y hy)
        | (have hn : ¬ (difF own (vsT es) (pl s) at_ x).1 ≠ 0 := hc76
           have hone : rvOne own (vsT es) (pl s) at_ x = [] := if_neg (fun e => hn e.2)
           rw [hone, List.append_nil] at htk
           refine ⟨(i + 1, out), by simp only; omega, ?_, by simp only; omega, hg2⟩
           simp only
           rw [htk]
           exact (hS.slots (by repeat (first | exact trivial | refine ⟨rfl, ?_⟩))).pick (by repeat (first | exact Pick.nil | (refine Pick.cons (by repeat (first | exact Rem.head | apply Rem.tail)) ?_))))
        | (rw [hone] at htk
           have e1 : (O ++ [(⟨x.code, 0, D⟩ : Pst)]).length = O.length + 1 := by simp
           have e2 : (O ++ [(⟨x.code, 0, D⟩ : Pst)]).flatMap encP = O.flatMap encP ++ encP ⟨x.code, 0, D⟩ := by simp
           have e3 : -(sumFn (O ++ [(⟨x.code, 0, D⟩ : Pst)])) = -(sumFn O) - D := by
             rw [sumFn_append, sumFn_cons]; simp only [sumFn, List.foldl]; omega
           refine ⟨(i + 1, v83), by simp only; omega, ?_, by simp only; omega, hg2⟩
           simp only
           rw [htk, e1, e2, e3]
           exact (hS.slots (by repeat (first | exact trivial | refine ⟨rfl, ?_⟩))).pick (by repeat (first | exact Pick.nil | (refine Pick.cons (by repeat (first | exact Rem.head | apply Rem.tail)) ?_))))
      refine wp_skip (n_block (n_then (c_region ?_)))
      (first | refine L_e hS (e_binN rfl rfl rfl (by omega)) rfl ?_ | refine L_e hS (e_bin rfl rfl rfl) rfl ?_); clear hS a; intro a hS
      refine L_e hS (e_move rfl) rfl ?_; clear hS a; intro a hS
      refine L_nil ?_
      first
      | (have hn : ¬ isF own x := hc63
         have hone : rvOne own (vsT es) (pl s) at_ x = [] := if_neg (fun e => hn e.1)
         rw [hone, List.append_nil] at htk
         refine ⟨(i + 1, out), by simp only; omega, ?_, by simp only; omega, fun j hj y hy => ?_⟩
         · simp only
           rw [htk]
           exact (hS.slots (by repeat (first | exact trivial | refine ⟨rfl, ?_⟩))).pick (by repeat (first | exact Pick.nil | (refine Pick.cons (by repeat (first | exact Rem.head | apply Rem.tail)) ?_)))
         · by_cases e : j = i
           · subst e; rw [hx] at hy; cases hy; exact fun e => hn e.1
           · exact hgd j (by simp only at hj; omega) y hy)
      | (have hn : ¬ (difF own (vsT es) (pl s) at_ x).1 ≠ 0 := hc76
         have hone : rvOne own (vsT es) (pl s) at_ x = [] := if_neg (fun e => hn e.2)
         rw [hone, List.append_nil] at htk
         refine ⟨(i + 1, out), by simp only; omega, ?_, by simp only; omega, hg2⟩
         simp only
         rw [htk]
         exact (hS.slots (by repeat (first | exact trivial | refine ⟨rfl, ?_⟩))).pick (by repeat (first | exact Pick.nil | (refine Pick.cons (by repeat (first | exact Rem.head | apply Rem.tail)) ?_))))
      | (rw [hone] at htk
         have e1 : (O ++ [(⟨x.code, 0, D⟩ : Pst)]).length = O.length + 1 := by simp
         have e2 : (O ++ [(⟨x.code, 0, D⟩ : Pst)]).flatMap encP = O.flatMap encP ++ encP ⟨x.code, 0, D⟩ := by simp
         have e3 : -(sumFn (O ++ [(⟨x.code, 0, D⟩ : Pst)])) = -(sumFn O) - D := by
           rw [sumFn_append, sumFn_cons]; simp only [sumFn, List.foldl]; omega
         refine ⟨(i + 1, v83), by simp only; omega, ?_, by simp only; omega, hg2⟩
         simp only
         rw [htk, e1, e2, e3]
         exact (hS.slots (by repeat (first | exact trivial | refine ⟨rfl, ?_⟩))).pick (by repeat (first | exact Pick.nil | (refine Pick.cons (by repeat (first | exact Rem.head | apply Rem.tail)) ?_))))
  obtain rfl : i = s.acs.length := by omega
  rw [← haL, List.take_length] at hS hrl' hrs'
  rw [haL] at hS
  have hgood : rvErr own (vsT es) (pl s) at_ (accsL s.acs) = 0 := rv_good (fun j hj => hgd j (by omega))
  rw [if_neg (fun e => e hgood)]
  generalize hO : rvOut own (vsT es) (pl s) at_ (accsL s.acs) = O at hS hrl' hrs' ⊢
  obtain ⟨qo, co, rfl⟩ := own_slice (hS.get (X := ownA 82 3 out O.length (O.flatMap encP)) (by repeat constructor))
  refine wp_exit ?_
  refine x_then (x_then (x_hit ?_))
  refine n_then (c_seq (c_seq (c_region ?_)))
  refine L_e hS (e_move rfl) rfl ?_; clear hS a; intro a hS
  refine L_e hS (e_len rfl rfl ty_sl36) rfl ?_; clear hS a; intro a hS
  refine L_e hS (e_bin rfl rfl rfl) rfl ?_; clear hS a; intro a hS
  refine L_nil (n_then ?_)
  first | refine c_ifD hS rfl (fun hc94 => ?_) (fun hc94 => ?_) | refine c_if hS rfl (fun hc94 => ?_) (fun hc94 => ?_)
  ·
    refine c_seq (c_region ?_)
    refine L_e hS (e_assign rfl) rfl ?_; clear hS a; intro a hS
    refine L_e hS (e_assign rfl) rfl ?_; clear hS a; intro a hS
    refine L_nil (n_then (wp_ret (r_then ?_)))
    refine c_retN hS Tryz.results22 (.cons (.tmp rfl) (.cons (.tmp rfl) .nil)) rfl ?_
    have hO0 : O = [] := List.eq_nil_of_length_eq_zero (by omega)
    rw [if_pos hO0]
    exact ⟨.slice none 0 0, rfl, hS.chg, nil_new⟩
  have hO0 : ¬ O = [] := fun e => hc94 (by rw [e]; rfl)
  rw [if_neg hO0]
  refine wp_skip (n_then (c_seq (c_region ?_)))
  refine L_e hS (e_loadA rfl (by repeat constructor) ty_st131 ty_sz131 (by rfl)) rfl ?_; clear hS a; intro a hS
  refine L_op (s_callP hS (.cons rfl (.cons rfl .nil)) cf58 rfl (narrow_P (-(sumFn O)) (by unfold Wd.fit; omega) _) ?_); clear hS a; (try clear w); intro a w hS
  refine L_e hS (e_move rfl) rfl ?_; clear hS a; intro a hS
  refine L_e hS (e_extract rfl rfl) rfl ?_; clear hS a; intro a hS
  refine L_e hS (e_extract rfl rfl) rfl ?_; clear hS a; intro a hS
  refine L_e hS (e_assign rfl) rfl ?_; clear hS a; intro a hS
  refine L_e hS (e_assign rfl) rfl ?_; clear hS a; intro a hS
  refine L_nil (n_then (c_seq (c_seq (c_region ?_))))
  refine L_e hS (e_move rfl) rfl ?_; clear hS a; intro a hS
  refine L_e hS (e_bin rfl rfl rfl) rfl ?_; clear hS a; intro a hS
  refine L_nil (n_then ?_)
  first | refine c_ifD hS rfl (fun hc101 => ?_) (fun hc101 => ?_) | refine c_if hS rfl (fun hc101 => ?_) (fun hc101 => ?_)
  ·
    refine c_seq (c_region ?_)
    refine L_e hS (e_move rfl) rfl ?_; clear hS a; intro a hS
    refine L_e hS (e_assign rfl) rfl ?_; clear hS a; intro a hS
    refine L_e hS (e_assign rfl) rfl ?_; clear hS a; intro a hS
    refine L_nil (n_then (wp_ret (r_then ?_)))
    refine c_retN hS Tryz.results22 (.cons (.tmp rfl) (.cons (.tmp rfl) .nil)) rfl ?_
    have hni : ¬ inU (-(sumFn O)) := fun e => by
      rw [show narrowF (-(sumFn O)) = (-(sumFn O), 0) from if_pos e] at hc101
      exact hc101 rfl
    rw [if_neg hni]
    have e4 : (narrowF (-(sumFn O))).2 = 16 := by rw [show narrowF (-(sumFn O)) = (0, 16) from if_neg hni]
    rw [e4] at hS
    exact ⟨.slice none 0 0, by rw [e4], hS.chg, nil_new⟩
  have hni : inU (-(sumFn O)) := Classical.byContradiction fun e => hc101 (by rw [show narrowF (-(sumFn O)) = (0, 16) from if_neg e]; decide)
  rw [if_pos hni]
  rw [show narrowF (-(sumFn O)) = (-(sumFn O), 0) from if_pos hni] at hS
  refine wp_skip (n_then (c_seq (c_region ?_)))
  refine L_e hS (e_move rfl) rfl ?_; clear hS a; intro a hS
  refine L_e hS (e_move rfl) rfl ?_; clear hS a; intro a hS
  refine L_e hS (e_move rfl) rfl ?_; clear hS a; intro a hS
  refine L_e hS (e_build ty_z82 ty_pl82 (.one rfl rfl rfl (by repeat constructor) (.one rfl rfl rfl (by repeat constructor) .nil))) rfl ?_; clear hS a; intro a hS
  refine L_op (s_bslice hS ty_sl36 ty_sz82 ty_z82 rfl rfl rfl rfl (.agg rfl rfl .nil) rfl ?_); clear hS a; (try clear w); intro a w b107 hS
  refine L_op (s_append1 hS rfl rfl ty_sl36 ty_sz82 ty_by82 ty_z82 rfl rfl rfl (by repeat constructor) (by repeat constructor) (by rfl) (by rfl) (fun _ => (by repeat constructor)) (by omega) ?_); clear hS a; (try clear w); intro v108 a w hv108 hS
  refine L_e hS (e_assign rfl) rfl ?_; clear hS a; intro a hS
  refine L_e hS (e_assign rfl) rfl ?_; clear hS a; intro a hS
  refine L_nil (n_then (wp_ret ?_))
  refine c_retN hS Tryz.results22 (.cons (.tmp rfl) (.cons (.tmp rfl) .nil)) rfl ?_
  have e1 : (O ++ [(⟨gain, 0, -(sumFn O)⟩ : Pst)]).length = O.length + 1 := by simp
  have e2 : (O ++ [(⟨gain, 0, -(sumFn O)⟩ : Pst)]).flatMap encP = O.flatMap encP ++ encP ⟨gain, 0, -(sumFn O)⟩ := by simp
  refine ⟨v108, rfl, hS.chg, ?_⟩
  simp only
  rw [e1, e2]
  exact hS.new (X := ownA 82 3 v108 (O.length + 1) (O.flatMap encP ++ encP ⟨gain, 0, -(sumFn O)⟩)) (by repeat constructor) rfl
end Go.Proofs.YtheofhegdjjfgaaGreat

namespace Go.Proofs.YtheofhegdjjfgaaGreat
open Go.RowKit
section
variable {own : ByteArray} {l : List (ByteArray × List (Int × Int))} {P Q : PL} {at_ : Int}
theorem rvOne_acc {a : Acc} {p : Pst} (hp : p ∈ rvOne own l P at_ a) : p.acc = a.code := by
  unfold rvOne at hp
  split at hp
  · rw [List.mem_singleton.1 hp]
  · cases hp
theorem rv_acc {L : List Acc} {p : Pst} (hp : p ∈ rvOut own l P at_ L) : ∃ a ∈ L, p.acc = a.code := by
  unfold rvOut at hp
  obtain ⟨a, ha, hpa⟩ := List.mem_flatMap.1 hp
  exact ⟨a, ha, rvOne_acc hpa⟩
theorem rvOne_bal (a : Acc) : balD a.code (rvOne own l P at_ a) = (0, if isF own a then (difF own l P at_ a).1 else 0) := by
  unfold rvOne
  by_cases h1 : isF own a
  · by_cases h2 : (difF own l P at_ a).1 ≠ 0
    · rw [if_pos ⟨h1, h2⟩, if_pos h1]
      show balStep a.code (0, 0) ⟨a.code, 0, _⟩ = _
      unfold balStep addS
      rw [if_pos rfl]; simp
    · rw [if_neg (fun e => h2 e.2), if_pos h1, Classical.byContradiction h2]; rfl
  · rw [if_neg (fun e => h1 e.1), if_neg h1]; rfl
theorem rv_bal : ∀ (L : List Acc), (L.map (·.code)).Nodup → ∀ a ∈ L, balD a.code (rvOut own l P at_ L) = (0, if isF own a then (difF own l P at_ a).1 else 0)
  | b :: r, hn, a, ha => by
    have hn2 := List.nodup_cons.1 hn
    have e : rvOut own l P at_ (b :: r) = rvOne own l P at_ b ++ rvOut own l P at_ r := by unfold rvOut; rw [List.flatMap_cons]
    rw [e, balD_append]
    rcases List.mem_cons.1 ha with rfl | ha
    · rw [rvOne_bal, balD_none a.code (rvOut own l P at_ r) (fun p hp e2 => by
        obtain ⟨x, hx, hxa⟩ := rv_acc hp
        exact hn2.1 (List.mem_map.2 ⟨x, hx, by rw [← hxa, e2]⟩))]
      simp
    · rw [rv_bal r hn2.2 a ha, balD_none a.code (rvOne own l P at_ b) (fun p hp e2 => by
        rw [rvOne_acc hp] at e2
        exact hn2.1 (List.mem_map.2 ⟨a, ha, e2.symm⟩))]
      simp
structure tells (own : ByteArray) (l : List (ByteArray × List (Int × Int))) (P : PL) (at_ : Int) (gain : ByteArray) (ps : List Pst) : Prop where
  cur : P.cur = own
  there : (findA P.acs gain).isSome = true
  gcur : (accOf P.acs gain).cur = own
  good : ∀ a ∈ accsL P.acs, ¬ rvBad own l P at_ a
  some : rvOut own l P at_ (accsL P.acs) ≠ []
  ps : ∃ n : Int, ps = rvOut own l P at_ (accsL P.acs) ++ [⟨gain, 0, n⟩]
theorem rv_tells {gain : ByteArray} {ps : List Pst} (h : revF own l P at_ gain = (ps, 0)) (hne : ps ≠ []) : tells own l P at_ gain ps := by
  unfold revF at h
  by_cases h1 : P.cur ≠ own
  · rw [if_pos h1] at h; cases h
  · rw [if_neg h1] at h
    by_cases h2 : (findA P.acs gain).isSome = false
    · rw [if_pos h2] at h; cases h
    · rw [if_neg h2] at h
      by_cases h3 : (accOf P.acs gain).cur ≠ own
      · rw [if_pos h3] at h; cases h
      · rw [if_neg h3] at h
        by_cases h4 : rvErr own l P at_ (accsL P.acs) ≠ 0
        · rw [if_pos h4] at h
          exact absurd (congrArg Prod.snd h) h4
        · rw [if_neg h4] at h
          by_cases h5 : rvOut own l P at_ (accsL P.acs) = []
          · rw [if_pos h5] at h
            exact absurd (congrArg Prod.fst h).symm hne
          · rw [if_neg h5] at h
            by_cases h6 : inU (-(sumFn (rvOut own l P at_ (accsL P.acs))))
            · rw [if_pos h6] at h
              refine ⟨Classical.byContradiction h1, by cases e : (findA P.acs gain).isSome with | true => rfl | false => exact absurd e h2, Classical.byContradiction h3, fun a ha hb => h4 ?_, h5, -(sumFn (rvOut own l P at_ (accsL P.acs))), (congrArg Prod.fst h).symm⟩
              have hex : ∃ x, (accsL P.acs).find? (fun a => decide (rvBad own l P at_ a)) = Option.some x := by
                cases e : (accsL P.acs).find? (fun a => decide (rvBad own l P at_ a)) with
                | none => exact absurd (by simpa using hb) (List.find?_eq_none.1 e a ha)
                | some x => exact ⟨x, rfl⟩
              obtain ⟨x, hx⟩ := hex
              have hxb : rvBad own l P at_ x := by simpa using List.find?_some hx
              unfold rvErr
              rw [hx]
              exact hxb.2
            · rw [if_neg h6] at h; cases h
theorem tells_inst {gain : ByteArray} {ps : List Pst} (h : tells own l P at_ gain ps) : inst at_ := by
  have hne := h.some
  unfold rvOut at hne
  have : ∃ a ∈ accsL P.acs, rvOne own l P at_ a ≠ [] := Classical.byContradiction fun e => hne (List.flatMap_eq_nil_iff.2 fun a ha => Classical.byContradiction fun e2 => e ⟨a, ha, e2⟩)
  obtain ⟨a, _, h1⟩ := this
  unfold rvOne at h1
  split at h1
  · rename_i h2
    have h3 := h2.2
    unfold difF at h3
    split at h3
    · exact absurd rfl h3
    · rename_i h4
      have h5 : (balF P a.code at_).2 = 0 := Classical.byContradiction h4
      unfold balF at h5
      split at h5
      · cases h5
      · split at h5
        · cases h5
        · rename_i h6; exact Classical.byContradiction h6
  · exact absurd rfl h1
structure laid (P Q : PL) (at_ : Int) (ps : List Pst) : Prop where
  cur : Q.cur = P.cur
  acs : Q.acs = P.acs
  sum : ∀ c, sumAt Q c at_ = ((sumAt P c at_).1 + (balD c ps).1, (sumAt P c at_).2 + (balD c ps).2)
theorem laid_of {memo : ByteArray} {ps : List Pst} (hE : checkE P at_ memo ps = 0) : laid P (postP P at_ memo ps) at_ ps := by
  have e : postP P at_ memo ps = { P with es := P.es ++ [⟨(P.es.length : Int) + 1, at_, memo, ps⟩], tot := totS P.tot ps } := if_pos hE
  refine ⟨by rw [e], by rw [e], fun c => ?_⟩
  rw [e]
  show balD c (postsAt (P.es ++ [⟨(P.es.length : Int) + 1, at_, memo, ps⟩]) at_) = _
  rw [postsAt_snoc, if_pos (Int.le_refl _), balD_append]; rfl
theorem bal_at {R : PL} (hi : inst at_) {a : Acc} (ha : a ∈ accsL R.acs) (hk : okS (sumAt R a.code at_)) : balF R a.code at_ = ((a.code, (sumAt R a.code at_).1, (sumAt R a.code at_).2), 0) := by
  have hf : (findA R.acs a.code).isSome = true := by
    unfold findA
    rw [List.find?_isSome]
    exact ⟨a, (accs_mem ha).1, by simp⟩
  unfold balF
  rw [if_neg (by rw [hf]; decide), if_neg (fun e => e hi), if_pos hk]
variable {gain : ByteArray} {ps : List Pst}
theorem rv_one (h : tells own l P at_ gain ps) (hq : laid P Q at_ ps) (hn : (codesA P.acs).Nodup) {a : Acc} (ha : a ∈ accsL P.acs) :
    (sumAt Q a.code at_).1 = (sumAt P a.code at_).1 ∧ (isF own a → (sumAt Q a.code at_).2 = (sumAt P a.code at_).2 + (difF own l P at_ a).1) := by
  obtain ⟨n, hps⟩ := h.ps
  have hb := rv_bal (own := own) (l := l) (P := P) (at_ := at_) (accsL P.acs) (accs_nodup hn) a ha
  have hs := hq.sum a.code
  rw [hps, balD_append, hb] at hs
  have hg : balD a.code [(⟨gain, 0, n⟩ : Pst)] = (0, if gain = a.code then n else 0) := by
    show balStep a.code (0, 0) ⟨gain, 0, n⟩ = _
    unfold balStep addS
    by_cases e : gain = a.code
    · rw [if_pos e, if_pos e]; simp
    · rw [if_neg e, if_neg e]
  rw [hg] at hs
  refine ⟨by rw [hs]; simp, fun hF => ?_⟩
  have hne : ¬ gain = a.code := fun e => by
    have h1 := (accs_mem ha).2
    rw [← e] at h1
    exact hF.2 (by rw [← h1]; exact h.gcur)
  rw [hs, if_pos hF, if_neg hne]; simp
theorem rv_worth (h : tells own l P at_ gain ps) (hq : laid P Q at_ ps) (hn : (codesA P.acs).Nodup) {a : Acc} (ha : a ∈ accsL P.acs) (hF : isF own a) (hk : okS (sumAt P a.code at_)) :
    ((sumAt Q a.code at_).1 = 0 ∧ (sumAt Q a.code at_).2 = 0) ∨ worthF own l (sumAt Q a.code at_).1 a.cur at_ = ((sumAt Q a.code at_).2, 0) := by
  obtain ⟨h1, h2⟩ := rv_one h hq hn ha
  have h2 := h2 hF
  have hd0 : (difF own l P at_ a).2 = 0 := Classical.byContradiction fun e => h.good a ha ⟨hF, e⟩
  have hbal := bal_at (R := P) (tells_inst h) ha hk
  have hdd : difF own l P at_ a = difF own l P at_ a := rfl
  unfold difF at hd0 h2
  rw [hbal] at hd0 h2
  simp only [ne_eq, not_true_eq_false, if_false] at hd0 h2
  by_cases hz : (sumAt P a.code at_).1 = 0 ∧ (sumAt P a.code at_).2 = 0
  · rw [if_pos hz] at h2
    exact .inl ⟨by rw [h1]; exact hz.1, by rw [h2, hz.2]; rfl⟩
  · rw [if_neg hz] at hd0 h2
    right
    rw [h1]
    generalize worthF own l (sumAt P a.code at_).1 a.cur at_ = W at hd0 h2
    obtain ⟨W1, We⟩ := W
    simp only at hd0 h2
    by_cases hw : We = 0
    · subst hw
      simp only [not_true_eq_false, if_false] at hd0 h2
      unfold narrowF at hd0 h2
      split at hd0
      · rename_i h3
        rw [if_pos h3] at h2
        rw [h2]; simp only; congr 1; omega
      · cases hd0
    · rw [if_pos hw] at hd0
      exact absurd hd0 hw
theorem rv_again (h : tells own l P at_ gain ps) (hq : laid P Q at_ ps) (hn : (codesA P.acs).Nodup) (hk : ∀ a ∈ accsL P.acs, okS (sumAt P a.code at_)) (hk2 : ∀ a ∈ accsL P.acs, okS (sumAt Q a.code at_)) : revF own l Q at_ gain = ([], 0) := by
  have hdz : ∀ a ∈ accsL P.acs, isF own a → difF own l Q at_ a = (0, 0) := fun a ha hF => by
    have hb := bal_at (R := Q) (tells_inst h) (by rw [hq.acs]; exact ha) (hk2 a ha)
    unfold difF
    rw [hb]
    simp only [ne_eq, not_true_eq_false, if_false]
    rcases rv_worth h hq hn ha hF (hk a ha) with hz | hw
    · rw [if_pos hz]
    · by_cases hz : (sumAt Q a.code at_).1 = 0 ∧ (sumAt Q a.code at_).2 = 0
      · rw [if_pos hz]
      · rw [if_neg hz, hw]
        simp only [not_true_eq_false, if_false, Int.sub_self]
        decide
  have hgood : rvErr own l Q at_ (accsL Q.acs) = 0 := by
    rw [hq.acs]
    refine rv_good fun j hj y hy hb => ?_
    have hz := hdz y (List.mem_of_getElem? hy) hb.1
    exact hb.2 (by rw [hz])
  have hout : rvOut own l Q at_ (accsL Q.acs) = [] := by
    rw [hq.acs]
    unfold rvOut
    refine List.flatMap_eq_nil_iff.2 fun a ha => if_neg fun e => e.2 (by rw [hdz a ha e.1])
  unfold revF
  rw [hq.cur, if_neg (fun e => e h.cur), hq.acs, if_neg (by rw [h.there]; decide), if_neg (fun e => e h.gcur), ← hq.acs, if_neg (fun e => e hgood), if_pos hout]
end
end Go.Proofs.YtheofhegdjjfgaaGreat

namespace Go.Proofs.YtheofhegdjjfgaaGreat
open Go.RowKit
theorem setE_bd {own : ByteArray} {l : List (ByteArray × List (Int × Int))} {n : Int} {c : ByteArray} {at_ nano : Int} (h : setE own l n c at_ nano = 0) : 1 ≤ nano ∧ nano ≤ 1125899906842624 := by
  unfold setE at h
  split at h
  · cases h
  · split at h
    · contradiction
    · split at h
      · cases h
      · rename_i h3; omega
theorem rowsOf_put (l : List (ByteArray × List (Int × Int))) (c d : ByteArray) (r : List (Int × Int)) : rowsOf (putL l c r) d = if c = d then r else rowsOf l d := by
  induction l with
  | nil =>
    unfold putL rowsOf
    rw [List.find?_cons]
    by_cases e : c = d
    · subst e; simp
    · simp [e]
  | cons x l ih =>
    obtain ⟨k, u⟩ := x
    unfold putL
    by_cases hk : k = c
    · subst hk
      rw [if_pos rfl]
      unfold rowsOf
      rw [List.find?_cons, List.find?_cons]
      by_cases e : k = d
      · subst e; simp
      · simp [e]
    · rw [if_neg hk]
      by_cases e : k = d
      · subst e
        have h1 : rowsOf ((k, u) :: putL l c r) k = u := by unfold rowsOf; rw [List.find?_cons]; simp
        have h2 : rowsOf ((k, u) :: l) k = u := by unfold rowsOf; rw [List.find?_cons]; simp
        rw [h1, h2, if_neg (fun h => hk h.symm)]
      · have h1 : rowsOf ((k, u) :: putL l c r) d = rowsOf (putL l c r) d := by unfold rowsOf; rw [List.find?_cons]; simp [e]
        have h2 : rowsOf ((k, u) :: l) d = rowsOf l d := by unfold rowsOf; rw [List.find?_cons]; simp [e]
        rw [h1, h2, ih]
theorem nano_set {own : ByteArray} {l : List (ByteArray × List (Int × Int))} {n : Int} (h : nanoOK l) (c : ByteArray) (at_ nano : Int) : nanoOK (setR own l n c at_ nano).1 := by
  unfold setR
  split
  · rename_i hE
    have hb := setE_bd hE
    intro d x hx
    simp only [rowsOf_put] at hx
    split at hx
    · rcases List.mem_append.1 hx with hx | hx
      · exact h c x hx
      · obtain rfl := List.mem_singleton.1 hx; exact hb
    · exact h d x hx
  · exact h
theorem nano_made (own : ByteArray) (l : List RR) : nanoOK (madeF own l).1 := by
  unfold madeF
  have : ∀ (l : List RR) (st : List (ByteArray × List (Int × Int)) × Int), nanoOK st.1 → nanoOK (l.foldl (stepS own) st).1 := by
    intro l
    induction l with
    | nil => exact fun st h => h
    | cons x l ih => exact fun st h => ih _ (nano_set h _ _ _)
  exact this l _ (fun c x hx => by simp [rowsOf] at hx)
def eur : ByteArray := ⟨#[69, 85, 82]⟩
def one1 : List (ByteArray × List (Int × Int)) := [(eur, [(5, 1100000000)])]
theorem f_set1 : setE usd [] 0 eur 5 1100000000 = 0 := by decide +kernel
theorem f_setR1 : setR usd [] 0 eur 5 1100000000 = (one1, 1) := by decide +kernel
theorem f_set2 : setE usd one1 1 eur 5 1 = 34 := by decide +kernel
theorem f_setR2 : setR usd one1 1 eur 5 1 = (one1, 1) := by decide +kernel
theorem f_get1 : getF usd one1 eur 4 = (0, 28) := by decide +kernel
theorem f_get2 : getF usd one1 eur 9 = (1100000000, 0) := by decide +kernel
theorem f_conv : convF 5 500000000 = (2, 0) := by decide +kernel
set_option maxRecDepth 100000 in
theorem fxfirst_P (w0 : World) : PureC Tryz.prog 13 [] w0 (.bool true) := by
  refine c_enter [] [] noB Tryz.func13 rfl Tryz.ntmps13 trivial rfl (by simp) (by simp) (by simp) ?_
  intro a hS
  refine c_seq (c_region ?_)
  refine L_e hS (e_assign rfl) rfl ?_; clear hS a; intro a hS
  refine L_nil (n_then (c_seq (c_region ?_)))
  refine L_op (s_callN hS (.cons rfl .nil) cf47 rfl (fxNew_P usd _ usd_scale) ?_); clear hS a; (try clear w); intro x12 a w hS
  refine L_e hS (e_move rfl) rfl ?_; clear hS a; intro a hS
  refine L_e hS (e_extract rfl rfl) rfl ?_; clear hS a; intro a hS
  refine L_e hS (e_extract rfl rfl) rfl ?_; clear hS a; intro a hS
  refine L_e hS (e_assign rfl) rfl ?_; clear hS a; intro a hS
  refine L_e hS (e_assign rfl) rfl ?_; clear hS a; intro a hS
  refine L_nil (n_then (c_seq (c_seq (c_region ?_))))
  refine L_e hS (e_move rfl) rfl ?_; clear hS a; intro a hS
  refine L_e hS (e_nil rfl ty_u44) rfl ?_; clear hS a; intro a hS
  refine L_e hS (e_move rfl) rfl ?_; clear hS a; intro a hS
  replace hS := hS.is (t := 17) (c := false) rfl (rfl)
  refine L_ge hS rfl rfl (e_move rfl) rfl ?_; clear hS a; intro a hS
  refine L_go hS rfl rfl (s_callP hS (.cons rfl .nil) cf10 rfl (Num_w 0 _) ?_); clear hS a; (try clear w); intro a w hS
  refine L_ge hS rfl rfl (e_bin rfl rfl rfl) rfl ?_; clear hS a; intro a hS
  refine L_e hS (e_pk rfl rfl) rfl ?_; clear hS a; intro a hS
  refine L_nil (n_then ?_)
  replace hS := hS.is (t := 21) (c := false) rfl (rfl)
  refine c_if_f hS rfl ?_
  refine wp_skip (n_then (c_seq (c_region ?_)))
  refine L_e hS (e_move rfl) rfl ?_; clear hS a; intro a hS
  refine L_op (s_callM hS (.cons rfl (.cons rfl (.cons rfl (.cons rfl .nil)))) cf48 rfl (fxSet_P x12.1 x12.2 usd eur [] 0 5 1100000000 (by decide) _ (hS.get (X := ratesA x12.1 x12.2 usd [] 0 true) (by repeat constructor))) (fun x => (by repeat constructor)) rfl ?_); clear hS a; (try clear w); intro x23 a w hS
  obtain ⟨⟨es, n⟩, hes⟩ := x23
  have he1 := hes.trans f_setR1
  have hv : vsT es = one1 := congrArg Prod.fst he1
  have hn1 : n = 1 := congrArg Prod.snd he1
  subst hn1
  have e23 : setE usd (vsT []) 0 eur 5 1100000000 = 0 := f_set1
  rw [e23] at hS
  refine L_e hS (e_assign rfl) rfl ?_; clear hS a; intro a hS
  refine L_nil (n_then (c_seq (c_region ?_)))
  refine L_e hS (e_move rfl) rfl ?_; clear hS a; intro a hS
  refine L_op (s_callM hS (.cons rfl (.cons rfl (.cons rfl (.cons rfl .nil)))) cf48 rfl (fxSet_P x12.1 x12.2 usd eur es 1 5 1 (by decide) _ (hS.get (X := ratesA x12.1 x12.2 usd es 1 true) (by repeat constructor))) (fun x => (by repeat constructor)) rfl ?_); clear hS a; (try clear w); intro x25 a w hS
  obtain ⟨⟨es2, n2⟩, hes2⟩ := x25
  have he2 := hes2.trans ((congrArg (fun l => setR usd l 1 eur 5 1) hv).trans f_setR2)
  have hv2 : vsT es2 = one1 := congrArg Prod.fst he2
  have hn2 : n2 = 1 := congrArg Prod.snd he2
  subst hn2
  have e25 : setE usd (vsT es) 1 eur 5 1 = 34 := (congrArg (fun l => setE usd l 1 eur 5 1) hv).trans f_set2
  rw [e25] at hS
  refine L_e hS (e_assign rfl) rfl ?_; clear hS a; intro a hS
  refine L_nil (n_then (c_seq (c_region ?_)))
  refine L_e hS (e_move rfl) rfl ?_; clear hS a; intro a hS
  refine L_op (s_callP hS (.cons rfl (.cons rfl (.cons rfl .nil))) cf49 rfl (fxGet_P x12.1 x12.2 usd eur es2 1 4 _ (hS.get (X := ratesA x12.1 x12.2 usd es2 1 true) (by repeat constructor))) ?_); clear hS a; (try clear w); intro a w hS
  rw [hv2, f_get1] at hS
  refine L_e hS (e_move rfl) rfl ?_; clear hS a; intro a hS
  refine L_e hS (e_extract rfl rfl) rfl ?_; clear hS a; intro a hS
  refine L_e hS (e_extract rfl rfl) rfl ?_; clear hS a; intro a hS
  refine L_e hS (e_assign rfl) rfl ?_; clear hS a; intro a hS
  refine L_e hS (e_assign rfl) rfl ?_; clear hS a; intro a hS
  refine L_nil (n_then (c_seq (c_region ?_)))
  refine L_e hS (e_move rfl) rfl ?_; clear hS a; intro a hS
  refine L_op (s_callP hS (.cons rfl (.cons rfl (.cons rfl .nil))) cf49 rfl (fxGet_P x12.1 x12.2 usd eur es2 1 9 _ (hS.get (X := ratesA x12.1 x12.2 usd es2 1 true) (by repeat constructor))) ?_); clear hS a; (try clear w); intro a w hS
  rw [hv2, f_get2] at hS
  refine L_e hS (e_move rfl) rfl ?_; clear hS a; intro a hS
  refine L_e hS (e_extract rfl rfl) rfl ?_; clear hS a; intro a hS
  refine L_e hS (e_extract rfl rfl) rfl ?_; clear hS a; intro a hS
  refine L_e hS (e_assign rfl) rfl ?_; clear hS a; intro a hS
  refine L_e hS (e_assign rfl) rfl ?_; clear hS a; intro a hS
  refine L_nil (n_then (c_seq (c_region ?_)))
  refine L_op (s_callP hS (.cons rfl (.cons rfl .nil)) cf50 rfl (fxConvert_P 5 500000000 (by decide) (by decide) _) ?_); clear hS a; (try clear w); intro a w hS
  rw [f_conv] at hS
  refine L_e hS (e_move rfl) rfl ?_; clear hS a; intro a hS
  refine L_e hS (e_extract rfl rfl) rfl ?_; clear hS a; intro a hS
  refine L_e hS (e_extract rfl rfl) rfl ?_; clear hS a; intro a hS
  refine L_e hS (e_assign rfl) rfl ?_; clear hS a; intro a hS
  refine L_e hS (e_assign rfl) rfl ?_; clear hS a; intro a hS
  refine L_nil (n_then (c_seq (c_region ?_)))
  refine L_e hS (e_move rfl) rfl ?_; clear hS a; intro a hS
  refine L_op (s_callP hS (.cons rfl .nil) cf10 rfl (Num_w 0 _) ?_); clear hS a; (try clear w); intro a w hS
  refine L_e hS (e_bin rfl rfl rfl) rfl ?_; clear hS a; intro a hS
  refine L_e hS (e_move rfl) rfl ?_; clear hS a; intro a hS
  replace hS := hS.is (t := 43) (c := true) rfl (rfl)
  refine L_ge hS rfl rfl (e_move rfl) rfl ?_; clear hS a; intro a hS
  refine L_go hS rfl rfl (s_callP hS (.cons rfl .nil) cf10 rfl (Num_w 34 _) ?_); clear hS a; (try clear w); intro a w hS
  refine L_ge hS rfl rfl (e_bin rfl rfl rfl) rfl ?_; clear hS a; intro a hS
  refine L_e hS (e_pk rfl rfl) rfl ?_; clear hS a; intro a hS
  refine L_e hS (e_move rfl) rfl ?_; clear hS a; intro a hS
  replace hS := hS.is (t := 48) (c := true) rfl (rfl)
  refine L_ge hS rfl rfl (e_move rfl) rfl ?_; clear hS a; intro a hS
  refine L_go hS rfl rfl (s_callP hS (.cons rfl .nil) cf10 rfl (Num_w 28 _) ?_); clear hS a; (try clear w); intro a w hS
  refine L_ge hS rfl rfl (e_bin rfl rfl rfl) rfl ?_; clear hS a; intro a hS
  refine L_e hS (e_pk rfl rfl) rfl ?_; clear hS a; intro a hS
  refine L_e hS (e_move rfl) rfl ?_; clear hS a; intro a hS
  replace hS := hS.is (t := 53) (c := true) rfl (rfl)
  refine L_ge hS rfl rfl (e_move rfl) rfl ?_; clear hS a; intro a hS
  refine L_ge hS rfl rfl (e_bin rfl rfl rfl) rfl ?_; clear hS a; intro a hS
  refine L_e hS (e_pk rfl rfl) rfl ?_; clear hS a; intro a hS
  refine L_e hS (e_move rfl) rfl ?_; clear hS a; intro a hS
  replace hS := hS.is (t := 57) (c := true) rfl (rfl)
  refine L_ge hS rfl rfl (e_move rfl) rfl ?_; clear hS a; intro a hS
  refine L_go hS rfl rfl (s_callP hS (.cons rfl .nil) cf10 rfl (Num_w 0 _) ?_); clear hS a; (try clear w); intro a w hS
  refine L_ge hS rfl rfl (e_bin rfl rfl rfl) rfl ?_; clear hS a; intro a hS
  refine L_e hS (e_pk rfl rfl) rfl ?_; clear hS a; intro a hS
  refine L_e hS (e_move rfl) rfl ?_; clear hS a; intro a hS
  replace hS := hS.is (t := 62) (c := true) rfl (rfl)
  refine L_ge hS rfl rfl (e_move rfl) rfl ?_; clear hS a; intro a hS
  refine L_ge hS rfl rfl (e_bin rfl rfl rfl) rfl ?_; clear hS a; intro a hS
  refine L_e hS (e_pk rfl rfl) rfl ?_; clear hS a; intro a hS
  refine L_e hS (e_move rfl) rfl ?_; clear hS a; intro a hS
  replace hS := hS.is (t := 66) (c := true) rfl (rfl)
  refine L_ge hS rfl rfl (e_move rfl) rfl ?_; clear hS a; intro a hS
  refine L_go hS rfl rfl (s_callP hS (.cons rfl .nil) cf10 rfl (Num_w 0 _) ?_); clear hS a; (try clear w); intro a w hS
  refine L_ge hS rfl rfl (e_bin rfl rfl rfl) rfl ?_; clear hS a; intro a hS
  refine L_e hS (e_pk rfl rfl) rfl ?_; clear hS a; intro a hS
  refine L_e hS (e_assign rfl) rfl ?_; clear hS a; intro a hS
  refine L_nil (n_then (wp_ret ?_))
  refine c_ret1 hS Tryz.results13 (.tmp rfl) ?_
  exact ⟨rfl, hS.chg⟩
end Go.Proofs.YtheofhegdjjfgaaGreat

namespace Go.Proofs.YtheofhegdjjfgaaGreat.Open
set_option maxRecDepth 100000
open Go.ChangeShapes Go.WideShapes Go.Deep
section
variable {H : Type} {enc : TypeId × Value → H} {P : Program} {w : World} {base : Nat} {spare : Nat → Bool} {held : Bool}
theorem open_slice_fields {t e : TypeId} {fs : Array Field} {fuel : Nat} {cs : List Value} {x : DataW H × List MemPlace} (ht : P.underlying t = some (.slice e)) (he : P.underlying e = some (.struct fs))
    (hone : oneCellFields P fs = true) (hC : P.cellsOf e = fs.size) (h : DataW.trod enc P w base spare held fuel t cs = some x) :
    (cs = [.slice none 0 0] ∧ x = (.nil, [])) ∨
    ∃ (a : Addr) (len cap m : Nat) (D : Nat → DataW H) (Pl : Nat → List MemPlace), cs = [.slice (some a) len cap] ∧ base ≤ a.block ∧ len ≤ cap ∧ cap ≤ maxLen ∧ m = (if spare a.block then cap else len) ∧
      x = (.slice ((List.range len).map D) ((List.range (m - len)).map fun j => D (len + j)), MemPlace.row a (m * fs.size) ++ (List.range m).flatMap Pl) ∧
      ∀ i, i < m → ∃ (ys : List (DataW H × List MemPlace)) (n : Nat), D i = .agg (ys.map (·.1)) ∧ Pl i = ys.flatMap (·.2) ∧ ys.length = fs.size ∧
        ∀ (j : Nat) (f : Field), fs[j]? = some f → ∃ (v : Value) (y : DataW H × List MemPlace), w.cell? (a.add (i * fs.size + j)) = some v ∧ ys[j]? = some y ∧ DataW.trod enc P w base spare held n f.type [v] = some y := by
  rcases open_slice ht h with h0 | ⟨a, len, cap, m, n, D, Pl, hcs, hb, hl, hm, hmm, hx, hi⟩
  · exact .inl h0
  · refine .inr ⟨a, len, cap, m, D, Pl, hcs, hb, hl, hm, hmm, by rw [hC] at hx; exact hx, fun i him => ?_⟩
    obtain ⟨cs', hc, ht'⟩ := hi i him
    rw [hC] at hc
    obtain ⟨ys, n', hn', hy, hlen, hyl, hf⟩ := DataW.trod_struct he ht'
    obtain ⟨_, hcl, hat⟩ := World.cells?_some hc
    simp only [Prod.mk.injEq] at hy
    refine ⟨ys, n', hy.1, hy.2, hyl, fun j f hj => ?_⟩
    obtain ⟨ho, hk⟩ := hone_of hone j f hj
    have hjl : j < fs.size := (Array.getElem?_eq_some_iff.1 hj).1
    have hcell := hat j hjl
    have hv : cs'[j]? = some (cs'[j]'(by omega)) := List.getElem?_eq_getElem (by omega)
    have h1 := hf j f hj
    rw [ho, hk] at h1
    have hone' : (cs'.drop j).take 1 = [cs'[j]'(by omega)] := by
      rw [List.drop_eq_getElem_cons (by omega)]
      rfl
    rw [hone'] at h1
    have hys : ys[j]? = some (ys[j]'(by omega)) := List.getElem?_eq_getElem (by omega)
    refine ⟨_, _, ?_, hys, h1.trans hys⟩
    rw [← Go.Deep.add_add, hcell, hv]
end
section
variable {H : Type} {enc : TypeId × Value → H}
theorem weights_all {P : Program} {e : TypeId} {d : DataW H} {n : Nat} (hn : n ∈ d.weights P e) : ∀ {l : List (DataW H)}, d ∈ l → n ∈ DataW.weightsAll P e l
  | x :: r, h => by
    simp only [DataW.weightsAll, List.mem_append]
    rcases List.mem_cons.1 h with rfl | h
    · exact .inl hn
    · exact .inr (weights_all hn h)
theorem shape_lt {w : World} {b : Nat} {x : TypeId × Nat} (h : w.shape? b = some x) : b < w.heap.size := by
  unfold World.shape? at h
  by_cases hb : b < w.heap.size
  · exact hb
  · rw [Array.getElem?_eq_none (by omega)] at h; cases h
theorem add_spot {a : Addr} (h : a.spot = none) (n : Nat) : a.add n = ⟨a.block, a.off + n, none⟩ := by
  unfold Addr.add
  split
  · next h0 => subst h0; cases a; simp_all
  · rfl
theorem slice_has {W : World} {base : Nat} {t e : TypeId} {a : Addr} {len cap : Nat} (hu : Tryz.prog.underlying t = some (.slice e)) (h : Value.okWide Tryz.prog W .any base t (.slice (some a) len cap)) : a.spot = none ∧ a.block < W.heap.size := by
  unfold Value.okWide at h
  rw [hu] at h
  simp only at h
  unfold Cell.okWide at h
  rw [hu] at h
  simp only at h
  unfold Cell.ok at h
  rw [hu] at h
  simp only at h
  obtain ⟨_, _, _, hs, row, cells, hsh, _⟩ := h
  exact ⟨hs, shape_lt hsh⟩
end
end Go.Proofs.YtheofhegdjjfgaaGreat.Open

namespace Go.Proofs.YtheofhegdjjfgaaGreat.Open
set_option maxRecDepth 100000
open Go.ChangeShapes Go.WideShapes Go.Deep
section
variable {H : Type} {enc : TypeId × Value → H}
theorem bytesSet : Tryz.prog.bytesOf 117 = 32 := by kernel_rfl
theorem open_sets {W : World} {base : Nat} {v : Value} {d : DataW H} {pl : List MemPlace} (hval : Value.okWide Tryz.prog W .any base 41 v) (h : DataW.Trod enc Tryz.prog W 0 (fun _ => true) true 41 v d pl) (hw : ∀ n ∈ d.weights Tryz.prog 41, n ≤ reachBytes) :
    ∃ (p : Option (Nat × Nat)) (l : List RR) (c : Nat), v = sliceV p l.length c ∧ (p = none → c = 0) ∧ (∀ x ∈ l, rrFits x) ∧ l.length ≤ 4611686018427387904 ∧ RowP p 3 (l.map encR) W ∧ ∀ r, p = some r → r.1 < W.heap.size := by
  obtain ⟨fuel, hf⟩ := h
  have hu := Tryz.underlying41
  have hsl : ∃ a len cap, v = .slice a len cap := okWide_slice hu hval
  obtain ⟨a0, len0, cap0, rfl⟩ := hsl
  rcases open_slice_fields hu Tryz.underlying117 (by kernel_rfl) (by kernel_rfl) hf with ⟨hc, _⟩ | ⟨a, len, cap, m, D, Pl, hc, _, hl, hm, hmm, hx, hi⟩
  · simp only [Value.cells, List.cons.injEq, and_true] at hc
    rw [hc]
    exact ⟨none, [], 0, rfl, fun _ => rfl, by simp, by simp, rfl, by simp⟩
  · simp only [Value.cells, List.cons.injEq, and_true] at hc
    rw [hc] at hval ⊢
    obtain ⟨hsp, hlt⟩ := slice_has hu hval
    simp only [Prod.mk.injEq] at hx
    simp only [if_true] at hmm
    rw [hmm] at hx hi
    have each : ∀ i, i < len → ∃ x : RR, rrFits x ∧ ∀ j u, (encR x)[j]? = some u → W.cell? (a.add (i * 3 + j)) = some u := by
      intro i hil
      obtain ⟨ys, n, hD, _, hys, hfl⟩ := hi i (by omega)
      obtain ⟨v0, y0, c0, g0, t0⟩ := hfl 0 _ rfl
      obtain ⟨v1, y1, c1, g1, t1⟩ := hfl 1 _ rfl
      obtain ⟨v2, y2, c2, g2, t2⟩ := hfl 2 _ rfl
      obtain ⟨s, e0, z0, w0⟩ := DataW.trod_string Tryz.underlying9 t0
      obtain ⟨n1, e1, z1, w1⟩ := DataW.trod_int Tryz.underlying3 t1
      obtain ⟨n2, e2, z2, w2⟩ := DataW.trod_int Tryz.underlying3 t2
      simp only [List.cons.injEq, and_true] at e0 e1 e2
      subst e0 e1 e2
      have hs : s.size ≤ reachBytes := by
        refine hw _ ?_
        rw [hx.1]
        have h1 : s.size ∈ (D i).weights Tryz.prog 117 := by
          rw [hD]
          simp only [DataW.weights, Tryz.underlying117]
          refine DataW.weights_mem_each (j := 0) rfl (d := .lit (.string s.data.toList)) (by rw [List.getElem?_map, g0, z0]; rfl) _ ?_
          simp only [DataW.weights, List.mem_singleton]
          rfl
        have h2 := weights_all h1 (l := (List.range len).map D) (List.mem_map.2 ⟨i, List.mem_range.2 hil, rfl⟩)
        simp only [DataW.weights, hu, List.mem_cons, List.mem_append]
        exact .inr (.inl h2)
      have b1 := bounds_i64 w1
      have b2 := bounds_i64 w2
      refine ⟨⟨s, n1, n2⟩, ⟨Nat.le_trans hs (by decide), b1, b2⟩, fun j u hj => ?_⟩
      match j, hj with
      | 0, hj => cases hj; exact c0
      | 1, hj => cases hj; exact c1
      | 2, hj => cases hj; exact c2
      | (k + 3), hj => simp [encR] at hj
    have hlen : (len + (cap - len)) * 32 ≤ reachBytes := by
      have := hw ((len + (cap - len)) * Tryz.prog.bytesOf 117) (by rw [hx.1]; simp [DataW.weights, hu])
      rwa [bytesSet] at this
    simp only [reachBytes] at hlen
    haveI : Inhabited RR := ⟨⟨ByteArray.empty, 0, 0⟩⟩
    obtain ⟨f, hfn⟩ := choose_lt each
    refine ⟨some (a.block, a.off), (List.range len).map f, cap, ?_, by simp, ?_, by simp only [List.length_map, List.length_range]; omega, ?_, ?_⟩
    · unfold sliceV
      cases a
      simp only at hsp
      subst hsp
      simp
    · intro x hx
      obtain ⟨i, hi', rfl⟩ := List.mem_map.1 hx
      exact (hfn i (List.mem_range.1 hi')).1
    · intro i x hx j u hj
      simp only [List.getElem?_map, Option.map_eq_some_iff] at hx
      obtain ⟨y, ⟨k, hk, rfl⟩, rfl⟩ := hx
      obtain ⟨hk1, hk2⟩ := List.getElem?_eq_some_iff.1 hk
      simp only [List.length_range] at hk1
      simp only [List.getElem_range] at hk2
      subst hk2
      have := (hfn i hk1).2 j u hj
      rw [add_spot hsp] at this
      rw [← this]
      simp only [Nat.add_assoc]
    · rintro r hr
      cases hr
      exact hlt
end
end Go.Proofs.YtheofhegdjjfgaaGreat.Open

namespace Go.Proofs.YtheofhegdjjfgaaGreat
open Go.RowKit
set_option maxHeartbeats 2000000 in
set_option maxRecDepth 100000 in
theorem lSums_P (B : LB) (s : LS) (at_ : Int) (hacs : s.acs.length ≤ 1000) (hfl : fitL (pl s)) (hz : zeros (pl s) at_) (w0 : World) (h : ledφ B s w0) :
    PureC Tryz.prog 31 [.pointer (some ⟨B.lb, 0, none⟩), .int .i64 at_] w0 (.bool true) := by
  have hal := accs_len s.acs
  have htl : (trialF (pl s) at_).length = (accsL s.acs).length := by unfold trialF; rw [List.length_map]; rfl
  have bu : ∀ c i, (sumA (unitsOf (pl s) at_ c) ((accsL s.acs).take i)).natAbs < 100000000000000000000000000000000000000000 := fun c i => by
    have h1 := sumA_bd (f := unitsOf (pl s) at_ c) (l := (accsL s.acs).take i) (fun a _ => units_bd (pl s) at_ c a)
    have h2 : ((accsL s.acs).take i).length ≤ 1000 := by rw [List.length_take]; omega
    have h3 := Nat.mul_le_mul_right 4611686018427387904 h2
    omega
  have bw : ∀ c i, (sumA (worthOf (pl s) at_ c) ((accsL s.acs).take i)).natAbs < 100000000000000000000000000000000000000000 := fun c i => by
    have h1 := sumA_bd (f := worthOf (pl s) at_ c) (l := (accsL s.acs).take i) (fun a _ => worth_bd (pl s) at_ c a)
    have h2 : ((accsL s.acs).take i).length ≤ 1000 := by rw [List.length_take]; omega
    have h3 := Nat.mul_le_mul_right 4611686018427387904 h2
    omega
  have ba : ∀ k, (sumC (fun c => sumA (worthOf (pl s) at_ c) (accsL s.acs)) (cur6.take k)).natAbs < 1000000000000000000000000000000000000000000 := by
    have hw : ∀ c, (sumA (worthOf (pl s) at_ c) (accsL s.acs)).natAbs < 100000000000000000000000000000000000000000 := fun c => by
      have := bw c (accsL s.acs).length; rwa [List.take_length] at this
    intro k
    have a0 := hw cur6[0]; have a1 := hw cur6[1]; have a2 := hw cur6[2]; have a3 := hw cur6[3]; have a4 := hw cur6[4]; have a5 := hw cur6[5]
    match k with
    | 0 => simp [sumC]
    | 1 => simp only [cur6, List.take, sumC]; simp only [cur6, List.getElem_cons_zero] at a0; omega
    | 2 => simp only [cur6, List.take, sumC]; simp only [cur6, List.getElem_cons_zero, List.getElem_cons_succ] at a0 a1; omega
    | 3 => simp only [cur6, List.take, sumC]; simp only [cur6, List.getElem_cons_zero, List.getElem_cons_succ] at a0 a1 a2; omega
    | 4 => simp only [cur6, List.take, sumC]; simp only [cur6, List.getElem_cons_zero, List.getElem_cons_succ] at a0 a1 a2 a3; omega
    | 5 => simp only [cur6, List.take, sumC]; simp only [cur6, List.getElem_cons_zero, List.getElem_cons_succ] at a0 a1 a2 a3 a4; omega
    | (j + 6) =>
      rw [List.take_of_length_le (by show 6 ≤ _; omega)]
      simp only [cur6, sumC]; simp only [cur6, List.getElem_cons_zero, List.getElem_cons_succ] at a0 a1 a2 a3 a4 a5; omega
  refine c_enter [(0, .pointer (some ⟨B.lb, 0, none⟩)), (1, .int .i64 at_)] [ledA B s false] noB Tryz.func31 rfl Tryz.ntmps31 ⟨rfl, rfl, trivial⟩ rfl (okC (led_ok false h) okN) dis1 (mineC (by rfl) mineN) ?_
  intro a hS
  refine c_seq (c_region ?_)
  refine L_e hS (e_assign rfl) rfl ?_; clear hS a; intro a hS
  refine L_nil (n_then (c_seq (c_region ?_)))
  refine L_e hS (e_move rfl) rfl ?_; clear hS a; intro a hS
  refine L_e hS (e_move rfl) rfl ?_; clear hS a; intro a hS
  refine L_op (s_callN hS (.cons rfl (.cons rfl .nil)) cf26 rfl (lTrial_P B s at_ hacs hfl _ (hS.get (X := ledA B s false) (by repeat constructor))) ?_); clear hS a; (try clear w); intro x14 a w hS
  refine L_e hS (e_assign rfl) rfl ?_; clear hS a; intro a hS
  refine L_nil (n_then (c_seq (c_region ?_)))
  refine L_e hS (e_move rfl) rfl ?_; clear hS a; intro a hS
  refine L_op (s_callN hS (.cons rfl .nil) cf27 rfl (lAccs_P B s hacs _ (hS.get (X := ledA B s false) (by repeat constructor))) ?_); clear hS a; (try clear w); intro x16 a w hS
  obtain ⟨q14, c14, rfl⟩ := own_slice (hS.get (X := ownA 71 3 x14 (trialF (pl s) at_).length ((trialF (pl s) at_).flatMap encBl)) (by repeat constructor))
  obtain ⟨q16, c16, rfl⟩ := own_slice (hS.get (X := ownA 35 4 x16 (accsL s.acs).length ((accsL s.acs).flatMap encAc)) (by repeat constructor))
  rw [htl] at hS
  refine L_e hS (e_assign rfl) rfl ?_; clear hS a; intro a hS
  refine L_nil (n_then (c_seq (c_region ?_)))
  refine L_e hS (e_build ty_z139 ty_pl139 .nil) rfl ?_; clear hS a; intro a hS
  refine L_op (s_alloc hS ty_z139 rfl ?_); clear hS a; (try clear w); intro a w b7 hS
  refine L_op (s_storeA hS rfl rfl ty_sz139 (by repeat constructor) (by rfl) (by rfl) (by rfl) ?_); clear hS; (try clear w); intro w hS
  refine L_nil (n_then (c_seq (c_region ?_)))
  refine L_op (s_bslice hS ty_sl154 ty_sz9 ty_z9 rfl rfl rfl rfl (.one rfl rfl rfl (.one rfl rfl rfl (.one rfl rfl rfl (.one rfl rfl rfl (.one rfl rfl rfl (.one rfl rfl rfl .nil)))))) rfl ?_); clear hS a; (try clear w); intro a w b18 hS
  refine L_e hS (e_assign rfl) rfl ?_; clear hS a; intro a hS
  refine L_nil (n_then (c_seq (c_seq (c_region ?_))))
  refine L_e hS (e_assign rfl) rfl ?_; clear hS a; intro a hS
  refine L_nil (n_then (wp_block ?_))
  replace hS := hS.swap (X := .blk b7 [.bool false, .slice none 0 0] 139) (Y := .blk b7 [.bool (decide ((0 : Int) < 0)), sliceV none (dgs (0 : Int).natAbs).length 0] 139) (by repeat constructor) (by rw [dg_len0]; exact hS.ok (.blk b7 [.bool false, .slice none 0 0] 139) (by repeat constructor)) (fun _ hb => hb) rfl
  replace hS := (hS.more (Y := dgP 0 none) dgP0 (fun b hb => by obtain ⟨off, e⟩ := hb; cases e))
  replace hS := hS.swap (X := .blk b18 [.string ⟨#[67, 72, 70]⟩, .string ⟨#[69, 85, 82]⟩, .string ⟨#[71, 66, 80]⟩, .string ⟨#[74, 80, 89]⟩, .string ⟨#[75, 87, 68]⟩, .string ⟨#[85, 83, 68]⟩] 9) (Y := .blk b18 (cur6.flatMap fun x => [.string x]) 9) (by repeat constructor) (hS.ok (.blk b18 [.string ⟨#[67, 72, 70]⟩, .string ⟨#[69, 85, 82]⟩, .string ⟨#[71, 66, 80]⟩, .string ⟨#[74, 80, 89]⟩, .string ⟨#[75, 87, 68]⟩, .string ⟨#[85, 83, 68]⟩] 9) (by repeat constructor)) (fun _ hb => hb) rfl
  refine c_loop (γ := Nat) (fun k a w => ∃ (p2 : Option (Nat × Nat)) (c2 : Nat), St 79 noB w0 a w [(9, .int .i64 (k : Int)), (8, .slice (some ⟨b18, 0, none⟩) 6 6), (7, .pointer (some ⟨b7, 0, none⟩)), (6, .slice q16 (accsL s.acs).length c16), (5, .slice q14 (accsL s.acs).length c14)] [.blk b7 [.bool (decide (sumC (fun c => sumA (worthOf (pl s) at_ c) (accsL s.acs)) (cur6.take k) < 0)), sliceV p2 (dgs (sumC (fun c => sumA (worthOf (pl s) at_ c) (accsL s.acs)) (cur6.take k)).natAbs).length c2] 139, dgP (sumC (fun c => sumA (worthOf (pl s) at_ c) (accsL s.acs)) (cur6.take k)) p2, .blk b18 (cur6.flatMap fun x => [.string x]) 9, ownA 35 4 (.slice q16 (accsL s.acs).length c16) (accsL s.acs).length ((accsL s.acs).flatMap encAc), ownA 71 3 (.slice q14 (accsL s.acs).length c14) (accsL s.acs).length ((trialF (pl s) at_).flatMap encBl)] ∧ k ≤ 6) (fun k => 6 - k) 0 ⟨none, 0, (hS.slots (by repeat (first | exact trivial | refine ⟨rfl, ?_⟩))).pick (by repeat (first | exact Pick.nil | (refine Pick.cons (by repeat (first | exact Rem.head | apply Rem.tail)) ?_))), Nat.zero_le _⟩ ?_
  clear hS a; (try clear w); intro k a w hI
  obtain ⟨p2, c2, hS, hk⟩ := hI
  refine c_seq (c_seq (c_region ?_))
  refine L_e hS (e_move rfl) rfl ?_; clear hS a; intro a hS
  refine L_e hS (e_move rfl) rfl ?_; clear hS a; intro a hS
  refine L_e hS (e_len rfl rfl ty_sl154) rfl ?_; clear hS a; intro a hS
  refine L_e hS (e_bin rfl rfl rfl) rfl ?_; clear hS a; intro a hS
  refine L_nil (n_then ?_)
  first | refine c_ifD hS rfl (fun hc22 => ?_) (fun hc22 => ?_) | refine c_if hS rfl (fun hc22 => ?_) (fun hc22 => ?_)
  ·
    obtain ⟨c, hc⟩ : ∃ c, cur6[k]? = some c := ⟨cur6[k]'(by show k < 6; omega), List.getElem?_eq_getElem (by show k < 6; omega)⟩
    have hck := sumC_take (fun c => sumA (worthOf (pl s) at_ c) (accsL s.acs)) hc
    generalize hA : sumC (fun c => sumA (worthOf (pl s) at_ c) (accsL s.acs)) (cur6.take k) = A at hS hck
    have bA := ba k
    rw [hA] at bA
    refine wp_skip (n_then (c_seq (wp_block (c_seq (c_region ?_)))))
    refine L_e hS (e_build ty_z139 ty_pl139 .nil) rfl ?_; clear hS a; intro a hS
    refine L_op (s_alloc hS ty_z139 rfl ?_); clear hS a; (try clear w); intro a w b10 hS
    refine L_op (s_storeA hS rfl rfl ty_sz139 (by repeat constructor) (by rfl) (by rfl) (by rfl) ?_); clear hS; (try clear w); intro w hS
    refine L_nil (n_then (c_seq (c_seq (c_region ?_))))
    refine L_e hS (e_assign rfl) rfl ?_; clear hS a; intro a hS
    refine L_nil (n_then (wp_block ?_))
    replace hS := hS.swap (X := .blk b10 [.bool false, .slice none 0 0] 139) (Y := .blk b10 [.bool (decide ((0 : Int) < 0)), sliceV none (dgs (0 : Int).natAbs).length 0] 139) (by repeat constructor) (by rw [dg_len0]; exact hS.ok (.blk b10 [.bool false, .slice none 0 0] 139) (by repeat constructor)) (fun _ hb => hb) rfl
    replace hS := (hS.more (Y := dgP 0 none) dgP0 (fun b hb => by obtain ⟨off, e⟩ := hb; cases e))
    refine c_loop (γ := Nat) (fun i a w => ∃ (p1 p2 : Option (Nat × Nat)) (c1 c2 : Nat), St 79 noB w0 a w [(11, .int .i64 (i : Int)), (10, .pointer (some ⟨b10, 0, none⟩)), (9, .int .i64 (k : Int)), (8, .slice (some ⟨b18, 0, none⟩) 6 6), (7, .pointer (some ⟨b7, 0, none⟩)), (6, .slice q16 (accsL s.acs).length c16), (5, .slice q14 (accsL s.acs).length c14)] [.blk b10 [.bool (decide (sumA (unitsOf (pl s) at_ c) ((accsL s.acs).take i) < 0)), sliceV p1 (dgs (sumA (unitsOf (pl s) at_ c) ((accsL s.acs).take i)).natAbs).length c1] 139, dgP (sumA (unitsOf (pl s) at_ c) ((accsL s.acs).take i)) p1, .blk b7 [.bool (decide (A + sumA (worthOf (pl s) at_ c) ((accsL s.acs).take i) < 0)), sliceV p2 (dgs (A + sumA (worthOf (pl s) at_ c) ((accsL s.acs).take i)).natAbs).length c2] 139, dgP (A + sumA (worthOf (pl s) at_ c) ((accsL s.acs).take i)) p2, .blk b18 (cur6.flatMap fun x => [.string x]) 9, ownA 35 4 (.slice q16 (accsL s.acs).length c16) (accsL s.acs).length ((accsL s.acs).flatMap encAc), ownA 71 3 (.slice q14 (accsL s.acs).length c14) (accsL s.acs).length ((trialF (pl s) at_).flatMap encBl)] ∧ i ≤ (accsL s.acs).length) (fun i => (accsL s.acs).length - i) 0 ⟨none, p2, 0, c2, by rw [show sumA (worthOf (pl s) at_ c) ((accsL s.acs).take 0) = 0 from rfl, Int.add_zero]; exact (hS.slots (by repeat (first | exact trivial | refine ⟨rfl, ?_⟩))).pick (by repeat (first | exact Pick.nil | (refine Pick.cons (by repeat (first | exact Rem.head | apply Rem.tail)) ?_))), Nat.zero_le _⟩ ?_
    clear hS a; (try clear w); intro i a w hI
    obtain ⟨p1, p2, c1, c2, hS, hi⟩ := hI
    refine c_seq (c_seq (c_region ?_))
    refine L_e hS (e_move rfl) rfl ?_; clear hS a; intro a hS
    refine L_e hS (e_move rfl) rfl ?_; clear hS a; intro a hS
    refine L_e hS (e_len rfl rfl ty_sl68) rfl ?_; clear hS a; intro a hS
    refine L_e hS (e_bin rfl rfl rfl) rfl ?_; clear hS a; intro a hS
    refine L_e hS (e_move rfl) rfl ?_; clear hS a; intro a hS
    refine L_merge 5 35 (.bool (decide (i < (accsL s.acs).length))) hS ?_ ?_
    · intro hcM35
      (first | refine g_splitD (t := 30) hS rfl ?_ ?_ | refine g_split (t := 30) hS rfl ?_ ?_) <;> (clear hS; intro hg30 hS)
      ·
        refine L_ge hS rfl rfl (e_move rfl) rfl ?_; clear hS a; intro a hS
        refine L_ge hS rfl rfl (e_move rfl) rfl ?_; clear hS a; intro a hS
        refine L_ge hS rfl rfl (e_len rfl rfl ty_sl48) rfl ?_; clear hS a; intro a hS
        refine L_ge hS rfl rfl (e_bin rfl rfl rfl) rfl ?_; clear hS a; intro a hS
        refine L_e hS (e_pk rfl rfl) rfl ?_; clear hS a; intro a hS
        exact hcM35 _ _ (hS.ends 6 35 30 rfl (congrArg Value.bool (by rw [decide_eq_decide]; omega)) rfl rfl (by first | exact congrArg Value.bool (decide_eq_true hg30).symm | exact congrArg Value.bool hg30.symm | simp [hg30]) rfl)
      refine L_skip_t hS rfl rfl rfl ?_; clear hS a; intro a hS
      refine L_skip_t hS rfl rfl rfl ?_; clear hS a; intro a hS
      refine L_skip_t hS rfl rfl rfl ?_; clear hS a; intro a hS
      refine L_skip_t hS rfl rfl rfl ?_; clear hS a; intro a hS
      refine L_e hS (e_pk rfl rfl) rfl ?_; clear hS a; intro a hS
      exact hcM35 _ _ (hS.ends 6 35 30 rfl (congrArg Value.bool (by exact (decide_eq_false (by omega)).symm)) rfl rfl (by first | exact congrArg Value.bool (decide_eq_false hg30).symm | exact congrArg Value.bool hg30.symm | simp [hg30]) rfl)
    · clear hS a; (try clear w); intro a w hS
      simp only [List.drop_succ_cons, List.drop_zero]
      refine L_nil (n_then ?_)
      first | refine c_ifD hS rfl (fun hc35 => ?_) (fun hc35 => ?_) | refine c_if hS rfl (fun hc35 => ?_) (fun hc35 => ?_)
      ·
        have hil : i < (accsL s.acs).length := hc35
        obtain ⟨x, hx⟩ : ∃ x, (accsL s.acs)[i]? = some x := ⟨(accsL s.acs)[i], List.getElem?_eq_getElem hil⟩
        have hxt : (trialF (pl s) at_)[i]? = some (x.code, valT (pl s) at_ x) := by
          unfold trialF
          rw [List.getElem?_map, show (accsL (pl s).acs)[i]? = some x from hx]; rfl
        obtain ⟨g6, rfl⟩ : ∃ g, q16 = some ⟨g, 0, none⟩ := own_at (hS.get (X := ownA 35 4 (.slice q16 (accsL s.acs).length c16) (accsL s.acs).length ((accsL s.acs).flatMap encAc)) (by repeat constructor)) (by omega)
        obtain ⟨g5, rfl⟩ : ∃ g, q14 = some ⟨g, 0, none⟩ := own_at (hS.get (X := ownA 71 3 (.slice q14 (accsL s.acs).length c14) (accsL s.acs).length ((trialF (pl s) at_).flatMap encBl)) (by repeat constructor)) (by omega)
        have e1 := sumA_take (unitsOf (pl s) at_ c) hx
        have e2 := sumA_take (worthOf (pl s) at_ c) hx
        have b1' := bu c i
        have b2' := bw c i
        have hv := valT_bd (pl s) at_ x
        have hv1 := hv.1
        have hv2 := hv.2
        unfold inU at hv1 hv2
        refine wp_skip (n_then (c_seq (wp_block (c_seq ?_))))
        refine c_drawS [] (by kernel_rfl) hS (sub_cons (X := ownA 35 4 (.slice (some ⟨g6, 0, none⟩) (accsL s.acs).length c16) (accsL s.acs).length ((accsL s.acs).flatMap encAc)) (by repeat constructor) (sub_cons (X := .blk b18 (cur6.flatMap fun x => [.string x]) 9) (by repeat constructor) sub_nil)) ?_; clear hS; (try clear w); intro w hS
        simp only [List.length_cons, List.length_nil, Nat.zero_add, Nat.reduceAdd, List.replicate]
        refine Zt0 0 (tf 1 9) hS rfl want_none (e_move rfl) rfl (by kernel_rfl) rfl ?_; clear hS a; intro a hS
        refine Zt0 1 (tf 2 8) hS rfl want_none (e_move rfl) rfl (by kernel_rfl) rfl ?_; clear hS a; intro a hS
        refine Zt0 2 (tf 3 7) hS rfl want_none (e_ixN rfl rfl ty_sl48 ty_sz35 (by omega)) rfl (by kernel_rfl) rfl ?_; clear hS a; intro a hS
        (first | refine Zt0 3 (tf 4 6) hS rfl want_none (e_fa0 rfl ty_fo35_1) rfl (by kernel_rfl) rfl ?_ | refine Zt0 3 (tf 4 6) hS rfl want_none (e_faK rfl ty_fo35_1) rfl (by kernel_rfl) rfl ?_); clear hS a; intro a hS
        refine Zt 4 (tf 5 5) hS rfl want_none (e_loadC rfl ty_sc9 (fun w hh => own_getL (enc := encAc) (s := 4) (fun _ => rfl) (by repeat constructor) hx w hh 1 (.string x.cur) rfl)) rfl (by kernel_rfl) (sub_cons (by repeat constructor) (sub_cons (by repeat constructor) sub_nil)) rfl ?_; clear hS a; intro a hS
        refine Zt0 5 (tf 6 4) hS rfl want_none (e_move rfl) rfl (by kernel_rfl) rfl ?_; clear hS a; intro a hS
        refine Zt0 6 (tf 7 3) hS rfl want_none (e_move rfl) rfl (by kernel_rfl) rfl ?_; clear hS a; intro a hS
        refine Zt0 7 (tf 8 2) hS rfl want_none (e_ixN rfl rfl ty_sl154 ty_sz9 (by omega)) rfl (by kernel_rfl) rfl ?_; clear hS a; intro a hS
        refine Zt 8 (tf 9 1) hS rfl want_none (e_loadC rfl ty_sc9 (fun w hh => blkrow_getL (enc := fun x => [Value.string x]) (s := 1) (by repeat constructor) (fun _ => rfl) hc w hh 0 (.string c) rfl)) rfl (by kernel_rfl) (sub_cons (by repeat constructor) (sub_cons (by repeat constructor) sub_nil)) rfl ?_; clear hS a; intro a hS
        refine Zt0 9 (tf 10 0) hS rfl want_none (e_binS rfl rfl rfl) rfl (by kernel_rfl) rfl ?_; clear hS a; intro a hS
        refine Z_done (by kernel_rfl) ?_
        refine n_then ?_
        first | refine c_ifD hS rfl (fun hc47 => ?_) (fun hc47 => ?_) | refine c_if hS rfl (fun hc47 => ?_) (fun hc47 => ?_)
        ·
          have hcur : x.cur = c := hc47
          have f1 : unitsOf (pl s) at_ c x = (valT (pl s) at_ x).1 := if_pos hcur
          have f2 : worthOf (pl s) at_ c x = (valT (pl s) at_ x).2 := if_pos hcur
          rw [f1] at e1
          rw [f2] at e2
          generalize hU : sumA (unitsOf (pl s) at_ c) ((accsL s.acs).take i) = U at hS e1 b1'
          generalize hW : sumA (worthOf (pl s) at_ c) ((accsL s.acs).take i) = W at hS e2 b2'
          refine c_seq ?_
          refine c_drawS [8] (by kernel_rfl) hS (sub_cons (X := .blk b10 _ _) (by repeat constructor) (sub_cons (X := ownA 71 3 (.slice (some ⟨g5, 0, none⟩) (accsL s.acs).length c14) (accsL s.acs).length ((trialF (pl s) at_).flatMap encBl)) (by repeat constructor) sub_nil)) ?_; clear hS; (try clear w); intro w hS
          simp only [List.length_cons, List.length_nil, Nat.zero_add, Nat.reduceAdd, List.replicate]
          refine Zt 0 (tf 1 8) hS rfl want_none (e_loadA rfl (by repeat constructor) ty_st139 ty_sz139 (by rfl)) rfl (by kernel_rfl) (sub_cons (by repeat constructor) (sub_cons (by repeat constructor) sub_nil)) rfl ?_; clear hS a; intro a hS
          refine Zt0 1 (tf 2 7) hS rfl want_none (e_move rfl) rfl (by kernel_rfl) rfl ?_; clear hS a; intro a hS
          refine Zt0 2 (tf 3 6) hS rfl want_none (e_move rfl) rfl (by kernel_rfl) rfl ?_; clear hS a; intro a hS
          refine Zt0 3 (tf 4 5) hS rfl want_none (e_ixN rfl rfl ty_sl68 ty_sz71 (by omega)) rfl (by kernel_rfl) rfl ?_; clear hS a; intro a hS
          (first | refine Zt0 4 (tf 5 4) hS rfl want_none (e_fa0 rfl ty_fo71_1) rfl (by kernel_rfl) rfl ?_ | refine Zt0 4 (tf 5 4) hS rfl want_none (e_faK rfl ty_fo71_1) rfl (by kernel_rfl) rfl ?_); clear hS a; intro a hS
          refine Zt 5 (tf 6 3) hS rfl want_none (e_loadC rfl ty_sc3 (fun w hh => own_getT (by repeat constructor) hxt w hh 1 (.int .i64 (valT (pl s) at_ x).1) rfl)) rfl (by kernel_rfl) (sub_cons (by repeat constructor) (sub_cons (by repeat constructor) sub_nil)) rfl ?_; clear hS a; intro a hS
          refine Z_one (i := 6) rfl (want_none a hS.sl) (listed' := (tf 7 2)) rfl (by kernel_rfl) (s_callN hS (.cons rfl .nil) cf62 rfl (BigOf_P (valT (pl s) at_ x).1 (by omega) _) ?_); clear hS a; (try clear w); intro x54 a w hS
          refine Z_and hS (sub_cons (by repeat constructor) (sub_cons (by repeat constructor) sub_nil)) ?_
          have hA := BigAdd_P p1 (some (x54.1.1, 0)) c1 x54.1.2 U (valT (pl s) at_ x).1 20 (by decide) (len20 (by omega)) (len20 (by omega)) _ (two_ok (hS.get (X := dgP U p1) (by repeat constructor)) (hS.get (X := bigA (valT (pl s) at_ x).1 x54.1.1) (by repeat constructor)) (fun r e => (hS.ok (dgP U p1) (by repeat constructor)).lt r.1 ⟨r.2, e⟩) (fun r e => by cases e; exact (hS.ok (bigA (valT (pl s) at_ x).1 x54.1.1) (by repeat constructor)).lt _ rfl))
          refine Z_one (i := 7) rfl (want_none a hS.sl) (listed' := (tf 8 1)) rfl (by kernel_rfl) (s_callN hS (.cons rfl (.cons rfl .nil)) cf63 rfl (hA) ?_); clear hS a; (try clear w); intro x55 a w hS
          clear hA
          refine Z_and hS (sub_cons (by repeat constructor) (sub_cons (by repeat constructor) sub_nil)) ?_
          refine Z_one (i := 8) rfl (want_none a hS.sl) (listed' := (tf 9 0)) rfl (by kernel_rfl) (s_storeA hS rfl rfl ty_sz139 (by repeat constructor) (by rfl) (by rfl) (by rfl) ?_); clear hS; (try clear w); intro w hS
          refine Z_last (by simp) ?_
          refine Z_done (by kernel_rfl) ?_
          refine n_then ?_
          refine c_drawS [8] (by kernel_rfl) hS (sub_cons (X := .blk b7 _ _) (by repeat constructor) (sub_cons (X := ownA 71 3 (.slice (some ⟨g5, 0, none⟩) (accsL s.acs).length c14) (accsL s.acs).length ((trialF (pl s) at_).flatMap encBl)) (by repeat constructor) sub_nil)) ?_; clear hS; (try clear w); intro w hS
          simp only [List.length_cons, List.length_nil, Nat.zero_add, Nat.reduceAdd, List.replicate]
          refine Zt 0 (tf 1 8) hS rfl want_none (e_loadA rfl (by repeat constructor) ty_st139 ty_sz139 (by rfl)) rfl (by kernel_rfl) (sub_cons (by repeat constructor) (sub_cons (by repeat constructor) sub_nil)) rfl ?_; clear hS a; intro a hS
          refine Zt0 1 (tf 2 7) hS rfl want_none (e_move rfl) rfl (by kernel_rfl) rfl ?_; clear hS a; intro a hS
          refine Zt0 2 (tf 3 6) hS rfl want_none (e_move rfl) rfl (by kernel_rfl) rfl ?_; clear hS a; intro a hS
          refine Zt0 3 (tf 4 5) hS rfl want_none (e_ixN rfl rfl ty_sl68 ty_sz71 (by omega)) rfl (by kernel_rfl) rfl ?_; clear hS a; intro a hS
          (first | refine Zt0 4 (tf 5 4) hS rfl want_none (e_fa0 rfl ty_fo71_2) rfl (by kernel_rfl) rfl ?_ | refine Zt0 4 (tf 5 4) hS rfl want_none (e_faK rfl ty_fo71_2) rfl (by kernel_rfl) rfl ?_); clear hS a; intro a hS
          refine Zt 5 (tf 6 3) hS rfl want_none (e_loadC rfl ty_sc3 (fun w hh => own_getT (by repeat constructor) hxt w hh 2 (.int .i64 (valT (pl s) at_ x).2) rfl)) rfl (by kernel_rfl) (sub_cons (by repeat constructor) (sub_cons (by repeat constructor) sub_nil)) rfl ?_; clear hS a; intro a hS
          refine Z_one (i := 6) rfl (want_none a hS.sl) (listed' := (tf 7 2)) rfl (by kernel_rfl) (s_callN hS (.cons rfl .nil) cf62 rfl (BigOf_P (valT (pl s) at_ x).2 (by omega) _) ?_); clear hS a; (try clear w); intro x62 a w hS
          refine Z_and hS (sub_cons (by repeat constructor) (sub_cons (by repeat constructor) sub_nil)) ?_
          have hA := BigAdd_P p2 (some (x62.1.1, 0)) c2 x62.1.2 (A + W) (valT (pl s) at_ x).2 20 (by decide) (len20 (by omega)) (len20 (by omega)) _ (two_ok (hS.get (X := dgP (A + W) p2) (by repeat constructor)) (hS.get (X := bigA (valT (pl s) at_ x).2 x62.1.1) (by repeat constructor)) (fun r e => (hS.ok (dgP (A + W) p2) (by repeat constructor)).lt r.1 ⟨r.2, e⟩) (fun r e => by cases e; exact (hS.ok (bigA (valT (pl s) at_ x).2 x62.1.1) (by repeat constructor)).lt _ rfl))
          refine Z_one (i := 7) rfl (want_none a hS.sl) (listed' := (tf 8 1)) rfl (by kernel_rfl) (s_callN hS (.cons rfl (.cons rfl .nil)) cf63 rfl (hA) ?_); clear hS a; (try clear w); intro x63 a w hS
          clear hA
          refine Z_and hS (sub_cons (by repeat constructor) (sub_cons (by repeat constructor) sub_nil)) ?_
          refine Z_one (i := 8) rfl (want_none a hS.sl) (listed' := (tf 9 0)) rfl (by kernel_rfl) (s_storeA hS rfl rfl ty_sz139 (by repeat constructor) (by rfl) (by rfl) (by rfl) ?_); clear hS; (try clear w); intro w hS
          refine Z_last (by simp) ?_
          refine Z_done (by kernel_rfl) ?_
          refine n_block (n_then (c_region ?_))
          refine L_e hS (e_move rfl) rfl ?_; clear hS a; intro a hS
          (first | refine L_e hS (e_binN rfl rfl rfl (by omega)) rfl ?_ | refine L_e hS (e_bin rfl rfl rfl) rfl ?_); clear hS a; intro a hS
          refine L_e hS (e_assign rfl) rfl ?_; clear hS a; intro a hS
          refine L_nil ?_
          first
          | (have hne : ¬ x.cur = c := hc47
             have f1 : unitsOf (pl s) at_ c x = 0 := if_neg hne
             have f2 : worthOf (pl s) at_ c x = 0 := if_neg hne
             rw [f1, Int.add_zero] at e1
             rw [f2, Int.add_zero] at e2
             refine ⟨i + 1, by omega, p1, p2, c1, c2, ?_, by omega⟩
             rw [e1, e2]
             exact (hS.slots (by repeat (first | exact trivial | refine ⟨rfl, ?_⟩))).pick (by repeat (first | exact Pick.nil | (refine Pick.cons (by repeat (first | exact Rem.head | apply Rem.tail)) ?_))))
          | (replace hS := hS.swap (X := bigA (U + (valT (pl s) at_ x).1) x55.1.1) (Y := dgP (U + (valT (pl s) at_ x).1) (some (x55.1.1, 0))) (by repeat constructor) (dgP_of (hS.ok (bigA (U + (valT (pl s) at_ x).1) x55.1.1) (by repeat constructor))) (fun b hb => by obtain ⟨off, e⟩ := hb; cases e; rfl) rfl
             replace hS := hS.swap (X := bigA (A + W + (valT (pl s) at_ x).2) x63.1.1) (Y := dgP (A + W + (valT (pl s) at_ x).2) (some (x63.1.1, 0))) (by repeat constructor) (dgP_of (hS.ok (bigA (A + W + (valT (pl s) at_ x).2) x63.1.1) (by repeat constructor))) (fun b hb => by obtain ⟨off, e⟩ := hb; cases e; rfl) rfl
             refine ⟨i + 1, by omega, some (x55.1.1, 0), some (x63.1.1, 0), x55.1.2, x63.1.2, ?_, by omega⟩
             rw [e1, e2, ← Int.add_assoc]
             exact (hS.slots (by repeat (first | exact trivial | refine ⟨rfl, ?_⟩))).pick (by repeat (first | exact Pick.nil | (refine Pick.cons (by repeat (first | exact Rem.head | apply Rem.tail)) ?_))))
        refine wp_skip (n_block (n_then (c_region ?_)))
        refine L_e hS (e_move rfl) rfl ?_; clear hS a; intro a hS
        (first | refine L_e hS (e_binN rfl rfl rfl (by omega)) rfl ?_ | refine L_e hS (e_bin rfl rfl rfl) rfl ?_); clear hS a; intro a hS
        refine L_e hS (e_assign rfl) rfl ?_; clear hS a; intro a hS
        refine L_nil ?_
        first
        | (have hne : ¬ x.cur = c := hc47
           have f1 : unitsOf (pl s) at_ c x = 0 := if_neg hne
           have f2 : worthOf (pl s) at_ c x = 0 := if_neg hne
           rw [f1, Int.add_zero] at e1
           rw [f2, Int.add_zero] at e2
           refine ⟨i + 1, by omega, p1, p2, c1, c2, ?_, by omega⟩
           rw [e1, e2]
           exact (hS.slots (by repeat (first | exact trivial | refine ⟨rfl, ?_⟩))).pick (by repeat (first | exact Pick.nil | (refine Pick.cons (by repeat (first | exact Rem.head | apply Rem.tail)) ?_))))
        | (replace hS := hS.swap (X := bigA (U + (valT (pl s) at_ x).1) x55.1.1) (Y := dgP (U + (valT (pl s) at_ x).1) (some (x55.1.1, 0))) (by repeat constructor) (dgP_of (hS.ok (bigA (U + (valT (pl s) at_ x).1) x55.1.1) (by repeat constructor))) (fun b hb => by obtain ⟨off, e⟩ := hb; cases e; rfl) rfl
           replace hS := hS.swap (X := bigA (A + W + (valT (pl s) at_ x).2) x63.1.1) (Y := dgP (A + W + (valT (pl s) at_ x).2) (some (x63.1.1, 0))) (by repeat constructor) (dgP_of (hS.ok (bigA (A + W + (valT (pl s) at_ x).2) x63.1.1) (by repeat constructor))) (fun b hb => by obtain ⟨off, e⟩ := hb; cases e; rfl) rfl
           refine ⟨i + 1, by omega, some (x55.1.1, 0), some (x63.1.1, 0), x55.1.2, x63.1.2, ?_, by omega⟩
           rw [e1, e2, ← Int.add_assoc]
           exact (hS.slots (by repeat (first | exact trivial | refine ⟨rfl, ?_⟩))).pick (by repeat (first | exact Pick.nil | (refine Pick.cons (by repeat (first | exact Rem.head | apply Rem.tail)) ?_))))
      obtain rfl : i = (accsL s.acs).length := by omega
      rw [List.take_length, show sumA (unitsOf (pl s) at_ c) (accsL s.acs) = 0 from hz.units c] at hS
      rw [dg_len0] at hS
      refine wp_exit ?_
      refine x_then (x_then (x_hit ?_))
      refine n_then (c_seq (c_region ?_))
      (first | refine L_e hS (e_fa0 rfl ty_fo139_1) rfl ?_ | refine L_e hS (e_faK rfl ty_fo139_1) rfl ?_); clear hS a; intro a hS
      refine L_e hS (e_load rfl (by repeat constructor) ty_sc137 (by rfl)) rfl ?_; clear hS a; intro a hS
      refine L_e hS (e_len rfl rfl ty_sl137) rfl ?_; clear hS a; intro a hS
      refine L_e hS (e_bin rfl rfl rfl) rfl ?_; clear hS a; intro a hS
      refine L_nil (n_then ?_)
      replace hS := hS.is (t := 67) (c := false) rfl (rfl)
      refine c_if_f hS rfl ?_
      refine wp_skip (n_block (n_then (c_region ?_)))
      refine L_e hS (e_move rfl) rfl ?_; clear hS a; intro a hS
      (first | refine L_e hS (e_binN rfl rfl rfl (by omega)) rfl ?_ | refine L_e hS (e_bin rfl rfl rfl) rfl ?_); clear hS a; intro a hS
      refine L_e hS (e_assign rfl) rfl ?_; clear hS a; intro a hS
      refine L_nil ?_
      exact ⟨k + 1, by omega, p2, c2, by rw [hck]; exact (hS.slots (by repeat (first | exact trivial | refine ⟨rfl, ?_⟩))).pick (by repeat (first | exact Pick.nil | (refine Pick.cons (by repeat (first | exact Rem.head | apply Rem.tail)) ?_))), by omega⟩
  obtain rfl : k = 6 := by omega
  rw [show cur6.take 6 = cur6 from rfl, show sumC (fun c => sumA (worthOf (pl s) at_ c) (accsL s.acs)) cur6 = 0 from hz.worth] at hS
  rw [dg_len0] at hS
  refine wp_exit ?_
  refine x_then (x_then (x_hit ?_))
  refine n_then (c_seq (c_region ?_))
  (first | refine L_e hS (e_fa0 rfl ty_fo139_1) rfl ?_ | refine L_e hS (e_faK rfl ty_fo139_1) rfl ?_); clear hS a; intro a hS
  refine L_e hS (e_load rfl (by repeat constructor) ty_sc137 (by rfl)) rfl ?_; clear hS a; intro a hS
  refine L_e hS (e_len rfl rfl ty_sl137) rfl ?_; clear hS a; intro a hS
  refine L_e hS (e_bin rfl rfl rfl) rfl ?_; clear hS a; intro a hS
  refine L_e hS (e_move rfl) rfl ?_; clear hS a; intro a hS
  replace hS := hS.is (t := 72) (c := true) rfl (rfl)
  refine L_ge hS rfl rfl (e_move rfl) rfl ?_; clear hS a; intro a hS
  refine L_ge hS rfl rfl (e_len rfl rfl ty_sl68) rfl ?_; clear hS a; intro a hS
  refine L_ge hS rfl rfl (e_move rfl) rfl ?_; clear hS a; intro a hS
  refine L_ge hS rfl rfl (e_len rfl rfl ty_sl48) rfl ?_; clear hS a; intro a hS
  refine L_ge hS rfl rfl (e_bin rfl rfl rfl) rfl ?_; clear hS a; intro a hS
  refine L_e hS (e_pk rfl rfl) rfl ?_; clear hS a; intro a hS
  refine L_e hS (e_assign rfl) rfl ?_; clear hS a; intro a hS
  refine L_nil (n_then (wp_ret ?_))
  refine c_ret1 hS Tryz.results31 (.tmp rfl) ?_
  exact ⟨by simp, hS.chg⟩
end Go.Proofs.YtheofhegdjjfgaaGreat

namespace Go.Proofs.YtheofhegdjjfgaaGreat
open Go.RowKit
def inW (p : Option (Nat × Nat)) (ops : List LO) (q : Option (Nat × Nat)) (l : List RR) : Asn := .any (fun k => losF p ops k ∨ ∃ off, q = some (k, off)) (fun w => losφ p ops w ∧ RowP q 3 (l.map encR) w) false
theorem inW_ok {p q : Option (Nat × Nat)} {ops : List LO} {l : List RR} {w : World} (h : losφ p ops w) (hb : ∀ r, p = some r → r.1 < w.heap.size) (hr : RowP q 3 (l.map encR) w) (hq : ∀ r, q = some r → r.1 < w.heap.size) : (inW p ops q l).ok w := by
  have h1 := los_ok h hb
  have h2 := ok_rowP hr hq
  exact ⟨fun k hk => hk.elim (h1.lt k) (h2.lt k), fun w' hw => ⟨h1.hold w' (fun k hk => hw k (.inl hk)), h2.hold w' (fun k hk => hw k (.inr hk))⟩⟩
def szP (P : PL) : Prop := ∀ a ∈ P.acs, a.code.size ≤ 4611686018427387904
theorem szP_step {P : PL} (h : szP P) {o : LO} (ho : o.fits) : szP (stepP P o) := by
  unfold stepP
  split
  · unfold openP
    split
    · intro a ha
      rcases List.mem_append.1 ha with ha | ha
      · exact h a ha
      · rw [List.mem_singleton.1 ha]; exact ho.code
    · exact h
  · split
    · unfold postP; split <;> exact h
    · split
      · unfold closeP; split <;> exact h
      · exact h
theorem szP_made (l : List LO) (hf : ∀ o ∈ l, o.fits) : szP (madeP l) := by
  unfold madeP
  have h4 : szP P4 := fun a ha => by
    have h1 : a = aBank ∨ a = aSales ∨ a = aTill ∨ a = aFees := by simpa [P4, chartL] using ha
    rcases h1 with rfl | rfl | rfl | rfl <;> decide
  generalize P4 = P at h4
  induction l generalizing P with
  | nil => exact h4
  | cons o r ih => exact ih (fun x hx => hf x (.tail _ hx)) _ (szP_step h4 (hf o (.head _)))
theorem rv_err {own : ByteArray} {l : List (ByteArray × List (Int × Int))} {P : PL} {at_ : Int} {gain : ByteArray} {ps : List Pst} {e : Int} (h : revF own l P at_ gain = (ps, e)) (he : e ≠ 0) : ps = [] := by
  unfold revF at h
  split at h
  · exact (congrArg Prod.fst h).symm
  · split at h
    · exact (congrArg Prod.fst h).symm
    · split at h
      · exact (congrArg Prod.fst h).symm
      · split at h
        · exact (congrArg Prod.fst h).symm
        · split at h
          · exact (congrArg Prod.fst h).symm
          · split at h
            · exact absurd (congrArg Prod.snd h).symm he
            · exact (congrArg Prod.fst h).symm
theorem rv_fits {own : ByteArray} {l : List (ByteArray × List (Int × Int))} {P : PL} {at_ : Int} {gain : ByteArray} (hs : szP P) (hg : gain.size ≤ 4611686018427387904) : (∀ p ∈ (revF own l P at_ gain).1, p.fits) ∧ (revF own l P at_ gain).1.length ≤ P.acs.length + 1 := by
  have hO : ∀ p ∈ rvOut own l P at_ (accsL P.acs), p.fits := fun p hp => by
    unfold rvOut at hp
    obtain ⟨a, ha, hpa⟩ := List.mem_flatMap.1 hp
    have hd := dif_bd own l P at_ a
    unfold rvOne at hpa
    split at hpa
    · rw [List.mem_singleton.1 hpa]
      exact ⟨hs a (accs_mem ha).1, by simp, by simp only; omega⟩
    · cases hpa
  have hl := rv_len own l P at_ (accsL P.acs)
  rw [accs_len] at hl
  unfold revF
  split
  · simp
  · split
    · simp
    · split
      · simp
      · split
        · simp
        · split
          · simp
          · split
            · rename_i h6
              unfold inU at h6
              refine ⟨fun p hp => ?_, by rw [List.length_append, List.length_singleton]; omega⟩
              rcases List.mem_append.1 hp with hp | hp
              · exact hO p hp
              · rw [List.mem_singleton.1 hp]
                exact ⟨hg, by simp, by simp only; omega⟩
            · simp
theorem valT_ok {R : PL} {at_ : Int} (hi : inst at_) {a : Acc} (hk : okS (sumAt R a.code at_)) : valT R at_ a = sumAt R a.code at_ := by
  unfold valT
  rw [triT_of, if_pos hi]
  show balV (sumAt R a.code at_) = _
  unfold balV
  have hk2 : inU (sumAt R a.code at_).1 ∧ inU (sumAt R a.code at_).2 := hk
  rw [if_pos hk2]
def revMemo : ByteArray := ⟨#[114, 101, 118, 97, 108, 117, 97, 116, 105, 111, 110]⟩
set_option maxHeartbeats 4000000 in
set_option maxRecDepth 100000 in
theorem FxWorth_P (p : Option (Nat × Nat)) (c : Nat) (ops : List LO) (hlen : ops.length ≤ 4611686018427387904) (hfit : ∀ x ∈ ops, x.fits) (q : Option (Nat × Nat)) (cq : Nat) (l : List RR) (hll : l.length ≤ 4611686018427387904) (hlf : ∀ x ∈ l, rrFits x) (at_ : Int)
    (w0 : World) (h : losφ p ops w0) (hb : ∀ r, p = some r → r.1 < w0.heap.size) (hr : RowP q 3 (l.map encR) w0) (hq : ∀ r, q = some r → r.1 < w0.heap.size) :
    PureC Tryz.prog 5 [sliceV p ops.length c, sliceV q l.length cq, .int .i64 at_] w0 (.bool true) := by
  refine c_enter [(0, sliceV p ops.length c), (1, sliceV q l.length cq), (2, .int .i64 at_)] [inW p ops q l] noB Tryz.func5 rfl Tryz.ntmps5 ⟨rfl, rfl, rfl, trivial⟩ rfl (okC (inW_ok h hb hr hq) okN) dis1 (mineC (by rfl) mineN) ?_
  intro a hS
  refine c_seq (c_region ?_)
  refine L_e hS (e_assign rfl) rfl ?_; clear hS a; intro a hS
  refine L_nil (n_then (c_seq (c_region ?_)))
  refine L_op (s_callP hS .nil cf13 rfl (fxfirst_P _) ?_); clear hS a; (try clear w); intro a w hS
  refine L_e hS (e_assign rfl) rfl ?_; clear hS a; intro a hS
  refine L_nil (n_then (c_seq (c_region ?_)))
  refine L_e hS (e_move rfl) rfl ?_; clear hS a; intro a hS
  refine L_op (s_callP hS (.cons rfl .nil) cf14 rfl (fxfew_P q cq l hll hlf _ (hS.get (X := inW p ops q l) (by repeat constructor)).2 (fun r hr => (hS.ok (inW p ops q l) (by repeat constructor)).lt r.1 (.inr ⟨r.2, hr⟩))) ?_); clear hS a; (try clear w); intro a w hS
  refine L_e hS (e_move rfl) rfl ?_; clear hS a; intro a hS
  refine L_merge 3 37 (.bool (decide (fewS l ∧ fewLs ops))) hS ?_ ?_
  · intro hcM37
    (first | refine g_splitD (t := 34) hS rfl ?_ ?_ | refine g_split (t := 34) hS rfl ?_ ?_) <;> (clear hS; intro hg34 hS)
    ·
      refine L_ge hS rfl rfl (e_move rfl) rfl ?_; clear hS a; intro a hS
      refine L_go hS rfl rfl (s_callP hS (.cons rfl .nil) cf7 rfl (lFew_P p c ops hlen hfit _ (hS.get (X := inW p ops q l) (by repeat constructor)).1 (fun r hr => (hS.ok (inW p ops q l) (by repeat constructor)).lt r.1 (.inl (.inl ⟨r.2, hr⟩)))) ?_); clear hS a; (try clear w); intro a w hS
      refine L_e hS (e_pk rfl rfl) rfl ?_; clear hS a; intro a hS
      exact hcM37 _ _ (hS.ends 4 37 34 rfl (congrArg Value.bool (by exact (decide_eq_decide (p := fewLs ops) (q := fewS l ∧ fewLs ops)).2 ⟨fun e => ⟨hg34, e⟩, fun e => e.2⟩)) rfl rfl (by first | exact congrArg Value.bool (decide_eq_true hg34).symm | exact congrArg Value.bool hg34.symm | simp [hg34]) rfl)
    refine L_skip_t hS rfl rfl rfl ?_; clear hS a; intro a hS
    refine L_skip_t hS rfl rfl rfl ?_; clear hS a; intro a hS
    refine L_e hS (e_pk rfl rfl) rfl ?_; clear hS a; intro a hS
    exact hcM37 _ _ (hS.ends 4 37 34 rfl (congrArg Value.bool (by exact (decide_eq_false (fun e => hg34 e.1)).symm)) rfl rfl (by first | exact congrArg Value.bool (decide_eq_false hg34).symm | exact congrArg Value.bool hg34.symm | simp [hg34]) rfl)
  · clear hS a; (try clear w); intro a w hS
    simp only [List.drop_succ_cons, List.drop_zero]
    refine L_e hS (e_assign rfl) rfl ?_; clear hS a; intro a hS
    refine L_nil (n_then (c_seq (c_seq (c_region ?_))))
    refine L_e hS (e_move rfl) rfl ?_; clear hS a; intro a hS
    refine L_e hS (e_not rfl) rfl ?_; clear hS a; intro a hS
    refine L_e hS (e_move rfl) rfl ?_; clear hS a; intro a hS
    replace hS := hS.is (t := 40) (c := false) rfl (rfl)
    refine L_ge hS rfl rfl (e_move rfl) rfl ?_; clear hS a; intro a hS
    refine L_ge hS rfl rfl (e_not rfl) rfl ?_; clear hS a; intro a hS
    refine L_e hS (e_pk rfl rfl) rfl ?_; clear hS a; intro a hS
    refine L_nil (n_then ?_)
    first | refine c_ifD hS rfl (fun hc43 => ?_) (fun hc43 => ?_) | refine c_if hS rfl (fun hc43 => ?_) (fun hc43 => ?_)
    ·
      refine c_seq (c_region ?_)
      refine L_e hS (e_move rfl) rfl ?_; clear hS a; intro a hS
      refine L_e hS (e_assign rfl) rfl ?_; clear hS a; intro a hS
      refine L_nil (n_then (wp_ret (r_then ?_)))
      refine c_ret1 hS Tryz.results5 (.tmp rfl) ?_
      exact ⟨by first | rfl | simp, hS.chg⟩
    have hsm : fewS l ∧ fewLs ops := by simpa using hc43
    have hol := hsm.2.1
    refine wp_skip (n_then (c_seq (c_region ?_)))
    refine L_e hS (e_move rfl) rfl ?_; clear hS a; intro a hS
    refine L_op (s_callN hS (.cons rfl .nil) cf15 rfl (lMade_P p c ops hol hfit _ (hS.get (X := inW p ops q l) (by repeat constructor)).1 (fun r hr => (hS.ok (inW p ops q l) (by repeat constructor)).lt r.1 (.inl (.inl ⟨r.2, hr⟩)))) ?_); clear hS a; (try clear w); intro x46 a w hS
    obtain ⟨⟨B, s⟩, hpl0⟩ := x46
    simp only at hS hpl0
    have hwf := wf_made hfit ops.length (Nat.le_refl _)
    rw [List.take_length, ← hpl0] at hwf
    have hcur : wfC (pl s) := by rw [hpl0]; exact wfC_made ops
    have hsz : szP (pl s) := by rw [hpl0]; exact szP_made ops hfit
    have hal : s.acs.length ≤ 100 := by have h1 := hwf.la; simp [pl] at h1; omega
    have hes : s.es.length ≤ 100 := by have h1 := hwf.le; simp [pl] at h1; omega
    have haL := accs_len s.acs
    refine L_e hS (e_assign rfl) rfl ?_; clear hS a; intro a hS
    refine L_nil (n_then (c_seq (c_region ?_)))
    refine L_e hS (e_move rfl) rfl ?_; clear hS a; intro a hS
    refine L_op (s_callN hS (.cons rfl .nil) cf16 rfl (fxmade_P q cq l hll hlf _ (hS.get (X := inW p ops q l) (by repeat constructor)).2 (fun r hr => (hS.ok (inW p ops q l) (by repeat constructor)).lt r.1 (.inr ⟨r.2, hr⟩))) ?_); clear hS a; (try clear w); intro x49 a w hS
    obtain ⟨⟨bk, mb, bw, es, n, rows, rv⟩, hmd, href⟩ := x49
    simp only at hS hmd href
    have hno : nanoOK (vsT es) := by have h1 := nano_made usd l; rw [← hmd] at h1; exact h1
    refine L_e hS (e_move rfl) rfl ?_; clear hS a; intro a hS
    refine L_e hS (e_extract rfl rfl) rfl ?_; clear hS a; intro a hS
    refine L_e hS (e_extract rfl rfl) rfl ?_; clear hS a; intro a hS
    refine L_e hS (e_assign rfl) rfl ?_; clear hS a; intro a hS
    refine L_e hS (e_assign rfl) rfl ?_; clear hS a; intro a hS
    refine L_nil (n_then (c_seq (c_seq (c_region ?_))))
    refine L_e hS (e_move rfl) rfl ?_; clear hS a; intro a hS
    refine L_e hS (e_nil rfl ty_u25) rfl ?_; clear hS a; intro a hS
    refine L_e hS (e_move rfl) rfl ?_; clear hS a; intro a hS
    replace hS := hS.is (t := 54) (c := false) rfl (rfl)
    refine L_ge hS rfl rfl (e_move rfl) rfl ?_; clear hS a; intro a hS
    refine L_ge hS rfl rfl (e_nil rfl ty_u44) rfl ?_; clear hS a; intro a hS
    refine L_e hS (e_pk rfl rfl) rfl ?_; clear hS a; intro a hS
    refine L_nil (n_then ?_)
    replace hS := hS.is (t := 57) (c := false) rfl (rfl)
    refine c_if_f hS rfl ?_
    refine wp_skip (n_then (c_seq (c_region ?_)))
    refine L_e hS (e_move rfl) rfl ?_; clear hS a; intro a hS
    refine L_e hS (e_move rfl) rfl ?_; clear hS a; intro a hS
    refine L_e hS (e_move rfl) rfl ?_; clear hS a; intro a hS
    refine L_op (s_callN hS (.cons rfl (.cons rfl (.cons rfl (.cons rfl .nil)))) cf22 rfl (fxRevalue_P B s bk mb usd es n at_ aBank.code (hwf.fitL (by omega)) (by omega) hno _ (hS.get (X := ledA B s true) (by repeat constructor)) (hS.get (X := bothA ⟨bk, mb, bw, es, n, rows, rv⟩) (by repeat constructor)).1) ?_); clear hS a; (try clear w); intro x62 a w hS
    have hrf := rv_fits (own := usd) (l := vsT es) (P := pl s) (at_ := at_) (gain := aBank.code) hsz (by decide)
    generalize hV : revF usd (vsT es) (pl s) at_ aBank.code = V at hS hrf
    obtain ⟨ps, e0⟩ := V
    dsimp only at hS hrf
    obtain ⟨hpf, hpl⟩ := hrf
    have hpl : ps.length ≤ 101 := by have h1 : (pl s).acs.length = s.acs.length := rfl; omega
    obtain ⟨q12, c12, rfl⟩ := own_slice (hS.get (X := ownA 82 3 x62 ps.length (ps.flatMap encP)) (by repeat constructor))
    refine L_e hS (e_move rfl) rfl ?_; clear hS a; intro a hS
    refine L_e hS (e_extract rfl rfl) rfl ?_; clear hS a; intro a hS
    refine L_e hS (e_extract rfl rfl) rfl ?_; clear hS a; intro a hS
    refine L_e hS (e_assign rfl) rfl ?_; clear hS a; intro a hS
    refine L_e hS (e_assign rfl) rfl ?_; clear hS a; intro a hS
    refine L_nil (n_then (c_seq (c_seq (c_region ?_))))
    refine L_e hS (e_move rfl) rfl ?_; clear hS a; intro a hS
    refine L_op (s_callP hS (.cons rfl .nil) cf10 rfl (Num_w _ _) ?_); clear hS a; (try clear w); intro a w hS
    refine L_e hS (e_bin rfl rfl rfl) rfl ?_; clear hS a; intro a hS
    refine L_e hS (e_move rfl) rfl ?_; clear hS a; intro a hS
    refine L_merge 4 72 (.bool (decide (e0 ≠ 0 ∨ ps.length = 0))) hS ?_ ?_
    · intro hcM72
      (first | refine g_splitD (t := 68) hS rfl ?_ ?_ | refine g_split (t := 68) hS rfl ?_ ?_) <;> (clear hS; intro hg68 hS)
      ·
        refine L_skip_f hS rfl rfl rfl ?_; clear hS a; intro a hS
        refine L_skip_f hS rfl rfl rfl ?_; clear hS a; intro a hS
        refine L_skip_f hS rfl rfl rfl ?_; clear hS a; intro a hS
        refine L_e hS (e_pk rfl rfl) rfl ?_; clear hS a; intro a hS
        exact hcM72 _ _ (hS.ends 5 72 68 rfl (congrArg Value.bool (by exact (decide_eq_true (.inl hg68)).symm)) rfl rfl (by first | exact congrArg Value.bool (decide_eq_true hg68).symm | exact congrArg Value.bool hg68.symm | simp [hg68]) rfl)
      refine L_ge hS rfl rfl (e_move rfl) rfl ?_; clear hS a; intro a hS
      refine L_ge hS rfl rfl (e_len rfl rfl ty_sl36) rfl ?_; clear hS a; intro a hS
      refine L_ge hS rfl rfl (e_bin rfl rfl rfl) rfl ?_; clear hS a; intro a hS
      refine L_e hS (e_pk rfl rfl) rfl ?_; clear hS a; intro a hS
      exact hcM72 _ _ (hS.ends 5 72 68 rfl (congrArg Value.bool (by rw [decide_eq_decide]; exact ⟨fun e => .inr (by omega), fun e => by have e2 := e.resolve_left hg68; omega⟩)) rfl rfl (by first | exact congrArg Value.bool (decide_eq_false hg68).symm | exact congrArg Value.bool hg68.symm | simp [hg68]) rfl)
    · clear hS a; (try clear w); intro a w hS
      simp only [List.drop_succ_cons, List.drop_zero]
      refine L_nil (n_then ?_)
      first | refine c_ifD hS rfl (fun hc72 => ?_) (fun hc72 => ?_) | refine c_if hS rfl (fun hc72 => ?_) (fun hc72 => ?_)
      ·
        refine c_seq (c_region ?_)
        refine L_e hS (e_move rfl) rfl ?_; clear hS a; intro a hS
        refine L_e hS (e_len rfl rfl ty_sl36) rfl ?_; clear hS a; intro a hS
        refine L_e hS (e_bin rfl rfl rfl) rfl ?_; clear hS a; intro a hS
        refine L_e hS (e_assign rfl) rfl ?_; clear hS a; intro a hS
        refine L_nil (n_then (wp_ret (r_then ?_)))
        refine c_ret1 hS Tryz.results5 (.tmp rfl) ?_
        have hz : ps.length = 0 := by
          rcases hc72 with e | e
          · rw [rv_err hV e]; rfl
          · exact e
        exact ⟨by rw [decide_eq_true (by omega)], hS.chg⟩
      have he0 : e0 = 0 := Classical.byContradiction fun e => hc72 (.inl e)
      have hpn : ps ≠ [] := fun e => hc72 (.inr (by rw [e]; rfl))
      rw [he0] at hV
      have htl := rv_tells hV hpn
      have hi := tells_inst htl
      have htln : (trialF (pl s) at_).length = s.acs.length := by unfold trialF; rw [List.length_map, accs_len]; rfl
      refine wp_skip (n_then (c_seq (c_region ?_)))
      refine L_e hS (e_move rfl) rfl ?_; clear hS a; intro a hS
      refine L_e hS (e_move rfl) rfl ?_; clear hS a; intro a hS
      refine L_op (s_callN hS (.cons rfl (.cons rfl .nil)) cf26 rfl (lTrial_P B s at_ (by omega) (hwf.fitL (by omega)) _ (hS.get (X := ledA B s true) (by repeat constructor))) ?_); clear hS a; (try clear w); intro x78 a w hS
      refine L_e hS (e_assign rfl) rfl ?_; clear hS a; intro a hS
      refine L_nil (n_then (c_seq (c_region ?_)))
      refine L_e hS (e_move rfl) rfl ?_; clear hS a; intro a hS
      refine L_op (s_callN hS (.cons rfl .nil) cf27 rfl (lAccs_P B s (by omega) _ (hS.get (X := ledA B s true) (by repeat constructor))) ?_); clear hS a; (try clear w); intro x80 a w hS
      rw [haL, htln] at hS
      obtain ⟨q14, c14, rfl⟩ := own_slice (hS.get (X := ownA 71 3 x78 s.acs.length ((trialF (pl s) at_).flatMap encBl)) (by repeat constructor))
      obtain ⟨q15, c15, rfl⟩ := own_slice (hS.get (X := ownA 35 4 x80 s.acs.length ((accsL s.acs).flatMap encAc)) (by repeat constructor))
      refine L_e hS (e_assign rfl) rfl ?_; clear hS a; intro a hS
      refine L_nil (n_then (c_seq (c_seq (c_region ?_))))
      refine L_e hS (e_assign rfl) rfl ?_; clear hS a; intro a hS
      refine L_nil (n_then (wp_block ?_))
      skip
      refine c_loop (γ := Nat) (fun i a w => St 237 noB w0 a w [(16, .int .i64 (i : Int)), (15, .slice q15 s.acs.length c15), (14, .slice q14 s.acs.length c14), (12, .slice q12 ps.length c12), (10, .pointer (some ⟨bk, 0, none⟩)), (9, .pointer (some ⟨B.lb, 0, none⟩)), (2, .int .i64 at_)] [ownA 35 4 (.slice q15 s.acs.length c15) s.acs.length ((accsL s.acs).flatMap encAc), ownA 71 3 (.slice q14 s.acs.length c14) s.acs.length ((trialF (pl s) at_).flatMap encBl), ownA 82 3 (.slice q12 ps.length c12) ps.length (ps.flatMap encP), bothA ⟨bk, mb, bw, es, n, rows, rv⟩, ledA B s true] ∧ i ≤ s.acs.length ∧ ∀ j, j < i → ∀ a, (accsL s.acs)[j]? = some a → okS (sumAt (pl s) a.code at_)) (fun i => s.acs.length - i) 0 ⟨(hS.slots (by repeat (first | exact trivial | refine ⟨rfl, ?_⟩))).pick (by repeat (first | exact Pick.nil | (refine Pick.cons (by repeat (first | exact Rem.head | apply Rem.tail)) ?_))), Nat.zero_le _, fun j hj => by omega⟩ ?_
      clear hS a; (try clear w); intro i a w hI
      obtain ⟨hS, hi0, hok⟩ := hI
      refine c_seq (c_seq (c_region ?_))
      refine L_e hS (e_move rfl) rfl ?_; clear hS a; intro a hS
      refine L_e hS (e_move rfl) rfl ?_; clear hS a; intro a hS
      refine L_e hS (e_len rfl rfl ty_sl48) rfl ?_; clear hS a; intro a hS
      refine L_e hS (e_bin rfl rfl rfl) rfl ?_; clear hS a; intro a hS
      refine L_nil (n_then ?_)
      first | refine c_ifD hS rfl (fun hc84 => ?_) (fun hc84 => ?_) | refine c_if hS rfl (fun hc84 => ?_) (fun hc84 => ?_)
      ·
        have hil : i < s.acs.length := by omega
        obtain ⟨x, hx⟩ : ∃ x, (accsL s.acs)[i]? = some x := ⟨(accsL s.acs)[i]'(by omega), List.getElem?_eq_getElem (by omega)⟩
        obtain ⟨g15, rfl⟩ : ∃ g, q15 = some ⟨g, 0, none⟩ := own_at (hS.get (X := ownA 35 4 (.slice q15 s.acs.length c15) s.acs.length ((accsL s.acs).flatMap encAc)) (by repeat constructor)) (by omega)
        have hbo := bal_of (P := pl s) hi (a := x) (List.mem_of_getElem? hx)
        refine wp_skip (n_then (c_seq (wp_block (c_seq (c_region ?_)))))
        refine L_e hS (e_move rfl) rfl ?_; clear hS a; intro a hS
        refine L_e hS (e_move rfl) rfl ?_; clear hS a; intro a hS
        refine L_e hS (e_move rfl) rfl ?_; clear hS a; intro a hS
        refine L_e hS (e_ixN rfl rfl ty_sl48 ty_sz35 (by omega)) rfl ?_; clear hS a; intro a hS
        (first | refine L_e hS (e_fa0 rfl ty_fo35_0) rfl ?_ | refine L_e hS (e_faK rfl ty_fo35_0) rfl ?_); clear hS a; intro a hS
        refine L_e hS (e_loadC rfl ty_sc9 (fun w hh => own_getL (enc := encAc) (s := 4) (fun _ => rfl) (by repeat constructor) hx w hh 0 (.string x.code) rfl)) rfl ?_; clear hS a; intro a hS
        refine L_e hS (e_move rfl) rfl ?_; clear hS a; intro a hS
        refine L_op (s_callP hS (.cons rfl (.cons rfl (.cons rfl .nil))) cf28 rfl (lBal_P B s x.code at_ (hwf.fitL (by omega)) _ (hS.get (X := ledA B s true) (by repeat constructor))) ?_); clear hS a; (try clear w); intro a w hS
        rw [hbo] at hS
        refine L_e hS (e_move rfl) rfl ?_; clear hS a; intro a hS
        refine L_e hS (e_extract rfl rfl) rfl ?_; clear hS a; intro a hS
        refine L_e hS (e_extract rfl rfl) rfl ?_; clear hS a; intro a hS
        refine L_op (s_alloc hS ty_z71 rfl ?_); clear hS a; (try clear w); intro a w b17 hS
        refine L_op (s_storeA hS rfl rfl ty_sz71 (by repeat constructor) (by rfl) (by rfl) (by rfl) ?_); clear hS; (try clear w); intro w hS
        refine L_e hS (e_assign rfl) rfl ?_; clear hS a; intro a hS
        refine L_nil (n_then (c_seq (c_region ?_)))
        refine L_e hS (e_move rfl) rfl ?_; clear hS a; intro a hS
        refine L_op (s_callP hS (.cons rfl .nil) cf10 rfl (Num_w _ _) ?_); clear hS a; (try clear w); intro a w hS
        refine L_e hS (e_bin rfl rfl rfl) rfl ?_; clear hS a; intro a hS
        refine L_nil (n_then ?_)
        first | refine c_ifD hS rfl (fun hc100 => ?_) (fun hc100 => ?_) | refine c_if hS rfl (fun hc100 => ?_) (fun hc100 => ?_)
        ·
          refine c_seq (c_region ?_)
          refine L_e hS (e_move rfl) rfl ?_; clear hS a; intro a hS
          refine L_op (s_callP hS (.cons rfl .nil) cf10 rfl (Num_w _ _) ?_); clear hS a; (try clear w); intro a w hS
          refine L_e hS (e_bin rfl rfl rfl) rfl ?_; clear hS a; intro a hS
          refine L_e hS (e_assign rfl) rfl ?_; clear hS a; intro a hS
          refine L_nil (n_then (wp_ret ?_))
          refine r_block (r_then (r_then (r_block (r_then ?_))))
          refine c_ret1 hS Tryz.results5 (.tmp rfl) ?_
          have hnk : ¬ okS (sumAt (pl s) x.code at_) := fun e => hc100 (if_pos e)
          exact ⟨by rw [if_neg hnk]; rfl, hS.chg⟩
        have hk : okS (sumAt (pl s) x.code at_) := Classical.byContradiction fun e => hc100 (by rw [if_neg e]; decide)
        refine wp_skip (n_block (n_then (c_region ?_)))
        refine L_e hS (e_move rfl) rfl ?_; clear hS a; intro a hS
        (first | refine L_e hS (e_binN rfl rfl rfl (by omega)) rfl ?_ | refine L_e hS (e_bin rfl rfl rfl) rfl ?_); clear hS a; intro a hS
        refine L_e hS (e_assign rfl) rfl ?_; clear hS a; intro a hS
        refine L_nil ?_
        exact ⟨i + 1, by omega, (hS.slots (by repeat (first | exact trivial | refine ⟨rfl, ?_⟩))).pick (by repeat (first | exact Pick.nil | (refine Pick.cons (by repeat (first | exact Rem.head | apply Rem.tail)) ?_))), by omega, fun j hj y hy => by
        by_cases e : j = i
        · subst e; rw [hx] at hy; cases hy; exact hk
        · exact hok j (by omega) y hy⟩
      obtain rfl : i = s.acs.length := by omega
      have hokP : ∀ a ∈ accsL (pl s).acs, okS (sumAt (pl s) a.code at_) := fun a ha => by
        obtain ⟨j, hj, rfl⟩ := List.mem_iff_getElem.1 ha
        exact hok j (by have h1 : (accsL (pl s).acs).length = s.acs.length := haL; omega) _ (List.getElem?_eq_getElem hj)
      refine wp_exit ?_
      refine x_then (x_then (x_hit ?_))
      refine n_then (c_seq (c_region ?_))
      refine L_e hS (e_move rfl) rfl ?_; clear hS a; intro a hS
      refine L_e hS (e_move rfl) rfl ?_; clear hS a; intro a hS
      refine L_e hS (e_move rfl) rfl ?_; clear hS a; intro a hS
      refine L_op (s_callM hS (.cons rfl (.cons rfl (.cons rfl (.cons rfl .nil)))) cf29 rfl (postAny_P B s (.slice q12 ps.length c12) at_ revMemo ps (by omega) hpf hwf.bal (by omega) _ (hS.get (X := ledA B s true) (by repeat constructor)) (psAt_own (hS.get (X := ownA 82 3 (.slice q12 ps.length c12) ps.length (ps.flatMap encP)) (by repeat constructor))) (fun k hne hk hl => hS.sep (X := ledA B s true) (Y := ownA 82 3 (.slice q12 ps.length c12) ps.length (ps.flatMap encP)) (by repeat (first | exact Rem.head | apply Rem.tail)) (by repeat constructor) k hl hk)) (fun x => (by repeat constructor)) rfl ?_); clear hS a; (try clear w); intro x108 a w hS
      refine L_e hS (e_move rfl) rfl ?_; clear hS a; intro a hS
      refine L_e hS (e_extract rfl rfl) rfl ?_; clear hS a; intro a hS
      refine L_e hS (e_extract rfl rfl) rfl ?_; clear hS a; intro a hS
      refine L_e hS (e_assign rfl) rfl ?_; clear hS a; intro a hS
      refine L_e hS (e_assign rfl) rfl ?_; clear hS a; intro a hS
      refine L_nil (n_then (c_seq (c_seq (c_region ?_))))
      refine L_e hS (e_move rfl) rfl ?_; clear hS a; intro a hS
      refine L_op (s_callP hS (.cons rfl .nil) cf10 rfl (Num_w _ _) ?_); clear hS a; (try clear w); intro a w hS
      refine L_e hS (e_bin rfl rfl rfl) rfl ?_; clear hS a; intro a hS
      refine L_nil (n_then ?_)
      first | refine c_ifD hS rfl (fun hc113 => ?_) (fun hc113 => ?_) | refine c_if hS rfl (fun hc113 => ?_) (fun hc113 => ?_)
      ·
        refine c_seq (c_region ?_)
        refine L_e hS (e_assign rfl) rfl ?_; clear hS a; intro a hS
        refine L_nil (n_then (wp_ret (r_then ?_)))
        refine c_ret1 hS Tryz.results5 (.tmp rfl) ?_
        exact ⟨rfl, hS.chg⟩
      have hE : checkE (pl s) at_ revMemo ps = 0 := Classical.byContradiction fun e => hc113 e
      have hld := laid_of hE
      have hwf2 := wf_post hwf at_ revMemo ps hpf
      obtain ⟨s2, hp2⟩ := x108
      simp only at hS
      rw [← hp2] at hld hwf2
      have hac2 : s2.acs = s.acs := hld.acs
      have hcur2 : wfC (pl s2) := fun a ha => hcur a (by rw [← hld.acs]; exact ha)
      have htln2 : (trialF (pl s2) at_).length = s.acs.length := by unfold trialF; rw [List.length_map, accs_len, hld.acs]; rfl
      have hone := fun a (ha : a ∈ accsL (pl s).acs) => rv_one htl hld hwf.nod ha
      have hwo := fun a (ha : a ∈ accsL (pl s).acs) (hF : isF usd a) => rv_worth htl hld hwf.nod ha hF (hokP a ha)
      refine wp_skip (n_then (c_seq (c_region ?_)))
      refine L_e hS (e_move rfl) rfl ?_; clear hS a; intro a hS
      refine L_e hS (e_move rfl) rfl ?_; clear hS a; intro a hS
      refine L_op (s_callN hS (.cons rfl (.cons rfl .nil)) cf26 rfl (lTrial_P B s2 at_ (by rw [hac2]; omega) (hwf2.fitL (by omega)) _ (hS.get (X := ledA B s2 true) (by repeat constructor))) ?_); clear hS a; (try clear w); intro x116 a w hS
      refine L_e hS (e_assign rfl) rfl ?_; clear hS a; intro a hS
      refine L_nil (n_then (c_seq (c_region ?_)))
      refine L_e hS (e_move rfl) rfl ?_; clear hS a; intro a hS
      refine L_op (s_callN hS (.cons rfl .nil) cf27 rfl (lAccs_P B s2 (by rw [hac2]; omega) _ (hS.get (X := ledA B s2 true) (by repeat constructor))) ?_); clear hS a; (try clear w); intro x118 a w hS
      rw [hac2, haL, htln2] at hS
      obtain ⟨q21, c21, rfl⟩ := own_slice (hS.get (X := ownA 71 3 x116 s.acs.length ((trialF (pl s2) at_).flatMap encBl)) (by repeat constructor))
      obtain ⟨q22, c22, rfl⟩ := own_slice (hS.get (X := ownA 35 4 x118 s.acs.length ((accsL s.acs).flatMap encAc)) (by repeat constructor))
      refine L_e hS (e_assign rfl) rfl ?_; clear hS a; intro a hS
      refine L_nil (n_then (c_seq (c_seq (c_region ?_))))
      refine L_e hS (e_assign rfl) rfl ?_; clear hS a; intro a hS
      refine L_nil (n_then (wp_block ?_))
      skip
      refine c_loop (γ := Nat) (fun i a w => St 237 noB w0 a w [(23, .int .i64 (i : Int)), (22, .slice q22 s.acs.length c22), (21, .slice q21 s.acs.length c21), (14, .slice q14 s.acs.length c14), (10, .pointer (some ⟨bk, 0, none⟩)), (9, .pointer (some ⟨B.lb, 0, none⟩)), (2, .int .i64 at_)] [ownA 35 4 (.slice q22 s.acs.length c22) s.acs.length ((accsL s.acs).flatMap encAc), ownA 71 3 (.slice q21 s.acs.length c21) s.acs.length ((trialF (pl s2) at_).flatMap encBl), ownA 71 3 (.slice q14 s.acs.length c14) s.acs.length ((trialF (pl s) at_).flatMap encBl), bothA ⟨bk, mb, bw, es, n, rows, rv⟩, ledA B s2 true] ∧ i ≤ s.acs.length ∧ ∀ j, j < i → ∀ a, (accsL s.acs)[j]? = some a → okS (sumAt (pl s2) a.code at_)) (fun i => s.acs.length - i) 0 ⟨(hS.slots (by repeat (first | exact trivial | refine ⟨rfl, ?_⟩))).pick (by repeat (first | exact Pick.nil | (refine Pick.cons (by repeat (first | exact Rem.head | apply Rem.tail)) ?_))), Nat.zero_le _, fun j hj => by omega⟩ ?_
      clear hS a; (try clear w); intro i a w hI
      obtain ⟨hS, hi2, hok2⟩ := hI
      refine c_seq (c_seq (c_region ?_))
      refine L_e hS (e_move rfl) rfl ?_; clear hS a; intro a hS
      refine L_e hS (e_move rfl) rfl ?_; clear hS a; intro a hS
      refine L_e hS (e_len rfl rfl ty_sl48) rfl ?_; clear hS a; intro a hS
      refine L_e hS (e_bin rfl rfl rfl) rfl ?_; clear hS a; intro a hS
      refine L_nil (n_then ?_)
      first | refine c_ifD hS rfl (fun hc122 => ?_) (fun hc122 => ?_) | refine c_if hS rfl (fun hc122 => ?_) (fun hc122 => ?_)
      ·
        have hil : i < s.acs.length := by omega
        obtain ⟨x, hx⟩ : ∃ x, (accsL s.acs)[i]? = some x := ⟨(accsL s.acs)[i]'(by omega), List.getElem?_eq_getElem (by omega)⟩
        obtain ⟨g22, rfl⟩ : ∃ g, q22 = some ⟨g, 0, none⟩ := own_at (hS.get (X := ownA 35 4 (.slice q22 s.acs.length c22) s.acs.length ((accsL s.acs).flatMap encAc)) (by repeat constructor)) (by omega)
        have hbo := bal_of (P := pl s2) hi (a := x) (by rw [hld.acs]; exact List.mem_of_getElem? hx)
        refine wp_skip (n_then (c_seq (wp_block (c_seq (c_region ?_)))))
        refine L_e hS (e_move rfl) rfl ?_; clear hS a; intro a hS
        refine L_e hS (e_move rfl) rfl ?_; clear hS a; intro a hS
        refine L_e hS (e_move rfl) rfl ?_; clear hS a; intro a hS
        refine L_e hS (e_ixN rfl rfl ty_sl48 ty_sz35 (by omega)) rfl ?_; clear hS a; intro a hS
        (first | refine L_e hS (e_fa0 rfl ty_fo35_0) rfl ?_ | refine L_e hS (e_faK rfl ty_fo35_0) rfl ?_); clear hS a; intro a hS
        refine L_e hS (e_loadC rfl ty_sc9 (fun w hh => own_getL (enc := encAc) (s := 4) (fun _ => rfl) (by repeat constructor) hx w hh 0 (.string x.code) rfl)) rfl ?_; clear hS a; intro a hS
        refine L_e hS (e_move rfl) rfl ?_; clear hS a; intro a hS
        refine L_op (s_callP hS (.cons rfl (.cons rfl (.cons rfl .nil))) cf28 rfl (lBal_P B s2 x.code at_ (hwf2.fitL (by omega)) _ (hS.get (X := ledA B s2 true) (by repeat constructor))) ?_); clear hS a; (try clear w); intro a w hS
        rw [hbo] at hS
        refine L_e hS (e_move rfl) rfl ?_; clear hS a; intro a hS
        refine L_e hS (e_extract rfl rfl) rfl ?_; clear hS a; intro a hS
        refine L_e hS (e_extract rfl rfl) rfl ?_; clear hS a; intro a hS
        refine L_op (s_alloc hS ty_z71 rfl ?_); clear hS a; (try clear w); intro a w b24 hS
        refine L_op (s_storeA hS rfl rfl ty_sz71 (by repeat constructor) (by rfl) (by rfl) (by rfl) ?_); clear hS; (try clear w); intro w hS
        refine L_e hS (e_assign rfl) rfl ?_; clear hS a; intro a hS
        refine L_nil (n_then (c_seq (c_region ?_)))
        refine L_e hS (e_move rfl) rfl ?_; clear hS a; intro a hS
        refine L_op (s_callP hS (.cons rfl .nil) cf10 rfl (Num_w _ _) ?_); clear hS a; (try clear w); intro a w hS
        refine L_e hS (e_bin rfl rfl rfl) rfl ?_; clear hS a; intro a hS
        refine L_nil (n_then ?_)
        first | refine c_ifD hS rfl (fun hc138 => ?_) (fun hc138 => ?_) | refine c_if hS rfl (fun hc138 => ?_) (fun hc138 => ?_)
        ·
          refine c_seq (c_region ?_)
          refine L_e hS (e_move rfl) rfl ?_; clear hS a; intro a hS
          refine L_op (s_callP hS (.cons rfl .nil) cf10 rfl (Num_w _ _) ?_); clear hS a; (try clear w); intro a w hS
          refine L_e hS (e_bin rfl rfl rfl) rfl ?_; clear hS a; intro a hS
          refine L_e hS (e_assign rfl) rfl ?_; clear hS a; intro a hS
          refine L_nil (n_then (wp_ret ?_))
          refine r_block (r_then (r_then (r_block (r_then ?_))))
          refine c_ret1 hS Tryz.results5 (.tmp rfl) ?_
          have hnk : ¬ okS (sumAt (pl s2) x.code at_) := fun e => hc138 (if_pos e)
          exact ⟨by rw [if_neg hnk]; rfl, hS.chg⟩
        have hk : okS (sumAt (pl s2) x.code at_) := Classical.byContradiction fun e => hc138 (by rw [if_neg e]; decide)
        refine wp_skip (n_block (n_then (c_region ?_)))
        refine L_e hS (e_move rfl) rfl ?_; clear hS a; intro a hS
        (first | refine L_e hS (e_binN rfl rfl rfl (by omega)) rfl ?_ | refine L_e hS (e_bin rfl rfl rfl) rfl ?_); clear hS a; intro a hS
        refine L_e hS (e_assign rfl) rfl ?_; clear hS a; intro a hS
        refine L_nil ?_
        exact ⟨i + 1, by omega, (hS.slots (by repeat (first | exact trivial | refine ⟨rfl, ?_⟩))).pick (by repeat (first | exact Pick.nil | (refine Pick.cons (by repeat (first | exact Rem.head | apply Rem.tail)) ?_))), by omega, fun j hj y hy => by
        by_cases e : j = i
        · subst e; rw [hx] at hy; cases hy; exact hk
        · exact hok2 j (by omega) y hy⟩
      obtain rfl : i = s.acs.length := by omega
      have hokQ : ∀ a ∈ accsL (pl s).acs, okS (sumAt (pl s2) a.code at_) := fun a ha => by
        obtain ⟨j, hj, rfl⟩ := List.mem_iff_getElem.1 ha
        exact hok2 j (by have h1 : (accsL (pl s).acs).length = s.acs.length := haL; omega) _ (List.getElem?_eq_getElem hj)
      have hag := rv_again htl hld hwf.nod hokP hokQ
      have hz := zeros_of hwf2 hcur2 hi (by rw [hld.acs]; exact hokQ)
      refine wp_exit ?_
      refine x_then (x_then (x_hit ?_))
      refine n_then (c_seq (c_seq (c_region ?_)))
      refine L_e hS (e_assign rfl) rfl ?_; clear hS a; intro a hS
      refine L_nil (n_then (wp_block ?_))
      skip
      refine c_loop (γ := Nat) (fun i a w => St 237 noB w0 a w [(26, .int .i64 (i : Int)), (22, .slice q22 s.acs.length c22), (21, .slice q21 s.acs.length c21), (14, .slice q14 s.acs.length c14), (10, .pointer (some ⟨bk, 0, none⟩)), (9, .pointer (some ⟨B.lb, 0, none⟩)), (2, .int .i64 at_)] [ownA 35 4 (.slice q22 s.acs.length c22) s.acs.length ((accsL s.acs).flatMap encAc), ownA 71 3 (.slice q21 s.acs.length c21) s.acs.length ((trialF (pl s2) at_).flatMap encBl), ownA 71 3 (.slice q14 s.acs.length c14) s.acs.length ((trialF (pl s) at_).flatMap encBl), bothA ⟨bk, mb, bw, es, n, rows, rv⟩, ledA B s2 true] ∧ i ≤ s.acs.length) (fun i => s.acs.length - i) 0 ⟨(hS.slots (by repeat (first | exact trivial | refine ⟨rfl, ?_⟩))).pick (by repeat (first | exact Pick.nil | (refine Pick.cons (by repeat (first | exact Rem.head | apply Rem.tail)) ?_))), Nat.zero_le _⟩ ?_
      clear hS a; (try clear w); intro i a w hI
      obtain ⟨hS, hi4⟩ := hI
      refine c_seq (c_seq (c_region ?_))
      refine L_e hS (e_move rfl) rfl ?_; clear hS a; intro a hS
      refine L_e hS (e_move rfl) rfl ?_; clear hS a; intro a hS
      refine L_e hS (e_len rfl rfl ty_sl68) rfl ?_; clear hS a; intro a hS
      refine L_e hS (e_bin rfl rfl rfl) rfl ?_; clear hS a; intro a hS
      refine L_nil (n_then ?_)
      first | refine c_ifD hS rfl (fun hc145 => ?_) (fun hc145 => ?_) | refine c_if hS rfl (fun hc145 => ?_) (fun hc145 => ?_)
      ·
        have hil : i < s.acs.length := by omega
        obtain ⟨x, hx⟩ : ∃ x, (accsL s.acs)[i]? = some x := ⟨(accsL s.acs)[i]'(by omega), List.getElem?_eq_getElem (by omega)⟩
        have hxm : x ∈ accsL (pl s).acs := List.mem_of_getElem? hx
        obtain ⟨g22, rfl⟩ : ∃ g, q22 = some ⟨g, 0, none⟩ := own_at (hS.get (X := ownA 35 4 (.slice q22 s.acs.length c22) s.acs.length ((accsL s.acs).flatMap encAc)) (by repeat constructor)) (by omega)
        obtain ⟨g21, rfl⟩ : ∃ g, q21 = some ⟨g, 0, none⟩ := own_at (hS.get (X := ownA 71 3 (.slice q21 s.acs.length c21) s.acs.length ((trialF (pl s2) at_).flatMap encBl)) (by repeat constructor)) (by omega)
        obtain ⟨g14, rfl⟩ : ∃ g, q14 = some ⟨g, 0, none⟩ := own_at (hS.get (X := ownA 71 3 (.slice q14 s.acs.length c14) s.acs.length ((trialF (pl s) at_).flatMap encBl)) (by repeat constructor)) (by omega)
        have hx1 : (trialF (pl s) at_)[i]? = some (x.code, sumAt (pl s) x.code at_) := by
          rw [← valT_ok hi (hokP x hxm)]
          unfold trialF
          rw [List.getElem?_map, show (accsL (pl s).acs)[i]? = some x from hx]; rfl
        have hx2 : (trialF (pl s2) at_)[i]? = some (x.code, sumAt (pl s2) x.code at_) := by
          rw [← valT_ok hi (hokQ x hxm)]
          unfold trialF
          rw [List.getElem?_map, hld.acs, show (accsL (pl s).acs)[i]? = some x from hx]; rfl
        have hu := (hone x hxm).1
        have hw2 := hwo x hxm
        have hbQ := hokQ x hxm
        have hx1 : (trialF (pl s) at_)[i]? = some (x.code, ((sumAt (pl s2) x.code at_).1, (sumAt (pl s) x.code at_).2)) := by rw [hu]; exact hx1
        generalize hv : sumAt (pl s2) x.code at_ = v at hx1 hx2 hw2 hbQ
        have hbu := hbQ.1
        unfold inU at hbu
        refine wp_skip (n_then (c_seq (wp_block (c_seq (c_seq ?_)))))
        refine c_drawS [] (by kernel_rfl) hS (sub_cons (X := ownA 71 3 (.slice (some ⟨g21, 0, none⟩) s.acs.length c21) s.acs.length ((trialF (pl s2) at_).flatMap encBl)) (by repeat constructor) (sub_cons (X := ownA 71 3 (.slice (some ⟨g14, 0, none⟩) s.acs.length c14) s.acs.length ((trialF (pl s) at_).flatMap encBl)) (by repeat constructor) sub_nil)) ?_; clear hS; (try clear w); intro w hS
        simp only [List.length_cons, List.length_nil, Nat.zero_add, Nat.reduceAdd, List.replicate]
        refine Zt0 0 (tf 1 10) hS rfl want_none (e_move rfl) rfl (by kernel_rfl) rfl ?_; clear hS a; intro a hS
        refine Zt0 1 (tf 2 9) hS rfl want_none (e_move rfl) rfl (by kernel_rfl) rfl ?_; clear hS a; intro a hS
        refine Zt0 2 (tf 3 8) hS rfl want_none (e_ixN rfl rfl ty_sl68 ty_sz71 (by omega)) rfl (by kernel_rfl) rfl ?_; clear hS a; intro a hS
        (first | refine Zt0 3 (tf 4 7) hS rfl want_none (e_fa0 rfl ty_fo71_1) rfl (by kernel_rfl) rfl ?_ | refine Zt0 3 (tf 4 7) hS rfl want_none (e_faK rfl ty_fo71_1) rfl (by kernel_rfl) rfl ?_); clear hS a; intro a hS
        refine Zt 4 (tf 5 6) hS rfl want_none (e_loadC rfl ty_sc3 (fun w hh => own_getT (by repeat constructor) hx2 w hh 1 (.int .i64 v.1) rfl)) rfl (by kernel_rfl) (sub_cons (by repeat constructor) (sub_cons (by repeat constructor) sub_nil)) rfl ?_; clear hS a; intro a hS
        refine Zt0 5 (tf 6 5) hS rfl want_none (e_move rfl) rfl (by kernel_rfl) rfl ?_; clear hS a; intro a hS
        refine Zt0 6 (tf 7 4) hS rfl want_none (e_move rfl) rfl (by kernel_rfl) rfl ?_; clear hS a; intro a hS
        refine Zt0 7 (tf 8 3) hS rfl want_none (e_ixN rfl rfl ty_sl68 ty_sz71 (by omega)) rfl (by kernel_rfl) rfl ?_; clear hS a; intro a hS
        (first | refine Zt0 8 (tf 9 2) hS rfl want_none (e_fa0 rfl ty_fo71_1) rfl (by kernel_rfl) rfl ?_ | refine Zt0 8 (tf 9 2) hS rfl want_none (e_faK rfl ty_fo71_1) rfl (by kernel_rfl) rfl ?_); clear hS a; intro a hS
        refine Zt 9 (tf 10 1) hS rfl want_none (e_loadC rfl ty_sc3 (fun w hh => own_getT (by repeat constructor) hx1 w hh 1 (.int .i64 v.1) rfl)) rfl (by kernel_rfl) (sub_cons (by repeat constructor) (sub_cons (by repeat constructor) sub_nil)) rfl ?_; clear hS a; intro a hS
        refine Zt0 10 (tf 11 0) hS rfl want_none (e_bin rfl rfl rfl) rfl (by kernel_rfl) rfl ?_; clear hS a; intro a hS
        refine Z_done (by kernel_rfl) ?_
        refine n_then ?_
        replace hS := hS.is (t := 158) (c := false) rfl ((by simp))
        refine c_if_f hS rfl ?_
        refine wp_skip (n_then (c_seq (c_region ?_)))
        refine L_e hS (e_move rfl) rfl ?_; clear hS a; intro a hS
        refine L_e hS (e_move rfl) rfl ?_; clear hS a; intro a hS
        refine L_e hS (e_ixN rfl rfl ty_sl48 ty_sz35 (by omega)) rfl ?_; clear hS a; intro a hS
        (first | refine L_e hS (e_fa0 rfl ty_fo35_3) rfl ?_ | refine L_e hS (e_faK rfl ty_fo35_3) rfl ?_); clear hS a; intro a hS
        refine L_e hS (e_loadC rfl ty_sc4 (fun w hh => own_getL (enc := encAc) (s := 4) (fun _ => rfl) (by repeat constructor) hx w hh 3 (.bool x.mon) rfl)) rfl ?_; clear hS a; intro a hS
        refine L_e hS (e_move rfl) rfl ?_; clear hS a; intro a hS
        refine L_merge 7 171 (.bool (decide (isF usd x))) hS ?_ ?_
        · intro hcM171
          (first | refine g_splitD (t := 164) hS rfl ?_ ?_ | refine g_split (t := 164) hS rfl ?_ ?_) <;> (clear hS; intro hg164 hS)
          ·
            refine L_ge hS rfl rfl (e_move rfl) rfl ?_; clear hS a; intro a hS
            refine L_ge hS rfl rfl (e_move rfl) rfl ?_; clear hS a; intro a hS
            refine L_ge hS rfl rfl (e_ixN rfl rfl ty_sl48 ty_sz35 (by omega)) rfl ?_; clear hS a; intro a hS
            (first | refine L_ge hS rfl rfl (e_fa0 rfl ty_fo35_1) rfl ?_ | refine L_ge hS rfl rfl (e_faK rfl ty_fo35_1) rfl ?_); clear hS a; intro a hS
            refine L_ge hS rfl rfl (e_loadC rfl ty_sc9 (fun w hh => own_getL (enc := encAc) (s := 4) (fun _ => rfl) (by repeat constructor) hx w hh 1 (.string x.cur) rfl)) rfl ?_; clear hS a; intro a hS
            refine L_ge hS rfl rfl (e_binS rfl rfl rfl) rfl ?_; clear hS a; intro a hS
            refine L_e hS (e_pk rfl rfl) rfl ?_; clear hS a; intro a hS
            exact hcM171 _ _ (hS.ends 8 171 164 rfl (congrArg Value.bool (by rw [decide_eq_decide]; exact ⟨fun e => ⟨by simpa using hg164, e⟩, fun e => e.2⟩)) rfl rfl (by first | exact congrArg Value.bool (decide_eq_true hg164).symm | exact congrArg Value.bool hg164.symm | simp [hg164]) rfl)
          refine L_skip_t hS rfl rfl rfl ?_; clear hS a; intro a hS
          refine L_skip_t hS rfl rfl rfl ?_; clear hS a; intro a hS
          refine L_skip_t hS rfl rfl rfl ?_; clear hS a; intro a hS
          refine L_skip_t hS rfl rfl rfl ?_; clear hS a; intro a hS
          refine L_skip_t hS rfl rfl rfl ?_; clear hS a; intro a hS
          refine L_skip_t hS rfl rfl rfl ?_; clear hS a; intro a hS
          refine L_e hS (e_pk rfl rfl) rfl ?_; clear hS a; intro a hS
          exact hcM171 _ _ (hS.ends 8 171 164 rfl (congrArg Value.bool (by exact (decide_eq_false (fun e => by have h3 := e.1; simp [h3] at hg164)).symm)) rfl rfl (by first | exact congrArg Value.bool (decide_eq_false hg164).symm | exact congrArg Value.bool hg164.symm | simp [hg164]) rfl)
        · clear hS a; (try clear w); intro a w hS
          simp only [List.drop_succ_cons, List.drop_zero]
          refine L_e hS (e_move rfl) rfl ?_; clear hS a; intro a hS
          refine L_merge 15 187 (.bool (decide (isF usd x ∧ (v.1 ≠ 0 ∨ v.2 ≠ 0)))) hS ?_ ?_
          · intro hcM187
            (first | refine g_splitD (t := 172) hS rfl ?_ ?_ | refine g_split (t := 172) hS rfl ?_ ?_) <;> (clear hS; intro hg172 hS)
            ·
              refine L_ge hS rfl rfl (e_move rfl) rfl ?_; clear hS a; intro a hS
              refine L_ge hS rfl rfl (e_move rfl) rfl ?_; clear hS a; intro a hS
              refine L_ge hS rfl rfl (e_ixN rfl rfl ty_sl68 ty_sz71 (by omega)) rfl ?_; clear hS a; intro a hS
              (first | refine L_ge hS rfl rfl (e_fa0 rfl ty_fo71_1) rfl ?_ | refine L_ge hS rfl rfl (e_faK rfl ty_fo71_1) rfl ?_); clear hS a; intro a hS
              refine L_ge hS rfl rfl (e_loadC rfl ty_sc3 (fun w hh => own_getT (by repeat constructor) hx2 w hh 1 (.int .i64 v.1) rfl)) rfl ?_; clear hS a; intro a hS
              refine L_ge hS rfl rfl (e_bin rfl rfl rfl) rfl ?_; clear hS a; intro a hS
              refine L_ge hS rfl rfl (e_move rfl) rfl ?_; clear hS a; intro a hS
              refine L_merge 7 186 (.bool (decide (v.1 ≠ 0 ∨ v.2 ≠ 0))) hS ?_ ?_
              · intro hcM186
                (first | refine g_splitD (t := 179) hS rfl ?_ ?_ | refine g_split (t := 179) hS rfl ?_ ?_) <;> (clear hS; intro hg179 hS)
                ·
                  refine L_skip_f hS rfl rfl rfl ?_; clear hS a; intro a hS
                  refine L_skip_f hS rfl rfl rfl ?_; clear hS a; intro a hS
                  refine L_skip_f hS rfl rfl rfl ?_; clear hS a; intro a hS
                  refine L_skip_f hS rfl rfl rfl ?_; clear hS a; intro a hS
                  refine L_skip_f hS rfl rfl rfl ?_; clear hS a; intro a hS
                  refine L_skip_f hS rfl rfl rfl ?_; clear hS a; intro a hS
                  refine L_ge hS rfl rfl (e_pk rfl rfl) rfl ?_; clear hS a; intro a hS
                  exact hcM186 _ _ (hS.ends 8 186 179 rfl (congrArg Value.bool (by exact (decide_eq_true (.inl hg179)).symm)) rfl rfl (by first | exact congrArg Value.bool (decide_eq_true hg179).symm | exact congrArg Value.bool hg179.symm | simp [hg179]) rfl)
                refine L_ge hS rfl rfl (e_move rfl) rfl ?_; clear hS a; intro a hS
                refine L_ge hS rfl rfl (e_move rfl) rfl ?_; clear hS a; intro a hS
                refine L_ge hS rfl rfl (e_ixN rfl rfl ty_sl68 ty_sz71 (by omega)) rfl ?_; clear hS a; intro a hS
                (first | refine L_ge hS rfl rfl (e_fa0 rfl ty_fo71_2) rfl ?_ | refine L_ge hS rfl rfl (e_faK rfl ty_fo71_2) rfl ?_); clear hS a; intro a hS
                refine L_ge hS rfl rfl (e_loadC rfl ty_sc3 (fun w hh => own_getT (by repeat constructor) hx2 w hh 2 (.int .i64 v.2) rfl)) rfl ?_; clear hS a; intro a hS
                refine L_ge hS rfl rfl (e_bin rfl rfl rfl) rfl ?_; clear hS a; intro a hS
                refine L_ge hS rfl rfl (e_pk rfl rfl) rfl ?_; clear hS a; intro a hS
                exact hcM186 _ _ (hS.ends 8 186 179 rfl (congrArg Value.bool (by rw [decide_eq_decide]; exact ⟨.inr, fun e => e.resolve_left hg179⟩)) rfl rfl (by first | exact congrArg Value.bool (decide_eq_false hg179).symm | exact congrArg Value.bool hg179.symm | simp [hg179]) rfl)
              · clear hS a; (try clear w); intro a w hS
                simp only [List.drop_succ_cons, List.drop_zero]
                refine L_e hS (e_pk rfl rfl) rfl ?_; clear hS a; intro a hS
                exact hcM187 _ _ (hS.ends 10 187 172 rfl (congrArg Value.bool (by rw [decide_eq_decide]; exact ⟨fun e => ⟨hg172, e⟩, fun e => e.2⟩)) rfl rfl (by first | exact congrArg Value.bool (decide_eq_true hg172).symm | exact congrArg Value.bool hg172.symm | simp [hg172]) rfl)
            refine L_skip_t hS rfl rfl rfl ?_; clear hS a; intro a hS
            refine L_skip_t hS rfl rfl rfl ?_; clear hS a; intro a hS
            refine L_skip_t hS rfl rfl rfl ?_; clear hS a; intro a hS
            refine L_skip_t hS rfl rfl rfl ?_; clear hS a; intro a hS
            refine L_skip_t hS rfl rfl rfl ?_; clear hS a; intro a hS
            refine L_skip_t hS rfl rfl rfl ?_; clear hS a; intro a hS
            refine L_skip_t hS rfl rfl rfl ?_; clear hS a; intro a hS
            refine L_skip_u hS rfl rfl rfl ?_; clear hS a; intro a hS
            refine L_skip_u hS rfl rfl rfl ?_; clear hS a; intro a hS
            refine L_skip_u hS rfl rfl rfl ?_; clear hS a; intro a hS
            refine L_skip_u hS rfl rfl rfl ?_; clear hS a; intro a hS
            refine L_skip_u hS rfl rfl rfl ?_; clear hS a; intro a hS
            refine L_skip_u hS rfl rfl rfl ?_; clear hS a; intro a hS
            refine L_skip_t hS rfl rfl rfl ?_; clear hS a; intro a hS
            refine L_e hS (e_pk rfl rfl) rfl ?_; clear hS a; intro a hS
            exact hcM187 _ _ (hS.ends 16 187 172 rfl (congrArg Value.bool (by exact (decide_eq_false (fun e => hg172 e.1)).symm)) rfl rfl (by first | exact congrArg Value.bool (decide_eq_false hg172).symm | exact congrArg Value.bool hg172.symm | simp [hg172]) rfl)
          · clear hS a; (try clear w); intro a w hS
            simp only [List.drop_succ_cons, List.drop_zero]
            refine L_nil (n_then ?_)
            first | refine c_ifD hS rfl (fun hc187 => ?_) (fun hc187 => ?_) | refine c_if hS rfl (fun hc187 => ?_) (fun hc187 => ?_)
            ·
              have hww : worthF usd (vsT es) v.1 x.cur at_ = (v.2, 0) := (hw2 hc187.1).resolve_left (fun e => hc187.2.elim (fun e2 => e2 e.1) (fun e2 => e2 e.2))
              refine c_seq ?_
              refine c_drawS [] (by kernel_rfl) hS (sub_cons (X := ownA 71 3 (.slice (some ⟨g21, 0, none⟩) s.acs.length c21) s.acs.length ((trialF (pl s2) at_).flatMap encBl)) (by repeat constructor) (sub_cons (X := ownA 35 4 (.slice (some ⟨g22, 0, none⟩) s.acs.length c22) s.acs.length ((accsL s.acs).flatMap encAc)) (by repeat constructor) sub_nil)) ?_; clear hS; (try clear w); intro w hS
              simp only [List.length_cons, List.length_nil, Nat.zero_add, Nat.reduceAdd, List.replicate]
              refine Zt0 0 (tf 1 18) hS rfl want_none (e_move rfl) rfl (by kernel_rfl) rfl ?_; clear hS a; intro a hS
              refine Zt0 1 (tf 2 17) hS rfl want_none (e_move rfl) rfl (by kernel_rfl) rfl ?_; clear hS a; intro a hS
              refine Zt0 2 (tf 3 16) hS rfl want_none (e_move rfl) rfl (by kernel_rfl) rfl ?_; clear hS a; intro a hS
              refine Zt0 3 (tf 4 15) hS rfl want_none (e_ixN rfl rfl ty_sl68 ty_sz71 (by omega)) rfl (by kernel_rfl) rfl ?_; clear hS a; intro a hS
              (first | refine Zt0 4 (tf 5 14) hS rfl want_none (e_fa0 rfl ty_fo71_1) rfl (by kernel_rfl) rfl ?_ | refine Zt0 4 (tf 5 14) hS rfl want_none (e_faK rfl ty_fo71_1) rfl (by kernel_rfl) rfl ?_); clear hS a; intro a hS
              refine Zt 5 (tf 6 13) hS rfl want_none (e_loadC rfl ty_sc3 (fun w hh => own_getT (by repeat constructor) hx2 w hh 1 (.int .i64 v.1) rfl)) rfl (by kernel_rfl) (sub_cons (by repeat constructor) (sub_cons (by repeat constructor) sub_nil)) rfl ?_; clear hS a; intro a hS
              refine Zt0 6 (tf 7 12) hS rfl want_none (e_move rfl) rfl (by kernel_rfl) rfl ?_; clear hS a; intro a hS
              refine Zt0 7 (tf 8 11) hS rfl want_none (e_move rfl) rfl (by kernel_rfl) rfl ?_; clear hS a; intro a hS
              refine Zt0 8 (tf 9 10) hS rfl want_none (e_ixN rfl rfl ty_sl48 ty_sz35 (by omega)) rfl (by kernel_rfl) rfl ?_; clear hS a; intro a hS
              (first | refine Zt0 9 (tf 10 9) hS rfl want_none (e_fa0 rfl ty_fo35_1) rfl (by kernel_rfl) rfl ?_ | refine Zt0 9 (tf 10 9) hS rfl want_none (e_faK rfl ty_fo35_1) rfl (by kernel_rfl) rfl ?_); clear hS a; intro a hS
              refine Zt 10 (tf 11 8) hS rfl want_none (e_loadC rfl ty_sc9 (fun w hh => own_getL (enc := encAc) (s := 4) (fun _ => rfl) (by repeat constructor) hx w hh 1 (.string x.cur) rfl)) rfl (by kernel_rfl) (sub_cons (by repeat constructor) (sub_cons (by repeat constructor) sub_nil)) rfl ?_; clear hS a; intro a hS
              refine Zt0 11 (tf 12 7) hS rfl want_none (e_build ty_z78 ty_pl78 (.one rfl rfl rfl (by repeat constructor) (.one rfl rfl rfl (by repeat constructor) .nil))) rfl (by kernel_rfl) rfl ?_; clear hS a; intro a hS
              refine Zt0 12 (tf 13 6) hS rfl want_none (e_move rfl) rfl (by kernel_rfl) rfl ?_; clear hS a; intro a hS
              refine Z_one (i := 13) rfl (want_none a hS.sl) (listed' := (tf 14 5)) rfl (by kernel_rfl) (s_callP hS (.cons rfl (.cons rfl (.cons rfl .nil))) cf30 rfl (fxWorth_P bk mb usd x.cur es n v.1 at_ (by omega) _ (hS.get (X := bothA ⟨bk, mb, bw, es, n, rows, rv⟩) (by repeat constructor)).1 hno) ?_); clear hS a; (try clear w); intro a w hS
              rw [hww] at hS
              refine Z_and hS (sub_cons (by repeat constructor) (sub_cons (by repeat constructor) sub_nil)) ?_
              refine Zt0 14 (tf 15 4) hS rfl want_none (e_move rfl) rfl (by kernel_rfl) rfl ?_; clear hS a; intro a hS
              refine Zt0 15 (tf 16 3) hS rfl want_none (e_extract rfl rfl) rfl (by kernel_rfl) rfl ?_; clear hS a; intro a hS
              refine Zt0 16 (tf 17 2) hS rfl want_none (e_extract rfl rfl) rfl (by kernel_rfl) rfl ?_; clear hS a; intro a hS
              refine Zt0 17 (tf 18 1) hS rfl want_none (e_assign rfl) rfl (by kernel_rfl) rfl ?_; clear hS a; intro a hS
              refine Zt0 18 (tf 19 0) hS rfl want_none (e_assign rfl) rfl (by kernel_rfl) rfl ?_; clear hS a; intro a hS
              refine Z_done (by kernel_rfl) ?_
              refine n_then (c_seq (c_region ?_))
              refine L_e hS (e_move rfl) rfl ?_; clear hS a; intro a hS
              refine L_op (s_callP hS (.cons rfl .nil) cf10 rfl (Num_w _ _) ?_); clear hS a; (try clear w); intro a w hS
              refine L_e hS (e_bin rfl rfl rfl) rfl ?_; clear hS a; intro a hS
              refine L_e hS (e_move rfl) rfl ?_; clear hS a; intro a hS
              replace hS := hS.is (t := 208) (c := false) rfl ((by simp))
              refine L_ge hS rfl rfl (e_move rfl) rfl ?_; clear hS a; intro a hS
              refine L_ge hS rfl rfl (e_move rfl) rfl ?_; clear hS a; intro a hS
              refine L_ge hS rfl rfl (e_move rfl) rfl ?_; clear hS a; intro a hS
              refine L_ge hS rfl rfl (e_ixN rfl rfl ty_sl68 ty_sz71 (by omega)) rfl ?_; clear hS a; intro a hS
              (first | refine L_ge hS rfl rfl (e_fa0 rfl ty_fo71_2) rfl ?_ | refine L_ge hS rfl rfl (e_faK rfl ty_fo71_2) rfl ?_); clear hS a; intro a hS
              refine L_ge hS rfl rfl (e_loadC rfl ty_sc3 (fun w hh => own_getT (by repeat constructor) hx2 w hh 2 (.int .i64 v.2) rfl)) rfl ?_; clear hS a; intro a hS
              refine L_ge hS rfl rfl (e_bin rfl rfl rfl) rfl ?_; clear hS a; intro a hS
              refine L_e hS (e_pk rfl rfl) rfl ?_; clear hS a; intro a hS
              refine L_nil (n_then ?_)
              replace hS := hS.is (t := 216) (c := false) rfl ((by simp))
              refine c_if_f hS rfl ?_
              refine wp_skip (n_block (n_then (c_region ?_)))
              refine L_e hS (e_move rfl) rfl ?_; clear hS a; intro a hS
              (first | refine L_e hS (e_binN rfl rfl rfl (by omega)) rfl ?_ | refine L_e hS (e_bin rfl rfl rfl) rfl ?_); clear hS a; intro a hS
              refine L_e hS (e_assign rfl) rfl ?_; clear hS a; intro a hS
              refine L_nil ?_
              exact ⟨i + 1, by omega, (hS.slots (by repeat (first | exact trivial | refine ⟨rfl, ?_⟩))).pick (by repeat (first | exact Pick.nil | (refine Pick.cons (by repeat (first | exact Rem.head | apply Rem.tail)) ?_))), by omega⟩
            refine wp_skip (n_block (n_then (c_region ?_)))
            refine L_e hS (e_move rfl) rfl ?_; clear hS a; intro a hS
            (first | refine L_e hS (e_binN rfl rfl rfl (by omega)) rfl ?_ | refine L_e hS (e_bin rfl rfl rfl) rfl ?_); clear hS a; intro a hS
            refine L_e hS (e_assign rfl) rfl ?_; clear hS a; intro a hS
            refine L_nil ?_
            exact ⟨i + 1, by omega, (hS.slots (by repeat (first | exact trivial | refine ⟨rfl, ?_⟩))).pick (by repeat (first | exact Pick.nil | (refine Pick.cons (by repeat (first | exact Rem.head | apply Rem.tail)) ?_))), by omega⟩
      refine wp_exit ?_
      refine x_then (x_then (x_hit ?_))
      refine n_then (c_seq (c_region ?_))
      refine L_e hS (e_move rfl) rfl ?_; clear hS a; intro a hS
      refine L_e hS (e_move rfl) rfl ?_; clear hS a; intro a hS
      refine L_e hS (e_move rfl) rfl ?_; clear hS a; intro a hS
      refine L_op (s_callN hS (.cons rfl (.cons rfl (.cons rfl (.cons rfl .nil)))) cf22 rfl (fxRevalue_P B s2 bk mb usd es n at_ aBank.code (hwf2.fitL (by omega)) (by rw [hac2]; omega) hno _ (hS.get (X := ledA B s2 true) (by repeat constructor)) (hS.get (X := bothA ⟨bk, mb, bw, es, n, rows, rv⟩) (by repeat constructor)).1) ?_); clear hS a; (try clear w); intro x221 a w hS
      rw [hag] at hS
      dsimp only at hS
      obtain ⟨q29, c29, rfl⟩ := own_slice (hS.get (X := ownA 82 3 x221 ([] : List Pst).length (([] : List Pst).flatMap encP)) (by repeat constructor))
      refine L_e hS (e_move rfl) rfl ?_; clear hS a; intro a hS
      refine L_e hS (e_extract rfl rfl) rfl ?_; clear hS a; intro a hS
      refine L_e hS (e_extract rfl rfl) rfl ?_; clear hS a; intro a hS
      refine L_e hS (e_assign rfl) rfl ?_; clear hS a; intro a hS
      refine L_e hS (e_assign rfl) rfl ?_; clear hS a; intro a hS
      refine L_nil (n_then (c_seq (c_region ?_)))
      refine L_e hS (e_move rfl) rfl ?_; clear hS a; intro a hS
      refine L_op (s_callP hS (.cons rfl .nil) cf10 rfl (Num_w _ _) ?_); clear hS a; (try clear w); intro a w hS
      refine L_e hS (e_bin rfl rfl rfl) rfl ?_; clear hS a; intro a hS
      refine L_e hS (e_move rfl) rfl ?_; clear hS a; intro a hS
      replace hS := hS.is (t := 227) (c := true) rfl (rfl)
      refine L_ge hS rfl rfl (e_move rfl) rfl ?_; clear hS a; intro a hS
      refine L_ge hS rfl rfl (e_len rfl rfl ty_sl36) rfl ?_; clear hS a; intro a hS
      refine L_ge hS rfl rfl (e_bin rfl rfl rfl) rfl ?_; clear hS a; intro a hS
      refine L_e hS (e_pk rfl rfl) rfl ?_; clear hS a; intro a hS
      refine L_e hS (e_move rfl) rfl ?_; clear hS a; intro a hS
      replace hS := hS.is (t := 232) (c := true) rfl (rfl)
      refine L_ge hS rfl rfl (e_move rfl) rfl ?_; clear hS a; intro a hS
      refine L_ge hS rfl rfl (e_move rfl) rfl ?_; clear hS a; intro a hS
      refine L_go hS rfl rfl (s_callP hS (.cons rfl (.cons rfl .nil)) cf31 rfl (lSums_P B s2 at_ (by rw [hac2]; omega) (hwf2.fitL (by omega)) hz _ (hS.get (X := ledA B s2 true) (by repeat constructor))) ?_); clear hS a; (try clear w); intro a w hS
      refine L_e hS (e_pk rfl rfl) rfl ?_; clear hS a; intro a hS
      refine L_e hS (e_assign rfl) rfl ?_; clear hS a; intro a hS
      refine L_nil (n_then (wp_ret ?_))
      refine c_ret1 hS Tryz.results5 (.tmp rfl) ?_
      exact ⟨by first | rfl | simp, hS.chg⟩
end Go.Proofs.YtheofhegdjjfgaaGreat

namespace Go.Proofs.YtheofhegdjjfgaaGreat.Open
set_option maxRecDepth 100000
open Go.ChangeShapes Go.WideShapes Go.Deep
section
variable {H : Type} {enc : TypeId × Value → H}
theorem bytesPst : Tryz.prog.bytesOf 82 = 32 := by kernel_rfl
theorem bytesLO : Tryz.prog.bytesOf 38 = 104 := by kernel_rfl
theorem one3 : Tryz.prog.cellsOf 3 = 1 := by kernel_rfl
theorem one9 : Tryz.prog.cellsOf 9 = 1 := by kernel_rfl
theorem one4 : Tryz.prog.cellsOf 4 = 1 := by kernel_rfl
theorem one56 : Tryz.prog.cellsOf 36 = 1 := by kernel_rfl
theorem four68 : Tryz.prog.cellsOf 35 = 4 := by kernel_rfl
theorem eight72 : Tryz.prog.cellsOf 38 = 8 := by kernel_rfl
theorem list8 {α : Type} {l : List α} (h : l.length = 8) : ∃ a b c d e f g i, l = [a, b, c, d, e, f, g, i] := by
  match l, h with
  | [a, b, c, d, e, f, g, i], _ => exact ⟨a, b, c, d, e, f, g, i, rfl⟩
theorem open_psts_raw {W : World} {n0 : Nat} {v : Value} {y : DataW H × List MemPlace} (h : DataW.trod enc Tryz.prog W 0 (fun _ => true) true n0 36 [v] = some y) (hw : ∀ n ∈ y.1.weights Tryz.prog 36, n ≤ reachBytes) :
    ∃ l : List Pst, PsAt v l W ∧ (∀ x ∈ l, x.fits) ∧ l.length ≤ 4611686018427387904 := by
  have hu := Tryz.underlying36
  rcases open_slice_fields hu Tryz.underlying82 (by kernel_rfl) (by kernel_rfl) h with ⟨hc, _⟩ | ⟨a, len, cap, m, D, Pl, hc, _, hl, hm, hmm, hx, hi⟩
  · simp only [List.cons.injEq, and_true] at hc
    subst hc
    exact ⟨[], .inl ⟨rfl, _, _, rfl⟩, by simp, by simp⟩
  · simp only [List.cons.injEq, and_true] at hc
    subst hc
    have hx : y.1 = _ := congrArg (·.1) hx
    simp only at hx
    simp only [if_true] at hmm
    rw [hmm] at hx hi
    have each : ∀ i, i < len → ∃ x : Pst, x.fits ∧ ∀ j u, (encP x)[j]? = some u → W.cell? (a.add (i * 3 + j)) = some u := by
      intro i hil
      obtain ⟨ys, n, hD, _, hys, hfl⟩ := hi i (by omega)
      obtain ⟨v0, y0, c0, g0, t0⟩ := hfl 0 _ rfl
      obtain ⟨v1, y1, c1, g1, t1⟩ := hfl 1 _ rfl
      obtain ⟨v2, y2, c2, g2, t2⟩ := hfl 2 _ rfl
      obtain ⟨s, e0, z0, w0⟩ := DataW.trod_string Tryz.underlying9 t0
      obtain ⟨n1, e1, z1, w1⟩ := DataW.trod_int Tryz.underlying3 t1
      obtain ⟨n2, e2, z2, w2⟩ := DataW.trod_int Tryz.underlying3 t2
      simp only [List.cons.injEq, and_true] at e0 e1 e2
      subst e0 e1 e2
      have hs : s.size ≤ reachBytes := by
        refine hw _ ?_
        rw [hx]
        have h1 : s.size ∈ (D i).weights Tryz.prog 82 := by
          rw [hD]
          simp only [DataW.weights, Tryz.underlying82]
          refine DataW.weights_mem_each (j := 0) rfl (d := .lit (.string s.data.toList)) (by rw [List.getElem?_map, g0, z0]; rfl) _ ?_
          simp only [DataW.weights, List.mem_singleton]
          rfl
        have h2 := weights_all h1 (l := (List.range len).map D) (List.mem_map.2 ⟨i, List.mem_range.2 hil, rfl⟩)
        simp only [DataW.weights, hu, List.mem_cons, List.mem_append]
        exact .inr (.inl h2)
      have b1 := bounds_i64 w1
      have b2 := bounds_i64 w2
      refine ⟨⟨s, n1, n2⟩, ⟨Nat.le_trans hs (by decide), b1, b2⟩, fun j u hj => ?_⟩
      match j, hj with
      | 0, hj => cases hj; exact c0
      | 1, hj => cases hj; exact c1
      | 2, hj => cases hj; exact c2
      | (k + 3), hj => simp [encP] at hj
    have hlen : (len + (cap - len)) * 32 ≤ reachBytes := by
      have := hw ((len + (cap - len)) * Tryz.prog.bytesOf 82) (by rw [hx]; simp [DataW.weights, hu])
      rwa [bytesPst] at this
    simp only [reachBytes] at hlen
    haveI : Inhabited Pst := ⟨⟨ByteArray.empty, 0, 0⟩⟩
    obtain ⟨f, hfn⟩ := choose_lt each
    refine ⟨(List.range len).map f, ?_, ?_, by simp only [List.length_map, List.length_range]; omega⟩
    · by_cases h0 : len = 0
      · subst h0; exact .inl ⟨rfl, _, _, rfl⟩
      · have hc0 := (hfn 0 (by omega)).2 0 _ rfl
        obtain ⟨_, _, hsh, _, hsp⟩ := World.shape?_of_cell? hc0
        have hsp : a.spot = none := by
          have e : a.add (0 * 3 + 0) = a := by unfold Addr.add; rw [if_pos (by omega)]
          rw [e] at hsp; exact hsp
        have hlt : a.block < W.heap.size := by
          have e : a.add (0 * 3 + 0) = a := by unfold Addr.add; rw [if_pos (by omega)]
          rw [e] at hsh; exact shape_lt hsh
        refine .inr ⟨a.block, a.off, cap, ?_, ?_, ?_, hlt⟩
        · intro e
          have := congrArg List.length e
          simp at this; omega
        · unfold sliceV
          cases a
          simp only at hsp
          subst hsp
          simp
        · intro i x hx j u hj
          simp only [List.getElem?_map, Option.map_eq_some_iff] at hx
          obtain ⟨y, ⟨k, hk, rfl⟩, rfl⟩ := hx
          obtain ⟨hk1, hk2⟩ := List.getElem?_eq_some_iff.1 hk
          simp only [List.length_range] at hk1
          simp only [List.getElem_range] at hk2
          subst hk2
          have := (hfn i hk1).2 j u hj
          rw [add_spot hsp] at this
          rw [← this]
          simp only [Nat.add_assoc]
    · intro x hx
      obtain ⟨i, hi', rfl⟩ := List.mem_map.1 hx
      exact (hfn i (List.mem_range.1 hi')).1
theorem open_los {W : World} {base : Nat} {v : Value} {d : DataW H} {pl : List MemPlace} (hval : Value.okWide Tryz.prog W .any base 22 v) (h : DataW.Trod enc Tryz.prog W 0 (fun _ => true) true 22 v d pl) (hw : ∀ n ∈ d.weights Tryz.prog 22, n ≤ reachBytes) :
    ∃ (p : Option (Nat × Nat)) (l : List LO) (c : Nat), v = sliceV p l.length c ∧ (∀ x ∈ l, x.fits) ∧ l.length ≤ 4611686018427387904 ∧ losφ p l W ∧ ∀ r, p = some r → r.1 < W.heap.size := by
  obtain ⟨fuel, hf⟩ := h
  have hu := Tryz.underlying22
  have hsl : ∃ a len cap, v = .slice a len cap := okWide_slice hu hval
  obtain ⟨a0, len0, cap0, rfl⟩ := hsl
  rcases open_slice hu hf with ⟨hc, _⟩ | ⟨a, len, cap, m, n, D, Pl, hc, _, hl, hm, hmm, hx, hi⟩
  · simp only [Value.cells, List.cons.injEq, and_true] at hc
    rw [hc]
    exact ⟨none, [], 0, rfl, by simp, by simp, ⟨rfl, by simp⟩, by simp⟩
  · simp only [Value.cells, List.cons.injEq, and_true] at hc
    rw [hc] at hval ⊢
    obtain ⟨hsp, hlt⟩ := slice_has hu hval
    have hx : d = _ := congrArg (·.1) hx
    simp only at hx
    simp only [if_true] at hmm
    rw [hmm] at hx hi
    have each : ∀ i, i < len → ∃ x : LO, x.fits ∧ PsAt x.pv x.ps W ∧ ∀ j u, (encLO x)[j]? = some u → W.cell? (a.add (i * 8 + j)) = some u := by
      intro i hil
      obtain ⟨cs', hcs, htr⟩ := hi i (by omega)
      rw [eight72] at hcs
      obtain ⟨_, hcl, hat⟩ := World.cells?_some hcs
      obtain ⟨v0, v1, v2, v3, v4, v5, v6, v7, rfl⟩ := list8 hcl
      obtain ⟨ys, n', hn', hD, _, hys, hfl⟩ := DataW.trod_struct Tryz.underlying38 htr
      have hD : D i = .agg (ys.map (·.1)) := congrArg (·.1) hD
      have hys : ys.length = 5 := hys
      have t0 := hfl 0 ⟨ "Kind", 3, 0, false, "", "", 0⟩ rfl
      simp only at t0
      have t1 := hfl 1 ⟨ "At", 3, 1, false, "", "", 8⟩ rfl
      simp only at t1
      have t2 := hfl 2 ⟨ "A", 35, 2, false, "", "", 16⟩ rfl
      simp only at t2
      have t3 := hfl 3 ⟨ "Memo", 9, 6, false, "", "", 64⟩ rfl
      simp only at t3
      have t4 := hfl 4 ⟨ "P", 36, 7, false, "", "", 80⟩ rfl
      simp only at t4
      rw [show Tryz.prog.cellsOf 3 = 1 from one3] at t0
      rw [show Tryz.prog.cellsOf 3 = 1 from one3] at t1
      rw [show Tryz.prog.cellsOf 35 = 4 from four68] at t2
      rw [show Tryz.prog.cellsOf 9 = 1 from one9] at t3
      rw [show Tryz.prog.cellsOf 36 = 1 from one56] at t4
      have g0 : ys[0]? = some ys[0] := List.getElem?_eq_getElem (by omega)
      have g1 : ys[1]? = some ys[1] := List.getElem?_eq_getElem (by omega)
      have g2 : ys[2]? = some ys[2] := List.getElem?_eq_getElem (by omega)
      have g3 : ys[3]? = some ys[3] := List.getElem?_eq_getElem (by omega)
      have g4 : ys[4]? = some ys[4] := List.getElem?_eq_getElem (by omega)
      rw [g0] at t0
      rw [g1] at t1
      rw [g2] at t2
      rw [g3] at t3
      rw [g4] at t4
      change DataW.trod enc Tryz.prog W 0 (fun _ => true) true n' 3 [v0] = _ at t0
      change DataW.trod enc Tryz.prog W 0 (fun _ => true) true n' 3 [v1] = _ at t1
      change DataW.trod enc Tryz.prog W 0 (fun _ => true) true n' 35 [v2, v3, v4, v5] = _ at t2
      change DataW.trod enc Tryz.prog W 0 (fun _ => true) true n' 9 [v6] = _ at t3
      change DataW.trod enc Tryz.prog W 0 (fun _ => true) true n' 36 [v7] = _ at t4
      obtain ⟨zs, n2, hn2, hA, _, hzs, hfa⟩ := DataW.trod_struct Tryz.underlying35 t2
      have hA : ys[2].1 = .agg (zs.map (·.1)) := congrArg (·.1) hA
      have hzs : zs.length = 4 := hzs
      have u0 := hfa 0 ⟨ "Code", 9, 0, false, "", "", 0⟩ rfl
      simp only at u0
      have u1 := hfa 1 ⟨ "Cur", 9, 1, false, "", "", 16⟩ rfl
      simp only at u1
      have u2 := hfa 2 ⟨ "Kind", 3, 2, false, "", "", 32⟩ rfl
      simp only at u2
      have u3 := hfa 3 ⟨ "Monetary", 4, 3, false, "", "", 40⟩ rfl
      simp only at u3
      rw [show Tryz.prog.cellsOf 9 = 1 from one9] at u0
      rw [show Tryz.prog.cellsOf 9 = 1 from one9] at u1
      rw [show Tryz.prog.cellsOf 3 = 1 from one3] at u2
      rw [show Tryz.prog.cellsOf 4 = 1 from one4] at u3
      have k0 : zs[0]? = some zs[0] := List.getElem?_eq_getElem (by omega)
      have k1 : zs[1]? = some zs[1] := List.getElem?_eq_getElem (by omega)
      have k2 : zs[2]? = some zs[2] := List.getElem?_eq_getElem (by omega)
      have k3 : zs[3]? = some zs[3] := List.getElem?_eq_getElem (by omega)
      rw [k0] at u0
      rw [k1] at u1
      rw [k2] at u2
      rw [k3] at u3
      change DataW.trod enc Tryz.prog W 0 (fun _ => true) true n2 9 [v2] = _ at u0
      change DataW.trod enc Tryz.prog W 0 (fun _ => true) true n2 9 [v3] = _ at u1
      change DataW.trod enc Tryz.prog W 0 (fun _ => true) true n2 3 [v4] = _ at u2
      change DataW.trod enc Tryz.prog W 0 (fun _ => true) true n2 4 [v5] = _ at u3
      obtain ⟨n0, e0, z0, w0⟩ := DataW.trod_int Tryz.underlying3 t0
      obtain ⟨n1, e1, z1, w1⟩ := DataW.trod_int Tryz.underlying3 t1
      obtain ⟨s6, e6, z6, w6⟩ := DataW.trod_string Tryz.underlying9 t3
      obtain ⟨s2, e2, z2, w2⟩ := DataW.trod_string Tryz.underlying9 u0
      obtain ⟨s3, e3, z3, w3⟩ := DataW.trod_string Tryz.underlying9 u1
      obtain ⟨n4, e4, z4, w4⟩ := DataW.trod_int Tryz.underlying3 u2
      obtain ⟨b5, e5, z5⟩ := DataW.trod_bool Tryz.underlying4 u3
      simp only [List.cons.injEq, and_true] at e0 e1 e2 e3 e4 e5 e6
      subst e0 e1 e2 e3 e4 e5 e6
      have lift : ∀ (k : Nat), k ∈ (D i).weights Tryz.prog 38 → k ≤ reachBytes := fun k h1 => by
        refine hw _ ?_
        rw [hx]
        have h2 := weights_all h1 (l := (List.range len).map D) (List.mem_map.2 ⟨i, List.mem_range.2 hil, rfl⟩)
        simp only [DataW.weights, hu, List.mem_cons, List.mem_append]
        exact .inr (.inl h2)
      have liftA : ∀ (k : Nat), k ∈ (ys[2].1).weights Tryz.prog 35 → k ≤ reachBytes := fun k h1 => lift k (by
        rw [hD]
        simp only [DataW.weights, Tryz.underlying38]
        exact DataW.weights_mem_each (j := 2) rfl (d := ys[2].1) (by rw [List.getElem?_map, g2]; rfl) _ h1)
      have hs6 : s6.size ≤ reachBytes := lift _ (by
        rw [hD]
        simp only [DataW.weights, Tryz.underlying38]
        refine DataW.weights_mem_each (j := 3) rfl (d := .lit (.string s6.data.toList)) (by rw [List.getElem?_map, g3, z6]; rfl) _ ?_
        simp only [DataW.weights, List.mem_singleton]
        rfl)
      have hs2 : s2.size ≤ reachBytes := liftA _ (by
        rw [hA]
        simp only [DataW.weights, Tryz.underlying35]
        refine DataW.weights_mem_each (j := 0) rfl (d := .lit (.string s2.data.toList)) (by rw [List.getElem?_map, k0, z2]; rfl) _ ?_
        simp only [DataW.weights, List.mem_singleton]
        rfl)
      have hs3 : s3.size ≤ reachBytes := liftA _ (by
        rw [hA]
        simp only [DataW.weights, Tryz.underlying35]
        refine DataW.weights_mem_each (j := 1) rfl (d := .lit (.string s3.data.toList)) (by rw [List.getElem?_map, k1, z3]; rfl) _ ?_
        simp only [DataW.weights, List.mem_singleton]
        rfl)
      obtain ⟨l7, a7, b7, m7⟩ := open_psts_raw t4 (fun k hk => lift k (by
        rw [hD]
        simp only [DataW.weights, Tryz.underlying38]
        exact DataW.weights_mem_each (j := 4) rfl (d := ys[4].1) (by rw [List.getElem?_map, g4]; rfl) _ hk))
      refine ⟨⟨n0, n1, ⟨s2, s3, n4, b5⟩, s6, l7, v7⟩, ⟨bounds_i64 w1, Nat.le_trans hs2 (by decide), Nat.le_trans hs3 (by decide), Nat.le_trans hs6 (by decide), ⟨b7, m7⟩⟩, a7, fun j u hj => ?_⟩
      have hjl : j < 8 := (List.getElem?_eq_some_iff.1 hj).1
      rw [← add_add, hat j hjl]
      exact hj
    have hlen : (len + (cap - len)) * 104 ≤ reachBytes := by
      have := hw ((len + (cap - len)) * Tryz.prog.bytesOf 38) (by rw [hx]; simp [DataW.weights, hu])
      rwa [bytesLO] at this
    simp only [reachBytes] at hlen
    haveI : Inhabited LO := ⟨⟨0, 0, noAcc, ByteArray.empty, [], .nilFunc⟩⟩
    obtain ⟨f, hfn⟩ := choose_lt each
    refine ⟨some (a.block, a.off), (List.range len).map f, cap, ?_, ?_, by simp only [List.length_map, List.length_range]; omega, ⟨?_, ?_⟩, ?_⟩
    · unfold sliceV
      cases a
      simp only at hsp
      subst hsp
      simp
    · intro x hx
      obtain ⟨i, hi', rfl⟩ := List.mem_map.1 hx
      exact (hfn i (List.mem_range.1 hi')).1
    · intro i x hx j u hj
      simp only [List.getElem?_map, Option.map_eq_some_iff] at hx
      obtain ⟨y, ⟨k, hk, rfl⟩, rfl⟩ := hx
      obtain ⟨hk1, hk2⟩ := List.getElem?_eq_some_iff.1 hk
      simp only [List.length_range] at hk1
      simp only [List.getElem_range] at hk2
      subst hk2
      have := (hfn i hk1).2.2 j u hj
      rw [add_spot hsp] at this
      rw [← this]
      simp only [Nat.add_assoc]
    · intro x hx
      obtain ⟨i, hi', rfl⟩ := List.mem_map.1 hx
      exact (hfn i (List.mem_range.1 hi')).2.1
    · rintro r hr
      cases hr
      exact hlt
end
end Go.Proofs.YtheofhegdjjfgaaGreat.Open

namespace Go.Proofs.YtheofhegdjjfgaaGreat.fxWorth
open Go.ChangeShapes Go.WideShapes Go.ChangeAt Go.RowKit Go.Joins
open Go.ChangeMaps (open_string shut_string)
theorem own : ownKnob Tryz.prog.godebug = none := by kernel_rfl
theorem laidOut : laidOutB Tryz.prog = true := by kernel_rfl
set_option maxRecDepth 100000 in
theorem lifted (os : Os) (started : os.Started) (H : Type) (enc : TypeId × Value → H) :
    ReturnsInHanded {} Tryz.checked os 5 .any (Rows.fxWorthSpec.pre6 enc Tryz.prog Tryz.f5 Rows.fxWorthRow.domain false) (Rows.fxWorthSpec.post enc Tryz.prog Tryz.f5 false true false false) := by
  refine returnsInHanded_of_change_sized (C := Tryz.checked) own started (by kernel_rfl) Tryz.func5
    (ChangeSpec.witness6 (enc := enc) (C := Tryz.checked) false ⟨#[], #[.slice none 0 0, .slice none 0 0, .int .i64 0], []⟩ 8 (by kernel_rfl) (by kernel_rfl) (by kernel_rfl) (by kernel_rfl)) ?_
  intro W base args ds gs before hval0 hW hcnd hsz0 _
  have hval : ∀ (j : Nat) t v, Tryz.f5.params[j]? = some t → args[j]? = some v → Value.okWide Tryz.prog W .any base t v := hval0
  have hW' := hW
  obtain ⟨p, q, hA0, hV, rfl, hfz, hnd⟩ := hW
  have hsz : (DataW.weightsEach Tryz.prog (Tryz.f5.params.toList ++ Rows.fxWorthSpec.plain.varTypes Tryz.prog) (ds ++ gs)).all (· ≤ reachBytes) = true := hsz0
  have hA : DataW.TrodAll enc Tryz.prog W 0 (fun _ => true) true Tryz.f5.params.toList args.toList ds p := hA0
  rw [Tryz.params5] at hA hval hsz
  obtain ⟨v0, vs0, d0, ds0, p0, q0, hargs, rfl, rfl, h0, r0⟩ := trodAll_cons hA
  obtain ⟨v1, vs1, d1, ds1, p1, q1, rfl, rfl, rfl, h1, r1⟩ := trodAll_cons r0
  obtain ⟨v2, vs2, d2, ds2, p2, q2, rfl, rfl, rfl, h2, r2⟩ := trodAll_cons r1
  obtain ⟨rfl, rfl, rfl⟩ := trodAll_nil r2
  obtain rfl : args = #[v0, v1, v2] := by cases args; simp_all
  obtain ⟨rfl, rfl⟩ := trodVars_none hV
  have k0 := h0
  have lt0 : ∀ x ∈ p0, x.block < W.heap.size := by obtain ⟨m, hm⟩ := k0; exact DataW.trod_lt m _ _ _ hm
  have z0 : ∀ n ∈ d0.weights Tryz.prog 22, n ≤ reachBytes := fun n hn => by simpa using List.all_eq_true.1 hsz n (DataW.weights_mem_each (j := 0) (t := 22) (d := d0) rfl rfl n hn)
  obtain ⟨s0, l0, c0, rfl, f0, m0, e0, g0⟩ := Open.open_los (hval 0 22 v0 rfl rfl) h0 z0
  have k1 := h1
  have lt1 : ∀ x ∈ p1, x.block < W.heap.size := by obtain ⟨m, hm⟩ := k1; exact DataW.trod_lt m _ _ _ hm
  have z1 : ∀ n ∈ d1.weights Tryz.prog 41, n ≤ reachBytes := fun n hn => by simpa using List.all_eq_true.1 hsz n (DataW.weights_mem_each (j := 1) (t := 41) (d := d1) rfl rfl n hn)
  obtain ⟨s1, l1, c1, rfl, y1, f1, m1, e1, g1⟩ := Open.open_sets (hval 1 41 v1 rfl rfl) h1 z1
  have k2 := h2
  have lt2 : ∀ x ∈ p2, x.block < W.heap.size := by obtain ⟨m, hm⟩ := k2; exact DataW.trod_lt m _ _ _ hm
  obtain ⟨a2, rfl, rfl, rfl, w2⟩ := open_int Tryz.underlying3 (hval 2 3 v2 rfl rfl) h2
  have b2 := bounds_i64 w2
  have hw := FxWorth_P s0 c0 l0 m0 f0 s1 c1 l1 m1 f1 a2 W e0 g0 e1 g1
  clear hA0 hval0
  refine hw.mono fun e W' ⟨he, hchg⟩ => ?_
  have bel := hchg.below
  subst he
  exact ⟨_, rfl, _, _, _, [], _, [], hW', trodAll_mk1 (shut_bool Tryz.underlying4 _), (trodAll_cons_mk (Below.trod laidOut (by kernel_rfl) (of_decide_eq_true (by kernel_rfl)) k0 bel lt0) (trodAll_cons_mk (Below.trod laidOut (by kernel_rfl) (of_decide_eq_true (by kernel_rfl)) k1 bel lt1) (trodAll_cons_mk (Below.trod laidOut (by kernel_rfl) (of_decide_eq_true (by kernel_rfl)) k2 bel lt2) trodAll_mk0))), rfl, bel.frame _, fun h => by cases h⟩
theorem over : Rows.fxWorthRow.holds Tryz.pinned (OpenSpec.ofChange Rows.fxWorthSpec) :=
  OpenClaim.holds_of_wide 5 Tryz.f5 rfl rfl rfl rfl rfl rfl rfl ⟨rfl, rfl, rfl, rfl, rfl⟩ rfl rfl rfl rfl rfl (by kernel_rfl) Tryz.func5 (by kernel_rfl)
    (of_decide_eq_true (by kernel_rfl)) (by unfold Func.isWrapper; first | (rw [if_pos (by decide +kernel)]; kernel_rfl) | (rw [if_neg (by decide +kernel)]; exact ⟨rfl, rfl⟩))
    (fun os started H enc _ => lifted os started H enc)
theorem proved : Rows.FxWorthSaid := over
end Go.Proofs.YtheofhegdjjfgaaGreat.fxWorth
