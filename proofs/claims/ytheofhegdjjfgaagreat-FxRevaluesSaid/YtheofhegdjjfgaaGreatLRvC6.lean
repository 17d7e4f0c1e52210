/- FxRevalues: for every argument the law returns true, and each argument reads afterwards as it read before. No conditions. (text 6 of 6) -/
import Derived.Test.YtheofhegdjjfgaaGreatLRvC5
import Derived.Deep.Slices
import Derived.Deep.Fields
import Derived.ChangeSame
import Derived.SizedLaws
import Derived.OpenShut
import Derived.Lib.SmallJoins
import Derived.Laws.LoneSync
import Derived.ProofKit
import Derived.ShutString
import Derived.ChangeOld
import Derived.Below
namespace Go.Proofs.YtheofhegdjjfgaaGreat
open Go.RowKit
theorem dif_def (own : ByteArray) (l : List (ByteArray × List (Int × Int))) (P : PL) (at_ : Int) (a : Acc) : difF own l P at_ a = if (balF P a.code at_).2 ≠ 0 then (0, (balF P a.code at_).2)
 else if (balF P a.code at_).1.2.1 = 0 ∧ (balF P a.code at_).1.2.2 = 0 then (0, 0)
 else if (worthF own l (balF P a.code at_).1.2.1 a.cur at_).2 ≠ 0 then (0, (worthF own l (balF P a.code at_).1.2.1 a.cur at_).2)
 else narrowF ((worthF own l (balF P a.code at_).1.2.1 a.cur at_).1 - (balF P a.code at_).1.2.2) := rfl
structure rrφ (b : Nat) (r : RS) (bw : Nat) (own : ByteArray) (rows : List RR) (v : Value) (w : World) : Prop where
 l : rlφ b r w
 t : refφ bw own rows v w
def rrA (b : Nat) (r : RS) (bw : Nat) (own : ByteArray) (rows : List RR) (v : Value) : Asn := .any (fun k => rlF b r k ∨ refF bw v k) (rrφ b r bw own rows v) false
theorem rr_ok {b : Nat} {r : RS} {bw : Nat} {own : ByteArray} {rows : List RR} {v : Value} {w : World} (h1 : rlφ b r w) (h2 : refφ bw own rows v w) : (rrA b r bw own rows v).ok w := by
 have a := rl_ok false h1
 have c := ref_ok false h2
 exact ⟨fun k hk => hk.elim (fun hk => a.lt k hk) (fun hk => c.lt k hk), fun w' hw => ⟨a.hold w' (fun k hk => hw k (.inl hk)), c.hold w' (fun k hk => hw k (.inr hk))⟩⟩
theorem rr_cell {Γ : List Asn} {b : Nat} {r : RS} {bw : Nat} {own : ByteArray} {rows : List RR} {u : Value} (hm : rrA b r bw own rows u ∈ Γ) {k : Nat} {v : Value} (hv : (rlC r)[k]? = some v) : ∀ w, Hd Γ w → w.cell? ⟨b, k, none⟩ = some v := fun _ hh => cell_of_blk (rlφ.bk (rrφ.l (hh _ hm))) hv
theorem rr_bk {Γ : List Asn} {b : Nat} {r : RS} {bw : Nat} {own : ByteArray} {rows : List RR} {u : Value} (hm : rrA b r bw own rows u ∈ Γ) {k : Nat} {v : Value} (hv : [Value.string own, u][k]? = some v) : ∀ w, Hd Γ w → w.cell? ⟨bw, k, none⟩ = some v := fun _ hh => cell_of_blk (refφ.bk (rrφ.t (hh _ hm))) hv
theorem rr_rowA {Γ : List Asn} {b : Nat} {r : RS} {bw : Nat} {own : ByteArray} {rows : List RR} {u : Value} {g c : Nat} (hsv : r.av = .slice (some ⟨g, 0, none⟩) r.acs.length c) (hm : rrA b r bw own rows u ∈ Γ) {i : Nat} {x : Acc} (hx : r.acs[i]? = some x) : ∀ w, Hd Γ w → ∀ j v, (encAc x)[j]? = some v → w.cell? ⟨g, 0 + i * 4 + j, none⟩ = some v := by
 intro w hh j v hj
 have h := rlφ.ra (rrφ.l (hh _ hm))
 rw [hsv] at h
 have h1 := flat_get encAc 4 (fun _ => rfl) r.acs i x hx j v hj
 have h2 := World.ownsRow.cells h (g := g) rfl _ _ h1
 rw [addr_add] at h2
 rw [← h2]; congr 2; omega
set_option maxHeartbeats 4000000 in
set_option maxRecDepth 100000 in
theorem xRevalue_P (b : Nat) (r : RS) (bw : Nat) (own : ByteArray) (rows : List RR) (v : Value) (l : L2) (P : PL) (hrel : relR r P) (hn : (codesA P.acs).Nodup) (hR : okR r) (hlen : rows.length ≤ 1000000) (hw : ∀ u c t, rworthF own rows u c t = worthF own l u c t) (at_ : Int) (gain : ByteArray) (w0 : World) (h1 : rlφ b r w0) (h2 : refφ bw own rows v w0) :
 NewC Tryz.prog 23 [.pointer (some ⟨b, 0, none⟩), .pointer (some ⟨bw, 0, none⟩), .int .i64 at_, .string gain] w0 (fun v : Value => .tuple [v, .int .i64 (revF own l P at_ gain).2].toArray) (fun v => ownA 124 3 v (revF own l P at_ gain).1.length ((revF own l P at_ gain).1.flatMap encP)) := by
 obtain ⟨pA, cA, hav, hsh⟩ := rl_shA h1
 have hacs := hR.acs
 have hra : r.acs = accsL P.acs := hrel.acs
 have hrc : r.cur = P.cur := hrel.cur
 have hal : (accsL P.acs).length = r.acs.length := by rw [hra]
 have hfa : findA r.acs gain = findA P.acs gain := by rw [hra]; exact findA_accs hn gain
 have hac : accOf r.acs gain = accOf P.acs gain := by rw [hra]; exact curOf_accs hn gain
 have hbr := fun c => bal_rel hrel hn c at_
 have hrl := fun i => rv_len own l P at_ ((accsL P.acs).take i)
 have hrs := fun i => rv_sum own l P at_ ((accsL P.acs).take i)
 unfold revF
 refine c_enter [(0, .pointer (some ⟨b, 0, none⟩)), (1, .pointer (some ⟨bw, 0, none⟩)), (2, .int .i64 at_), (3, .string gain)] [rrA b r bw own rows v] noB Tryz.func23 rfl Tryz.ntmps23 ⟨rfl, rfl, rfl, rfl, trivial⟩ rfl (okC (rr_ok h1 h2) okN) dis1 (mineC (by rfl) mineN) ?_
 intro a hS
 refine cS (cR ?_)
 refine Rn hS (.a rfl <| .a rfl .n) ?_; clear hS a; intro a hS
 refine nL (nT (cS (cS ?_)))
 refine c_drawS [] (by kernel_rfl) hS (sub_cons (X := rrA b r bw own rows v) (by repeat constructor) sub_nil) ?_; clear hS; intro w hS
 simp only [List.length_cons, List.length_nil, Nat.zero_add, Nat.reduceAdd, List.replicate]
 refine Rz hS (sub_cons (by repeat constructor) sub_nil) (.o 0 (tf 1 8) rfl wN (e_move rfl) rfl <| .o 1 (tf 2 7) rfl wN (e_nilCheck rfl) rfl <| .o 2 (tf 3 6) rfl wN (e_fa0 rfl ty_fo66_0) rfl <| .y 3 (tf 4 5) rfl wN (e_loadC rfl ty_sc9 (rr_cell (k := 0) (v := .string r.cur) (by repeat constructor) rfl)) rfl <| .o 4 (tf 5 4) rfl wN (e_move rfl) rfl <| .o 5 (tf 6 3) rfl wN (e_nilCheck rfl) rfl <| .o 6 (tf 7 2) rfl wN (e_fa0 rfl ty_fo120_0) rfl <| .y 7 (tf 8 1) rfl wN (e_loadC rfl ty_sc9 (rr_bk (k := 0) (v := .string own) (by repeat constructor) rfl)) rfl <| .o 8 (tf 9 0) rfl wN (e_binS rfl rfl rfl) rfl .n) ?_; clear hS a; intro a hS
 refine Z_done (by kernel_rfl) ?_
 refine nT ?_
 refine c_ifD hS rfl (fun hc32 => ?_) (fun hc32 => ?_)
 ·
  refine cS (cR ?_)
  refine Rn hS (.a rfl <| .a rfl .n) ?_; clear hS a; intro a hS
  refine nL (nT (wp_ret (r_then ?_)))
  refine c_retN hS Tryz.results23 (.cons (.tmp rfl) (.cons (.tmp rfl) .nil)) rfl ?_
  rw [if_pos (by rw [← hrc]; exact hc32)]
  exact ⟨.slice none 0 0, rfl, hS.chg, nil_new⟩
 have hco : r.cur = own := Classical.byContradiction fun e => hc32 e
 rw [if_neg (by rw [← hrc]; exact hc32)]
 refine wS (nT (cS (cR ?_)))
 refine Rn hS (.m rfl <| .m rfl .n) ?_; clear hS a; intro a hS
 refine L_op (s_callP hS (.cons rfl (.cons rfl .nil)) cf46 rfl (rlFind_P b r gain (by omega) _ (hS.gg (X := rrA b r bw own rows v)).l) ?_); clear hS a; intro a w hS
 rw [hfa, hac] at hS
 refine Rn hS (.m rfl <| .c (e_extract rfl rfl) <| .c (e_extract rfl rfl) .n) ?_; clear hS a; intro a hS
 refine L_op (s_alloc hS ty_z51 rfl ?_); clear hS a; intro a w b10 hS
 refine L_op (s_storeA hS rfl rfl ty_sz51 (by repeat constructor) (by rfl) (by rfl) (by rfl) ?_); clear hS; intro w hS
 refine L_e hS (e_assign rfl) rfl ?_; clear hS a; intro a hS
 refine nL (nT (cS (cS (cR ?_))))
 refine Rn hS (.m rfl <| .c (e_not rfl) .n) ?_; clear hS a; intro a hS
 refine nL (nT ?_)
 refine c_if hS rfl (fun hc40 => ?_) (fun hc40 => ?_)
 ·
  refine cS (cR ?_)
  refine Rn hS (.a rfl <| .a rfl .n) ?_; clear hS a; intro a hS
  refine nL (nT (wp_ret (r_then ?_)))
  refine c_retN hS Tryz.results23 (.cons (.tmp rfl) (.cons (.tmp rfl) .nil)) rfl ?_
  rw [if_pos (show (findA P.acs gain).isSome = false from by simpa using hc40)]
  exact ⟨.slice none 0 0, rfl, hS.chg, nil_new⟩
 have hfs : ¬ (findA P.acs gain).isSome = false := by
  have h3 : (findA P.acs gain).isSome = true := by simpa using hc40
  rw [h3]; decide
 rw [if_neg hfs]
 refine wS (nT (cS (cS ?_)))
 refine c_drawS [] (by kernel_rfl) hS (sub_cons (X := .blk b10 (encAc (accOf P.acs gain)) 51) (by repeat constructor) (sub_cons (X := rrA b r bw own rows v) (by repeat constructor) sub_nil)) ?_; clear hS; intro w hS
 simp only [List.length_cons, List.length_nil, Nat.zero_add, Nat.reduceAdd, List.replicate]
 refine Rz hS (sub_cons (by repeat constructor) (sub_cons (by repeat constructor) sub_nil)) (.o 0 (tf 1 6) rfl wN (e_fa0 rfl ty_fo51_1) rfl <| .y 1 (tf 2 5) rfl wN (e_load rfl (by repeat constructor) ty_sc9 (by rfl)) rfl <| .o 2 (tf 3 4) rfl wN (e_move rfl) rfl <| .o 3 (tf 4 3) rfl wN (e_nilCheck rfl) rfl <| .o 4 (tf 5 2) rfl wN (e_fa0 rfl ty_fo66_0) rfl <| .y 5 (tf 6 1) rfl wN (e_loadC rfl ty_sc9 (rr_cell (k := 0) (v := .string r.cur) (by repeat constructor) rfl)) rfl .n) ?_; clear hS a; intro a hS
 rw [hco] at hS
 refine Zt0 6 (tf 7 0) hS rfl want_none (e_binS rfl rfl rfl) rfl (by kernel_rfl) rfl ?_; clear hS a; intro a hS
 refine Z_done (by kernel_rfl) ?_
 refine nT ?_
 refine c_ifD hS rfl (fun hc47 => ?_) (fun hc47 => ?_)
 ·
  refine cS (cR ?_)
  refine Rn hS (.a rfl <| .a rfl .n) ?_; clear hS a; intro a hS
  refine nL (nT (wp_ret (r_then ?_)))
  refine c_retN hS Tryz.results23 (.cons (.tmp rfl) (.cons (.tmp rfl) .nil)) rfl ?_
  rw [if_pos hc47]
  exact ⟨.slice none 0 0, rfl, hS.chg, nil_new⟩
 rw [if_neg hc47]
 refine wS (nT (cS (cR ?_)))
 refine L_e hS (e_assign rfl) rfl ?_; clear hS a; intro a hS
 refine nL (nT (cS (cR ?_)))
 refine L_e hS (e_build ty_z139 ty_pl139 .nil) rfl ?_; clear hS a; intro a hS
 refine L_op (s_alloc hS ty_z139 rfl ?_); clear hS a; intro a w b13 hS
 refine L_op (s_storeA hS rfl rfl ty_sz139 (by repeat constructor) (by rfl) (by rfl) (by rfl) ?_); clear hS; intro w hS
 refine nL (nT (cS (cS (cR ?_))))
 refine L_e hS (e_assign rfl) rfl ?_; clear hS a; intro a hS
 refine nL (nT (wB ?_))
 replace hS := hS.own_nil 124 3
 replace hS := hS.swap (X := .blk b13 [.bool false, .slice none 0 0] 139) (Y := .blk b13 [.bool (decide (sumFn (rvOut own l P at_ ((accsL P.acs).take 0)) < 0)), sliceV none (dgs (sumFn (rvOut own l P at_ ((accsL P.acs).take 0))).natAbs).length 0] 139) (by repeat constructor) (by rw [show sumFn (rvOut own l P at_ ((accsL P.acs).take 0)) = 0 from rfl, dg_len0]; exact hS.ok (.blk b13 [.bool false, .slice none 0 0] 139) (by repeat constructor)) (fun _ hb => hb) rfl
 replace hS := (hS.more (Y := dgP (sumFn (rvOut own l P at_ ((accsL P.acs).take 0))) none) dgP0 (fun b hb => by obtain ⟨off, e⟩ := hb; cases e))
 refine c_loop (γ := Nat × Value × Option (Nat × Nat) × Nat) (fun G a w => St 154 noB w0 a w [(14, .int .i64 (G.1 : Int)), (13, .pointer (some ⟨b13, 0, none⟩)), (12, G.2.1), (0, .pointer (some ⟨b, 0, none⟩)), (1, .pointer (some ⟨bw, 0, none⟩)), (2, .int .i64 at_), (3, .string gain)] [ownA 124 3 G.2.1 (rvOut own l P at_ ((accsL P.acs).take G.1)).length ((rvOut own l P at_ ((accsL P.acs).take G.1)).flatMap encP), .blk b13 [.bool (decide (sumFn (rvOut own l P at_ ((accsL P.acs).take G.1)) < 0)), sliceV G.2.2.1 (dgs (sumFn (rvOut own l P at_ ((accsL P.acs).take G.1))).natAbs).length G.2.2.2] 139, dgP (sumFn (rvOut own l P at_ ((accsL P.acs).take G.1))) G.2.2.1, rrA b r bw own rows v] ∧ G.1 ≤ r.acs.length ∧ (∀ j, j < G.1 → ∀ y, (accsL P.acs)[j]? = some y → ¬ rvBad own l P at_ y) ∧ (G.2.2.1 = none → G.2.2.2 = 0) ∧ (dgs (sumFn (rvOut own l P at_ ((accsL P.acs).take G.1))).natAbs).length ≤ G.2.2.2) (fun G => r.acs.length - G.1) (0, .slice none 0 0, none, 0) ⟨(hS.slots (by repeat (first | exact trivial | refine ⟨rfl, ?_⟩))).pick (by repeat (first | exact Pick.nil | (refine Pick.cons (by repeat (first | exact Rem.head | apply Rem.tail)) ?_))), Nat.zero_le _, fun j hj => by simp only at hj; omega, fun _ => rfl, by show (dgs (0 : Int).natAbs).length ≤ 0; rw [dg_len0]; exact Nat.le_refl _⟩ ?_
 clear hS a; intro G a w hI
 obtain ⟨i, out, p2, d2⟩ := G
 obtain ⟨hS, hi, hgd, hp0, hd0⟩ := hI
 simp only at hS hi hgd hp0 hd0
 have hrl' := hrl i
 have hrs' := hrs i
 have htl : ((accsL P.acs).take i).length ≤ 1000 := by rw [List.length_take]; omega
 refine cS (cS (cR ?_))
 refine Rn hS (.m rfl <| .m rfl <| .c (e_nilCheck rfl) <| .c (e_fa0 rfl ty_fo66_1) <| .c (e_loadC rfl ty_sc63 (rr_cell (k := 1) (by repeat constructor) rfl)) .n) ?_; clear hS a; intro a hS
 rw [hav] at hS
 refine Rn hS (.c (e_len rfl rfl ty_sl63) <| .c (e_bin rfl rfl rfl) .n) ?_; clear hS a; intro a hS
 refine nL (nT ?_)
 refine c_ifD hS rfl (fun hc55 => ?_) (fun hc55 => ?_)
 ·
  have hil : i < r.acs.length := by omega
  obtain ⟨x, hx⟩ : ∃ x, (accsL P.acs)[i]? = some x := ⟨(accsL P.acs)[i]'(by omega), List.getElem?_eq_getElem (by omega)⟩
  have hxr : r.acs[i]? = some x := by rw [hra]; exact hx
  obtain ⟨gA, rfl⟩ : ∃ g, pA = some ⟨g, 0, none⟩ := by rcases hsh with ⟨_, e⟩ | e; exact absurd e (by omega); exact e
  have htk := rv_take (own := own) (l := l) (P := P) (at_ := at_) hx
  have hdb := dif_bd own l P at_ x
  have hdf := dif_def own l P at_ x
  generalize hO : rvOut own l P at_ ((accsL P.acs).take i) = O at hS htk hrl' hrs' hd0
  refine wS (nT (cS (wB (cS (cR ?_)))))
  refine Rn hS (.m rfl <| .c (e_nilCheck rfl) <| .c (e_fa0 rfl ty_fo66_1) <| .c (e_loadC rfl ty_sc63 (rr_cell (k := 1) (by repeat constructor) rfl)) .n) ?_; clear hS a; intro a hS
  rw [hav] at hS
  refine Rn hS (.m rfl <| .c (e_ixN rfl rfl ty_sl63 ty_sz51 (by omega)) <| .c (e_loadAC (l := encAc x) rfl ty_st51 ty_sz51 (rr_rowA (by rw [hav]) (by repeat constructor) hxr)) .n) ?_; clear hS a; intro a hS
  refine L_op (s_alloc hS ty_z51 rfl ?_); clear hS a; intro a w b15 hS
  refine L_op (s_storeA hS rfl rfl ty_sz51 (by repeat constructor) (by rfl) (by rfl) (by rfl) ?_); clear hS; intro w hS
  refine nL (nT (cS (cS ?_)))
  refine c_drawS [] (by kernel_rfl) hS (sub_cons (X := .blk b15 (encAc x) 51) (by repeat constructor) (sub_cons (X := rrA b r bw own rows v) (by repeat constructor) sub_nil)) ?_; clear hS; intro w hS
  simp only [List.length_cons, List.length_nil, Nat.zero_add, Nat.reduceAdd, List.replicate]
  refine Rz hS (sub_cons (by repeat constructor) (sub_cons (by repeat constructor) sub_nil)) (.o 0 (tf 1 11) rfl wN (e_fa0 rfl ty_fo51_3) rfl <| .y 1 (tf 2 10) rfl wN (e_load rfl (by repeat constructor) ty_sc4 (by rfl)) rfl <| .o 2 (tf 3 9) rfl wN (e_not rfl) rfl <| .o 3 (tf 4 8) rfl wN (e_move rfl) rfl .n) ?_; clear hS a; intro a hS
  refine Z_merge 0 (tf 12 0) 76 (.bool (decide (¬ isF own x))) hS ?_ ?_
  · intro hcM76
    refine g_split (t := 68) hS rfl ?_ ?_ <;> (clear hS; intro hg68 hS)
    ·
     refine Ry hS (.f 4 (tf 5 7) rfl rfl rfl rfl <| .f 5 (tf 6 6) rfl rfl rfl rfl <| .f 6 (tf 7 5) rfl rfl rfl rfl <| .f 7 (tf 8 4) rfl rfl rfl rfl <| .f 8 (tf 9 3) rfl rfl rfl rfl <| .f 9 (tf 10 2) rfl rfl rfl rfl <| .f 10 (tf 11 1) rfl rfl rfl rfl <| .o 11 (tf 12 0) rfl wN (e_pick_t rfl rfl) rfl .n) ?_; clear hS a; intro a hS
     exact hcM76 _ _ (hS.ends 9 76 68 rfl (congrArg Value.bool (by exact (decide_eq_true (show ¬ isF own x from fun e => by have h3 := e.1; simp [h3] at hg68)).symm)) rfl rfl (by first | exact congrArg Value.bool (decide_eq_true hg68).symm | exact congrArg Value.bool hg68.symm | simp [hg68]) rfl)
    refine Rz hS (sub_cons (by repeat constructor) (sub_cons (by repeat constructor) sub_nil)) (.o 4 (tf 5 7) rfl (want_go rfl rfl) (e_fa0 rfl ty_fo51_1) rfl <| .y 5 (tf 6 6) rfl (want_go rfl rfl) (e_load rfl (by repeat constructor) ty_sc9 (by rfl)) rfl <| .o 6 (tf 7 5) rfl (want_go rfl rfl) (e_move rfl) rfl <| .o 7 (tf 8 4) rfl (want_go rfl rfl) (e_nilCheck rfl) rfl <| .o 8 (tf 9 3) rfl (want_go rfl rfl) (e_fa0 rfl ty_fo66_0) rfl <| .y 9 (tf 10 2) rfl (want_go rfl rfl) (e_loadC rfl ty_sc9 (rr_cell (k := 0) (v := .string r.cur) (by repeat constructor) rfl)) rfl .n) ?_; clear hS a; intro a hS
    rw [hco] at hS
    refine Ry hS (.o 10 (tf 11 1) rfl (want_go rfl rfl) (e_binS rfl rfl rfl) rfl <| .o 11 (tf 12 0) rfl wN (e_pick_f rfl rfl) rfl .n) ?_; clear hS a; intro a hS
    exact hcM76 _ _ (hS.ends 9 76 68 rfl (congrArg Value.bool (by rw [decide_eq_decide]; exact ⟨fun e e2 => e2.2 e, fun e => Classical.byContradiction fun e2 => e ⟨by simpa using hg68, e2⟩⟩)) rfl rfl (by first | exact congrArg Value.bool (decide_eq_false hg68).symm | exact congrArg Value.bool hg68.symm | simp [hg68]) rfl)
  · clear hS a; intro a w hS
    refine Z_done (by kernel_rfl) ?_
    refine nT ?_
    refine c_ifD hS rfl (fun hc76 => ?_) (fun hc76 => ?_)
    ·
     refine wp_exit ?_
     refine x_then (x_hit ?_)
     refine nT (cR ?_)
     refine Rn hS (.m rfl <| .c (e_binN rfl rfl rfl (by omega)) <| .a rfl .n) ?_; clear hS a; intro a hS
     refine nL ?_
     have hstep : (difF own l P at_ x).2 = 0 ∨ ¬ isF own x → ∀ j, j < i + 1 → ∀ y, (accsL P.acs)[j]? = some y → ¬ rvBad own l P at_ y := fun hz j hj y hy => by
      by_cases e : j = i
      · subst e; rw [hx] at hy; cases hy
        exact fun e2 => hz.elim (fun e3 => e2.2 e3) (fun e3 => e3 e2.1)
      · exact hgd j (by omega) y hy
     first
     | (have hno : ¬ isF own x := hc76
        have hone : rvOne own l P at_ x = [] := if_neg (fun e => hno e.1)
        rw [hone, List.append_nil] at htk
        refine ⟨(i + 1, out, p2, d2), by simp only; omega, ?_, by simp only; omega, hstep (.inr hno), hp0, by simp only; rw [htk]; exact hd0⟩
        simp only
        rw [htk]
        exact (hS.slots (by repeat (first | exact trivial | refine ⟨rfl, ?_⟩))).pick (by repeat (first | exact Pick.nil | (refine Pick.cons (by repeat (first | exact Rem.head | apply Rem.tail)) ?_))))
     | (have hz : x2 = 0 ∧ x3 = 0 := hc95
        have hone : rvOne own l P at_ x = [] := if_neg (fun e => e.2 (by rw [hdf]))
        rw [hone, List.append_nil] at htk
        refine ⟨(i + 1, out, p2, d2), by simp only; omega, ?_, by simp only; omega, hstep (.inl (by rw [hdf])), hp0, by simp only; rw [htk]; exact hd0⟩
        simp only
        rw [htk]
        exact (hS.slots (by repeat (first | exact trivial | refine ⟨rfl, ?_⟩))).pick (by repeat (first | exact Pick.nil | (refine Pick.cons (by repeat (first | exact Rem.head | apply Rem.tail)) ?_))))
     | (have hz : W1 = x3 := hc113
        have hone : rvOne own l P at_ x = [] := if_neg (fun e => e.2 (by rw [hdf]))
        rw [hone, List.append_nil] at htk
        refine ⟨(i + 1, out, p2, d2), by simp only; omega, ?_, by simp only; omega, hstep (.inl (by rw [hdf])), hp0, by simp only; rw [htk]; exact hd0⟩
        simp only
        rw [htk]
        exact (hS.slots (by repeat (first | exact trivial | refine ⟨rfl, ?_⟩))).pick (by repeat (first | exact Pick.nil | (refine Pick.cons (by repeat (first | exact Rem.head | apply Rem.tail)) ?_))))
     | (have hone : rvOne own l P at_ x = [⟨x.code, 0, W1 - x3⟩] := by
          have h3 : isF own x ∧ (difF own l P at_ x).1 ≠ 0 := ⟨hisF, by rw [hdf]; exact hne0⟩
          unfold rvOne; rw [if_pos h3, hdf]
        rw [hone] at htk
        have e1 : (O ++ [(⟨x.code, 0, W1 - x3⟩ : Pst)]).length = O.length + 1 := by simp
        have e2 : (O ++ [(⟨x.code, 0, W1 - x3⟩ : Pst)]).flatMap encP = O.flatMap encP ++ encP ⟨x.code, 0, W1 - x3⟩ := by simp
        have e3 : sumFn (O ++ [(⟨x.code, 0, W1 - x3⟩ : Pst)]) = sumFn O + (W1 - x3) := by
          rw [sumFn_append, sumFn_cons]; simp only [sumFn, List.foldl]; omega
        replace hS := hS.swap (X := bigA (sumFn O + (W1 - x3)) x136.1.1) (Y := dgP (sumFn O + (W1 - x3)) (some (x136.1.1, 0))) (by repeat constructor) (dgP_of (hS.ok (bigA (sumFn O + (W1 - x3)) x136.1.1) (by repeat constructor))) (fun b hb => by obtain ⟨off, e⟩ := hb; cases e; rfl) rfl
        refine ⟨(i + 1, v132, some (x136.1.1, 0), x136.1.2), by simp only; omega, ?_, by simp only; omega, hstep (.inl (by rw [hdf])), (fun e => by cases e), by simp only; rw [htk, e3]; exact x136.2⟩
        simp only
        rw [htk, e1, e2, e3]
        exact (hS.slots (by repeat (first | exact trivial | refine ⟨rfl, ?_⟩))).pick (by repeat (first | exact Pick.nil | (refine Pick.cons (by repeat (first | exact Rem.head | apply Rem.tail)) ?_))))
    have hisF : isF own x := Classical.byContradiction fun e => hc76 e
    refine wS (nT (cS (cR ?_)))
    refine Rn hS (.m rfl <| .c (e_fa0 rfl ty_fo51_0) <| .c (e_load rfl (by repeat constructor) ty_sc9 (by rfl)) <| .m rfl .n) ?_; clear hS a; intro a hS
    refine L_op (s_callP hS (.cons rfl (.cons rfl (.cons rfl .nil))) cf38 rfl (rlBal_P b r x.code at_ hR _ (hS.gg (X := rrA b r bw own rows v)).l) ?_); clear hS a; intro a w hS
    rw [hbr x.code] at hS
    have hbb := balF_in P x.code at_
    generalize hX : balF P x.code at_ = X at hS hdf hbb
    obtain ⟨⟨x1, x2, x3⟩, xe⟩ := X
    dsimp only at hS hdf hbb
    obtain ⟨hb2, hb3⟩ := hbb
    unfold inU at hb2 hb3
    refine Rn hS (.m rfl <| .c (e_extract rfl rfl) <| .c (e_extract rfl rfl) .n) ?_; clear hS a; intro a hS
    refine L_op (s_alloc hS ty_z92 rfl ?_); clear hS a; intro a w b16 hS
    refine L_op (s_storeA hS rfl rfl ty_sz92 (by repeat constructor) (by rfl) (by rfl) (by rfl) ?_); clear hS; intro w hS
    refine L_e hS (e_assign rfl) rfl ?_; clear hS a; intro a hS
    refine nL (nT (cS (cS (cR ?_))))
    refine Rn hS (.m rfl <| .c (e_bin rfl rfl rfl) .n) ?_; clear hS a; intro a hS
    refine nL (nT ?_)
    refine c_ifD hS rfl (fun hc86 => ?_) (fun hc86 => ?_)
    ·
     refine cS (cR ?_)
     refine Rn hS (.m rfl <| .a rfl <| .a rfl .n) ?_; clear hS a; intro a hS
     refine nL (nT (wp_ret ?_))
     refine r_then (r_block (r_then (r_then (r_block (r_then ?_)))))
     refine c_retN hS Tryz.results23 (.cons (.tmp rfl) (.cons (.tmp rfl) .nil)) rfl ?_
     rw [if_pos hc86] at hdf
     have hbad : rvBad own l P at_ x := ⟨hisF, by rw [hdf]; exact hc86⟩
     have hre := rv_bad hx hbad hgd
     rw [hdf] at hre
     rw [if_pos (by rw [hre]; exact hc86), hre]
     exact ⟨.slice none 0 0, rfl, hS.chg, nil_new⟩
    rw [if_neg hc86] at hdf
    refine wS (nT (cS (cS (cR ?_))))
    refine Rn hS (.c (e_fa0 rfl ty_fo92_1) <| .c (e_load rfl (by repeat constructor) ty_sc3 (by rfl)) <| .c (e_bin rfl rfl rfl) <| .m rfl .n) ?_; clear hS a; intro a hS
    refine L_merge 4 95 (.bool (decide (x2 = 0 ∧ x3 = 0))) hS ?_ ?_
    · intro hcM95
      refine g_splitD (t := 91) hS rfl ?_ ?_ <;> (clear hS; intro hg91 hS)
      ·
       refine Rn hS (.g rfl rfl (e_fa0 rfl ty_fo92_2) <| .g rfl rfl (e_load rfl (by repeat constructor) ty_sc3 (by rfl)) <| .g rfl rfl (e_bin rfl rfl rfl) <| .c (e_pick_t rfl rfl) .n) ?_; clear hS a; intro a hS
       exact hcM95 _ _ (hS.ends 5 95 91 rfl (congrArg Value.bool (by rw [decide_eq_decide]; exact ⟨fun e => ⟨hg91, e⟩, fun e => e.2⟩)) rfl rfl (by first | exact congrArg Value.bool (decide_eq_true hg91).symm | exact congrArg Value.bool hg91.symm | simp [hg91]) rfl)
      refine Rn hS (.t rfl rfl <| .t rfl rfl <| .t rfl rfl <| .c (e_pick_f rfl rfl) .n) ?_; clear hS a; intro a hS
      exact hcM95 _ _ (hS.ends 5 95 91 rfl (congrArg Value.bool (by exact (decide_eq_false (fun e => hg91 e.1)).symm)) rfl rfl (by first | exact congrArg Value.bool (decide_eq_false hg91).symm | exact congrArg Value.bool hg91.symm | simp [hg91]) rfl)
    · clear hS a; intro a w hS
      simp only [List.drop_succ_cons, List.drop_zero]
      refine nL (nT ?_)
      refine c_ifD hS rfl (fun hc95 => ?_) (fun hc95 => ?_)
      ·
       rw [if_pos hc95] at hdf
       refine wp_exit ?_
       refine x_then (x_hit ?_)
       refine nT (cR ?_)
       refine Rn hS (.m rfl <| .c (e_binN rfl rfl rfl (by omega)) <| .a rfl .n) ?_; clear hS a; intro a hS
       refine nL ?_
       have hstep : (difF own l P at_ x).2 = 0 ∨ ¬ isF own x → ∀ j, j < i + 1 → ∀ y, (accsL P.acs)[j]? = some y → ¬ rvBad own l P at_ y := fun hz j hj y hy => by
        by_cases e : j = i
        · subst e; rw [hx] at hy; cases hy
          exact fun e2 => hz.elim (fun e3 => e2.2 e3) (fun e3 => e3 e2.1)
        · exact hgd j (by omega) y hy
       first
       | (have hno : ¬ isF own x := hc76
          have hone : rvOne own l P at_ x = [] := if_neg (fun e => hno e.1)
          rw [hone, List.append_nil] at htk
          refine ⟨(i + 1, out, p2, d2), by simp only; omega, ?_, by simp only; omega, hstep (.inr hno), hp0, by simp only; rw [htk]; exact hd0⟩
          simp only
          rw [htk]
          exact (hS.slots (by repeat (first | exact trivial | refine ⟨rfl, ?_⟩))).pick (by repeat (first | exact Pick.nil | (refine Pick.cons (by repeat (first | exact Rem.head | apply Rem.tail)) ?_))))
       | (have hz : x2 = 0 ∧ x3 = 0 := hc95
          have hone : rvOne own l P at_ x = [] := if_neg (fun e => e.2 (by rw [hdf]))
          rw [hone, List.append_nil] at htk
          refine ⟨(i + 1, out, p2, d2), by simp only; omega, ?_, by simp only; omega, hstep (.inl (by rw [hdf])), hp0, by simp only; rw [htk]; exact hd0⟩
          simp only
          rw [htk]
          exact (hS.slots (by repeat (first | exact trivial | refine ⟨rfl, ?_⟩))).pick (by repeat (first | exact Pick.nil | (refine Pick.cons (by repeat (first | exact Rem.head | apply Rem.tail)) ?_))))
       | (have hz : W1 = x3 := hc113
          have hone : rvOne own l P at_ x = [] := if_neg (fun e => e.2 (by rw [hdf]))
          rw [hone, List.append_nil] at htk
          refine ⟨(i + 1, out, p2, d2), by simp only; omega, ?_, by simp only; omega, hstep (.inl (by rw [hdf])), hp0, by simp only; rw [htk]; exact hd0⟩
          simp only
          rw [htk]
          exact (hS.slots (by repeat (first | exact trivial | refine ⟨rfl, ?_⟩))).pick (by repeat (first | exact Pick.nil | (refine Pick.cons (by repeat (first | exact Rem.head | apply Rem.tail)) ?_))))
       | (have hone : rvOne own l P at_ x = [⟨x.code, 0, W1 - x3⟩] := by
            have h3 : isF own x ∧ (difF own l P at_ x).1 ≠ 0 := ⟨hisF, by rw [hdf]; exact hne0⟩
            unfold rvOne; rw [if_pos h3, hdf]
          rw [hone] at htk
          have e1 : (O ++ [(⟨x.code, 0, W1 - x3⟩ : Pst)]).length = O.length + 1 := by simp
          have e2 : (O ++ [(⟨x.code, 0, W1 - x3⟩ : Pst)]).flatMap encP = O.flatMap encP ++ encP ⟨x.code, 0, W1 - x3⟩ := by simp
          have e3 : sumFn (O ++ [(⟨x.code, 0, W1 - x3⟩ : Pst)]) = sumFn O + (W1 - x3) := by
            rw [sumFn_append, sumFn_cons]; simp only [sumFn, List.foldl]; omega
          replace hS := hS.swap (X := bigA (sumFn O + (W1 - x3)) x136.1.1) (Y := dgP (sumFn O + (W1 - x3)) (some (x136.1.1, 0))) (by repeat constructor) (dgP_of (hS.ok (bigA (sumFn O + (W1 - x3)) x136.1.1) (by repeat constructor))) (fun b hb => by obtain ⟨off, e⟩ := hb; cases e; rfl) rfl
          refine ⟨(i + 1, v132, some (x136.1.1, 0), x136.1.2), by simp only; omega, ?_, by simp only; omega, hstep (.inl (by rw [hdf])), (fun e => by cases e), by simp only; rw [htk, e3]; exact x136.2⟩
          simp only
          rw [htk, e1, e2, e3]
          exact (hS.slots (by repeat (first | exact trivial | refine ⟨rfl, ?_⟩))).pick (by repeat (first | exact Pick.nil | (refine Pick.cons (by repeat (first | exact Rem.head | apply Rem.tail)) ?_))))
      rw [if_neg hc95] at hdf
      refine wS (nT (cS (cR ?_)))
      refine Rn hS (.m rfl <| .c (e_fa0 rfl ty_fo92_1) <| .c (e_load rfl (by repeat constructor) ty_sc3 (by rfl)) <| .c (e_fa0 rfl ty_fo51_1) <| .c (e_load rfl (by repeat constructor) ty_sc9 (by rfl)) <| .c (e_build ty_z141 ty_pl141 (.one rfl rfl rfl (by repeat constructor) (.one rfl rfl rfl (by repeat constructor) .nil))) <| .m rfl .n) ?_; clear hS a; intro a hS
      refine L_op (s_callP hS (.cons rfl (.cons rfl (.cons rfl .nil))) cf59 rfl (rWorth_P bw own x.cur rows v x2 at_ hlen _ (hS.gg (X := rrA b r bw own rows v)).t) ?_); clear hS a; intro a w hS
      rw [hw] at hS
      have hwb := worthF_in own l x2 x.cur at_
      generalize hW : worthF own l x2 x.cur at_ = W at hS hwb hdf
      obtain ⟨W1, We⟩ := W
      dsimp only at hS hwb hdf
      unfold inU at hwb
      refine Rn hS (.m rfl <| .c (e_extract rfl rfl) <| .c (e_extract rfl rfl) <| .a rfl <| .a rfl .n) ?_; clear hS a; intro a hS
      refine nL (nT (cS (cS (cR ?_))))
      refine Rn hS (.m rfl <| .c (e_bin rfl rfl rfl) .n) ?_; clear hS a; intro a hS
      refine nL (nT ?_)
      refine c_ifD hS rfl (fun hc108 => ?_) (fun hc108 => ?_)
      ·
       refine cS (cR ?_)
       refine Rn hS (.m rfl <| .a rfl <| .a rfl .n) ?_; clear hS a; intro a hS
       refine nL (nT (wp_ret ?_))
       refine r_then (r_block (r_then (r_then (r_block (r_then ?_)))))
       refine c_retN hS Tryz.results23 (.cons (.tmp rfl) (.cons (.tmp rfl) .nil)) rfl ?_
       rw [if_pos hc108] at hdf
       have hbad : rvBad own l P at_ x := ⟨hisF, by rw [hdf]; exact hc108⟩
       have hre := rv_bad hx hbad hgd
       rw [hdf] at hre
       rw [if_pos (by rw [hre]; exact hc108), hre]
       exact ⟨.slice none 0 0, rfl, hS.chg, nil_new⟩
      rw [if_neg hc108] at hdf
      refine wS (nT (cS (cS (cR ?_))))
      refine Rn hS (.m rfl <| .c (e_fa0 rfl ty_fo92_2) <| .c (e_load rfl (by repeat constructor) ty_sc3 (by rfl)) <| .c (e_bin rfl rfl rfl) .n) ?_; clear hS a; intro a hS
      refine nL (nT ?_)
      refine c_ifD hS rfl (fun hc113 => ?_) (fun hc113 => ?_)
      ·
       have hz0 : W1 - x3 = 0 := by
        have h3 : W1 = x3 := hc113
        omega
       rw [hz0, show narrowF 0 = (0, 0) from by decide] at hdf
       refine wp_exit ?_
       refine x_then (x_hit ?_)
       refine nT (cR ?_)
       refine Rn hS (.m rfl <| .c (e_binN rfl rfl rfl (by omega)) <| .a rfl .n) ?_; clear hS a; intro a hS
       refine nL ?_
       have hstep : (difF own l P at_ x).2 = 0 ∨ ¬ isF own x → ∀ j, j < i + 1 → ∀ y, (accsL P.acs)[j]? = some y → ¬ rvBad own l P at_ y := fun hz j hj y hy => by
        by_cases e : j = i
        · subst e; rw [hx] at hy; cases hy
          exact fun e2 => hz.elim (fun e3 => e2.2 e3) (fun e3 => e3 e2.1)
        · exact hgd j (by omega) y hy
       first
       | (have hno : ¬ isF own x := hc76
          have hone : rvOne own l P at_ x = [] := if_neg (fun e => hno e.1)
          rw [hone, List.append_nil] at htk
          refine ⟨(i + 1, out, p2, d2), by simp only; omega, ?_, by simp only; omega, hstep (.inr hno), hp0, by simp only; rw [htk]; exact hd0⟩
          simp only
          rw [htk]
          exact (hS.slots (by repeat (first | exact trivial | refine ⟨rfl, ?_⟩))).pick (by repeat (first | exact Pick.nil | (refine Pick.cons (by repeat (first | exact Rem.head | apply Rem.tail)) ?_))))
       | (have hz : x2 = 0 ∧ x3 = 0 := hc95
          have hone : rvOne own l P at_ x = [] := if_neg (fun e => e.2 (by rw [hdf]))
          rw [hone, List.append_nil] at htk
          refine ⟨(i + 1, out, p2, d2), by simp only; omega, ?_, by simp only; omega, hstep (.inl (by rw [hdf])), hp0, by simp only; rw [htk]; exact hd0⟩
          simp only
          rw [htk]
          exact (hS.slots (by repeat (first | exact trivial | refine ⟨rfl, ?_⟩))).pick (by repeat (first | exact Pick.nil | (refine Pick.cons (by repeat (first | exact Rem.head | apply Rem.tail)) ?_))))
       | (have hz : W1 = x3 := hc113
          have hone : rvOne own l P at_ x = [] := if_neg (fun e => e.2 (by rw [hdf]))
          rw [hone, List.append_nil] at htk
          refine ⟨(i + 1, out, p2, d2), by simp only; omega, ?_, by simp only; omega, hstep (.inl (by rw [hdf])), hp0, by simp only; rw [htk]; exact hd0⟩
          simp only
          rw [htk]
          exact (hS.slots (by repeat (first | exact trivial | refine ⟨rfl, ?_⟩))).pick (by repeat (first | exact Pick.nil | (refine Pick.cons (by repeat (first | exact Rem.head | apply Rem.tail)) ?_))))
       | (have hone : rvOne own l P at_ x = [⟨x.code, 0, W1 - x3⟩] := by
            have h3 : isF own x ∧ (difF own l P at_ x).1 ≠ 0 := ⟨hisF, by rw [hdf]; exact hne0⟩
            unfold rvOne; rw [if_pos h3, hdf]
          rw [hone] at htk
          have e1 : (O ++ [(⟨x.code, 0, W1 - x3⟩ : Pst)]).length = O.length + 1 := by simp
          have e2 : (O ++ [(⟨x.code, 0, W1 - x3⟩ : Pst)]).flatMap encP = O.flatMap encP ++ encP ⟨x.code, 0, W1 - x3⟩ := by simp
          have e3 : sumFn (O ++ [(⟨x.code, 0, W1 - x3⟩ : Pst)]) = sumFn O + (W1 - x3) := by
            rw [sumFn_append, sumFn_cons]; simp only [sumFn, List.foldl]; omega
          replace hS := hS.swap (X := bigA (sumFn O + (W1 - x3)) x136.1.1) (Y := dgP (sumFn O + (W1 - x3)) (some (x136.1.1, 0))) (by repeat constructor) (dgP_of (hS.ok (bigA (sumFn O + (W1 - x3)) x136.1.1) (by repeat constructor))) (fun b hb => by obtain ⟨off, e⟩ := hb; cases e; rfl) rfl
          refine ⟨(i + 1, v132, some (x136.1.1, 0), x136.1.2), by simp only; omega, ?_, by simp only; omega, hstep (.inl (by rw [hdf])), (fun e => by cases e), by simp only; rw [htk, e3]; exact x136.2⟩
          simp only
          rw [htk, e1, e2, e3]
          exact (hS.slots (by repeat (first | exact trivial | refine ⟨rfl, ?_⟩))).pick (by repeat (first | exact Pick.nil | (refine Pick.cons (by repeat (first | exact Rem.head | apply Rem.tail)) ?_))))
      refine wS (nT (cS ?_))
      refine c_drawS [] (by kernel_rfl) hS (sub_cons (X := .blk b16 _ _) (by repeat constructor) sub_nil) ?_; clear hS; intro w hS
      simp only [List.length_cons, List.length_nil, Nat.zero_add, Nat.reduceAdd, List.replicate]
      refine Rz hS (sub_cons (by repeat constructor) sub_nil) (.o 0 (tf 1 11) rfl wN (e_move rfl) rfl <| .o 2 [true, false, true, false, false, false, false, false, false, false, false, false] rfl wN (e_fa0 rfl ty_fo92_2) rfl <| .y 3 [true, false, true, true, false, false, false, false, false, false, false, false] rfl wN (e_load rfl (by repeat constructor) ty_sc3 (by rfl)) rfl .n) ?_; clear hS a; intro a hS
      refine Zo 1 (tf 4 8) hS rfl wN rfl (s_callN hS (.cons rfl .nil) cf62 rfl (BigOf_P W1 (by omega) _) ?_); clear hS a; intro x116 a w hS
      refine Z_and hS (sub_cons (by repeat constructor) sub_nil) ?_
      refine Zo 4 (tf 5 7) hS rfl wN rfl (s_callN hS (.cons rfl .nil) cf62 rfl (BigOf_P x3 (by omega) _) ?_); clear hS a; intro x119 a w hS
      refine Z_and hS (sub_cons (by repeat constructor) sub_nil) ?_
      refine Zo 5 (tf 6 6) hS rfl wN rfl (s_callN hS (.cons rfl (.cons rfl .nil)) cf61 rfl (BigSub_P (some (x116.1.1, 0)) (some (x119.1.1, 0)) x116.1.2 x119.1.2 (fun e => by cases e) W1 x3 x119.2 20 (by decide) (len20 (by omega)) (len20 (by omega)) _ (two_bb hS (by repeat constructor) (by repeat constructor))) ?_); clear hS a; intro x120 a w hS
      refine Z_and hS (sub_cons (by repeat constructor) sub_nil) ?_
      refine Zo 6 (tf 7 5) hS rfl wN rfl (s_callP hS (.cons rfl .nil) cf60 rfl (xUnits_P (some (x120.1.1, 0)) x120.1.2 (W1 - x3) (by have := len20 (z := W1 - x3) (by omega); omega) _ (one_of hS (z := W1 - x3) (b := x120.1.1) (by repeat constructor))) ?_); clear hS a; intro a w hS
      refine Z_and hS (sub_cons (by repeat constructor) sub_nil) ?_
      refine Ry hS (.o 7 (tf 8 4) rfl wN (e_move rfl) rfl <| .o 8 (tf 9 3) rfl wN (e_extract rfl rfl) rfl <| .o 9 (tf 10 2) rfl wN (e_extract rfl rfl) rfl <| .o 10 (tf 11 1) rfl wN (e_assign rfl) rfl <| .o 11 (tf 12 0) rfl wN (e_assign rfl) rfl .n) ?_; clear hS a; intro a hS
      refine Z_done (by kernel_rfl) ?_
      refine nT (cS (cS (cR ?_)))
      refine Rn hS (.m rfl <| .c (e_not rfl) .n) ?_; clear hS a; intro a hS
      refine nL (nT ?_)
      refine c_if hS rfl (fun hc125 => ?_) (fun hc125 => ?_)
      ·
       refine cS (cR ?_)
       refine Rn hS (.a rfl <| .a rfl .n) ?_; clear hS a; intro a hS
       refine nL (nT (wp_ret ?_))
       refine r_then (r_block (r_then (r_then (r_block (r_then ?_)))))
       refine c_retN hS Tryz.results23 (.cons (.tmp rfl) (.cons (.tmp rfl) .nil)) rfl ?_
       have hni : ¬ inU (W1 - x3) := by simpa using hc125
       rw [show narrowF (W1 - x3) = (0, 16) from if_neg hni] at hdf
       have hbad : rvBad own l P at_ x := ⟨hisF, by rw [hdf]; decide⟩
       have hre := rv_bad hx hbad hgd
       rw [hdf] at hre
       rw [if_pos (by rw [hre]; decide), hre]
       exact ⟨.slice none 0 0, rfl, hS.chg, nil_new⟩
      have hni : inU (W1 - x3) := by simpa using hc125
      rw [show narrowF (W1 - x3) = (W1 - x3, 0) from if_pos hni] at hdf
      have hne0 : W1 - x3 ≠ 0 := fun e => hc113 (show W1 = x3 by omega)
      have hnb : inU (W1 - x3) := hni
      unfold inU at hnb
      rw [i64R_in hni] at hS
      refine wS (nT (cS (cR ?_)))
      refine Rn hS (.m rfl <| .c (e_fa0 rfl ty_fo51_0) <| .c (e_load rfl (by repeat constructor) ty_sc9 (by rfl)) <| .m rfl <| .c (e_build ty_z124 ty_pl124 (.one rfl rfl rfl (by repeat constructor) (.one rfl rfl rfl (by repeat constructor) (.one rfl rfl rfl (by repeat constructor) .nil)))) .n) ?_; clear hS a; intro a hS
      refine L_op (s_bslice hS ty_sl54 ty_sz124 ty_z124 rfl rfl rfl rfl (.agg rfl rfl .nil) rfl ?_); clear hS a; intro a w b131 hS
      refine L_op (s_append1 hS rfl rfl ty_sl54 ty_sz124 ty_by124 ty_z124 rfl rfl rfl (by repeat constructor) (by repeat constructor) (by rfl) (by rfl) (fun _ => (by repeat constructor)) (by omega) ?_); clear hS a; intro v132 a w hv132 hS
      refine L_e hS (e_assign rfl) rfl ?_; clear hS a; intro a hS
      refine nL (nT ?_)
      refine c_drawS [4] (by kernel_rfl) hS (sub_cons (X := .blk b13 _ _) (by repeat constructor) sub_nil) ?_; clear hS; intro w hS
      simp only [List.length_cons, List.length_nil, Nat.zero_add, Nat.reduceAdd, List.replicate]
      refine Rz hS (sub_cons (by repeat constructor) sub_nil) (.y 0 (tf 1 4) rfl wN (e_loadA rfl (by repeat constructor) ty_st139 ty_sz139 (by rfl)) rfl <| .o 1 (tf 2 3) rfl wN (e_move rfl) rfl .n) ?_; clear hS a; intro a hS
      refine Zo 2 (tf 3 2) hS rfl wN rfl (s_callN hS (.cons rfl .nil) cf62 rfl (BigOf_P (W1 - x3) (by omega) _) ?_); clear hS a; intro x135 a w hS
      refine Z_and hS (sub_cons (by repeat constructor) sub_nil) ?_
      have hA := BigAdd_P p2 (some (x135.1.1, 0)) d2 x135.1.2 (sumFn O) (W1 - x3) 20 (by decide) (len20 (by omega)) (len20 (by omega)) _ (two_ok (hS.gg (X := dgP (sumFn O) p2)) (hS.gg (X := bigA (W1 - x3) x135.1.1)) (fun r e => (hS.ok (dgP (sumFn O) p2) (by repeat constructor)).lt r.1 ⟨r.2, e⟩) (fun r e => by cases e; exact (hS.ok (bigA (W1 - x3) x135.1.1) (by repeat constructor)).lt _ rfl))
      refine Zo 3 (tf 4 1) hS rfl wN rfl (s_callN hS (.cons rfl (.cons rfl .nil)) cf63 rfl (hA) ?_); clear hS a; intro x136 a w hS
      clear hA
      refine Z_and hS (sub_cons (by repeat constructor) sub_nil) ?_
      refine Zo 4 (tf 5 0) hS rfl wN rfl (s_storeA hS rfl rfl ty_sz139 (by repeat constructor) (by rfl) (by rfl) (by rfl) ?_); clear hS; intro w hS
      refine Z_last (by simp) ?_
      refine Z_done (by kernel_rfl) ?_
      refine n_block (nT (cR ?_))
      refine Rn hS (.m rfl <| .c (e_binN rfl rfl rfl (by omega)) <| .a rfl .n) ?_; clear hS a; intro a hS
      refine nL ?_
      have hstep : (difF own l P at_ x).2 = 0 ∨ ¬ isF own x → ∀ j, j < i + 1 → ∀ y, (accsL P.acs)[j]? = some y → ¬ rvBad own l P at_ y := fun hz j hj y hy => by
       by_cases e : j = i
       · subst e; rw [hx] at hy; cases hy
         exact fun e2 => hz.elim (fun e3 => e2.2 e3) (fun e3 => e3 e2.1)
       · exact hgd j (by omega) y hy
      first
      | (have hno : ¬ isF own x := hc76
         have hone : rvOne own l P at_ x = [] := if_neg (fun e => hno e.1)
         rw [hone, List.append_nil] at htk
         refine ⟨(i + 1, out, p2, d2), by simp only; omega, ?_, by simp only; omega, hstep (.inr hno), hp0, by simp only; rw [htk]; exact hd0⟩
         simp only
         rw [htk]
         exact (hS.slots (by repeat (first | exact trivial | refine ⟨rfl, ?_⟩))).pick (by repeat (first | exact Pick.nil | (refine Pick.cons (by repeat (first | exact Rem.head | apply Rem.tail)) ?_))))
      | (have hz : x2 = 0 ∧ x3 = 0 := hc95
         have hone : rvOne own l P at_ x = [] := if_neg (fun e => e.2 (by rw [hdf]))
         rw [hone, List.append_nil] at htk
         refine ⟨(i + 1, out, p2, d2), by simp only; omega, ?_, by simp only; omega, hstep (.inl (by rw [hdf])), hp0, by simp only; rw [htk]; exact hd0⟩
         simp only
         rw [htk]
         exact (hS.slots (by repeat (first | exact trivial | refine ⟨rfl, ?_⟩))).pick (by repeat (first | exact Pick.nil | (refine Pick.cons (by repeat (first | exact Rem.head | apply Rem.tail)) ?_))))
      | (have hz : W1 = x3 := hc113
         have hone : rvOne own l P at_ x = [] := if_neg (fun e => e.2 (by rw [hdf]))
         rw [hone, List.append_nil] at htk
         refine ⟨(i + 1, out, p2, d2), by simp only; omega, ?_, by simp only; omega, hstep (.inl (by rw [hdf])), hp0, by simp only; rw [htk]; exact hd0⟩
         simp only
         rw [htk]
         exact (hS.slots (by repeat (first | exact trivial | refine ⟨rfl, ?_⟩))).pick (by repeat (first | exact Pick.nil | (refine Pick.cons (by repeat (first | exact Rem.head | apply Rem.tail)) ?_))))
      | (have hone : rvOne own l P at_ x = [⟨x.code, 0, W1 - x3⟩] := by
           have h3 : isF own x ∧ (difF own l P at_ x).1 ≠ 0 := ⟨hisF, by rw [hdf]; exact hne0⟩
           unfold rvOne; rw [if_pos h3, hdf]
         rw [hone] at htk
         have e1 : (O ++ [(⟨x.code, 0, W1 - x3⟩ : Pst)]).length = O.length + 1 := by simp
         have e2 : (O ++ [(⟨x.code, 0, W1 - x3⟩ : Pst)]).flatMap encP = O.flatMap encP ++ encP ⟨x.code, 0, W1 - x3⟩ := by simp
         have e3 : sumFn (O ++ [(⟨x.code, 0, W1 - x3⟩ : Pst)]) = sumFn O + (W1 - x3) := by
           rw [sumFn_append, sumFn_cons]; simp only [sumFn, List.foldl]; omega
         replace hS := hS.swap (X := bigA (sumFn O + (W1 - x3)) x136.1.1) (Y := dgP (sumFn O + (W1 - x3)) (some (x136.1.1, 0))) (by repeat constructor) (dgP_of (hS.ok (bigA (sumFn O + (W1 - x3)) x136.1.1) (by repeat constructor))) (fun b hb => by obtain ⟨off, e⟩ := hb; cases e; rfl) rfl
         refine ⟨(i + 1, v132, some (x136.1.1, 0), x136.1.2), by simp only; omega, ?_, by simp only; omega, hstep (.inl (by rw [hdf])), (fun e => by cases e), by simp only; rw [htk, e3]; exact x136.2⟩
         simp only
         rw [htk, e1, e2, e3]
         exact (hS.slots (by repeat (first | exact trivial | refine ⟨rfl, ?_⟩))).pick (by repeat (first | exact Pick.nil | (refine Pick.cons (by repeat (first | exact Rem.head | apply Rem.tail)) ?_))))
 obtain rfl : i = r.acs.length := by omega
 rw [← hal, List.take_length] at hS hrl' hrs' hd0
 have hgood : rvErr own l P at_ (accsL P.acs) = 0 := rv_good (fun j hj => hgd j (by omega))
 rw [if_neg (fun e => e hgood)]
 generalize hO : rvOut own l P at_ (accsL P.acs) = O at hS hrl' hrs' hd0 ⊢
 obtain ⟨qo, co, rfl⟩ := own_slice (hS.gg (X := ownA 124 3 out O.length (O.flatMap encP)))
 refine wp_exit ?_
 refine x_then (x_then (x_hit ?_))
 refine nT (cS (cS (cR ?_)))
 refine Rn hS (.m rfl <| .c (e_len rfl rfl ty_sl54) <| .c (e_bin rfl rfl rfl) .n) ?_; clear hS a; intro a hS
 refine nL (nT ?_)
 refine c_ifD hS rfl (fun hc139 => ?_) (fun hc139 => ?_)
 ·
  refine cS (cR ?_)
  refine Rn hS (.a rfl <| .a rfl .n) ?_; clear hS a; intro a hS
  refine nL (nT (wp_ret (r_then ?_)))
  refine c_retN hS Tryz.results23 (.cons (.tmp rfl) (.cons (.tmp rfl) .nil)) rfl ?_
  have hO0 : O = [] := List.eq_nil_of_length_eq_zero (by omega)
  rw [if_pos hO0]
  exact ⟨.slice none 0 0, rfl, hS.chg, nil_new⟩
 have hO0 : ¬ O = [] := fun e => hc139 (by rw [e]; rfl)
 rw [if_neg hO0]
 refine wS (nT (cS (cR ?_)))
 refine L_e hS (e_loadA rfl (by repeat constructor) ty_st139 ty_sz139 (by rfl)) rfl ?_; clear hS a; intro a hS
 refine L_op (s_callN hS (.cons rfl .nil) cf64 rfl (BigNeg_P p2 d2 hp0 (sumFn O) hd0 (by have := len20 (z := sumFn O) (by omega); omega) _ (hS.gg (X := dgP (sumFn O) p2)) (fun r e => (hS.ok (dgP (sumFn O) p2) (by repeat constructor)).lt r.1 ⟨r.2, e⟩)) ?_); clear hS a; intro x142 a w hS
 refine L_op (s_callP hS (.cons rfl .nil) cf60 rfl (xUnits_P (some (x142.1.1, 0)) x142.1.2 (-(sumFn O)) (by have := len20 (z := -(sumFn O)) (by omega); omega) _ (one_of hS (z := -(sumFn O)) (b := x142.1.1) (by repeat constructor))) ?_); clear hS a; intro a w hS
 refine Rn hS (.m rfl <| .c (e_extract rfl rfl) <| .c (e_extract rfl rfl) <| .a rfl <| .a rfl .n) ?_; clear hS a; intro a hS
 refine nL (nT (cS (cS (cR ?_))))
 refine Rn hS (.m rfl <| .c (e_not rfl) .n) ?_; clear hS a; intro a hS
 refine nL (nT ?_)
 refine c_if hS rfl (fun hc147 => ?_) (fun hc147 => ?_)
 ·
  refine cS (cR ?_)
  refine Rn hS (.a rfl <| .a rfl .n) ?_; clear hS a; intro a hS
  refine nL (nT (wp_ret (r_then ?_)))
  refine c_retN hS Tryz.results23 (.cons (.tmp rfl) (.cons (.tmp rfl) .nil)) rfl ?_
  have hni : ¬ inU (-(sumFn O)) := by simpa using hc147
  rw [if_neg hni]
  exact ⟨.slice none 0 0, rfl, hS.chg, nil_new⟩
 have hni : inU (-(sumFn O)) := by simpa using hc147
 rw [if_pos hni]
 rw [i64R_in hni] at hS
 refine wS (nT (cS (cR ?_)))
 refine Rn hS (.m rfl <| .m rfl <| .m rfl <| .c (e_build ty_z124 ty_pl124 (.one rfl rfl rfl (by repeat constructor) (.one rfl rfl rfl (by repeat constructor) (.one rfl rfl rfl (by repeat constructor) .nil)))) .n) ?_; clear hS a; intro a hS
 refine L_op (s_bslice hS ty_sl54 ty_sz124 ty_z124 rfl rfl rfl rfl (.agg rfl rfl .nil) rfl ?_); clear hS a; intro a w b152 hS
 refine L_op (s_append1 hS rfl rfl ty_sl54 ty_sz124 ty_by124 ty_z124 rfl rfl rfl (by repeat constructor) (by repeat constructor) (by rfl) (by rfl) (fun _ => (by repeat constructor)) (by omega) ?_); clear hS a; intro v153 a w hv153 hS
 refine Rn hS (.a rfl <| .a rfl .n) ?_; clear hS a; intro a hS
 refine nL (nT (wp_ret ?_))
 refine c_retN hS Tryz.results23 (.cons (.tmp rfl) (.cons (.tmp rfl) .nil)) rfl ?_
 have e1 : (O ++ [(⟨gain, 0, -(sumFn O)⟩ : Pst)]).length = O.length + 1 := by simp
 have e2 : (O ++ [(⟨gain, 0, -(sumFn O)⟩ : Pst)]).flatMap encP = O.flatMap encP ++ encP ⟨gain, 0, -(sumFn O)⟩ := by simp
 refine ⟨v153, rfl, hS.chg, ?_⟩
 simp only
 rw [e1, e2]
 exact hS.new (X := ownA 124 3 v153 (O.length + 1) (O.flatMap encP ++ encP ⟨gain, 0, -(sumFn O)⟩)) (by repeat constructor) rfl
end Go.Proofs.YtheofhegdjjfgaaGreat
namespace Go.Proofs.YtheofhegdjjfgaaGreat.Open
set_option maxRecDepth 100000
open Go.ChangeShapes Go.WideShapes Go.Deep
section
variable {H : Type} {enc : TypeId × Value → H} {P : Program} {w : World} {base : Nat} {spare : Nat → Bool} {held : Bool}
theorem open_slice_fields {t e : TypeId} {fs : Array Field} {fuel : Nat} {cs : List Value} {x : DataW H × List MemPlace} (ht : P.underlying t = some (.slice e)) (he : P.underlying e = some (.struct fs))
 (hone : oneCellFields P fs = true) (hC : P.cellsOf e = fs.size) (h : DataW.trod enc P w base spare held fuel t cs = some x) :
 (cs = [.slice none 0 0] ∧ x = (.nil, [])) ∨
 ∃ (a : Addr) (len cap m : Nat) (D : Nat → DataW H) (Pl : Nat → List MemPlace), cs = [.slice (some a) len cap] ∧ base ≤ a.block ∧ len ≤ cap ∧ cap ≤ maxLen ∧ m = (if spare a.block then cap else len) ∧
  x = (.slice ((List.range len).map D) ((List.range (m - len)).map fun j => D (len + j)), MemPlace.row a (m * fs.size) ++ (List.range m).flatMap Pl) ∧
  ∀ i, i < m → ∃ (ys : List (DataW H × List MemPlace)) (n : Nat), D i = .agg (ys.map (·.1)) ∧ Pl i = ys.flatMap (·.2) ∧ ys.length = fs.size ∧
   ∀ (j : Nat) (f : Field), fs[j]? = some f → ∃ (v : Value) (y : DataW H × List MemPlace), w.cell? (a.add (i * fs.size + j)) = some v ∧ ys[j]? = some y ∧ DataW.trod enc P w base spare held n f.type [v] = some y := by
 rcases open_slice ht h with h0 | ⟨a, len, cap, m, n, D, Pl, hcs, hb, hl, hm, hmm, hx, hi⟩
 · exact .inl h0
 · refine .inr ⟨a, len, cap, m, D, Pl, hcs, hb, hl, hm, hmm, by rw [hC] at hx; exact hx, fun i him => ?_⟩
   obtain ⟨cs', hc, ht'⟩ := hi i him
   rw [hC] at hc
   obtain ⟨ys, n', hn', hy, hlen, hyl, hf⟩ := DataW.trod_struct he ht'
   obtain ⟨_, hcl, hat⟩ := World.cells?_some hc
   simp only [Prod.mk.injEq] at hy
   refine ⟨ys, n', hy.1, hy.2, hyl, fun j f hj => ?_⟩
   obtain ⟨ho, hk⟩ := hone_of hone j f hj
   have hjl : j < fs.size := (Array.getElem?_eq_some_iff.1 hj).1
   have hcell := hat j hjl
   have hv : cs'[j]? = some (cs'[j]'(by omega)) := List.getElem?_eq_getElem (by omega)
   have h1 := hf j f hj
   rw [ho, hk] at h1
   have hone' : (cs'.drop j).take 1 = [cs'[j]'(by omega)] := by
    rw [List.drop_eq_getElem_cons (by omega)]
    rfl
   rw [hone'] at h1
   have hys : ys[j]? = some (ys[j]'(by omega)) := List.getElem?_eq_getElem (by omega)
   refine ⟨_, _, ?_, hys, h1.trans hys⟩
   rw [← Go.Deep.add_add, hcell, hv]
end
section
variable {H : Type} {enc : TypeId × Value → H}
theorem weights_all {P : Program} {e : TypeId} {d : DataW H} {n : Nat} (hn : n ∈ d.weights P e) : ∀ {l : List (DataW H)}, d ∈ l → n ∈ DataW.weightsAll P e l
 | x :: r, h => by
   simp only [DataW.weightsAll, List.mem_append]
   rcases List.mem_cons.1 h with rfl | h
   · exact .inl hn
   · exact .inr (weights_all hn h)
theorem shape_lt {w : World} {b : Nat} {x : TypeId × Nat} (h : w.shape? b = some x) : b < w.heap.size := by
 unfold World.shape? at h
 by_cases hb : b < w.heap.size
 · exact hb
 · rw [Array.getElem?_eq_none (by omega)] at h; cases h
theorem add_spot {a : Addr} (h : a.spot = none) (n : Nat) : a.add n = ⟨a.block, a.off + n, none⟩ := by
 unfold Addr.add
 split
 · next h0 => subst h0; cases a; simp_all
 · rfl
theorem slice_has {W : World} {base : Nat} {t e : TypeId} {a : Addr} {len cap : Nat} (hu : Tryz.prog.underlying t = some (.slice e)) (h : Value.okWide Tryz.prog W .any base t (.slice (some a) len cap)) : a.spot = none ∧ a.block < W.heap.size := by
 unfold Value.okWide at h
 rw [hu] at h
 simp only at h
 unfold Cell.okWide at h
 rw [hu] at h
 simp only at h
 unfold Cell.ok at h
 rw [hu] at h
 simp only at h
 obtain ⟨_, _, _, hs, row, cells, hsh, _⟩ := h
 exact ⟨hs, shape_lt hsh⟩
end
end Go.Proofs.YtheofhegdjjfgaaGreat.Open
namespace Go.Proofs.YtheofhegdjjfgaaGreat.Open
set_option maxRecDepth 100000
open Go.ChangeShapes Go.WideShapes Go.Deep
section
variable {H : Type} {enc : TypeId × Value → H}
theorem bytesSet : Tryz.prog.bytesOf 117 = 32 := by kernel_rfl
theorem open_sets {W : World} {base : Nat} {v : Value} {d : DataW H} {pl : List MemPlace} (hval : Value.okWide Tryz.prog W .any base 41 v) (h : DataW.Trod enc Tryz.prog W 0 (fun _ => true) true 41 v d pl) (hw : ∀ n ∈ d.weights Tryz.prog 41, n ≤ reachBytes) :
 ∃ (p : Option (Nat × Nat)) (l : List RR) (c : Nat), v = sliceV p l.length c ∧ (p = none → c = 0) ∧ (∀ x ∈ l, rrFits x) ∧ l.length ≤ 4611686018427387904 ∧ RowP p 3 (l.map encR) W ∧ ∀ r, p = some r → r.1 < W.heap.size := by
 obtain ⟨fuel, hf⟩ := h
 have hu := Tryz.underlying41
 have hsl : ∃ a len cap, v = .slice a len cap := okWide_slice hu hval
 obtain ⟨a0, len0, cap0, rfl⟩ := hsl
 rcases open_slice_fields hu Tryz.underlying117 (by kernel_rfl) (by kernel_rfl) hf with ⟨hc, _⟩ | ⟨a, len, cap, m, D, Pl, hc, _, hl, hm, hmm, hx, hi⟩
 · simp only [Value.cells, List.cons.injEq, and_true] at hc
   rw [hc]
   exact ⟨none, [], 0, rfl, fun _ => rfl, by simp, by simp, rfl, by simp⟩
 · simp only [Value.cells, List.cons.injEq, and_true] at hc
   rw [hc] at hval ⊢
   obtain ⟨hsp, hlt⟩ := slice_has hu hval
   simp only [Prod.mk.injEq] at hx
   simp only [if_true] at hmm
   rw [hmm] at hx hi
   have each : ∀ i, i < len → ∃ x : RR, rrFits x ∧ ∀ j u, (encR x)[j]? = some u → W.cell? (a.add (i * 3 + j)) = some u := by
    intro i hil
    obtain ⟨ys, n, hD, _, hys, hfl⟩ := hi i (by omega)
    obtain ⟨v0, y0, c0, g0, t0⟩ := hfl 0 _ rfl
    obtain ⟨v1, y1, c1, g1, t1⟩ := hfl 1 _ rfl
    obtain ⟨v2, y2, c2, g2, t2⟩ := hfl 2 _ rfl
    obtain ⟨s, e0, z0, w0⟩ := DataW.trod_string Tryz.underlying9 t0
    obtain ⟨n1, e1, z1, w1⟩ := DataW.trod_int Tryz.underlying3 t1
    obtain ⟨n2, e2, z2, w2⟩ := DataW.trod_int Tryz.underlying3 t2
    simp only [List.cons.injEq, and_true] at e0 e1 e2
    subst e0 e1 e2
    have hs : s.size ≤ reachBytes := by
     refine hw _ ?_
     rw [hx.1]
     have h1 : s.size ∈ (D i).weights Tryz.prog 117 := by
      rw [hD]
      simp only [DataW.weights, Tryz.underlying117]
      refine DataW.weights_mem_each (j := 0) rfl (d := .lit (.string s.data.toList)) (by rw [List.getElem?_map, g0, z0]; rfl) _ ?_
      simp only [DataW.weights, List.mem_singleton]
      rfl
     have h2 := weights_all h1 (l := (List.range len).map D) (List.mem_map.2 ⟨i, List.mem_range.2 hil, rfl⟩)
     simp only [DataW.weights, hu, List.mem_cons, List.mem_append]
     exact .inr (.inl h2)
    have b1 := bounds_i64 w1
    have b2 := bounds_i64 w2
    refine ⟨⟨s, n1, n2⟩, ⟨Nat.le_trans hs (by decide), b1, b2⟩, fun j u hj => ?_⟩
    match j, hj with
    | 0, hj => cases hj; exact c0
    | 1, hj => cases hj; exact c1
    | 2, hj => cases hj; exact c2
    | (k + 3), hj => simp [encR] at hj
   have hlen : (len + (cap - len)) * 32 ≤ reachBytes := by
    have := hw ((len + (cap - len)) * Tryz.prog.bytesOf 117) (by rw [hx.1]; simp [DataW.weights, hu])
    rwa [bytesSet] at this
   simp only [reachBytes] at hlen
   haveI : Inhabited RR := ⟨⟨ByteArray.empty, 0, 0⟩⟩
   obtain ⟨f, hfn⟩ := choose_lt each
   refine ⟨some (a.block, a.off), (List.range len).map f, cap, ?_, by simp, ?_, by simp only [List.length_map, List.length_range]; omega, ?_, ?_⟩
   · unfold sliceV
     cases a
     simp only at hsp
     subst hsp
     simp
   · intro x hx
     obtain ⟨i, hi', rfl⟩ := List.mem_map.1 hx
     exact (hfn i (List.mem_range.1 hi')).1
   · intro i x hx j u hj
     simp only [List.getElem?_map, Option.map_eq_some_iff] at hx
     obtain ⟨y, ⟨k, hk, rfl⟩, rfl⟩ := hx
     obtain ⟨hk1, hk2⟩ := List.getElem?_eq_some_iff.1 hk
     simp only [List.length_range] at hk1
     simp only [List.getElem_range] at hk2
     subst hk2
     have := (hfn i hk1).2 j u hj
     rw [add_spot hsp] at this
     rw [← this]
     simp only [Nat.add_assoc]
   · rintro r hr
     cases hr
     exact hlt
end
end Go.Proofs.YtheofhegdjjfgaaGreat.Open
namespace Go.Proofs.YtheofhegdjjfgaaGreat
open Go.RowKit
theorem both_new (c : ByteArray) : both (newL c) (newR c) 0 :=
 ⟨⟨rfl, (List.eq_nil_of_length_eq_zero (accs_len [])).symm, rfl, rfl⟩, ⟨fun x hx => (by cases hx), Nat.le_refl _, fun x hx => (by cases hx), fun e he => (by cases he), Nat.zero_le _, fun x hx => (by cases hx), List.nodup_nil, fun c => rfl, fun x hx => (by cases hx)⟩, fun a ha => (by cases ha), fun i x hx => (by cases hx)⟩
theorem refs_rel {own : ByteArray} {l rows : List RR} (h : RefsOf own l rows) : relF (madeF own l).1 (madeF own l).2 rows := by
 induction h with
 | nil => exact relF_nil
 | @snoc l rows rows' x _ hs ih =>
   have e : madeF own (l ++ [x]) = setR own (madeF own l).1 (madeF own l).2 x.1 x.2.1 x.2.2 := by
    unfold madeF; rw [List.foldl_append]; rfl
   rw [e]
   exact rel_step ih hs
theorem wf_chart : ∀ i, i ≤ 4 → wfP ((chartL.take i).foldl openP P0) i
 | 0, _ => (both_new usdL).wf
 | i + 1, h => by
   have hx : chartL[i]? = some (chartL[i]'(by show i < 4; omega)) := List.getElem?_eq_getElem (by show i < 4; omega)
   rw [List.take_add_one, hx, List.foldl_append]
   exact wf_open (wf_chart i (by omega)) _
def inF (p : Option (Nat × Nat)) (ops : List LO) (q : Option (Nat × Nat)) (l : List RR) : Asn := .any (fun k => losF p ops k ∨ ∃ off, q = some (k, off)) (fun w => losφ p ops w ∧ RowP q 3 (l.map encR) w) false
theorem inF_ok {p q : Option (Nat × Nat)} {ops : List LO} {l : List RR} {w : World} (h : losφ p ops w) (hb : ∀ r, p = some r → r.1 < w.heap.size) (hr : RowP q 3 (l.map encR) w) (hq : ∀ r, q = some r → r.1 < w.heap.size) : (inF p ops q l).ok w := by
 have h1 := los_ok h hb
 have h2 := ok_rowP hr hq
 exact ⟨fun k hk => hk.elim (h1.lt k) (h2.lt k), fun w' hw => ⟨h1.hold w' (fun k hk => hw k (.inl hk)), h2.hold w' (fun k hk => hw k (.inr hk))⟩⟩
theorem inF_get {Γ : List Asn} {q : Option (Nat × Nat)} {b off : Nat} {ops : List LO} {l : List RR} (hm : inF (some (b, off)) ops q l ∈ Γ) {i : Nat} {x : LO} (hx : ops[i]? = some x) : ∀ w, Hd Γ w → ∀ j v, (encLO x)[j]? = some v → w.cell? ⟨b, off + i * 8 + j, none⟩ = some v :=
 fun _ hh j v hj => (hh _ hm).1.1 i (encLO x) (by simp [hx]) j v hj
set_option maxHeartbeats 4000000 in
set_option maxRecDepth 100000 in
theorem FxRevalues_P (p : Option (Nat × Nat)) (c : Nat) (ops : List LO) (hlen : ops.length ≤ 4611686018427387904) (hfit : ∀ x ∈ ops, x.fits) (q : Option (Nat × Nat)) (cq : Nat) (l : List RR) (hll : l.length ≤ 4611686018427387904) (hlf : ∀ x ∈ l, rrFits x) (at_ : Int) (gain : ByteArray) (hgain : gain.size ≤ 4611686018427387904)
 (w0 : World) (h : losφ p ops w0) (hb : ∀ r, p = some r → r.1 < w0.heap.size) (hr : RowP q 3 (l.map encR) w0) (hq : ∀ r, q = some r → r.1 < w0.heap.size) :
 PureC Tryz.prog 4 [sliceV p ops.length c, sliceV q l.length cq, .int .i64 at_, .string gain] w0 (.bool true) := by
 refine c_enter [(0, sliceV p ops.length c), (1, sliceV q l.length cq), (2, .int .i64 at_), (3, .string gain)] [inF p ops q l] noB Tryz.func4 rfl Tryz.ntmps4 ⟨rfl, rfl, rfl, rfl, trivial⟩ rfl (okC (inF_ok h hb hr hq) okN) dis1 (mineC (by rfl) mineN) ?_
 intro a hS
 refine cS (cR ?_)
 refine L_e hS (e_assign rfl) rfl ?_; clear hS a; intro a hS
 refine nL (nT (cS (cR ?_)))
 refine L_op (s_callP hS .nil cf13 rfl (fxfirst_P _) ?_); clear hS a; intro a w hS
 refine L_e hS (e_assign rfl) rfl ?_; clear hS a; intro a hS
 refine nL (nT (cS (cR ?_)))
 refine L_e hS (e_move rfl) rfl ?_; clear hS a; intro a hS
 refine L_op (s_callP hS (.cons rfl .nil) cf14 rfl (fxfew_P q cq l hll hlf _ (hS.gg (X := inF p ops q l)).2 (fun r hr => (hS.ok (inF p ops q l) (by repeat constructor)).lt r.1 (.inr ⟨r.2, hr⟩))) ?_); clear hS a; intro a w hS
 refine L_e hS (e_move rfl) rfl ?_; clear hS a; intro a hS
 refine L_merge 3 30 (.bool (decide (fewS l ∧ fewLs ops))) hS ?_ ?_
 · intro hcM30
   refine g_splitD (t := 27) hS rfl ?_ ?_ <;> (clear hS; intro hg27 hS)
   ·
    refine L_ge hS rfl rfl (e_move rfl) rfl ?_; clear hS a; intro a hS
    refine L_go hS rfl rfl (s_callP hS (.cons rfl .nil) cf7 rfl (lFew_P p c ops hlen hfit _ (hS.gg (X := inF p ops q l)).1 (fun r hr => (hS.ok (inF p ops q l) (by repeat constructor)).lt r.1 (.inl (.inl ⟨r.2, hr⟩)))) ?_); clear hS a; intro a w hS
    refine L_e hS (e_pick_t rfl rfl) rfl ?_; clear hS a; intro a hS
    exact hcM30 _ _ (hS.ends 4 30 27 rfl (congrArg Value.bool (by exact (decide_eq_decide (p := fewLs ops) (q := fewS l ∧ fewLs ops)).2 ⟨fun e => ⟨hg27, e⟩, fun e => e.2⟩)) rfl rfl (by first | exact congrArg Value.bool (decide_eq_true hg27).symm | exact congrArg Value.bool hg27.symm | simp [hg27]) rfl)
   refine Rn hS (.t rfl rfl <| .t rfl rfl <| .c (e_pick_f rfl rfl) .n) ?_; clear hS a; intro a hS
   exact hcM30 _ _ (hS.ends 4 30 27 rfl (congrArg Value.bool (by exact (decide_eq_false (fun e => hg27 e.1)).symm)) rfl rfl (by first | exact congrArg Value.bool (decide_eq_false hg27).symm | exact congrArg Value.bool hg27.symm | simp [hg27]) rfl)
 · clear hS a; intro a w hS
   simp only [List.drop_succ_cons, List.drop_zero]
   refine L_e hS (e_assign rfl) rfl ?_; clear hS a; intro a hS
   refine nL (nT (cS (cS (cR ?_))))
   refine Rn hS (.m rfl <| .c (e_not rfl) <| .m rfl .n) ?_; clear hS a; intro a hS
   replace hS := hS.is (t := 33) (c := false) rfl (rfl)
   refine Rn hS (.g rfl rfl (e_move rfl) <| .g rfl rfl (e_not rfl) <| .c (e_pick_f rfl rfl) <| .m rfl .n) ?_; clear hS a; intro a hS
   refine L_merge 4 41 (.bool (decide (¬ (fewS l ∧ fewLs ops) ∨ 300 < gain.size))) hS ?_ ?_
   · intro hcM41
     refine g_split (t := 37) hS rfl ?_ ?_ <;> (clear hS; intro hg37 hS)
     ·
      refine Rn hS (.f rfl rfl <| .f rfl rfl <| .f rfl rfl <| .c (e_pick_t rfl rfl) .n) ?_; clear hS a; intro a hS
      exact hcM41 _ _ (hS.ends 5 41 37 rfl (congrArg Value.bool (by exact (decide_eq_true (.inl (fun e => by simp [e.1, e.2] at hg37))).symm)) rfl rfl (by first | exact congrArg Value.bool (decide_eq_true hg37).symm | exact congrArg Value.bool hg37.symm | simp [hg37]) rfl)
     refine Rn hS (.g rfl rfl (e_move rfl) <| .g rfl rfl (e_lenS rfl rfl ty_u9) <| .g rfl rfl (e_bin rfl rfl rfl) <| .c (e_pick_f rfl rfl) .n) ?_; clear hS a; intro a hS
     exact hcM41 _ _ (hS.ends 5 41 37 rfl (congrArg Value.bool (by rw [decide_eq_decide]; exact ⟨fun e => .inr (by omega), fun e => by (have h3 : fewS l ∧ fewLs ops := by simpa using hg37); (have e2 := e.resolve_left (fun h => h h3)); omega⟩)) rfl rfl (by first | exact congrArg Value.bool (decide_eq_false hg37).symm | exact congrArg Value.bool hg37.symm | simp [hg37]) rfl)
   · clear hS a; intro a w hS
     simp only [List.drop_succ_cons, List.drop_zero]
     refine nL (nT ?_)
     refine c_ifD hS rfl (fun hc41 => ?_) (fun hc41 => ?_)
     ·
      refine cS (cR ?_)
      refine Rn hS (.m rfl <| .a rfl .n) ?_; clear hS a; intro a hS
      refine nL (nT (wp_ret (r_then ?_)))
      refine c_ret1 hS Tryz.results4 (.tmp rfl) ?_
      exact ⟨rfl, hS.chg⟩
     have hsm : fewS l ∧ fewLs ops := Classical.byContradiction fun e => hc41 (.inl e)
     have hol := hsm.2.1
     refine wS (nT (cS (cR ?_)))
     refine L_e hS (e_move rfl) rfl ?_; clear hS a; intro a hS
     refine L_op (s_callN hS (.cons rfl .nil) cf15 rfl (lMade_P p c ops hol hfit _ (hS.gg (X := inF p ops q l)).1 (fun r hr => (hS.ok (inF p ops q l) (by repeat constructor)).lt r.1 (.inl (.inl ⟨r.2, hr⟩)))) ?_); clear hS a; intro x44 a w hS
     obtain ⟨⟨B, s⟩, hpl0⟩ := x44
     simp only at hS hpl0
     have hwf := wf_made hfit ops.length (Nat.le_refl _)
     rw [List.take_length, ← hpl0] at hwf
     have hal : s.acs.length ≤ 1000 := by have h1 := hwf.la; simp [pl] at h1; omega
     refine L_e hS (e_assign rfl) rfl ?_; clear hS a; intro a hS
     refine nL (nT (cS (cR ?_)))
     refine L_e hS (e_move rfl) rfl ?_; clear hS a; intro a hS
     refine L_op (s_callN hS (.cons rfl .nil) cf16 rfl (fxmade_P q cq l hll hlf _ (hS.gg (X := inF p ops q l)).2 (fun r hr => (hS.ok (inF p ops q l) (by repeat constructor)).lt r.1 (.inr ⟨r.2, hr⟩))) ?_); clear hS a; intro x47 a w hS
     obtain ⟨⟨bk, mb, bw, es, n, rows, rv⟩, hmd, href⟩ := x47
     simp only at hS hmd href
     have hrf := refs_rel href
     rw [← hmd] at hrf
     have hno : nanoOK (vsT es) := by have h1 := nano_made usd l; rw [← hmd] at h1; exact h1
     have hn5 : n ≤ 500 := (hS.gg (X := bothA ⟨bk, mb, bw, es, n, rows, rv⟩)).1.wf.n.2
     have hrows : rows.length ≤ 1000000 := by have h1 := hrf.num; simp only at h1; omega
     refine Rn hS (.m rfl <| .c (e_extract rfl rfl) <| .c (e_extract rfl rfl) <| .a rfl <| .a rfl .n) ?_; clear hS a; intro a hS
     refine nL (nT (cS (cR ?_)))
     refine L_op (s_callN hS (.cons rfl .nil) cf9 rfl (rlNew_P usdL _ (by decide +kernel)) ?_); clear hS a; intro x51 a w hS
     refine Rn hS (.m rfl <| .c (e_extract rfl rfl) <| .c (e_extract rfl rfl) <| .a rfl <| .a rfl .n) ?_; clear hS a; intro a hS
     refine nL (nT (cS (cR ?_)))
     refine L_op (s_callN hS .nil cf17 rfl (lChart_P _) ?_); clear hS a; intro x54 a w hS
     refine L_e hS (e_assign rfl) rfl ?_; clear hS a; intro a hS
     refine nL (nT (cS (cS (cR ?_))))
     refine Rn hS (.m rfl <| .c (e_nil rfl ty_u25) <| .m rfl .n) ?_; clear hS a; intro a hS
     replace hS := hS.is (t := 57) (c := false) rfl (rfl)
     refine Rn hS (.g rfl rfl (e_move rfl) <| .g rfl rfl (e_nil rfl ty_u44) <| .c (e_pick_f rfl rfl) .n) ?_; clear hS a; intro a hS
     refine nL (nT ?_)
     replace hS := hS.is (t := 60) (c := false) rfl (rfl)
     refine c_if_f hS rfl ?_
     refine wS (nT (cS (cS (cR ?_))))
     refine L_e hS (e_assign rfl) rfl ?_; clear hS a; intro a hS
     refine nL (nT (wB ?_))
     skip
     refine c_loop (γ := Nat × RS) (fun G a w => St 195 noB w0 a w [(17, .int .i64 (G.1 : Int)), (16, .slice (some ⟨x54, 0, none⟩) 4 4), (14, .pointer (some ⟨x51, 0, none⟩)), (13, .pointer (some ⟨bw, 0, none⟩)), (12, .pointer (some ⟨bk, 0, none⟩)), (11, .pointer (some ⟨B.lb, 0, none⟩)), (0, sliceV p ops.length c), (2, .int .i64 at_), (3, .string gain)] [.blk x54 (chartL.flatMap encAc) 35, rlA x51 G.2 true, bothA ⟨bk, mb, bw, es, n, rows, rv⟩, ledA B s true, inF p ops q l] ∧ G.1 ≤ 4 ∧ relR G.2 ((chartL.take G.1).foldl openP P0)) (fun G => 4 - G.1) (0, newR usdL) ⟨(hS.slots (by repeat (first | exact trivial | refine ⟨rfl, ?_⟩))).pick (by repeat (first | exact Pick.nil | (refine Pick.cons (by repeat (first | exact Rem.head | apply Rem.tail)) ?_))), Nat.zero_le _, (both_new usdL).rel⟩ ?_
     clear hS a; intro G a w hI
     obtain ⟨i, r⟩ := G
     obtain ⟨hS, hi, hrel⟩ := hI
     simp only at hS hi hrel
     refine cS (cS (cR ?_))
     refine Rn hS (.m rfl <| .m rfl <| .c (e_len rfl rfl ty_sl48) <| .c (e_bin rfl rfl rfl) .n) ?_; clear hS a; intro a hS
     refine nL (nT ?_)
     refine c_ifD hS rfl (fun hc64 => ?_) (fun hc64 => ?_)
     ·
      have hi4 : i < 4 := by omega
      obtain ⟨x, hx⟩ : ∃ x, chartL[i]? = some x := ⟨chartL[i]'(by show i < 4; omega), List.getElem?_eq_getElem (by show i < 4; omega)⟩
      have hxs : x.code.size ≤ 4611686018427387904 := by
       have := List.mem_of_getElem? hx
       simp [chartL] at this
       rcases this with rfl | rfl | rfl | rfl <;> decide
      have htk : chartL.take (i + 1) = chartL.take i ++ [x] := by rw [List.take_add_one, hx]; rfl
      have hwc := wf_chart i (by omega)
      refine wS (nT (cS (wB ?_)))
      refine c_drawS [] (by kernel_rfl) hS (sub_cons (X := .blk x54 (chartL.flatMap encAc) 35) (by repeat constructor) sub_nil) ?_; clear hS; intro w hS
      simp only [List.length_cons, List.length_nil, Nat.zero_add, Nat.reduceAdd, List.replicate]
      refine Rz hS (sub_cons (by repeat constructor) sub_nil) (.o 0 (tf 1 22) rfl wN (e_move rfl) rfl <| .o 1 (tf 2 21) rfl wN (e_move rfl) rfl <| .o 2 (tf 3 20) rfl wN (e_move rfl) rfl <| .o 3 (tf 4 19) rfl wN (e_ixN rfl rfl ty_sl48 ty_sz35 (by omega)) rfl <| .o 4 (tf 5 18) rfl wN (e_faK rfl ty_fo35_0) rfl <| .y 5 (tf 6 17) rfl wN (e_loadC rfl ty_sc9 (fun w hh => blkrow_getL (enc := encAc) (s := 4) (by repeat constructor) (fun _ => rfl) hx w hh 0 (.string x.code) rfl)) rfl <| .o 6 (tf 7 16) rfl wN (e_move rfl) rfl <| .o 7 (tf 8 15) rfl wN (e_move rfl) rfl <| .o 8 (tf 9 14) rfl wN (e_ixN rfl rfl ty_sl48 ty_sz35 (by omega)) rfl <| .o 9 (tf 10 13) rfl wN (e_faK rfl ty_fo35_1) rfl <| .y 10 (tf 11 12) rfl wN (e_loadC rfl ty_sc9 (fun w hh => blkrow_getL (enc := encAc) (s := 4) (by repeat constructor) (fun _ => rfl) hx w hh 1 (.string x.cur) rfl)) rfl <| .o 11 (tf 12 11) rfl wN (e_move rfl) rfl <| .o 12 (tf 13 10) rfl wN (e_move rfl) rfl <| .o 13 (tf 14 9) rfl wN (e_ixN rfl rfl ty_sl48 ty_sz35 (by omega)) rfl <| .o 14 (tf 15 8) rfl wN (e_faK rfl ty_fo35_2) rfl <| .y 15 (tf 16 7) rfl wN (e_loadC rfl ty_sc3 (fun w hh => blkrow_getL (enc := encAc) (s := 4) (by repeat constructor) (fun _ => rfl) hx w hh 2 (.int .i64 x.kind) rfl)) rfl <| .o 16 (tf 17 6) rfl wN (e_move rfl) rfl <| .o 17 (tf 18 5) rfl wN (e_move rfl) rfl <| .o 18 (tf 19 4) rfl wN (e_ixN rfl rfl ty_sl48 ty_sz35 (by omega)) rfl <| .o 19 (tf 20 3) rfl wN (e_faK rfl ty_fo35_3) rfl <| .y 20 (tf 21 2) rfl wN (e_loadC rfl ty_sc4 (fun w hh => blkrow_getL (enc := encAc) (s := 4) (by repeat constructor) (fun _ => rfl) hx w hh 3 (.bool x.mon) rfl)) rfl <| .o 21 (tf 22 1) rfl wN (e_build ty_z51 ty_pl51 (.one rfl rfl rfl (by repeat constructor) (.one rfl rfl rfl (by repeat constructor) (.one rfl rfl rfl (by repeat constructor) (.one rfl rfl rfl (by repeat constructor) .nil))))) rfl .n) ?_; clear hS a; intro a hS
      refine Zo 22 (tf 23 0) hS rfl wN rfl (s_callM hS (.cons rfl (.cons rfl .nil)) cf18 rfl (rlOpen_P x51 r ((chartL.take i).foldl openP P0) x hxs hrel hwc.nod (by have := hwc.la; omega) _ (hS.gg (X := rlA x51 r true))) (fun x => (by repeat constructor)) rfl ?_); clear hS a; intro x89 a w hS
      refine Z_and hS (sub_cons (by repeat constructor) sub_nil) ?_
      refine Z_done (by kernel_rfl) ?_
      refine n_block (nT (cR ?_))
      refine Rn hS (.m rfl <| .c (e_binN rfl rfl rfl (by omega)) <| .a rfl .n) ?_; clear hS a; intro a hS
      refine nL ?_
      exact ⟨(i + 1, x89.1), by simp only; omega, (hS.slots (by repeat (first | exact trivial | refine ⟨rfl, ?_⟩))).pick (by repeat (first | exact Pick.nil | (refine Pick.cons (by repeat (first | exact Rem.head | apply Rem.tail)) ?_))), by simp only; omega, by simp only; rw [htk, List.foldl_append]; exact x89.2⟩
     obtain rfl : i = 4 := by omega
     rw [show (chartL.take 4).foldl openP P0 = P4 from chart_made] at hrel
     refine wp_exit ?_
     refine x_then (x_then (x_hit ?_))
     refine nT (cS (cS (cR ?_)))
     refine L_e hS (e_assign rfl) rfl ?_; clear hS a; intro a hS
     refine nL (nT (wB ?_))
     skip
     refine c_loop (γ := Nat × RS) (fun G a w => St 195 noB w0 a w [(18, .int .i64 (G.1 : Int)), (14, .pointer (some ⟨x51, 0, none⟩)), (13, .pointer (some ⟨bw, 0, none⟩)), (12, .pointer (some ⟨bk, 0, none⟩)), (11, .pointer (some ⟨B.lb, 0, none⟩)), (0, sliceV p ops.length c), (2, .int .i64 at_), (3, .string gain)] [rlA x51 G.2 true, bothA ⟨bk, mb, bw, es, n, rows, rv⟩, ledA B s true, inF p ops q l] ∧ G.1 ≤ ops.length ∧ relR G.2 (madeP (ops.take G.1))) (fun G => ops.length - G.1) (0, r) ⟨(hS.slots (by repeat (first | exact trivial | refine ⟨rfl, ?_⟩))).pick (by repeat (first | exact Pick.nil | (refine Pick.cons (by repeat (first | exact Rem.head | apply Rem.tail)) ?_))), Nat.zero_le _, hrel⟩ ?_
     clear hS a; intro G a w hI
     obtain ⟨i, r⟩ := G
     obtain ⟨hS, hi, hrel⟩ := hI
     simp only at hS hi hrel
     have hwo := wf_made hfit i (by omega)
     refine cS (cS (cR ?_))
     refine Rn hS (.m rfl <| .m rfl <| .c (e_len rfl rfl ty_sl22) <| .c (e_bin rfl rfl rfl) .n) ?_; clear hS a; intro a hS
     refine nL (nT ?_)
     refine c_ifD hS rfl (fun hc93 => ?_) (fun hc93 => ?_)
     ·
      obtain ⟨o, ho⟩ : ∃ o, ops[i]? = some o := ⟨ops[i]'(by omega), List.getElem?_eq_getElem (by omega)⟩
      have hom := List.mem_of_getElem? ho
      have hof := hfit o hom
      have hop := (hsm.2.2 o hom).2.2.2.1
      obtain ⟨b, off, rfl⟩ := los_pos (hS.gg (X := inF p ops q l)).1 ho
      have hmt := madeP_take ho
      have hwo := wf_made hfit i (by omega)
      have hla := hwo.la
      refine wS (nT ?_)
      refine c_cut (fun a w => ∃ r2 : RS, St 195 noB w0 a w [(18, .int .i64 (i : Int)), (14, .pointer (some ⟨x51, 0, none⟩)), (13, .pointer (some ⟨bw, 0, none⟩)), (12, .pointer (some ⟨bk, 0, none⟩)), (11, .pointer (some ⟨B.lb, 0, none⟩)), (0, sliceV (some (b, off)) ops.length c), (2, .int .i64 at_), (3, .string gain)] [rlA x51 r2 true, bothA ⟨bk, mb, bw, es, n, rows, rv⟩, ledA B s true, inF (some (b, off)) ops q l] ∧ relR r2 (madeP (ops.take (i + 1)))) ?_ ?_
      ·
       refine wB (cS (cR ?_))
       refine Rn hS (.m rfl <| .m rfl <| .c (e_ixN rfl rfl ty_sl22 ty_sz38 (by omega)) <| .c (e_faK rfl ty_fo38_0) <| .c (e_loadC rfl ty_sc3 (fun w hh => inF_get (by repeat constructor) ho w hh 0 (.int .i64 o.kind) rfl)) .n) ?_; clear hS a; intro a hS
       refine nL (nT (wB (cS (cR ?_))))
       refine Rn hS (.c (e_bin rfl rfl rfl) <| .a rfl .n) ?_; clear hS a; intro a hS
       refine nL (nT ?_)
       refine c_ifD hS rfl (fun hc101 => ?_) (fun hc101 => ?_)
       ·
        refine c_drawS [] (by kernel_rfl) hS (sub_cons (X := inF (some (b, off)) ops q l) (by repeat constructor) sub_nil) ?_; clear hS; intro w hS
        simp only [List.length_cons, List.length_nil, Nat.zero_add, Nat.reduceAdd, List.replicate]
        refine Rz hS (sub_cons (by repeat constructor) sub_nil) (.o 0 (tf 1 26) rfl wN (e_move rfl) rfl <| .o 1 (tf 2 25) rfl wN (e_move rfl) rfl <| .o 2 (tf 3 24) rfl wN (e_move rfl) rfl <| .o 3 (tf 4 23) rfl wN (e_ixN rfl rfl ty_sl22 ty_sz38 (by omega)) rfl <| .o 4 (tf 5 22) rfl wN (e_faK rfl ty_fo38_2) rfl <| .o 5 (tf 6 21) rfl wN (e_faK rfl ty_fo35_0) rfl <| .y 6 (tf 7 20) rfl wN (e_loadC rfl ty_sc9 (fun w hh => inF_get (by repeat constructor) ho w hh 2 (.string o.a.code) rfl)) rfl <| .o 7 (tf 8 19) rfl wN (e_move rfl) rfl <| .o 8 (tf 9 18) rfl wN (e_move rfl) rfl <| .o 9 (tf 10 17) rfl wN (e_ixN rfl rfl ty_sl22 ty_sz38 (by omega)) rfl <| .o 10 (tf 11 16) rfl wN (e_faK rfl ty_fo38_2) rfl <| .o 11 (tf 12 15) rfl wN (e_faK rfl ty_fo35_1) rfl <| .y 12 (tf 13 14) rfl wN (e_loadC rfl ty_sc9 (fun w hh => inF_get (by repeat constructor) ho w hh 3 (.string o.a.cur) rfl)) rfl <| .o 13 (tf 14 13) rfl wN (e_move rfl) rfl <| .o 14 (tf 15 12) rfl wN (e_move rfl) rfl <| .o 15 (tf 16 11) rfl wN (e_ixN rfl rfl ty_sl22 ty_sz38 (by omega)) rfl <| .o 16 (tf 17 10) rfl wN (e_faK rfl ty_fo38_2) rfl <| .o 17 (tf 18 9) rfl wN (e_faK rfl ty_fo35_2) rfl <| .y 18 (tf 19 8) rfl wN (e_loadC rfl ty_sc3 (fun w hh => inF_get (by repeat constructor) ho w hh 4 (.int .i64 o.a.kind) rfl)) rfl <| .o 19 (tf 20 7) rfl wN (e_move rfl) rfl <| .o 20 (tf 21 6) rfl wN (e_move rfl) rfl <| .o 21 (tf 22 5) rfl wN (e_ixN rfl rfl ty_sl22 ty_sz38 (by omega)) rfl <| .o 22 (tf 23 4) rfl wN (e_faK rfl ty_fo38_2) rfl <| .o 23 (tf 24 3) rfl wN (e_faK rfl ty_fo35_3) rfl <| .y 24 (tf 25 2) rfl wN (e_loadC rfl ty_sc4 (fun w hh => inF_get (by repeat constructor) ho w hh 5 (.bool o.a.mon) rfl)) rfl <| .o 25 (tf 26 1) rfl wN (e_build ty_z51 ty_pl51 (.one rfl rfl rfl (by repeat constructor) (.one rfl rfl rfl (by repeat constructor) (.one rfl rfl rfl (by repeat constructor) (.one rfl rfl rfl (by repeat constructor) .nil))))) rfl .n) ?_; clear hS a; intro a hS
        refine Zo 26 (tf 27 0) hS rfl wN rfl (s_callM hS (.cons rfl (.cons rfl .nil)) cf18 rfl (rlOpen_P x51 r (madeP (ops.take i)) o.a hof.code hrel hwo.nod (by omega) _ (hS.gg (X := rlA x51 r true))) (fun x => (by repeat constructor)) rfl ?_); clear hS a; intro x129 a w hS
        refine Z_and hS (sub_cons (by repeat constructor) sub_nil) ?_
        refine Z_done (by kernel_rfl) ?_
        refine n_block (n_block ?_)
        rw [hmt]
        first
        | (have hx := x129
           exact ⟨x129.1, (hS.slots (by repeat (first | exact trivial | refine ⟨rfl, ?_⟩))).pick (by repeat (first | exact Pick.nil | (refine Pick.cons (by repeat (first | exact Rem.head | apply Rem.tail)) ?_))), by unfold stepP; rw [if_pos hc101]; exact x129.2⟩)
        | (have hx := x149
           exact ⟨x149.1, (hS.slots (by repeat (first | exact trivial | refine ⟨rfl, ?_⟩))).pick (by repeat (first | exact Pick.nil | (refine Pick.cons (by repeat (first | exact Rem.head | apply Rem.tail)) ?_))), by unfold stepP; rw [if_neg hc101, if_pos hc130]; exact x149.2⟩)
        | (have hk2 : o.kind = 2 := hc150
           exact ⟨closeR r o.at_, (hS.slots (by repeat (first | exact trivial | refine ⟨rfl, ?_⟩))).pick (by repeat (first | exact Pick.nil | (refine Pick.cons (by repeat (first | exact Rem.head | apply Rem.tail)) ?_))), by unfold stepP; rw [if_neg hc101, if_neg hc130, if_pos hc150]; exact (rel_close hrel o.at_).2⟩)
        | (have hk2 : ¬ o.kind = 2 := hc150
           exact ⟨r, (hS.slots (by repeat (first | exact trivial | refine ⟨rfl, ?_⟩))).pick (by repeat (first | exact Pick.nil | (refine Pick.cons (by repeat (first | exact Rem.head | apply Rem.tail)) ?_))), by unfold stepP; rw [if_neg hc101, if_neg hc130, if_neg hc150]; exact hrel⟩)
       refine cS (cR ?_)
       refine Rn hS (.c (e_bin rfl rfl rfl) <| .a rfl .n) ?_; clear hS a; intro a hS
       refine nL (nT ?_)
       refine c_ifD hS rfl (fun hc130 => ?_) (fun hc130 => ?_)
       ·
        refine c_drawS [] (by kernel_rfl) hS (sub_cons (X := inF (some (b, off)) ops q l) (by repeat constructor) sub_nil) ?_; clear hS; intro w hS
        simp only [List.length_cons, List.length_nil, Nat.zero_add, Nat.reduceAdd, List.replicate]
        refine Rz hS (sub_cons (by repeat constructor) sub_nil) (.o 0 (tf 1 17) rfl wN (e_move rfl) rfl <| .o 1 (tf 2 16) rfl wN (e_move rfl) rfl <| .o 2 (tf 3 15) rfl wN (e_move rfl) rfl <| .o 3 (tf 4 14) rfl wN (e_ixN rfl rfl ty_sl22 ty_sz38 (by omega)) rfl <| .o 4 (tf 5 13) rfl wN (e_faK rfl ty_fo38_1) rfl <| .y 5 (tf 6 12) rfl wN (e_loadC rfl ty_sc3 (fun w hh => inF_get (by repeat constructor) ho w hh 1 (.int .i64 o.at_) rfl)) rfl <| .o 6 (tf 7 11) rfl wN (e_move rfl) rfl <| .o 7 (tf 8 10) rfl wN (e_move rfl) rfl <| .o 8 (tf 9 9) rfl wN (e_ixN rfl rfl ty_sl22 ty_sz38 (by omega)) rfl <| .o 9 (tf 10 8) rfl wN (e_faK rfl ty_fo38_3) rfl <| .y 10 (tf 11 7) rfl wN (e_loadC rfl ty_sc9 (fun w hh => inF_get (by repeat constructor) ho w hh 6 (.string o.memo) rfl)) rfl <| .o 11 (tf 12 6) rfl wN (e_move rfl) rfl <| .o 12 (tf 13 5) rfl wN (e_move rfl) rfl <| .o 13 (tf 14 4) rfl wN (e_ixN rfl rfl ty_sl22 ty_sz38 (by omega)) rfl <| .o 14 (tf 15 3) rfl wN (e_faK rfl ty_fo38_4) rfl <| .y 15 (tf 16 2) rfl wN (e_loadC rfl ty_sc36 (fun w hh => inF_get (by repeat constructor) ho w hh 7 o.pv rfl)) rfl .n) ?_; clear hS a; intro a hS
        refine Zo 16 (tf 17 1) hS rfl wN rfl (s_callN hS (.cons rfl .nil) cf20 rfl (lPosts_P o.pv o.ps (by omega) _ ((hS.gg (X := inF (some (b, off)) ops q l)).1.2 o hom)) ?_); clear hS a; intro x148 a w hS
        refine Z_and hS (sub_cons (by repeat constructor) sub_nil) ?_
        refine Zo 17 (tf 18 0) hS rfl wN rfl (s_callM hS (.cons rfl (.cons rfl (.cons rfl (.cons rfl .nil)))) cf19 rfl (rlPost_P x51 r (madeP (ops.take i)) i hrel hwo (by omega) (wfC_made _) x148 o.at_ o.memo o.ps (by omega) hof.ps.1 _ (hS.gg (X := rlA x51 r true)) (hS.gg (X := ownA 124 3 x148 o.ps.length (o.ps.flatMap encP))) (fun k hk hr => hS.sep (X := ownA 124 3 x148 o.ps.length (o.ps.flatMap encP)) (Y := rlA x51 r true) (by repeat (first | exact Rem.head | apply Rem.tail)) (by repeat constructor) k hk hr)) (fun x => (by repeat constructor)) rfl ?_); clear hS a; intro x149 a w hS
        refine Z_and hS (sub_cons (by repeat constructor) sub_nil) ?_
        refine Z_done (by kernel_rfl) ?_
        refine n_block (n_block ?_)
        rw [hmt]
        first
        | (have hx := x129
           exact ⟨x129.1, (hS.slots (by repeat (first | exact trivial | refine ⟨rfl, ?_⟩))).pick (by repeat (first | exact Pick.nil | (refine Pick.cons (by repeat (first | exact Rem.head | apply Rem.tail)) ?_))), by unfold stepP; rw [if_pos hc101]; exact x129.2⟩)
        | (have hx := x149
           exact ⟨x149.1, (hS.slots (by repeat (first | exact trivial | refine ⟨rfl, ?_⟩))).pick (by repeat (first | exact Pick.nil | (refine Pick.cons (by repeat (first | exact Rem.head | apply Rem.tail)) ?_))), by unfold stepP; rw [if_neg hc101, if_pos hc130]; exact x149.2⟩)
        | (have hk2 : o.kind = 2 := hc150
           exact ⟨closeR r o.at_, (hS.slots (by repeat (first | exact trivial | refine ⟨rfl, ?_⟩))).pick (by repeat (first | exact Pick.nil | (refine Pick.cons (by repeat (first | exact Rem.head | apply Rem.tail)) ?_))), by unfold stepP; rw [if_neg hc101, if_neg hc130, if_pos hc150]; exact (rel_close hrel o.at_).2⟩)
        | (have hk2 : ¬ o.kind = 2 := hc150
           exact ⟨r, (hS.slots (by repeat (first | exact trivial | refine ⟨rfl, ?_⟩))).pick (by repeat (first | exact Pick.nil | (refine Pick.cons (by repeat (first | exact Rem.head | apply Rem.tail)) ?_))), by unfold stepP; rw [if_neg hc101, if_neg hc130, if_neg hc150]; exact hrel⟩)
       refine cS (cR ?_)
       refine Rn hS (.c (e_bin rfl rfl rfl) <| .a rfl .n) ?_; clear hS a; intro a hS
       refine nL (nT ?_)
       refine c_ifD hS rfl (fun hc150 => ?_) (fun hc150 => ?_)
       ·
        refine cR ?_
        refine Rn hS (.m rfl <| .m rfl <| .m rfl <| .c (e_ixN rfl rfl ty_sl22 ty_sz38 (by omega)) <| .c (e_faK rfl ty_fo38_1) <| .c (e_loadC rfl ty_sc3 (fun w hh => inF_get (by repeat constructor) ho w hh 1 (.int .i64 o.at_) rfl)) .n) ?_; clear hS a; intro a hS
        refine L_op (s_callM hS (.cons rfl (.cons rfl .nil)) cf21 rfl (rlClose_P x51 r o.at_ _ (hS.gg (X := rlA x51 r true))) (fun x => (by repeat constructor)) rfl ?_); clear hS a; intro x158 a w hS
        refine nL (n_block (n_block ?_))
        rw [hmt]
        first
        | (have hx := x129
           exact ⟨x129.1, (hS.slots (by repeat (first | exact trivial | refine ⟨rfl, ?_⟩))).pick (by repeat (first | exact Pick.nil | (refine Pick.cons (by repeat (first | exact Rem.head | apply Rem.tail)) ?_))), by unfold stepP; rw [if_pos hc101]; exact x129.2⟩)
        | (have hx := x149
           exact ⟨x149.1, (hS.slots (by repeat (first | exact trivial | refine ⟨rfl, ?_⟩))).pick (by repeat (first | exact Pick.nil | (refine Pick.cons (by repeat (first | exact Rem.head | apply Rem.tail)) ?_))), by unfold stepP; rw [if_neg hc101, if_pos hc130]; exact x149.2⟩)
        | (have hk2 : o.kind = 2 := hc150
           exact ⟨closeR r o.at_, (hS.slots (by repeat (first | exact trivial | refine ⟨rfl, ?_⟩))).pick (by repeat (first | exact Pick.nil | (refine Pick.cons (by repeat (first | exact Rem.head | apply Rem.tail)) ?_))), by unfold stepP; rw [if_neg hc101, if_neg hc130, if_pos hc150]; exact (rel_close hrel o.at_).2⟩)
        | (have hk2 : ¬ o.kind = 2 := hc150
           exact ⟨r, (hS.slots (by repeat (first | exact trivial | refine ⟨rfl, ?_⟩))).pick (by repeat (first | exact Pick.nil | (refine Pick.cons (by repeat (first | exact Rem.head | apply Rem.tail)) ?_))), by unfold stepP; rw [if_neg hc101, if_neg hc130, if_neg hc150]; exact hrel⟩)
       refine wS (n_block (n_block ?_))
       rw [hmt]
       first
       | (have hx := x129
          exact ⟨x129.1, (hS.slots (by repeat (first | exact trivial | refine ⟨rfl, ?_⟩))).pick (by repeat (first | exact Pick.nil | (refine Pick.cons (by repeat (first | exact Rem.head | apply Rem.tail)) ?_))), by unfold stepP; rw [if_pos hc101]; exact x129.2⟩)
       | (have hx := x149
          exact ⟨x149.1, (hS.slots (by repeat (first | exact trivial | refine ⟨rfl, ?_⟩))).pick (by repeat (first | exact Pick.nil | (refine Pick.cons (by repeat (first | exact Rem.head | apply Rem.tail)) ?_))), by unfold stepP; rw [if_neg hc101, if_pos hc130]; exact x149.2⟩)
       | (have hk2 : o.kind = 2 := hc150
          exact ⟨closeR r o.at_, (hS.slots (by repeat (first | exact trivial | refine ⟨rfl, ?_⟩))).pick (by repeat (first | exact Pick.nil | (refine Pick.cons (by repeat (first | exact Rem.head | apply Rem.tail)) ?_))), by unfold stepP; rw [if_neg hc101, if_neg hc130, if_pos hc150]; exact (rel_close hrel o.at_).2⟩)
       | (have hk2 : ¬ o.kind = 2 := hc150
          exact ⟨r, (hS.slots (by repeat (first | exact trivial | refine ⟨rfl, ?_⟩))).pick (by repeat (first | exact Pick.nil | (refine Pick.cons (by repeat (first | exact Rem.head | apply Rem.tail)) ?_))), by unfold stepP; rw [if_neg hc101, if_neg hc130, if_neg hc150]; exact hrel⟩)
      clear hS a; intro a w hS
      obtain ⟨r2, hS, hr2⟩ := hS
      refine cR ?_
      refine Rn hS (.m rfl <| .c (e_binN rfl rfl rfl (by omega)) <| .a rfl .n) ?_; clear hS a; intro a hS
      refine nL ?_
      exact ⟨(i + 1, r2), by simp only; omega, hS.slots (by repeat (first | exact trivial | refine ⟨rfl, ?_⟩)), by simp only; omega, hr2⟩
     obtain rfl : i = ops.length := by omega
     rw [List.take_length, ← hpl0] at hrel
     have hR := okR_of hwf (by omega) hrel
     have hww : ∀ u c t, rworthF usd rows u c t = worthF usd (vsT es) u c t := fun u c t => (worth_eq hrf hno usd u c t).symm
     have hel : r.es.length = s.es.length := by have h1 := congrArg List.length hrel.es; simpa [pl] using h1
     obtain ⟨qE, cE, hev, _⟩ := rl_shE (hS.gg (X := rlA x51 r true))
     refine wp_exit ?_
     refine x_then (x_then (x_hit ?_))
     refine nT (cS (cR ?_))
     refine Rn hS (.m rfl <| .m rfl <| .m rfl <| .m rfl .n) ?_; clear hS a; intro a hS
     refine L_op (s_callN hS (.cons rfl (.cons rfl (.cons rfl (.cons rfl .nil)))) cf22 rfl (fxRevalue_P B s bk mb usd es n at_ gain (hwf.fitL (by omega)) hal hno _ (hS.gg (X := ledA B s true)) (hS.gg (X := bothA ⟨bk, mb, bw, es, n, rows, rv⟩)).1) ?_); clear hS a; intro x164 a w hS
     refine Rn hS (.m rfl <| .c (e_extract rfl rfl) <| .c (e_extract rfl rfl) <| .a rfl <| .a rfl .n) ?_; clear hS a; intro a hS
     refine nL (nT (cS (cR ?_)))
     refine Rn hS (.m rfl <| .m rfl <| .m rfl <| .m rfl .n) ?_; clear hS a; intro a hS
     refine L_op (s_callN hS (.cons rfl (.cons rfl (.cons rfl (.cons rfl .nil)))) cf23 rfl (xRevalue_P x51 r bw usd rows rv (vsT es) (pl s) hrel hwf.nod hR hrows hww at_ gain _ (hS.gg (X := rlA x51 r true)) (hS.gg (X := bothA ⟨bk, mb, bw, es, n, rows, rv⟩)).2) ?_); clear hS a; intro x172 a w hS
     have hpr : (revF usd (vsT es) (pl s) at_ gain).1.length ≤ 100000 := by
      have h1 := rv_len usd (vsT es) (pl s) at_ (accsL (pl s).acs)
      have h2 := accs_len (pl s).acs
      have h3 : (pl s).acs.length ≤ 1000 := hal
      unfold revF
      split
      · simp
      · split
        · simp
        · split
          · simp
          · split
            · simp
            · split
              · simp
              · split
                · rw [List.length_append, List.length_singleton]; omega
                · simp
     generalize hV : revF usd (vsT es) (pl s) at_ gain = V at hS hpr
     refine Rn hS (.m rfl <| .c (e_extract rfl rfl) <| .c (e_extract rfl rfl) <| .a rfl <| .a rfl .n) ?_; clear hS a; intro a hS
     refine nL (nT (cS (cR ?_)))
     refine L_e hS (e_move rfl) rfl ?_; clear hS a; intro a hS
     refine L_op (s_callP hS (.cons rfl .nil) cf24 rfl (lLen_P B s _ (hS.gg (X := ledA B s true))) ?_); clear hS a; intro a w hS
     refine L_e hS (e_assign rfl) rfl ?_; clear hS a; intro a hS
     refine nL (nT (cS (cR ?_)))
     refine Rn hS (.m rfl <| .m rfl .n) ?_; clear hS a; intro a hS
     refine L_op (s_callP hS (.cons rfl (.cons rfl .nil)) cf25 rfl (lSame_P x164 x172 V.1 hpr _ (psAt_own (hS.gg (X := ownA 82 3 x164 V.1.length (V.1.flatMap encP)))) (hS.gg (X := ownA 124 3 x172 V.1.length (V.1.flatMap encP)))) ?_); clear hS a; intro a w hS
     refine L_e hS (e_move rfl) rfl ?_; clear hS a; intro a hS
     replace hS := hS.is (t := 180) (c := true) rfl (rfl)
     refine L_ge hS rfl rfl (e_move rfl) rfl ?_; clear hS a; intro a hS
     refine L_go hS rfl rfl (s_callP hS (.cons rfl .nil) cf10 rfl (Num_w _ _) ?_); clear hS a; intro a w hS
     refine Rn hS (.g rfl rfl (e_move rfl) <| .g rfl rfl (e_bin rfl rfl rfl) <| .c (e_pick_t rfl rfl) <| .m rfl .n) ?_; clear hS a; intro a hS
     replace hS := hS.is (t := 186) (c := true) rfl ((by simp))
     refine Rn hS (.g rfl rfl (e_move rfl) <| .g rfl rfl (e_move rfl) <| .g rfl rfl (e_nilCheck rfl) <| .g rfl rfl (e_fa0 rfl ty_fo66_2) <| .g rfl rfl (e_loadC rfl ty_sc64 (rl_cell (k := 2) (by repeat constructor) rfl)) .n) ?_; clear hS a; intro a hS
     rw [hev, hel] at hS
     refine Rn hS (.g rfl rfl (e_len rfl rfl ty_sl64) <| .g rfl rfl (e_bin rfl rfl rfl) <| .c (e_pick_t rfl rfl) <| .a rfl .n) ?_; clear hS a; intro a hS
     refine nL (nT (wp_ret ?_))
     refine c_ret1 hS Tryz.results4 (.tmp rfl) ?_
     exact ⟨by first | rfl | simp, hS.chg⟩
end Go.Proofs.YtheofhegdjjfgaaGreat
namespace Go.Proofs.YtheofhegdjjfgaaGreat.Open
set_option maxRecDepth 100000
open Go.ChangeShapes Go.WideShapes Go.Deep
section
variable {H : Type} {enc : TypeId × Value → H}
theorem bytesPst : Tryz.prog.bytesOf 82 = 32 := by kernel_rfl
theorem bytesLO : Tryz.prog.bytesOf 38 = 104 := by kernel_rfl
theorem one3 : Tryz.prog.cellsOf 3 = 1 := by kernel_rfl
theorem one9 : Tryz.prog.cellsOf 9 = 1 := by kernel_rfl
theorem one4 : Tryz.prog.cellsOf 4 = 1 := by kernel_rfl
theorem one56 : Tryz.prog.cellsOf 36 = 1 := by kernel_rfl
theorem four68 : Tryz.prog.cellsOf 35 = 4 := by kernel_rfl
theorem eight72 : Tryz.prog.cellsOf 38 = 8 := by kernel_rfl
theorem list8 {α : Type} {l : List α} (h : l.length = 8) : ∃ a b c d e f g i, l = [a, b, c, d, e, f, g, i] := by
 match l, h with
 | [a, b, c, d, e, f, g, i], _ => exact ⟨a, b, c, d, e, f, g, i, rfl⟩
theorem open_psts_raw {W : World} {n0 : Nat} {v : Value} {y : DataW H × List MemPlace} (h : DataW.trod enc Tryz.prog W 0 (fun _ => true) true n0 36 [v] = some y) (hw : ∀ n ∈ y.1.weights Tryz.prog 36, n ≤ reachBytes) :
 ∃ l : List Pst, PsAt v l W ∧ (∀ x ∈ l, x.fits) ∧ l.length ≤ 4611686018427387904 := by
 have hu := Tryz.underlying36
 rcases open_slice_fields hu Tryz.underlying82 (by kernel_rfl) (by kernel_rfl) h with ⟨hc, _⟩ | ⟨a, len, cap, m, D, Pl, hc, _, hl, hm, hmm, hx, hi⟩
 · simp only [List.cons.injEq, and_true] at hc
   subst hc
   exact ⟨[], .inl ⟨rfl, _, _, rfl⟩, by simp, by simp⟩
 · simp only [List.cons.injEq, and_true] at hc
   subst hc
   have hx : y.1 = _ := congrArg (·.1) hx
   simp only at hx
   simp only [if_true] at hmm
   rw [hmm] at hx hi
   have each : ∀ i, i < len → ∃ x : Pst, x.fits ∧ ∀ j u, (encP x)[j]? = some u → W.cell? (a.add (i * 3 + j)) = some u := by
    intro i hil
    obtain ⟨ys, n, hD, _, hys, hfl⟩ := hi i (by omega)
    obtain ⟨v0, y0, c0, g0, t0⟩ := hfl 0 _ rfl
    obtain ⟨v1, y1, c1, g1, t1⟩ := hfl 1 _ rfl
    obtain ⟨v2, y2, c2, g2, t2⟩ := hfl 2 _ rfl
    obtain ⟨s, e0, z0, w0⟩ := DataW.trod_string Tryz.underlying9 t0
    obtain ⟨n1, e1, z1, w1⟩ := DataW.trod_int Tryz.underlying3 t1
    obtain ⟨n2, e2, z2, w2⟩ := DataW.trod_int Tryz.underlying3 t2
    simp only [List.cons.injEq, and_true] at e0 e1 e2
    subst e0 e1 e2
    have hs : s.size ≤ reachBytes := by
     refine hw _ ?_
     rw [hx]
     have h1 : s.size ∈ (D i).weights Tryz.prog 82 := by
      rw [hD]
      simp only [DataW.weights, Tryz.underlying82]
      refine DataW.weights_mem_each (j := 0) rfl (d := .lit (.string s.data.toList)) (by rw [List.getElem?_map, g0, z0]; rfl) _ ?_
      simp only [DataW.weights, List.mem_singleton]
      rfl
     have h2 := weights_all h1 (l := (List.range len).map D) (List.mem_map.2 ⟨i, List.mem_range.2 hil, rfl⟩)
     simp only [DataW.weights, hu, List.mem_cons, List.mem_append]
     exact .inr (.inl h2)
    have b1 := bounds_i64 w1
    have b2 := bounds_i64 w2
    refine ⟨⟨s, n1, n2⟩, ⟨Nat.le_trans hs (by decide), b1, b2⟩, fun j u hj => ?_⟩
    match j, hj with
    | 0, hj => cases hj; exact c0
    | 1, hj => cases hj; exact c1
    | 2, hj => cases hj; exact c2
    | (k + 3), hj => simp [encP] at hj
   have hlen : (len + (cap - len)) * 32 ≤ reachBytes := by
    have := hw ((len + (cap - len)) * Tryz.prog.bytesOf 82) (by rw [hx]; simp [DataW.weights, hu])
    rwa [bytesPst] at this
   simp only [reachBytes] at hlen
   haveI : Inhabited Pst := ⟨⟨ByteArray.empty, 0, 0⟩⟩
   obtain ⟨f, hfn⟩ := choose_lt each
   refine ⟨(List.range len).map f, ?_, ?_, by simp only [List.length_map, List.length_range]; omega⟩
   · by_cases h0 : len = 0
     · subst h0; exact .inl ⟨rfl, _, _, rfl⟩
     · have hc0 := (hfn 0 (by omega)).2 0 _ rfl
       obtain ⟨_, _, hsh, _, hsp⟩ := World.shape?_of_cell? hc0
       have hsp : a.spot = none := by
        have e : a.add (0 * 3 + 0) = a := by unfold Addr.add; rw [if_pos (by omega)]
        rw [e] at hsp; exact hsp
       have hlt : a.block < W.heap.size := by
        have e : a.add (0 * 3 + 0) = a := by unfold Addr.add; rw [if_pos (by omega)]
        rw [e] at hsh; exact shape_lt hsh
       refine .inr ⟨a.block, a.off, cap, ?_, ?_, ?_, hlt⟩
       · intro e
         have := congrArg List.length e
         simp at this; omega
       · unfold sliceV
         cases a
         simp only at hsp
         subst hsp
         simp
       · intro i x hx j u hj
         simp only [List.getElem?_map, Option.map_eq_some_iff] at hx
         obtain ⟨y, ⟨k, hk, rfl⟩, rfl⟩ := hx
         obtain ⟨hk1, hk2⟩ := List.getElem?_eq_some_iff.1 hk
         simp only [List.length_range] at hk1
         simp only [List.getElem_range] at hk2
         subst hk2
         have := (hfn i hk1).2 j u hj
         rw [add_spot hsp] at this
         rw [← this]
         simp only [Nat.add_assoc]
   · intro x hx
     obtain ⟨i, hi', rfl⟩ := List.mem_map.1 hx
     exact (hfn i (List.mem_range.1 hi')).1
theorem open_los {W : World} {base : Nat} {v : Value} {d : DataW H} {pl : List MemPlace} (hval : Value.okWide Tryz.prog W .any base 22 v) (h : DataW.Trod enc Tryz.prog W 0 (fun _ => true) true 22 v d pl) (hw : ∀ n ∈ d.weights Tryz.prog 22, n ≤ reachBytes) :
 ∃ (p : Option (Nat × Nat)) (l : List LO) (c : Nat), v = sliceV p l.length c ∧ (∀ x ∈ l, x.fits) ∧ l.length ≤ 4611686018427387904 ∧ losφ p l W ∧ ∀ r, p = some r → r.1 < W.heap.size := by
 obtain ⟨fuel, hf⟩ := h
 have hu := Tryz.underlying22
 have hsl : ∃ a len cap, v = .slice a len cap := okWide_slice hu hval
 obtain ⟨a0, len0, cap0, rfl⟩ := hsl
 rcases open_slice hu hf with ⟨hc, _⟩ | ⟨a, len, cap, m, n, D, Pl, hc, _, hl, hm, hmm, hx, hi⟩
 · simp only [Value.cells, List.cons.injEq, and_true] at hc
   rw [hc]
   exact ⟨none, [], 0, rfl, by simp, by simp, ⟨rfl, by simp⟩, by simp⟩
 · simp only [Value.cells, List.cons.injEq, and_true] at hc
   rw [hc] at hval ⊢
   obtain ⟨hsp, hlt⟩ := slice_has hu hval
   have hx : d = _ := congrArg (·.1) hx
   simp only at hx
   simp only [if_true] at hmm
   rw [hmm] at hx hi
   have each : ∀ i, i < len → ∃ x : LO, x.fits ∧ PsAt x.pv x.ps W ∧ ∀ j u, (encLO x)[j]? = some u → W.cell? (a.add (i * 8 + j)) = some u := by
    intro i hil
    obtain ⟨cs', hcs, htr⟩ := hi i (by omega)
    rw [eight72] at hcs
    obtain ⟨_, hcl, hat⟩ := World.cells?_some hcs
    obtain ⟨v0, v1, v2, v3, v4, v5, v6, v7, rfl⟩ := list8 hcl
    obtain ⟨ys, n', hn', hD, _, hys, hfl⟩ := DataW.trod_struct Tryz.underlying38 htr
    have hD : D i = .agg (ys.map (·.1)) := congrArg (·.1) hD
    have hys : ys.length = 5 := hys
    have t0 := hfl 0 ⟨ "Kind", 3, 0, false, "", "", 0⟩ rfl
    simp only at t0
    have t1 := hfl 1 ⟨ "At", 3, 1, false, "", "", 8⟩ rfl
    simp only at t1
    have t2 := hfl 2 ⟨ "A", 35, 2, false, "", "", 16⟩ rfl
    simp only at t2
    have t3 := hfl 3 ⟨ "Memo", 9, 6, false, "", "", 64⟩ rfl
    simp only at t3
    have t4 := hfl 4 ⟨ "P", 36, 7, false, "", "", 80⟩ rfl
    simp only at t4
    rw [show Tryz.prog.cellsOf 3 = 1 from one3] at t0
    rw [show Tryz.prog.cellsOf 3 = 1 from one3] at t1
    rw [show Tryz.prog.cellsOf 35 = 4 from four68] at t2
    rw [show Tryz.prog.cellsOf 9 = 1 from one9] at t3
    rw [show Tryz.prog.cellsOf 36 = 1 from one56] at t4
    have g0 : ys[0]? = some ys[0] := List.getElem?_eq_getElem (by omega)
    have g1 : ys[1]? = some ys[1] := List.getElem?_eq_getElem (by omega)
    have g2 : ys[2]? = some ys[2] := List.getElem?_eq_getElem (by omega)
    have g3 : ys[3]? = some ys[3] := List.getElem?_eq_getElem (by omega)
    have g4 : ys[4]? = some ys[4] := List.getElem?_eq_getElem (by omega)
    rw [g0] at t0
    rw [g1] at t1
    rw [g2] at t2
    rw [g3] at t3
    rw [g4] at t4
    change DataW.trod enc Tryz.prog W 0 (fun _ => true) true n' 3 [v0] = _ at t0
    change DataW.trod enc Tryz.prog W 0 (fun _ => true) true n' 3 [v1] = _ at t1
    change DataW.trod enc Tryz.prog W 0 (fun _ => true) true n' 35 [v2, v3, v4, v5] = _ at t2
    change DataW.trod enc Tryz.prog W 0 (fun _ => true) true n' 9 [v6] = _ at t3
    change DataW.trod enc Tryz.prog W 0 (fun _ => true) true n' 36 [v7] = _ at t4
    obtain ⟨zs, n2, hn2, hA, _, hzs, hfa⟩ := DataW.trod_struct Tryz.underlying35 t2
    have hA : ys[2].1 = .agg (zs.map (·.1)) := congrArg (·.1) hA
    have hzs : zs.length = 4 := hzs
    have u0 := hfa 0 ⟨ "Code", 9, 0, false, "", "", 0⟩ rfl
    simp only at u0
    have u1 := hfa 1 ⟨ "Cur", 9, 1, false, "", "", 16⟩ rfl
    simp only at u1
    have u2 := hfa 2 ⟨ "Kind", 3, 2, false, "", "", 32⟩ rfl
    simp only at u2
    have u3 := hfa 3 ⟨ "Monetary", 4, 3, false, "", "", 40⟩ rfl
    simp only at u3
    rw [show Tryz.prog.cellsOf 9 = 1 from one9] at u0
    rw [show Tryz.prog.cellsOf 9 = 1 from one9] at u1
    rw [show Tryz.prog.cellsOf 3 = 1 from one3] at u2
    rw [show Tryz.prog.cellsOf 4 = 1 from one4] at u3
    have k0 : zs[0]? = some zs[0] := List.getElem?_eq_getElem (by omega)
    have k1 : zs[1]? = some zs[1] := List.getElem?_eq_getElem (by omega)
    have k2 : zs[2]? = some zs[2] := List.getElem?_eq_getElem (by omega)
    have k3 : zs[3]? = some zs[3] := List.getElem?_eq_getElem (by omega)
    rw [k0] at u0
    rw [k1] at u1
    rw [k2] at u2
    rw [k3] at u3
    change DataW.trod enc Tryz.prog W 0 (fun _ => true) true n2 9 [v2] = _ at u0
    change DataW.trod enc Tryz.prog W 0 (fun _ => true) true n2 9 [v3] = _ at u1
    change DataW.trod enc Tryz.prog W 0 (fun _ => true) true n2 3 [v4] = _ at u2
    change DataW.trod enc Tryz.prog W 0 (fun _ => true) true n2 4 [v5] = _ at u3
    obtain ⟨n0, e0, z0, w0⟩ := DataW.trod_int Tryz.underlying3 t0
    obtain ⟨n1, e1, z1, w1⟩ := DataW.trod_int Tryz.underlying3 t1
    obtain ⟨s6, e6, z6, w6⟩ := DataW.trod_string Tryz.underlying9 t3
    obtain ⟨s2, e2, z2, w2⟩ := DataW.trod_string Tryz.underlying9 u0
    obtain ⟨s3, e3, z3, w3⟩ := DataW.trod_string Tryz.underlying9 u1
    obtain ⟨n4, e4, z4, w4⟩ := DataW.trod_int Tryz.underlying3 u2
    obtain ⟨b5, e5, z5⟩ := DataW.trod_bool Tryz.underlying4 u3
    simp only [List.cons.injEq, and_true] at e0 e1 e2 e3 e4 e5 e6
    subst e0 e1 e2 e3 e4 e5 e6
    have lift : ∀ (k : Nat), k ∈ (D i).weights Tryz.prog 38 → k ≤ reachBytes := fun k h1 => by
     refine hw _ ?_
     rw [hx]
     have h2 := weights_all h1 (l := (List.range len).map D) (List.mem_map.2 ⟨i, List.mem_range.2 hil, rfl⟩)
     simp only [DataW.weights, hu, List.mem_cons, List.mem_append]
     exact .inr (.inl h2)
    have liftA : ∀ (k : Nat), k ∈ (ys[2].1).weights Tryz.prog 35 → k ≤ reachBytes := fun k h1 => lift k (by
      rw [hD]
      simp only [DataW.weights, Tryz.underlying38]
      exact DataW.weights_mem_each (j := 2) rfl (d := ys[2].1) (by rw [List.getElem?_map, g2]; rfl) _ h1)
    have hs6 : s6.size ≤ reachBytes := lift _ (by
      rw [hD]
      simp only [DataW.weights, Tryz.underlying38]
      refine DataW.weights_mem_each (j := 3) rfl (d := .lit (.string s6.data.toList)) (by rw [List.getElem?_map, g3, z6]; rfl) _ ?_
      simp only [DataW.weights, List.mem_singleton]
      rfl)
    have hs2 : s2.size ≤ reachBytes := liftA _ (by
      rw [hA]
      simp only [DataW.weights, Tryz.underlying35]
      refine DataW.weights_mem_each (j := 0) rfl (d := .lit (.string s2.data.toList)) (by rw [List.getElem?_map, k0, z2]; rfl) _ ?_
      simp only [DataW.weights, List.mem_singleton]
      rfl)
    have hs3 : s3.size ≤ reachBytes := liftA _ (by
      rw [hA]
      simp only [DataW.weights, Tryz.underlying35]
      refine DataW.weights_mem_each (j := 1) rfl (d := .lit (.string s3.data.toList)) (by rw [List.getElem?_map, k1, z3]; rfl) _ ?_
      simp only [DataW.weights, List.mem_singleton]
      rfl)
    obtain ⟨l7, a7, b7, m7⟩ := open_psts_raw t4 (fun k hk => lift k (by
      rw [hD]
      simp only [DataW.weights, Tryz.underlying38]
      exact DataW.weights_mem_each (j := 4) rfl (d := ys[4].1) (by rw [List.getElem?_map, g4]; rfl) _ hk))
    refine ⟨⟨n0, n1, ⟨s2, s3, n4, b5⟩, s6, l7, v7⟩, ⟨bounds_i64 w1, Nat.le_trans hs2 (by decide), Nat.le_trans hs3 (by decide), Nat.le_trans hs6 (by decide), ⟨b7, m7⟩⟩, a7, fun j u hj => ?_⟩
    have hjl : j < 8 := (List.getElem?_eq_some_iff.1 hj).1
    rw [← add_add, hat j hjl]
    exact hj
   have hlen : (len + (cap - len)) * 104 ≤ reachBytes := by
    have := hw ((len + (cap - len)) * Tryz.prog.bytesOf 38) (by rw [hx]; simp [DataW.weights, hu])
    rwa [bytesLO] at this
   simp only [reachBytes] at hlen
   haveI : Inhabited LO := ⟨⟨0, 0, noAcc, ByteArray.empty, [], .nilFunc⟩⟩
   obtain ⟨f, hfn⟩ := choose_lt each
   refine ⟨some (a.block, a.off), (List.range len).map f, cap, ?_, ?_, by simp only [List.length_map, List.length_range]; omega, ⟨?_, ?_⟩, ?_⟩
   · unfold sliceV
     cases a
     simp only at hsp
     subst hsp
     simp
   · intro x hx
     obtain ⟨i, hi', rfl⟩ := List.mem_map.1 hx
     exact (hfn i (List.mem_range.1 hi')).1
   · intro i x hx j u hj
     simp only [List.getElem?_map, Option.map_eq_some_iff] at hx
     obtain ⟨y, ⟨k, hk, rfl⟩, rfl⟩ := hx
     obtain ⟨hk1, hk2⟩ := List.getElem?_eq_some_iff.1 hk
     simp only [List.length_range] at hk1
     simp only [List.getElem_range] at hk2
     subst hk2
     have := (hfn i hk1).2.2 j u hj
     rw [add_spot hsp] at this
     rw [← this]
     simp only [Nat.add_assoc]
   · intro x hx
     obtain ⟨i, hi', rfl⟩ := List.mem_map.1 hx
     exact (hfn i (List.mem_range.1 hi')).2.1
   · rintro r hr
     cases hr
     exact hlt
end
end Go.Proofs.YtheofhegdjjfgaaGreat.Open
namespace Go.Proofs.YtheofhegdjjfgaaGreat.fxRevalues
open Go.ChangeShapes Go.WideShapes Go.ChangeAt Go.RowKit Go.Joins
open Go.ChangeMaps (open_string shut_string)
theorem own : ownKnob Tryz.prog.godebug = none := by kernel_rfl
theorem laidOut : laidOutB Tryz.prog = true := by kernel_rfl
set_option maxRecDepth 100000 in
theorem lifted (os : Os) (started : os.Started) (H : Type) (enc : TypeId × Value → H) :
 ReturnsInHanded {} Tryz.checked os 4 .any (Rows.fxRevaluesSpec.pre6 enc Tryz.prog Tryz.f4 Rows.fxRevaluesRow.domain false) (Rows.fxRevaluesSpec.post enc Tryz.prog Tryz.f4 false true false false) := by
 refine returnsInHanded_of_change_sized (C := Tryz.checked) own started (by kernel_rfl) Tryz.func4
  (ChangeSpec.witness6 (enc := enc) (C := Tryz.checked) false ⟨#[], #[.slice none 0 0, .slice none 0 0, .int .i64 0, .string ByteArray.empty], []⟩ 8 (by kernel_rfl) (by kernel_rfl) (by kernel_rfl) (by kernel_rfl)) ?_
 intro W base args ds gs before hval0 hW hcnd hsz0 _
 have hval : ∀ (j : Nat) t v, Tryz.f4.params[j]? = some t → args[j]? = some v → Value.okWide Tryz.prog W .any base t v := hval0
 have hW' := hW
 obtain ⟨p, q, hA0, hV, rfl, hfz, hnd⟩ := hW
 have hsz : (DataW.weightsEach Tryz.prog (Tryz.f4.params.toList ++ Rows.fxRevaluesSpec.plain.varTypes Tryz.prog) (ds ++ gs)).all (· ≤ reachBytes) = true := hsz0
 have hA : DataW.TrodAll enc Tryz.prog W 0 (fun _ => true) true Tryz.f4.params.toList args.toList ds p := hA0
 rw [Tryz.params4] at hA hval hsz
 obtain ⟨v0, vs0, d0, ds0, p0, q0, hargs, rfl, rfl, h0, r0⟩ := trodAll_cons hA
 obtain ⟨v1, vs1, d1, ds1, p1, q1, rfl, rfl, rfl, h1, r1⟩ := trodAll_cons r0
 obtain ⟨v2, vs2, d2, ds2, p2, q2, rfl, rfl, rfl, h2, r2⟩ := trodAll_cons r1
 obtain ⟨v3, vs3, d3, ds3, p3, q3, rfl, rfl, rfl, h3, r3⟩ := trodAll_cons r2
 obtain ⟨rfl, rfl, rfl⟩ := trodAll_nil r3
 obtain rfl : args = #[v0, v1, v2, v3] := by cases args; simp_all
 obtain ⟨rfl, rfl⟩ := trodVars_none hV
 have k0 := h0
 have lt0 : ∀ x ∈ p0, x.block < W.heap.size := by obtain ⟨m, hm⟩ := k0; exact DataW.trod_lt m _ _ _ hm
 have z0 : ∀ n ∈ d0.weights Tryz.prog 22, n ≤ reachBytes := fun n hn => by simpa using List.all_eq_true.1 hsz n (DataW.weights_mem_each (j := 0) (t := 22) (d := d0) rfl rfl n hn)
 obtain ⟨s0, l0, c0, rfl, f0, m0, e0, g0⟩ := Open.open_los (hval 0 22 v0 rfl rfl) h0 z0
 have k1 := h1
 have lt1 : ∀ x ∈ p1, x.block < W.heap.size := by obtain ⟨m, hm⟩ := k1; exact DataW.trod_lt m _ _ _ hm
 have z1 : ∀ n ∈ d1.weights Tryz.prog 41, n ≤ reachBytes := fun n hn => by simpa using List.all_eq_true.1 hsz n (DataW.weights_mem_each (j := 1) (t := 41) (d := d1) rfl rfl n hn)
 obtain ⟨s1, l1, c1, rfl, y1, f1, m1, e1, g1⟩ := Open.open_sets (hval 1 41 v1 rfl rfl) h1 z1
 have k2 := h2
 have lt2 : ∀ x ∈ p2, x.block < W.heap.size := by obtain ⟨m, hm⟩ := k2; exact DataW.trod_lt m _ _ _ hm
 obtain ⟨a2, rfl, rfl, rfl, w2⟩ := open_int Tryz.underlying3 (hval 2 3 v2 rfl rfl) h2
 have b2 := bounds_i64 w2
 have k3 := h3
 have lt3 : ∀ x ∈ p3, x.block < W.heap.size := by obtain ⟨m, hm⟩ := k3; exact DataW.trod_lt m _ _ _ hm
 obtain ⟨a3, rfl, rfl, rfl, w3⟩ := open_string Tryz.underlying9 (hval 3 9 v3 rfl rfl) h3
 have zs3 : a3.size ≤ reachBytes := by simpa using List.all_eq_true.1 hsz a3.size (DataW.weights_mem_each (j := 3) (t := 9) (d := .lit (.string a3.data.toList)) rfl rfl _ (by simp [DataW.weights]))
 have zt3 : a3.size ≤ 4611686018427387904 := Nat.le_trans zs3 (by decide)
 have hw := FxRevalues_P s0 c0 l0 m0 f0 s1 c1 l1 m1 f1 a2 a3 zt3 W e0 g0 e1 g1
 clear hA0 hval0
 refine hw.mono fun e W' ⟨he, hchg⟩ => ?_
 have bel := hchg.below
 subst he
 exact ⟨_, rfl, _, _, _, [], _, [], hW', trodAll_mk1 (shut_bool Tryz.underlying4 _), (trodAll_cons_mk (Below.trod laidOut (by kernel_rfl) (of_decide_eq_true (by kernel_rfl)) k0 bel lt0) (trodAll_cons_mk (Below.trod laidOut (by kernel_rfl) (of_decide_eq_true (by kernel_rfl)) k1 bel lt1) (trodAll_cons_mk (Below.trod laidOut (by kernel_rfl) (of_decide_eq_true (by kernel_rfl)) k2 bel lt2) (trodAll_cons_mk (Below.trod laidOut (by kernel_rfl) (of_decide_eq_true (by kernel_rfl)) k3 bel lt3) trodAll_mk0)))), rfl, bel.frame _, fun h => by cases h⟩
theorem over : Rows.fxRevaluesRow.holds Tryz.pinned (OpenSpec.ofChange Rows.fxRevaluesSpec) :=
 OpenClaim.holds_of_wide 4 Tryz.f4 rfl rfl rfl rfl rfl rfl rfl ⟨rfl, rfl, rfl, rfl, rfl⟩ rfl rfl rfl rfl rfl (by kernel_rfl) Tryz.func4 (by kernel_rfl)
  (of_decide_eq_true (by kernel_rfl)) (by unfold Func.isWrapper; first | (rw [if_pos (by decide +kernel)]; kernel_rfl) | (rw [if_neg (by decide +kernel)]; exact ⟨rfl, rfl⟩))
  (fun os started H enc _ => lifted os started H enc)
theorem proved : Rows.FxRevaluesSaid := over
end Go.Proofs.YtheofhegdjjfgaaGreat.fxRevalues
