/- FrontBack: for every argument the law returns true, and each argument reads afterwards as it read before. No conditions. (text 6 of 6) -/
import Derived.Test.YtlccmgeclhdegaaGreatDoorLFaC5
import Derived.Handed
import Derived.SizedLaws
import Derived.Shelf.Vars
import Derived.KernelRfl
import Derived.Stop.LaidErr
import Derived.LaidLaws
import Derived.MakeChecks
import Derived.Lib.LaidU8T
import Derived.Lib.LaidTab
import Derived.Deep.Slices
import Derived.Deep.Fields
import Derived.ChangeSame
import Derived.OpenShut
import Derived.Lib.SmallJoins
import Derived.ProofKit
import Derived.ShutString
import Derived.ChangeOld
import Derived.Below
import Derived.LaidMore
import Derived.Lay
import Derived.SevenTiedAt
import Derived.Stop.Joined
import Derived.JoinedCond
import Derived.Deep.DeepHandedRow
import Derived.Test.YtlccmgeclhdegaaGreatDoorTie
import Derived.Test.YtlccmgeclhdegaaGreatDoorCards
namespace Go.Proofs.YtlccmgeclhdegaaGreatDoor
open Go.RowKit
theorem fct_none (W : World) (q : Option Addr) : FctC W q [] := ⟨fun h => absurd rfl h⟩
theorem bnq_open {r : Int × Cd} (x : BnR r) {w : World} (hy : (bnY r x).ok w) : ∃ (d : Cd) (q : Option Addr) (cp : Nat) (e : Int), bnV r x = .tuple [.agg (cellsC d (.slice q d.fx.length cp)).toArray, .int .i64 e].toArray ∧
 ((e = 0 ∧ r.1 = 0 ∧ d = r.2 ∧ bnY r x = ownA 160 4 (.slice q d.fx.length cp) d.fx.length (d.fx.flatMap encF)) ∨ (e ≠ 0 ∧ d = zCd 0 ∧ q = none ∧ cp = 0)) := by
 rcases x with x | x
 · obtain ⟨q, cp, e⟩ := own_slice (show (ownA 160 4 x.1 r.2.fx.length (r.2.fx.flatMap encF)).ok w from hy).now
   exact ⟨r.2, q, cp, 0, by show Value.tuple [.agg (cellsC r.2 x.1).toArray, .int .i64 0].toArray = _; rw [e], .inl ⟨rfl, x.2, rfl, by show ownA 160 4 x.1 r.2.fx.length (r.2.fx.flatMap encF) = _; rw [e]⟩⟩
 · exact ⟨zCd 0, none, 0, r.1, rfl, .inr ⟨x.2, rfl, rfl, rfl⟩⟩
set_option maxHeartbeats 8000000 in
set_option maxRecDepth 100000 in
theorem FrontBack_P (W0 : World) (hG : Gj W0) (hY : Sy W0) (c : Cd) (hc : c.ok) (hfx : FxB c.fx) (htt : totT c ≤ 1048576) (fa : Option Addr) (fc : Nat) (hF : FctC W0 fa c.fx) (me pa l : List UInt8) (q : Option Addr) (cap : Nat) (ht : ByAt (.slice q l.length cap) (bsI l) W0) (cl : Bool) (w0 : World) (hold : oldφ W0 w0) :
 PureC Tryz.prog 6 [.agg (cellsC c (.slice fa c.fx.length fc)).toArray, .agg [.string (tx me), .string (tx pa), .slice q l.length cap, .bool cl].toArray] w0 (.bool true) := by
 have hz1 := tx_size me
 have hz2 := tx_size pa
 refine c_enter [(0, .agg (cellsC c (.slice fa c.fx.length fc)).toArray), (1, .agg [.string (tx me), .string (tx pa), .slice q l.length cap, .bool cl].toArray)] [oldA W0] noB Tryz.func6 rfl Tryz.ntmps6 ⟨rfl, rfl, trivial⟩ rfl (okC (old_ok hold) okN) dis1 (mineC rfl mineN) ?_
 intro a hS
 refine cS (cR ?_)
 refine L_op (s_boxA hS rfl rfl ?_); clear hS a; intro a w b2 hS
 refine L_op (s_boxA hS rfl rfl ?_); clear hS a; intro a w b3 hS
 refine L_e hS (e_assign rfl) rfl ?_; clear hS a; intro a hS
 refine nL (nT (cS (cR ?_)))
 refine L_op (s_callP hS .nil cf7 rfl (frFirstG_P W0 hG hY _ (hS.gg (X := oldA W0))) ?_); clear hS a; intro a w hS
 refine L_e hS (e_assign rfl) rfl ?_; clear hS a; intro a hS
 refine nL (nT (cS (cS (cR ?_))))
 refine Rn hS (.m rfl <| .c (e_not rfl) <| .m rfl .n) ?_; clear hS a; intro a hS
 replace hS := hS.is (t := 23) (c := false) rfl (rfl)
 refine L_ge hS rfl rfl (e_loadA (cs := cellsC c (.slice fa c.fx.length fc)) rfl (by repeat constructor) ty_st24 ty_sz24 rfl) rfl ?_; clear hS a; intro a hS
 refine L_go hS rfl rfl (s_callN hS (.cons rfl .nil) cf8 rfl (frFew_N W0 fa fc c hF _ (hS.gg (X := oldA W0))) ?_); clear hS a; intro x25 a w hS
 obtain ⟨bs, hbs⟩ := x25
 simp only at hS
 refine Rn hS (.g rfl rfl (e_not rfl) <| .c (e_pick_f rfl rfl) <| .m rfl .n) ?_; clear hS a; intro a hS
 refine L_merge 5 33 (.bool (!bs || decide (5000 < me.length))) hS ?_ ?_
 · intro hcM33
   refine g_split (t := 28) hS rfl ?_ ?_ <;> (clear hS; intro hg28 hS)
   ·
    refine Rn hS (.f rfl rfl <| .f rfl rfl <| .f rfl rfl <| .f rfl rfl <| .c (e_pick_t rfl rfl) .n) ?_; clear hS a; intro a hS
    exact hcM33 _ _ (hS.ends 6 33 28 rfl (congrArg Value.bool (by rw [hg28]; rfl)) rfl rfl (by first | exact congrArg Value.bool (decide_eq_true hg28).symm | exact congrArg Value.bool hg28.symm | simp [hg28]) rfl)
   refine Rn hS (.g rfl rfl (e_fa0 rfl ty_fo29_0) <| .g rfl rfl (e_load rfl (by repeat constructor) ty_sc9 (by rfl)) <| .g rfl rfl (e_lenS rfl rfl ty_u9) <| .g rfl rfl (e_bin rfl rfl rfl) <| .c (e_pick_f rfl rfl) .n) ?_; clear hS a; intro a hS
   exact hcM33 _ _ (hS.ends 6 33 28 rfl (congrArg Value.bool (by rw [hg28, Bool.false_or]; exact decide_eq_decide.2 (by rw [hz1]; omega))) rfl rfl (by first | exact congrArg Value.bool (decide_eq_false hg28).symm | exact congrArg Value.bool hg28.symm | simp [hg28]) rfl)
 · clear hS a; intro a w hS
   simp only [List.drop_succ_cons, List.drop_zero]
   refine L_e hS (e_move rfl) rfl ?_; clear hS a; intro a hS
   refine L_merge 5 39 (.bool ((!bs || decide (5000 < me.length)) || decide (5000 < pa.length))) hS ?_ ?_
   · intro hcM39
     refine g_split (t := 34) hS rfl ?_ ?_ <;> (clear hS; intro hg34 hS)
     ·
      refine Rn hS (.f rfl rfl <| .f rfl rfl <| .f rfl rfl <| .f rfl rfl <| .c (e_pick_t rfl rfl) .n) ?_; clear hS a; intro a hS
      exact hcM39 _ _ (hS.ends 6 39 34 rfl (congrArg Value.bool (by rw [hg34]; rfl)) rfl rfl (by first | exact congrArg Value.bool (decide_eq_true hg34).symm | exact congrArg Value.bool hg34.symm | simp [hg34]) rfl)
     refine Rn hS (.g rfl rfl (e_fa0 rfl ty_fo29_1) <| .g rfl rfl (e_load rfl (by repeat constructor) ty_sc9 (by rfl)) <| .g rfl rfl (e_lenS rfl rfl ty_u9) <| .g rfl rfl (e_bin rfl rfl rfl) <| .c (e_pick_f rfl rfl) .n) ?_; clear hS a; intro a hS
     exact hcM39 _ _ (hS.ends 6 39 34 rfl (congrArg Value.bool (by rw [hg34, Bool.false_or]; exact decide_eq_decide.2 (by rw [hz2]; omega))) rfl rfl (by first | exact congrArg Value.bool (decide_eq_false hg34).symm | exact congrArg Value.bool hg34.symm | simp [hg34]) rfl)
   · clear hS a; intro a w hS
     simp only [List.drop_succ_cons, List.drop_zero]
     refine L_e hS (e_move rfl) rfl ?_; clear hS a; intro a hS
     refine L_merge 5 45 (.bool (((!bs || decide (5000 < me.length)) || decide (5000 < pa.length)) || decide (5000 < l.length))) hS ?_ ?_
     · intro hcM45
       refine g_split (t := 40) hS rfl ?_ ?_ <;> (clear hS; intro hg40 hS)
       ·
        refine Rn hS (.f rfl rfl <| .f rfl rfl <| .f rfl rfl <| .f rfl rfl <| .c (e_pick_t rfl rfl) .n) ?_; clear hS a; intro a hS
        exact hcM45 _ _ (hS.ends 6 45 40 rfl (congrArg Value.bool (by rw [hg40]; rfl)) rfl rfl (by first | exact congrArg Value.bool (decide_eq_true hg40).symm | exact congrArg Value.bool hg40.symm | simp [hg40]) rfl)
       refine Rn hS (.g rfl rfl (e_fa0 rfl ty_fo29_2) <| .g rfl rfl (e_load rfl (by repeat constructor) ty_sc27 (by rfl)) <| .g rfl rfl (e_len rfl rfl ty_sl27) <| .g rfl rfl (e_bin rfl rfl rfl) <| .c (e_pick_f rfl rfl) .n) ?_; clear hS a; intro a hS
       exact hcM45 _ _ (hS.ends 6 45 40 rfl (congrArg Value.bool (by rw [hg40, Bool.false_or]; exact decide_eq_decide.2 (by omega))) rfl rfl (by first | exact congrArg Value.bool (decide_eq_false hg40).symm | exact congrArg Value.bool hg40.symm | simp [hg40]) rfl)
     · clear hS a; intro a w hS
       simp only [List.drop_succ_cons, List.drop_zero]
       refine nL (nT ?_)
       refine c_if hS rfl (fun hc45 => ?_) (fun hc45 => ?_)
       ·
        refine cS (cR ?_)
        refine Rn hS (.m rfl <| .a rfl .n) ?_; clear hS a; intro a hS
        refine nL (nT (wp_ret (r_then ?_)))
        refine c_ret1 hS Tryz.results6 (.tmp rfl) ?_
        exact ⟨rfl, hS.chg⟩
       obtain ⟨⟨⟨hb0, _⟩, hp5⟩, hl5⟩ : ((bs = true ∧ me.length ≤ 5000) ∧ pa.length ≤ 5000) ∧ l.length ≤ 5000 := by
        simp only [Bool.or_eq_false_iff, Bool.not_eq_false', decide_eq_false_iff_not] at hc45
        exact ⟨⟨⟨hc45.1.1.1, by omega⟩, by omega⟩, by omega⟩
       have hsmall : smallC c := hbs.1 hb0
       have hfl : c.fx.length ≤ 1000 := by have := hsmall.1.1.1; omega
       have hcb : ∀ (k : Nat) (x : List UInt8 × List Fg) (v : JV) (c' : Cd), rtG[k]? = some x → reqL (fdsOf x.2) c [] [] = some (v, c') → goodV 3 v ∧ smV 3 v ∧ lenJ 3 v ≤ 9000000 := fun _ _ _ _ hx h => ⟨req_good hc hfx hx h, req_sm hc hfx hsmall.1.1 htt hx h⟩
       refine wS (nT (cS (cR ?_)))
       refine L_e hS (e_loadA (cs := cellsC c (.slice fa c.fx.length fc)) rfl (by repeat constructor) ty_st24 ty_sz24 rfl) rfl ?_; clear hS a; intro a hS
       refine L_op (s_callN hS (.cons rfl .nil) cf16 rfl (frCommand_N W0 fa fc c hfl hF _ (hS.gg (X := oldA W0))) ?_); clear hS a; intro x48 a w hS
       obtain ⟨qv, cv⟩ := x48
       refine L_op (s_alloc hS ty_z48 rfl ?_); clear hS a; intro a w b6 hS
       refine L_op (s_storeA (l := cellsC c (.slice qv c.fx.length cv)) hS rfl rfl ty_sz48 (by repeat constructor) rfl rfl rfl ?_); clear hS; intro w hS
       refine nL (nT (cS (cR ?_)))
       refine L_e hS (e_loadA (cs := cellsC c (.slice fa c.fx.length fc)) rfl (by repeat constructor) ty_st24 ty_sz24 rfl) rfl ?_; clear hS a; intro a hS
       refine L_op (s_callN hS (.cons rfl .nil) cf9 rfl (fRequest_S W0 hG c hc hfx hsmall.1.1 htt fa fc hF _ (hS.gg (X := oldA W0))) ?_); clear hS a; intro x51 a w hS
       obtain ⟨me1, pa1, s1, q1, cp1, e1, hrv, hby1, hrc⟩ := rq_open2 hc x51
       rw [hrv] at hS
       refine Rn hS (.m rfl <| .c (e_extract rfl rfl) <| .c (e_extract rfl rfl) .n) ?_; clear hS a; intro a hS
       refine L_op (s_alloc hS ty_z29 rfl ?_); clear hS a; intro a w b7 hS
       refine L_op (s_storeA hS rfl rfl ty_sz29 (by repeat constructor) (by rfl) (by rfl) (by rfl) ?_); clear hS; intro w hS
       refine L_e hS (e_assign rfl) rfl ?_; clear hS a; intro a hS
       refine nL (nT ?_)
       refine c_cut (fun a w => St 139 noB w0 a w [(3, .pointer (some ⟨b3, 0, none⟩)), (7, .pointer (some ⟨b7, 0, none⟩))] [.blk b3 [.string (tx me), .string (tx pa), .slice q l.length cap, .bool cl] 29, .blk b7 [.string (tx me1), .string (tx pa1), .slice q1 s1.length cp1, .bool false] 29, oldA W0]) ?_ ?_
       ·
        refine cS (cR ?_)
        refine L_e hS (e_move rfl) rfl ?_; clear hS a; intro a hS
        refine L_op (s_callP hS (.cons rfl .nil) cf10 rfl (lNum_P e1 _) ?_); clear hS a; intro a w hS
        refine L_e hS (e_bin rfl rfl rfl) rfl ?_; clear hS a; intro a hS
        refine nL (nT ?_)
        refine c_ifD hS rfl (fun hc56 => ?_) (fun hc56 => ?_)
        ·
         have hq1 : okQ c me1 pa1 s1 := by
          rcases hrc with ⟨_, h⟩ | ⟨h, _⟩
          · exact h
          · exact absurd hc56 h
         obtain ⟨k1, k2, k3⟩ := okQ_len hc hq1
         obtain ⟨o1, o2, o3⟩ := okQ_bind hc hfx hq1
         refine cS (cR ?_)
         refine L_e hS (e_loadA rfl (by repeat constructor) ty_st29 ty_sz29 (by rfl)) rfl ?_; clear hS a; intro a hS
         refine L_op (s_callN hS (.cons rfl .nil) cf14 rfl (fBindG_N w (hG.keep (hS.gg (X := oldA W0))) (hY.keep (hS.gg (X := oldA W0))) me1 pa1 (by omega) q1 cp1 s1 ⟨hby1 _ (hS.gg (X := rqY c x51)), by omega⟩ (okQ_sm hq1) false w (old_refl w)) ?_); clear hS a; intro x59 a w hS
         obtain ⟨bq, bc, f1, f2⟩ := bn_ok x59 o1 o2 o3 (hS.ok (bnY (bindQ me1 pa1 s1) x59) (by repeat constructor))
         rw [f1, f2] at hS
         refine Rn hS (.m rfl <| .c (e_extract rfl rfl) <| .c (e_extract rfl rfl) .n) ?_; clear hS a; intro a hS
         refine L_op (s_alloc hS ty_z24 rfl ?_); clear hS a; intro a w b9 hS
         refine L_op (s_storeA (l := cellsC c (.slice bq c.fx.length bc)) hS rfl rfl ty_sz24 (by repeat constructor) rfl rfl rfl ?_); clear hS; intro w hS
         refine L_e hS (e_assign rfl) rfl ?_; clear hS a; intro a hS
         refine nL (nT (cS (cR ?_)))
         refine L_e hS (e_loadA (cs := cellsC c (.slice fa c.fx.length fc)) rfl (by repeat constructor) ty_st24 ty_sz24 rfl) rfl ?_; clear hS a; intro a hS
         refine L_op (s_callN hS (.cons rfl .nil) cf18 rfl (fEncode_N W0 hG c hc fa fc ⟨hF.c, hfl, hfx⟩ _ (hS.gg (X := oldA W0)) hcb) ?_); clear hS a; intro x64 a w hS
         obtain ⟨⟨⟨⟨q2, c2⟩, me2, pa2, s2⟩, hq2, hl2⟩, rfl⟩ : ∃ x, x64 = .inl x := by
          rcases x64 with x | ⟨e, _, h⟩
          · exact ⟨x, rfl⟩
          · exact (okQ_noerr hq1 h).elim
         obtain ⟨rfl, rfl, rfl⟩ := okQ_one hq1 hq2
         simp only [enV, enY] at hS hl2
         refine Rn hS (.m rfl <| .c (e_extract rfl rfl) <| .c (e_extract rfl rfl) <| .a rfl <| .a rfl .n) ?_; clear hS a; intro a hS
         refine nL (nT (cS (cR ?_)))
         refine L_e hS (e_move rfl) rfl ?_; clear hS a; intro a hS
         refine L_op (s_callN hS (.cons rfl .nil) cf22 rfl (fDecode_N w (hG.keep (hS.gg (X := oldA W0))) (hY.keep (hS.gg (X := oldA W0))) c hc hfx hfl me2 pa2 s2 hq2 q2 c2 hl2 (hS.gg (X := bmA (.slice q2 (encB me2 pa2 s2).length c2) (bsI (encB me2 pa2 s2)))) w (old_refl w) (okQ_sm hq2) hcb) ?_); clear hS a; intro x69 a w hS
         obtain ⟨dq, dc⟩ := x69
         refine Rn hS (.m rfl <| .c (e_extract rfl rfl) <| .c (e_extract rfl rfl) .n) ?_; clear hS a; intro a hS
         refine L_op (s_alloc hS ty_z24 rfl ?_); clear hS a; intro a w b13 hS
         refine L_op (s_storeA (l := cellsC c (.slice dq c.fx.length dc)) hS rfl rfl ty_sz24 (by repeat constructor) rfl rfl rfl ?_); clear hS; intro w hS
         refine L_e hS (e_assign rfl) rfl ?_; clear hS a; intro a hS
         refine nL (nT (cS (cR ?_)))
         refine L_e hS (e_move rfl) rfl ?_; clear hS a; intro a hS
         refine L_op (s_callP hS (.cons rfl .nil) cf10 rfl (lNum_P 0 _) ?_); clear hS a; intro a w hS
         refine Rn hS (.c (e_bin rfl rfl rfl) <| .m rfl .n) ?_; clear hS a; intro a hS
         replace hS := hS.is (t := 75) (c := false) rfl (rfl)
         refine L_ge hS rfl rfl (e_move rfl) rfl ?_; clear hS a; intro a hS
         refine L_go hS rfl rfl (s_callP hS (.cons rfl .nil) cf10 rfl (lNum_P 0 _) ?_); clear hS a; intro a w hS
         refine Rn hS (.g rfl rfl (e_bin rfl rfl rfl) <| .c (e_pick_f rfl rfl) <| .m rfl .n) ?_; clear hS a; intro a hS
         replace hS := hS.is (t := 80) (c := false) rfl (rfl)
         refine L_ge hS rfl rfl (e_move rfl) rfl ?_; clear hS a; intro a hS
         refine L_go hS rfl rfl (s_callP hS (.cons rfl .nil) cf10 rfl (lNum_P 0 _) ?_); clear hS a; intro a w hS
         refine Rn hS (.g rfl rfl (e_bin rfl rfl rfl) <| .c (e_pick_f rfl rfl) <| .m rfl .n) ?_; clear hS a; intro a hS
         replace hS := hS.is (t := 85) (c := false) rfl (rfl)
         refine Rn hS (.g rfl rfl (e_loadA (cs := cellsC c (.slice bq c.fx.length bc)) rfl (by repeat constructor) ty_st24 ty_sz24 rfl) <| .g rfl rfl (e_loadA (cs := cellsC c (.slice qv c.fx.length cv)) rfl (by repeat constructor) ty_st48 ty_sz48 rfl) .n) ?_; clear hS a; intro a hS
         refine L_go hS rfl rfl (s_callP hS (.cons rfl (.cons rfl .nil)) cf15 rfl (frSame_P w bq qv bc cv c hfl (fct_own (hS.ok (ownA 160 4 (.slice bq c.fx.length bc) c.fx.length (c.fx.flatMap encF)) (by repeat constructor))) (fct_own (hS.ok (ownA 139 4 (.slice qv c.fx.length cv) c.fx.length (c.fx.flatMap encF)) (by repeat constructor))) w (old_refl w)) ?_); clear hS a; intro a w hS
         refine Rn hS (.g rfl rfl (e_not rfl) <| .c (e_pick_f rfl rfl) <| .m rfl .n) ?_; clear hS a; intro a hS
         replace hS := hS.is (t := 91) (c := false) rfl (rfl)
         refine Rn hS (.g rfl rfl (e_loadA (cs := cellsC c (.slice dq c.fx.length dc)) rfl (by repeat constructor) ty_st24 ty_sz24 rfl) <| .g rfl rfl (e_loadA (cs := cellsC c (.slice qv c.fx.length cv)) rfl (by repeat constructor) ty_st48 ty_sz48 rfl) .n) ?_; clear hS a; intro a hS
         refine L_go hS rfl rfl (s_callP hS (.cons rfl (.cons rfl .nil)) cf15 rfl (frSame_P w dq qv dc cv c hfl (fct_own (hS.ok (ownA 160 4 (.slice dq c.fx.length dc) c.fx.length (c.fx.flatMap encF)) (by repeat constructor))) (fct_own (hS.ok (ownA 139 4 (.slice qv c.fx.length cv) c.fx.length (c.fx.flatMap encF)) (by repeat constructor))) w (old_refl w)) ?_); clear hS a; intro a w hS
         refine Rn hS (.g rfl rfl (e_not rfl) <| .c (e_pick_f rfl rfl) .n) ?_; clear hS a; intro a hS
         refine nL (nT ?_)
         replace hS := hS.is (t := 96) (c := false) rfl (rfl)
         refine c_if_f hS rfl ?_
         refine wS ?_
         exact (hS.slots (by repeat (first | exact trivial | refine ⟨rfl, ?_⟩))).pick (by repeat (first | exact Pick.nil | (refine Pick.cons (by repeat (first | exact Rem.head | apply Rem.tail)) ?_)))
        refine wS ?_
        exact (hS.slots (by repeat (first | exact trivial | refine ⟨rfl, ?_⟩))).pick (by repeat (first | exact Pick.nil | (refine Pick.cons (by repeat (first | exact Rem.head | apply Rem.tail)) ?_)))
       clear hS a; intro a w hS
       skip
       refine cS (cR ?_)
       refine L_e hS (e_loadA rfl (by repeat constructor) ty_st29 ty_sz29 (by rfl)) rfl ?_; clear hS a; intro a hS
       refine L_op (s_callN hS (.cons rfl .nil) cf14 rfl (fBindG_N W0 hG hY me pa (by omega) q cap l ⟨ht, by omega⟩ (fun v hv => parse_sm hv) cl _ (hS.gg (X := oldA W0))) ?_); clear hS a; intro x99 a w hS
       obtain ⟨d, dq, dc, de, hdv, hdc⟩ := bnq_open x99 (hS.ok (bnY (bindQ me pa l) x99) (by repeat constructor))
       rw [hdv] at hS
       refine Rn hS (.m rfl <| .c (e_extract rfl rfl) <| .c (e_extract rfl rfl) .n) ?_; clear hS a; intro a hS
       refine L_op (s_alloc hS ty_z24 rfl ?_); clear hS a; intro a w b15 hS
       refine L_op (s_storeA (l := cellsC d (.slice dq d.fx.length dc)) hS rfl rfl ty_sz24 (by repeat constructor) rfl rfl rfl ?_); clear hS; intro w hS
       refine L_e hS (e_assign rfl) rfl ?_; clear hS a; intro a hS
       refine nL (nT (cS (cS (cR ?_))))
       refine L_e hS (e_move rfl) rfl ?_; clear hS a; intro a hS
       refine L_op (s_callP hS (.cons rfl .nil) cf10 rfl (lNum_P de _) ?_); clear hS a; intro a w hS
       refine L_e hS (e_bin rfl rfl rfl) rfl ?_; clear hS a; intro a hS
       refine nL (nT ?_)
       refine c_ifD hS rfl (fun hc104 => ?_) (fun hc104 => ?_)
       ·
        obtain ⟨_, rfl, rfl, rfl⟩ : de ≠ 0 ∧ d = zCd 0 ∧ dq = none ∧ dc = 0 := by
         rcases hdc with ⟨h, _⟩ | h
         · exact absurd h hc104
         · exact h
        refine cS (cR ?_)
        refine Rn hS (.c (e_loadA (cs := cellsC (zCd 0) (.slice none (zCd 0).fx.length 0)) rfl (by repeat constructor) ty_st24 ty_sz24 rfl) <| .c (e_build ty_z48 ty_pl48 .nil) .n) ?_; clear hS a; intro a hS
        refine L_op (s_callP hS (.cons rfl (.cons rfl .nil)) cf15 rfl (frSame_P w none none 0 0 (zCd 0) (Nat.zero_le _) (fct_none w none) (fct_none w none) w (old_refl w)) ?_); clear hS a; intro a w hS
        refine L_e hS (e_assign rfl) rfl ?_; clear hS a; intro a hS
        refine nL (nT (wp_ret (r_then ?_)))
        refine c_ret1 hS Tryz.results6 (.tmp rfl) ?_
        exact ⟨rfl, hS.chg⟩
       obtain ⟨_, hd0, hdd, hdy⟩ : de = 0 ∧ (bindQ me pa l).1 = 0 ∧ d = (bindQ me pa l).2 ∧ bnY (bindQ me pa l) x99 = ownA 160 4 (.slice dq d.fx.length dc) d.fx.length (d.fx.flatMap encF) := by
        rcases hdc with h | ⟨h, _⟩
        · exact h
        · exact absurd h hc104
       have hgot : Got d l.length := hdd ▸ bq_got hl5 hd0
       rw [hdy] at hS
       refine wS (nT (cS (cR ?_)))
       refine L_e hS (e_loadA (cs := cellsC d (.slice dq d.fx.length dc)) rfl (by repeat constructor) ty_st24 ty_sz24 rfl) rfl ?_; clear hS a; intro a hS
       refine L_op (s_callN hS (.cons rfl .nil) cf9 rfl (fRequest_N w (hG.keep (hS.gg (X := oldA W0))) d hgot.ok dq dc ⟨(fct_own (hS.ok (ownA 160 4 (.slice dq d.fx.length dc) d.fx.length (d.fx.flatMap encF)) (by repeat constructor))).c, hgot.fl, hgot.fb⟩ w (old_refl w) hgot.hb) ?_); clear hS a; intro x110 a w hS
       obtain ⟨me2, pa2, s2, q2, cp2, e2, hrv2, hby2, hrc2⟩ := rq_open2 hgot.ok x110
       rw [hrv2] at hS
       refine Rn hS (.m rfl <| .c (e_extract rfl rfl) <| .c (e_extract rfl rfl) .n) ?_; clear hS a; intro a hS
       refine L_op (s_storeA hS rfl rfl ty_sz29 (by repeat constructor) (by rfl) (by rfl) (by rfl) ?_); clear hS; intro w hS
       refine L_e hS (e_assign rfl) rfl ?_; clear hS a; intro a hS
       refine nL (nT (cS (cS (cR ?_))))
       refine L_e hS (e_move rfl) rfl ?_; clear hS a; intro a hS
       refine L_op (s_callP hS (.cons rfl .nil) cf10 rfl (lNum_P e2 _) ?_); clear hS a; intro a w hS
       refine L_e hS (e_bin rfl rfl rfl) rfl ?_; clear hS a; intro a hS
       refine nL (nT ?_)
       refine c_ifD hS rfl (fun hc115 => ?_) (fun hc115 => ?_)
       ·
        refine cS (cR ?_)
        refine Rn hS (.c (e_fa0 rfl ty_fo29_2) <| .c (e_load rfl (by repeat constructor) ty_sc27 (by rfl)) <| .c (e_len rfl rfl ty_sl27) <| .c (e_bin rfl rfl rfl) <| .a rfl .n) ?_; clear hS a; intro a hS
        refine nL (nT (wp_ret (r_then ?_)))
        refine c_ret1 hS Tryz.results6 (.tmp rfl) ?_
        have h8 : 1000 < l.length := by
         rcases hrc2 with ⟨h, _⟩ | ⟨_, h, _⟩
         · rw [h] at hc115; exact absurd hc115 (by decide)
         · exact (hgot.er _ h).2
        exact ⟨congrArg (fun b => Ending.returned (Value.bool b)) (decide_eq_true (by omega)), hS.chg⟩
       obtain ⟨rfl, hq2⟩ : e2 = 0 ∧ okQ d me2 pa2 s2 := by
        rcases hrc2 with h | ⟨_, h, _⟩
        · exact h
        · exact absurd (hgot.er _ h).1 hc115
       obtain ⟨k1, k2, k3⟩ := okQ_len hgot.ok hq2
       obtain ⟨o1, o2, o3⟩ := okQ_bind hgot.ok hgot.fb hq2
       refine wS (nT (cS (cR ?_)))
       refine L_e hS (e_loadA rfl (by repeat constructor) ty_st29 ty_sz29 (by rfl)) rfl ?_; clear hS a; intro a hS
       refine L_op (s_callN hS (.cons rfl .nil) cf14 rfl (fBindG_N w (hG.keep (hS.gg (X := oldA W0))) (hY.keep (hS.gg (X := oldA W0))) me2 pa2 (by omega) q2 cp2 s2 ⟨hby2 _ (hS.gg (X := rqY d x110)), by omega⟩ (okQ_sm hq2) false w (old_refl w)) ?_); clear hS a; intro x122 a w hS
       obtain ⟨bq, bc, f1, f2⟩ := bn_ok x122 o1 o2 o3 (hS.ok (bnY (bindQ me2 pa2 s2) x122) (by repeat constructor))
       rw [f1, f2] at hS
       refine Rn hS (.m rfl <| .c (e_extract rfl rfl) <| .c (e_extract rfl rfl) .n) ?_; clear hS a; intro a hS
       refine L_op (s_alloc hS ty_z24 rfl ?_); clear hS a; intro a w b18 hS
       refine L_op (s_storeA (l := cellsC d (.slice bq d.fx.length bc)) hS rfl rfl ty_sz24 (by repeat constructor) rfl rfl rfl ?_); clear hS; intro w hS
       refine L_e hS (e_assign rfl) rfl ?_; clear hS a; intro a hS
       refine nL (nT (cS ?_))
       refine c_drawS [] (by kernel_rfl) hS (sub_cons (X := .blk b18 (cellsC d (.slice bq d.fx.length bc)) 24) (by repeat constructor) (sub_cons (X := .blk b15 (cellsC d (.slice dq d.fx.length dc)) 24) (by repeat constructor) (sub_cons (X := ownA 160 4 (.slice bq d.fx.length bc) d.fx.length (d.fx.flatMap encF)) (by repeat constructor) (sub_cons (X := ownA 160 4 (.slice dq d.fx.length dc) d.fx.length (d.fx.flatMap encF)) (by repeat constructor) (sub_cons (X := oldA W0) (by repeat constructor) sub_nil))))) ?_; clear hS; intro w hS
       simp only [List.length_cons, List.length_nil, Nat.zero_add, Nat.reduceAdd, List.replicate]
       refine Zt0 0 (tf 1 14) hS rfl want_none (e_move rfl) rfl (by kernel_rfl) rfl ?_; clear hS a; intro a hS
       refine Zo 1 (tf 2 13) hS rfl wN rfl (s_callP hS (.cons rfl .nil) cf10 rfl (lNum_P 0 _) ?_); clear hS a; intro a w hS
       refine Z_and hS (sub_cons (by repeat constructor) (sub_cons (by repeat constructor) (sub_cons (by repeat constructor) (sub_cons (by repeat constructor) (sub_cons (by repeat constructor) sub_nil))))) ?_
       refine Ry hS (.o 2 (tf 3 12) rfl wN (e_bin rfl rfl rfl) rfl <| .o 3 (tf 4 11) rfl wN (e_move rfl) rfl .n) ?_; clear hS a; intro a hS
       replace hS := hS.is (t := 128) (c := true) rfl (rfl)
       refine Zt0 4 (tf 5 10) hS rfl (want_go rfl rfl) (e_move rfl) rfl (by kernel_rfl) rfl ?_; clear hS a; intro a hS
       refine Zo 5 (tf 6 9) hS rfl (want_go rfl rfl) rfl (s_callP hS (.cons rfl .nil) cf10 rfl (lNum_P 0 _) ?_); clear hS a; intro a w hS
       refine Z_and hS (sub_cons (by repeat constructor) (sub_cons (by repeat constructor) (sub_cons (by repeat constructor) (sub_cons (by repeat constructor) (sub_cons (by repeat constructor) sub_nil))))) ?_
       refine Ry hS (.o 6 (tf 7 8) rfl (want_go rfl rfl) (e_bin rfl rfl rfl) rfl <| .o 7 (tf 8 7) rfl wN (e_pick_t rfl rfl) rfl <| .o 8 (tf 9 6) rfl wN (e_move rfl) rfl .n) ?_; clear hS a; intro a hS
       replace hS := hS.is (t := 133) (c := true) rfl (rfl)
       refine Rz hS (sub_cons (by repeat constructor) (sub_cons (by repeat constructor) (sub_cons (by repeat constructor) (sub_cons (by repeat constructor) (sub_cons (by repeat constructor) sub_nil))))) (.y 9 (tf 10 5) rfl (want_go rfl rfl) (e_loadA (cs := cellsC d (.slice bq d.fx.length bc)) rfl (by repeat constructor) ty_st24 ty_sz24 rfl) rfl <| .y 10 (tf 11 4) rfl (want_go rfl rfl) (e_loadA (cs := cellsC d (.slice dq d.fx.length dc)) rfl (by repeat constructor) ty_st24 ty_sz24 rfl) rfl .n) ?_; clear hS a; intro a hS
       refine Zo 11 (tf 12 3) hS rfl (want_go rfl rfl) rfl (s_callN hS (.cons rfl .nil) cf16 rfl (frCommand_N w dq dc d hgot.fl (fct_own (hS.ok (ownA 160 4 (.slice dq d.fx.length dc) d.fx.length (d.fx.flatMap encF)) (by repeat constructor))) w (old_refl w)) ?_); clear hS a; intro x136 a w hS
       obtain ⟨rv, rw_⟩ := x136
       refine Z_and hS (sub_cons (by repeat constructor) (sub_cons (by repeat constructor) (sub_cons (by repeat constructor) (sub_cons (by repeat constructor) (sub_cons (by repeat constructor) sub_nil))))) ?_
       refine Zo 12 (tf 13 2) hS rfl (want_go rfl rfl) rfl (s_callP hS (.cons rfl (.cons rfl .nil)) cf15 rfl (frSame_P w bq rv bc rw_ d hgot.fl (fct_own (hS.ok (ownA 160 4 (.slice bq d.fx.length bc) d.fx.length (d.fx.flatMap encF)) (by repeat constructor))) (fct_own (hS.ok (ownA 139 4 (.slice rv d.fx.length rw_) d.fx.length (d.fx.flatMap encF)) (by repeat constructor))) w (old_refl w)) ?_); clear hS a; intro a w hS
       refine Z_and hS (sub_cons (by repeat constructor) (sub_cons (by repeat constructor) (sub_cons (by repeat constructor) (sub_cons (by repeat constructor) (sub_cons (by repeat constructor) sub_nil))))) ?_
       refine Ry hS (.o 13 (tf 14 1) rfl wN (e_pick_t rfl rfl) rfl <| .o 14 (tf 15 0) rfl wN (e_assign rfl) rfl .n) ?_; clear hS a; intro a hS
       refine Z_done (by kernel_rfl) ?_
       refine nT (wp_ret ?_)
       refine c_ret1 hS Tryz.results6 (.tmp rfl) ?_
       exact ⟨rfl, hS.chg⟩
theorem maxLen_any {w : World} (h : w.ShapedOpen Tryz.prog) : ∃ m, w.cell? ⟨2, 0, none⟩ = some (.int .i64 m) :=
 cell_of_shapedOpen_int (zero := #[.int .i64 0]) h (of_decide_eq_true (by kernel_rfl)) (by kernel_rfl) (by kernel_rfl) (by kernel_rfl) (by kernel_rfl) Tryz.underlying3
open Go.Lib
def rhoU : Shelf.Ren := ⟨fun n => n, fun | 5 => 5 | 119 => 200 | 138 => 202 | 139 => 203 | n => n, fun | 3 => 0 | 4 => 1 | n => n⟩
theorem u8ty : U8Types Tryz.prog rhoU := ⟨by kernel_rfl, by kernel_rfl, by kernel_rfl, by kernel_rfl⟩
theorem u8ex : U8Extra Tryz.prog rhoU := ⟨by kernel_rfl, by kernel_rfl, by kernel_rfl, by kernel_rfl, by kernel_rfl, by kernel_rfl, by kernel_rfl⟩
theorem gER : Tryz.prog.globalNamed "strconv.ErrRange" = some 5 := by kernel_rfl
theorem starES : "*" ++ "errors.errorString" = "*errors.errorString" := by decide
theorem rowES (u : TypeId) (h : Tryz.prog.typeName? 3 u = some "*errors.errorString") : u = 313 :=
 typeName_ptr_named (nm := "errors.errorString") (by rw [starES]; kernel_rfl) (by kernel_rfl) (by decide) u (by rw [starES]; exact h)
theorem gPow : Tryz.prog.globalNamed "internal/strconv.uint64pow10" = some 3 := by kernel_rfl
theorem old_tab {W w : World} (ho : oldφ W w) {g : Nat} {nm : String} {k : IntKind} {zs : List Int} (hg : Tryz.prog.globalNamed nm = some g) (h : TabIs Tryz.prog W nm k zs) : TabIs Tryz.prog w nm k zs := by
 unfold TabIs World.var? at *
 rw [hg] at h ⊢
 simp only [Option.bind_some] at h ⊢
 have hlt : g < W.heap.size := by
  rcases Nat.lt_or_ge g W.heap.size with h1 | h1
  · exact h1
  · rw [Array.getElem?_eq_none h1] at h; simp at h
 rw [ho.2 g hlt]; exact h
theorem pow_data : (Rows.laid_internal_strconv_uint64pow10 : DataW Unit) = tabData .u64 pow10Tab := by kernel_rfl
set_option maxRecDepth 100000 in
theorem gj_of {W : World} (hsh : W.ShapedOpen Tryz.prog) (hl : laidMetH Tryz.prog Rows.frontFieldsUptoRow.laid W) : Gj W := by
 have hL : laidMet Tryz.prog Rows.frontFieldsUptoRow.laid W := by rwa [MakeChecks.laidMetH_plain _ _ _ (by kernel_rfl)] at hl
 refine ⟨?_, ?_, ?_, maxLen_any hsh⟩
 · exact utf8Tabs_of_readsT u8ty u8ex (Lib.laidMet.reads hL (.tail _ (.tail _ (.tail _ (.tail _ (.tail _ (.tail _ (.head _)))))))) (Lib.laidMet.reads hL (.tail _ (.tail _ (.tail _ (.head _)))))
 · obtain ⟨a1, s1, hv1, -, -, -⟩ := laid_sentinel (tp := 313) hL.tail.tail.tail.tail gER (ti := 111) (by kernel_rfl) Tryz.underlying111 rowES Tryz.underlying313 Tryz.underlying315 rfl rfl Tryz.underlying9 (by kernel_rfl) (by kernel_rfl)
   exact ⟨_, by have h0 := World.var?_cell gER hv1 0; simpa using h0, .inr ⟨_, _, rfl⟩⟩
 · have h2 : laidMet Tryz.prog (("internal/strconv.uint64pow10", Rows.laid_internal_strconv_uint64pow10) :: _) W := hL.tail.tail
   rw [pow_data] at h2
   exact fun w ho => old_tab ho gPow (tabIs_of_head (n := 20) (t := 294) (e := 252) gPow (by kernel_rfl) Tryz.underlying294 Tryz.underlying252 (by kernel_rfl) (by kernel_rfl) h2)
end Go.Proofs.YtlccmgeclhdegaaGreatDoor
namespace Go.Proofs.YtlccmgeclhdegaaGreatDoor.Open
set_option maxRecDepth 100000
open Go.ChangeShapes Go.WideShapes Go.Deep
section
variable {H : Type} {enc : TypeId × Value → H} {P : Program} {w : World} {base : Nat} {spare : Nat → Bool} {held : Bool}
theorem open_slice_fields {t e : TypeId} {fs : Array Field} {fuel : Nat} {cs : List Value} {x : DataW H × List MemPlace} (ht : P.underlying t = some (.slice e)) (he : P.underlying e = some (.struct fs))
 (hone : oneCellFields P fs = true) (hC : P.cellsOf e = fs.size) (h : DataW.trod enc P w base spare held fuel t cs = some x) :
 (cs = [.slice none 0 0] ∧ x = (.nil, [])) ∨
 ∃ (a : Addr) (len cap m : Nat) (D : Nat → DataW H) (Pl : Nat → List MemPlace), cs = [.slice (some a) len cap] ∧ base ≤ a.block ∧ len ≤ cap ∧ cap ≤ maxLen ∧ m = (if spare a.block then cap else len) ∧
  x = (.slice ((List.range len).map D) ((List.range (m - len)).map fun j => D (len + j)), MemPlace.row a (m * fs.size) ++ (List.range m).flatMap Pl) ∧
  ∀ i, i < m → ∃ (ys : List (DataW H × List MemPlace)) (n : Nat), D i = .agg (ys.map (·.1)) ∧ Pl i = ys.flatMap (·.2) ∧ ys.length = fs.size ∧
   ∀ (j : Nat) (f : Field), fs[j]? = some f → ∃ (v : Value) (y : DataW H × List MemPlace), w.cell? (a.add (i * fs.size + j)) = some v ∧ ys[j]? = some y ∧ DataW.trod enc P w base spare held n f.type [v] = some y := by
 rcases open_slice ht h with h0 | ⟨a, len, cap, m, n, D, Pl, hcs, hb, hl, hm, hmm, hx, hi⟩
 · exact .inl h0
 · refine .inr ⟨a, len, cap, m, D, Pl, hcs, hb, hl, hm, hmm, by rw [hC] at hx; exact hx, fun i him => ?_⟩
   obtain ⟨cs', hc, ht'⟩ := hi i him
   rw [hC] at hc
   obtain ⟨ys, n', hn', hy, hlen, hyl, hf⟩ := DataW.trod_struct he ht'
   obtain ⟨_, hcl, hat⟩ := World.cells?_some hc
   simp only [Prod.mk.injEq] at hy
   refine ⟨ys, n', hy.1, hy.2, hyl, fun j f hj => ?_⟩
   obtain ⟨ho, hk⟩ := hone_of hone j f hj
   have hjl : j < fs.size := (Array.getElem?_eq_some_iff.1 hj).1
   have hcell := hat j hjl
   have hv : cs'[j]? = some (cs'[j]'(by omega)) := List.getElem?_eq_getElem (by omega)
   have h1 := hf j f hj
   rw [ho, hk] at h1
   have hone' : (cs'.drop j).take 1 = [cs'[j]'(by omega)] := by
    rw [List.drop_eq_getElem_cons (by omega)]
    rfl
   rw [hone'] at h1
   have hys : ys[j]? = some (ys[j]'(by omega)) := List.getElem?_eq_getElem (by omega)
   refine ⟨_, _, ?_, hys, h1.trans hys⟩
   rw [← Go.Deep.add_add, hcell, hv]
end
section
variable {H : Type} {enc : TypeId × Value → H}
theorem shape_lt {w : World} {b : Nat} {x : TypeId × Nat} (h : w.shape? b = some x) : b < w.heap.size := by
 unfold World.shape? at h
 by_cases hb : b < w.heap.size
 · exact hb
 · rw [Array.getElem?_eq_none (by omega)] at h; cases h
theorem add_spot {a : Addr} (h : a.spot = none) (n : Nat) : a.add n = ⟨a.block, a.off + n, none⟩ := by
 unfold Addr.add
 split
 · next h0 => subst h0; cases a; simp_all
 · rfl
end
end Go.Proofs.YtlccmgeclhdegaaGreatDoor.Open
namespace Go.Proofs.YtlccmgeclhdegaaGreatDoor.Open
set_option maxRecDepth 100000
open Go.ChangeShapes Go.WideShapes Go.Deep
section
variable {H : Type} {enc : TypeId × Value → H} {P : Program} {w : World} {base : Nat} {spare : Nat → Bool} {held : Bool}
theorem open_fields {r : Reach} {b0 : Nat} {t : TypeId} {fs : Array Field} {v : Value} {d : DataW H} {p : List MemPlace} (hs : P.underlying t = some (.struct fs)) (hone : oneCellFields P fs = true) (hC : P.cellsOf t = fs.size)
 (hv : Value.okWide P w r b0 t v) (h : DataW.Trod enc P w base spare held t v d p) :
 ∃ (cs : Array Value) (ys : List (DataW H × List MemPlace)) (n : Nat), v = .agg cs ∧ d = .agg (ys.map (·.1)) ∧ cs.size = fs.size ∧ ys.length = fs.size ∧
  ∀ (j : Nat) (f : Field), fs[j]? = some f → ∃ (u : Value) (y : DataW H × List MemPlace), cs[j]? = some u ∧ ys[j]? = some y ∧ DataW.trod enc P w base spare held n f.type [u] = some y := by
 obtain ⟨cs, rfl, hsz⟩ := okWide_struct hs hv
 obtain ⟨fuel, hf⟩ := h
 obtain ⟨ys, n', _, hy, hlen, hyl, hff⟩ := DataW.trod_struct hs hf
 simp only [Prod.mk.injEq] at hy
 refine ⟨cs, ys, n', rfl, hy.1, hsz.trans hC, hyl, fun j f hj => ?_⟩
 obtain ⟨ho, hk⟩ := hone_of hone j f hj
 have hjl : j < fs.size := (Array.getElem?_eq_some_iff.1 hj).1
 have hjc : j < cs.size := by rw [hsz, hC]; exact hjl
 have h1 := hff j f hj
 rw [ho, hk] at h1
 have hv : cs.toList[j]? = some (cs[j]'hjc) := by
  rw [Array.getElem?_toList, Array.getElem?_eq_getElem hjc]
 have hone' : (cs.toList.drop j).take 1 = [cs[j]'hjc] := by
  obtain ⟨h2, h3⟩ := List.getElem?_eq_some_iff.1 hv
  rw [List.drop_eq_getElem_cons h2, h3]
  rfl
 change DataW.trod enc P w base spare held n' f.type ((cs.toList.drop j).take 1) = ys[j]? at h1
 rw [hone'] at h1
 have hys : ys[j]? = some (ys[j]'(by omega)) := List.getElem?_eq_getElem (by omega)
 exact ⟨_, _, Array.getElem?_eq_getElem hjc, hys, h1.trans hys⟩
end
section
variable {H : Type} {enc : TypeId × Value → H}
theorem open_facts {W : World} {n : Nat} {u : Value} {y : DataW H × List MemPlace} (h : DataW.trod enc Tryz.prog W 0 (fun _ => true) true n 22 [u] = some y) :
 ∃ (fa : Option Addr) (fc : Nat) (l : List Fct), u = .slice fa l.length fc ∧ FxB l ∧ FctC W fa l := by
 have hu := Tryz.underlying22
 rcases open_slice_fields hu Tryz.underlying160 (by kernel_rfl) (by kernel_rfl) h with ⟨hc, _⟩ | ⟨a, len, cap, m, D, Pl, hc, _, hl, hm, hmm, hx, hi⟩
 · simp only [List.cons.injEq, and_true] at hc
   exact ⟨none, 0, [], hc, fun x hx => (by cases hx), ⟨fun h => absurd rfl h⟩⟩
 · simp only [List.cons.injEq, and_true] at hc
   simp only [if_true] at hmm
   rw [hmm] at hi
   have each : ∀ i, i < len → ∃ x : Fct, (-9223372036854775808 ≤ x.n ∧ x.n ≤ 9223372036854775807) ∧ ∀ j u, (encF x)[j]? = some u → W.cell? (a.add (i * 4 + j)) = some u := by
    intro i hil
    obtain ⟨ys, n, hD, _, hys, hfl⟩ := hi i (by omega)
    obtain ⟨v0, y0, c0, g0, t0⟩ := hfl 0 _ rfl
    obtain ⟨v1, y1, c1, g1, t1⟩ := hfl 1 _ rfl
    obtain ⟨v2, y2, c2, g2, t2⟩ := hfl 2 _ rfl
    obtain ⟨v3, y3, c3, g3, t3⟩ := hfl 3 _ rfl
    obtain ⟨s0, e0, z0, w0⟩ := DataW.trod_string Tryz.underlying9 t0
    obtain ⟨n1, e1, z1, w1⟩ := DataW.trod_int Tryz.underlying3 t1
    obtain ⟨n2, e2, z2, w2⟩ := DataW.trod_int Tryz.underlying3 t2
    obtain ⟨s3, e3, z3, w3⟩ := DataW.trod_string Tryz.underlying9 t3
    simp only [List.cons.injEq, and_true] at e0 e1 e2 e3
    subst e0 e1 e2 e3
    refine ⟨⟨s0.data.toList, n1, n2, s3.data.toList⟩, bounds_i64 w2, fun j u hj => ?_⟩
    match j, hj with
    | 0, hj => cases hj; exact c0
    | 1, hj => cases hj; exact c1
    | 2, hj => cases hj; exact c2
    | 3, hj => cases hj; exact c3
    | (k + 4), hj => simp [encF] at hj
   haveI : Inhabited Fct := ⟨⟨[], 0, 0, []⟩⟩
   obtain ⟨f, hfn⟩ := choose_lt each
   have hll : ((List.range len).map f).length = len := by simp
   refine ⟨some a, cap, (List.range len).map f, by rw [hll]; exact hc, fun x hx => ?_, ⟨fun hne => ?_⟩⟩
   · obtain ⟨i, hi', rfl⟩ := List.mem_map.1 hx
     exact (hfn i (List.mem_range.1 hi')).1
   · have hlen : 0 < len := by
      rcases Nat.eq_zero_or_pos len with h0 | h0
      · subst h0; exact absurd rfl hne
      · exact h0
     have hc0 := (hfn 0 hlen).2 0 _ rfl
     have e0 : a.add (0 * 4 + 0) = a := by unfold Addr.add; rw [if_pos rfl]
     rw [e0] at hc0
     obtain ⟨_, _, hsh, _, hsp⟩ := World.shape?_of_cell? hc0
     refine ⟨a.block, a.off, ?_, fun i x hx j u hj => ?_⟩
     · cases a
       simp only at hsp
       subst hsp
       rfl
     · simp only [List.getElem?_map, Option.map_eq_some_iff] at hx
       obtain ⟨k, hk, rfl⟩ := hx
       obtain ⟨hk1, hk2⟩ := List.getElem?_eq_some_iff.1 hk
       simp only [List.length_range] at hk1
       simp only [List.getElem_range] at hk2
       subst hk2
       have := (hfn i hk1).2 j u hj
       rw [add_spot hsp] at this
       rw [← this]
       simp only [Nat.add_assoc]
set_option maxHeartbeats 1000000 in
theorem open_cmd {W : World} {base : Nat} {v : Value} {d : DataW H} {pl : List MemPlace} (hval : Value.okWide Tryz.prog W .any base 24 v) (h : DataW.Trod enc Tryz.prog W 0 (fun _ => true) true 24 v d pl) (hb : Rows.uptoBulk d ≤ 1048576) :
 ∃ (c : Cd) (fa : Option Addr) (fc : Nat), v = .agg (cellsC c (.slice fa c.fx.length fc)).toArray ∧ c.ok ∧ FxB c.fx ∧ totT c ≤ 1048576 ∧ FctC W fa c.fx := by
 obtain ⟨cs, ys, n, rfl, rfl, hcs, hys, hf⟩ := open_fields Tryz.underlying24 (by kernel_rfl) (by kernel_rfl) hval h
 obtain ⟨cs⟩ := cs
 match cs, hcs, ys, hys with
 | [a0, a1, a2, a3, a4, a5, a6, a7, a8, a9, a10, a11, a12, a13, a14], _, [b0, b1, b2, b3, b4, b5, b6, b7, b8, b9, b10, b11, b12, b13, b14], _ =>
 obtain ⟨u0, y0, c0, g0, t0⟩ := hf 0 _ rfl
 obtain rfl : a0 = u0 := Option.some.inj c0
 obtain rfl : b0 = y0 := Option.some.inj g0
 clear c0 g0
 obtain ⟨u1, y1, c1, g1, t1⟩ := hf 1 _ rfl
 obtain rfl : a1 = u1 := Option.some.inj c1
 obtain rfl : b1 = y1 := Option.some.inj g1
 clear c1 g1
 obtain ⟨u2, y2, c2, g2, t2⟩ := hf 2 _ rfl
 obtain rfl : a2 = u2 := Option.some.inj c2
 obtain rfl : b2 = y2 := Option.some.inj g2
 clear c2 g2
 obtain ⟨u3, y3, c3, g3, t3⟩ := hf 3 _ rfl
 obtain rfl : a3 = u3 := Option.some.inj c3
 obtain rfl : b3 = y3 := Option.some.inj g3
 clear c3 g3
 obtain ⟨u4, y4, c4, g4, t4⟩ := hf 4 _ rfl
 obtain rfl : a4 = u4 := Option.some.inj c4
 obtain rfl : b4 = y4 := Option.some.inj g4
 clear c4 g4
 obtain ⟨u5, y5, c5, g5, t5⟩ := hf 5 _ rfl
 obtain rfl : a5 = u5 := Option.some.inj c5
 obtain rfl : b5 = y5 := Option.some.inj g5
 clear c5 g5
 obtain ⟨u6, y6, c6, g6, t6⟩ := hf 6 _ rfl
 obtain rfl : a6 = u6 := Option.some.inj c6
 obtain rfl : b6 = y6 := Option.some.inj g6
 clear c6 g6
 obtain ⟨u7, y7, c7, g7, t7⟩ := hf 7 _ rfl
 obtain rfl : a7 = u7 := Option.some.inj c7
 obtain rfl : b7 = y7 := Option.some.inj g7
 clear c7 g7
 obtain ⟨u8, y8, c8, g8, t8⟩ := hf 8 _ rfl
 obtain rfl : a8 = u8 := Option.some.inj c8
 obtain rfl : b8 = y8 := Option.some.inj g8
 clear c8 g8
 obtain ⟨u9, y9, c9, g9, t9⟩ := hf 9 _ rfl
 obtain rfl : a9 = u9 := Option.some.inj c9
 obtain rfl : b9 = y9 := Option.some.inj g9
 clear c9 g9
 obtain ⟨u10, y10, c10, g10, t10⟩ := hf 10 _ rfl
 obtain rfl : a10 = u10 := Option.some.inj c10
 obtain rfl : b10 = y10 := Option.some.inj g10
 clear c10 g10
 obtain ⟨u11, y11, c11, g11, t11⟩ := hf 11 _ rfl
 obtain rfl : a11 = u11 := Option.some.inj c11
 obtain rfl : b11 = y11 := Option.some.inj g11
 clear c11 g11
 obtain ⟨u12, y12, c12, g12, t12⟩ := hf 12 _ rfl
 obtain rfl : a12 = u12 := Option.some.inj c12
 obtain rfl : b12 = y12 := Option.some.inj g12
 clear c12 g12
 obtain ⟨u13, y13, c13, g13, t13⟩ := hf 13 _ rfl
 obtain rfl : a13 = u13 := Option.some.inj c13
 obtain rfl : b13 = y13 := Option.some.inj g13
 clear c13 g13
 obtain ⟨u14, y14, c14, g14, t14⟩ := hf 14 _ rfl
 obtain rfl : a14 = u14 := Option.some.inj c14
 obtain rfl : b14 = y14 := Option.some.inj g14
 clear c14 g14
 obtain ⟨n0, e0, z0, w0⟩ := DataW.trod_int Tryz.underlying3 t0
 simp only [List.cons.injEq, and_true] at e0
 subst e0 z0
 obtain ⟨s1, e1, z1, w1⟩ := DataW.trod_string Tryz.underlying9 t1
 simp only [List.cons.injEq, and_true] at e1
 subst e1 z1
 obtain ⟨s2, e2, z2, w2⟩ := DataW.trod_string Tryz.underlying9 t2
 simp only [List.cons.injEq, and_true] at e2
 subst e2 z2
 obtain ⟨s3, e3, z3, w3⟩ := DataW.trod_string Tryz.underlying9 t3
 simp only [List.cons.injEq, and_true] at e3
 subst e3 z3
 obtain ⟨s4, e4, z4, w4⟩ := DataW.trod_string Tryz.underlying9 t4
 simp only [List.cons.injEq, and_true] at e4
 subst e4 z4
 obtain ⟨s5, e5, z5, w5⟩ := DataW.trod_string Tryz.underlying9 t5
 simp only [List.cons.injEq, and_true] at e5
 subst e5 z5
 obtain ⟨s6, e6, z6, w6⟩ := DataW.trod_string Tryz.underlying9 t6
 simp only [List.cons.injEq, and_true] at e6
 subst e6 z6
 obtain ⟨n7, e7, z7, w7⟩ := DataW.trod_int Tryz.underlying3 t7
 simp only [List.cons.injEq, and_true] at e7
 subst e7 z7
 obtain ⟨n8, e8, z8, w8⟩ := DataW.trod_int Tryz.underlying3 t8
 simp only [List.cons.injEq, and_true] at e8
 subst e8 z8
 obtain ⟨n9, e9, z9, w9⟩ := DataW.trod_int Tryz.underlying3 t9
 simp only [List.cons.injEq, and_true] at e9
 subst e9 z9
 obtain ⟨n10, e10, z10, w10⟩ := DataW.trod_int Tryz.underlying3 t10
 simp only [List.cons.injEq, and_true] at e10
 subst e10 z10
 obtain ⟨n11, e11, z11, w11⟩ := DataW.trod_int Tryz.underlying3 t11
 simp only [List.cons.injEq, and_true] at e11
 subst e11 z11
 obtain ⟨n12, e12, z12, w12⟩ := DataW.trod_int Tryz.underlying3 t12
 simp only [List.cons.injEq, and_true] at e12
 subst e12 z12
 obtain ⟨n13, e13, z13, w13⟩ := DataW.trod_int Tryz.underlying3 t13
 simp only [List.cons.injEq, and_true] at e13
 subst e13 z13
 obtain ⟨fa, fc, l, hu, hfx, hft⟩ := open_facts t14
 subst hu
 simp only [List.map_cons, List.map_nil, Rows.uptoBulk, Rows.uptoBulkAll] at hb
 refine ⟨⟨n0, fun i => ([[], s1.data.toList, s2.data.toList, s3.data.toList, s4.data.toList, s5.data.toList, s6.data.toList] : List (List UInt8)).getD i [], fun i => ([0, 0, 0, 0, 0, 0, 0, n7, n8, n9, n10, n11, n12, n13] : List Int).getD i 0, l⟩, fa, fc, rfl, ⟨fun i h1 h2 => ?_, fun i h1 h2 => ?_⟩, hfx, ?_, hft⟩
 · match i, h1, h2 with
   | 1, _, _ => show s1.data.toList.length ≤ 1100000; omega
   | 2, _, _ => show s2.data.toList.length ≤ 1100000; omega
   | 3, _, _ => show s3.data.toList.length ≤ 1100000; omega
   | 4, _, _ => show s4.data.toList.length ≤ 1100000; omega
   | 5, _, _ => show s5.data.toList.length ≤ 1100000; omega
   | 6, _, _ => show s6.data.toList.length ≤ 1100000; omega
 · match i, h1, h2 with
   | 7, _, _ => exact bounds_i64 w7
   | 8, _, _ => exact bounds_i64 w8
   | 9, _, _ => exact bounds_i64 w9
   | 10, _, _ => exact bounds_i64 w10
   | 11, _, _ => exact bounds_i64 w11
   | 12, _, _ => exact bounds_i64 w12
   | 13, _, _ => exact bounds_i64 w13
 · show s1.data.toList.length + s2.data.toList.length + s3.data.toList.length + s4.data.toList.length + s5.data.toList.length + s6.data.toList.length ≤ 1048576
   omega
end
end Go.Proofs.YtlccmgeclhdegaaGreatDoor.Open
namespace Go.Proofs.YtlccmgeclhdegaaGreatDoor.Open
set_option maxRecDepth 100000
open Go.ChangeShapes Go.WideShapes Go.Deep
section
variable {H : Type} {enc : TypeId × Value → H}
theorem oneU8 : Tryz.prog.cellsOf 5 = 1 := by kernel_rfl
theorem open_by {W : World} {n : Nat} {u : Value} {y : DataW H × List MemPlace} (hf : DataW.trod enc Tryz.prog W 0 (fun _ => true) true n 27 [u] = some y) :
 ∃ (q : Option Addr) (c : Nat) (l : List UInt8), u = .slice q l.length c ∧ ByAt (.slice q l.length c) (bsI l) W := by
 have hu := Tryz.underlying27
 rcases open_slice hu hf with ⟨hc, _⟩ | ⟨a, len, cap, m, n, D, Pl, hc, hlc, hl, hm, hmm, hx, hi⟩
 · simp only [List.cons.injEq, and_true] at hc
   rw [hc]
   exact ⟨none, 0, [], rfl, .inl ⟨rfl, _, _, rfl⟩⟩
 · simp only [List.cons.injEq, and_true] at hc
   rw [hc]
   simp only [if_true] at hmm
   rw [hmm] at hi
   have each : ∀ i, i < len → ∃ s : UInt8, W.cell? (a.add i) = some (.int .u8 (s.toNat : Int)) := by
    intro i hil
    obtain ⟨cs', hcs, htr⟩ := hi i (by omega)
    rw [oneU8, Nat.mul_one] at hcs
    obtain ⟨s, rfl, _, hw⟩ := DataW.trod_int Tryz.underlying5 htr
    have hb := bounds_u8 hw
    obtain ⟨_, _, hat⟩ := World.cells?_some hcs
    have := hat (i := 0) (by decide)
    rw [show (a.add i).add 0 = a.add i by unfold Addr.add; rfl] at this
    refine ⟨UInt8.ofNat s.toNat, this.trans ?_⟩
    have e : ((UInt8.ofNat s.toNat).toNat : Int) = s := by
     rw [UInt8.toNat_ofNat']
     omega
    rw [e]; rfl
   haveI : Inhabited UInt8 := ⟨0⟩
   obtain ⟨f, hfn⟩ := choose_lt each
   have hll : ((List.range len).map f).length = len := by simp
   have hlcap : len ≤ cap := by omega
   refine ⟨some a, cap, (List.range len).map f, by rw [hll], ?_⟩
   rw [hll]
   by_cases h0 : len = 0
   · subst h0; exact .inl ⟨rfl, _, _, rfl⟩
   · have hc0 := hfn 0 (by omega)
     have e0 : a.add 0 = a := by unfold Addr.add; rw [if_pos rfl]
     rw [e0] at hc0
     obtain ⟨_, _, hsh, _, hsp⟩ := World.shape?_of_cell? hc0
     have hlt : a.block < W.heap.size := shape_lt hsh
     refine .inr ⟨a.block, a.off, cap, ?_, ?_, by rw [bsI_len, hll]; exact hlcap, ?_, hlt⟩
     · intro e
       have := congrArg List.length e
       rw [bsI_len, hll] at this
       simp at this; omega
     · rw [bsI_len, hll]
       cases a
       simp only at hsp
       subst hsp
       rfl
     · intro i x hx
       unfold bsI at hx
       simp only [List.getElem?_map, Option.map_eq_some_iff] at hx
       obtain ⟨_, ⟨k, hk, rfl⟩, rfl⟩ := hx
       obtain ⟨hk1, hk2⟩ := List.getElem?_eq_some_iff.1 hk
       simp only [List.length_range] at hk1
       simp only [List.getElem_range] at hk2
       subst hk2
       have := hfn i hk1
       rw [add_spot hsp] at this
       exact this
theorem open_req {W : World} {base : Nat} {v : Value} {d : DataW H} {pl : List MemPlace} (hval : Value.okWide Tryz.prog W .any base 29 v) (h : DataW.Trod enc Tryz.prog W 0 (fun _ => true) true 29 v d pl) :
 ∃ (me pa l : List UInt8) (q : Option Addr) (cap : Nat) (cl : Bool), v = .agg [.string (tx me), .string (tx pa), .slice q l.length cap, .bool cl].toArray ∧ ByAt (.slice q l.length cap) (bsI l) W := by
 obtain ⟨cs, ys, n, rfl, rfl, hcs, hys, hf⟩ := open_fields Tryz.underlying29 (by kernel_rfl) (by kernel_rfl) hval h
 obtain ⟨cs⟩ := cs
 match cs, hcs, ys, hys with
 | [a0, a1, a2, a3], _, [b0, b1, b2, b3], _ =>
 obtain ⟨u0, y0, c0, g0, t0⟩ := hf 0 _ rfl
 obtain rfl : a0 = u0 := Option.some.inj c0
 obtain ⟨u1, y1, c1, g1, t1⟩ := hf 1 _ rfl
 obtain rfl : a1 = u1 := Option.some.inj c1
 obtain ⟨u2, y2, c2, g2, t2⟩ := hf 2 _ rfl
 obtain rfl : a2 = u2 := Option.some.inj c2
 obtain ⟨u3, y3, c3, g3, t3⟩ := hf 3 _ rfl
 obtain rfl : a3 = u3 := Option.some.inj c3
 obtain ⟨s0, e0, _, _⟩ := DataW.trod_string Tryz.underlying9 t0
 simp only [List.cons.injEq, and_true] at e0
 subst e0
 obtain ⟨s1, e1, _, _⟩ := DataW.trod_string Tryz.underlying9 t1
 simp only [List.cons.injEq, and_true] at e1
 subst e1
 obtain ⟨q, c, l, hu, hby⟩ := open_by t2
 subst hu
 obtain ⟨b, e3, _⟩ := DataW.trod_bool Tryz.underlying4 t3
 simp only [List.cons.injEq, and_true] at e3
 subst e3
 exact ⟨s0.data.toList, s1.data.toList, l, q, c, b, rfl, hby⟩
end
end Go.Proofs.YtlccmgeclhdegaaGreatDoor.Open
namespace Go.Proofs.YtlccmgeclhdegaaGreatDoor
open Go.Lib
theorem gES : Tryz.prog.globalNamed "strconv.ErrSyntax" = some 4 := by kernel_rfl
set_option maxRecDepth 100000 in
theorem sy_of {W : World} (hl : laidMetH Tryz.prog Rows.frontBackUptoRow.laid W) : Sy W := by
 have hL : laidMet Tryz.prog Rows.frontBackUptoRow.laid W := by rwa [MakeChecks.laidMetH_plain _ _ _ (by kernel_rfl)] at hl
 obtain ⟨a1, s1, hv1, -, -, -⟩ := laid_sentinel (tp := 313) hL.tail.tail.tail.tail.tail gES (ti := 111) (by kernel_rfl) Tryz.underlying111 rowES Tryz.underlying313 Tryz.underlying315 rfl rfl Tryz.underlying9 (by kernel_rfl) (by kernel_rfl)
 exact ⟨⟨_, by have h0 := World.var?_cell gES hv1 0; simpa using h0, .inr ⟨_, _, rfl⟩⟩⟩
end Go.Proofs.YtlccmgeclhdegaaGreatDoor
