/- FrontFields: for every argument whose bulk is at most 1048576 the law returns true, and each argument reads afterwards as it read before. No other conditions. (text 3 of 5) -/
import Derived.Test.YtlccmgeclhdegaaGreatDoorLFlC2
import Derived.Shelf.Unicode.ValidAny
import Derived.Shelf.Slices.CompactS
import Derived.Lib.AtoiAllCases
import Derived.Lib.ItoaNum
import Derived.Lib.ConvBytes
import Derived.Lib.AtoiErrMem
import Derived.Lib.Builder
import Derived.Laws.Externs
import Derived.Lib.AppendStr
import Derived.Lib.UnsafeStr
import Derived.Deep.QuietTactic
import Derived.BigQuiet
import Derived.Shelf.SlSortCmp.Whole1
namespace Go.Proofs.YtlccmgeclhdegaaGreatDoor
open Go.RowKit
set_option maxHeartbeats 2000000 in
set_option maxRecDepth 100000 in
theorem jObject_Y (W0 : World) (hU : Lib.Utf8Tabs 0 1 W0) (br : Nat) (q : Option Addr) (c : Nat) (l : List UInt8) (ht : TxA W0 q c l) (hb : W0.heap.size ≤ br) (N : Nat) (IH : ∀ n, n ≤ N → ValC W0 br q c l n) (dep p : Nat) (hdep : dep < 32) (hp : p ≤ l.length) (hN : 2 * l.length + 3 ≤ 2 * p + N) (w0 : World) (h : (rdA br q c l p).φ w0) (ho : oldφ W0 w0) :
 MayC Tryz.prog 95 [.pointer (some ⟨br, 0, none⟩), .int .i64 (dep : Int)] w0 (fun v => isFault eNo v ∧ objV N dep (l.drop p) = none) (rdA br q c l p)
  (fun x : { x : JX × Nat // objV N dep (l.drop p) = some (x.1.v, x.2) ∧ 1 ≤ x.2 ∧ p + x.2 ≤ l.length + 1 } => .agg x.1.1.cs.toArray) (fun x => duo (rdA br q c l (p + x.1.2 - 1)) (jxA (33 - dep) x.1.1)) := by
 have hn := ht.n
 have hbl : ∀ i, blN (l.drop i) ≤ l.length - i := fun i => by have := blN_le (l.drop i); rwa [List.length_drop] at this
 obtain ⟨D, hD⟩ : ∃ D, 33 - dep = D + 1 := ⟨32 - dep, by omega⟩
 refine c_enter [(0, .pointer (some ⟨br, 0, none⟩)), (1, .int .i64 (dep : Int))] [rdA br q c l p, oldA W0] (fun k => k = br) Tryz.func95 rfl Tryz.ntmps95 ⟨rfl, rfl, trivial⟩ rfl (okC (ok_blk h) (okC (old_ok ho) okN)) (disC (sepC (fun k h1 h2 => by have h1 : k = br := h1; have h2 : k < W0.heap.size := h2; omega) sepN) dis1) (mineO (fun _ hb => hb) (mineC rfl mineN)) ?_
 intro a hS
 refine cS (cR ?_)
 refine L_op (s_alloc hS ty_z37 rfl ?_); clear hS a; intro a w b4 hS
 refine nL (nT (cS (cR ?_)))
 refine L_e hS (e_build ty_z37 ty_pl37 (.one rfl rfl rfl (by repeat constructor) .nil)) rfl ?_; clear hS a; intro a hS
 refine L_op (s_alloc hS ty_z37 rfl ?_); clear hS a; intro a w b5 hS
 refine L_op (s_storeA hS rfl rfl ty_sz37 (by repeat constructor) (by rfl) (by rfl) (by rfl) ?_); clear hS; intro w hS
 refine nL (nT (cS (cR ?_)))
 refine L_op (s_makeMapS hS rfl ?_); clear hS a; intro a w b10 hS
 refine L_e hS (e_assign rfl) rfl ?_; clear hS a; intro a hS
 refine nL (nT (cS (cR ?_)))
 refine L_e hS (e_move rfl) rfl ?_; clear hS a; intro a hS
 refine L_op (s_callM hS (.cons rfl .nil) cf33 rfl (jBlanks_M W0 br q c l ht p hp _ (hS.gg (X := rdA br q c l p)) (hS.gg (X := oldA W0)) hb) (fun x => (by repeat constructor)) rfl ?_); clear hS a; intro x12 a w hS
 have hb0 := hbl p
 refine nL (nT (cS (cS (cR ?_))))
 refine L_e hS (e_move rfl) rfl ?_; clear hS a; intro a hS
 refine L_op (s_callM hS (.cons rfl (.cons rfl .nil)) cf92 rfl (jMay_M W0 br q c l ht ⟨#[125]⟩ (isB 125) (some_one 125) (p + blN (l.drop p)) (by omega) _ (hS.gg (X := rdA br q c l (p + blN (l.drop p)))) (hS.gg (X := oldA W0)) hb) (fun x => (by repeat constructor)) rfl ?_); clear hS a; intro x14 a w hS
 refine nL (nT ?_)
 (first | refine c_ifD hS rfl ?_ ?_ | refine c_if hS rfl ?_ ?_) <;> intro hc14
 ·
  have hv : objV N dep (l.drop p) = some (.mk 6 [] [] [], 1 + blN (l.drop p) + 1) := by unfold objV; rw [List.drop_drop, if_pos hc14]
  rw [show stN (isB 125) (l.drop (p + blN (l.drop p))) = 1 from if_pos hc14] at hS
  have h4 := st_le (pd := isB 125) (l := l) (p := p + blN (l.drop p)) (by omega)
  rw [show stN (isB 125) (l.drop (p + blN (l.drop p))) = 1 from if_pos hc14] at h4
  refine cS (cR ?_)
  refine L_e hS (e_loadA rfl (by repeat constructor) ty_st37 ty_sz37 (by rfl)) rfl ?_; clear hS a; intro a hS
  refine L_op (s_storeA hS rfl rfl ty_sz37 (by repeat constructor) (by rfl) (by rfl) (by rfl) ?_); clear hS; intro w hS
  refine nL (nT (wp_ret (r_then ?_)))
  refine c_ret1 hS Tryz.results95 (.cellA rfl (by repeat constructor) ty_st37 ty_sz37 (by rfl)) ?_
  have hl := jx_leaf D 6 [] w
  refine .inl ⟨⟨(⟨.mk 6 [] [] [], [.int .i64 6, .string ⟨#[]⟩, .slice none 0 0, .slice none 0 0], fun _ => False, rfl, rfl⟩, 1 + blN (l.drop p) + 1), hv, by omega, by omega⟩, rfl, hS.chg, ?_, ?_⟩
  · show (duo (rdA br q c l (p + (1 + blN (l.drop p) + 1) - 1)) (jxA (33 - dep) _)).ok w
    rw [hD, show p + (1 + blN (l.drop p) + 1) - 1 = p + blN (l.drop p) + 1 by omega]
    exact duo_ok (hS.ok (rdA br q c l (p + blN (l.drop p) + 1)) (by repeat constructor)) hl (fun k _ hk => hk)
  · rintro b (hb | hb)
    · exact .inl hb
    · exact hb.elim
 have hc14' : ¬ one (isB 125) (l.drop (p + blN (l.drop p))) = true := by rw [hc14]; decide
 rw [show stN (isB 125) (l.drop (p + blN (l.drop p))) = 0 from if_neg hc14', Nat.add_zero] at hS
 obtain ⟨N', rfl⟩ : ∃ k, N = k + 1 := ⟨N - 1, by omega⟩
 have hv0 : objV (N' + 1) dep (l.drop p) = objL (N' + 1) dep (l.drop (p + blN (l.drop p))) [] [] (1 + blN (l.drop p)) := by
  unfold objV; rw [List.drop_drop, if_neg hc14', obj_skip]
 refine wS (nT (wB ?_))
 skip
 refine c_loop (γ := (Nat × Nat × Nat × List JX × List (List UInt8) × Value × Value)) (fun G a w => St 75 (fun k => k = br) w0 a w [(0, .pointer (some ⟨br, 0, none⟩)), (1, .int .i64 (dep : Int)), (4, .pointer (some ⟨b4, 0, none⟩)), (5, .pointer (some ⟨b5, 0, none⟩)), (6, .map (some b10))] [rdA br q c l G.2.1, .blk b5 [.int .i64 6, .string ⟨#[]⟩, G.2.2.2.2.2.1, G.2.2.2.2.2.2] 37, ownA 37 4 G.2.2.2.2.2.1 G.2.2.2.1.length (G.2.2.2.1.flatMap JX.cs), ownA 9 1 G.2.2.2.2.2.2 G.2.2.2.2.1.length (G.2.2.2.2.1.flatMap encS), kidsA D G.2.2.2.1, smapA b10 (entV (seenE G.2.2.2.2.1)), .blk b4 zeroJ 37, oldA W0] ∧ G.2.1 ≤ l.length ∧ 2 * l.length + 3 ≤ 2 * G.2.1 + G.1 ∧ G.1 ≤ N' + 1 ∧ p + G.2.2.1 = G.2.1 + 1 ∧ objL G.1 dep (l.drop G.2.1) G.2.2.2.2.1 (G.2.2.2.1.map JX.v) G.2.2.1 = objV (N' + 1) dep (l.drop p) ∧ G.2.2.2.1.length ≤ G.2.2.1 ∧ G.2.2.2.2.1.length = G.2.2.2.1.length) (fun G => l.length - G.2.1) (N' + 1, p + blN (l.drop p), 1 + blN (l.drop p), [], [], .slice none 0 0, .slice none 0 0) ⟨((((hS.own_nil 37 4).own_nil 9 1).more (Y := kidsA D []) (kids_ok (fun x hx => by cases hx)) (fun b ⟨x, hx, _⟩ => by cases hx)).slots (by repeat (first | exact trivial | refine ⟨rfl, ?_⟩))).pick (by repeat (first | exact Pick.nil | (refine Pick.cons (by repeat (first | exact Rem.head | apply Rem.tail)) ?_))), by show p + blN (l.drop p) ≤ l.length; omega, by show 2 * l.length + 3 ≤ 2 * (p + blN (l.drop p)) + (N' + 1); omega, Nat.le_refl _, by show p + (1 + blN (l.drop p)) = p + blN (l.drop p) + 1; omega, hv0.symm, Nat.zero_le _, rfl⟩ ?_
 clear hS a; intro G a w hI
 obtain ⟨m, pp, u, kids, ns, lv, nv⟩ := G
 obtain ⟨hS, hpp, hm, hmN, hpu, hgo, hku, hnk⟩ := hI
 simp only at hS hpp hm hmN hpu hgo hku hnk
 obtain ⟨m, rfl⟩ : ∃ k, m = k + 1 := ⟨m - 1, by omega⟩
 obtain ⟨ql, cl, rfl⟩ := own_slice (hS.gg (X := ownA 37 4 lv kids.length (kids.flatMap JX.cs)))
 obtain ⟨qn, cn, rfl⟩ := own_slice (hS.gg (X := ownA 9 1 nv ns.length (ns.flatMap encS)))
 obtain ⟨p1, hp1⟩ : ∃ p1, pp + blN (l.drop pp) = p1 := ⟨_, rfl⟩
 have hb1 := hbl pp
 rw [obj_step hp1, List.length_map] at hgo
 refine wB (cS (cR ?_))
 refine L_e hS (e_move rfl) rfl ?_; clear hS a; intro a hS
 refine L_op (s_callM hS (.cons rfl .nil) cf33 rfl (jBlanks_M W0 br q c l ht pp hpp _ (hS.gg (X := rdA br q c l pp)) (hS.gg (X := oldA W0)) hb) (fun x => (by repeat constructor)) rfl ?_); clear hS a; intro x17 a w hS
 rw [hp1] at hS
 refine nL (nT (cS (cR ?_)))
 unfold rdA rdB at hS
 refine Rn hS (.m rfl <| .c (e_nilCheck rfl) .n) ?_; clear hS a; intro a hS
 (first | refine L_e hS (e_fa0 rfl ty_fo93_1) rfl ?_ | refine L_e hS (e_faK rfl ty_fo93_1) rfl ?_); clear hS a; intro a hS
 refine Rn hS (.c (e_load rfl (by repeat constructor) ty_sc3 (by rfl)) <| .a rfl .n) ?_; clear hS a; intro a hS
 refine nL (nT (cS (cS (cR ?_))))
 refine L_e hS (e_move rfl) rfl ?_; clear hS a; intro a hS
 refine L_op (s_callM hS (.cons rfl .nil) cf93 rfl (jHere_M W0 br q c l ht p1 (by omega) _ (hS.gg (X := rdA br q c l p1)) (hS.gg (X := oldA W0)) hb) (fun x => (by repeat constructor)) rfl ?_); clear hS a; intro x23 a w hS
 refine L_e hS (e_bin rfl rfl rfl) rfl ?_; clear hS a; intro a hS
 refine nL (nT ?_)
 (first | refine c_ifD hS rfl ?_ ?_ | refine c_if hS rfl ?_ ?_) <;> intro hc24
 ·
  refine cR ?_
  refine L_e hS (e_move rfl) rfl ?_; clear hS a; intro a hS
  refine L_op (s_callY hS (.cons rfl .nil) cf35 rfl (jWrong_Y br q c l p1 _ (hS.gg (X := rdA br q c l p1))) (fun x => (by repeat constructor)) rfl (by repeat constructor) ?_ ?_)
  ·
   intro vp wp hvp hdp hcp
   refine p_then (p_block (p_then (p_block ?_)))
   exact ⟨hdp, .inr ⟨vp, ⟨hvp, by rw [← hgo, if_pos (Bool.eq_false_iff.2 fun h => by have := (hd0_one (by decide)).1 h; omega)]⟩, rfl, hcp⟩⟩
  clear hS a; intro x26 a w hS
  exact x26.elim
 have hq34 : one (isB 34) (l.drop p1) = true := (hd0_one (by decide)).2 (by omega)
 rw [if_neg (by rw [hq34]; decide)] at hgo
 refine wS (nT (cS (cS (cR ?_))))
 (first | refine L_e hS (e_fa0 rfl ty_fo37_2) rfl ?_ | refine L_e hS (e_faK rfl ty_fo37_2) rfl ?_); clear hS a; intro a hS
 refine Rn hS (.c (e_load rfl (by repeat constructor) ty_sc34 (by rfl)) <| .c (e_len rfl rfl ty_sl34) <| .c (e_bin rfl rfl rfl) .n) ?_; clear hS a; intro a hS
 refine nL (nT ?_)
 (first | refine c_ifD hS rfl ?_ ?_ | refine c_if hS rfl ?_ ?_) <;> intro hc30
 ·
  rw [if_pos (by omega)] at hgo
  refine cR ?_
  refine Rn hS (.m rfl <| .m rfl .n) ?_; clear hS a; intro a hS
  refine L_op (s_callY hS (.cons rfl (.cons rfl (.cons rfl .nil))) cf94 rfl (jFail_Y eNo (.pointer (some ⟨br, 0, none⟩)) (p1 : Int) 9 (show (9 : Int) ≠ 0 by decide) (rdA br q c l p1) _ (hS.ok _ (by repeat constructor)) rfl) (fun x => (by repeat constructor)) rfl (by repeat constructor) ?_ ?_)
  ·
   intro vp wp hvp hdp hcp
   refine p_then (p_block (p_then (p_block ?_)))
   exact ⟨hdp, .inr ⟨vp, ⟨hvp, hgo.symm⟩, rfl, hcp⟩⟩
  clear hS a; intro x33 a w hS
  exact x33.elim
 rw [if_neg (by omega)] at hgo
 refine wS (nT (cS (cR ?_)))
 refine L_e hS (e_move rfl) rfl ?_; clear hS a; intro a hS
 refine L_op (s_callY hS (.cons rfl .nil) cf97 rfl (jText_Y W0 hU br q c l ht p1 (by omega) _ (hS.gg (X := rdA br q c l p1)) (hS.gg (X := oldA W0)) hb) (fun x => (by repeat constructor)) rfl (by repeat constructor) ?_ ?_)
 ·
  intro vp wp hvp hdp hcp
  refine p_then (p_block (p_then (p_block ?_)))
  exact ⟨hdp, .inr ⟨vp, ⟨hvp.1, by rw [← hgo, hvp.2.resolve_left (by rw [hq34]; decide)]⟩, rfl, hcp⟩⟩
 clear hS a; intro x35 a w hS
 obtain ⟨⟨nm, ka⟩, _, hx2, hx3⟩ := x35
 simp only at hx2 hx3 hS
 rw [hx2] at hgo
 simp only at hgo
 obtain ⟨p2, hp2⟩ : ∃ p2, p1 + ka = p2 := ⟨_, rfl⟩
 rw [hp2] at hgo hS hx3
 have hka := str_pos hx2
 refine L_e hS (e_assign rfl) rfl ?_; clear hS a; intro a hS
 refine nL (nT (cS (cR ?_)))
 refine Rn hS (.m rfl <| .m rfl <| .c (e_lookupS rfl rfl ty_mp207 ty_u9 ty_zv3 (by repeat constructor)) .n) ?_; clear hS a; intro a hS
 rw [lk_ent, seen_get] at hS
 (first | refine L_e hS (e_binN rfl rfl rfl (by omega)) rfl ?_ | refine L_e hS (e_bin rfl rfl rfl) rfl ?_); clear hS a; intro a hS
 refine L_op (s_mapUp hS rfl rfl rfl ty_mp207 ty_u9 (by repeat constructor) ?_); clear hS; intro w hS
 refine nL (nT (cS (cS (cR ?_))))
 rw [set_ent] at hS
 refine Rn hS (.m rfl <| .m rfl <| .c (e_lookupS rfl rfl ty_mp207 ty_u9 ty_zv3 (by repeat constructor)) .n) ?_; clear hS a; intro a hS
 rw [lk_ent, get_set, if_pos rfl] at hS
 refine L_e hS (e_bin rfl rfl rfl) rfl ?_; clear hS a; intro a hS
 refine nL (nT ?_)
 (first | refine c_ifD hS rfl ?_ ?_ | refine c_if hS rfl ?_ ?_) <;> intro hc43
 ·
  have hin : nm ∈ ns := Classical.not_not.1 fun h => by rw [if_neg h] at hc43; omega
  rw [if_pos hin] at hgo
  refine cR ?_
  refine Rn hS (.m rfl <| .m rfl .n) ?_; clear hS a; intro a hS
  refine L_op (s_callY hS (.cons rfl (.cons rfl (.cons rfl .nil))) cf94 rfl (jFail_Y eNo (.pointer (some ⟨br, 0, none⟩)) (p1 : Int) 12 (show (12 : Int) ≠ 0 by decide) (rdA br q c l p2) _ (hS.ok _ (by repeat constructor)) rfl) (fun x => (by repeat constructor)) rfl (by repeat constructor) ?_ ?_)
  ·
   intro vp wp hvp hdp hcp
   refine p_then (p_block (p_then (p_block ?_)))
   exact ⟨hdp, .inr ⟨vp, ⟨hvp, hgo.symm⟩, rfl, hcp⟩⟩
  clear hS a; intro x46 a w hS
  exact x46.elim
 have hin : nm ∉ ns := fun h => by rw [if_pos h] at hc43; omega
 rw [if_neg hin] at hgo hS
 rw [show (0 : Int) + 1 = 1 from rfl, seen_set hin] at hS
 obtain ⟨p3, hp3⟩ : ∃ p3, p2 + blN (l.drop p2) = p3 := ⟨_, rfl⟩
 have hb2 := hbl p2
 rw [hp3] at hgo
 refine wS (nT (cS (cR ?_)))
 refine L_e hS (e_move rfl) rfl ?_; clear hS a; intro a hS
 refine L_op (s_callM hS (.cons rfl .nil) cf33 rfl (jBlanks_M W0 br q c l ht p2 (by omega) _ (hS.gg (X := rdA br q c l p2)) (hS.gg (X := oldA W0)) hb) (fun x => (by repeat constructor)) rfl ?_); clear hS a; intro x48 a w hS
 rw [hp3] at hS
 refine nL (nT (cS (cR ?_)))
 refine L_e hS (e_move rfl) rfl ?_; clear hS a; intro a hS
 refine L_op (s_callY hS (.cons rfl (.cons rfl .nil)) cf100 rfl (jMust_Y W0 br q c l ht 58 p3 (by omega) _ (hS.gg (X := rdA br q c l p3)) (hS.gg (X := oldA W0)) hb) (fun x => (by repeat constructor)) rfl (by repeat constructor) ?_ ?_)
 ·
  intro vp wp hvp hdp hcp
  refine p_then (p_block (p_then (p_block ?_)))
  exact ⟨hdp, .inr ⟨vp, ⟨hvp.1, by rw [← hgo, if_pos hvp.2]⟩, rfl, hcp⟩⟩
 clear hS a; intro x50 a w hS
 obtain ⟨_, h58⟩ := x50
 have hpl3 : p3 < l.length := by
  rcases Nat.lt_or_ge p3 l.length with h | h
  · exact h
  · rw [one_end _ h] at h58; cases h58
 rw [if_neg (by rw [h58]; decide)] at hgo
 obtain ⟨p4, hp4⟩ : ∃ p4, p3 + 1 = p4 := ⟨_, rfl⟩
 obtain ⟨p5, hp5⟩ : ∃ p5, p4 + blN (l.drop p4) = p5 := ⟨_, rfl⟩
 have hb4 := hbl p4
 rw [hp4] at hS hgo
 rw [hp5] at hgo
 refine nL (nT (cS (cR ?_)))
 refine L_e hS (e_move rfl) rfl ?_; clear hS a; intro a hS
 refine L_op (s_callM hS (.cons rfl .nil) cf33 rfl (jBlanks_M W0 br q c l ht p4 (by omega) _ (hS.gg (X := rdA br q c l p4)) (hS.gg (X := oldA W0)) hb) (fun x => (by repeat constructor)) rfl ?_); clear hS a; intro x52 a w hS
 rw [hp5] at hS
 refine nL (nT (cS ?_))
 refine c_drawS [14, 16] (by kernel_rfl) hS (sub_cons (X := .blk b5 [.int .i64 6, .string ⟨#[]⟩, .slice ql kids.length cl, .slice qn ns.length cn] 37) (by repeat constructor) sub_nil) ?_; clear hS; intro w hS
 simp only [List.length_cons, List.length_nil, Nat.zero_add, Nat.reduceAdd, List.replicate]
 (first | refine Zt0 0 (tf 1 16) hS rfl want_none (e_fa0 rfl ty_fo37_3) rfl (by kernel_rfl) rfl ?_ | refine Zt0 0 (tf 1 16) hS rfl want_none (e_faK rfl ty_fo37_3) rfl (by kernel_rfl) rfl ?_); clear hS a; intro a hS
 refine Rz hS (sub_cons (by repeat constructor) sub_nil) (.y 1 (tf 2 15) rfl wN (e_load rfl (by repeat constructor) ty_sc35 (by rfl)) rfl <| .o 2 (tf 3 14) rfl wN (e_move rfl) rfl .n) ?_; clear hS a; intro a hS
 (first | refine Zt0 5 [true, true, true, false, false, true, false, false, false, false, false, false, false, false, false, false, false] hS rfl want_none (e_fa0 rfl ty_fo37_2) rfl (by kernel_rfl) rfl ?_ | refine Zt0 5 [true, true, true, false, false, true, false, false, false, false, false, false, false, false, false, false, false] hS rfl want_none (e_faK rfl ty_fo37_2) rfl (by kernel_rfl) rfl ?_); clear hS a; intro a hS
 refine Rz hS (sub_cons (by repeat constructor) sub_nil) (.y 6 [true, true, true, false, false, true, true, false, false, false, false, false, false, false, false, false, false] rfl wN (e_load rfl (by repeat constructor) ty_sc34 (by rfl)) rfl <| .o 7 [true, true, true, false, false, true, true, true, false, false, false, false, false, false, false, false, false] rfl wN (e_move rfl) rfl <| .o 8 [true, true, true, false, false, true, true, true, true, false, false, false, false, false, false, false, false] rfl wN (e_move rfl) rfl .n) ?_; clear hS a; intro a hS
 (first | refine Zt0 9 [true, true, true, false, false, true, true, true, true, true, false, false, false, false, false, false, false] hS rfl want_none (e_binN rfl rfl rfl (by omega)) rfl (by kernel_rfl) rfl ?_ | refine Zt0 9 [true, true, true, false, false, true, true, true, true, true, false, false, false, false, false, false, false] hS rfl want_none (e_bin rfl rfl rfl) rfl (by kernel_rfl) rfl ?_); clear hS a; intro a hS
 refine Zo 3 [true, true, true, true, false, true, true, true, true, true, false, false, false, false, false, false, false] hS rfl wN rfl (s_bslice hS ty_sl35 ty_sz9 ty_z9 rfl rfl rfl rfl (.one rfl rfl rfl .nil) rfl ?_); clear hS a; intro a w b56 hS
 refine Z_and hS (sub_cons (by repeat constructor) sub_nil) ?_
 refine Zo 4 (tf 10 7) hS rfl wN rfl (s_append1 hS rfl rfl ty_sl35 ty_sz9 ty_by9 ty_z9 rfl rfl rfl (by repeat constructor) (by repeat constructor) (by rfl) (by rfl) (fun _ => (by repeat constructor)) (by omega) ?_); clear hS a; intro v57 a w hv57 hS
 refine Z_and hS (sub_cons (by repeat constructor) sub_nil) ?_
 (first | refine Zt0 13 [true, true, true, true, true, true, true, true, true, true, false, false, false, true, false, false, false] hS rfl want_none (e_fa0 rfl ty_fo37_3) rfl (by kernel_rfl) rfl ?_ | refine Zt0 13 [true, true, true, true, true, true, true, true, true, true, false, false, false, true, false, false, false] hS rfl want_none (e_faK rfl ty_fo37_3) rfl (by kernel_rfl) rfl ?_); clear hS a; intro a hS
 refine Zo 10 [true, true, true, true, true, true, true, true, true, true, true, false, false, true, false, false, false] hS rfl wN rfl (s_callY hS (.cons rfl (.cons rfl .nil)) cf34 rfl (IH m (by omega) (dep + 1) p5 _ (by omega) (by omega) (by omega) (hS.gg (X := rdA br q c l p5)) (hS.gg (X := oldA W0))) (fun x => (by repeat constructor)) rfl (by repeat constructor) ?_ ?_)
 ·
  intro vp wp hvp hdp hcp
  refine p_then (p_block (p_then (p_block ?_)))
  exact ⟨hdp, .inr ⟨vp, ⟨hvp.1, by rw [← hgo, hvp.2]⟩, rfl, hcp⟩⟩
 clear hS a; intro x63 a w hS
 obtain ⟨⟨x, k⟩, hx1, hx4, hx5⟩ := x63
 simp only at hx1 hx4 hx5 hS
 rw [show 33 - (dep + 1) = D by omega] at hS
 replace hS := (hS.pick (Γ' := [duo (rdA br q c l (p5 + k)) (jxA D x), .blk b5 [.int .i64 6, .string ⟨#[]⟩, .slice ql kids.length cl, .slice qn ns.length cn] 37, ownA 37 4 (.slice ql kids.length cl) kids.length (kids.flatMap JX.cs), ownA 9 1 v57 (ns.length + 1) (ns.flatMap encS ++ [.string (tx nm)]), kidsA D kids, smapA b10 (entV (seenE (ns ++ [nm]))), .blk b4 zeroJ 37, oldA W0]) (by repeat (first | exact Pick.nil | (refine Pick.cons (by repeat (first | exact Rem.head | apply Rem.tail)) ?_)))).unduo
 obtain ⟨lx, nx, ⟨a1, a2, a3, rfl⟩, ⟨a4, a5, a6, rfl⟩, hcs⟩ := JAt.four (hS.get (X := jxA D x) (.tail _ (.head _)))
 rw [hcs] at hS
 rw [hx1] at hgo
 simp only at hgo
 have hkl : kids.length ≤ 1100000 := by omega
 obtain ⟨q57, c57, rfl⟩ := own_slice (hS.gg (X := ownA 9 1 v57 (ns.length + 1) (ns.flatMap encS ++ [.string (tx nm)])))
 refine Z_and hS (sub_cons (by repeat constructor) sub_nil) ?_
 refine Zo 11 [true, true, true, true, true, true, true, true, true, true, true, true, false, true, false, false, false] hS rfl wN rfl (s_bslice hS ty_sl34 ty_sz37 ty_z37 rfl rfl rfl rfl (.agg rfl rfl .nil) rfl ?_); clear hS a; intro a w b64 hS
 refine Z_and hS (sub_cons (by repeat constructor) sub_nil) ?_
 refine Zo 12 (tf 14 3) hS rfl wN rfl (s_append1 hS rfl rfl ty_sl34 ty_sz37 ty_by37 ty_z37 rfl rfl rfl (by repeat constructor) (by repeat constructor) (by rfl) (by rfl) (fun _ => (by repeat constructor)) (by omega) ?_); clear hS a; intro v65 a w hv65 hS
 obtain ⟨q65, c65, rfl⟩ := own_slice (hS.gg (X := ownA 37 4 v65 (kids.length + 1) _))
 refine Z_and hS (sub_cons (by repeat constructor) sub_nil) ?_
 refine Zo 14 (tf 15 2) hS rfl wN rfl (s_store hS rfl rfl rfl ty_sz35 (by repeat constructor) (by repeat constructor) ?_); clear hS; intro w hS
 refine Z_last (by simp) ?_
 (first | refine Zt0 15 (tf 16 1) hS rfl want_none (e_fa0 rfl ty_fo37_2) rfl (by kernel_rfl) rfl ?_ | refine Zt0 15 (tf 16 1) hS rfl want_none (e_faK rfl ty_fo37_2) rfl (by kernel_rfl) rfl ?_); clear hS a; intro a hS
 refine Zo 16 (tf 17 0) hS rfl wN rfl (s_store hS rfl rfl rfl ty_sz34 (by repeat constructor) (by repeat constructor) ?_); clear hS; intro w hS
 refine Z_last (by simp) ?_
 refine Z_done (by kernel_rfl) ?_
 refine nT (cS ?_)
 obtain ⟨p6, hp6⟩ : ∃ p6, p5 + k = p6 := ⟨_, rfl⟩
 obtain ⟨p7, hp7⟩ : ∃ p7, p6 + blN (l.drop p6) = p7 := ⟨_, rfl⟩
 have hb6 := hbl p6
 have hfl : (kids ++ [x]).flatMap JX.cs = kids.flatMap JX.cs ++ ([.int .i64 (x.v.k : Int), .string (tx x.v.t), .slice a1 a2 a3, .slice a4 a5 a6] ++ []) := by rw [List.flatMap_append, ← hcs]; simp
 have hfn : (ns ++ [nm]).flatMap encS = ns.flatMap encS ++ [.string (tx nm)] := by rw [List.flatMap_append]; rfl
 have hkl1 : (kids ++ [x]).length = kids.length + 1 := by simp
 have hnl1 : (ns ++ [nm]).length = ns.length + 1 := by simp
 replace hS := hS.pick (Γ' := [jxA D x, kidsA D kids, rdA br q c l (p5 + k), .blk b5 [.int .i64 6, .string ⟨#[]⟩, .slice q65 (kids.length + 1) c65, .slice q57 (ns.length + 1) c57] 37, ownA 37 4 (.slice q65 (kids.length + 1) c65) (kids.length + 1) (kids.flatMap JX.cs ++ ([.int .i64 (x.v.k : Int), .string (tx x.v.t), .slice a1 a2 a3, .slice a4 a5 a6] ++ [])), ownA 9 1 (.slice q57 (ns.length + 1) c57) (ns.length + 1) (ns.flatMap encS ++ [.string (tx nm)]), smapA b10 (entV (seenE (ns ++ [nm]))), .blk b4 zeroJ 37, oldA W0]) (by repeat (first | exact Pick.nil | (refine Pick.cons (by repeat (first | exact Rem.head | apply Rem.tail)) ?_)))
 replace hS := kids_add hS
 rw [← hfl, ← hfn, hp6] at hS
 rw [hp6, hp7] at hgo
 refine cR ?_
 refine L_e hS (e_move rfl) rfl ?_; clear hS a; intro a hS
 refine L_op (s_callM hS (.cons rfl .nil) cf33 rfl (jBlanks_M W0 br q c l ht p6 (by omega) _ (hS.gg (X := rdA br q c l p6)) (hS.gg (X := oldA W0)) hb) (fun x => (by repeat constructor)) rfl ?_); clear hS a; intro x69 a w hS
 rw [hp7] at hS
 refine nL (nT (cS (cS (cR ?_))))
 refine L_e hS (e_move rfl) rfl ?_; clear hS a; intro a hS
 refine L_op (s_callM hS (.cons rfl (.cons rfl .nil)) cf92 rfl (jMay_M W0 br q c l ht ⟨#[125]⟩ (isB 125) (some_one 125) p7 (by omega) _ (hS.gg (X := rdA br q c l p7)) (hS.gg (X := oldA W0)) hb) (fun x => (by repeat constructor)) rfl ?_); clear hS a; intro x71 a w hS
 refine nL (nT ?_)
 (first | refine c_ifD hS rfl ?_ ?_ | refine c_if hS rfl ?_ ?_) <;> intro hc71
 ·
  have h4 := st_le (pd := isB 125) (l := l) (p := p7) (by omega)
  rw [show stN (isB 125) (l.drop p7) = 1 from if_pos hc71] at hS h4
  rw [if_pos hc71] at hgo
  refine cS (cR ?_)
  refine L_e hS (e_loadA rfl (by repeat constructor) ty_st37 ty_sz37 (by rfl)) rfl ?_; clear hS a; intro a hS
  refine L_op (s_storeA hS rfl rfl ty_sz37 (by repeat constructor) (by rfl) (by rfl) (by rfl) ?_); clear hS; intro w hS
  refine nL (nT (wp_ret ?_))
  refine r_then (r_block (r_then (r_block ?_)))
  refine c_ret1 hS Tryz.results95 (.cellA rfl (by repeat constructor) ty_st37 ty_sz37 (by rfl)) ?_
  have hS1 := hS.pick (Γ' := [ownA 37 4 (.slice q65 (kids.length + 1) c65) (kids.length + 1) ((kids ++ [x]).flatMap JX.cs), ownA 9 1 (.slice q57 (ns.length + 1) c57) (ns.length + 1) ((ns ++ [nm]).flatMap encS), kidsA D (kids ++ [x]), rdA br q c l (p7 + 1)]) (by repeat (first | exact Pick.nil | (refine Pick.cons (by repeat (first | exact Rem.head | apply Rem.tail)) ?_)))
  rw [← hkl1, ← hnl1] at hS1
  have hS2 := jx_node (d := D) (k := 6) (t := []) (ns := ns ++ [nm]) (kids := kids ++ [x]) hS1
  rw [hkl1, hnl1] at hS2
  obtain ⟨F, hF⟩ : ∃ F : Nat → Prop, F = fun b => (Value.slice q65 (kids.length + 1) c65).ownBlock = some b ∨ (Value.slice q57 (ns.length + 1) c57).ownBlock = some b ∨ kidF (kids ++ [x]) b := ⟨_, rfl⟩
  rw [← hF] at hS2
  refine .inl ⟨⟨(⟨.mk 6 [] (ns ++ [nm]) ((kids ++ [x]).map JX.v), [.int .i64 6, .string ⟨#[]⟩, .slice q65 (kids.length + 1) c65, .slice q57 (ns.length + 1) c57], F, rfl, rfl⟩, u + (p7 + 1 - pp)), by rw [← hgo, List.map_append]; rfl, by show 1 ≤ u + (p7 + 1 - pp); omega, by show p + (u + (p7 + 1 - pp)) ≤ l.length + 1; omega⟩, rfl, hS.chg, ?_, ?_⟩
  · show (duo (rdA br q c l (p + (u + (p7 + 1 - pp)) - 1)) (jxA (33 - dep) _)).ok w
    rw [hD, show p + (u + (p7 + 1 - pp)) - 1 = p7 + 1 by omega]
    exact duo_ok (hS2.ok _ (.tail _ (.head _))) (hS2.ok _ (.head _)) (fun b h1 h2 => hS2.sep (X := rdA br q c l (p7 + 1)) (by repeat (first | exact Rem.head | apply Rem.tail)) (.head _) b h1 h2)
  · rintro b (hb | hb)
    · exact .inl hb
    · exact (hS2.mine _ (.head _) rfl b hb).symm
 have hc71' : ¬ one (isB 125) (l.drop p7) = true := by rw [hc71]; decide
 rw [show stN (isB 125) (l.drop p7) = 0 from if_neg hc71', Nat.add_zero] at hS
 rw [if_neg hc71'] at hgo
 refine wS (nT (cR ?_))
 refine L_e hS (e_move rfl) rfl ?_; clear hS a; intro a hS
 refine L_op (s_callY hS (.cons rfl (.cons rfl .nil)) cf100 rfl (jMust_Y W0 br q c l ht 44 p7 (by omega) _ (hS.gg (X := rdA br q c l p7)) (hS.gg (X := oldA W0)) hb) (fun x => (by repeat constructor)) rfl (by repeat constructor) ?_ ?_)
 ·
  intro vp wp hvp hdp hcp
  refine p_block (p_then (p_block ?_))
  exact ⟨hdp, .inr ⟨vp, ⟨hvp.1, by rw [← hgo, if_neg (by rw [hvp.2]; decide)]⟩, rfl, hcp⟩⟩
 clear hS a; intro x74 a w hS
 obtain ⟨_, h44⟩ := x74
 rw [if_pos h44] at hgo
 have hpl7 : p7 < l.length := by
  rcases Nat.lt_or_ge p7 l.length with h | h
  · exact h
  · rw [one_end _ h] at h44; cases h44
 refine nL (n_block ?_)
 refine ⟨(m, p7 + 1, u + (p7 + 1 - pp), kids ++ [x], ns ++ [nm], .slice q65 (kids.length + 1) c65, .slice q57 (ns.length + 1) c57), by show l.length - (p7 + 1) < l.length - pp; omega, ?_, by show p7 + 1 ≤ l.length; omega, by show 2 * l.length + 3 ≤ 2 * (p7 + 1) + m; omega, by show m ≤ N' + 1; omega, by show p + (u + (p7 + 1 - pp)) = p7 + 1 + 1; omega, ?_, by show (kids ++ [x]).length ≤ u + (p7 + 1 - pp); omega, by show (ns ++ [nm]).length = (kids ++ [x]).length; omega⟩
 · show St _ _ _ _ _ _ [_, _, ownA _ _ _ (kids ++ [x]).length _, ownA _ _ _ (ns ++ [nm]).length _, _, _, _, _]
   rw [hkl1, hnl1]
   exact (hS.slots (by repeat (first | exact trivial | refine ⟨rfl, ?_⟩))).pick (by repeat (first | exact Pick.nil | (refine Pick.cons (by repeat (first | exact Rem.head | apply Rem.tail)) ?_)))
 · show objL m dep (l.drop (p7 + 1)) (ns ++ [nm]) ((kids ++ [x]).map JX.v) _ = _
   rw [List.map_append]; exact hgo
theorem valC_all (W0 : World) (hU : Lib.Utf8Tabs 0 1 W0) (br : Nat) (q : Option Addr) (c : Nat) (l : List UInt8) (ht : TxA W0 q c l) (hb : W0.heap.size ≤ br) : ∀ n, ValC W0 br q c l n := by
 intro n
 induction n using Nat.strongRecOn with
 | ind n ih =>
   cases n with
   | zero => intro dep p w0 _ hp hN; omega
   | succ N =>
     exact jValue_Y W0 hU br q c l ht hb N
      (fun dep p w0 hd hp hN h ho => jArray_Y W0 br q c l ht hb N (fun n hn => ih n (by omega)) dep p hd hp hN w0 h ho)
      (fun dep p w0 hd hp hN h ho => jObject_Y W0 hU br q c l ht hb N (fun n hn => ih n (by omega)) dep p hd hp hN w0 h ho)
def bodyF (l : List UInt8) : Option (JV × Nat) := match valF (2 * l.length + 2) 0 (l.drop (blN l)) with
 | none => none
 | some (v, k) => if blN l + k + blN (l.drop (blN l + k)) < l.length then none else some (v, blN l + k + blN (l.drop (blN l + k)))
set_option maxHeartbeats 2000000 in
set_option maxRecDepth 100000 in
theorem jParseF_Y (W0 : World) (hU : Lib.Utf8Tabs 0 1 W0) (bp br : Nat) (q : Option Addr) (c : Nat) (l : List UInt8) (ht : TxA W0 q c l) (hb : W0.heap.size ≤ br) (hbp : W0.heap.size ≤ bp) (hne : bp ≠ br) (w0 : World) (h1 : (Asn.blk bp [.pointer (some ⟨br, 0, none⟩)] 91).ok w0) (h : (rdA br q c l 0).φ w0) (ho : oldφ W0 w0) :
 MayC Tryz.prog 32 [.pointer (some ⟨bp, 0, none⟩)] w0 (fun v => isFault eNo v ∧ bodyF l = none) (duo (.blk bp [.pointer (some ⟨br, 0, none⟩)] 91) (rdA br q c l 0))
  (fun x : { x : JX × Nat // bodyF l = some (x.1.v, x.2) } => .agg x.1.1.cs.toArray) (fun x => duo (rdA br q c l x.1.2) (jxA 33 x.1.1)) := by
 have hn := ht.n
 have hbl : ∀ i, blN (l.drop i) ≤ l.length - i := fun i => by have := blN_le (l.drop i); rwa [List.length_drop] at this
 refine c_enter [(0, .pointer (some ⟨bp, 0, none⟩))] [.blk bp [.pointer (some ⟨br, 0, none⟩)] 91, rdA br q c l 0, oldA W0] (fun k => k = bp ∨ k = br) Tryz.func32 rfl Tryz.ntmps32 ⟨rfl, trivial⟩ rfl (okC h1 (okC (ok_blk h) (okC (old_ok ho) okN))) (disC (sepC (fun k h1 h2 => by have h1 : k = bp := h1; have h2 : k = br := h2; omega) (sepC (fun k h1 h2 => by have h1 : k = bp := h1; have h2 : k < W0.heap.size := h2; omega) sepN)) (disC (sepC (fun k h1 h2 => by have h1 : k = br := h1; have h2 : k < W0.heap.size := h2; omega) sepN) dis1)) (mineO (fun k hk => .inl hk) (mineO (fun k hk => .inr hk) (mineC rfl mineN))) ?_
 intro a hS
 refine cS (cR ?_)
 refine L_op (s_alloc hS ty_z37 rfl ?_); clear hS a; intro a w b1 hS
 refine nL (nT (cS (cR ?_)))
 refine L_e hS (e_load rfl (by repeat constructor) ty_sc91 (by rfl)) rfl ?_; clear hS a; intro a hS
 refine L_op (s_callM hS (.cons rfl .nil) cf33 rfl (jBlanks_M W0 br q c l ht 0 (Nat.zero_le _) _ (hS.gg (X := rdA br q c l 0)) (hS.gg (X := oldA W0)) hb) (fun x => (by repeat constructor)) rfl ?_); clear hS a; intro x4 a w hS
 obtain ⟨p1, hp1⟩ : ∃ k, 0 + blN (l.drop 0) = k := ⟨_, rfl⟩
 have hb0 := hbl 0
 have hp1' : blN l = p1 := by rw [← hp1, Nat.zero_add]; rfl
 rw [hp1] at hS
 refine nL (nT (cS (cR ?_)))
 refine L_e hS (e_load rfl (by repeat constructor) ty_sc91 (by rfl)) rfl ?_; clear hS a; intro a hS
 refine L_op (s_callY hS (.cons rfl (.cons rfl .nil)) cf34 rfl (valC_all W0 hU br q c l ht hb (2 * l.length + 2) 0 p1 _ (by omega) (by omega) (by omega) (hS.gg (X := rdA br q c l p1)) (hS.gg (X := oldA W0))) (fun x => (by repeat constructor)) rfl (by repeat constructor) ?_ ?_)
 ·
  intro vp wp hvp hdp hcp
  refine p_then ?_
  exact ⟨hdp, .inr ⟨vp, ⟨hvp.1, by unfold bodyF; rw [hp1', hvp.2]⟩, rfl, hcp⟩⟩
 clear hS a; intro x6 a w hS
 obtain ⟨⟨x, k⟩, hx1, hx2, hx3⟩ := x6
 simp only at hx1 hx2 hx3 hS
 rw [show 33 - 0 = 33 from rfl] at hS
 replace hS := (hS.pick (Γ' := [duo (rdA br q c l (p1 + k)) (jxA 33 x), .blk b1 zeroJ 37, .blk bp [.pointer (some ⟨br, 0, none⟩)] 91, oldA W0]) (by repeat (first | exact Pick.nil | (refine Pick.cons (by repeat (first | exact Rem.head | apply Rem.tail)) ?_)))).unduo
 obtain ⟨lx, nx, ⟨a1, a2, a3, rfl⟩, ⟨a4, a5, a6, rfl⟩, hcs⟩ := JAt.four (hS.get (X := jxA 33 x) (.tail _ (.head _)))
 rw [hcs] at hS
 obtain ⟨p2, hp2⟩ : ∃ j, p1 + k = j := ⟨_, rfl⟩
 obtain ⟨p3, hp3⟩ : ∃ j, p2 + blN (l.drop p2) = j := ⟨_, rfl⟩
 have hb2 := hbl p2
 rw [hp2] at hS
 have hbd : bodyF l = if p3 < l.length then none else some (x.v, p3) := by unfold bodyF; rw [hp1', hx1]; simp only; rw [hp2, hp3]
 refine L_op (s_alloc hS ty_z37 rfl ?_); clear hS a; intro a w b2 hS
 refine L_op (s_storeA hS rfl rfl ty_sz37 (by repeat constructor) (by rfl) (by rfl) (by rfl) ?_); clear hS; intro w hS
 refine nL (nT (cS (cR ?_)))
 refine L_e hS (e_load rfl (by repeat constructor) ty_sc91 (by rfl)) rfl ?_; clear hS a; intro a hS
 refine L_op (s_callM hS (.cons rfl .nil) cf33 rfl (jBlanks_M W0 br q c l ht p2 (by omega) _ (hS.gg (X := rdA br q c l p2)) (hS.gg (X := oldA W0)) hb) (fun x => (by repeat constructor)) rfl ?_); clear hS a; intro x8 a w hS
 rw [hp3] at hS
 refine nL (nT (cS (cS ?_)))
 refine c_drawS [] (by kernel_rfl) hS (sub_cons (X := .blk br [.slice q l.length c, .int .i64 (p3 : Int)] 93) (by repeat constructor) (sub_cons (X := .blk bp [.pointer (some ⟨br, 0, none⟩)] 91) (by repeat constructor) sub_nil)) ?_; clear hS; intro w hS
 simp only [List.length_cons, List.length_nil, Nat.zero_add, Nat.reduceAdd, List.replicate]
 unfold rdA rdB at hS
 refine Rz hS (sub_cons (by repeat constructor) (sub_cons (by repeat constructor) sub_nil)) (.y 0 (tf 1 9) rfl wN (e_load rfl (by repeat constructor) ty_sc91 (by rfl)) rfl <| .o 1 (tf 2 8) rfl wN (e_nilCheck rfl) rfl .n) ?_; clear hS a; intro a hS
 (first | refine Zt0 2 (tf 3 7) hS rfl want_none (e_fa0 rfl ty_fo93_1) rfl (by kernel_rfl) rfl ?_ | refine Zt0 2 (tf 3 7) hS rfl want_none (e_faK rfl ty_fo93_1) rfl (by kernel_rfl) rfl ?_); clear hS a; intro a hS
 refine Rz hS (sub_cons (by repeat constructor) (sub_cons (by repeat constructor) sub_nil)) (.y 3 (tf 4 6) rfl wN (e_load rfl (by repeat constructor) ty_sc3 (by rfl)) rfl <| .y 4 (tf 5 5) rfl wN (e_load rfl (by repeat constructor) ty_sc91 (by rfl)) rfl <| .o 5 (tf 6 4) rfl wN (e_nilCheck rfl) rfl .n) ?_; clear hS a; intro a hS
 (first | refine Zt0 6 (tf 7 3) hS rfl want_none (e_fa0 rfl ty_fo93_0) rfl (by kernel_rfl) rfl ?_ | refine Zt0 6 (tf 7 3) hS rfl want_none (e_faK rfl ty_fo93_0) rfl (by kernel_rfl) rfl ?_); clear hS a; intro a hS
 refine Rz hS (sub_cons (by repeat constructor) (sub_cons (by repeat constructor) sub_nil)) (.y 7 (tf 8 2) rfl wN (e_load rfl (by repeat constructor) ty_sc27 (by rfl)) rfl <| .o 8 (tf 9 1) rfl wN (e_len rfl rfl ty_sl27) rfl <| .o 9 (tf 10 0) rfl wN (e_bin rfl rfl rfl) rfl .n) ?_; clear hS a; intro a hS
 refine Z_done (by kernel_rfl) ?_
 refine nT ?_
 (first | refine c_ifD hS rfl ?_ ?_ | refine c_if hS rfl ?_ ?_) <;> intro hc18
 ·
  rw [if_pos (by omega)] at hbd
  refine cR ?_
  refine L_e hS (e_load rfl (by repeat constructor) ty_sc91 (by rfl)) rfl ?_; clear hS a; intro a hS
  refine L_op (s_callY hS (.cons rfl .nil) cf35 rfl (jWrong_Y br q c l p3 _ (hS.gg (X := rdA br q c l p3))) (fun x => (by repeat constructor)) rfl (by repeat constructor) ?_ ?_)
  ·
   intro vp wp hvp hdp hcp
   refine p_then ?_
   exact ⟨hdp, .inr ⟨vp, ⟨hvp, hbd⟩, rfl, hcp⟩⟩
  clear hS a; intro x20 a w hS
  exact x20.elim
 rw [if_neg (by omega)] at hbd
 refine wS (nT (cS (cR ?_)))
 refine L_e hS (e_loadA rfl (by repeat constructor) ty_st37 ty_sz37 (by rfl)) rfl ?_; clear hS a; intro a hS
 refine L_op (s_storeA hS rfl rfl ty_sz37 (by repeat constructor) (by rfl) (by rfl) (by rfl) ?_); clear hS; intro w hS
 refine nL (nT (wp_ret ?_))
 refine c_ret1 hS Tryz.results32 (.cellA rfl (by repeat constructor) ty_st37 ty_sz37 (by rfl)) ?_
 refine .inl ⟨⟨(x, p3), hbd⟩, by show _ = Ending.returned (Value.agg x.cs.toArray); rw [hcs], hS.chg, ?_, ?_⟩
 · show (duo (rdA br q c l p3) (jxA 33 x)).ok w
   exact duo_ok (hS.ok (rdA br q c l p3) (by repeat constructor)) (hS.ok (jxA 33 x) (by repeat constructor)) (fun b h1 h2 => hS.sep (X := rdA br q c l p3) (Y := jxA 33 x) (by repeat constructor) (by repeat constructor) b h1 h2)
 · rintro b (hb | hb)
   · exact .inl (.inr hb)
   · rcases hS.mine (jxA 33 x) (by repeat constructor) rfl b hb with h | h
     · exact .inr h
     · exact .inl h
theorem body_parse {l : List UInt8} (h : l.length ≤ 65536) : parseF l = (bodyF l).map Prod.fst := by
 unfold parseF bodyF
 rw [if_neg (by omega)]
 cases valF (2 * l.length + 2) 0 (l.drop (blN l)) with
 | none => rfl
 | some r => obtain ⟨v, k⟩ := r; simp only; split <;> rfl
def PaR (l : List UInt8) : Type := { x : JX // parseF l = some x.v } ⊕ { pe : Int × Int // eNo pe.2 ∧ parseF l = none }
def paV (l : List UInt8) : PaR l → Value
 | .inl x => .tuple [.agg x.1.cs.toArray, .int .i64 0, .int .i64 0].toArray
 | .inr pe => .tuple [.agg zeroJ.toArray, .int .i64 pe.1.1, .int .i64 pe.1.2].toArray
def paY (l : List UInt8) : PaR l → Asn
 | .inl x => jxA 33 x.1
 | .inr _ => none_
theorem jx_four {γ : Type} (f : γ → JX) (x : γ) : ∃ v1 v2 v3 v4, (f x).cs = [v1, v2, v3, v4] ∧ isOne v1 = true ∧ isOne v2 = true ∧ isOne v3 = true ∧ isOne v4 = true := by
 have h1 := (f x).len
 have h2 := (f x).one
 match h : (f x).cs, h1 with
 | [v1, v2, v3, v4], _ =>
   rw [h] at h2
   simp at h2
   exact ⟨v1, v2, v3, v4, rfl, h2.1, h2.2.1, h2.2.2.1, h2.2.2.2⟩
def fourJ (k : Int) (s : ByteArray) (a : Option Addr) (m c : Nat) (a' : Option Addr) (m' c' : Nat) : List Value := [.int .i64 k, .string s, .slice a m c, .slice a' m' c']
theorem gu_open {γ : Type} {E : Int → Prop} {V : γ → List Value} {Y : γ → Asn} (x : γ ⊕ { pe : Int × Int // E pe.2 }) {w : World} (hV : ∀ y, (Y y).ok w → ∃ k s a m c a' m' c', V y = fourJ k s a m c a' m' c') (h : (guY E Y x).ok w) :
 ∃ (k : Int) (s : ByteArray) (a : Option Addr) (m c : Nat) (a' : Option Addr) (m' c' : Nat) (p e : Int), guV E V x = .tuple [.agg [.int .i64 k, .string s, .slice a m c, .slice a' m' c'].toArray, .agg [.int .i64 p, .int .i64 e].toArray].toArray ∧
  ((∃ y, x = .inl y ∧ V y = fourJ k s a m c a' m' c' ∧ p = 0 ∧ e = 0) ∨ (∃ pe, x = .inr pe ∧ zeroJ = fourJ k s a m c a' m' c' ∧ p = pe.1.1 ∧ e = pe.1.2)) := by
 rcases x with y | pe
 · obtain ⟨k, s, a, m, c, a', m', c', e⟩ := hV y h
   exact ⟨k, s, a, m, c, a', m', c', 0, 0, by show Value.tuple [.agg (V y).toArray, _].toArray = _; rw [e]; rfl, .inl ⟨y, rfl, e, rfl, rfl⟩⟩
 · exact ⟨0, ⟨#[]⟩, none, 0, 0, none, 0, 0, pe.1.1, pe.1.2, rfl, .inr ⟨pe, rfl, rfl, rfl, rfl⟩⟩
theorem JAt.fourJ {d : Nat} {v : JV} {cs : List Value} {w : World} (h : JAt d v cs w) : ∃ k s a m c a' m' c', cs = Go.Proofs.YtlccmgeclhdegaaGreatDoor.fourJ k s a m c a' m' c' := by
 obtain ⟨lv, nv, ⟨a1, a2, a3, rfl⟩, ⟨a4, a5, a6, rfl⟩, e⟩ := h.four
 exact ⟨_, _, _, _, _, _, _, _, e⟩
set_option maxRecDepth 100000 in
theorem jParse_N (q : Option Addr) (c : Nat) (l : List UInt8) (w0 : World) (hU : Lib.Utf8Tabs 0 1 w0) (ht : TxA w0 q c l) : NewC Tryz.prog 11 [.slice q l.length c] w0 (paV l) (paY l) := by
 have hn := ht.n
 refine c_enter [(0, .slice q l.length c)] [oldA w0] noB Tryz.func11 rfl Tryz.ntmps11 ⟨rfl, trivial⟩ rfl (okC (old_ok ⟨Nat.le_refl _, fun _ _ => rfl⟩) okN) dis1 (mineC rfl mineN) ?_
 intro a hS
 refine cS (cR ?_)
 refine L_op (s_alloc hS ty_z37 rfl ?_); clear hS a; intro a w b2 hS
 refine Rn hS (.a rfl <| .a rfl .n) ?_; clear hS a; intro a hS
 refine nL (nT (cS (cS (cR ?_))))
 refine Rn hS (.m rfl <| .c (e_len rfl rfl ty_sl27) <| .c (e_bin rfl rfl rfl) .n) ?_; clear hS a; intro a hS
 refine nL (nT ?_)
 (first | refine c_ifD hS rfl ?_ ?_ | refine c_if hS rfl ?_ ?_) <;> intro hc10
 ·
  refine cS (cR ?_)
  refine L_e hS (e_build ty_z37 ty_pl37 .nil) rfl ?_; clear hS a; intro a hS
  refine L_op (s_storeA hS rfl rfl ty_sz37 (by repeat constructor) (by rfl) (by rfl) (by rfl) ?_); clear hS; intro w hS
  refine Rn hS (.a rfl <| .a rfl .n) ?_; clear hS a; intro a hS
  refine nL (nT (wp_ret (r_then ?_)))
  refine c_retN hS Tryz.results11 (.cons (.cellA rfl (by repeat constructor) ty_st37 ty_sz37 (by rfl)) (.cons (.tmp rfl) (.cons (.tmp rfl) .nil))) rfl ?_
  exact ⟨.inr ⟨(0, 8), (by decide : (8 : Int) ≠ 0), by unfold parseF; rw [if_pos (by omega)]⟩, rfl, hS.chg, none_ok _, fun k hk => hk.elim⟩
 refine wS (nT (cS (cR ?_)))
 refine Rn hS (.m rfl <| .c (e_build ty_z93 ty_pl93 (.one rfl rfl rfl (by repeat constructor) .nil)) .n) ?_; clear hS a; intro a hS
 refine L_op (s_boxA hS rfl rfl ?_); clear hS a; intro a w b14 hS
 refine L_op (s_alloc hS ty_z91 rfl ?_); clear hS a; intro a w b5 hS
 refine L_op (s_store hS rfl rfl rfl ty_sz91 (by repeat constructor) (by repeat constructor) ?_); clear hS; intro w hS
 refine nL (nT (cS (cR ?_)))
 refine L_e hS (e_makeFunc .nil (.cons rfl .nil)) rfl ?_; clear hS a; intro a hS
 have hm14 : w0.heap.size ≤ b14 := (hS.mine (.blk b14 [.slice q l.length c, .int .i64 0] 93) (by repeat constructor) rfl b14 rfl).resolve_right (fun h => h)
 have hm5 : w0.heap.size ≤ b5 := (hS.mine (.blk b5 [.pointer (some ⟨b14, 0, none⟩)] 91) (by repeat constructor) rfl b5 rfl).resolve_right (fun h => h)
 have hne : b5 ≠ b14 := fun e => hS.sep (X := .blk b5 [.pointer (some ⟨b14, 0, none⟩)] 91) (Y := .blk b14 [.slice q l.length c, .int .i64 0] 93) (by repeat constructor) (by repeat constructor) b5 rfl e
 replace hS : St _ _ _ _ _ _ [duo (.blk b5 [.pointer (some ⟨b14, 0, none⟩)] 91) (rdA b14 q c l 0), .blk b2 zeroJ 37, oldA w0] := (hS.pick (Γ' := [.blk b5 [.pointer (some ⟨b14, 0, none⟩)] 91, .blk b14 [.slice q l.length c, .int .i64 0] 93, .blk b2 zeroJ 37, oldA w0]) (by repeat (first | exact Pick.nil | (refine Pick.cons (by repeat (first | exact Rem.head | apply Rem.tail)) ?_)))).duo rfl rfl
 have hold : oldφ w0 w := hS.gg (X := oldA w0)
 refine L_op (s_callM hS (.cons rfl .nil) cf31 rfl (guarded_M 32 [.pointer (some ⟨b5, 0, none⟩)] (fun e => eNo e ∧ bodyF l = none) (duo (.blk b5 [.pointer (some ⟨b14, 0, none⟩)] 91) (rdA b14 q c l 0)) (fun x : { x : JX × Nat // bodyF l = some (x.1.v, x.2) } => x.1.1.cs) (fun x => duo (rdA b14 q c l x.1.2) (jxA 33 x.1.1)) cf32 rfl (jx_four (fun x : { x : JX × Nat // bodyF l = some (x.1.v, x.2) } => x.1.1)) _ (fun _ => rfl) (hS.ok (duo (.blk b5 [.pointer (some ⟨b14, 0, none⟩)] 91) (rdA b14 q c l 0)) (by repeat constructor)) (fun w' hX hch => (jParseF_Y w0 hU b5 b14 q c l ht hm14 hm5 hne w' hX.now.1 hX.now.2.1.now ⟨Nat.le_trans hold.1 hch.size, fun k hk => (hch.block k (Nat.lt_of_lt_of_le hk hold.1) (fun hF => by rcases hF with hF | hF; exact absurd (show k = b5 from hF) (by omega); exact absurd (show k = b14 from hF) (by omega))).trans (hold.2 k hk)⟩).pan (fun v ⟨⟨p, e, he, hv⟩, hb⟩ => ⟨p, e, ⟨he, hb⟩, hv⟩))) (fun x => (by repeat constructor)) rfl ?_); clear hS a; intro x17 a w hS
 obtain ⟨jk, js, ja, jm, jc, ja', jm', jc', p, e, hgu, hres⟩ := gu_open (E := fun e => eNo e ∧ bodyF l = none) (V := fun x : { x : JX × Nat // bodyF l = some (x.1.v, x.2) } => x.1.1.cs) (Y := fun x => duo (rdA b14 q c l x.1.2) (jxA 33 x.1.1)) x17 (fun y hy => (show JAt 33 y.1.1.v y.1.1.cs _ from hy.now.2.1.now).fourJ) (hS.ok (guY (fun e => eNo e ∧ bodyF l = none) (fun x : { x : JX × Nat // bodyF l = some (x.1.v, x.2) } => duo (rdA b14 q c l x.1.2) (jxA 33 x.1.1)) x17) (by repeat constructor))
 rw [hgu] at hS
 refine Rn hS (.m rfl <| .c (e_extract rfl rfl) <| .c (e_extract rfl rfl) .n) ?_; clear hS a; intro a hS
 refine L_op (s_alloc hS ty_z37 rfl ?_); clear hS a; intro a w b6 hS
 refine L_op (s_alloc hS ty_z95 rfl ?_); clear hS a; intro a w b7 hS
 refine L_op (s_storeA hS rfl rfl ty_sz37 (by repeat constructor) (by rfl) (by rfl) (by rfl) ?_); clear hS; intro w hS
 refine L_op (s_storeA hS rfl rfl ty_sz95 (by repeat constructor) (by rfl) (by rfl) (by rfl) ?_); clear hS; intro w hS
 refine nL (nT (cS ?_))
 refine c_drawS [] (by kernel_rfl) hS (sub_cons (X := .blk b6 [.int .i64 jk, .string js, .slice ja jm jc, .slice ja' jm' jc'] 37) (by repeat constructor) (sub_cons (X := .blk b7 [.int .i64 p, .int .i64 e] 95) (by repeat constructor) sub_nil)) ?_; clear hS; intro w hS
 simp only [List.length_cons, List.length_nil, Nat.zero_add, Nat.reduceAdd, List.replicate]
 refine Zt 0 (tf 1 7) hS rfl want_none (e_loadA rfl (by repeat constructor) ty_st37 ty_sz37 (by rfl)) rfl (by kernel_rfl) (sub_cons (by repeat constructor) (sub_cons (by repeat constructor) sub_nil)) rfl ?_; clear hS a; intro a hS
 (first | refine Zt0 1 (tf 2 6) hS rfl want_none (e_fa0 rfl ty_fo95_0) rfl (by kernel_rfl) rfl ?_ | refine Zt0 1 (tf 2 6) hS rfl want_none (e_faK rfl ty_fo95_0) rfl (by kernel_rfl) rfl ?_); clear hS a; intro a hS
 refine Zt 2 (tf 3 5) hS rfl want_none (e_load rfl (by repeat constructor) ty_sc3 (by rfl)) rfl (by kernel_rfl) (sub_cons (by repeat constructor) (sub_cons (by repeat constructor) sub_nil)) rfl ?_; clear hS a; intro a hS
 (first | refine Zt0 3 (tf 4 4) hS rfl want_none (e_fa0 rfl ty_fo95_1) rfl (by kernel_rfl) rfl ?_ | refine Zt0 3 (tf 4 4) hS rfl want_none (e_faK rfl ty_fo95_1) rfl (by kernel_rfl) rfl ?_); clear hS a; intro a hS
 refine Zt 4 (tf 5 3) hS rfl want_none (e_load rfl (by repeat constructor) ty_sc30 (by rfl)) rfl (by kernel_rfl) (sub_cons (by repeat constructor) (sub_cons (by repeat constructor) sub_nil)) rfl ?_; clear hS a; intro a hS
 refine Zo 5 (tf 6 2) hS rfl wN rfl (s_storeA hS rfl rfl ty_sz37 (by repeat constructor) (by rfl) (by rfl) (by rfl) ?_); clear hS; intro w hS
 refine Z_and hS (sub_cons (by repeat constructor) (sub_cons (by repeat constructor) sub_nil)) ?_
 refine Ry hS (.o 6 (tf 7 1) rfl wN (e_assign rfl) rfl <| .o 7 (tf 8 0) rfl wN (e_assign rfl) rfl .n) ?_; clear hS a; intro a hS
 refine Z_done (by kernel_rfl) ?_
 refine nT (wp_ret ?_)
 refine c_retN hS Tryz.results11 (.cons (.cellA rfl (by repeat constructor) ty_st37 ty_sz37 (by rfl)) (.cons (.tmp rfl) (.cons (.tmp rfl) .nil))) rfl ?_
 rcases hres with ⟨y, rfl, he, rfl, rfl⟩ | ⟨pe, rfl, he, rfl, rfl⟩
 · have hok := hS.ok (guY (fun e => eNo e ∧ bodyF l = none) (fun x : { x : JX × Nat // bodyF l = some (x.1.v, x.2) } => duo (rdA b14 q c l x.1.2) (jxA 33 x.1.1)) (.inl y)) (by repeat constructor)
   have hmi := hS.mine (guY (fun e => eNo e ∧ bodyF l = none) (fun x : { x : JX × Nat // bodyF l = some (x.1.v, x.2) } => duo (rdA b14 q c l x.1.2) (jxA 33 x.1.1)) (.inl y)) (by repeat constructor) rfl
   refine ⟨.inl ⟨y.1.1, (body_parse (by omega)).trans (congrArg (Option.map Prod.fst) y.2)⟩, by show _ = Ending.returned (Value.tuple [.agg y.1.1.cs.toArray, .int .i64 0, .int .i64 0].toArray); rw [he]; rfl, hS.chg, hok.now.2.1, fun k hk => (hmi k (.inr hk)).resolve_right (fun h => h)⟩
 · refine ⟨.inr ⟨pe.1, pe.2.1, (body_parse (by omega)).trans (congrArg (Option.map Prod.fst) pe.2.2)⟩, by show _ = Ending.returned (Value.tuple [.agg zeroJ.toArray, .int .i64 pe.1.1, .int .i64 pe.1.2].toArray); rw [he]; rfl, hS.chg, none_ok _, fun k hk => hk.elim⟩
end Go.Proofs.YtlccmgeclhdegaaGreatDoor
namespace Go.Proofs
open Go.Shelf
def Tryz.lays196v_ren : Go.Shelf.Ren := ⟨fun | 196 => 86 | 259 => 134 | n => n, fun | 9 => 9 | 4 => 4 | 3 => 3 | 5 => 5 | 12 => 12 | 119 => 200 | 0 => 0 | 46 => 204 | 139 => 203 | 138 => 202 | 53 => 252 | n => n, fun | 3 => 0 | 4 => 1 | n => n⟩
theorem Tryz.lays196v : Go.Proofs.Lays.n196 Tryz.prog Tryz.lays196v_ren := {
  mixed := by kernel_rfl
  f196 := Tryz.func86.trans (congrArg some (by kernel_rfl))
  f259 := Tryz.func134.trans (congrArg some (by kernel_rfl))
  t0 := Tryz.underlying0
  a0 := Tryz.isAgg0
  z0 := Tryz.sizeOf0
  v0 := Tryz.zeroValue0
  t3 := Tryz.underlying3
  a3 := Tryz.isAgg3
  z3 := Tryz.sizeOf3
  v3 := Tryz.zeroValue3
  t4 := Tryz.underlying4
  a4 := Tryz.isAgg4
  z4 := Tryz.sizeOf4
  v4 := Tryz.zeroValue4
  t5 := Tryz.underlying5
  a5 := Tryz.isAgg5
  z5 := Tryz.sizeOf5
  v5 := Tryz.zeroValue5
  t9 := Tryz.underlying9
  a9 := Tryz.isAgg9
  z9 := Tryz.sizeOf9
  v9 := Tryz.zeroValue9
  t12 := Tryz.underlying12
  a12 := Tryz.isAgg12
  z12 := Tryz.sizeOf12
  v12 := Tryz.zeroValue12
  t46 := Tryz.underlying204
  a46 := Tryz.isAgg204
  z46 := Tryz.sizeOf204
  v46 := Tryz.zeroValue204
  t53 := Tryz.underlying252
  a53 := Tryz.isAgg252
  z53 := Tryz.sizeOf252
  v53 := Tryz.zeroValue252
  t119 := Tryz.underlying200
  a119 := Tryz.isAgg200
  z119 := Tryz.sizeOf200
  t138 := Tryz.underlying202
  a138 := Tryz.isAgg202
  z138 := Tryz.sizeOf202
  v138 := Tryz.zeroValue202
  t139 := Tryz.underlying203
  a139 := Tryz.isAgg203
  z139 := Tryz.sizeOf203
  v139 := Tryz.zeroValue203
  g3 := by kernel_rfl
  g4 := by kernel_rfl }
end Go.Proofs
namespace Go.Proofs
open Go.Shelf
def Tryz.lays194c_ren : Go.Shelf.Ren := ⟨fun | 194 => 107 | n => n, fun | 31 => 35 | 9 => 9 | 3 => 3 | 4 => 4 | 0 => 0 | n => n, fun | n => n⟩
theorem Tryz.lays194c : Go.Proofs.Lays.n194 Tryz.prog Tryz.lays194c_ren := {
  mixed := by kernel_rfl
  f194 := Tryz.func107.trans (congrArg some (by kernel_rfl))
  t0 := Tryz.underlying0
  a0 := Tryz.isAgg0
  z0 := Tryz.sizeOf0
  v0 := Tryz.zeroValue0
  t3 := Tryz.underlying3
  a3 := Tryz.isAgg3
  z3 := Tryz.sizeOf3
  v3 := Tryz.zeroValue3
  t4 := Tryz.underlying4
  a4 := Tryz.isAgg4
  z4 := Tryz.sizeOf4
  v4 := Tryz.zeroValue4
  t9 := Tryz.underlying9
  a9 := Tryz.isAgg9
  z9 := Tryz.sizeOf9
  v9 := Tryz.zeroValue9
  t31 := Tryz.underlying35
  a31 := Tryz.isAgg35
  z31 := Tryz.sizeOf35
  v31 := Tryz.zeroValue35 }
end Go.Proofs
namespace Go.Proofs.YtlccmgeclhdegaaGreatDoor
open Go.RowKit
def goodV : Nat → JV → Prop
 | 0, _ => False
 | n + 1, .mk k t _ l => k ≤ 6 ∧ k ≠ 5 ∧ (k = 3 → numLit t) ∧ (k = 6 → ∀ x ∈ l, goodV n x)
def okF : Nat → Nat → JV → Prop
 | 0, _, _ => False
 | n + 1, d, .mk k t ns l => (k = 3 → numF t = some t.length) ∧ (k = 4 → Lib.validD t = true) ∧ (k = 6 → (∀ x ∈ ns, Lib.validD x = true) ∧ ns.length = l.length ∧ d < 32 ∧ l.length ≤ 1000 ∧ ns.Nodup ∧ ∀ x ∈ l, okF n (d + 1) x)
structure Mem where
 n : List UInt8
 v : JV
 r : JV
 t : List UInt8
def memT (m : Mem) : List UInt8 := quoteL m.n ++ 58 :: m.t
def joinM : List Mem → List UInt8
 | [] => []
 | m :: l => memT m ++ (if l.isEmpty then [] else 44 :: joinM l)
theorem joinM_snoc (l : List Mem) (m : Mem) : joinM (l ++ [m]) = joinM l ++ ((if l.isEmpty then [] else [44]) ++ memT m) := by
 induction l with
 | nil => simp [joinM]
 | cons x l ih =>
   rw [List.cons_append]
   show memT x ++ (if (l ++ [m]).isEmpty then [] else 44 :: joinM (l ++ [m])) = memT x ++ (if l.isEmpty then [] else 44 :: joinM l) ++ ([44] ++ memT m)
   rw [if_neg (by simp), ih, List.append_assoc]
   cases l with
   | nil => simp [joinM]
   | cons y l => simp
def PJ : Nat → JV → JV → List UInt8 → Prop
 | 0, _, _, _ => False
 | n + 1, .mk k t ns l, r, tv => (k = 3 ∧ r = jNum t ∧ tv = t) ∨ (k = 4 ∧ r = jStr t ∧ tv = quoteL t) ∨ (k < 3 ∧ r = .mk k [] [] [] ∧ tv = wordsJ.getD k []) ∨
  (k = 6 ∧ ∃ ms : List Mem, (ms.map fun m => (m.n, m.v)).Perm (ns.zip l) ∧ (ms.map (·.n)).Pairwise (· ≤ ·) ∧ (∀ m ∈ ms, PJ n m.v m.r m.t) ∧ r = .mk 6 [] (ms.map (·.n)) (ms.map (·.r)) ∧ tv = 123 :: (joinM ms ++ [125]))
theorem Rd.mono {d N M : Nat} {v : JV} {tv : List UInt8} (h : Rd d N v tv) (hN : N ≤ M) : Rd d M v tv := ⟨fun n rest hn he => h.rd n rest (Nat.le_trans hN hn) he, h.h0⟩
theorem memT_len (m : Mem) : (memT m).length = (quoteL m.n).length + 1 + m.t.length := by unfold memT; rw [List.length_append, List.length_cons]; omega
theorem join_cons (x : Mem) (l : List Mem) : joinM (x :: l) = memT x ++ (if l.isEmpty then [] else 44 :: joinM l) := rfl
theorem join_len3 : ∀ ms : List Mem, 3 * ms.length ≤ (joinM ms).length
 | [] => Nat.zero_le _
 | [x] => by
   have hx := memT_len x
   have hq := quote_len x.n
   rw [join_cons, show (if ([] : List Mem).isEmpty = true then ([] : List UInt8) else 44 :: joinM []) = [] from rfl, List.append_nil, hx]; simp; omega
 | x :: y :: l => by
   have hx := memT_len x
   have hq := quote_len x.n
   have := join_len3 (y :: l)
   rw [join_cons, if_neg (by simp), List.length_append, List.length_cons (a := (44 : UInt8)), hx]
   rw [List.length_cons (a := x)]
   omega
theorem join_len {m : Mem} : ∀ {ms : List Mem}, m ∈ ms → m.t.length + 3 * ms.length ≤ (joinM ms).length
 | [], h => by cases h
 | [x], h => by
   obtain rfl := List.mem_singleton.1 h
   have hx := memT_len m
   have hq := quote_len m.n
   rw [join_cons, show (if ([] : List Mem).isEmpty = true then ([] : List UInt8) else 44 :: joinM []) = [] from rfl, List.append_nil, hx]; simp; omega
 | x :: y :: l, h => by
   have hx := memT_len x
   have hq := quote_len x.n
   have h3 := join_len3 (y :: l)
   rw [join_cons, if_neg (by simp), List.length_append, List.length_cons (a := (44 : UInt8)), hx]
   rw [List.length_cons (a := x)]
   rcases List.mem_cons.1 h with rfl | h
   · omega
   · have := join_len h; omega
theorem pm_join {pv : JV → List UInt8 → Prop} : ∀ ms : List Mem, ms ≠ [] → (∀ m ∈ ms, Lib.validD m.n = true ∧ pv m.r m.t) → PM pv (ms.map (·.n)) (ms.map (·.r)) (joinM ms)
 | [], h, _ => absurd rfl h
 | [m], _, hp => by
   have h := hp m (.head _)
   have := PM.one (pv := pv) (b1 := []) (b2 := []) (b3 := []) (b4 := []) h.1 h.2 blanks_nil blanks_nil blanks_nil blanks_nil
   simpa [joinM, memT] using this
 | m :: m2 :: l, _, hp => by
   have h := hp m (.head _)
   have := PM.more (pv := pv) (b1 := []) (b2 := []) (b3 := []) (b4 := []) h.1 h.2 blanks_nil blanks_nil blanks_nil blanks_nil (pm_join (m2 :: l) (by simp) (fun x hx => hp x (.tail _ hx)))
   simpa [joinM, memT] using this
theorem numLit_ne {t : List UInt8} (h : numLit t) : 1 ≤ t.length := by
 obtain ⟨⟨s, ds, rfl, _, _, hne, _⟩, _⟩ := h
 cases ds with
 | nil => exact absurd rfl hne
 | cons x l => simp; omega
theorem pj_names {n d k : Nat} {t : List UInt8} {ns : List (List UInt8)} {l : List JV} {ms : List Mem} (hk : k = 6) (ho : okF (n + 1) d (.mk k t ns l)) (hp : (ms.map fun m => (m.n, m.v)).Perm (ns.zip l)) :
 (∀ m ∈ ms, Lib.validD m.n = true ∧ okF n (d + 1) m.v ∧ m.v ∈ l) ∧ (ms.map (·.n)).Nodup ∧ ms.length = ns.length ∧ d < 32 ∧ ms.length ≤ 1000 ∧ (ms.map (·.n)).Perm ns := by
 obtain ⟨_, _, ho⟩ := ho
 obtain ⟨h1, h2, h3, h4, h5, h6⟩ := ho hk
 have hn : (ms.map (·.n)).Perm ns := by
  have := hp.map Prod.fst
  rwa [List.map_map, List.map_fst_zip (by omega)] at this
 refine ⟨fun m hm => ?_, hn.nodup_iff.2 h5, by have := hn.length_eq; rwa [List.length_map] at this, h3, ?_, hn⟩
 · have hz : (m.n, m.v) ∈ ns.zip l := hp.mem_iff.1 (List.mem_map.2 ⟨m, hm, rfl⟩)
   have := List.of_mem_zip hz
   exact ⟨h1 _ this.1, h6 _ this.2, this.2⟩
 · have := hn.length_eq; rw [List.length_map] at this; omega
theorem pj_rd : ∀ (n d : Nat) (v r : JV) (tv : List UInt8), goodV n v → okF n d v → PJ n v r tv → Rd d tv.length r tv := by
 intro n
 induction n with
 | zero => intro d v r tv h; exact absurd h (fun h => h)
 | succ n ih =>
   intro d v r tv hg ho hp
   cases v with
   | mk k t ns l =>
     obtain ⟨g1, g2, g3, g4⟩ := hg
     rcases hp with ⟨hk, rfl, rfl⟩ | ⟨hk, rfl, rfl⟩ | ⟨hk, rfl, rfl⟩ | ⟨hk, ms, hp, hs, hm, rfl, rfl⟩
     · exact (rd_num d (g3 hk)).mono (numLit_ne (g3 hk))
     · exact (rd_str d (ho.2.1 hk)).mono (by rw [quote_len]; omega)
     · refine (rd_word d hk).mono ?_
       obtain _ | _ | _ | k := k
       · decide
       · decide
       · decide
       · omega
     · obtain ⟨p1, p2, p3, p4, p5, p6⟩ := pj_names hk ho hp
       by_cases he : ms = []
       · subst he
         exact (rd_empty p4 blanks_nil).mono (by simp)
       · have hpm := pm_join (pv := Rd (d + 1) ((joinM ms).length - 2 * ms.length)) ms he (fun m hm' => by
           obtain ⟨q1, q2, q3⟩ := p1 m hm'
           refine ⟨q1, (ih (d + 1) m.v m.r m.t (g4 hk _ q3) q2 (hm m hm')).mono ?_⟩
           have := join_len hm'
           omega)
         refine (rd_obj p4 (fun v tv h => h) hpm p2 (by rw [List.length_map]; exact p5)).mono ?_
         obtain ⟨m, hm'⟩ := List.exists_mem_of_ne_nil ms he
         have := join_len hm'
         rw [List.length_map, List.length_cons, List.length_append]
         omega
theorem pj_parse {n : Nat} {v r : JV} {tv : List UInt8} (hg : goodV n v) (ho : okF n 0 v) (hp : PJ n v r tv) (hl : tv.length ≤ 65536) : parseF tv = some r := by
 have := parse_rd (b := []) (b' := []) (pj_rd n 0 v r tv hg ho hp) blanks_nil blanks_nil (by simpa using hl) (by simp; omega)
 simpa using this
def lenJ : Nat → JV → Nat
 | 0, _ => 0
 | n + 1, .mk k t ns l => if k = 3 then t.length else if k = 4 then (quoteL t).length else if k = 6 then (if (ns.zip l).isEmpty then 2 else ((ns.zip l).map fun p => (quoteL p.1).length + 2 + lenJ n p.2).sum + 1) else (wordsJ.getD k []).length
theorem join_sum (ms : List Mem) (h : ms ≠ []) : (joinM ms).length + 1 = (ms.map fun m => (quoteL m.n).length + 2 + m.t.length).sum := by
 induction ms with
 | nil => exact absurd rfl h
 | cons x l ih =>
   have hx := memT_len x
   rw [join_cons, List.length_append, hx, List.map_cons, List.sum_cons]
   cases l with
   | nil => simp; omega
   | cons y l => rw [if_neg (by simp), List.length_cons]; have := ih (by simp); omega
theorem pj_len : ∀ (n : Nat) (v r : JV) (tv : List UInt8), PJ n v r tv → tv.length = lenJ n v := by
 intro n
 induction n with
 | zero => intro v r tv h; exact absurd h (fun h => h)
 | succ n ih =>
   intro v r tv hp
   cases v with
   | mk k t ns l =>
     unfold lenJ
     rcases hp with ⟨hk, rfl, rfl⟩ | ⟨hk, rfl, rfl⟩ | ⟨hk, rfl, rfl⟩ | ⟨hk, ms, hp, hs, hm, rfl, rfl⟩
     · rw [if_pos hk]
     · rw [if_neg (by omega), if_pos hk]
     · rw [if_neg (by omega), if_neg (by omega), if_neg (by omega)]
     · rw [if_neg (by omega), if_neg (by omega), if_pos hk]
       by_cases he : ms = []
       · subst he
         have : ns.zip l = [] := List.nil_perm.1 hp
         rw [this]; rfl
       · have hz : ns.zip l ≠ [] := fun e => by rw [e] at hp; exact he (by simpa using hp.eq_nil)
         rw [if_neg (by simpa using hz)]
         have hj := join_sum ms he
         have h1 : (ms.map fun m => (quoteL m.n).length + 2 + m.t.length) = (ms.map fun m => (m.n, m.v)).map fun p => (quoteL p.1).length + 2 + lenJ n p.2 := by
          rw [List.map_map]
          exact List.map_congr_left fun m hm' => by show _ = (quoteL m.n).length + 2 + lenJ n m.v; rw [ih m.v m.r m.t (hm m hm')]
         have h2 := (hp.map fun p : List UInt8 × JV => (quoteL p.1).length + 2 + lenJ n p.2).sum_nat
         rw [List.length_cons, List.length_append, List.length_singleton]
         rw [h1, h2] at hj
         omega
theorem byte_of {k : Nat} (h : k < 256) : (UInt8.ofNat k).toNat = k := by simp [UInt8.toNat_ofNat']; omega
theorem dec_small {u : Nat} (h : u < 10) : Lib.decDigits u = [UInt8.ofNat (48 + u)] := by rw [Lib.decDigits, dif_pos h]
theorem dec_big {u : Nat} (h : ¬ u < 10) : Lib.decDigits u = Lib.decDigits (u / 10) ++ [UInt8.ofNat (48 + u % 10)] := by rw [Lib.decDigits, dif_neg h]
theorem dec_dg (u : Nat) : ∀ x ∈ Lib.decDigits u, jDg x = true := by
 induction u using Nat.strongRecOn with
 | ind u ih =>
   intro x hx
   by_cases h : u < 10
   · rw [dec_small h] at hx
     obtain rfl := List.mem_singleton.1 hx
     refine decide_eq_true ?_
     rw [byte_of (by omega)]; omega
   · rw [dec_big h] at hx
     rcases List.mem_append.1 hx with hx | hx
     · exact ih (u / 10) (by omega) x hx
     · obtain rfl := List.mem_singleton.1 hx
       refine decide_eq_true ?_
       rw [byte_of (by omega)]; omega
theorem dec_ne (u : Nat) : Lib.decDigits u ≠ [] := by
 by_cases h : u < 10
 · rw [dec_small h]; simp
 · rw [dec_big h]; simp
theorem dec_head (u : Nat) : (Lib.decDigits u).head? = some 48 → u = 0 := by
 induction u using Nat.strongRecOn with
 | ind u ih =>
   intro hx
   by_cases h : u < 10
   · rw [dec_small h] at hx
     have h2 : UInt8.ofNat (48 + u) = 48 := by simpa using hx
     have h3 := byte_of (k := 48 + u) (by omega)
     rw [h2] at h3
     have h4 : (48 : UInt8).toNat = 48 := rfl
     omega
   · rw [dec_big h] at hx
     have h2 : (Lib.decDigits (u / 10)).head? = some 48 := by
      cases e : Lib.decDigits (u / 10) with
      | nil => exact absurd e (dec_ne _)
      | cons y t => rw [e] at hx; simpa using hx
     have := ih (u / 10) (by omega) h2
     omega
theorem dec_len {u : Nat} : ∀ {k : Nat}, u < 10 ^ (k + 1) → (Lib.decDigits u).length ≤ k + 1 := by
 intro k
 induction k generalizing u with
 | zero => intro h; rw [dec_small (by simpa using h)]; simp
 | succ k ih =>
   intro h
   by_cases h2 : u < 10
   · rw [dec_small h2]; simp
   · rw [dec_big h2, List.length_append, List.length_singleton]
     have : u / 10 < 10 ^ (k + 1) := by rw [Nat.pow_succ] at h; omega
     have := ih this
     omega
def badE : Lib.NumEnd Nat := Lib.parseUint10 0 [0]
theorem parse_cons (acc : Nat) (c : UInt8) (r : List UInt8) : Lib.parseUint10 acc (c :: r) = if 48 ≤ c.toNat ∧ c.toNat ≤ 57 then
 if 1844674407370955162 ≤ acc then .range
 else if 18446744073709551616 ≤ acc * 10 + (c.toNat - 48) then .range
 else Lib.parseUint10 (acc * 10 + (c.toNat - 48)) r
 else badE := rfl
theorem parse_dec (u : Nat) (hu : u < 18446744073709551616) : ∀ r, Lib.parseUint10 0 (Lib.decDigits u ++ r) = Lib.parseUint10 u r := by
 induction u using Nat.strongRecOn with
 | ind u ih =>
   intro r
   by_cases h : u < 10
   · rw [dec_small h, List.singleton_append]
     have e := byte_of (k := 48 + u) (by omega)
     rw [parse_cons, e, if_pos (by omega), if_neg (by omega), if_neg (by omega)]
     rw [show 0 * 10 + (48 + u - 48) = u from by omega]
   · rw [dec_big h, List.append_assoc, ih (u / 10) (by omega) (by omega), List.singleton_append]
     have e := byte_of (k := 48 + u % 10) (by omega)
     rw [parse_cons, e, if_pos (by omega), if_neg (by omega), if_neg (by omega)]
     rw [show u / 10 * 10 + (48 + u % 10 - 48) = u from by omega]
theorem mag_dec (u : Nat) (hu : u < 18446744073709551616) : Lib.parseMag (Lib.decDigits u) = .ok u := by
 unfold Lib.parseMag
 rw [if_neg (dec_ne u)]
 have := parse_dec u hu []
 rw [List.append_nil] at this
 rw [this]; rfl
theorem atoi_itoa {n : Int} (h0 : -9223372036854775808 ≤ n) (h1 : n ≤ 9223372036854775807) : Lib.atoiAll (Lib.itoa n) = .ok n := by
 unfold Lib.itoa
 by_cases h : n < 0
 · rw [if_pos h, Lib.atoiAll_minus, mag_dec _ (by omega)]
   unfold Lib.signed
   simp only
   rw [if_neg (by omega)]
   congr 1; omega
 · rw [if_neg h]
   obtain ⟨c, t, e⟩ : ∃ c t, Lib.decDigits n.toNat = c :: t := by
    cases e : Lib.decDigits n.toNat with
    | nil => exact absurd e (dec_ne _)
    | cons c t => exact ⟨c, t, rfl⟩
   have hc := of_decide_eq_true (dec_dg n.toNat c (by rw [e]; exact .head _))
   rw [e, Lib.atoiAll_plain c t (by omega) (by omega), ← e, mag_dec _ (by omega)]
   unfold Lib.signless
   simp only
   rw [if_neg (by omega)]
   congr 1; omega
theorem itoa_lit {n : Int} (h0 : -9223372036854775808 ≤ n) (h1 : n ≤ 9223372036854775807) : numLit (Lib.itoa n) := by
 have key : ∀ u : Nat, (Lib.decDigits u).head? = some 48 → Lib.decDigits u = [48] := fun u h => by rw [dec_head u h]; exact dec_small (by omega)
 unfold Lib.itoa
 by_cases h : n < 0
 · rw [if_pos h]
   have := dec_len (u := n.natAbs) (k := 19) (by omega)
   exact ⟨⟨[45], Lib.decDigits n.natAbs, rfl, .inr rfl, dec_dg _, dec_ne _, key _⟩, by rw [List.length_cons]; omega⟩
 · rw [if_neg h]
   have := dec_len (u := n.toNat) (k := 19) (by omega)
   exact ⟨⟨[], Lib.decDigits n.toNat, rfl, .inl rfl, dec_dg _, dec_ne _, key _⟩, by omega⟩
def noSign (t : List UInt8) : List UInt8 := match t with
 | [] => []
 | c :: r => if c.toNat = 45 then r else c :: r
def canon (t : List UInt8) : Prop := noSign t ≠ [] ∧ (∀ x ∈ noSign t, jDg x = true) ∧ ¬ ((noSign t).head? = some 48 ∧ (1 < (noSign t).length ∨ t.head? = some 45))
instance (t : List UInt8) : Decidable (canon t) := by unfold canon; exact inferInstance
theorem itoa_canon (n : Int) : canon (Lib.itoa n) := by
 unfold Lib.itoa
 by_cases h : n < 0
 · rw [if_pos h]
   refine ⟨dec_ne _, dec_dg _, fun h2 => ?_⟩
   have := dec_head _ h2.1
   omega
 · rw [if_neg h]
   obtain ⟨c, t, e⟩ : ∃ c t, Lib.decDigits n.toNat = c :: t := by
    cases e : Lib.decDigits n.toNat with
    | nil => exact absurd e (dec_ne _)
    | cons c t => exact ⟨c, t, rfl⟩
   have hc := of_decide_eq_true (dec_dg n.toNat c (by rw [e]; exact .head _))
   have hs : noSign (Lib.decDigits n.toNat) = Lib.decDigits n.toNat := by rw [e]; unfold noSign; simp only; rw [if_neg (by omega)]
   refine ⟨by rw [hs]; exact dec_ne _, by rw [hs]; exact dec_dg _, fun h2 => ?_⟩
   rw [hs] at h2
   have h3 := dec_head _ h2.1
   rw [h3, dec_small (by omega)] at h2
   rcases h2.2 with h4 | h4
   · simp at h4
   · have h5 : UInt8.ofNat (48 + 0) = 45 := by simp at h4
     exact absurd h5 (by decide)
def jIntF (v : JV) : Int × Int := if v.k ≠ 3 then (0, 13) else if ¬ canon v.t then (0, 10) else match Lib.atoiAll v.t with
 | .ok n => (n, 0)
 | _ => (0, 6)
theorem int_itoa {n : Int} (h0 : -9223372036854775808 ≤ n) (h1 : n ≤ 9223372036854775807) : jIntF (jNum (Lib.itoa n)) = (n, 0) := by
 unfold jIntF
 rw [if_neg (fun h => h rfl), if_neg (fun h => h (itoa_canon n)), show (jNum (Lib.itoa n)).t = Lib.itoa n from rfl, atoi_itoa h0 h1]
structure Fct where
 nm : List UInt8
 ty : Int
 n : Int
 s : List UInt8
def encF (x : Fct) : List Value := [.string (tx x.nm), .int .i64 x.ty, .int .i64 x.n, .string (tx x.s)]
structure Cd where
 kind : Int
 t : Nat → List UInt8
 n : Nat → Int
 fx : List Fct
def zCd (kind : Int) : Cd := ⟨kind, fun _ => [], fun _ => 0, []⟩
def Cd.putT (c : Cd) (i : Nat) (x : List UInt8) : Cd := { c with t := fun k => if k = i then x else c.t k }
def Cd.putN (c : Cd) (i : Nat) (x : Int) : Cd := { c with n := fun k => if k = i then x else c.n k }
def cellsC (c : Cd) (fv : Value) : List Value := [.int .i64 c.kind, .string (tx (c.t 1)), .string (tx (c.t 2)), .string (tx (c.t 3)), .string (tx (c.t 4)), .string (tx (c.t 5)), .string (tx (c.t 6)), .int .i64 (c.n 7), .int .i64 (c.n 8), .int .i64 (c.n 9), .int .i64 (c.n 10), .int .i64 (c.n 11), .int .i64 (c.n 12), .int .i64 (c.n 13), fv]
structure Fd where
 nm : List UInt8
 kd : Nat
 off : Nat
structure Fd.ok (f : Fd) : Prop where
 kd : f.kd = 0 ∨ f.kd = 1 ∨ f.kd = 2
 t : f.kd = 0 → 1 ≤ f.off ∧ f.off ≤ 6
 n : f.kd = 1 → 7 ≤ f.off ∧ f.off ≤ 13
theorem cells_putT (c : Cd) (fv : Value) {i : Nat} (x : List UInt8) (h : 1 ≤ i ∧ i ≤ 6) : (cellsC c fv).set i (.string (tx x)) = cellsC (c.putT i x) fv := by
 obtain _ | _ | _ | _ | _ | _ | _ | i := i <;> first | rfl | omega
theorem cells_putN (c : Cd) (fv : Value) {i : Nat} (x : Int) (h : 7 ≤ i ∧ i ≤ 13) : (cellsC c fv).set i (.int .i64 x) = cellsC (c.putN i x) fv := by
 obtain _ | _ | _ | _ | _ | _ | _ | _ | _ | _ | _ | _ | _ | _ | i := i <;> first | rfl | omega
theorem cells_t (c : Cd) (fv : Value) {i : Nat} (h : 1 ≤ i ∧ i ≤ 6) : (cellsC c fv)[i]? = some (.string (tx (c.t i))) := by
 obtain _ | _ | _ | _ | _ | _ | _ | i := i <;> first | rfl | omega
theorem cells_n (c : Cd) (fv : Value) {i : Nat} (h : 7 ≤ i ∧ i ≤ 13) : (cellsC c fv)[i]? = some (.int .i64 (c.n i)) := by
 obtain _ | _ | _ | _ | _ | _ | _ | _ | _ | _ | _ | _ | _ | _ | i := i <;> first | rfl | omega
def fdSet : Fd := ⟨[115, 101, 116], 0, 2⟩
def fdName : Fd := ⟨[110, 97, 109, 101], 0, 1⟩
def fdCur : Fd := ⟨[99, 117, 114], 0, 3⟩
def fdKey : Fd := ⟨[107, 101, 121], 0, 4⟩
def fdMeter : Fd := ⟨[109, 101, 116, 101, 114], 0, 5⟩
def fdSource : Fd := ⟨[115, 111, 117, 114, 99, 101], 0, 6⟩
def fdText : Fd := ⟨[116, 101, 120, 116], 0, 6⟩
def fdAt : Fd := ⟨[97, 116], 1, 8⟩
def fdFrom : Fd := ⟨[102, 114, 111, 109], 1, 9⟩
def fdTo : Fd := ⟨[116, 111], 1, 10⟩
def fdQty : Fd := ⟨[113, 116, 121], 1, 7⟩
def fdNumber : Fd := ⟨[110, 117, 109, 98, 101, 114], 1, 11⟩
def fdUnits : Fd := ⟨[117, 110, 105, 116, 115], 1, 12⟩
def fdNano : Fd := ⟨[110, 97, 110, 111], 1, 13⟩
def fdFacts : Fd := ⟨[102, 97, 99, 116, 115], 2, 0⟩
def getF (v : JV) (nm : List UInt8) : Option JV := if v.k = 6 then ((v.ns.zip v.l).find? fun p => p.1 == nm).map (·.2) else none
def intOfF (v : JV) : Int × Int := if (jIntF v).2 = 10 then ((jIntF v).1, 13) else jIntF v
def rdE (f : Fd) (v : JV) : Int := if f.kd = 0 then (if v.k = 4 then 0 else 13) else if f.kd = 1 then (intOfF v).2 else if v.k = 6 then 0 else 13
def rdC (f : Fd) (v : JV) (c : Cd) : Cd := if f.kd = 0 then c.putT f.off v.t else if f.kd = 1 then c.putN f.off (intOfF v).1 else c
def bindL : List Fd → JV → Cd → JV → Int × Cd × JV
 | [], _, c, fx => (0, c, fx)
 | f :: fs, v, c, fx => match getF v f.nm with
   | none => (32, c, fx)
   | some y => if rdE f y ≠ 0 then (rdE f y, c, fx) else bindL fs v (rdC f y c) (if f.kd = 2 then y else fx)
def factF (nm : List UInt8) (v : JV) : Int × Fct :=
 if v.k = 3 then ((intOfF v).2, ⟨nm, 1, (intOfF v).1, []⟩)
 else if v.k = 4 then (0, ⟨nm, 3, 0, v.t⟩)
 else if v.k = 1 ∨ v.k = 2 then (0, ⟨nm, 2, if v.k = 2 then 1 else 0, []⟩)
 else (13, ⟨[], 0, 0, []⟩)
def factsL (v : JV) : List (List UInt8) → List Fct → Int × List Fct
 | [], acc => (0, acc)
 | nm :: r, acc => if (factF nm ((getF v nm).getD jz)).1 ≠ 0 then ((factF nm ((getF v nm).getD jz)).1, []) else factsL v r (acc ++ [(factF nm ((getF v nm).getD jz)).2])
def sortL (ns : List (List UInt8)) : List (List UInt8) := ns.mergeSort fun x y => decide (x ≤ y)
def factsF (v : JV) : Int × List Fct := factsL v (sortL v.ns) []
def bindF (fs : List Fd) (kind : Int) (v : JV) : Int × Cd :=
 if (bindL fs v (zCd kind) jz).1 ≠ 0 then ((bindL fs v (zCd kind) jz).1, zCd 0)
 else if fs.length < v.ns.length then (32, zCd 0)
 else if (factsF (bindL fs v (zCd kind) jz).2.2).1 ≠ 0 then ((factsF (bindL fs v (zCd kind) jz).2.2).1, zCd 0)
 else (0, { (bindL fs v (zCd kind) jz).2.1 with fx := (factsF (bindL fs v (zCd kind) jz).2.2).2 })
theorem bindL_err {pre post : List Fd} {g : Fd} {v : JV} {e : Int} (hpre : ∀ f ∈ pre, ∃ y, getF v f.nm = some y ∧ rdE f y = 0) (hg : (getF v g.nm = none ∧ e = 32) ∨ ∃ y, getF v g.nm = some y ∧ rdE g y = e ∧ e ≠ 0) (c : Cd) (fx : JV) : (bindL (pre ++ g :: post) v c fx).1 = e := by
 induction pre generalizing c fx with
 | nil =>
   rw [List.nil_append]
   unfold bindL
   rcases hg with ⟨h1, rfl⟩ | ⟨y, h1, rfl, h2⟩
   · rw [h1]
   · rw [h1]; simp only; rw [if_pos h2]
 | cons f pre ih =>
   obtain ⟨y, h1, h2⟩ := hpre f (.head _)
   rw [List.cons_append]
   unfold bindL
   rw [h1]; simp only
   rw [if_neg (fun h => h h2)]
   exact ih (fun f hf => hpre f (.tail _ hf)) _ _
theorem bindL_ok {fs : List Fd} {v : JV} (h : ∀ f ∈ fs, ∃ y, getF v f.nm = some y ∧ rdE f y = 0) (c : Cd) (fx : JV) : (bindL fs v c fx).1 = 0 := by
 induction fs generalizing c fx with
 | nil => rfl
 | cons f fs ih =>
   obtain ⟨y, h1, h2⟩ := h f (.head _)
   unfold bindL
   rw [h1]; simp only
   rw [if_neg (fun h => h h2)]
   exact ih (fun f hf => h f (.tail _ hf)) _ _
def factJ (x : Fct) : Option JV :=
 if x.ty = 1 then (if x.s = [] then some (jNum (Lib.itoa x.n)) else none)
 else if x.ty = 2 then (if x.s = [] ∧ (x.n = 0 ∨ x.n = 1) then some (.mk (if x.n = 1 then 2 else 1) [] [] []) else none)
 else if x.ty = 3 ∧ x.n = 0 then some (jStr x.s) else none
def factsJ : List Fct → List (List UInt8) → List JV → Option JV
 | [], ns, l => some (.mk 6 [] ns l)
 | x :: r, ns, l => match factJ x with
   | none => none
   | some y => if (match ns.getLast? with | none => true | some p => decide (p < x.nm)) then factsJ r (ns ++ [x.nm]) (l ++ [y]) else none
def valC (f : Fd) (c : Cd) : Option JV × Cd :=
 if f.kd = 0 then (if Lib.validD (c.t f.off) then some (jStr (c.t f.off)) else none, c.putT f.off [])
 else if f.kd = 1 then (some (jNum (Lib.itoa (c.n f.off))), c.putN f.off 0)
 else (factsJ c.fx [] [], { c with fx := [] })
def reqL : List Fd → Cd → List (List UInt8) → List JV → Option (JV × Cd)
 | [], c, ns, l => some (.mk 6 [] ns l, c)
 | f :: fs, c, ns, l => match valC f c with
   | (none, _) => none
   | (some y, c') => reqL fs c' (ns ++ [f.nm]) (l ++ [y])
def emptyC (c : Cd) : Prop := c.t 1 = [] ∧ c.t 2 = [] ∧ c.t 3 = [] ∧ c.t 4 = [] ∧ c.t 5 = [] ∧ c.t 6 = [] ∧ c.fx = [] ∧ c.n 7 = 0 ∧ c.n 8 = 0 ∧ c.n 9 = 0 ∧ c.n 10 = 0 ∧ c.n 11 = 0 ∧ c.n 12 = 0 ∧ c.n 13 = 0
open Go.RowKit Go.Lib Go.Sort
theorem comp_le {α : Type} [Inhabited α] [DecidableEq α] (d : Array α) (m : Nat) : (compactUpTo d m).length ≤ m := by
 induction m with
 | zero => simp [compactUpTo]
 | succ m ih =>
   rw [compactUpTo_succ, List.length_append]
   split <;> simp <;> omega
theorem comp_lt {α : Type} [Inhabited α] [DecidableEq α] (d : Array α) (m j : Nat) (hj : j < m) (h : keeps d j = false) : (compactUpTo d m).length < m := by
 induction m with
 | zero => omega
 | succ m ih =>
   rw [compactUpTo_succ, List.length_append]
   by_cases e : j = m
   · subst e
     have := comp_le d j
     rw [h]; simp; omega
   · have := ih (by omega)
     split <;> simp <;> omega
theorem comp_len {zs : List (List UInt8)} (hs : zs.Pairwise (· ≤ ·)) : (compact zs).length = zs.length ↔ zs.Nodup := by
 have hget : ∀ j (hj : j < zs.length), zs.toArray[j]! = zs[j] := fun j hj => by simp [hj]
 have hle : ∀ i j (hi : i < zs.length) (hj : j < zs.length), i < j → zs[i] ≤ zs[j] := fun i j hi hj h => List.pairwise_iff_getElem.1 hs i j hi hj h
 constructor
 · intro h
   have hk : ∀ j, j < zs.length → keeps zs.toArray j = true := fun j hj => by
    rw [← Bool.not_eq_false]
    intro h2
    have := comp_lt zs.toArray zs.length j hj h2
    unfold compact at h; omega
   refine List.pairwise_iff_getElem.2 fun i j hi hj hij e => ?_
   have h1 := hk j hj
   have hne : zs[j] ≠ zs[j - 1] := fun e2 => by
    rw [keeps_neg (by omega) (by rw [hget j hj, hget (j - 1) (by omega)]; exact e2)] at h1
    cases h1
   refine hne (List.le_antisymm ?_ (hle (j - 1) j (by omega) hj (by omega)))
   rcases Nat.lt_or_ge i (j - 1) with h3 | h3
   · have := hle i (j - 1) hi (by omega) h3
     rw [e] at this; exact this
   · have : i = j - 1 := by omega
     subst this
     rw [← e]; exact List.le_refl _
 · intro h
   rw [compact_all zs fun j hj => ?_]
   rcases Nat.eq_zero_or_pos j with rfl | hp
   · exact keeps_lt_one _ 0 (by omega)
   · refine keeps_pos ?_
     rw [hget j hj, hget (j - 1) (by omega)]
     exact fun e => List.pairwise_iff_getElem.1 h (j - 1) j (by omega) hj (by omega) e.symm
theorem CompactS_M (v : Value) (zs : List (List UInt8)) (hz : zs.length ≤ 1000000) (w0 : World) (h : (ownA 9 1 v zs.length (zs.map encStr)).ok w0) :
 MutC Tryz.prog 107 [v] w0 (ownA 9 1 v zs.length (zs.map encStr)) (fun p : Option Addr × Nat => .slice p.1 (compact zs).length p.2) (fun _ => none_) := by
 rcases h.now.2 with ⟨rfl, h0⟩ | ⟨q, cap, cur, rfl, _, hb, h1, h2, h3, h4⟩
 · obtain rfl : zs = [] := List.eq_nil_of_length_eq_zero h0
   exact (Any.slices_Compact_string_empty Tryz.lays194c none 0 w0).mono fun e w' ⟨he, hw⟩ => ⟨(none, 0), he, by rw [hw]; exact Chg.refl _ _, none_ok _, fun b hb => hb.elim⟩
 · have hH := Go.holds_of_block (ss := zs) hb (by simpa using h4)
   refine (Any.slices_Compact_string Tryz.lays194c q 0 cap zs w0 hH (by omega) h1).mono fun e w' ⟨he, k, hw⟩ => ⟨(_, _), he, ?_, none_ok _, fun b hb => hb.elim⟩
   subst hw
   refine ⟨rfl, rfl, rfl, by simp, fun j hj hn => ?_⟩
   have : q ≠ j := fun e => hn (by rw [← e]; rfl)
   simp [Go.Sort.putRow, Go.Sort.mapBlock, Go.Sort.ahead, Array.getElem?_modify, this]
theorem validS_P (W0 : World) (hU : Lib.Utf8Tabs 0 1 W0) (s : List UInt8) (hs : s.length ≤ 10000000) (w0 : World) (ho : oldφ W0 w0) : PureC Tryz.prog 86 [.string (tx s)] w0 (.bool (Lib.validD s)) := by
 have hU0 : Lib.Utf8Tabs 0 1 w0 := ⟨fun c hc => old_cell ho (hU.1 c hc), fun i hi => ⟨old_cell ho (hU.2 i hi).1, old_cell ho (hU.2 i hi).2⟩⟩
 exact (Any.utf8_ValidString Tryz.lays196v (tx s) w0 (by rw [tx_size]; omega) hU0).mono fun e w' ⟨he, hb⟩ => ⟨he, Chg.of_below hb⟩
set_option maxRecDepth 100000 in
theorem jCheckF_P (W0 : World) (hU : Lib.Utf8Tabs 0 1 W0) (s : List UInt8) (hs : s.length ≤ 10000000) (w0 : World) (ho : oldφ W0 w0) : PureC Tryz.prog 104 [.string (tx s)] w0 (.bool (!Lib.validD s)) := by
 refine c_enter [(0, .string (tx s))] [oldA W0] noB Tryz.func104 rfl Tryz.ntmps104 ⟨rfl, trivial⟩ rfl (okC (old_ok ho) okN) dis1 (mineC rfl mineN) ?_
 intro a hS
 refine cS (cR ?_)
 refine L_e hS (e_assign rfl) rfl ?_; clear hS a; intro a hS
 refine nL (nT (cS (cR ?_)))
 refine L_e hS (e_move rfl) rfl ?_; clear hS a; intro a hS
 refine L_op (s_callP hS (.cons rfl .nil) cf86 rfl (validS_P W0 hU s hs _ (hS.gg (X := oldA W0))) ?_); clear hS a; intro a w hS
 refine Rn hS (.c (e_not rfl) <| .a rfl .n) ?_; clear hS a; intro a hS
 refine nL (nT (wp_ret ?_))
 refine c_ret1 hS Tryz.results104 (.tmp rfl) ?_
 exact ⟨rfl, hS.chg⟩
set_option maxRecDepth 100000 in
theorem jUnless_Y (b : Bool) (e : Int) (he : eNo e) (w0 : World) : MayC Tryz.prog 101 [.bool b, .int .i64 e] w0 (fun v => isFault eNo v ∧ b = false) none_ (fun _ : { _u : Unit // b = true } => .tuple [].toArray) (fun _ => none_) := by
 refine c_enter [(0, .bool b), (1, .int .i64 e)] [] noB Tryz.func101 rfl Tryz.ntmps101 ⟨rfl, rfl, trivial⟩ rfl (by simp) (by simp) (by simp) ?_
 intro a hS
 refine cS (cR ?_)
 refine Rn hS (.m rfl <| .c (e_not rfl) .n) ?_; clear hS a; intro a hS
 refine nL (nT ?_)
 (first | refine c_ifD hS rfl ?_ ?_ | refine c_if hS rfl ?_ ?_) <;> intro hc5
 ·
  refine cR ?_
  refine Rn hS (.m rfl <| .c (e_build ty_z95 ty_pl95 (.one rfl rfl rfl (by repeat constructor) (.one rfl rfl rfl (by repeat constructor) .nil))) <| .c (e_mkIfS rfl ty_cc95) .n) ?_; clear hS a; intro a hS
  refine L_op (s_panic hS rfl ?_)
  exact ⟨hS.sl.defers, .inr ⟨_, ⟨⟨0, e, he, rfl⟩, by simpa using hc5⟩, rfl, hS.chg⟩⟩
 refine wS (r_norm ?_)
 refine c_retN hS Tryz.results101 .nil rfl ?_
 exact .inl ⟨⟨(), by simpa using hc5⟩, rfl, hS.chg, none_ok _, fun b h => h.elim⟩
set_option maxRecDepth 100000 in
theorem jIndexV_P (W0 : World) (hU : Lib.Utf8Tabs 0 1 W0) (sa : Option Addr) (sc : Nat) (names : List (List UInt8)) (hT : TxsAt W0 sa names) (hn : names.length ≤ 1000000) (hs : ∀ x ∈ names, x.length ≤ 10000000) (w0 : World) (ho : oldφ W0 w0) :
 NewC Tryz.prog 144 [.slice sa names.length sc, .func (.func 104) #[] [].toArray] w0 (fun i : { i : Int // i < 0 ↔ ∀ x ∈ names, Lib.validD x = true } => .int .i64 i.1) (fun _ => none_) := by
 refine c_enter [(0, .slice sa names.length sc), (1, .func (.func 104) #[] [].toArray)] [oldA W0] noB Tryz.func144 rfl Tryz.ntmps144 ⟨rfl, rfl, trivial⟩ rfl (okC (old_ok ho) okN) dis1 (mineC rfl mineN) ?_
 intro a hS
 refine cS (cR ?_)
 refine L_e hS (e_assign rfl) rfl ?_; clear hS a; intro a hS
 refine nL (nT (cS (cS (cR ?_))))
 refine Rn hS (.m rfl <| .c (e_len rfl rfl ty_sl35) <| .m rfl .n) ?_; clear hS a; intro a hS
 refine nL (nT (wB ?_))
 skip
 refine c_loop (γ := Nat) (fun k a w => St 19 noB w0 a w [(8, .int .i64 (k : Int)), (7, .int .i64 (names.length : Int)), (0, .slice sa names.length sc), (1, .func (.func 104) #[] [].toArray)] [oldA W0] ∧ k ≤ names.length ∧ ∀ (j : Nat) (x : List UInt8), j < k → names[j]? = some x → Lib.validD x = true) (fun k => names.length - k) 0 ⟨hS.slots (by repeat (first | exact trivial | refine ⟨rfl, ?_⟩)), Nat.zero_le _, fun j _ hj => by omega⟩ ?_
 clear hS a; intro k a w hI
 obtain ⟨hS, hk, hno⟩ := hI
 refine cS (cR ?_)
 refine L_e hS (e_bin rfl rfl rfl) rfl ?_; clear hS a; intro a hS
 refine nL (nT (cS ?_))
 (first | refine c_ifD hS rfl ?_ ?_ | refine c_if hS rfl ?_ ?_) <;> intro hc9
 ·
  have hkn : k < names.length := by omega
  obtain ⟨nb, no, rfl, hcn⟩ := hT.at_ (fun e => by rw [e] at hkn; exact absurd hkn (Nat.not_lt_zero _))
  obtain ⟨nm, hnm⟩ : ∃ x, names[k]? = some x := ⟨_, List.getElem?_eq_getElem hkn⟩
  refine wS (nT (cS (wB (cS (cR ?_)))))
  refine Rn hS (.m rfl <| .a rfl .n) ?_; clear hS a; intro a hS
  refine nL (nT (cS (cR ?_)))
  refine Rn hS (.m rfl <| .m rfl <| .m rfl <| .c (e_ixN rfl rfl ty_sl35 ty_sz9 (by omega)) <| .c (e_loadC rfl ty_sc9 (fun w hh => by rw [Nat.mul_one]; exact old_cell (hh (oldA W0) (by repeat constructor)) (hcn k nm hnm))) .n) ?_; clear hS a; intro a hS
  refine L_op (s_callvP hS rfl (.cons rfl .nil) cf104 rfl (jCheckF_P W0 hU nm (hs nm (List.mem_of_getElem? hnm)) _ (hS.gg (X := oldA W0))) ?_); clear hS a; intro a w hS
  refine nL (nT ?_)
  (first | refine c_ifD hS rfl ?_ ?_ | refine c_if hS rfl ?_ ?_) <;> intro hc16
  ·
   refine cS (cR ?_)
   refine Rn hS (.m rfl <| .a rfl .n) ?_; clear hS a; intro a hS
   refine nL (nT (wp_ret ?_))
   refine r_block (r_then (r_then (r_block (r_then ?_))))
   refine c_ret1 hS Tryz.results144 (.tmp rfl) ?_
   exact ⟨⟨(k : Int), fun h => absurd h (by omega), fun h => by rw [h nm (List.mem_of_getElem? hnm)] at hc16; cases hc16⟩, rfl, hS.chg, none_ok _, fun b hb => hb.elim⟩
  refine wS (n_block (nT (cR ?_)))
  (first | refine L_e hS (e_binN rfl rfl rfl (by omega)) rfl ?_ | refine L_e hS (e_bin rfl rfl rfl) rfl ?_); clear hS a; intro a hS
  refine L_e hS (e_move rfl) rfl ?_; clear hS a; intro a hS
  refine nL ?_
  refine ⟨k + 1, by omega, hS.slots (by repeat (first | exact trivial | refine ⟨rfl, ?_⟩)), hkn, fun j x hj hx => ?_⟩
  by_cases e : j = k
  · subst e; rw [hnm] at hx; cases hx; simpa using hc16
  · exact hno j x (by omega) hx
 refine wp_exit ?_
 refine x_then (x_then (x_hit ?_))
 refine nT (cS (cR ?_))
 refine L_e hS (e_assign rfl) rfl ?_; clear hS a; intro a hS
 refine nL (nT (wp_ret ?_))
 refine c_ret1 hS Tryz.results144 (.tmp rfl) ?_
 refine ⟨⟨-1, fun _ x hx => ?_, fun _ => by decide⟩, rfl, hS.chg, none_ok _, fun b hb => hb.elim⟩
 obtain ⟨j, hj⟩ := List.getElem?_of_mem hx
 exact hno j x (by have := (List.getElem?_eq_some_iff.1 hj).1; omega) hj
set_option maxRecDepth 100000 in
theorem jContV_P (W0 : World) (hU : Lib.Utf8Tabs 0 1 W0) (sa : Option Addr) (sc : Nat) (names : List (List UInt8)) (hT : TxsAt W0 sa names) (hn : names.length ≤ 1000000) (hs : ∀ x ∈ names, x.length ≤ 10000000) (w0 : World) (ho : oldφ W0 w0) :
 NewC Tryz.prog 103 [.slice sa names.length sc, .func (.func 104) #[] [].toArray] w0 (fun b : { b : Bool // b = false ↔ ∀ x ∈ names, Lib.validD x = true } => .bool b.1) (fun _ => none_) := by
 refine c_enter [(0, .slice sa names.length sc), (1, .func (.func 104) #[] [].toArray)] [oldA W0] noB Tryz.func103 rfl Tryz.ntmps103 ⟨rfl, rfl, trivial⟩ rfl (okC (old_ok ho) okN) dis1 (mineC rfl mineN) ?_
 intro a hS
 refine cS (cR ?_)
 refine L_e hS (e_assign rfl) rfl ?_; clear hS a; intro a hS
 refine nL (nT (cS (cR ?_)))
 refine Rn hS (.m rfl <| .m rfl .n) ?_; clear hS a; intro a hS
 refine L_op (s_callN hS (.cons rfl (.cons rfl .nil)) cf144 rfl (jIndexV_P W0 hU sa sc names hT hn hs _ (hS.gg (X := oldA W0))) ?_); clear hS a; intro x7 a w hS
 refine Rn hS (.c (e_bin rfl rfl rfl) <| .a rfl .n) ?_; clear hS a; intro a hS
 refine nL (nT (wp_ret ?_))
 refine c_ret1 hS Tryz.results103 (.tmp rfl) ?_
 obtain ⟨i, hi⟩ := x7
 exact ⟨⟨decide (0 ≤ i), by rw [← hi, decide_eq_false_iff_not]; omega⟩, rfl, hS.chg, none_ok _, fun b hb => hb.elim⟩
theorem SortedV_N (W0 : World) (b : Nat) (sa : Option Addr) (sc : Nat) (names : List (List UInt8)) (hT : TxsAt W0 sa names) (hn : names.length ≤ 1000000) (w0 : World) (h : valK W0 b (.slice sa names.length sc) w0) :
 NewC Tryz.prog 105 [.func (.func 147) #[] [.pointer (some ⟨b, 0, none⟩)].toArray] w0 (fun v : Value => v) (fun v => ownA 9 1 v (sortL names).length ((sortL names).map encStr)) := by
 refine (SortedS_P cf147 hn (S := fun xs => xs = names.map tx) (fun xs hx => by rw [hx, List.length_map]; exact Nat.le_refl _) (valA W0 b (.slice sa names.length sc)) rfl (Values_seq W0 b sa sc names hT hn) w0 (val_ok h)).mono ?_
 rintro e w' ⟨⟨⟨v, xs⟩, xs', rfl, hx⟩, he, h1, h2, h3⟩
 simp only at hx he h2 h3
 have e1 : xs.map Value.string = (sortL names).map encStr := by
  rw [hx]
  unfold srt sortL bytesL
  rw [List.map_map, List.map_map]
  rw [show (fun x : ByteArray => x.data.toList) ∘ tx = id from rfl, List.map_id]
  rfl
 have e2 : xs.length = (sortL names).length := by rw [hx, srt_len, List.length_map]; exact (List.mergeSort_perm names _).length_eq.symm
 unfold strA at h2 h3
 rw [e1, e2] at h2 h3
 exact ⟨v, he, h1, h2, h3⟩
theorem sortL_perm (ns : List (List UInt8)) : (sortL ns).Perm ns := List.mergeSort_perm ns _
theorem sortL_len (ns : List (List UInt8)) : (sortL ns).length = ns.length := (sortL_perm ns).length_eq
theorem sortL_srt (ns : List (List UInt8)) : (sortL ns).Pairwise (· ≤ ·) := by
 have := List.pairwise_mergeSort (le := fun x y : List UInt8 => decide (x ≤ y)) (fun a b c h1 h2 => decide_eq_true (List.le_trans (of_decide_eq_true h1) (of_decide_eq_true h2))) (fun a b => by
   rcases List.le_total a b with h | h
   · simp [h]
   · simp [h]) ns
 exact this.imp fun h => of_decide_eq_true h
theorem sortL_twice (ns : List (List UInt8)) : (compact (sortL ns)).length = ns.length ↔ ns.Nodup := by
 rw [← sortL_len ns, comp_len (sortL_srt ns)]
 exact (sortL_perm ns).nodup_iff
def bbφ (E b : Nat) (l : List Int) (w : World) : Prop := ∃ (sp : List Value) (N : Nat), w.heap[b]? = some (.cells (l.map (Value.int .u8) ++ sp).toArray E (N, N + 1)) ∧ l.length ≤ N
def bbA (E b : Nat) (l : List Int) : Asn := .any (fun k => k = b) (bbφ E b l) true
theorem bb_ok {E b : Nat} {l : List Int} {w : World} (h : bbφ E b l w) : (bbA E b l).ok w := by
 obtain ⟨sp, N, h1, h2⟩ := h
 exact ⟨fun k hk => by obtain rfl : k = b := hk; exact (Array.getElem?_eq_some_iff.1 h1).1, fun w' hw => ⟨sp, N, (hw b rfl).trans h1, h2⟩⟩
theorem bb_cell {E b : Nat} {l : List Int} {w : World} (h : bbφ E b l w) {i : Nat} {x : Int} (hx : l[i]? = some x) : w.cell? ⟨b, i, none⟩ = some (.int .u8 x) := by
 obtain ⟨sp, N, h1, h2⟩ := h
 have hi := (List.getElem?_eq_some_iff.1 hx).1
 unfold World.cell?
 rw [h1]
 simp only [List.getElem?_toArray]
 rw [List.getElem?_append_left (by rw [List.length_map]; exact hi), List.getElem?_map, hx]; rfl
theorem bb_by {E b c : Nat} {l : List Int} {w : World} (h : bbφ E b l w) (hc : l.length ≤ c) : ByAt (.slice (some ⟨b, 0, none⟩) l.length c) l w := by
 by_cases hl : l = []
 · subst hl; exact .inl ⟨rfl, _, _, rfl⟩
 · refine .inr ⟨b, 0, c, hl, rfl, hc, fun j x hj => by rw [Nat.zero_add]; exact bb_cell h hj, ?_⟩
   obtain ⟨sp, N, h1, _⟩ := h
   exact (Array.getElem?_eq_some_iff.1 h1).1
def bytesI (s : ByteArray) : List Int := s.data.toList.map fun b => (b.toNat : Int)
theorem bytesI_len (s : ByteArray) : (bytesI s).length = s.size := by unfold bytesI; simp
section
variable {P : Program} {n : NN} {F0 : Nat → Prop} {w0 w : World} {a : Act} {L : List (Nat × Value)} {Γ : List Asn}
variable {K : Act → World → Prop} {Q : Exit → Act → World → Prop} {d ty : Nat} {pos : String} {af : Array Edge} {g : Option (Nat × Bool)}
theorem s_toBytes {T T' E : Nat} {x : Operand} {s : ByteArray} {u : TypeDesc} (hS : St n F0 w0 a w L Γ) (hx : ev L x = some (.string s)) (hu : P.underlying T = some u) (hT : sliceT P T' = some E) (hE : P.underlying E = some (.int .u8)) (hn : Nat.blt d n.n = true)
 (h : ∀ b c a' w', (bytesI s).length ≤ c → St n F0 w0 a' w' ((d, .slice (some ⟨b, 0, none⟩) (bytesI s).length c) :: L) (bbA E b (bytesI s) :: Γ) → K a' w') : OW P ⟨some d, .convert T T' x, ty, pos, af, g⟩ a w K Q := by
 have hcv := Lib.run_convert_string_bytes (P := P) w T T' E s hu (sliceT_eq hT) hE
 have he : (execOp a.eval (⟨some d, .convert T T' x, ty, pos, af, g⟩ : Oper)).run P w = .ok (.value (.slice (some ⟨w.heap.size, 0, none⟩) s.size (grownCap w s.size 0 E))) (Lib.bytesWorld w E s) := by
  simp [execOp, hS.sl.ev hx, hcv]
 refine ⟨?_⟩
 unfold Oper.wp
 rw [he]
 have hcap : s.size ≤ grownCap w s.size 0 E := grownCap_ge w s.size 0 E
 have hcs : Lib.bytesCells w E s = ((bytesI s).map (Value.int .u8) ++ List.replicate (grownCap w s.size 0 E - s.size) (Value.int .u8 0)).toArray := by
  unfold Lib.bytesCells bytesI
  apply Array.ext'
  simp
 rw [← bytesI_len s]
 refine h w.heap.size _ _ _ (by rw [bytesI_len]; exact hcap) ((hS.fresh (Chg.of_below (Lib.bytesWorld_below w E s)) (bb_ok ⟨List.replicate (grownCap w s.size 0 E - s.size) (Value.int .u8 0), (Lib.bytesCells w E s).size, ?_, ?_⟩) (fun b hb => by have : b = w.heap.size := hb; omega)).put hn _)
 · rw [Lib.bytesWorld_at_new, ← hcs]
 · rw [hcs]; simp
theorem St.toOld {n : NN} {F0 : Nat → Prop} (h : St n F0 w0 a w L Γ) : St n F0 w0 a w L [oldA w] := ⟨h.sl, h.chg, okC (old_ok (old_refl w)) okN, dis1, mineC rfl mineN⟩
end
end Go.Proofs.YtlccmgeclhdegaaGreatDoor
namespace Go.Proofs.YtlccmgeclhdegaaGreatDoor
open Go.RowKit
set_option maxRecDepth 100000 in
theorem jLiteralF_Y (W0 : World) (bp br : Nat) (q : Option Addr) (c : Nat) (l : List UInt8) (ht : TxA W0 q c l) (hb : W0.heap.size ≤ br) (hbp : W0.heap.size ≤ bp) (hne : bp ≠ br) (w0 : World) (h1 : (Asn.blk bp [.pointer (some ⟨br, 0, none⟩)] 91).ok w0) (h : (rdA br q c l 0).φ w0) (ho : oldφ W0 w0) :
 MayC Tryz.prog 143 [.pointer (some ⟨bp, 0, none⟩)] w0 (fun v => isFault eNo v ∧ numF l = none) (duo (.blk bp [.pointer (some ⟨br, 0, none⟩)] 91) (rdA br q c l 0))
  (fun x : { k : Nat // numF l = some k } => numV (l.take x.1)) (fun x => duo (.blk bp [.pointer (some ⟨br, 0, none⟩)] 91) (rdA br q c l x.1)) := by
 have hn := ht.n
 refine c_enter [(0, .pointer (some ⟨bp, 0, none⟩))] [.blk bp [.pointer (some ⟨br, 0, none⟩)] 91, rdA br q c l 0, oldA W0] (fun k => k = bp ∨ k = br) Tryz.func143 rfl Tryz.ntmps143 ⟨rfl, trivial⟩ rfl (okC h1 (okC (ok_blk h) (okC (old_ok ho) okN))) (disC (sepC (fun k h1 h2 => by have h1 : k = bp := h1; have h2 : k = br := h2; omega) (sepC (fun k h1 h2 => by have h1 : k = bp := h1; have h2 : k < W0.heap.size := h2; omega) sepN)) (disC (sepC (fun k h1 h2 => by have h1 : k = br := h1; have h2 : k < W0.heap.size := h2; omega) sepN) dis1)) (mineO (fun k hk => .inl hk) (mineO (fun k hk => .inr hk) (mineC rfl mineN))) ?_
 intro a hS
 refine cS (cR ?_)
 refine L_op (s_alloc hS ty_z37 rfl ?_); clear hS a; intro a w b1 hS
 refine nL (nT (cS (cR ?_)))
 refine L_e hS (e_load rfl (by repeat constructor) ty_sc91 (by rfl)) rfl ?_; clear hS a; intro a hS
 refine L_op (s_callY hS (.cons rfl .nil) cf98 rfl (jNumber_Y W0 br q c l ht 0 (Nat.zero_le _) _ (hS.gg (X := rdA br q c l 0)) (hS.gg (X := oldA W0)) hb) (fun x => (by repeat constructor)) rfl (by repeat constructor) ?_ ?_)
 ·
  intro vp wp hvp hdp hcp
  refine p_then ?_
  exact ⟨hdp, .inr ⟨vp, ⟨hvp.1, hvp.2⟩, rfl, hcp⟩⟩
 clear hS a; intro x3 a w hS
 obtain ⟨k, hk⟩ := x3
 simp only [Nat.zero_add] at hS
 rw [show l.drop 0 = l from rfl] at hk hS
 unfold numV at hS
 refine L_op (s_storeA hS rfl rfl ty_sz37 (by repeat constructor) (by rfl) (by rfl) (by rfl) ?_); clear hS; intro w hS
 refine nL (nT (wp_ret ?_))
 refine c_ret1 hS Tryz.results143 (.cellA rfl (by repeat constructor) ty_st37 ty_sz37 (by rfl)) ?_
 exact .inl ⟨⟨k, hk⟩, rfl, hS.chg, duo_ok (hS.ok (.blk bp [.pointer (some ⟨br, 0, none⟩)] 91) (by repeat constructor)) (hS.ok (rdA br q c l k) (by repeat constructor)) (fun b h1 h2 => hS.sep (X := .blk bp [.pointer (some ⟨br, 0, none⟩)] 91) (Y := rdA br q c l k) (by repeat constructor) (by repeat constructor) b h1 h2), fun b hb => .inl hb⟩
set_option maxRecDepth 100000 in
theorem jLiteral_P (t : List UInt8) (hn : t.length ≤ 1100000) (w0 : World) : PureC Tryz.prog 102 [.string (tx t)] w0 (.bool (decide (numF t = some t.length))) := by
 have htx := tx_size t
 refine c_enter [(0, .string (tx t))] [] noB Tryz.func102 rfl Tryz.ntmps102 ⟨rfl, trivial⟩ rfl (by simp) (by simp) (by simp) ?_
 intro a hS
 refine cS (cR ?_)
 refine L_e hS (e_assign rfl) rfl ?_; clear hS a; intro a hS
 refine nL (nT (cS (cR ?_)))
 refine L_e hS (e_move rfl) rfl ?_; clear hS a; intro a hS
 refine L_op (s_toBytes hS rfl Tryz.underlying9 ty_sl27 ty_u5 rfl ?_)
 clear hS a; intro b7 c7 a w hc7 hS
 obtain ⟨W1, rfl⟩ : ∃ W, W = w := ⟨_, rfl⟩
 have ht : TxA W1 (some ⟨b7, 0, none⟩) c7 t := ⟨by have := bb_by (hS.gg (X := bbA 5 b7 (bytesI (tx t)))) hc7; rw [show bytesI (tx t) = bsI t from rfl, bsI_len] at this; exact this, hn⟩
 rw [show (bytesI (tx t)).length = t.length from bsI_len t] at hS
 replace hS := hS.toOld
 refine L_e hS (e_build ty_z93 ty_pl93 (.one rfl rfl rfl (by repeat constructor) .nil)) rfl ?_; clear hS a; intro a hS
 refine L_op (s_boxA hS rfl rfl ?_); clear hS a; intro a w b9 hS
 refine L_op (s_alloc hS ty_z91 rfl ?_); clear hS a; intro a w b3 hS
 refine L_op (s_store hS rfl rfl rfl ty_sz91 (by repeat constructor) (by repeat constructor) ?_); clear hS; intro w hS
 refine nL (nT (cS (cR ?_)))
 refine L_e hS (e_makeFunc .nil (.cons rfl .nil)) rfl ?_; clear hS a; intro a hS
 have hm9 : W1.heap.size ≤ b9 := Nat.not_lt.1 fun h => hS.sep (X := .blk b9 [.slice (some ⟨b7, 0, none⟩) t.length c7, .int .i64 0] 93) (Y := oldA W1) (by repeat constructor) (by repeat constructor) b9 rfl h
 have hm3 : W1.heap.size ≤ b3 := Nat.not_lt.1 fun h => hS.sep (X := .blk b3 [.pointer (some ⟨b9, 0, none⟩)] 91) (Y := oldA W1) (by repeat constructor) (by repeat constructor) b3 rfl h
 have hne : b3 ≠ b9 := fun e => hS.sep (X := .blk b3 [.pointer (some ⟨b9, 0, none⟩)] 91) (Y := .blk b9 [.slice (some ⟨b7, 0, none⟩) t.length c7, .int .i64 0] 93) (by repeat constructor) (by repeat constructor) b3 rfl e
 replace hS : St _ _ _ _ _ _ [duo (.blk b3 [.pointer (some ⟨b9, 0, none⟩)] 91) (rdA b9 (some ⟨b7, 0, none⟩) c7 t 0), oldA W1] := (hS.pick (Γ' := [.blk b3 [.pointer (some ⟨b9, 0, none⟩)] 91, .blk b9 [.slice (some ⟨b7, 0, none⟩) t.length c7, .int .i64 0] 93, oldA W1]) (by repeat (first | exact Pick.nil | (refine Pick.cons (by repeat (first | exact Rem.head | apply Rem.tail)) ?_)))).duo rfl rfl
 have hold : oldφ W1 w := hS.gg (X := oldA W1)
 refine L_op (s_callM hS (.cons rfl .nil) cf31 rfl (guarded_M 143 [.pointer (some ⟨b3, 0, none⟩)] (fun e => eNo e ∧ numF t = none) (duo (.blk b3 [.pointer (some ⟨b9, 0, none⟩)] 91) (rdA b9 (some ⟨b7, 0, none⟩) c7 t 0)) (fun x : { k : Nat // numF t = some k } => fourJ 3 (tx (t.take x.1)) none 0 0 none 0 0) (fun x => duo (.blk b3 [.pointer (some ⟨b9, 0, none⟩)] 91) (rdA b9 (some ⟨b7, 0, none⟩) c7 t x.1)) cf143 rfl (fun x => ⟨_, _, _, _, rfl, rfl, rfl, rfl, rfl⟩) _ (fun _ => rfl) (hS.ok (duo (.blk b3 [.pointer (some ⟨b9, 0, none⟩)] 91) (rdA b9 (some ⟨b7, 0, none⟩) c7 t 0)) (by repeat constructor)) (fun w' hX hch => (jLiteralF_Y W1 b3 b9 (some ⟨b7, 0, none⟩) c7 t ht hm9 hm3 hne w' hX.now.1 hX.now.2.1.now ⟨Nat.le_trans hold.1 hch.size, fun k hk => (hch.block k (Nat.lt_of_lt_of_le hk hold.1) (fun hF => by rcases hF with hF | hF; exact absurd (show k = b3 from hF) (by omega); exact absurd (show k = b9 from hF) (by omega))).trans (hold.2 k hk)⟩).pan (fun v ⟨⟨p, e, he, hv⟩, hb⟩ => ⟨p, e, ⟨he, hb⟩, hv⟩))) (fun x => (by repeat constructor)) rfl ?_); clear hS a; intro x12 a w hS
 obtain ⟨jk, js, ja, jm, jc, ja', jm', jc', p, e, hgu, hres⟩ := gu_open (E := fun e => eNo e ∧ numF t = none) (V := fun x : { k : Nat // numF t = some k } => fourJ 3 (tx (t.take x.1)) none 0 0 none 0 0) (Y := fun x => duo (.blk b3 [.pointer (some ⟨b9, 0, none⟩)] 91) (rdA b9 (some ⟨b7, 0, none⟩) c7 t x.1)) x12 (fun y hy => ⟨_, _, _, _, _, _, _, _, rfl⟩) (hS.ok (guY (fun e => eNo e ∧ numF t = none) (fun x : { k : Nat // numF t = some k } => duo (.blk b3 [.pointer (some ⟨b9, 0, none⟩)] 91) (rdA b9 (some ⟨b7, 0, none⟩) c7 t x.1)) x12) (by repeat constructor))
 rw [hgu] at hS
 refine Rn hS (.m rfl <| .c (e_extract rfl rfl) <| .c (e_extract rfl rfl) .n) ?_; clear hS a; intro a hS
 refine L_op (s_alloc hS ty_z37 rfl ?_); clear hS a; intro a w b4 hS
 refine L_op (s_alloc hS ty_z95 rfl ?_); clear hS a; intro a w b5 hS
 refine L_op (s_storeA hS rfl rfl ty_sz37 (by repeat constructor) (by rfl) (by rfl) (by rfl) ?_); clear hS; intro w hS
 refine L_op (s_storeA hS rfl rfl ty_sz95 (by repeat constructor) (by rfl) (by rfl) (by rfl) ?_); clear hS; intro w hS
 refine nL (nT (cS (cR ?_)))
 (first | refine L_e hS (e_fa0 rfl ty_fo95_1) rfl ?_ | refine L_e hS (e_faK rfl ty_fo95_1) rfl ?_); clear hS a; intro a hS
 refine Rn hS (.c (e_load rfl (by repeat constructor) ty_sc30 (by rfl)) <| .c (e_bin rfl rfl rfl) <| .m rfl .n) ?_; clear hS a; intro a hS
 (first | refine g_splitD (t := 18) hS rfl ?_ ?_ | refine g_split (t := 18) hS rfl ?_ ?_) <;> (clear hS; intro hc18 hS)
 ·
  rcases hres with ⟨y, rfl, _, _, _⟩ | ⟨pe, rfl, _, _, he⟩
  case inr => exact absurd (he.symm.trans hc18) pe.2.1
  have hyn := y.2
  replace hS := (hS.pick (Γ' := [duo (.blk b3 [.pointer (some ⟨b9, 0, none⟩)] 91) (.blk b9 [.slice (some ⟨b7, 0, none⟩) t.length c7, .int .i64 (y.1 : Int)] 93), .blk b5 [.int .i64 p, .int .i64 e] 95]) (by repeat (first | exact Pick.nil | (refine Pick.cons (by repeat (first | exact Rem.head | apply Rem.tail)) ?_)))).unduo
  refine Rn hS (.g rfl rfl (e_load rfl (by repeat constructor) ty_sc91 (by rfl)) <| .g rfl rfl (e_nilCheck rfl) .n) ?_; clear hS a; intro a hS
  (first | refine L_ge hS rfl rfl (e_fa0 rfl ty_fo93_1) rfl ?_ | refine L_ge hS rfl rfl (e_faK rfl ty_fo93_1) rfl ?_); clear hS a; intro a hS
  refine Rn hS (.g rfl rfl (e_load rfl (by repeat constructor) ty_sc3 (by rfl)) <| .g rfl rfl (e_move rfl) <| .g rfl rfl (e_lenS rfl rfl ty_u9) <| .g rfl rfl (e_bin rfl rfl rfl) <| .c (e_pk rfl rfl) <| .a rfl .n) ?_; clear hS a; intro a hS
  refine nL (nT (wp_ret ?_))
  refine c_ret1 hS Tryz.results102 (.tmp rfl) ?_
  first
   | exact ⟨by rw [hno], hS.chg⟩
   | exact ⟨congrArg (fun x => Ending.returned (Value.bool x)) (decide_eq_decide.2 ⟨fun h => hyn.trans (congrArg some (by omega)), fun h => by have h2 := hyn.symm.trans h; injection h2 with h2; omega⟩), hS.chg⟩
 have hno : decide (numF t = some t.length) = false := by
  rcases hres with ⟨y, rfl, _, _, he⟩ | ⟨pe, rfl, _, _, he⟩
  · exact absurd he hc18
  · exact decide_eq_false (fun h => by have := pe.2.2.symm.trans h; cases this)
 refine Rn hS (.t rfl rfl <| .t rfl rfl <| .t rfl rfl <| .t rfl rfl <| .t rfl rfl <| .t rfl rfl <| .t rfl rfl <| .c (e_pk rfl rfl) <| .a rfl .n) ?_; clear hS a; intro a hS
 refine nL (nT (wp_ret ?_))
 refine c_ret1 hS Tryz.results102 (.tmp rfl) ?_
 first
  | exact ⟨by rw [hno], hS.chg⟩
  | exact ⟨congrArg (fun x => Ending.returned (Value.bool x)) (decide_eq_decide.2 ⟨fun h => hyn.trans (congrArg some (by omega)), fun h => by have h2 := hyn.symm.trans h; injection h2 with h2; omega⟩), hS.chg⟩
def roA (b : Nat) (cs : List Value) (T : TypeId) : Asn := .any (fun k => k = b) (fun w => w.heap[b]? = some (.cells cs.toArray T (0, 0))) false
theorem ro_ok {b : Nat} {cs : List Value} {T : TypeId} {w : World} (h : (Asn.blk b cs T).ok w) : (roA b cs T).ok w := ⟨fun k hk => h.lt k hk, fun _ hw => (h.agree fun k hk => hw k hk).now⟩
section
variable {P : Program} {n : NN} {F0 : Nat → Prop} {w0 : World} {a : Act} {w : World} {L : List (Nat × Value)} {Γ : List Asn}
variable {K : Act → World → Prop} {Q : Exit → Act → World → Prop} {d ty : Nat} {dst : Option Tmp} {pos : String} {af : Array Edge} {g : Option (Nat × Bool)}
theorem shape_of_blk {w : World} {b : Nat} {cs : List Value} {E : TypeId} (h : w.heap[b]? = some (.cells cs.toArray E (0, 0))) : w.shape? b = some (E, cs.length) := by
 simp [World.shape?, h]
theorem e_toU {src ds t e b : Nat} {x : Operand} {cs : List Value} (hx : ev L x = some (.pointer (some ⟨b, 0, none⟩))) (hm : Asn.blk b cs e ∈ Γ) (hs : P.underlying src = some (.pointer t)) (hd : P.underlying ds = some .unsafePointer)
 (hz : ((P.info? t).map fun j => Nat.blt 0 j.size) = some true) (hl : Nat.blt 0 cs.length = true) : Ex P n a L Γ ⟨dst, .convert src ds x, ty, pos, af, g⟩ (.pointer (some ⟨b, 0, none⟩)) := fun hs' w hh => by
 obtain ⟨j, hj, hjz⟩ := Option.map_eq_some_iff.1 hz
 have := Lib.run_to_unsafe (P := P) w ⟨b, 0, none⟩ hs hd hj (by have := Nat.le_of_ble_eq_true hjz; omega) (shape_of_blk (hh _ hm)) (Nat.le_of_ble_eq_true hl)
 simp [execOp, hs'.ev hx, this]
theorem e_fromU {src ds u e b : Nat} {x : Operand} {cs : List Value} (hx : ev L x = some (.pointer (some ⟨b, 0, none⟩))) (hm : Asn.blk b cs e ∈ Γ) (hs : P.underlying src = some .unsafePointer) (hd : P.underlying ds = some (.pointer u))
 (hz : (P.info? u).isSome = true) (hl : liesAt P P.depth e (cs.length / P.cellsOf e) 0 u 1 = true) : Ex P n a L Γ ⟨dst, .convert src ds x, ty, pos, af, g⟩ (.pointer (some ⟨b, 0, none⟩)) := fun hs' w hh => by
 obtain ⟨j, hj⟩ := Option.isSome_iff_exists.1 hz
 have := Lib.run_from_unsafe (P := P) w ⟨b, 0, none⟩ hs hd hj (shape_of_blk (hh _ hm)) hl
 simp [execOp, hs'.ev hx, this]
theorem ext_noEsc {f : FuncId} {fn : Func} {v : Value} (hf : P.funcs[f]? = some fn) (hname : (fn.name == "runtime.NumGoroutine") = false) (hb : fn.body.isNone = true) (hn : Extern.findNext fn = none) (he : Extern.find fn = some Extern.AbiNoEscape.same) : ExtC P f [v] v := fun w => by
 rw [run_callFunc_extern hf hname hb hn he, show [v].toArray = #[v] from rfl, Lib.run_noEscape]; rfl
theorem e_neqSame {t t' te : TypeId} {x y : Operand} {p : Addr} (hx : ev L x = some (.pointer (some p))) (hy : ev L y = some (.pointer (some p))) (hp : P.underlying t = some (.pointer te)) (hte : (P.info? te).isSome = true) :
 Ex P n a L Γ ⟨dst, .binOp .neq t x y t', ty, pos, af, g⟩ (.bool false) := fun hs w hh => by
 obtain ⟨j, hj⟩ := Option.isSome_iff_exists.1 hte
 have := Lib.run_neq_ptr_same (P := P) w p hp hj
 simp [execOp, hs.ev hx, hs.ev hy, eqGuard, this]
theorem e_sliceData {x : Operand} {p : Addr} {m c : Nat} {ts : Array TypeId} (hx : ev L x = some (.slice (some p) m c)) (hc : c ≠ 0) : Ex P n a L Γ ⟨dst, .call ⟨.builtin .unsafeSliceData, #[x], ts⟩, ty, pos, af, g⟩ (.pointer (some p)) := fun hs w hh => by
 have := Lib.run_unsafeSliceData_row (P := P) w ts ty p m c hc
 simp [execOp, resolve, invoke, builtin, hs.ev hx, this]
theorem s_appendS {T U E : Nat} {x y : Operand} {v : Value} {s : ByteArray} {m : Nat} {cs : List Value} {Γ' : Value → List Asn} (hS : St n F0 w0 a w L Γ) (hx : ev L x = some v) (hy : ev L y = some (.string s))
 (hT : sliceT P T = some E) (hU : P.underlying U = some .string) (hs : szOf P E = some 1) (hb : byOf P E = some 1) (hz : ((P.info? E).bind (·.zero)) = some (.int .u8 0)) (hn : Nat.blt d n.n = true)
 (hm : ownA E 1 v m cs ∈ Γ) (hr : ∀ v', Rep (ownA E 1 v m cs) (ownA E 1 v' (m + s.size) (cs ++ Lib.strCells s)) Γ (Γ' v')) (hbd : m + s.size ≤ 1000000000)
 (h : ∀ v' a' w', (v' = .slice none 0 0 ↔ v = .slice none 0 0 ∧ s.size = 0) → St n F0 w0 a' w' ((d, v') :: L) (Γ' v') → K a' w') : OW P ⟨some d, .call ⟨.builtin .append, #[x, y], #[T, U]⟩, ty, pos, af, g⟩ a w K Q := by
 obtain ⟨i, hi, hz'⟩ := Option.bind_eq_some_iff.1 hz
 have h1 : i.size = 1 := by unfold szOf at hs; rw [hi] at hs; simpa using hs
 have h2 : i.bytes = 1 := by unfold byOf at hb; rw [hi] at hb; simpa using hb
 have hown : w.ownsRow 0 E 1 v m cs := hS.get hm
 obtain ⟨v', w', hrun, hown', hgr, hnil⟩ := Lib.run_append_own_string w 0 T U ty E i (sliceT_eq hT) hU hi hz' h1 h2 v m cs hown s (by unfold maxLen; omega) (by omega) (Nat.zero_le _)
 have hblk : ∀ q, v'.ownBlock = some q → v.ownBlock = some q ∨ w.heap.size ≤ q := by
  rcases hown.2 with ⟨rfl, rfl⟩ | ⟨g, cap, cur, rfl, _, hg, hnc, hcm, hcs, htake⟩
  · obtain rfl : cs = [] := List.eq_nil_of_length_eq_zero (by simpa using hown.1)
    obtain ⟨v2, w2, hrun2, hown2, _⟩ := Lib.run_append_own_string w w.heap.size T U ty E i (sliceT_eq hT) hU hi hz' h1 h2 (.slice none 0 0) 0 [] (World.ownsRow_nil _ _ _ _) s (by unfold maxLen; omega) (by omega) (Nat.le_refl _)
    have := hrun.symm.trans hrun2
    injection this with e1 e2
    subst e1
    intro q hq
    rcases hown2.2 with ⟨h3, _⟩ | ⟨g, c2, cu2, h3, h4, _⟩
    · rw [h3] at hq; cases hq
    · rw [h3] at hq; simp [Value.ownBlock] at hq; right; omega
  · by_cases hroom : m + s.size ≤ cap
    · have hr := Lib.run_append_room_string (P := P) w T U ty E i (sliceT_eq hT) hU hi h1 g m cap cur hg s hroom (by rw [hcs, Nat.mul_one]; exact hroom)
      have := hrun.symm.trans hr
      injection this with e1 _
      intro q hq; rw [e1] at hq; left; simpa [Value.ownBlock] using hq
    · have holds : ∀ j u, cs[j]? = some u → w.cell? ((⟨g, 0, none⟩ : Addr).add j) = some u := hown.cells (g := g) rfl
      have hr := Lib.run_append_grow_string (P := P) w T U ty E i (.int .u8 0) (sliceT_eq hT) hU hi hz' ⟨g, 0, none⟩ m cap cs (by rw [h1]; exact hown.1) holds s (by omega) (by omega) (growslice_fits (by omega) (by rw [h2]; omega))
      have := hrun.symm.trans hr
      injection this with e1 _
      intro q hq; rw [e1] at hq; simp [Value.ownBlock] at hq; right; omega
 have he : (execOp a.eval (⟨some d, .call ⟨.builtin .append, #[x, y], #[T, U]⟩, ty, pos, af, g⟩ : Oper)).run P w = .ok (.value v') w' := by
  simp [execOp, resolve, invoke, builtin, hS.sl.ev hx, hS.sl.ev hy, hrun]
 refine ⟨?_⟩
 unfold Oper.wp
 rw [he]
 exact h v' _ _ hnil ((hS.upd (hr v') (Chg.grown hgr) (ok_own hown') (fun k hk => hblk k hk) rfl).put hn _)
theorem s_unsafeStr {E pt it q m c : Nat} {x y : Operand} {l : List UInt8} {Γ' : List Asn} (hS : St n F0 w0 a w L Γ) (hx : ev L x = some (.pointer (some ⟨q, 0, none⟩))) (hy : ev L y = some (.int .i64 (l.length : Int)))
 (hp : P.underlying pt = some (.pointer E)) (hc : P.cellsOf E = 1) (hn : Nat.blt d n.n = true) (hl : l ≠ []) (hl2 : l.length ≤ 1000000000)
 (hr : Rep (ownA E 1 (.slice (some ⟨q, 0, none⟩) m c) l.length (Lib.byteCells l)) none_ Γ Γ')
 (h : ∀ a' w', St n F0 w0 a' w' ((d, .string ⟨l.toArray⟩) :: L) Γ' → K a' w') : OW P ⟨some d, .call ⟨.builtin .unsafeString, #[x, y], #[pt, it]⟩, ty, pos, af, g⟩ a w K Q := by
 have hown : w.ownsRow 0 E 1 (.slice (some ⟨q, 0, none⟩) m c) l.length (Lib.byteCells l) := hS.get hr.mem
 have hl0 : l.length ≠ 0 := fun e => hl (List.eq_nil_of_length_eq_zero e)
 rcases hown.2 with ⟨h1, h2⟩ | ⟨g', cap, cur, h1, _, hg, hnc, _, hcs, htake⟩
 · exact absurd h2 hl0
 · injection h1 with h3 h4 h5
   injection h3 with h3
   injection h3 with h3
   subst h3 h4 h5
   have hsh : w.shape? q = some (E, cur.size) := by simp [World.shape?, hg]
   have hcell : ∀ j x, l[j]? = some x → w.cell? ((⟨q, 0, none⟩ : Addr).add j) = some (.int .u8 x.toNat) := fun j x hj => by
    refine hown.cells (g := q) rfl j _ ?_
    unfold Lib.byteCells
    rw [List.getElem?_map, hj]; rfl
   have hrun := Lib.run_unsafeString_row (P := P) w pt it ty E hp hc q cur.size hsh l hl (by rw [hcs, Nat.mul_one]; exact hnc) (by omega) hcell
   have he : (execOp a.eval (⟨some d, .call ⟨.builtin .unsafeString, #[x, y], #[pt, it]⟩, ty, pos, af, g⟩ : Oper)).run P w = .ok (.value (.string ⟨l.toArray⟩)) (w.freeze ⟨q, 0, none⟩ l.length) := by
    simp [execOp, resolve, invoke, builtin, hS.sl.ev hx, hS.sl.ev hy, hrun]
   refine ⟨?_⟩
   unfold Oper.wp
   rw [he]
   refine h _ _ ((hS.upd hr ?_ (none_ok _) (fun k hk => hk.elim) rfl).put hn _)
   unfold World.freeze
   rw [if_neg hl0]
   exact ⟨rfl, rfl, rfl, by simp, fun k hk hF => by
     simp only [Array.getElem?_modify]
     rw [if_neg (fun e => hF (by rw [← e]; rfl))]⟩
end
end Go.Proofs.YtlccmgeclhdegaaGreatDoor
namespace Go.Proofs.YtlccmgeclhdegaaGreatDoor
open Go.RowKit
def bldA (T b : Nat) (ad : Option Addr) (s : Value) (l : List UInt8) : Asn := duo (.blk b [.pointer ad, s] T) (ownA 5 1 s l.length (Lib.byteCells l))
def bdT (T : Nat) : Prop := T = 104 ∨ T = 106
theorem lies_bd {T : Nat} (h : bdT T) : liesAt Tryz.prog Tryz.prog.depth T (2 / Tryz.prog.cellsOf T) 0 104 1 = true := by
 rcases h with rfl | rfl
 · kernel_rfl
 · kernel_rfl
set_option maxRecDepth 100000 in
theorem copyCheck_f (T : Nat) (hT : bdT T) (b : Nat) (s : Value) (w0 : World) (h : (Asn.blk b [.pointer none, s] T).φ w0) :
 MutC Tryz.prog 109 [.pointer (some ⟨b, 0, none⟩)] w0 (.blk b [.pointer none, s] T) (fun _ : Unit => .tuple [].toArray) (fun _ => .blk b [.pointer (some ⟨b, 0, none⟩), s] T) := by
 refine c_enter [(0, .pointer (some ⟨b, 0, none⟩))] [.blk b [.pointer none, s] T] (fun k => k = b) Tryz.func109 rfl Tryz.ntmps109 ⟨rfl, trivial⟩ rfl (okC (ok_blk h) okN) dis1 (mineO (fun _ hb => hb) mineN) ?_
 intro a hS
 refine cS (cR ?_)
 refine Rn hS (.m rfl <| .c (e_nilCheck rfl) .n) ?_; clear hS a; intro a hS
 (first | refine L_e hS (e_fa0 rfl ty_fo104_0) rfl ?_ | refine L_e hS (e_faK rfl ty_fo104_0) rfl ?_); clear hS a; intro a hS
 refine Rn hS (.c (e_load rfl (by repeat constructor) ty_sc102 (by rfl)) <| .c (e_nil rfl ty_u102) .n) ?_; clear hS a; intro a hS
 refine nL (nT ?_)
 replace hS := hS.is (t := 6) (c := true) rfl (rfl)
 refine c_if_t hS rfl ?_
 refine cR ?_
 refine Rn hS (.m rfl <| .m rfl <| .c (e_toU rfl (by repeat constructor) ty_u102 Tryz.underlying218 (by kernel_rfl) rfl) <| .c (e_extern (.cons rfl .nil) (ext_noEsc Tryz.func151 (by kernel_rfl) (by kernel_rfl) (by kernel_rfl) (by kernel_rfl))) <| .c (e_fromU rfl (by repeat constructor) Tryz.underlying218 ty_u102 (by kernel_rfl) (lies_bd hT)) <| .c (e_nilCheck rfl) .n) ?_; clear hS a; intro a hS
 (first | refine L_e hS (e_fa0 rfl ty_fo104_0) rfl ?_ | refine L_e hS (e_faK rfl ty_fo104_0) rfl ?_); clear hS a; intro a hS
 refine L_op (s_store hS rfl rfl rfl ty_sz102 (by repeat constructor) (by repeat constructor) ?_); clear hS; intro w hS
 refine nL (r_norm ?_)
 refine c_retN hS Tryz.results109 .nil rfl ?_
 exact ⟨(), rfl, hS.chg, hS.ok (.blk b [.pointer (some ⟨b, 0, none⟩), s] T) (by repeat constructor), fun k hk => .inl hk⟩
set_option maxRecDepth 100000 in
theorem copyCheck_u (T : Nat) (b : Nat) (s : Value) (w0 : World) (h : (Asn.blk b [.pointer (some ⟨b, 0, none⟩), s] T).φ w0) :
 MutC Tryz.prog 109 [.pointer (some ⟨b, 0, none⟩)] w0 (.blk b [.pointer (some ⟨b, 0, none⟩), s] T) (fun _ : Unit => .tuple [].toArray) (fun _ => .blk b [.pointer (some ⟨b, 0, none⟩), s] T) := by
 refine c_enter [(0, .pointer (some ⟨b, 0, none⟩))] [.blk b [.pointer (some ⟨b, 0, none⟩), s] T] (fun k => k = b) Tryz.func109 rfl Tryz.ntmps109 ⟨rfl, trivial⟩ rfl (okC (ok_blk h) okN) dis1 (mineO (fun _ hb => hb) mineN) ?_
 intro a hS
 refine cS (cR ?_)
 refine Rn hS (.m rfl <| .c (e_nilCheck rfl) .n) ?_; clear hS a; intro a hS
 (first | refine L_e hS (e_fa0 rfl ty_fo104_0) rfl ?_ | refine L_e hS (e_faK rfl ty_fo104_0) rfl ?_); clear hS a; intro a hS
 refine Rn hS (.c (e_load rfl (by repeat constructor) ty_sc102 (by rfl)) <| .c (e_nil rfl ty_u102) .n) ?_; clear hS a; intro a hS
 refine nL (nT ?_)
 replace hS := hS.is (t := 6) (c := false) rfl (rfl)
 refine c_if_f hS rfl ?_
 refine cS (cR ?_)
 refine Rn hS (.m rfl <| .c (e_nilCheck rfl) .n) ?_; clear hS a; intro a hS
 (first | refine L_e hS (e_fa0 rfl ty_fo104_0) rfl ?_ | refine L_e hS (e_faK rfl ty_fo104_0) rfl ?_); clear hS a; intro a hS
 refine Rn hS (.c (e_load rfl (by repeat constructor) ty_sc102 (by rfl)) <| .m rfl <| .c (e_neqSame rfl rfl ty_u102 (by kernel_rfl)) .n) ?_; clear hS a; intro a hS
 refine nL (nT ?_)
 replace hS := hS.is (t := 19) (c := false) rfl (rfl)
 refine c_if_f hS rfl ?_
 refine wS (r_norm ?_)
 refine c_retN hS Tryz.results109 .nil rfl ?_
 exact ⟨(), rfl, hS.chg, hS.ok (.blk b [.pointer (some ⟨b, 0, none⟩), s] T) (by repeat constructor), fun k hk => .inl hk⟩
theorem copyCheck_M (T : Nat) (hT : bdT T) (b : Nat) (ad : Option Addr) (had : ad = none ∨ ad = some ⟨b, 0, none⟩) (s : Value) (w0 : World) (h : (Asn.blk b [.pointer ad, s] T).φ w0) :
 MutC Tryz.prog 109 [.pointer (some ⟨b, 0, none⟩)] w0 (.blk b [.pointer ad, s] T) (fun _ : Unit => .tuple [].toArray) (fun _ => .blk b [.pointer (some ⟨b, 0, none⟩), s] T) := by
 rcases had with rfl | rfl
 · exact copyCheck_f T hT b s w0 h
 · exact copyCheck_u T b s w0 h
theorem bld_ok {T b : Nat} {ad : Option Addr} {s : Value} {l : List UInt8} {w : World} (h1 : (Asn.blk b [.pointer ad, s] T).ok w) (h2 : (ownA 5 1 s l.length (Lib.byteCells l)).ok w) (hs : ∀ k, (Asn.blk b [.pointer ad, s] T).F k → ¬ (ownA 5 1 s l.length (Lib.byteCells l)).F k) : (bldA T b ad s l).ok w := duo_ok h1 h2 hs
theorem bld_end {n : NN} {w0 w : World} {a : Act} {L : List (Nat × Value)} {Γ : List Asn} {T b m : Nat} {ad : Option Addr} {s s' : Value} {l : List UInt8} {cs : List Value} (hS : St n (fun k => k = b ∨ s.ownBlock = some k) w0 a w L (.blk b [.pointer ad, s'] T :: ownA 5 1 s' m cs :: Γ)) (hm : m = l.length) (hc : cs = Lib.byteCells l) :
 Chg (fun k => k = b ∨ s.ownBlock = some k) w0 w ∧ (bldA T b ad s' l).ok w ∧ ∀ k, (bldA T b ad s' l).F k → (k = b ∨ s.ownBlock = some k) ∨ w0.heap.size ≤ k := by
 subst hm hc
 refine ⟨hS.chg, bld_ok (hS.ok _ (.head _)) (hS.ok _ (.tail _ (.head _))) (fun k h1 h2 => (List.pairwise_cons.1 hS.dis).1 _ (.head _) k h1 h2), fun k hk => ?_⟩
 rcases hk with hk | hk
 · exact (hS.mine _ (.head _) rfl k hk).symm
 · exact (hS.mine _ (.tail _ (.head _)) rfl k hk).symm
theorem bc_app (x y : List UInt8) : Lib.byteCells (x ++ y) = Lib.byteCells x ++ Lib.byteCells y := List.map_append
set_option maxRecDepth 100000 in
theorem bWByte_M (T : Nat) (hT : bdT T) (b : Nat) (ad : Option Addr) (had : ad = none ∨ ad = some ⟨b, 0, none⟩) (s : Value) (l : List UInt8) (x : UInt8) (hl : l.length ≤ 900000000) (w0 : World) (h : (bldA T b ad s l).ok w0) :
 MutC Tryz.prog 41 [.pointer (some ⟨b, 0, none⟩), .int .u8 (x.toNat : Int)] w0 (bldA T b ad s l) (fun _ : Value => .nilIface) (fun s' => bldA T b (some ⟨b, 0, none⟩) s' (l ++ [x])) := by
 refine c_enter [(0, .pointer (some ⟨b, 0, none⟩)), (1, .int .u8 (x.toNat : Int))] [.blk b [.pointer ad, s] T, ownA 5 1 s l.length (Lib.byteCells l)] (fun k => k = b ∨ s.ownBlock = some k) Tryz.func41 rfl Tryz.ntmps41 ⟨rfl, rfl, trivial⟩ rfl (okC h.now.1 (okC h.now.2.1 okN)) (disC (sepC h.now.2.2 sepN) dis1) (mineO (fun k hk => .inl hk) (mineO (fun k hk => .inr hk) mineN)) ?_
 intro a hS
 refine cS (cR ?_)
 refine L_e hS (e_assign rfl) rfl ?_; clear hS a; intro a hS
 refine nL (nT (cS (cR ?_)))
 refine L_e hS (e_move rfl) rfl ?_; clear hS a; intro a hS
 refine L_op (s_callM hS (.cons rfl .nil) cf109 rfl (copyCheck_M T hT b ad had s _ (hS.gg (X := .blk b [.pointer ad, s] T))) (fun x => (by repeat constructor)) rfl ?_); clear hS a; intro x6 a w hS
 refine nL (nT (cS (cR ?_)))
 refine Rn hS (.m rfl <| .m rfl <| .c (e_nilCheck rfl) .n) ?_; clear hS a; intro a hS
 (first | refine L_e hS (e_fa0 rfl ty_fo104_1) rfl ?_ | refine L_e hS (e_faK rfl ty_fo104_1) rfl ?_); clear hS a; intro a hS
 refine Rn hS (.c (e_load rfl (by repeat constructor) ty_sc27 (by rfl)) <| .m rfl .n) ?_; clear hS a; intro a hS
 refine L_op (s_bslice hS ty_sl27 ty_sz5 ty_z5 rfl rfl rfl rfl (.one rfl rfl rfl .nil) rfl ?_); clear hS a; intro a w b13 hS
 refine L_op (s_append1 hS rfl rfl ty_sl27 ty_sz5 ty_by5 ty_z5 rfl rfl rfl (by repeat constructor) (by repeat constructor) (by rfl) (by rfl) (fun _ => (by repeat constructor)) (by omega) ?_); clear hS a; intro v14 a w hv14 hS
 obtain ⟨q14, c14, rfl⟩ := own_slice (hS.gg (X := ownA 5 1 v14 (l.length + 1) (Lib.byteCells l ++ [.int .u8 (x.toNat : Int)])))
 refine L_e hS (e_nilCheck rfl) rfl ?_; clear hS a; intro a hS
 (first | refine L_e hS (e_fa0 rfl ty_fo104_1) rfl ?_ | refine L_e hS (e_faK rfl ty_fo104_1) rfl ?_); clear hS a; intro a hS
 refine L_op (s_store hS rfl rfl rfl ty_sz27 (by repeat constructor) (by repeat constructor) ?_); clear hS; intro w hS
 refine nL (nT (cS (cR ?_)))
 refine L_e hS (e_assign rfl) rfl ?_; clear hS a; intro a hS
 refine nL (nT (wp_ret ?_))
 refine c_ret1 hS Tryz.results41 (.tmp rfl) ?_
 replace hS := hS.pick (Γ' := [.blk b [.pointer (some ⟨b, 0, none⟩), .slice q14 (l.length + 1) c14] T, ownA 5 1 (.slice q14 (l.length + 1) c14) (l.length + 1) (Lib.byteCells l ++ [.int .u8 (x.toNat : Int)])]) (by repeat (first | exact Pick.nil | (refine Pick.cons (by repeat (first | exact Rem.head | apply Rem.tail)) ?_)))
 exact ⟨_, rfl, bld_end hS (by simp) (by rw [bc_app]; rfl)⟩
set_option maxRecDepth 100000 in
theorem bWStr_M (T : Nat) (hT : bdT T) (b : Nat) (ad : Option Addr) (had : ad = none ∨ ad = some ⟨b, 0, none⟩) (s : Value) (l x : List UInt8) (hl : l.length + x.length ≤ 900000000) (w0 : World) (h : (bldA T b ad s l).ok w0) :
 MutC Tryz.prog 42 [.pointer (some ⟨b, 0, none⟩), .string (tx x)] w0 (bldA T b ad s l) (fun _ : Value => .tuple [.int .i64 (x.length : Int), .nilIface].toArray) (fun s' => bldA T b (some ⟨b, 0, none⟩) s' (l ++ x)) := by
 have hxs : (tx x).size = x.length := by unfold tx; simp [ByteArray.size]
 refine c_enter [(0, .pointer (some ⟨b, 0, none⟩)), (1, .string (tx x))] [.blk b [.pointer ad, s] T, ownA 5 1 s l.length (Lib.byteCells l)] (fun k => k = b ∨ s.ownBlock = some k) Tryz.func42 rfl Tryz.ntmps42 ⟨rfl, rfl, trivial⟩ rfl (okC h.now.1 (okC h.now.2.1 okN)) (disC (sepC h.now.2.2 sepN) dis1) (mineO (fun k hk => .inl hk) (mineO (fun k hk => .inr hk) mineN)) ?_
 intro a hS
 refine cS (cR ?_)
 refine Rn hS (.a rfl <| .a rfl .n) ?_; clear hS a; intro a hS
 refine nL (nT (cS (cR ?_)))
 refine L_e hS (e_move rfl) rfl ?_; clear hS a; intro a hS
 refine L_op (s_callM hS (.cons rfl .nil) cf109 rfl (copyCheck_M T hT b ad had s _ (hS.gg (X := .blk b [.pointer ad, s] T))) (fun x => (by repeat constructor)) rfl ?_); clear hS a; intro x7 a w hS
 refine nL (nT (cS (cR ?_)))
 refine Rn hS (.m rfl <| .m rfl <| .c (e_nilCheck rfl) .n) ?_; clear hS a; intro a hS
 (first | refine L_e hS (e_fa0 rfl ty_fo104_1) rfl ?_ | refine L_e hS (e_faK rfl ty_fo104_1) rfl ?_); clear hS a; intro a hS
 refine Rn hS (.c (e_load rfl (by repeat constructor) ty_sc27 (by rfl)) <| .m rfl .n) ?_; clear hS a; intro a hS
 refine L_op (s_appendS hS rfl rfl ty_sl27 Tryz.underlying9 ty_sz5 ty_by5 (by kernel_rfl) rfl (by repeat constructor) (fun _ => (by repeat constructor)) (by omega) ?_); clear hS a; intro v14 a w hv14 hS
 obtain ⟨q14, c14, rfl⟩ := own_slice (hS.gg (X := ownA 5 1 v14 (l.length + (tx x).size) (Lib.byteCells l ++ Lib.strCells (tx x))))
 refine L_e hS (e_nilCheck rfl) rfl ?_; clear hS a; intro a hS
 (first | refine L_e hS (e_fa0 rfl ty_fo104_1) rfl ?_ | refine L_e hS (e_faK rfl ty_fo104_1) rfl ?_); clear hS a; intro a hS
 refine L_op (s_store hS rfl rfl rfl ty_sz27 (by repeat constructor) (by repeat constructor) ?_); clear hS; intro w hS
 refine nL (nT (cS (cR ?_)))
 refine Rn hS (.m rfl <| .c (e_lenS rfl rfl ty_u9) <| .a rfl <| .a rfl .n) ?_; clear hS a; intro a hS
 refine nL (nT (wp_ret ?_))
 refine c_retN hS Tryz.results42 (.cons (.tmp rfl) (.cons (.tmp rfl) .nil)) rfl ?_
 replace hS := hS.pick (Γ' := [.blk b [.pointer (some ⟨b, 0, none⟩), .slice q14 (l.length + (tx x).size) c14] T, ownA 5 1 (.slice q14 (l.length + (tx x).size) c14) (l.length + (tx x).size) (Lib.byteCells l ++ Lib.strCells (tx x))]) (by repeat (first | exact Pick.nil | (refine Pick.cons (by repeat (first | exact Rem.head | apply Rem.tail)) ?_)))
 exact ⟨_, by rw [hxs], bld_end hS (by rw [List.length_append, hxs]) (by rw [bc_app]; rfl)⟩
set_option maxRecDepth 100000 in
theorem bLen_P (T b : Nat) (ad : Option Addr) (s : Value) (l : List UInt8) (w0 : World) (h : (bldA T b ad s l).ok w0) :
 PureC Tryz.prog 39 [.pointer (some ⟨b, 0, none⟩)] w0 (.int .i64 (l.length : Int)) := by
 obtain ⟨q, c, rfl⟩ := own_slice h.now.2.1.now
 refine c_enter [(0, .pointer (some ⟨b, 0, none⟩))] [roA b [.pointer ad, .slice q l.length c] T] noB Tryz.func39 rfl Tryz.ntmps39 ⟨rfl, trivial⟩ rfl (okC (ro_ok h.now.1) okN) dis1 (mineC rfl mineN) ?_
 intro a hS
 refine cS (cR ?_)
 refine L_e hS (e_assign rfl) rfl ?_; clear hS a; intro a hS
 refine nL (nT (cS (cR ?_)))
 refine Rn hS (.m rfl <| .c (e_nilCheck rfl) .n) ?_; clear hS a; intro a hS
 (first | refine L_e hS (e_fa0 rfl ty_fo104_1) rfl ?_ | refine L_e hS (e_faK rfl ty_fo104_1) rfl ?_); clear hS a; intro a hS
 refine Rn hS (.c (e_loadC rfl ty_sc27 (fun w hh => cell_of_blk (cs := [.pointer ad, .slice q l.length c]) (hh (roA b [.pointer ad, .slice q l.length c] T) (by repeat constructor)) rfl)) <| .c (e_len rfl rfl ty_sl27) <| .a rfl .n) ?_; clear hS a; intro a hS
 refine nL (nT (wp_ret ?_))
 refine c_ret1 hS Tryz.results39 (.tmp rfl) ?_
 exact ⟨rfl, hS.chg⟩
set_option maxRecDepth 100000 in
theorem bString_M (T b : Nat) (ad : Option Addr) (s : Value) (l : List UInt8) (hne : l ≠ []) (hl : l.length ≤ 900000000) (w0 : World) (h : (bldA T b ad s l).ok w0) :
 MutC Tryz.prog 40 [.pointer (some ⟨b, 0, none⟩)] w0 (bldA T b ad s l) (fun _ : Unit => .string (tx l)) (fun _ => none_) := by
 obtain ⟨q, c, rfl⟩ := own_slice h.now.2.1.now
 have hl0 : l.length ≠ 0 := fun e => hne (List.eq_nil_of_length_eq_zero e)
 obtain ⟨k, rfl⟩ := own_at h.now.2.1.now hl0
 have hc0 : c ≠ 0 := by
  rcases h.now.2.1.now.2 with ⟨h1, h2⟩ | ⟨g', cap, cur, h1, _, _, hnc, _⟩
  · exact absurd h2 hl0
  · injection h1 with _ _ h5; omega
 refine c_enter [(0, .pointer (some ⟨b, 0, none⟩))] [.blk b [.pointer ad, .slice (some ⟨k, 0, none⟩) l.length c] T, ownA 5 1 (.slice (some ⟨k, 0, none⟩) l.length c) l.length (Lib.byteCells l)] (fun i => i = b ∨ (Value.slice (some ⟨k, 0, none⟩) l.length c).ownBlock = some i) Tryz.func40 rfl Tryz.ntmps40 ⟨rfl, trivial⟩ rfl (okC h.now.1 (okC h.now.2.1 okN)) (disC (sepC h.now.2.2 sepN) dis1) (mineO (fun k hk => .inl hk) (mineO (fun k hk => .inr hk) mineN)) ?_
 intro a hS
 refine cS (cR ?_)
 refine L_e hS (e_assign rfl) rfl ?_; clear hS a; intro a hS
 refine nL (nT (cS ?_))
 refine c_drawS [10] (by kernel_rfl) hS (sub_cons (X := .blk b [.pointer ad, .slice (some ⟨k, 0, none⟩) l.length c] T) (by repeat constructor) sub_nil) ?_; clear hS; intro w hS
 simp only [List.length_cons, List.length_nil, Nat.zero_add, Nat.reduceAdd, List.replicate]
 refine Ry hS (.o 0 (tf 1 11) rfl wN (e_move rfl) rfl <| .o 1 (tf 2 10) rfl wN (e_nilCheck rfl) rfl .n) ?_; clear hS a; intro a hS
 (first | refine Zt0 2 (tf 3 9) hS rfl want_none (e_fa0 rfl ty_fo104_1) rfl (by kernel_rfl) rfl ?_ | refine Zt0 2 (tf 3 9) hS rfl want_none (e_faK rfl ty_fo104_1) rfl (by kernel_rfl) rfl ?_); clear hS a; intro a hS
 refine Rz hS (sub_cons (by repeat constructor) sub_nil) (.y 3 (tf 4 8) rfl wN (e_load rfl (by repeat constructor) ty_sc27 (by rfl)) rfl <| .y 4 (tf 5 7) rfl wN (e_sliceData rfl hc0) rfl <| .o 5 (tf 6 6) rfl wN (e_move rfl) rfl <| .o 6 (tf 7 5) rfl wN (e_nilCheck rfl) rfl .n) ?_; clear hS a; intro a hS
 (first | refine Zt0 7 (tf 8 4) hS rfl want_none (e_fa0 rfl ty_fo104_1) rfl (by kernel_rfl) rfl ?_ | refine Zt0 7 (tf 8 4) hS rfl want_none (e_faK rfl ty_fo104_1) rfl (by kernel_rfl) rfl ?_); clear hS a; intro a hS
 refine Rz hS (sub_cons (by repeat constructor) sub_nil) (.y 8 (tf 9 3) rfl wN (e_load rfl (by repeat constructor) ty_sc27 (by rfl)) rfl <| .o 9 (tf 10 2) rfl wN (e_len rfl rfl ty_sl27) rfl .n) ?_; clear hS a; intro a hS
 refine Zo 10 (tf 11 1) hS rfl wN rfl (s_unsafeStr (l := l) hS rfl rfl Tryz.underlying174 (by kernel_rfl) rfl hne (by omega) (by repeat constructor) ?_); clear hS a; intro a w hS
 refine Z_last (by simp) ?_
 refine Zt0 11 (tf 12 0) hS rfl want_none (e_assign rfl) rfl (by kernel_rfl) rfl ?_; clear hS a; intro a hS
 refine Z_done (by kernel_rfl) ?_
 refine nT (wp_ret ?_)
 refine c_ret1 hS Tryz.results40 (.tmp rfl) ?_
 exact ⟨(), rfl, hS.chg, none_ok _, fun b hb => hb.elim⟩
theorem getD_of' {l : List UInt8} {k : Nat} {x : UInt8} (h : l[k]? = some x) : l.getD k 0 = x := by rw [List.getD_eq_getElem?_getD, h]; rfl
theorem qB_len (x : UInt8) : (qB x).length ≤ 6 := by unfold qB; split; simp; split <;> simp
theorem qf_len (l : List UInt8) : (l.flatMap qB).length ≤ 6 * l.length := by
 induction l with
 | nil => exact Nat.le_refl _
 | cons x l ih =>
   rw [List.flatMap_cons, List.length_append, List.length_cons]
   have := qB_len x
   omega
theorem take_next {α : Type} {l : List α} {k : Nat} {x : α} (h : l[k]? = some x) : l.take (k + 1) = l.take k ++ [x] := by
 rw [List.take_add_one, h]; rfl
def hexB : ByteArray := ⟨#[48, 49, 50, 51, 52, 53, 54, 55, 56, 57, 97, 98, 99, 100, 101, 102]⟩
theorem hex_cut : ∀ n : Fin 16, hexB.extract n.val (n.val + 1) = tx [hxD n.val] := by decide +kernel
theorem tx_app (a b : List UInt8) : tx a ++ tx b = tx (a ++ b) := by
 apply ByteArray.ext
 show (tx a ++ tx b).data = _
 rw [ByteArray.data_append]
 simp [tx]
set_option maxRecDepth 100000 in
theorem jQuote_P (l : List UInt8) (hl : l.length ≤ 10000000) (w0 : World) : PureC Tryz.prog 13 [.string (tx l)] w0 (.string (tx (quoteL l))) := by
 have hsz := tx_size l
 refine c_enter [(0, .string (tx l))] [] noB Tryz.func13 rfl Tryz.ntmps13 ⟨rfl, trivial⟩ rfl (by simp) (by simp) (by simp) ?_
 intro a hS
 refine cS (cR ?_)
 refine L_e hS (e_assign rfl) rfl ?_; clear hS a; intro a hS
 refine nL (nT (cS (cR ?_)))
 refine L_op (s_alloc hS ty_z104 rfl ?_); clear hS a; intro a w b3 hS
 refine nL (nT (cS (cR ?_)))
 replace hS : St _ _ _ _ _ _ [bldA 104 b3 none (.slice none 0 0) []] := ((hS.own_nil 5 1).pick (Γ' := [.blk b3 [.pointer none, .slice none 0 0] 104, ownA 5 1 (.slice none 0 0) 0 []]) (by repeat (first | exact Pick.nil | (refine Pick.cons (by repeat (first | exact Rem.head | apply Rem.tail)) ?_)))).duo rfl rfl
 refine L_op (s_callM hS (.cons rfl (.cons rfl .nil)) cf41 rfl (bWByte_M 104 (.inl rfl) b3 none (.inl rfl) (.slice none 0 0) [] 34 (by simp) _ (hS.ok (bldA 104 b3 none (.slice none 0 0) []) (by repeat constructor))) (fun x => (by repeat constructor)) rfl ?_); clear hS a; intro x6 a w hS
 refine nL (nT (cS (cS (cR ?_))))
 refine L_e hS (e_assign rfl) rfl ?_; clear hS a; intro a hS
 refine nL (nT (wB ?_))
 skip
 refine c_loop (γ := Nat × Value) (fun G a w => St 52 noB w0 a w [(4, .int .i64 (G.1 : Int)), (0, .string (tx l)), (3, .pointer (some ⟨b3, 0, none⟩))] [bldA 104 b3 (some ⟨b3, 0, none⟩) G.2 (34 :: (l.take G.1).flatMap qB)] ∧ G.1 ≤ l.length) (fun G => l.length - G.1) (0, x6) ⟨hS.slots (by repeat (first | exact trivial | refine ⟨rfl, ?_⟩)), Nat.zero_le _⟩ ?_
 clear hS a; intro G a w hI
 obtain ⟨k, s⟩ := G
 obtain ⟨hS, hk⟩ := hI
 simp only at hS hk
 obtain ⟨acc, hacc⟩ : ∃ acc, 34 :: (l.take k).flatMap qB = acc := ⟨_, rfl⟩
 have hal : acc.length ≤ 6 * l.length + 1 := by
  have := qf_len (l.take k)
  rw [List.length_take, Nat.min_eq_left hk] at this
  rw [← hacc, List.length_cons]; omega
 rw [hacc] at hS
 refine cS (cS (cR ?_))
 refine Rn hS (.m rfl <| .m rfl <| .c (e_lenS rfl rfl ty_u9) <| .c (e_bin rfl rfl rfl) .n) ?_; clear hS a; intro a hS
 refine nL (nT ?_)
 (first | refine c_ifD hS rfl ?_ ?_ | refine c_if hS rfl ?_ ?_) <;> intro hc10
 ·
  have hkl : k < l.length := by rw [← hsz]; omega
  obtain ⟨x, hx⟩ : ∃ x, l[k]? = some x := ⟨_, List.getElem?_eq_getElem hkl⟩
  have hx0 : (tx l).data.toList.getD (k : Int).toNat 0 = x := getD_of' hx
  have hxl := x.toNat_lt
  have hnx : 34 :: (l.take (k + 1)).flatMap qB = acc ++ qB x := by rw [take_next hx, List.flatMap_append, ← List.cons_append, hacc]; simp
  refine wS (nT (cS (wB (cS (cR ?_)))))
  refine Rn hS (.m rfl <| .m rfl <| .c (e_ixS rfl rfl ty_u9 (by omega)) .n) ?_; clear hS a; intro a hS
  rw [hx0] at hS
  refine L_e hS (e_assign rfl) rfl ?_; clear hS a; intro a hS
  refine nL (nT (wB (cS (cR ?_))))
  refine Rn hS (.m rfl <| .c (e_bin rfl rfl rfl) <| .m rfl .n) ?_; clear hS a; intro a hS
  refine L_merge 3 24 (.bool (decide (x.toNat = 34 ∨ x.toNat = 92))) hS ?_ ?_
  · intro hcM24
    (first | refine g_splitD (t := 21) hS rfl ?_ ?_ | refine g_split (t := 21) hS rfl ?_ ?_) <;> (clear hS; intro hg21 hS)
    ·
     refine Rn hS (.f rfl rfl <| .f rfl rfl <| .c (e_pk rfl rfl) .n) ?_; clear hS a; intro a hS
     exact hcM24 _ _ (hS.ends 4 24 21 rfl (congrArg Value.bool (by exact (decide_eq_true (.inl (by omega))).symm)) rfl rfl (by first | exact congrArg Value.bool (decide_eq_true hg21).symm | exact congrArg Value.bool hg21.symm | simp [hg21]) rfl)
    refine Rn hS (.g rfl rfl (e_move rfl) <| .g rfl rfl (e_bin rfl rfl rfl) <| .c (e_pk rfl rfl) .n) ?_; clear hS a; intro a hS
    exact hcM24 _ _ (hS.ends 4 24 21 rfl (congrArg Value.bool (by exact decide_eq_decide.2 (by omega))) rfl rfl (by first | exact congrArg Value.bool (decide_eq_false hg21).symm | exact congrArg Value.bool hg21.symm | simp [hg21]) rfl)
  · clear hS a; intro a w hS
    simp only [List.drop_succ_cons, List.drop_zero]
    refine L_e hS (e_assign rfl) rfl ?_; clear hS a; intro a hS
    refine nL (nT ?_)
    (first | refine c_ifD hS rfl ?_ ?_ | refine c_if hS rfl ?_ ?_) <;> intro hc18
    ·
     have hq : qB x = [92, x] := if_pos hc18
     refine cS (cR ?_)
     refine L_op (s_callM hS (.cons rfl (.cons rfl .nil)) cf41 rfl (bWByte_M 104 (.inl rfl) b3 _ (.inr rfl) s acc 92 (by omega) _ (hS.ok (bldA 104 b3 (some ⟨b3, 0, none⟩) s acc) (by repeat constructor))) (fun x => (by repeat constructor)) rfl ?_); clear hS a; intro x25 a w hS
     refine nL (nT (cR ?_))
     refine L_e hS (e_move rfl) rfl ?_; clear hS a; intro a hS
     refine L_op (s_callM hS (.cons rfl (.cons rfl .nil)) cf41 rfl (bWByte_M 104 (.inl rfl) b3 _ (.inr rfl) x25 (acc ++ [92]) x (by rw [List.length_append, List.length_singleton]; omega) _ (hS.ok (bldA 104 b3 (some ⟨b3, 0, none⟩) x25 (acc ++ [92])) (by repeat constructor))) (fun x => (by repeat constructor)) rfl ?_); clear hS a; intro x27 a w hS
     obtain ⟨s2, rfl⟩ : ∃ s2, s2 = x27 := ⟨_, rfl⟩
     rw [show acc ++ [92] ++ [x] = 34 :: (l.take (k + 1)).flatMap qB by rw [hnx, hq]; simp] at hS
     refine nL (n_block (n_block (nT (cR ?_))))
     refine L_e hS (e_move rfl) rfl ?_; clear hS a; intro a hS
     (first | refine L_e hS (e_binN rfl rfl rfl (by omega)) rfl ?_ | refine L_e hS (e_bin rfl rfl rfl) rfl ?_); clear hS a; intro a hS
     refine L_e hS (e_assign rfl) rfl ?_; clear hS a; intro a hS
     refine nL ?_
     exact ⟨(k + 1, s2), by show l.length - (k + 1) < l.length - k; omega, hS.slots (by repeat (first | exact trivial | refine ⟨rfl, ?_⟩)), hkl⟩
    refine cS (cR ?_)
    refine Rn hS (.m rfl <| .c (e_bin rfl rfl rfl) <| .m rfl .n) ?_; clear hS a; intro a hS
    refine L_merge 3 34 (.bool (decide (x.toNat < 32 ∨ x.toNat = 127))) hS ?_ ?_
    · intro hcM34
      (first | refine g_splitD (t := 31) hS rfl ?_ ?_ | refine g_split (t := 31) hS rfl ?_ ?_) <;> (clear hS; intro hg31 hS)
      ·
       refine Rn hS (.f rfl rfl <| .f rfl rfl <| .c (e_pk rfl rfl) .n) ?_; clear hS a; intro a hS
       exact hcM34 _ _ (hS.ends 4 34 31 rfl (congrArg Value.bool (by exact (decide_eq_true (.inl (by omega))).symm)) rfl rfl (by first | exact congrArg Value.bool (decide_eq_true hg31).symm | exact congrArg Value.bool hg31.symm | simp [hg31]) rfl)
      refine Rn hS (.g rfl rfl (e_move rfl) <| .g rfl rfl (e_bin rfl rfl rfl) <| .c (e_pk rfl rfl) .n) ?_; clear hS a; intro a hS
      exact hcM34 _ _ (hS.ends 4 34 31 rfl (congrArg Value.bool (by exact decide_eq_decide.2 (by omega))) rfl rfl (by first | exact congrArg Value.bool (decide_eq_false hg31).symm | exact congrArg Value.bool hg31.symm | simp [hg31]) rfl)
    · clear hS a; intro a w hS
      simp only [List.drop_succ_cons, List.drop_zero]
      refine L_e hS (e_assign rfl) rfl ?_; clear hS a; intro a hS
      refine nL (nT ?_)
      (first | refine c_ifD hS rfl ?_ ?_ | refine c_if hS rfl ?_ ?_) <;> intro hc28
      ·
       have hq : qB x = [92, 117, 48, 48, hxD (x.toNat / 16), hxD (x.toNat % 16)] := by unfold qB; rw [if_neg hc18, if_pos hc28]
       have e36 : IntKind.u8.wrap (Int.tdiv (x.toNat : Int) 16) = ((x.toNat / 16 : Nat) : Int) := by
        rw [Int.tdiv_eq_ediv_of_nonneg (by omega)]
        unfold IntKind.wrap IntKind.bits IntKind.signed; simp; omega
       have e39 : IntKind.u8.wrap (((x.toNat / 16 : Nat) : Int) + 1) = ((x.toNat / 16 + 1 : Nat) : Int) := by
        unfold IntKind.wrap IntKind.bits IntKind.signed; simp; omega
       have e46 : IntKind.u8.wrap (((x.toNat % 16 : Nat) : Int) + 1) = ((x.toNat % 16 + 1 : Nat) : Int) := by
        unfold IntKind.wrap IntKind.bits IntKind.signed; simp; omega
       have c1 := hex_cut ⟨x.toNat / 16, by omega⟩
       have c2 := hex_cut ⟨x.toNat % 16, by omega⟩
       have hh : ∀ n : Nat, (n : Int).toNat = n := fun n => Int.toNat_natCast n
       refine c_draw1 [14] (by kernel_rfl) hS ?_; clear hS; intro w hS
       simp only [List.length_cons, List.length_nil, Nat.zero_add, Nat.reduceAdd, List.replicate]
       refine Zt0 0 (tf 1 14) hS rfl want_none (e_move rfl) rfl (by kernel_rfl) rfl ?_; clear hS a; intro a hS
       (first | refine Zt0 1 (tf 2 13) hS rfl want_none (e_quoN rfl rfl (by omega)) rfl (by kernel_rfl) rfl ?_ | refine Zt0 1 (tf 2 13) hS rfl want_none (e_quo rfl rfl (by omega)) rfl (by kernel_rfl) rfl ?_); clear hS a; intro a hS
       rw [e36] at hS
       refine Zt0 2 (tf 3 12) hS rfl want_none (e_move rfl) rfl (by kernel_rfl) rfl ?_; clear hS a; intro a hS
       (first | refine Zt0 3 (tf 4 11) hS rfl want_none (e_quoN rfl rfl (by omega)) rfl (by kernel_rfl) rfl ?_ | refine Zt0 3 (tf 4 11) hS rfl want_none (e_quo rfl rfl (by omega)) rfl (by kernel_rfl) rfl ?_); clear hS a; intro a hS
       rw [e36] at hS
       (first | refine Zt0 4 (tf 5 10) hS rfl want_none (e_binN rfl rfl rfl (by omega)) rfl (by kernel_rfl) rfl ?_ | refine Zt0 4 (tf 5 10) hS rfl want_none (e_bin rfl rfl rfl) rfl (by kernel_rfl) rfl ?_); clear hS a; intro a hS
       rw [e39] at hS
       refine Zt0 5 (tf 6 9) hS rfl want_none (e_slS rfl rfl rfl ty_u9 (by show (0 : Int) ≤ ((x.toNat / 16 : Nat) : Int) ∧ ((x.toNat / 16 : Nat) : Int) ≤ ((x.toNat / 16 + 1 : Nat) : Int) ∧ ((x.toNat / 16 + 1 : Nat) : Int) ≤ 16; omega)) rfl (by kernel_rfl) rfl ?_; clear hS a; intro a hS
       rw [hh, hh, show ByteArray.mk #[48, 49, 50, 51, 52, 53, 54, 55, 56, 57, 97, 98, 99, 100, 101, 102] = hexB from rfl, c1] at hS
       refine Zt0 6 (tf 7 8) hS rfl want_none (e_cat rfl rfl (by show (4 : Nat) + (tx [_]).size ≤ _; rw [tx_size]; simp)) rfl (by kernel_rfl) rfl ?_; clear hS a; intro a hS
       rw [show (ByteArray.mk #[92, 117, 48, 48]) = tx [92, 117, 48, 48] from rfl, tx_app] at hS
       refine Zt0 7 (tf 8 7) hS rfl want_none (e_move rfl) rfl (by kernel_rfl) rfl ?_; clear hS a; intro a hS
       (first | refine Zt0 8 (tf 9 6) hS rfl want_none (e_remN rfl rfl (by omega)) rfl (by kernel_rfl) rfl ?_ | refine Zt0 8 (tf 9 6) hS rfl want_none (e_rem rfl rfl (by omega)) rfl (by kernel_rfl) rfl ?_); clear hS a; intro a hS
       rw [show (x.toNat : Int) % 16 = ((x.toNat % 16 : Nat) : Int) by omega] at hS
       refine Zt0 9 (tf 10 5) hS rfl want_none (e_move rfl) rfl (by kernel_rfl) rfl ?_; clear hS a; intro a hS
       (first | refine Zt0 10 (tf 11 4) hS rfl want_none (e_remN rfl rfl (by omega)) rfl (by kernel_rfl) rfl ?_ | refine Zt0 10 (tf 11 4) hS rfl want_none (e_rem rfl rfl (by omega)) rfl (by kernel_rfl) rfl ?_); clear hS a; intro a hS
       rw [show (x.toNat : Int) % 16 = ((x.toNat % 16 : Nat) : Int) by omega] at hS
       (first | refine Zt0 11 (tf 12 3) hS rfl want_none (e_binN rfl rfl rfl (by omega)) rfl (by kernel_rfl) rfl ?_ | refine Zt0 11 (tf 12 3) hS rfl want_none (e_bin rfl rfl rfl) rfl (by kernel_rfl) rfl ?_); clear hS a; intro a hS
       first | rw [e46] at hS | (rw [show ((x.toNat : Int) % 16 + 1) = ((x.toNat % 16 : Nat) : Int) + 1 by omega, e46] at hS)
       refine Zt0 12 (tf 13 2) hS rfl want_none (e_slS rfl rfl rfl ty_u9 (by show (0 : Int) ≤ ((x.toNat % 16 : Nat) : Int) ∧ ((x.toNat % 16 : Nat) : Int) ≤ ((x.toNat % 16 + 1 : Nat) : Int) ∧ ((x.toNat % 16 + 1 : Nat) : Int) ≤ 16; omega)) rfl (by kernel_rfl) rfl ?_; clear hS a; intro a hS
       rw [hh, hh, show ByteArray.mk #[48, 49, 50, 51, 52, 53, 54, 55, 56, 57, 97, 98, 99, 100, 101, 102] = hexB from rfl, c2] at hS
       refine Zt0 13 (tf 14 1) hS rfl want_none (e_cat rfl rfl (by rw [tx_size, tx_size]; simp)) rfl (by kernel_rfl) rfl ?_; clear hS a; intro a hS
       rw [tx_app] at hS
       refine Zo 14 (tf 15 0) hS rfl wN rfl (s_callM hS (.cons rfl (.cons rfl .nil)) cf42 rfl (bWStr_M 104 (.inl rfl) b3 _ (.inr rfl) s acc _ (by simp; omega) _ (hS.ok (bldA 104 b3 (some ⟨b3, 0, none⟩) s acc) (by repeat constructor))) (fun x => (by repeat constructor)) rfl ?_); clear hS a; intro x49 a w hS
       obtain ⟨s2, rfl⟩ : ∃ s2, s2 = x49 := ⟨_, rfl⟩
       rw [show acc ++ ([92, 117, 48, 48] ++ [hxD (x.toNat / 16)] ++ [hxD (x.toNat % 16)]) = 34 :: (l.take (k + 1)).flatMap qB by rw [hnx, hq]; simp] at hS
       refine Z_last (by simp) ?_
       refine Z_done (by kernel_rfl) ?_
       refine n_block (n_block (nT (cR ?_)))
       refine L_e hS (e_move rfl) rfl ?_; clear hS a; intro a hS
       (first | refine L_e hS (e_binN rfl rfl rfl (by omega)) rfl ?_ | refine L_e hS (e_bin rfl rfl rfl) rfl ?_); clear hS a; intro a hS
       refine L_e hS (e_assign rfl) rfl ?_; clear hS a; intro a hS
       refine nL ?_
       exact ⟨(k + 1, s2), by show l.length - (k + 1) < l.length - k; omega, hS.slots (by repeat (first | exact trivial | refine ⟨rfl, ?_⟩)), hkl⟩
      have hq : qB x = [x] := by unfold qB; rw [if_neg hc18, if_neg hc28]
      refine cR ?_
      refine L_e hS (e_move rfl) rfl ?_; clear hS a; intro a hS
      refine L_op (s_callM hS (.cons rfl (.cons rfl .nil)) cf41 rfl (bWByte_M 104 (.inl rfl) b3 _ (.inr rfl) s acc x (by omega) _ (hS.ok (bldA 104 b3 (some ⟨b3, 0, none⟩) s acc) (by repeat constructor))) (fun x => (by repeat constructor)) rfl ?_); clear hS a; intro x17 a w hS
      obtain ⟨s2, rfl⟩ : ∃ s2, s2 = x17 := ⟨_, rfl⟩
      rw [show acc ++ [x] = 34 :: (l.take (k + 1)).flatMap qB by rw [hnx, hq]] at hS
      refine nL (n_block (n_block (nT (cR ?_))))
      refine L_e hS (e_move rfl) rfl ?_; clear hS a; intro a hS
      (first | refine L_e hS (e_binN rfl rfl rfl (by omega)) rfl ?_ | refine L_e hS (e_bin rfl rfl rfl) rfl ?_); clear hS a; intro a hS
      refine L_e hS (e_assign rfl) rfl ?_; clear hS a; intro a hS
      refine nL ?_
      exact ⟨(k + 1, s2), by show l.length - (k + 1) < l.length - k; omega, hS.slots (by repeat (first | exact trivial | refine ⟨rfl, ?_⟩)), hkl⟩
 have hk2 : k = l.length := by omega
 rw [hk2, List.take_length] at hacc
 refine wp_exit ?_
 refine x_then (x_then (x_hit ?_))
 refine nT (cS (cR ?_))
 refine L_op (s_callM hS (.cons rfl (.cons rfl .nil)) cf41 rfl (bWByte_M 104 (.inl rfl) b3 _ (.inr rfl) s acc 34 (by omega) _ (hS.ok (bldA 104 b3 (some ⟨b3, 0, none⟩) s acc) (by repeat constructor))) (fun x => (by repeat constructor)) rfl ?_); clear hS a; intro x50 a w hS
 refine nL (nT (cS (cR ?_)))
 refine L_op (s_callM hS (.cons rfl .nil) cf40 rfl (bString_M 104 b3 _ x50 (acc ++ [34]) (by simp) (by rw [List.length_append, List.length_singleton]; omega) _ (hS.ok (bldA 104 b3 (some ⟨b3, 0, none⟩) x50 (acc ++ [34])) (by repeat constructor))) (fun x => (by repeat constructor)) rfl ?_); clear hS a; intro x51 a w hS
 refine L_e hS (e_assign rfl) rfl ?_; clear hS a; intro a hS
 refine nL (nT (wp_ret ?_))
 refine c_ret1 hS Tryz.results13 (.tmp rfl) ?_
 exact ⟨by rw [← hacc]; rfl, hS.chg⟩
open Go.RowKit Go.Shelf Go.Lib Go.Sort
set_option maxHeartbeats 1000000 in
theorem cmpIdx (b nb off c n : Nat) (i k : Nat) (x y : ByteArray) (W : World) (hv : W.cell? ⟨b, 3, none⟩ = some (.slice (some ⟨nb, off, none⟩) n c)) (hi : i < n) (hk : k < n) (_hn : n < 4611686018427387904)
 (hx : W.cell? ⟨nb, off + i, none⟩ = some (.string x)) (hy : W.cell? ⟨nb, off + k, none⟩ = some (.string y)) :
 Calls Tryz.prog 149 #[.int .i64 (i : Int), .int .i64 (k : Int), .pointer (some ⟨b, 0, none⟩)] W fun e w' => e = .returned (.int .i64 (Lib.compareBytes x.data.toList y.data.toList)) ∧ ∃ q, w' = W.drewN q := by
 have b1 : (i : Int) < (n : Int) := by omega
 have b2 : (k : Int) < (n : Int) := by omega
 have b3 : (0 : Int) ≤ (i : Int) := by omega
 have b4 : (0 : Int) ≤ (k : Int) := by omega
 go_enter Tryz.func149, Tryz.ntmps149
 go_wp2
 go_quiet ((go_at_call 150; refine Calls.quiet_of_same (Tryz.strings_Compare _ _ _)))
 go_wp2
 go_ret
 exact ⟨rfl, nq, rfl⟩
open Go.RowKit Go.Shelf Go.Lib Go.Sort
theorem cmp_lt : ∀ a b : List UInt8, Lib.compareBytes a b < 0 ↔ a < b
 | [], [] => by simp [Lib.compareBytes]
 | [], _ :: _ => by simp [Lib.compareBytes]
 | _ :: _, [] => by simp [Lib.compareBytes]
 | a :: as1, b :: bs => by
   unfold Lib.compareBytes
   rw [List.cons_lt_cons_iff]
   by_cases h : a < b
   · simp [h]
   · by_cases h2 : b < a
     · have hne : a ≠ b := fun e => by subst e; exact UInt8.lt_irrefl _ h2
       simp [h, h2, hne]
     · have : a = b := UInt8.le_antisymm (UInt8.not_lt.1 h2) (UInt8.not_lt.1 h)
       subst this
       simp [cmp_lt as1 bs]
def nmC (names : List (List UInt8)) (i k : Nat) : Int := Lib.compareBytes (names.getD i []) (names.getD k [])
theorem nm_swo {n : Nat} (names : List (List UInt8)) : SWO (ltOf fun i k : Fin n => nmC names i.val k.val) := by
 have e : ∀ i k : Fin n, ltOf (fun i k : Fin n => nmC names i.val k.val) i k = decide (names.getD i.val [] < names.getD k.val []) := fun i k => by
  unfold ltOf nmC
  exact decide_eq_decide.2 (cmp_lt _ _)
 refine ⟨fun x => ?_, fun x y z h1 h2 => ?_, fun x y z h1 h2 => ?_⟩
 · rw [e]; exact decide_eq_false (List.lt_irrefl _)
 · rw [e] at *; exact decide_eq_true (List.lt_trans (of_decide_eq_true h1) (of_decide_eq_true h2))
 · rw [e] at *
   exact decide_eq_false (fun h => List.le_trans (List.not_lt.1 (of_decide_eq_false h2)) (List.not_lt.1 (of_decide_eq_false h1)) h)
section
variable {α : Type} [Inhabited α]
theorem holds_row {w : World} {q : Nat} {cur : Array Value} {e : TypeId} (enc : α → Value) {ss : List α} (hb : w.heap[q]? = some (.cells cur e (0, 0))) (ht : cur.toList.take ss.length = ss.map enc) : Holds enc w q 0 ss.toArray := by
 intro j hj
 have hj' : j < ss.length := by simpa using hj
 refine ⟨?_, by simp [World.frozen?, hb]⟩
 have h1 : (cur.toList.take ss.length)[j]? = (ss.map enc)[j]? := by rw [ht]
 rw [List.getElem?_take_of_lt hj'] at h1
 have h2 : w.cell? ⟨q, 0 + j, none⟩ = cur[j]? := by simp [World.cell?, hb]
 rw [h2, ← Array.getElem?_toList, h1]
 simp [hj']
theorem sort_old {w : World} {q m k : Nat} (enc : α → Value) {dk : Array α} {os : Array Obj} (hk : k < w.heap.size) (hne : k ≠ q) : (sortWorld enc w q 0 m dk os).heap[k]? = w.heap[k]? := by
 unfold sortWorld
 rw [heap_grow_old _ _ (by simpa using hk)]
 have : q ≠ k := fun e => hne e.symm
 simp [putRow, mapBlock, Sort.ahead, Array.getElem?_modify, this]
theorem sort_chg {w : World} {q m : Nat} (enc : α → Value) {dk : Array α} {os : Array Obj} : Chg (fun k => k = q) w (sortWorld enc w q 0 m dk os) :=
 ⟨rfl, rfl, rfl, by unfold sortWorld; simp, fun k hk hn => sort_old enc hk hn⟩
theorem put_take (cur : Array Value) (enc : α → Value) (ts : List α) (h : ts.length ≤ cur.size) : (putCells enc 0 ts.toArray cur).toList.take ts.length = ts.map enc := by
 apply List.ext_getElem?
 intro j
 rcases Nat.lt_or_ge j ts.length with hj | hj
 · rw [List.getElem?_take_of_lt hj, Array.getElem?_toList]
   unfold putCells
   rw [Array.getElem?_mapIdx, Array.getElem?_eq_getElem (by omega)]
   simp [hj]
 · rw [List.getElem?_eq_none (by rw [List.length_take]; omega), List.getElem?_eq_none (by simpa using hj)]
theorem sort_row {w : World} {q cap m : Nat} {e : TypeId} {os : Array Obj} {cur : Array Value} (enc : α → Value) {k : Nat} {ts : List α} (hl : ts.length = k) (hb : w.heap[q]? = some (.cells cur e (0, 0)))
 (h1 : k ≤ cap) (h2 : cap ≤ maxLen) (h3 : cur.size = cap * 1) : (sortWorld enc w q 0 m ts.toArray os).ownsRow 0 e 1 (.slice (some ⟨q, 0, none⟩) k cap) k (ts.map enc) := by
 have hq : q < w.heap.size := (Array.getElem?_eq_some_iff.1 hb).1
 have hh : (sortWorld enc w q 0 m ts.toArray os).heap[q]? = some (.cells (putCells enc 0 ts.toArray cur) e (0, 0)) := by
  unfold sortWorld
  rw [heap_grow_old _ _ (by simpa using hq)]
  simp [putRow, mapBlock, Sort.ahead, Array.getElem?_modify, hb, onCells]
 exact ⟨by simp [hl], .inr ⟨q, cap, _, rfl, Nat.zero_le _, hh, h1, h2, by simp [putCells, h3], by rw [Nat.mul_one, ← hl]; exact put_take cur enc ts (by omega)⟩⟩
end
theorem fin_range (n : Nat) : (List.finRange n).map Fin.val = List.range n := by
 apply List.ext_getElem
 · simp
 · intro i h1 h2; simp
def idxV (l : List Nat) : List Value := l.map fun i : Nat => .int .i64 (i : Int)
def IxOk (names : List (List UInt8)) (p : List Nat) : Prop := p.Perm (List.range names.length) ∧ (p.map fun i => names.getD i []).Pairwise (· ≤ ·)
theorem sortIdx_M (b q c nb off nc m : Nat) (names : List (List UInt8)) (hn : names.length = m + 1) (hbig : m < 1000000) (w0 : World) (hv : w0.cell? ⟨b, 3, none⟩ = some (.slice (some ⟨nb, off, none⟩) names.length nc))
 (hnm : ∀ i x, names[i]? = some x → w0.cell? ⟨nb, off + i, none⟩ = some (.string (tx x))) (hb : b < w0.heap.size) (hnb : nb < w0.heap.size) (h1 : b ≠ q) (h2 : nb ≠ q)
 (h : (ownA 3 1 (.slice (some ⟨q, 0, none⟩) names.length c) names.length (idxV (List.range names.length))).ok w0) :
 MutC Tryz.prog 148 [.slice (some ⟨q, 0, none⟩) names.length c, .func (.func 149) #[] [.pointer (some ⟨b, 0, none⟩)].toArray] w0 (ownA 3 1 (.slice (some ⟨q, 0, none⟩) names.length c) names.length (idxV (List.range names.length)))
  (fun _ : { p : List Nat // IxOk names p } => .tuple [].toArray) (fun p => ownA 3 1 (.slice (some ⟨q, 0, none⟩) names.length c) names.length (idxV p.1)) := by
 have hown := h.now
 rcases hown.2 with ⟨_, h0⟩ | ⟨g', cap, cur, e1, _, hblk, hnc, hcm, hcs, htake⟩
 · omega
 · injection e1 with e2 e3 e4
   injection e2 with e2
   injection e2 with e2
   subst e2 e4
   let enc : Fin (m + 1) → Value := fun i => .int .i64 (i.val : Int)
   have hr : (List.finRange (m + 1)).map enc = idxV (List.range names.length) := by
    rw [hn]; unfold idxV
    rw [← fin_range, List.map_map]; rfl
   have hlen : (List.finRange (m + 1)).length = names.length := by rw [List.length_finRange, hn]
   have hH : Holds enc w0 q 0 (List.finRange (m + 1)).toArray := holds_row enc hblk (by rw [hlen, hr]; simpa using htake)
   have hsz : (List.finRange (m + 1)).toArray.size = names.length := by simpa using hlen
   have hget : ∀ i : Fin (m + 1), names[i.val]? = some (names.getD i.val []) := fun i => by
    rw [List.getD_eq_getElem?_getD, List.getElem?_eq_getElem (by omega)]; rfl
   have hcmp : CmpLays1 Tryz.prog 149 #[.pointer (some ⟨b, 0, none⟩)] enc (fun i k : Fin (m + 1) => nmC names i.val k.val) q 0 (List.finRange (m + 1)).toArray.size w0 := by
    intro mm os dk _ x y
    have hW : ∀ k i, k < w0.heap.size → k ≠ q → (sortWorld enc w0 q 0 mm dk os).cell? ⟨k, i, none⟩ = w0.cell? ⟨k, i, none⟩ := fun k i hk hne => World.cell?_of_block (sort_old enc hk hne)
    refine (cmpIdx b nb off nc names.length x.val y.val _ _ _ ((hW b 3 hb h1).trans hv) (by omega) (by omega) (by omega) ((hW nb _ hnb h2).trans (hnm x.val _ (hget x))) ((hW nb _ hnb h2).trans (hnm y.val _ (hget y)))).mono ?_
    rintro e w' ⟨rfl, k, rfl⟩
    exact ⟨rfl, k, #[], by rw [grow_empty]⟩
   have hc := Tryz.slices_SortFunc enc (fun _ => rfl) (fun i k : Fin (m + 1) => nmC names i.val k.val) (nm_swo names) 149 #[.pointer (some ⟨b, 0, none⟩)] q 0 c (List.finRange (m + 1)).toArray w0 cf149 hcmp hH (Array.getElem?_eq_some_iff.1 hblk).1 (by rw [hsz]; omega)
   rw [hsz] at hc
   refine hc.mono ?_
   rintro e w' ⟨rfl, d', k, os, hp, hs, rfl⟩
   have hds : d'.size = names.length := hp.1.trans hsz
   have hperm : d'.toList.Perm (List.finRange (m + 1)) := by
    have h3 := hp.2.2
    rw [Array.extract_eq_self_of_le (by omega), Array.extract_eq_self_of_le (by omega)] at h3
    exact h3
   have hok : IxOk names (d'.toList.map Fin.val) := by
    refine ⟨?_, ?_⟩
    · have h4 := hperm.map Fin.val
      rw [fin_range] at h4
      rw [hn]; exact h4
    · rw [List.map_map, List.pairwise_map, List.pairwise_iff_getElem]
      intro i j hi hj hij
      have hi' : i < d'.size := by simpa using hi
      have hj' : j < d'.size := by simpa using hj
      have h5 := hs i j (Nat.zero_le _) hij (by omega)
      rw [getElem!_pos d' i hi', getElem!_pos d' j hj'] at h5
      unfold ltOf nmC at h5
      have h6 := fun h => (of_decide_eq_false h5) ((cmp_lt _ _).2 h)
      simpa using List.not_lt.1 h6
   have hrow := sort_row (w := w0) (m := k) (os := os) enc (ts := d'.toList) (k := names.length) (by simpa using hds) hblk hnc hcm hcs
   rw [show d'.toList.toArray = d' from by simp] at hrow
   refine ⟨⟨_, hok⟩, rfl, ?_, ok_own ?_, fun k hk => .inl hk⟩
   · exact ⟨rfl, rfl, rfl, (sort_chg enc).size, fun k hk hn => (sort_chg enc).block k hk (fun e => hn (by rw [e]; rfl))⟩
   · have e5 : idxV (d'.toList.map Fin.val) = d'.toList.map enc := by unfold idxV; rw [List.map_map]; rfl
     rw [e5]; exact hrow
end Go.Proofs.YtlccmgeclhdegaaGreatDoor
namespace Go.Proofs.YtlccmgeclhdegaaGreatDoor
open Go.RowKit
set_option maxRecDepth 100000 in
theorem ins_none (fv : Value) (w0 : World) : PureC Tryz.prog 224 [.slice none 0 0, .int .i64 0, .int .i64 0, fv] w0 (.tuple [].toArray) := by
 refine c_enter [(0, .slice none 0 0), (1, .int .i64 0), (2, .int .i64 0), (3, fv)] [] noB Tryz.func224 rfl Tryz.ntmps224 ⟨rfl, rfl, rfl, rfl, trivial⟩ rfl (by simp) (by simp) (by simp) ?_
 intro a hS
 refine cS (cR ?_)
 refine L_e hS (e_move rfl) rfl ?_; clear hS a; intro a hS
 (first | refine L_e hS (e_binN rfl rfl rfl (by omega)) rfl ?_ | refine L_e hS (e_bin rfl rfl rfl) rfl ?_); clear hS a; intro a hS
 refine L_e hS (e_assign rfl) rfl ?_; clear hS a; intro a hS
 refine nL (nT (wB ?_))
 skip
 refine c_loop (γ := Nat) (fun k a w => St 53 noB w0 a w [(8, .int .i64 1), (2, .int .i64 0)] [] ∧ k = 0) (fun k => k) 0 ⟨hS.slots (by repeat (first | exact trivial | refine ⟨rfl, ?_⟩)), rfl⟩ ?_
 clear hS a; intro k a w hI
 obtain ⟨hS, hk⟩ := hI
 refine cS (cS (cR ?_))
 refine Rn hS (.m rfl <| .m rfl <| .c (e_bin rfl rfl rfl) .n) ?_; clear hS a; intro a hS
 refine nL (nT ?_)
 replace hS := hS.is (t := 14) (c := false) rfl (rfl)
 refine c_if_f hS rfl ?_
 refine wp_exit ?_
 refine x_then (x_then (x_hit ?_))
 refine r_norm ?_
 refine c_retN hS Tryz.results224 .nil rfl ?_
 exact ⟨rfl, hS.chg⟩
set_option maxRecDepth 100000 in
theorem pdq_none (lim : Int) (fv : Value) (w0 : World) : PureC Tryz.prog 189 [.slice none 0 0, .int .i64 0, .int .i64 0, .int .i64 lim, fv] w0 (.tuple [].toArray) := by
 refine c_enter [(0, .slice none 0 0), (1, .int .i64 0), (2, .int .i64 0), (3, .int .i64 lim), (4, fv)] [] noB Tryz.func189 rfl Tryz.ntmps189 ⟨rfl, rfl, rfl, rfl, rfl, trivial⟩ rfl (by simp) (by simp) (by simp) ?_
 intro a hS
 refine cS (cR ?_)
 refine L_e hS (e_assign rfl) rfl ?_; clear hS a; intro a hS
 refine nL (nT (cS (cR ?_)))
 refine L_e hS (e_assign rfl) rfl ?_; clear hS a; intro a hS
 refine nL (nT (wB ?_))
 skip
 refine c_loop (γ := Nat) (fun k a w => St 148 noB w0 a w [(0, .slice none 0 0), (1, .int .i64 0), (2, .int .i64 0), (4, fv)] [] ∧ k = 0) (fun k => k) 0 ⟨hS.slots (by repeat (first | exact trivial | refine ⟨rfl, ?_⟩)), rfl⟩ ?_
 clear hS a; intro k a w hI
 obtain ⟨hS, hk⟩ := hI
 refine wB (cS (cR ?_))
 refine Rn hS (.m rfl <| .m rfl .n) ?_; clear hS a; intro a hS
 (first | refine L_e hS (e_binN rfl rfl rfl (by omega)) rfl ?_ | refine L_e hS (e_bin rfl rfl rfl) rfl ?_); clear hS a; intro a hS
 refine L_e hS (e_assign rfl) rfl ?_; clear hS a; intro a hS
 refine nL (nT (cS (cS (cR ?_))))
 refine Rn hS (.m rfl <| .c (e_bin rfl rfl rfl) .n) ?_; clear hS a; intro a hS
 refine nL (nT ?_)
 replace hS := hS.is (t := 25) (c := true) rfl (rfl)
 refine c_if_t hS rfl ?_
 refine cS (cR ?_)
 refine Rn hS (.m rfl <| .m rfl <| .m rfl <| .m rfl .n) ?_; clear hS a; intro a hS
 refine L_op (s_callP hS (.cons rfl (.cons rfl (.cons rfl (.cons rfl .nil)))) cf224 rfl (ins_none fv _) ?_); clear hS a; intro a w hS
 refine nL (nT (wp_ret ?_))
 refine r_then (r_block (r_then (r_block ?_)))
 refine c_retN hS Tryz.results189 .nil rfl ?_
 exact ⟨rfl, hS.chg⟩
theorem len0_P (w : World) : PureC Tryz.prog 188 [.int .u64 0] w (.int .i64 0) :=
 (Tryz.bits_Len 0 w (by omega) (by omega)).mono fun e w' ⟨h1, h2⟩ => ⟨h1, by rw [h2]; exact Chg.refl _ _⟩
set_option maxRecDepth 100000 in
theorem sortIdx0_P (fv : Value) (w0 : World) : PureC Tryz.prog 148 [.slice none 0 0, fv] w0 (.tuple [].toArray) := by
 refine c_enter [(0, .slice none 0 0), (1, fv)] [] noB Tryz.func148 rfl Tryz.ntmps148 ⟨rfl, rfl, trivial⟩ rfl (by simp) (by simp) (by simp) ?_
 intro a hS
 refine cS (cR ?_)
 refine Rn hS (.m rfl <| .c (e_len rfl rfl ty_sl121) <| .a rfl .n) ?_; clear hS a; intro a hS
 refine nL (nT (cR ?_))
 refine Rn hS (.m rfl <| .m rfl <| .m rfl .n) ?_; clear hS a; intro a hS
 (first | refine L_e hS (e_convN rfl ty_u3 ty_u204 (by omega)) rfl ?_ | refine L_e hS (e_conv rfl ty_u3 ty_u204) rfl ?_); clear hS a; intro a hS
 refine L_op (s_callP hS (.cons rfl .nil) cf188 rfl (len0_P _) ?_); clear hS a; intro a w hS
 refine L_e hS (e_move rfl) rfl ?_; clear hS a; intro a hS
 refine L_op (s_callP hS (.cons rfl (.cons rfl (.cons rfl (.cons rfl (.cons rfl .nil))))) cf189 rfl (pdq_none 0 fv _) ?_); clear hS a; intro a w hS
 refine nL (r_norm ?_)
 refine c_retN hS Tryz.results148 .nil rfl ?_
 exact ⟨rfl, hS.chg⟩
theorem rw_names {nv : Value} {ns : List (List UInt8)} {W : World} (h : RwAt 1 nv (ns.map encS) W) (hne : ns ≠ []) : ∃ nb no nc, nv = .slice (some ⟨nb, no, none⟩) ns.length nc ∧ nb < W.heap.size ∧ ∀ (i : Nat) (x : List UInt8), ns[i]? = some x → W.cell? ⟨nb, no + i, none⟩ = some (.string (tx x)) := by
 rcases h with ⟨h, _⟩ | ⟨b, off, c, _, rfl, h2, h3⟩
 · exact absurd (List.map_eq_nil_iff.1 h) hne
 · refine ⟨b, off, c, by rw [List.length_map], h3, fun i x hx => ?_⟩
   have := h2 i (encS x) (by rw [List.getElem?_map, hx]; rfl) 0 _ rfl
   simpa using this
theorem rw_rows {lv : Value} {rows : List (List Value)} {W : World} (h : RwAt 4 lv rows W) (hne : rows ≠ []) : ∃ lb lo lc, lv = .slice (some ⟨lb, lo, none⟩) rows.length lc ∧ lb < W.heap.size ∧ ∀ (i : Nat) (r : List Value), rows[i]? = some r → ∀ (j : Nat) (v : Value), r[j]? = some v → W.cell? ⟨lb, lo + i * 4 + j, none⟩ = some v := by
 rcases h with ⟨h, _⟩ | ⟨b, off, c, _, rfl, h2, h3⟩
 · exact absurd h hne
 · exact ⟨b, off, c, rfl, h3, h2⟩
theorem JAt.len4 {n : Nat} {v : JV} {cs : List Value} {W : World} (h : JAt n v cs W) : cs.length = 4 := by
 obtain ⟨lv, nv, _, _, rfl⟩ := h.four; rfl
def LayC (W0 : World) (n : Nat) : Prop := ∀ (v : JV) (cs : List Value) (d b : Nat) (ad : Option Addr) (s : Value) (acc : List UInt8) (w0 : World), goodV n v → okF n d v → JAt n v cs W0 → (ad = none ∨ ad = some ⟨b, 0, none⟩) → acc.length + lenJ n v ≤ 9000000 →
 (bldA 106 b ad s acc).ok w0 → oldφ W0 w0 → (∀ k, (bldA 106 b ad s acc).F k → W0.heap.size ≤ k) →
 MutC Tryz.prog 38 [.pointer (some ⟨b, 0, none⟩), .agg cs.toArray] w0 (bldA 106 b ad s acc) (fun _ : { x : Value × JV × List UInt8 // PJ n v x.2.1 x.2.2 } => .tuple [].toArray) (fun x => bldA 106 b (some ⟨b, 0, none⟩) x.1.1 (acc ++ x.1.2.2))
def zpJ (ns : List (List UInt8)) (l : List JV) (i : Nat) : List UInt8 × JV := (ns.getD i [], l.getD i jz)
theorem zp_all {ns : List (List UInt8)} {l : List JV} (h : ns.length = l.length) : (List.range ns.length).map (zpJ ns l) = ns.zip l := by
 apply List.ext_getElem
 · simp [h]
 · intro i h1 h2
   have h3 : i < ns.length := by simpa using h1
   have h4 : i < l.length := by omega
   simp [zpJ, List.getD_eq_getElem?_getD, List.getElem?_eq_getElem h3, List.getElem?_eq_getElem h4]
def wt (n : Nat) (p : List UInt8 × JV) : Nat := (quoteL p.1).length + 2 + lenJ n p.2
theorem wt_take (n : Nat) {L : List (List UInt8 × JV)} {i : Nat} {p : List UInt8 × JV} (h : L[i]? = some p) : ((L.take i).map (wt n)).sum + wt n p ≤ (L.map (wt n)).sum := by
 have e : L = L.take i ++ (p :: L.drop (i + 1)) := by
  conv => lhs; rw [← List.take_append_drop i L]
  congr 1
  rw [List.drop_eq_getElem_cons (List.getElem?_eq_some_iff.1 h).1, (List.getElem?_eq_some_iff.1 h).2]
 conv => rhs; rw [e]
 rw [List.map_append, List.map_cons, List.sum_append, List.sum_cons]
 omega
theorem len_obj {n k : Nat} {t : List UInt8} {ns : List (List UInt8)} {l : List JV} (hk : k = 6) (hne : ns.zip l ≠ []) : lenJ (n + 1) (.mk k t ns l) = ((ns.zip l).map (wt n)).sum + 1 := by
 unfold lenJ
 rw [if_neg (by omega), if_neg (by omega), if_pos hk, if_neg (by simpa using hne)]
 rfl
theorem join_so {n : Nat} {ms : List Mem} {L : List (List UInt8 × JV)} {i : Nat} (hm : (ms.map fun m => (m.n, m.v)) = L.take i) (hp : ∀ m ∈ ms, PJ n m.v m.r m.t) : (joinM ms).length ≤ ((L.take i).map (wt n)).sum := by
 by_cases he : ms = []
 · subst he; exact Nat.zero_le _
 · have h1 := join_sum ms he
   have h2 : (ms.map fun m => (quoteL m.n).length + 2 + m.t.length) = (L.take i).map (wt n) := by
    rw [← hm, List.map_map]
    exact List.map_congr_left fun m hm' => by show _ = (quoteL m.n).length + 2 + lenJ n m.v; rw [pj_len n m.v m.r m.t (hp m hm')]
   rw [h2] at h1
   omega
set_option maxRecDepth 100000 in
theorem jMembers0_M (kd : Nat) (t : List UInt8) (lv : Value) (nc : Nat) (na : Option Addr) (_l4 : isOne lv = true) (b : Nat) (ad : Option Addr) (s : Value) (acc : List UInt8) (w0 : World) (had : ad = none ∨ ad = some ⟨b, 0, none⟩) (hlen : acc.length ≤ 9000000)
 (h : (bldA 106 b ad s acc).ok w0) :
 MutC Tryz.prog 108 [.pointer (some ⟨b, 0, none⟩), .agg [.int .i64 (kd : Int), .string (tx t), lv, .slice na 0 nc].toArray] w0 (bldA 106 b ad s acc) (fun _ : Value => .tuple [].toArray) (fun s' => bldA 106 b (some ⟨b, 0, none⟩) s' (acc ++ [123, 125])) := by
 refine c_enter [(0, .pointer (some ⟨b, 0, none⟩)), (1, .agg [.int .i64 (kd : Int), .string (tx t), lv, .slice na 0 nc].toArray)] [bldA 106 b ad s acc] (bldA 106 b ad s acc).F Tryz.func108 rfl Tryz.ntmps108 ⟨rfl, rfl, trivial⟩ rfl (okC h okN) dis1 (mineO (fun _ hb => hb) mineN) ?_
 intro a hS
 refine cS (cR ?_)
 refine L_op (s_boxA hS rfl rfl ?_); clear hS a; intro a w b3 hS
 refine nL (nT (cS (cR ?_)))
 refine L_e hS (e_assign rfl) rfl ?_; clear hS a; intro a hS
 refine nL (nT (cS (cS (cR ?_))))
 (first | refine L_e hS (e_fa0 rfl ty_fo37_3) rfl ?_ | refine L_e hS (e_faK rfl ty_fo37_3) rfl ?_); clear hS a; intro a hS
 refine Rn hS (.c (e_load rfl (by repeat constructor) ty_sc35 (by rfl)) <| .c (e_len rfl rfl ty_sl35) <| .m rfl .n) ?_; clear hS a; intro a hS
 refine nL (nT (wB ?_))
 skip
 refine c_loop (γ := Nat) (fun k a w => St 62 (bldA 106 b ad s acc).F w0 a w [(11, .int .i64 0), (10, .int .i64 ((0 : Nat) : Int)), (4, .slice none 0 0), (3, .pointer (some ⟨b3, 0, none⟩)), (0, .pointer (some ⟨b, 0, none⟩))] [.blk b3 [.int .i64 (kd : Int), .string (tx t), lv, .slice na 0 nc] 37, bldA 106 b ad s acc] ∧ k = 0) (fun k => k) 0 ⟨hS.slots (by repeat (first | exact trivial | refine ⟨rfl, ?_⟩)), rfl⟩ ?_
 clear hS a; intro k a w hI
 obtain ⟨hS, hk⟩ := hI
 refine cS (cR ?_)
 refine L_e hS (e_bin rfl rfl rfl) rfl ?_; clear hS a; intro a hS
 refine nL (nT (cS ?_))
 replace hS := hS.is (t := 12) (c := false) rfl (rfl)
 refine c_if_f hS rfl ?_
 refine wp_exit ?_
 refine x_then (x_then (x_hit ?_))
 refine nT (cS (cR ?_))
 refine Rn hS (.m rfl <| .c (e_makeFunc .nil (.cons rfl .nil)) .n) ?_; clear hS a; intro a hS
 refine L_op (s_callP hS (.cons rfl (.cons rfl .nil)) cf148 rfl (sortIdx0_P _ _) ?_); clear hS a; intro a w hS
 refine nL (nT (cS (cR ?_)))
 refine Rn hS (.m rfl <| .c (e_nilCheck rfl) .n) ?_; clear hS a; intro a hS
 (first | refine L_e hS (e_fa0 rfl ty_fo106_0) rfl ?_ | refine L_e hS (e_faK rfl ty_fo106_0) rfl ?_); clear hS a; intro a hS
 refine L_op (s_callM hS (.cons rfl (.cons rfl .nil)) cf41 rfl (bWByte_M 106 (.inr rfl) b ad had s acc 123 (by omega) _ (hS.ok (bldA 106 b ad s acc) (by repeat constructor))) (fun x => (by repeat constructor)) rfl ?_); clear hS a; intro x25 a w hS
 refine nL (nT (cS (cS (cR ?_))))
 refine Rn hS (.m rfl <| .c (e_len rfl rfl ty_sl121) <| .m rfl .n) ?_; clear hS a; intro a hS
 refine nL (nT (wB ?_))
 skip
 refine c_loop (γ := Nat) (fun k a w => St 62 (bldA 106 b ad s acc).F w0 a w [(28, .int .i64 0), (27, .int .i64 ((0 : Nat) : Int)), (0, .pointer (some ⟨b, 0, none⟩))] [bldA 106 b (some ⟨b, 0, none⟩) x25 (acc ++ [123])] ∧ k = 0) (fun k => k) 0 ⟨(hS.slots (by repeat (first | exact trivial | refine ⟨rfl, ?_⟩))).pick (by repeat (first | exact Pick.nil | (refine Pick.cons (by repeat (first | exact Rem.head | apply Rem.tail)) ?_))), rfl⟩ ?_
 clear hS a; intro k a w hI
 obtain ⟨hS, hk⟩ := hI
 refine cS (cR ?_)
 refine L_e hS (e_bin rfl rfl rfl) rfl ?_; clear hS a; intro a hS
 refine nL (nT (cS ?_))
 replace hS := hS.is (t := 29) (c := false) rfl (rfl)
 refine c_if_f hS rfl ?_
 refine wp_exit ?_
 refine x_then (x_then (x_hit ?_))
 refine nT (cR ?_)
 refine Rn hS (.m rfl <| .c (e_nilCheck rfl) .n) ?_; clear hS a; intro a hS
 (first | refine L_e hS (e_fa0 rfl ty_fo106_0) rfl ?_ | refine L_e hS (e_faK rfl ty_fo106_0) rfl ?_); clear hS a; intro a hS
 refine L_op (s_callM hS (.cons rfl (.cons rfl .nil)) cf41 rfl (bWByte_M 106 (.inr rfl) b _ (.inr rfl) x25 (acc ++ [123]) 125 (by rw [List.length_append, List.length_singleton]; omega) _ (hS.ok (bldA 106 b (some ⟨b, 0, none⟩) x25 (acc ++ [123])) (by repeat constructor))) (fun x => (by repeat constructor)) rfl ?_); clear hS a; intro x61 a w hS
 refine nL (r_norm ?_)
 refine c_retN hS Tryz.results108 .nil rfl ?_
 rw [List.append_assoc] at hS
 exact ⟨x61, rfl, hS.chg, hS.ok (bldA 106 b (some ⟨b, 0, none⟩) x61 (acc ++ [123, 125])) (by repeat constructor), fun k hk => (hS.mine (bldA 106 b (some ⟨b, 0, none⟩) x61 (acc ++ [123, 125])) (by repeat constructor) rfl k hk).symm⟩
theorem idx_succ (k : Nat) : idxV (List.range (k + 1)) = idxV (List.range k) ++ [.int .i64 (k : Int)] := by unfold idxV; rw [List.range_succ, List.map_append]; rfl
theorem idx_get {p : List Nat} {k i : Nat} (h : p[k]? = some i) : (idxV p)[k]? = some (.int .i64 (i : Int)) := by unfold idxV; rw [List.getElem?_map, h]; rfl
set_option maxHeartbeats 1000000 in
set_option maxRecDepth 100000 in
theorem jMembers_M (W0 : World) (n : Nat) (IH : LayC W0 n) (t : List UInt8) (ns : List (List UInt8)) (l : List JV) (cs : List Value) (d b : Nat) (ad : Option Addr) (s : Value) (acc : List UInt8) (w0 : World) (hne : ns ≠ []) (hg : goodV (n + 1) (.mk 6 t ns l)) (ho : okF (n + 1) d (.mk 6 t ns l)) (hj : JAt (n + 1) (.mk 6 t ns l) cs W0)
  (had : ad = none ∨ ad = some ⟨b, 0, none⟩) (hlen : acc.length + lenJ (n + 1) (.mk 6 t ns l) ≤ 9000000) (h : (bldA 106 b ad s acc).ok w0) (hold : oldφ W0 w0) (hF : ∀ k, (bldA 106 b ad s acc).F k → W0.heap.size ≤ k) :
  MutC Tryz.prog 108 [.pointer (some ⟨b, 0, none⟩), .agg cs.toArray] w0 (bldA 106 b ad s acc) (fun _ : { x : Value × JV × List UInt8 // PJ (n + 1) (.mk 6 t ns l) x.2.1 x.2.2 } => .tuple [].toArray) (fun x => bldA 106 b (some ⟨b, 0, none⟩) x.1.1 (acc ++ x.1.2.2)) := by
  obtain ⟨lv, nv, rows, rfl, hn1, hn2, hn3, hn4⟩ := hj
  have ho0 := ho
  obtain ⟨_, _, ho3⟩ := ho
  obtain ⟨hvn, hnl, hd32, hl1000, hnd, hsub⟩ := ho3 rfl
  have hgs := hg.2.2.2 rfl
  have hn0 : ns.length ≠ 0 := fun e => hne (List.eq_nil_of_length_eq_zero e)
  obtain ⟨nb, no, nc, rfl, hnb, hcn⟩ := rw_names hn1 hne
  obtain ⟨lb, lo, lc, rfl, hlb, hcl⟩ := rw_rows hn2 (fun e => by rw [← hnl, e] at hn3; exact hn0 hn3.symm)
  have hzne : ns.zip l ≠ [] := fun e => by have := congrArg List.length e; rw [List.length_zip, ← hnl] at this; exact hne (by simpa using this)
  rw [len_obj rfl hzne] at hlen
  refine c_enter [(0, .pointer (some ⟨b, 0, none⟩)), (1, .agg [.int .i64 ((6 : Nat) : Int), .string (tx t), .slice (some ⟨lb, lo, none⟩) rows.length lc, .slice (some ⟨nb, no, none⟩) ns.length nc].toArray)] [bldA 106 b ad s acc, oldA W0] (bldA 106 b ad s acc).F Tryz.func108 rfl Tryz.ntmps108 ⟨rfl, rfl, trivial⟩ rfl (okC h (okC (old_ok hold) okN)) (disC (sepC (fun k h1 h2 => by have h1 := hF k h1; have h2 : k < W0.heap.size := h2; omega) sepN) dis1) (mineO (fun _ hb => hb) (mineC rfl mineN)) ?_
  intro a hS
  refine cS (cR ?_)
  refine L_op (s_boxA hS rfl rfl ?_); clear hS a; intro a w b3 hS
  refine nL (nT (cS (cR ?_)))
  refine L_e hS (e_assign rfl) rfl ?_; clear hS a; intro a hS
  refine nL (nT (cS (cS (cR ?_))))
  (first | refine L_e hS (e_fa0 rfl ty_fo37_3) rfl ?_ | refine L_e hS (e_faK rfl ty_fo37_3) rfl ?_); clear hS a; intro a hS
  refine Rn hS (.c (e_load rfl (by repeat constructor) ty_sc35 (by rfl)) <| .c (e_len rfl rfl ty_sl35) <| .m rfl .n) ?_; clear hS a; intro a hS
  refine nL (nT (wB ?_))
  skip
  refine c_loop (γ := Nat × Value) (fun G a w => St 62 (bldA 106 b ad s acc).F w0 a w [(11, .int .i64 (G.1 : Int)), (10, .int .i64 (ns.length : Int)), (4, G.2), (3, .pointer (some ⟨b3, 0, none⟩)), (0, .pointer (some ⟨b, 0, none⟩))] [ownA 3 1 G.2 G.1 (idxV (List.range G.1)), .blk b3 [.int .i64 ((6 : Nat) : Int), .string (tx t), .slice (some ⟨lb, lo, none⟩) rows.length lc, .slice (some ⟨nb, no, none⟩) ns.length nc] 37, bldA 106 b ad s acc, oldA W0] ∧ G.1 ≤ ns.length) (fun G => ns.length - G.1) (0, .slice none 0 0) ⟨((hS.own_nil 3 1).slots (by repeat (first | exact trivial | refine ⟨rfl, ?_⟩))).pick (by repeat (first | exact Pick.nil | (refine Pick.cons (by repeat (first | exact Rem.head | apply Rem.tail)) ?_))), Nat.zero_le _⟩ ?_
  clear hS a; intro G a w hI
  obtain ⟨k, sv⟩ := G
  obtain ⟨hS, hk⟩ := hI
  simp only at hS hk
  refine cS (cR ?_)
  refine L_e hS (e_bin rfl rfl rfl) rfl ?_; clear hS a; intro a hS
  refine nL (nT (cS ?_))
  (first | refine c_ifD hS rfl ?_ ?_ | refine c_if hS rfl ?_ ?_) <;> intro hc12
  ·
   refine wS (nT (cS (wB (cS (cR ?_)))))
   refine Rn hS (.m rfl <| .a rfl .n) ?_; clear hS a; intro a hS
   refine nL (nT (cR ?_))
   refine Rn hS (.m rfl <| .m rfl .n) ?_; clear hS a; intro a hS
   refine L_op (s_bslice hS ty_sl121 ty_sz3 ty_z3 rfl rfl rfl rfl (.one rfl rfl rfl .nil) rfl ?_); clear hS a; intro a w b16 hS
   refine L_op (s_append1 hS rfl rfl ty_sl121 ty_sz3 ty_by3 ty_z3 rfl rfl rfl (by repeat constructor) (by repeat constructor) (by rfl) (by rfl) (fun _ => (by repeat constructor)) (by omega) ?_); clear hS a; intro v17 a w hv17 hS
   rw [← idx_succ] at hS
   refine L_e hS (e_assign rfl) rfl ?_; clear hS a; intro a hS
   refine nL (n_block (nT (cR ?_)))
   (first | refine L_e hS (e_binN rfl rfl rfl (by omega)) rfl ?_ | refine L_e hS (e_bin rfl rfl rfl) rfl ?_); clear hS a; intro a hS
   refine L_e hS (e_move rfl) rfl ?_; clear hS a; intro a hS
   refine nL ?_
   exact ⟨(k + 1, v17), by show ns.length - (k + 1) < ns.length - k; omega, (hS.slots (by repeat (first | exact trivial | refine ⟨rfl, ?_⟩))).pick (by repeat (first | exact Pick.nil | (refine Pick.cons (by repeat (first | exact Rem.head | apply Rem.tail)) ?_))), by show k + 1 ≤ ns.length; omega⟩
  have hk2 : k = ns.length := by omega
  subst hk2
  obtain ⟨q1, c1, rfl⟩ := own_slice (hS.gg (X := ownA 3 1 sv ns.length (idxV (List.range ns.length))))
  obtain ⟨q, rfl⟩ := own_at (hS.gg (X := ownA 3 1 (.slice q1 ns.length c1) ns.length (idxV (List.range ns.length)))) hn0
  obtain ⟨m, hm⟩ : ∃ m, ns.length = m + 1 := ⟨ns.length - 1, by omega⟩
  refine wp_exit ?_
  refine x_then (x_then (x_hit ?_))
  refine nT (cS (cR ?_))
  refine Rn hS (.m rfl <| .c (e_makeFunc .nil (.cons rfl .nil)) .n) ?_; clear hS a; intro a hS
  refine L_op (s_callM hS (.cons rfl (.cons rfl .nil)) cf148 rfl (sortIdx_M b3 q c1 nb no nc m ns hm (by omega) _ (cell_of_blk (hS.gg (X := .blk b3 [.int .i64 ((6 : Nat) : Int), .string (tx t), .slice (some ⟨lb, lo, none⟩) rows.length lc, .slice (some ⟨nb, no, none⟩) ns.length nc] 37)) rfl) (fun i x hx => old_cell (hS.gg (X := oldA W0)) (hcn i x hx)) ((hS.ok (.blk b3 [.int .i64 ((6 : Nat) : Int), .string (tx t), .slice (some ⟨lb, lo, none⟩) rows.length lc, .slice (some ⟨nb, no, none⟩) ns.length nc] 37) (by repeat constructor)).lt b3 rfl) (Nat.lt_of_lt_of_le hnb (hS.gg (X := oldA W0)).1) (fun e => hS.sep (X := ownA 3 1 (.slice (some ⟨q, 0, none⟩) ns.length c1) ns.length (idxV (List.range ns.length))) (Y := .blk b3 [.int .i64 ((6 : Nat) : Int), .string (tx t), .slice (some ⟨lb, lo, none⟩) rows.length lc, .slice (some ⟨nb, no, none⟩) ns.length nc] 37) (by repeat constructor) (by repeat constructor) q rfl e.symm) (fun e => hS.sep (X := ownA 3 1 (.slice (some ⟨q, 0, none⟩) ns.length c1) ns.length (idxV (List.range ns.length))) (Y := oldA W0) (by repeat constructor) (by repeat constructor) q rfl (by show q < W0.heap.size; omega)) (hS.ok (ownA 3 1 (.slice (some ⟨q, 0, none⟩) ns.length c1) ns.length (idxV (List.range ns.length))) (by repeat constructor))) (fun x => (by repeat constructor)) rfl ?_); clear hS a; intro x21 a w hS
  obtain ⟨p, hp1, hp2⟩ := x21
  simp only at hS
  have hpl : p.length = ns.length := by have := hp1.length_eq; rwa [List.length_range] at this
  have hpz : (p.map (zpJ ns l)).Perm (ns.zip l) := by have := hp1.map (zpJ ns l); rwa [zp_all hnl] at this
  have hpsum := (hpz.map (wt n)).sum_nat
  refine nL (nT (cS (cR ?_)))
  refine Rn hS (.m rfl <| .c (e_nilCheck rfl) .n) ?_; clear hS a; intro a hS
  (first | refine L_e hS (e_fa0 rfl ty_fo106_0) rfl ?_ | refine L_e hS (e_faK rfl ty_fo106_0) rfl ?_); clear hS a; intro a hS
  refine L_op (s_callM hS (.cons rfl (.cons rfl .nil)) cf41 rfl (bWByte_M 106 (.inr rfl) b ad had s acc 123 (by omega) _ (hS.ok (bldA 106 b ad s acc) (by repeat constructor))) (fun x => (by repeat constructor)) rfl ?_); clear hS a; intro x25 a w hS
  refine nL (nT (cS (cS (cR ?_))))
  refine Rn hS (.m rfl <| .c (e_len rfl rfl ty_sl121) <| .m rfl .n) ?_; clear hS a; intro a hS
  refine nL (nT (wB ?_))
  skip
  refine c_loop (γ := List Mem × Value) (fun G a w => St 62 (bldA 106 b ad s acc).F w0 a w [(28, .int .i64 (G.1.length : Int)), (27, .int .i64 (ns.length : Int)), (26, .slice (some ⟨q, 0, none⟩) ns.length c1), (3, .pointer (some ⟨b3, 0, none⟩)), (0, .pointer (some ⟨b, 0, none⟩))] [bldA 106 b (some ⟨b, 0, none⟩) G.2 (acc ++ 123 :: joinM G.1), ownA 3 1 (.slice (some ⟨q, 0, none⟩) ns.length c1) ns.length (idxV p), .blk b3 [.int .i64 ((6 : Nat) : Int), .string (tx t), .slice (some ⟨lb, lo, none⟩) rows.length lc, .slice (some ⟨nb, no, none⟩) ns.length nc] 37, oldA W0] ∧ G.1.length ≤ ns.length ∧ (G.1.map fun m => (m.n, m.v)) = (p.map (zpJ ns l)).take G.1.length ∧ ∀ m ∈ G.1, PJ n m.v m.r m.t) (fun G => ns.length - G.1.length) ([], x25) ⟨(hS.slots (by repeat (first | exact trivial | refine ⟨rfl, ?_⟩))).pick (by repeat (first | exact Pick.nil | (refine Pick.cons (by repeat (first | exact Rem.head | apply Rem.tail)) ?_))), Nat.zero_le _, rfl, fun m hm => by cases hm⟩ ?_
  clear hS a; intro G a w hI
  obtain ⟨ms, s2⟩ := G
  obtain ⟨hS, hk, hmz, hmp⟩ := hI
  simp only at hS hk hmz hmp
  have hjs := join_so (n := n) hmz hmp
  refine cS (cR ?_)
  refine L_e hS (e_bin rfl rfl rfl) rfl ?_; clear hS a; intro a hS
  refine nL (nT (cS ?_))
  (first | refine c_ifD hS rfl ?_ ?_ | refine c_if hS rfl ?_ ?_) <;> intro hc29
  ·
   have hkn : ms.length < ns.length := by omega
   obtain ⟨i, hi⟩ : ∃ i, p[ms.length]? = some i := ⟨_, List.getElem?_eq_getElem (by omega)⟩
   have hin : i < ns.length := List.mem_range.1 (hp1.mem_iff.1 (List.mem_of_getElem? hi))
   obtain ⟨nm, hnm⟩ : ∃ x, ns[i]? = some x := ⟨_, List.getElem?_eq_getElem hin⟩
   obtain ⟨v, hv⟩ : ∃ x, l[i]? = some x := ⟨_, List.getElem?_eq_getElem (by omega)⟩
   obtain ⟨r, hr⟩ : ∃ x, rows[i]? = some x := ⟨_, List.getElem?_eq_getElem (by omega)⟩
   have hjv := hn4 i v r hv hr
   have hzi : (p.map (zpJ ns l))[ms.length]? = some (nm, v) := by
    rw [List.getElem?_map, hi]
    show some (ns.getD i [], l.getD i jz) = _
    rw [List.getD_eq_getElem?_getD, List.getD_eq_getElem?_getD, hnm, hv]; rfl
   have hwt := wt_take n hzi
   rw [hpsum] at hwt
   have hwq : wt n (nm, v) = (quoteL nm).length + 2 + lenJ n v := rfl
   have hql := quote_len nm
   have hq2 := q_len nm
   obtain ⟨acc2, hacc2⟩ : ∃ x, acc ++ 123 :: (joinM ms ++ if ms.isEmpty then [] else [44]) = x := ⟨_, rfl⟩
   have hal2 : acc2.length ≤ acc.length + 1 + (joinM ms).length + 1 := by
    rw [← hacc2, List.length_append, List.length_cons, List.length_append]
    split <;> simp <;> omega
   refine wS (nT (cS (wB (cS (cR ?_)))))
   refine Rn hS (.m rfl <| .c (e_ix rfl rfl ty_sl121 ty_sz3 (by omega)) .n) ?_; clear hS a; intro a hS
   refine L_op (s_e hS (e_loadC rfl ty_sc3 (fun w hh => by
 have h1 := (World.ownsRow.cells (g := q) (show w.ownsRow 0 3 1 (.slice (some ⟨q, 0, none⟩) ns.length c1) ns.length (idxV p) from hh (ownA 3 1 (.slice (some ⟨q, 0, none⟩) ns.length c1) ns.length (idxV p)) (by repeat constructor)) rfl) ms.length _ (idx_get hi)
 simpa [addr_add] using h1)) rfl ?_); clear hS a; intro a hS
   refine Rn hS (.a rfl <| .a rfl .n) ?_; clear hS a; intro a hS
   refine nL (nT ?_)
   refine c_cut (fun a w => ∃ s3 : Value, St 62 (bldA 106 b ad s acc).F w0 a w [(6, .int .i64 (ms.length : Int)), (7, .int .i64 (i : Int)), (28, .int .i64 (ms.length : Int)), (27, .int .i64 (ns.length : Int)), (26, .slice (some ⟨q, 0, none⟩) ns.length c1), (3, .pointer (some ⟨b3, 0, none⟩)), (0, .pointer (some ⟨b, 0, none⟩))] [bldA 106 b (some ⟨b, 0, none⟩) s3 acc2, ownA 3 1 (.slice (some ⟨q, 0, none⟩) ns.length c1) ns.length (idxV p), .blk b3 [.int .i64 ((6 : Nat) : Int), .string (tx t), .slice (some ⟨lb, lo, none⟩) rows.length lc, .slice (some ⟨nb, no, none⟩) ns.length nc] 37, oldA W0]) ?_ ?_
   ·
    refine cS (cR ?_)
    refine Rn hS (.m rfl <| .c (e_bin rfl rfl rfl) .n) ?_; clear hS a; intro a hS
    refine nL (nT ?_)
    (first | refine c_ifD hS rfl ?_ ?_ | refine c_if hS rfl ?_ ?_) <;> intro hc34
    ·
     rw [show ms.isEmpty = false from by cases ms with | nil => simp at hc34 | cons x y => rfl] at hacc2
     refine cR ?_
     refine Rn hS (.m rfl <| .c (e_nilCheck rfl) .n) ?_; clear hS a; intro a hS
     (first | refine L_e hS (e_fa0 rfl ty_fo106_0) rfl ?_ | refine L_e hS (e_faK rfl ty_fo106_0) rfl ?_); clear hS a; intro a hS
     refine L_op (s_callM hS (.cons rfl (.cons rfl .nil)) cf41 rfl (bWByte_M 106 (.inr rfl) b _ (.inr rfl) s2 (acc ++ 123 :: joinM ms) 44 (by rw [List.length_append, List.length_cons]; omega) _ (hS.ok (bldA 106 b (some ⟨b, 0, none⟩) s2 (acc ++ 123 :: joinM ms)) (by repeat constructor))) (fun x => (by repeat constructor)) rfl ?_); clear hS a; intro x38 a w hS
     obtain ⟨s3, rfl⟩ : ∃ s3, s3 = x38 := ⟨_, rfl⟩
     rw [List.append_assoc, List.cons_append, show joinM ms ++ [44] = joinM ms ++ (if false = true then [] else [44]) from rfl, hacc2] at hS
     refine nL ?_
     exact ⟨_, (hS.slots (by repeat (first | exact trivial | refine ⟨rfl, ?_⟩))).pick (by repeat (first | exact Pick.nil | (refine Pick.cons (by repeat (first | exact Rem.head | apply Rem.tail)) ?_)))⟩
    obtain ⟨s3, rfl⟩ : ∃ s3, s3 = s2 := ⟨_, rfl⟩
    rw [show ms.isEmpty = true from by cases ms with | nil => rfl | cons x y => exact absurd (show (0 : Int) < ((x :: y).length : Int) by simp) hc34] at hacc2
    rw [show acc ++ 123 :: joinM ms = acc2 from by rw [← hacc2]; simp] at hS
    refine wS ?_
    exact ⟨_, (hS.slots (by repeat (first | exact trivial | refine ⟨rfl, ?_⟩))).pick (by repeat (first | exact Pick.nil | (refine Pick.cons (by repeat (first | exact Rem.head | apply Rem.tail)) ?_)))⟩
   clear hS a; intro a w hS
   obtain ⟨s3, hS⟩ := hS
   refine cS ?_
   refine c_drawS [10] (by kernel_rfl) hS (sub_cons (X := .blk b3 [.int .i64 ((6 : Nat) : Int), .string (tx t), .slice (some ⟨lb, lo, none⟩) rows.length lc, .slice (some ⟨nb, no, none⟩) ns.length nc] 37) (by repeat constructor) (sub_cons (X := oldA W0) (by repeat constructor) sub_nil)) ?_; clear hS; intro w hS
   simp only [List.length_cons, List.length_nil, Nat.zero_add, Nat.reduceAdd, List.replicate]
   refine Ry hS (.o 0 (tf 1 10) rfl wN (e_move rfl) rfl <| .o 1 (tf 2 9) rfl wN (e_nilCheck rfl) rfl .n) ?_; clear hS a; intro a hS
   (first | refine Zt0 2 (tf 3 8) hS rfl want_none (e_fa0 rfl ty_fo106_0) rfl (by kernel_rfl) rfl ?_ | refine Zt0 2 (tf 3 8) hS rfl want_none (e_faK rfl ty_fo106_0) rfl (by kernel_rfl) rfl ?_); clear hS a; intro a hS
   (first | refine Zt0 3 (tf 4 7) hS rfl want_none (e_fa0 rfl ty_fo37_3) rfl (by kernel_rfl) rfl ?_ | refine Zt0 3 (tf 4 7) hS rfl want_none (e_faK rfl ty_fo37_3) rfl (by kernel_rfl) rfl ?_); clear hS a; intro a hS
   refine Rz hS (sub_cons (by repeat constructor) (sub_cons (by repeat constructor) sub_nil)) (.y 4 (tf 5 6) rfl wN (e_load rfl (by repeat constructor) ty_sc35 (by rfl)) rfl <| .o 5 (tf 6 5) rfl wN (e_move rfl) rfl <| .o 6 (tf 7 4) rfl wN (e_ixN rfl rfl ty_sl35 ty_sz9 (by omega)) rfl <| .y 7 (tf 8 3) rfl wN (e_loadC rfl ty_sc9 (fun w hh => by rw [Nat.mul_one]; exact old_cell (hh (oldA W0) (by repeat constructor)) (hcn i nm hnm))) rfl .n) ?_; clear hS a; intro a hS
   refine Zo 8 (tf 9 2) hS rfl wN rfl (s_callP hS (.cons rfl .nil) cf13 rfl (jQuote_P nm (by omega) _) ?_); clear hS a; intro a w hS
   refine Z_and hS (sub_cons (by repeat constructor) (sub_cons (by repeat constructor) sub_nil)) ?_
   refine Zt0 9 (tf 10 1) hS rfl want_none (e_cat rfl rfl (by rw [tx_size]; show (quoteL nm).length + 1 ≤ _; omega)) rfl (by kernel_rfl) rfl ?_; clear hS a; intro a hS
   rw [show (ByteArray.mk #[58]) = tx [58] from rfl, tx_app] at hS
   refine Zo 10 (tf 11 0) hS rfl wN rfl (s_callM hS (.cons rfl (.cons rfl .nil)) cf42 rfl (bWStr_M 106 (.inr rfl) b _ (.inr rfl) s3 acc2 (quoteL nm ++ [58]) (by rw [List.length_append, List.length_singleton]; omega) _ (hS.ok (bldA 106 b (some ⟨b, 0, none⟩) s3 acc2) (by repeat constructor))) (fun x => (by repeat constructor)) rfl ?_); clear hS a; intro x49 a w hS
   refine Z_last (by simp) ?_
   refine Z_done (by kernel_rfl) ?_
   refine nT (cR ?_)
   refine L_e hS (e_move rfl) rfl ?_; clear hS a; intro a hS
   (first | refine L_e hS (e_fa0 rfl ty_fo37_2) rfl ?_ | refine L_e hS (e_faK rfl ty_fo37_2) rfl ?_); clear hS a; intro a hS
   refine Rn hS (.c (e_load rfl (by repeat constructor) ty_sc34 (by rfl)) <| .m rfl <| .c (e_ixN rfl rfl ty_sl34 ty_sz37 (by omega)) <| .c (e_loadAC (l := r) rfl ty_st37 (by rw [hjv.len4]; exact ty_sz37) (fun w hh j x hx => old_cell (hh (oldA W0) (by repeat constructor)) (hcl i r hr j x hx))) .n) ?_; clear hS a; intro a hS
   refine L_op (s_callM hS (.cons rfl (.cons rfl .nil)) cf38 rfl (IH v r (d + 1) b _ x49 (acc2 ++ (quoteL nm ++ [58])) _ (hgs v (List.mem_of_getElem? hv)) (hsub v (List.mem_of_getElem? hv)) hjv (.inr rfl) (by rw [List.length_append, List.length_append, List.length_singleton]; omega) (hS.ok (bldA 106 b (some ⟨b, 0, none⟩) x49 (acc2 ++ (quoteL nm ++ [58]))) (by repeat constructor)) (hS.gg (X := oldA W0)) (fun k hk => Nat.not_lt.1 fun h2 => hS.sep (X := bldA 106 b (some ⟨b, 0, none⟩) x49 (acc2 ++ (quoteL nm ++ [58]))) (Y := oldA W0) (by repeat constructor) (by repeat constructor) k hk h2)) (fun x => (by repeat constructor)) rfl ?_); clear hS a; intro x56 a w hS
   obtain ⟨⟨s4, rv, tv⟩, hpj⟩ := x56
   simp only at hpj hS
   rw [show acc2 ++ (quoteL nm ++ [58]) ++ tv = acc ++ 123 :: joinM (ms ++ [⟨nm, v, rv, tv⟩]) by rw [← hacc2, joinM_snoc]; simp [memT]] at hS
   refine nL (n_block (nT (cR ?_)))
   (first | refine L_e hS (e_binN rfl rfl rfl (by omega)) rfl ?_ | refine L_e hS (e_bin rfl rfl rfl) rfl ?_); clear hS a; intro a hS
   refine L_e hS (e_move rfl) rfl ?_; clear hS a; intro a hS
   refine nL ?_
   refine ⟨(ms ++ [⟨nm, v, rv, tv⟩], s4), by show ns.length - (ms ++ [_]).length < ns.length - ms.length; rw [List.length_append, List.length_singleton]; omega, ?_, by show (ms ++ [_]).length ≤ ns.length; rw [List.length_append, List.length_singleton]; omega, ?_, ?_⟩
   · show St _ _ _ _ _ [(28, .int .i64 ((ms ++ [(⟨nm, v, rv, tv⟩ : Mem)]).length : Int)), _, _, _, _] _
     rw [List.length_append, List.length_singleton]
     exact (hS.slots (by repeat (first | exact trivial | refine ⟨rfl, ?_⟩))).pick (by repeat (first | exact Pick.nil | (refine Pick.cons (by repeat (first | exact Rem.head | apply Rem.tail)) ?_)))
   · show (ms ++ [(⟨nm, v, rv, tv⟩ : Mem)]).map _ = (p.map (zpJ ns l)).take (ms ++ [(⟨nm, v, rv, tv⟩ : Mem)]).length
     rw [List.length_append, List.length_singleton, take_next hzi, List.map_append, hmz]; rfl
   · intro m hm'
     rcases List.mem_append.1 hm' with hm' | hm'
     · exact hmp m hm'
     · obtain rfl := List.mem_singleton.1 hm'; exact hpj
  have hk2 : ms.length = ns.length := by omega
  rw [hk2, List.take_of_length_le (by rw [List.length_map]; omega)] at hmz hjs
  rw [hpsum] at hjs
  refine wp_exit ?_
  refine x_then (x_then (x_hit ?_))
  refine nT (cR ?_)
  refine Rn hS (.m rfl <| .c (e_nilCheck rfl) .n) ?_; clear hS a; intro a hS
  (first | refine L_e hS (e_fa0 rfl ty_fo106_0) rfl ?_ | refine L_e hS (e_faK rfl ty_fo106_0) rfl ?_); clear hS a; intro a hS
  refine L_op (s_callM hS (.cons rfl (.cons rfl .nil)) cf41 rfl (bWByte_M 106 (.inr rfl) b _ (.inr rfl) s2 (acc ++ 123 :: joinM ms) 125 (by rw [List.length_append, List.length_cons]; omega) _ (hS.ok (bldA 106 b (some ⟨b, 0, none⟩) s2 (acc ++ 123 :: joinM ms)) (by repeat constructor))) (fun x => (by repeat constructor)) rfl ?_); clear hS a; intro x61 a w hS
  refine nL (r_norm ?_)
  refine c_retN hS Tryz.results108 .nil rfl ?_
  have hpj : PJ (n + 1) (.mk 6 t ns l) (.mk 6 [] (ms.map (·.n)) (ms.map (·.r))) (123 :: (joinM ms ++ [125])) := by
   refine .inr (.inr (.inr ⟨rfl, ms, by rw [hmz]; exact hpz, ?_, hmp, rfl, rfl⟩))
   have e1 : ms.map (·.n) = (p.map (zpJ ns l)).map (·.1) := by rw [← hmz, List.map_map]; rfl
   rw [e1, List.map_map]; exact hp2
  rw [List.append_assoc, List.cons_append] at hS
  exact ⟨⟨(x61, _, _), hpj⟩, rfl, hS.chg, hS.ok (bldA 106 b (some ⟨b, 0, none⟩) x61 (acc ++ 123 :: (joinM ms ++ [125]))) (by repeat constructor), fun k hk => (hS.mine (bldA 106 b (some ⟨b, 0, none⟩) x61 (acc ++ 123 :: (joinM ms ++ [125]))) (by repeat constructor) rfl k hk).symm⟩
theorem jMemAll_M (W0 : World) (n : Nat) (IH : LayC W0 n) (t : List UInt8) (ns : List (List UInt8)) (l : List JV) (cs : List Value) (d b : Nat) (ad : Option Addr) (s : Value) (acc : List UInt8) (w0 : World) (hg : goodV (n + 1) (.mk 6 t ns l)) (ho : okF (n + 1) d (.mk 6 t ns l)) (hj : JAt (n + 1) (.mk 6 t ns l) cs W0)
 (had : ad = none ∨ ad = some ⟨b, 0, none⟩) (hlen : acc.length + lenJ (n + 1) (.mk 6 t ns l) ≤ 9000000) (h : (bldA 106 b ad s acc).ok w0) (hold : oldφ W0 w0) (hF : ∀ k, (bldA 106 b ad s acc).F k → W0.heap.size ≤ k) :
 MutC Tryz.prog 108 [.pointer (some ⟨b, 0, none⟩), .agg cs.toArray] w0 (bldA 106 b ad s acc) (fun _ : { x : Value × JV × List UInt8 // PJ (n + 1) (.mk 6 t ns l) x.2.1 x.2.2 } => .tuple [].toArray) (fun x => bldA 106 b (some ⟨b, 0, none⟩) x.1.1 (acc ++ x.1.2.2)) := by
 by_cases hne : ns = []
 · subst hne
   obtain ⟨lv, nv, rows, rfl, hn1, hn2, hn3, hn4⟩ := hj
   obtain ⟨na, nc, rfl⟩ : ∃ a c, nv = .slice a 0 c := by
    rcases hn1 with ⟨_, h⟩ | ⟨_, _, _, h, _⟩
    · exact h
    · exact absurd rfl h
   obtain ⟨la, lc, rfl⟩ := hn2.shape
   refine (jMembers0_M 6 t (.slice la rows.length lc) nc na rfl b ad s acc w0 had (by omega) h).mono ?_
   rintro e w' ⟨s', he, h1, h2, h3⟩
   exact ⟨⟨(s', .mk 6 [] [] [], [123, 125]), .inr (.inr (.inr ⟨rfl, [], .refl _, .nil, fun m hm => (by cases hm), rfl, rfl⟩))⟩, he, h1, h2, h3⟩
 · exact jMembers_M W0 n IH t ns l cs d b ad s acc w0 hne hg ho hj had hlen h hold hF
set_option maxHeartbeats 1000000 in
set_option maxRecDepth 100000 in
theorem lay_step (W0 : World) (n : Nat) (IH : LayC W0 n) : LayC W0 (n + 1) := by
 intro v cs d b ad s acc w0 hg ho hj had hlen h hold hF
 cases v with
 | mk kd t ns l =>
 have hj0 := hj
 obtain ⟨lv, nv, ⟨a1, a2, a3, rfl⟩, ⟨a4, a5, a6, rfl⟩, hcs⟩ := hj.four
 subst hcs
 have hg0 := hg
 obtain ⟨hg1, hg2, hg3, hg4⟩ := hg
 have hl3 : kd = 3 → lenJ (n + 1) (.mk kd t ns l) = t.length := fun e => by unfold lenJ; rw [if_pos e]
 have hl4 : kd = 4 → lenJ (n + 1) (.mk kd t ns l) = (quoteL t).length := fun e => by unfold lenJ; rw [if_neg (by omega), if_pos e]
 have hql := quote_len t
 have hq2 := q_len t
 simp only [JV.k, JV.t] at *
 refine c_enter [(0, .pointer (some ⟨b, 0, none⟩)), (1, .agg [.int .i64 (kd : Int), .string (tx t), .slice a1 a2 a3, .slice a4 a5 a6].toArray)] [bldA 106 b ad s acc, oldA W0] (bldA 106 b ad s acc).F Tryz.func38 rfl Tryz.ntmps38 ⟨rfl, rfl, trivial⟩ rfl (okC h (okC (old_ok hold) okN)) (disC (sepC (fun k h1 h2 => by have h1 := hF k h1; have h2 : k < W0.heap.size := h2; omega) sepN) dis1) (mineO (fun _ hb => hb) (mineC rfl mineN)) ?_
 intro a hS
 refine cS (cR ?_)
 refine L_op (s_boxA hS rfl rfl ?_); clear hS a; intro a w b3 hS
 refine nL (nT (cS (cR ?_)))
 (first | refine L_e hS (e_fa0 rfl ty_fo37_0) rfl ?_ | refine L_e hS (e_faK rfl ty_fo37_0) rfl ?_); clear hS a; intro a hS
 refine L_e hS (e_load rfl (by repeat constructor) ty_sc3 (by rfl)) rfl ?_; clear hS a; intro a hS
 refine nL (nT (wB (cS (cR ?_))))
 refine Rn hS (.c (e_bin rfl rfl rfl) <| .a rfl .n) ?_; clear hS a; intro a hS
 refine nL (nT ?_)
 (first | refine c_ifD hS rfl ?_ ?_ | refine c_if hS rfl ?_ ?_) <;> intro hc17
 ·
  have hk3 : kd = 3 := by omega
  have hl := hl3 hk3
  refine c_drawS [5] (by kernel_rfl) hS (sub_cons (X := .blk b3 [.int .i64 (kd : Int), .string (tx t), .slice a1 a2 a3, .slice a4 a5 a6] 37) (by repeat constructor) sub_nil) ?_; clear hS; intro w hS
  simp only [List.length_cons, List.length_nil, Nat.zero_add, Nat.reduceAdd, List.replicate]
  refine Ry hS (.o 0 (tf 1 5) rfl wN (e_move rfl) rfl <| .o 1 (tf 2 4) rfl wN (e_nilCheck rfl) rfl .n) ?_; clear hS a; intro a hS
  (first | refine Zt0 2 (tf 3 3) hS rfl want_none (e_fa0 rfl ty_fo106_0) rfl (by kernel_rfl) rfl ?_ | refine Zt0 2 (tf 3 3) hS rfl want_none (e_faK rfl ty_fo106_0) rfl (by kernel_rfl) rfl ?_); clear hS a; intro a hS
  (first | refine Zt0 3 (tf 4 2) hS rfl want_none (e_fa0 rfl ty_fo37_1) rfl (by kernel_rfl) rfl ?_ | refine Zt0 3 (tf 4 2) hS rfl want_none (e_faK rfl ty_fo37_1) rfl (by kernel_rfl) rfl ?_); clear hS a; intro a hS
  refine Zt 4 (tf 5 1) hS rfl want_none (e_load rfl (by repeat constructor) ty_sc9 (by rfl)) rfl (by kernel_rfl) (sub_cons (by repeat constructor) sub_nil) rfl ?_; clear hS a; intro a hS
  refine Zo 5 (tf 6 0) hS rfl wN rfl (s_callM hS (.cons rfl (.cons rfl .nil)) cf42 rfl (bWStr_M 106 (.inr rfl) b ad had s acc t (by omega) _ (hS.ok (bldA 106 b ad s acc) (by repeat constructor))) (fun x => (by repeat constructor)) rfl ?_); clear hS a; intro x24 a w hS
  refine Z_last (by simp) ?_
  refine Z_done (by kernel_rfl) ?_
  refine n_block (r_norm ?_)
  refine c_retN hS Tryz.results38 .nil rfl ?_
  have hpj : PJ (n + 1) (.mk kd t ns l) (jNum t) t := .inl ⟨hk3, rfl, rfl⟩
  exact ⟨⟨(x24, jNum t, t), hpj⟩, rfl, hS.chg, hS.ok (bldA 106 b (some ⟨b, 0, none⟩) x24 (acc ++ t)) (by repeat constructor), fun k hk => (hS.mine (bldA 106 b (some ⟨b, 0, none⟩) x24 (acc ++ t)) (by repeat constructor) rfl k hk).symm⟩
 refine cS (cR ?_)
 refine Rn hS (.c (e_bin rfl rfl rfl) <| .a rfl .n) ?_; clear hS a; intro a hS
 refine nL (nT ?_)
 (first | refine c_ifD hS rfl ?_ ?_ | refine c_if hS rfl ?_ ?_) <;> intro hc25
 ·
  have hk4 : kd = 4 := by omega
  have hl := hl4 hk4
  refine c_drawS [6] (by kernel_rfl) hS (sub_cons (X := .blk b3 [.int .i64 (kd : Int), .string (tx t), .slice a1 a2 a3, .slice a4 a5 a6] 37) (by repeat constructor) sub_nil) ?_; clear hS; intro w hS
  simp only [List.length_cons, List.length_nil, Nat.zero_add, Nat.reduceAdd, List.replicate]
  refine Ry hS (.o 0 (tf 1 6) rfl wN (e_move rfl) rfl <| .o 1 (tf 2 5) rfl wN (e_nilCheck rfl) rfl .n) ?_; clear hS a; intro a hS
  (first | refine Zt0 2 (tf 3 4) hS rfl want_none (e_fa0 rfl ty_fo106_0) rfl (by kernel_rfl) rfl ?_ | refine Zt0 2 (tf 3 4) hS rfl want_none (e_faK rfl ty_fo106_0) rfl (by kernel_rfl) rfl ?_); clear hS a; intro a hS
  (first | refine Zt0 3 (tf 4 3) hS rfl want_none (e_fa0 rfl ty_fo37_1) rfl (by kernel_rfl) rfl ?_ | refine Zt0 3 (tf 4 3) hS rfl want_none (e_faK rfl ty_fo37_1) rfl (by kernel_rfl) rfl ?_); clear hS a; intro a hS
  refine Zt 4 (tf 5 2) hS rfl want_none (e_load rfl (by repeat constructor) ty_sc9 (by rfl)) rfl (by kernel_rfl) (sub_cons (by repeat constructor) sub_nil) rfl ?_; clear hS a; intro a hS
  refine Zo 5 (tf 6 1) hS rfl wN rfl (s_callP hS (.cons rfl .nil) cf13 rfl (jQuote_P t (by omega) _) ?_); clear hS a; intro a w hS
  refine Z_and hS (sub_cons (by repeat constructor) sub_nil) ?_
  refine Zo 6 (tf 7 0) hS rfl wN rfl (s_callM hS (.cons rfl (.cons rfl .nil)) cf42 rfl (bWStr_M 106 (.inr rfl) b ad had s acc (quoteL t) (by omega) _ (hS.ok (bldA 106 b ad s acc) (by repeat constructor))) (fun x => (by repeat constructor)) rfl ?_); clear hS a; intro x33 a w hS
  refine Z_last (by simp) ?_
  refine Z_done (by kernel_rfl) ?_
  refine n_block (r_norm ?_)
  refine c_retN hS Tryz.results38 .nil rfl ?_
  have hpj : PJ (n + 1) (.mk kd t ns l) (jStr t) (quoteL t) := .inr (.inl ⟨hk4, rfl, rfl⟩)
  exact ⟨⟨(x33, jStr t, quoteL t), hpj⟩, rfl, hS.chg, hS.ok (bldA 106 b (some ⟨b, 0, none⟩) x33 (acc ++ quoteL t)) (by repeat constructor), fun k hk => (hS.mine (bldA 106 b (some ⟨b, 0, none⟩) x33 (acc ++ quoteL t)) (by repeat constructor) rfl k hk).symm⟩
 refine cS (cR ?_)
 refine Rn hS (.c (e_bin rfl rfl rfl) <| .a rfl .n) ?_; clear hS a; intro a hS
 refine nL (nT ?_)
 replace hS := hS.is (t := 34) (c := false) rfl (decide_eq_false (by omega))
 refine c_if_f hS rfl ?_
 refine cS (cR ?_)
 refine Rn hS (.c (e_bin rfl rfl rfl) <| .a rfl .n) ?_; clear hS a; intro a hS
 refine nL (nT ?_)
 (first | refine c_ifD hS rfl ?_ ?_ | refine c_if hS rfl ?_ ?_) <;> intro hc62
 ·
  obtain rfl : kd = 6 := by omega
  refine cR ?_
  refine Rn hS (.m rfl <| .c (e_loadA rfl (by repeat constructor) ty_st37 ty_sz37 (by rfl)) .n) ?_; clear hS a; intro a hS
  refine L_op (s_callM hS (.cons rfl (.cons rfl .nil)) cf108 rfl (jMemAll_M W0 n IH t ns l _ d b ad s acc _ hg0 ho hj0 had hlen (hS.ok (bldA 106 b ad s acc) (by repeat constructor)) (hS.gg (X := oldA W0)) hF) (fun x => (by repeat constructor)) rfl ?_); clear hS a; intro x66 a w hS
  refine nL (n_block (r_norm ?_))
  refine c_retN hS Tryz.results38 .nil rfl ?_
  obtain ⟨⟨s', r, tv⟩, hpj⟩ := x66
  simp only at hpj hS
  exact ⟨⟨(s', r, tv), hpj⟩, rfl, hS.chg, hS.ok (bldA 106 b (some ⟨b, 0, none⟩) s' (acc ++ tv)) (by repeat constructor), fun k hk => (hS.mine (bldA 106 b (some ⟨b, 0, none⟩) s' (acc ++ tv)) (by repeat constructor) rfl k hk).symm⟩
 have hk3 : kd < 3 := by omega
 obtain ⟨ww, hww⟩ : ∃ x, wordsJ[kd]? = some x := ⟨wordsJ[kd], List.getElem?_eq_getElem hk3⟩
 have hwd : wordsJ.getD kd [] = ww := by rw [List.getD_eq_getElem?_getD, hww]; rfl
 have hwl : ww.length ≤ 5 := by rcases (by omega : kd = 0 ∨ kd = 1 ∨ kd = 2) with rfl | rfl | rfl <;> (cases hww; decide)
 refine c_drawS [8] (by kernel_rfl) hS (sub_cons (X := .blk b3 [.int .i64 (kd : Int), .string (tx t), .slice a1 a2 a3, .slice a4 a5 a6] 37) (by repeat constructor) sub_nil) ?_; clear hS; intro w hS
 simp only [List.length_cons, List.length_nil, Nat.zero_add, Nat.reduceAdd, List.replicate]
 refine Ry hS (.o 0 (tf 1 8) rfl wN (e_move rfl) rfl <| .o 1 (tf 2 7) rfl wN (e_nilCheck rfl) rfl .n) ?_; clear hS a; intro a hS
 (first | refine Zt0 2 (tf 3 6) hS rfl want_none (e_fa0 rfl ty_fo106_0) rfl (by kernel_rfl) rfl ?_ | refine Zt0 2 (tf 3 6) hS rfl want_none (e_faK rfl ty_fo106_0) rfl (by kernel_rfl) rfl ?_); clear hS a; intro a hS
 (first | refine Zt0 4 [true, true, true, false, true, false, false, false, false] hS rfl want_none (e_fa0 rfl ty_fo37_0) rfl (by kernel_rfl) rfl ?_ | refine Zt0 4 [true, true, true, false, true, false, false, false, false] hS rfl want_none (e_faK rfl ty_fo37_0) rfl (by kernel_rfl) rfl ?_); clear hS a; intro a hS
 refine Zt 5 [true, true, true, false, true, true, false, false, false] hS rfl want_none (e_load rfl (by repeat constructor) ty_sc3 (by rfl)) rfl (by kernel_rfl) (sub_cons (by repeat constructor) sub_nil) rfl ?_; clear hS a; intro a hS
 refine Zo 3 (tf 6 3) hS rfl wN rfl (s_callN hS .nil cf99 rfl (jWords_P _) ?_); clear hS a; intro x11 a w hS
 refine Z_and hS (sub_cons (by repeat constructor) sub_nil) ?_
 refine Zt0 6 (tf 7 2) hS rfl want_none (e_ixN rfl rfl ty_sl35 ty_sz9 (by omega)) rfl (by kernel_rfl) rfl ?_; clear hS a; intro a hS
 refine Zo 7 (tf 8 1) hS rfl wN rfl (s_e hS (e_loadC rfl ty_sc9 (fun w hh => blkrow_get (enc := encS) (by repeat constructor) (fun _ => rfl) hww w hh 0 (.string (tx ww)) rfl)) rfl ?_); clear hS a; intro a hS
 refine Z_and hS (sub_cons (by repeat constructor) sub_nil) ?_
 refine Zo 8 (tf 9 0) hS rfl wN rfl (s_callM hS (.cons rfl (.cons rfl .nil)) cf42 rfl (bWStr_M 106 (.inr rfl) b ad had s acc ww (by omega) _ (hS.ok (bldA 106 b ad s acc) (by repeat constructor))) (fun x => (by repeat constructor)) rfl ?_); clear hS a; intro x16 a w hS
 refine Z_last (by simp) ?_
 refine Z_done (by kernel_rfl) ?_
 refine n_block (r_norm ?_)
 refine c_retN hS Tryz.results38 .nil rfl ?_
 have hpj : PJ (n + 1) (.mk kd t ns l) (.mk kd [] [] []) ww := .inr (.inr (.inl ⟨hk3, rfl, hwd.symm⟩))
 exact ⟨⟨(x16, .mk kd [] [] [], ww), hpj⟩, rfl, hS.chg, hS.ok (bldA 106 b (some ⟨b, 0, none⟩) x16 (acc ++ ww)) (by repeat constructor), fun k hk => (hS.mine (bldA 106 b (some ⟨b, 0, none⟩) x16 (acc ++ ww)) (by repeat constructor) rfl k hk).symm⟩
theorem lay_all (W0 : World) : ∀ n, LayC W0 n
 | 0 => fun _ _ _ _ _ _ _ _ hg => absurd hg (fun h => h)
 | n + 1 => lay_step W0 n (lay_all W0 n)
def smV : Nat → JV → Prop
 | 0, _ => False
 | n + 1, .mk _ t ns l => t.length ≤ 1100000 ∧ ns.length ≤ 1000000 ∧ (∀ x ∈ ns, x.length ≤ 1000000) ∧ l.length ≤ 1000000 ∧ ∀ x ∈ l, smV n x
def CheckC (W0 : World) (n : Nat) : Prop := ∀ (v : JV) (cs : List Value) (d : Nat) (w0 : World), goodV n v → smV n v → JAt n v cs W0 → oldφ W0 w0 → d ≤ 1000 →
 MayC Tryz.prog 37 [.agg cs.toArray, .int .i64 (d : Int)] w0 (fun u => isFault eNo u ∧ ¬ okF n d v) none_ (fun _ : { _u : Unit // okF n d v } => .tuple [].toArray) (fun _ => none_)
theorem txs_of {nv : Value} {ns : List (List UInt8)} {W : World} (h : RwAt 1 nv (ns.map encS) W) : ∃ na nc, nv = .slice na ns.length nc ∧ TxsAt W na ns := by
 obtain ⟨a, c, e⟩ := h.shape
 rw [List.length_map] at e
 refine ⟨a, c, e, ⟨fun hne => ?_⟩⟩
 obtain ⟨nb, no, nc, e2, _, h2⟩ := rw_names h hne
 rw [e] at e2
 injection e2 with e3
 exact ⟨nb, no, e3, h2⟩
set_option maxHeartbeats 2000000 in
set_option maxRecDepth 100000 in
theorem check_step (W0 : World) (hU : Lib.Utf8Tabs 0 1 W0) (n : Nat) (IH : CheckC W0 n) : CheckC W0 (n + 1) := by
 intro v cs d w0 hg hsm hj hold hd
 cases v with
 | mk kd t ns l =>
 obtain ⟨lv, nv, rows, rfl, hn1, hn2, hn3, hn4⟩ := hj
 obtain ⟨na, nc, rfl, hT⟩ := txs_of hn1
 obtain ⟨la, lc, rfl⟩ := hn2.shape
 obtain ⟨hg1, hg2, hg3, hg4⟩ := hg
 obtain ⟨hs1, hs2, hs3, hs4, hs5⟩ := hsm
 refine c_enter [(0, .agg [.int .i64 (kd : Int), .string (tx t), .slice la rows.length lc, .slice na ns.length nc].toArray), (1, .int .i64 (d : Int))] [none_, oldA W0] none_.F Tryz.func37 rfl Tryz.ntmps37 ⟨rfl, rfl, trivial⟩ rfl (okC (none_ok _) (okC (old_ok hold) okN)) (disC (sepC (fun k h _ => h) sepN) dis1) (mineO (fun _ hb => hb) (mineC rfl mineN)) ?_
 intro a hS
 refine cS (cR ?_)
 refine L_op (s_boxA hS rfl rfl ?_); clear hS a; intro a w b2 hS
 refine nL (nT (cS (cR ?_)))
 (first | refine L_e hS (e_fa0 rfl ty_fo37_0) rfl ?_ | refine L_e hS (e_faK rfl ty_fo37_0) rfl ?_); clear hS a; intro a hS
 refine Rn hS (.c (e_load rfl (by repeat constructor) ty_sc3 (by rfl)) <| .c (e_bin rfl rfl rfl) <| .m rfl .n) ?_; clear hS a; intro a hS
 replace hS := hS.is (t := 10) (c := true) rfl (decide_eq_true (by omega))
 (first | refine L_ge hS rfl rfl (e_fa0 rfl ty_fo37_0) rfl ?_ | refine L_ge hS rfl rfl (e_faK rfl ty_fo37_0) rfl ?_); clear hS a; intro a hS
 refine Rn hS (.g rfl rfl (e_load rfl (by repeat constructor) ty_sc3 (by rfl)) <| .g rfl rfl (e_bin rfl rfl rfl) <| .c (e_pk rfl rfl) .n) ?_; clear hS a; intro a hS
 refine L_op (s_callY hS (.cons rfl (.cons rfl .nil)) cf101 rfl (jUnless_Y (decide ((kd : Int) ≤ 6)) 7 (by decide : (7 : Int) ≠ 0) _) (fun x => (by repeat constructor)) rfl (by repeat constructor) ?_ ?_)
 ·
  intro vp wp hvp hdp hcp
  refine p_then ?_
  exact absurd hvp.2 (by rw [decide_eq_true (by omega)]; decide)
 clear hS a; intro x15 a w hS
 refine nL (nT ?_)
 refine c_cut (fun a w => St 88 none_.F w0 a w [(2, .pointer (some ⟨b2, 0, none⟩)), (1, .int .i64 (d : Int))] [.blk b2 [.int .i64 (kd : Int), .string (tx t), .slice la rows.length lc, .slice na ns.length nc] 37, none_, oldA W0] ∧ (kd = 3 → numF t = some t.length) ∧ (kd = 4 → Lib.validD t = true) ∧ (kd = 6 → (∀ x ∈ ns, Lib.validD x = true) ∧ ns.length = l.length)) ?_ ?_
 ·
  refine cS (cR ?_)
  (first | refine L_e hS (e_fa0 rfl ty_fo37_0) rfl ?_ | refine L_e hS (e_faK rfl ty_fo37_0) rfl ?_); clear hS a; intro a hS
  refine L_e hS (e_load rfl (by repeat constructor) ty_sc3 (by rfl)) rfl ?_; clear hS a; intro a hS
  refine nL (nT (wB (cS (cR ?_))))
  refine Rn hS (.c (e_bin rfl rfl rfl) <| .a rfl .n) ?_; clear hS a; intro a hS
  refine nL (nT ?_)
  (first | refine c_ifD hS rfl ?_ ?_ | refine c_if hS rfl ?_ ?_) <;> intro hc18
  ·
   have hk3 : kd = 3 := by omega
   refine cR ?_
   (first | refine L_e hS (e_fa0 rfl ty_fo37_1) rfl ?_ | refine L_e hS (e_faK rfl ty_fo37_1) rfl ?_); clear hS a; intro a hS
   refine L_e hS (e_load rfl (by repeat constructor) ty_sc9 (by rfl)) rfl ?_; clear hS a; intro a hS
   refine L_op (s_callP hS (.cons rfl .nil) cf102 rfl (jLiteral_P t hs1 _) ?_); clear hS a; intro a w hS
   refine L_op (s_callY hS (.cons rfl (.cons rfl .nil)) cf101 rfl (jUnless_Y (decide (numF t = some t.length)) 10 (by decide : (10 : Int) ≠ 0) _) (fun x => (by repeat constructor)) rfl (by repeat constructor) ?_ ?_)
   ·
    intro vp wp hvp hdp hcp
    refine p_block (p_then ?_)
    exact ⟨hdp, .inr ⟨vp, ⟨hvp.1, fun ho => (of_decide_eq_false hvp.2) (ho.1 hk3)⟩, rfl, hcp⟩⟩
   clear hS a; intro x23 a w hS
   have hfin : (kd = 3 → numF t = some t.length) ∧ (kd = 4 → Lib.validD t = true) ∧ (kd = 6 → (∀ x ∈ ns, Lib.validD x = true) ∧ ns.length = l.length) := ⟨fun _ => of_decide_eq_true x23.2, fun e => by omega, fun e => by omega⟩
   refine nL (n_block ?_)
   exact ⟨(hS.slots (by repeat (first | exact trivial | refine ⟨rfl, ?_⟩))).pick (by repeat (first | exact Pick.nil | (refine Pick.cons (by repeat (first | exact Rem.head | apply Rem.tail)) ?_))), hfin⟩
  refine cS (cR ?_)
  refine Rn hS (.c (e_bin rfl rfl rfl) <| .a rfl .n) ?_; clear hS a; intro a hS
  refine nL (nT ?_)
  (first | refine c_ifD hS rfl ?_ ?_ | refine c_if hS rfl ?_ ?_) <;> intro hc24
  ·
   have hk4 : kd = 4 := by omega
   refine cR ?_
   (first | refine L_e hS (e_fa0 rfl ty_fo37_1) rfl ?_ | refine L_e hS (e_faK rfl ty_fo37_1) rfl ?_); clear hS a; intro a hS
   refine L_e hS (e_load rfl (by repeat constructor) ty_sc9 (by rfl)) rfl ?_; clear hS a; intro a hS
   refine L_op (s_callP hS (.cons rfl .nil) cf86 rfl (validS_P W0 hU t (by omega) _ (hS.gg (X := oldA W0))) ?_); clear hS a; intro a w hS
   refine L_op (s_callY hS (.cons rfl (.cons rfl .nil)) cf101 rfl (jUnless_Y (Lib.validD t) 10 (by decide : (10 : Int) ≠ 0) _) (fun x => (by repeat constructor)) rfl (by repeat constructor) ?_ ?_)
   ·
    intro vp wp hvp hdp hcp
    refine p_block (p_then ?_)
    exact ⟨hdp, .inr ⟨vp, ⟨hvp.1, fun ho => by have := ho.2.1 hk4; rw [hvp.2] at this; cases this⟩, rfl, hcp⟩⟩
   clear hS a; intro x29 a w hS
   have hfin : (kd = 3 → numF t = some t.length) ∧ (kd = 4 → Lib.validD t = true) ∧ (kd = 6 → (∀ x ∈ ns, Lib.validD x = true) ∧ ns.length = l.length) := ⟨fun e => by omega, fun _ => x29.2, fun e => by omega⟩
   refine nL (n_block ?_)
   exact ⟨(hS.slots (by repeat (first | exact trivial | refine ⟨rfl, ?_⟩))).pick (by repeat (first | exact Pick.nil | (refine Pick.cons (by repeat (first | exact Rem.head | apply Rem.tail)) ?_))), hfin⟩
  refine cS (cR ?_)
  refine Rn hS (.c (e_bin rfl rfl rfl) <| .a rfl .n) ?_; clear hS a; intro a hS
  refine nL (nT ?_)
  (first | refine c_ifD hS rfl ?_ ?_ | refine c_if hS rfl ?_ ?_) <;> intro hc30
  ·
   have hk6 : kd = 6 := by omega
   refine cS (cR ?_)
   (first | refine L_e hS (e_fa0 rfl ty_fo37_3) rfl ?_ | refine L_e hS (e_faK rfl ty_fo37_3) rfl ?_); clear hS a; intro a hS
   refine L_e hS (e_load rfl (by repeat constructor) ty_sc35 (by rfl)) rfl ?_; clear hS a; intro a hS
   refine L_op (s_callN hS (.cons rfl (.cons rfl .nil)) cf103 rfl (jContV_P W0 hU na nc ns hT hs2 (fun x hx => by have := hs3 x hx; omega) _ (hS.gg (X := oldA W0))) ?_); clear hS a; intro x34 a w hS
   refine L_e hS (e_not rfl) rfl ?_; clear hS a; intro a hS
   refine L_op (s_callY hS (.cons rfl (.cons rfl .nil)) cf101 rfl (jUnless_Y (!x34.1) 10 (by decide : (10 : Int) ≠ 0) _) (fun x => (by repeat constructor)) rfl (by repeat constructor) ?_ ?_)
   ·
    intro vp wp hvp hdp hcp
    refine p_then (p_block (p_then ?_))
    exact ⟨hdp, .inr ⟨vp, ⟨hvp.1, fun ho => by have := x34.2.2 (ho.2.2 hk6).1; rw [this] at hvp; cases hvp.2⟩, rfl, hcp⟩⟩
   clear hS a; intro x36 a w hS
   refine nL (nT (cR ?_))
   (first | refine L_e hS (e_fa0 rfl ty_fo37_3) rfl ?_ | refine L_e hS (e_faK rfl ty_fo37_3) rfl ?_); clear hS a; intro a hS
   refine Rn hS (.c (e_load rfl (by repeat constructor) ty_sc35 (by rfl)) <| .c (e_len rfl rfl ty_sl35) .n) ?_; clear hS a; intro a hS
   (first | refine L_e hS (e_fa0 rfl ty_fo37_2) rfl ?_ | refine L_e hS (e_faK rfl ty_fo37_2) rfl ?_); clear hS a; intro a hS
   refine Rn hS (.c (e_load rfl (by repeat constructor) ty_sc34 (by rfl)) <| .c (e_len rfl rfl ty_sl34) <| .c (e_bin rfl rfl rfl) .n) ?_; clear hS a; intro a hS
   refine L_op (s_callY hS (.cons rfl (.cons rfl .nil)) cf101 rfl (jUnless_Y (decide ((ns.length : Int) = (rows.length : Int))) 10 (by decide : (10 : Int) ≠ 0) _) (fun x => (by repeat constructor)) rfl (by repeat constructor) ?_ ?_)
   ·
    intro vp wp hvp hdp hcp
    refine p_block (p_then ?_)
    exact ⟨hdp, .inr ⟨vp, ⟨hvp.1, fun ho => (of_decide_eq_false hvp.2) (by have := (ho.2.2 hk6).2.1; omega)⟩, rfl, hcp⟩⟩
   clear hS a; intro x44 a w hS
   have hfin : (kd = 3 → numF t = some t.length) ∧ (kd = 4 → Lib.validD t = true) ∧ (kd = 6 → (∀ x ∈ ns, Lib.validD x = true) ∧ ns.length = l.length) := ⟨fun e => by omega, fun e => by omega, fun _ => ⟨x34.2.1 (by simpa using x36.2), by have := of_decide_eq_true x44.2; omega⟩⟩
   refine nL (n_block ?_)
   exact ⟨(hS.slots (by repeat (first | exact trivial | refine ⟨rfl, ?_⟩))).pick (by repeat (first | exact Pick.nil | (refine Pick.cons (by repeat (first | exact Rem.head | apply Rem.tail)) ?_))), hfin⟩
  have hfin : (kd = 3 → numF t = some t.length) ∧ (kd = 4 → Lib.validD t = true) ∧ (kd = 6 → (∀ x ∈ ns, Lib.validD x = true) ∧ ns.length = l.length) := ⟨fun e => by omega, fun e => by omega, fun e => by omega⟩
  refine wS (n_block ?_)
  exact ⟨(hS.slots (by repeat (first | exact trivial | refine ⟨rfl, ?_⟩))).pick (by repeat (first | exact Pick.nil | (refine Pick.cons (by repeat (first | exact Rem.head | apply Rem.tail)) ?_))), hfin⟩
 clear hS a; intro a w hS
 obtain ⟨hS, hf3, hf4, hf6⟩ := hS
 refine cS (cS (cR ?_))
 (first | refine L_e hS (e_fa0 rfl ty_fo37_0) rfl ?_ | refine L_e hS (e_faK rfl ty_fo37_0) rfl ?_); clear hS a; intro a hS
 refine Rn hS (.c (e_load rfl (by repeat constructor) ty_sc3 (by rfl)) <| .c (e_bin rfl rfl rfl) <| .m rfl .n) ?_; clear hS a; intro a hS
 replace hS := hS.is (t := 48) (c := true) rfl (decide_eq_true (by omega))
 (first | refine L_ge hS rfl rfl (e_fa0 rfl ty_fo37_0) rfl ?_ | refine L_ge hS rfl rfl (e_faK rfl ty_fo37_0) rfl ?_); clear hS a; intro a hS
 refine Rn hS (.g rfl rfl (e_load rfl (by repeat constructor) ty_sc3 (by rfl)) <| .g rfl rfl (e_bin rfl rfl rfl) <| .c (e_pk rfl rfl) .n) ?_; clear hS a; intro a hS
 refine nL (nT ?_)
 (first | refine c_ifD hS rfl ?_ ?_ | refine c_if hS rfl ?_ ?_) <;> intro hc52
 ·
  refine wp_ret (r_then ?_)
  refine c_retN hS Tryz.results37 .nil rfl ?_
  exact .inl ⟨⟨(), hf3, hf4, fun e => by omega⟩, rfl, hS.chg, none_ok _, fun b h => h.elim⟩
 have hk6 : kd = 6 := by omega
 obtain ⟨hvn, hnl⟩ := hf6 hk6
 refine wS (nT (cS (cR ?_)))
 refine Rn hS (.m rfl <| .c (e_bin rfl rfl rfl) .n) ?_; clear hS a; intro a hS
 refine L_op (s_callY hS (.cons rfl (.cons rfl .nil)) cf101 rfl (jUnless_Y (decide ((d : Int) < 32)) 20 (by decide : (20 : Int) ≠ 0) _) (fun x => (by repeat constructor)) rfl (by repeat constructor) ?_ ?_)
 ·
  intro vp wp hvp hdp hcp
  refine p_then ?_
  exact ⟨hdp, .inr ⟨vp, ⟨hvp.1, fun ho => (of_decide_eq_false hvp.2) (by have := (ho.2.2 hk6).2.2.1; omega)⟩, rfl, hcp⟩⟩
 clear hS a; intro x55 a w hS
 have hd32 : d < 32 := by have := of_decide_eq_true x55.2; omega
 refine nL (nT (cS (cR ?_)))
 (first | refine L_e hS (e_fa0 rfl ty_fo37_2) rfl ?_ | refine L_e hS (e_faK rfl ty_fo37_2) rfl ?_); clear hS a; intro a hS
 refine Rn hS (.c (e_load rfl (by repeat constructor) ty_sc34 (by rfl)) <| .c (e_len rfl rfl ty_sl34) <| .c (e_bin rfl rfl rfl) .n) ?_; clear hS a; intro a hS
 refine L_op (s_callY hS (.cons rfl (.cons rfl .nil)) cf101 rfl (jUnless_Y (decide ((rows.length : Int) ≤ 1000)) 9 (by decide : (9 : Int) ≠ 0) _) (fun x => (by repeat constructor)) rfl (by repeat constructor) ?_ ?_)
 ·
  intro vp wp hvp hdp hcp
  refine p_then ?_
  exact ⟨hdp, .inr ⟨vp, ⟨hvp.1, fun ho => (of_decide_eq_false hvp.2) (by have := (ho.2.2 hk6).2.2.2.1; omega)⟩, rfl, hcp⟩⟩
 clear hS a; intro x60 a w hS
 refine nL (nT (cS (cS (cR ?_))))
 (first | refine L_e hS (e_fa0 rfl ty_fo37_0) rfl ?_ | refine L_e hS (e_faK rfl ty_fo37_0) rfl ?_); clear hS a; intro a hS
 refine Rn hS (.c (e_load rfl (by repeat constructor) ty_sc3 (by rfl)) <| .c (e_bin rfl rfl rfl) .n) ?_; clear hS a; intro a hS
 refine nL (nT ?_)
 replace hS := hS.is (t := 63) (c := true) rfl (decide_eq_true (by omega))
 refine c_if_t hS rfl ?_
 refine cS (cR ?_)
 (first | refine L_e hS (e_fa0 rfl ty_fo37_3) rfl ?_ | refine L_e hS (e_faK rfl ty_fo37_3) rfl ?_); clear hS a; intro a hS
 refine L_e hS (e_load rfl (by repeat constructor) ty_sc35 (by rfl)) rfl ?_; clear hS a; intro a hS
 refine L_op (s_callN hS (.cons rfl .nil) cf106 rfl (Values_N na ns.length nc _) ?_); clear hS a; intro x66 a w hS
 refine L_op (s_callN hS (.cons rfl .nil) cf105 rfl (SortedV_N W0 x66 na nc ns hT hs2 _ ⟨hS.gg (X := .blk x66 [.slice na ns.length nc] 35), hS.gg (X := oldA W0)⟩) ?_); clear hS a; intro x67 a w hS
 refine L_e hS (e_assign rfl) rfl ?_; clear hS a; intro a hS
 refine nL (nT ?_)
 refine c_drawS [] (by kernel_rfl) hS (sub_cons (X := .blk b2 [.int .i64 (kd : Int), .string (tx t), .slice la rows.length lc, .slice na ns.length nc] 37) (by repeat constructor) sub_nil) ?_; clear hS; intro w hS
 simp only [List.length_cons, List.length_nil, Nat.zero_add, Nat.reduceAdd, List.replicate]
 refine Zt0 0 (tf 1 7) hS rfl want_none (e_move rfl) rfl (by kernel_rfl) rfl ?_; clear hS a; intro a hS
 (first | refine Zt0 3 [true, false, false, true, false, false, false, false] hS rfl want_none (e_fa0 rfl ty_fo37_3) rfl (by kernel_rfl) rfl ?_ | refine Zt0 3 [true, false, false, true, false, false, false, false] hS rfl want_none (e_faK rfl ty_fo37_3) rfl (by kernel_rfl) rfl ?_); clear hS a; intro a hS
 refine Rz hS (sub_cons (by repeat constructor) sub_nil) (.y 4 [true, false, false, true, true, false, false, false] rfl wN (e_load rfl (by repeat constructor) ty_sc35 (by rfl)) rfl <| .o 5 [true, false, false, true, true, true, false, false] rfl wN (e_len rfl rfl ty_sl35) rfl .n) ?_; clear hS a; intro a hS
 refine Zo 1 [true, true, false, true, true, true, false, false] hS rfl wN rfl (s_callM hS (.cons rfl .nil) cf107 rfl (CompactS_M x67 (sortL ns) (by rw [sortL_len]; exact hs2) _ (hS.ok (ownA 9 1 x67 (sortL ns).length ((sortL ns).map encStr)) (by repeat constructor))) (fun x => (by repeat constructor)) rfl ?_); clear hS a; intro x69 a w hS
 refine Z_and hS (sub_cons (by repeat constructor) sub_nil) ?_
 refine Ry hS (.o 2 (tf 6 2) rfl wN (e_len rfl rfl ty_sl35) rfl <| .o 6 (tf 7 1) rfl wN (e_bin rfl rfl rfl) rfl .n) ?_; clear hS a; intro a hS
 refine Zo 7 (tf 8 0) hS rfl wN rfl (s_callY hS (.cons rfl (.cons rfl .nil)) cf101 rfl (jUnless_Y (decide (((Lib.compact (sortL ns)).length : Int) = (ns.length : Int))) 12 (by decide : (12 : Int) ≠ 0) _) (fun x => (by repeat constructor)) rfl (by repeat constructor) ?_ ?_)
 ·
  intro vp wp hvp hdp hcp
  refine p_then ?_
  exact ⟨hdp, .inr ⟨vp, ⟨hvp.1, fun ho => (of_decide_eq_false hvp.2) (by have := (sortL_twice ns).2 (ho.2.2 hk6).2.2.2.2.1; omega)⟩, rfl, hcp⟩⟩
 clear hS a; intro x75 a w hS
 refine Z_and hS (sub_cons (by repeat constructor) sub_nil) ?_
 refine Z_done (by kernel_rfl) ?_
 refine nT (cS (cR ?_))
 (first | refine L_e hS (e_fa0 rfl ty_fo37_2) rfl ?_ | refine L_e hS (e_faK rfl ty_fo37_2) rfl ?_); clear hS a; intro a hS
 refine Rn hS (.c (e_load rfl (by repeat constructor) ty_sc34 (by rfl)) <| .c (e_len rfl rfl ty_sl34) <| .m rfl .n) ?_; clear hS a; intro a hS
 refine nL (nT (wB ?_))
 skip
 refine c_loop (γ := Nat) (fun k a w => St 88 none_.F w0 a w [(79, .int .i64 (k : Int)), (78, .int .i64 (rows.length : Int)), (77, .slice la rows.length lc), (1, .int .i64 (d : Int))] [none_, oldA W0] ∧ k ≤ rows.length ∧ ∀ (j : Nat) (x : JV), j < k → l[j]? = some x → okF n (d + 1) x) (fun k => rows.length - k) 0 ⟨(hS.slots (by repeat (first | exact trivial | refine ⟨rfl, ?_⟩))).pick (by repeat (first | exact Pick.nil | (refine Pick.cons (by repeat (first | exact Rem.head | apply Rem.tail)) ?_))), Nat.zero_le _, fun j _ hj => by omega⟩ ?_
 clear hS a; intro k a w hI
 obtain ⟨hS, hk, hno⟩ := hI
 refine cS (cR ?_)
 refine L_e hS (e_bin rfl rfl rfl) rfl ?_; clear hS a; intro a hS
 refine nL (nT (cS ?_))
 (first | refine c_ifD hS rfl ?_ ?_ | refine c_if hS rfl ?_ ?_) <;> intro hc80
 ·
  have hkn : k < rows.length := by omega
  obtain ⟨lb, lo, lc', e3, hlb, hcl⟩ := rw_rows hn2 (fun e => by rw [e] at hkn; exact absurd hkn (Nat.not_lt_zero _))
  injection e3 with e3 _ _
  subst e3
  obtain ⟨v, hv⟩ : ∃ x, l[k]? = some x := ⟨_, List.getElem?_eq_getElem (by omega)⟩
  obtain ⟨r, hr⟩ : ∃ x, rows[k]? = some x := ⟨_, List.getElem?_eq_getElem hkn⟩
  have hjv := hn4 k v r hv hr
  obtain ⟨lv2, nv2, ⟨a1, a2, a3, rfl⟩, ⟨a4, a5, a6, rfl⟩, hrc⟩ := hjv.four
  subst hrc
  refine wS (nT (cS (wB (cS (cR ?_)))))
  refine Rn hS (.c (e_ixN rfl rfl ty_sl34 ty_sz37 (by omega)) <| .c (e_loadAC (l := [.int .i64 (v.k : Int), .string (tx v.t), .slice a1 a2 a3, .slice a4 a5 a6]) rfl ty_st37 ty_sz37 (fun w hh j x hx => old_cell (hh (oldA W0) (by repeat constructor)) (hcl k _ hr j x hx))) .n) ?_; clear hS a; intro a hS
  refine L_op (s_alloc hS ty_z37 rfl ?_); clear hS a; intro a w b6 hS
  refine L_op (s_storeA hS rfl rfl ty_sz37 (by repeat constructor) (by rfl) (by rfl) (by rfl) ?_); clear hS; intro w hS
  refine nL (nT (cR ?_))
  refine Rn hS (.c (e_loadA rfl (by repeat constructor) ty_st37 ty_sz37 (by rfl)) <| .m rfl .n) ?_; clear hS a; intro a hS
  (first | refine L_e hS (e_binN rfl rfl rfl (by omega)) rfl ?_ | refine L_e hS (e_bin rfl rfl rfl) rfl ?_); clear hS a; intro a hS
  refine L_op (s_callY hS (.cons rfl (.cons rfl .nil)) cf37 rfl (IH v _ (d + 1) _ (hg4 hk6 v (List.mem_of_getElem? hv)) (hs5 v (List.mem_of_getElem? hv)) hjv (hS.gg (X := oldA W0)) (by omega)) (fun x => (by repeat constructor)) rfl (by repeat constructor) ?_ ?_)
  ·
   intro vp wp hvp hdp hcp
   refine p_block (p_then (p_then (p_block ?_)))
   exact ⟨hdp, .inr ⟨vp, ⟨hvp.1, fun ho => hvp.2 ((ho.2.2 hk6).2.2.2.2.2 v (List.mem_of_getElem? hv))⟩, rfl, hcp⟩⟩
  clear hS a; intro x86 a w hS
  refine nL (n_block (nT (cR ?_)))
  (first | refine L_e hS (e_binN rfl rfl rfl (by omega)) rfl ?_ | refine L_e hS (e_bin rfl rfl rfl) rfl ?_); clear hS a; intro a hS
  refine L_e hS (e_move rfl) rfl ?_; clear hS a; intro a hS
  refine nL ?_
  refine ⟨k + 1, by omega, (hS.slots (by repeat (first | exact trivial | refine ⟨rfl, ?_⟩))).pick (by repeat (first | exact Pick.nil | (refine Pick.cons (by repeat (first | exact Rem.head | apply Rem.tail)) ?_))), hkn, fun j x hj hx => ?_⟩
  by_cases e : j = k
  · subst e; rw [hv] at hx; cases hx; exact x86.2
  · exact hno j x (by omega) hx
 refine wp_exit ?_
 refine x_then (x_then (x_hit ?_))
 refine r_norm ?_
 refine c_retN hS Tryz.results37 .nil rfl ?_
 refine .inl ⟨⟨(), hf3, hf4, fun _ => ⟨hvn, hnl, by have := of_decide_eq_true x55.2; omega, by have := of_decide_eq_true x60.2; omega, (sortL_twice ns).1 (by have := of_decide_eq_true x75.2; omega), fun x hx => ?_⟩⟩, rfl, hS.chg, none_ok _, fun b h => h.elim⟩
 obtain ⟨j, hj⟩ := List.getElem?_of_mem hx
 exact hno j x (by have := (List.getElem?_eq_some_iff.1 hj).1; omega) hj
theorem check_all (W0 : World) (hU : Lib.Utf8Tabs 0 1 W0) : ∀ n, CheckC W0 n
 | 0 => fun _ _ _ _ hg => absurd hg (fun h => h)
 | n + 1 => check_step W0 hU n (check_all W0 hU n)
theorem RwAt.old {s : Nat} {v : Value} {rows : List (List Value)} {W W' : World} (h : RwAt s v rows W) (ho : oldφ W W') : RwAt s v rows W' := by
 rcases h with h | ⟨b, off, c, h1, rfl, h3, h4⟩
 · exact .inl h
 · exact .inr ⟨b, off, c, h1, rfl, h3.keep (ho.2 b h4), Nat.lt_of_lt_of_le h4 ho.1⟩
theorem JAt.old {n : Nat} {v : JV} {cs : List Value} {W W' : World} (h : JAt n v cs W) (ho : oldφ W W') : JAt n v cs W' := by
 induction n generalizing v cs with
 | zero => exact h
 | succ n ih =>
   cases v with
   | mk k t ns l =>
     obtain ⟨lv, nv, rows, e, h1, h2, h3, h4⟩ := h
     exact ⟨lv, nv, rows, e, h1.old ho, h2.old ho, h3, fun i v r hv hr => ih (h4 i v r hv hr)⟩
theorem pj_ne {n : Nat} {v r : JV} {tv : List UInt8} (hg : goodV n v) (h : PJ n v r tv) : tv ≠ [] := by
 cases n with
 | zero => exact absurd hg (fun h => h)
 | succ n =>
   cases v with
   | mk k t ns l =>
     rcases h with ⟨hk, rfl, rfl⟩ | ⟨hk, rfl, rfl⟩ | ⟨hk, rfl, rfl⟩ | ⟨hk, ms, hp, hs, hm, rfl, rfl⟩
     · have := numLit_ne (hg.2.2.1 hk)
       intro e; rw [e] at this; exact absurd this (by decide)
     · unfold quoteL; simp
     · obtain _ | _ | _ | k := k
       · decide
       · decide
       · decide
       · omega
     · simp
set_option maxRecDepth 100000 in
theorem jPrintF_Y (W0 : World) (hU : Lib.Utf8Tabs 0 1 W0) (n bp : Nat) (v : JV) (cs : List Value) (hg : goodV n v) (hsm : smV n v) (hj : JAt n v cs W0) (hbox : W0.heap[bp]? = some (.cells cs.toArray 37 (0, 0))) (w0 : World) (hold : oldφ W0 w0) :
 MayC Tryz.prog 36 [.pointer (some ⟨bp, 0, none⟩)] w0 (fun u => isFault eNo u ∧ ¬ okF n 0 v) none_ (fun _ : { _u : Unit // okF n 0 v } => .agg zeroJ.toArray) (fun _ => none_) := by
 obtain ⟨lv2, nv2, ⟨a1, a2, a3, rfl⟩, ⟨a4, a5, a6, rfl⟩, hrc⟩ := hj.four
 subst hrc
 refine c_enter [(0, .pointer (some ⟨bp, 0, none⟩))] [none_, oldA W0] none_.F Tryz.func36 rfl Tryz.ntmps36 ⟨rfl, trivial⟩ rfl (okC (none_ok _) (okC (old_ok hold) okN)) (disC (sepC (fun k h _ => h) sepN) dis1) (mineO (fun _ hb => hb) (mineC rfl mineN)) ?_
 intro a hS
 refine cS (cR ?_)
 refine L_op (s_alloc hS ty_z37 rfl ?_); clear hS a; intro a w b1 hS
 refine nL (nT (cS (cR ?_)))
 refine L_e hS (e_loadAC (k := 0) (l := [.int .i64 (v.k : Int), .string (tx v.t), .slice a1 a2 a3, .slice a4 a5 a6]) rfl ty_st37 ty_sz37 (fun w hh j x hx => old_cell (hh (oldA W0) (by repeat constructor)) (by rw [Nat.zero_add]; exact cell_of_blk hbox hx))) rfl ?_; clear hS a; intro a hS
 refine L_op (s_callY hS (.cons rfl (.cons rfl .nil)) cf37 rfl (check_all W0 hU n v _ 0 _ hg hsm hj (hS.gg (X := oldA W0)) (by omega)) (fun x => (by repeat constructor)) rfl (by repeat constructor) ?_ ?_)
 ·
  intro vp wp hvp hdp hcp
  refine p_then ?_
  exact ⟨hdp, .inr ⟨vp, hvp, rfl, hcp⟩⟩
 clear hS a; intro x3 a w hS
 refine nL (nT (cS (cR ?_)))
 refine L_e hS (e_build ty_z37 ty_pl37 .nil) rfl ?_; clear hS a; intro a hS
 refine L_op (s_storeA hS rfl rfl ty_sz37 (by repeat constructor) (by rfl) (by rfl) (by rfl) ?_); clear hS; intro w hS
 refine nL (nT (wp_ret ?_))
 refine c_ret1 hS Tryz.results36 (.cellA rfl (by repeat constructor) ty_st37 ty_sz37 (by rfl)) ?_
 exact .inl ⟨⟨(), x3.2⟩, rfl, hS.chg, none_ok _, fun b h => h.elim⟩
def PrR (n : Nat) (v : JV) : Type := { x : (Nat × Nat) × JV × List UInt8 // okF n 0 v ∧ PJ n v x.2.1 x.2.2 ∧ x.2.2.length ≤ 65536 ∧ x.2.2.length ≤ x.1.2 } ⊕ { e : Int // eNo e ∧ (okF n 0 v → 65536 < lenJ n v) }
def prV (n : Nat) (v : JV) : PrR n v → Value
 | .inl x => .tuple [.slice (some ⟨x.1.1.1, 0, none⟩) x.1.2.2.length x.1.1.2, .int .i64 0].toArray
 | .inr e => .tuple [.slice none 0 0, .int .i64 e.1].toArray
def prY (n : Nat) (v : JV) : PrR n v → Asn
 | .inl x => bbA 5 x.1.1.1 (bsI x.1.2.2)
 | .inr _ => none_
set_option maxHeartbeats 1000000 in
set_option maxRecDepth 100000 in
theorem jPrint_N (n : Nat) (v : JV) (cs : List Value) (w0 : World) (hU : Lib.Utf8Tabs 0 1 w0) (hg : goodV n v) (hsm : smV n v) (hj : JAt n v cs w0) (hl : lenJ n v ≤ 9000000) : NewC Tryz.prog 12 [.agg cs.toArray] w0 (prV n v) (prY n v) := by
 obtain ⟨lv2, nv2, ⟨a1, a2, a3, rfl⟩, ⟨a4, a5, a6, rfl⟩, hrc⟩ := hj.four
 subst hrc
 refine c_enter [(0, .agg [.int .i64 (v.k : Int), .string (tx v.t), .slice a1 a2 a3, .slice a4 a5 a6].toArray)] [oldA w0] noB Tryz.func12 rfl Tryz.ntmps12 ⟨rfl, trivial⟩ rfl (okC (old_ok (old_refl _)) okN) dis1 (mineC rfl mineN) ?_
 intro a hS
 refine cS (cR ?_)
 refine L_op (s_boxA hS rfl rfl ?_); clear hS a; intro a w b1 hS
 refine Rn hS (.a rfl <| .a rfl .n) ?_; clear hS a; intro a hS
 refine nL (nT (cS (cS (cR ?_))))
 obtain ⟨W1, rfl⟩ : ∃ W, W = w := ⟨_, rfl⟩
 have hold1 : oldφ w0 W1 := hS.gg (X := oldA w0)
 have hbox : W1.heap[b1]? = some (.cells [.int .i64 (v.k : Int), .string (tx v.t), .slice a1 a2 a3, .slice a4 a5 a6].toArray 37 (0, 0)) := hS.gg (X := .blk b1 [.int .i64 (v.k : Int), .string (tx v.t), .slice a1 a2 a3, .slice a4 a5 a6] 37)
 have hj1 := hj.old hold1
 have hU1 : Lib.Utf8Tabs 0 1 W1 := ⟨fun c hc => old_cell hold1 (hU.1 c hc), fun i hi => ⟨old_cell hold1 (hU.2 i hi).1, old_cell hold1 (hU.2 i hi).2⟩⟩
 replace hS := hS.toOld.more (none_ok _) (fun b h => h)
 refine L_e hS (e_makeFunc .nil (.cons rfl .nil)) rfl ?_; clear hS a; intro a hS
 refine L_op (s_callM hS (.cons rfl .nil) cf31 rfl (guarded_M 36 [.pointer (some ⟨b1, 0, none⟩)] (fun e => eNo e ∧ ¬ okF n 0 v) none_ (fun _ : { _u : Unit // okF n 0 v } => zeroJ) (fun _ => none_) cf36 rfl (fun x => ⟨_, _, _, _, rfl, rfl, rfl, rfl, rfl⟩) _ (fun _ => rfl) (none_ok _) (fun w' hX hch => (jPrintF_Y W1 hU1 n b1 v _ hg hsm hj1 hbox w' (old_chg (hS.gg (X := oldA W1)) hch)).pan (fun v ⟨⟨p, e, he, hv⟩, hb⟩ => ⟨p, e, ⟨he, hb⟩, hv⟩))) (fun x => (by repeat constructor)) rfl ?_); clear hS a; intro x9 a w hS
 obtain ⟨jk, js, ja, jm, jc, ja', jm', jc', p, e, hgu, hres⟩ := gu_open (E := fun e => eNo e ∧ ¬ okF n 0 v) (V := fun _ : { _u : Unit // okF n 0 v } => zeroJ) (Y := fun _ => none_) x9 (fun y hy => ⟨_, _, _, _, _, _, _, _, rfl⟩) (hS.ok (guY (fun e => eNo e ∧ ¬ okF n 0 v) (fun _ : { _u : Unit // okF n 0 v } => none_) x9) (by repeat constructor))
 rw [hgu] at hS
 refine Rn hS (.m rfl <| .c (e_extract rfl rfl) <| .c (e_extract rfl rfl) .n) ?_; clear hS a; intro a hS
 refine L_op (s_alloc hS ty_z37 rfl ?_); clear hS a; intro a w b4 hS
 refine L_op (s_alloc hS ty_z95 rfl ?_); clear hS a; intro a w b5 hS
 refine L_op (s_storeA hS rfl rfl ty_sz37 (by repeat constructor) (by rfl) (by rfl) (by rfl) ?_); clear hS; intro w hS
 refine L_op (s_storeA hS rfl rfl ty_sz95 (by repeat constructor) (by rfl) (by rfl) (by rfl) ?_); clear hS; intro w hS
 refine nL (nT (cS (cR ?_)))
 (first | refine L_e hS (e_fa0 rfl ty_fo95_1) rfl ?_ | refine L_e hS (e_faK rfl ty_fo95_1) rfl ?_); clear hS a; intro a hS
 refine Rn hS (.c (e_load rfl (by repeat constructor) ty_sc30 (by rfl)) <| .c (e_bin rfl rfl rfl) .n) ?_; clear hS a; intro a hS
 refine nL (nT ?_)
 (first | refine c_ifD hS rfl ?_ ?_ | refine c_if hS rfl ?_ ?_) <;> intro hc14
 ·
  have hno : ¬ okF n 0 v := by
   rcases hres with ⟨y, _, _, _, he⟩ | ⟨pe, _, _, _, _⟩
   · exact absurd he hc14
   · exact pe.2.2
  refine cS ?_
  refine c_drawS [] (by kernel_rfl) hS (sub_cons (X := .blk b5 [.int .i64 p, .int .i64 e] 95) (by repeat constructor) sub_nil) ?_; clear hS; intro w hS
  simp only [List.length_cons, List.length_nil, Nat.zero_add, Nat.reduceAdd, List.replicate]
  (first | refine Zt0 0 [true, false, false, false] hS rfl want_none (e_fa0 rfl ty_fo95_1) rfl (by kernel_rfl) rfl ?_ | refine Zt0 0 [true, false, false, false] hS rfl want_none (e_faK rfl ty_fo95_1) rfl (by kernel_rfl) rfl ?_); clear hS a; intro a hS
  refine Rz hS (sub_cons (by repeat constructor) sub_nil) (.y 1 [true, true, false, false] rfl wN (e_load rfl (by repeat constructor) ty_sc30 (by rfl)) rfl <| .o 2 [true, true, true, false] rfl wN (e_assign rfl) rfl <| .o 3 [true, true, true, true] rfl wN (e_assign rfl) rfl .n) ?_; clear hS a; intro a hS
  refine Z_done (by kernel_rfl) ?_
  refine nT (wp_ret (r_then ?_))
  refine c_retN hS Tryz.results12 (.cons (.tmp rfl) (.cons (.tmp rfl) .nil)) rfl ?_
  exact ⟨.inr ⟨e, hc14, fun ho => absurd ho hno⟩, rfl, hS.chg, none_ok _, fun b h => h.elim⟩
 have hok : okF n 0 v := by
  rcases hres with ⟨y, _, _, _, _⟩ | ⟨pe, _, _, _, he⟩
  · exact y.2
  · exact absurd (he.symm.trans (Classical.not_not.1 hc14)) pe.2.1
 refine wS (nT (cS (cR ?_)))
 refine L_e hS (e_build ty_z106 ty_pl106 .nil) rfl ?_; clear hS a; intro a hS
 refine L_op (s_boxA hS rfl rfl ?_); clear hS a; intro a w b18 hS
 refine L_e hS (e_assign rfl) rfl ?_; clear hS a; intro a hS
 refine nL (nT (cS (cR ?_)))
 refine Rn hS (.m rfl <| .c (e_loadAC (k := 0) (l := [.int .i64 (v.k : Int), .string (tx v.t), .slice a1 a2 a3, .slice a4 a5 a6]) rfl ty_st37 ty_sz37 (fun w hh j x hx => old_cell (hh (oldA W1) (by repeat constructor)) (by rw [Nat.zero_add]; exact cell_of_blk hbox hx))) .n) ?_; clear hS a; intro a hS
 replace hS : St _ _ _ _ _ _ [bldA 106 b18 none (.slice none 0 0) [], .blk b5 [.int .i64 p, .int .i64 e] 95, .blk b4 [.int .i64 jk, .string js, .slice ja jm jc, .slice ja' jm' jc'] 37, guY (fun e => eNo e ∧ ¬ okF n 0 v) (fun _ : { _u : Unit // okF n 0 v } => none_) x9, oldA W1] := ((hS.own_nil 5 1).pick (Γ' := [.blk b18 [.pointer none, .slice none 0 0] 106, ownA 5 1 (.slice none 0 0) 0 [], .blk b5 [.int .i64 p, .int .i64 e] 95, .blk b4 [.int .i64 jk, .string js, .slice ja jm jc, .slice ja' jm' jc'] 37, guY (fun e => eNo e ∧ ¬ okF n 0 v) (fun _ : { _u : Unit // okF n 0 v } => none_) x9, oldA W1]) (by repeat (first | exact Pick.nil | (refine Pick.cons (by repeat (first | exact Rem.head | apply Rem.tail)) ?_)))).duo rfl rfl
 refine L_op (s_callM hS (.cons rfl (.cons rfl .nil)) cf38 rfl (lay_all W1 n v _ 0 b18 none (.slice none 0 0) [] _ hg hok hj1 (.inl rfl) (by simpa using hl) (hS.ok (bldA 106 b18 none (.slice none 0 0) []) (by repeat constructor)) (hS.gg (X := oldA W1)) (fun k hk => Nat.not_lt.1 fun h2 => hS.sep (X := bldA 106 b18 none (.slice none 0 0) []) (Y := oldA W1) (by repeat constructor) (by repeat constructor) k hk h2)) (fun x => (by repeat constructor)) rfl ?_); clear hS a; intro x21 a w hS
 obtain ⟨⟨s', r, tv⟩, hpj⟩ := x21
 simp only [List.nil_append] at hpj hS
 have htl := pj_len n v r tv hpj
 refine nL (nT (cS (cS (cR ?_))))
 refine Rn hS (.m rfl <| .c (e_nilCheck rfl) .n) ?_; clear hS a; intro a hS
 (first | refine L_e hS (e_fa0 rfl ty_fo106_0) rfl ?_ | refine L_e hS (e_faK rfl ty_fo106_0) rfl ?_); clear hS a; intro a hS
 refine L_op (s_callP hS (.cons rfl .nil) cf39 rfl (bLen_P 106 b18 _ s' tv _ (hS.ok (bldA 106 b18 (some ⟨b18, 0, none⟩) s' tv) (by repeat constructor))) ?_); clear hS a; intro a w hS
 refine L_e hS (e_bin rfl rfl rfl) rfl ?_; clear hS a; intro a hS
 refine nL (nT ?_)
 (first | refine c_ifD hS rfl ?_ ?_ | refine c_if hS rfl ?_ ?_) <;> intro hc26
 ·
  refine cS (cR ?_)
  refine Rn hS (.a rfl <| .a rfl .n) ?_; clear hS a; intro a hS
  refine nL (nT (wp_ret (r_then ?_)))
  refine c_retN hS Tryz.results12 (.cons (.tmp rfl) (.cons (.tmp rfl) .nil)) rfl ?_
  exact ⟨.inr ⟨8, (by decide : (8 : Int) ≠ 0), fun _ => by omega⟩, rfl, hS.chg, none_ok _, fun b h => h.elim⟩
 refine wS (nT (cS (cR ?_)))
 refine Rn hS (.m rfl <| .c (e_nilCheck rfl) .n) ?_; clear hS a; intro a hS
 (first | refine L_e hS (e_fa0 rfl ty_fo106_0) rfl ?_ | refine L_e hS (e_faK rfl ty_fo106_0) rfl ?_); clear hS a; intro a hS
 refine L_op (s_callM hS (.cons rfl .nil) cf40 rfl (bString_M 106 b18 _ s' tv (pj_ne hg hpj) (by omega) _ (hS.ok (bldA 106 b18 (some ⟨b18, 0, none⟩) s' tv) (by repeat constructor))) (fun x => (by repeat constructor)) rfl ?_); clear hS a; intro x30 a w hS
 refine L_op (s_toBytes hS rfl Tryz.underlying9 ty_sl27 ty_u5 rfl ?_)
 clear hS a; intro b31 c31 a w hc31 hS
 rw [show bytesI (tx tv) = bsI tv from rfl, bsI_len] at hS hc31
 refine Rn hS (.a rfl <| .a rfl .n) ?_; clear hS a; intro a hS
 refine nL (nT (wp_ret ?_))
 refine c_retN hS Tryz.results12 (.cons (.tmp rfl) (.cons (.tmp rfl) .nil)) rfl ?_
 refine ⟨.inl ⟨((b31, c31), r, tv), hok, hpj, by show tv.length ≤ 65536; omega, hc31⟩, rfl, hS.chg, hS.ok (bbA 5 b31 (bsI tv)) (by repeat constructor), fun b hb => (hS.mine (bbA 5 b31 (bsI tv)) (by repeat constructor) rfl b hb).resolve_right (fun h => h)⟩
section
variable {P : Program} {n : NN} {F0 : Nat → Prop} {w0 : World} {a : Act} {w : World} {L : List (Nat × Value)} {Γ : List Asn}
variable {K : Act → World → Prop} {Q : Exit → Act → World → Prop} {d ty : Nat} {dst : Option Tmp} {pos : String} {af : Array Edge} {g : Option (Nat × Bool)}
theorem run_append_empty (t ty e : TypeId) (i : TypeInfo) (size : Nat) (ht : P.underlying t = some (.slice e)) (hi : P.info? e = some i)
 (v : Value) (n : Nat) (xs : List Value) (hown : w.ownsRow 0 e size v n xs) (q : Option Addr) (c : Nat) :
 (Builtin.append_ #[t, t] ty #[v, .slice q 0 c]).run P w = .ok v w := by
 rcases hown.2 with ⟨rfl, rfl⟩ | ⟨g, cap, cur, rfl, _, _, hnc, _⟩
 · cases q <;> simp [Builtin.append_, run_underlying ht, sizeOf, typeInfo, hi, Builtin.lenOf, Builtin.firstCells, loadCells, loadCellsFrom]
 · cases q <;> simp [Builtin.append_, run_underlying ht, sizeOf, typeInfo, hi, Builtin.lenOf, Builtin.firstCells, hnc, storeCells, loadCells, loadCellsFrom]
theorem s_appendN {T E s b : Nat} {zs : List Value} {x y : Operand} {v : Value} {m k c : Nat} {q : Option Addr} {cs ys : List Value} {Γ' : Value → List Asn} (hS : St n F0 w0 a w L Γ) (hx : ev L x = some v) (hy : ev L y = some (.slice q k c))
 (hT : sliceT P T = some E) (hs : szOf P E = some s) (hb : byOf P E = some b) (hz : zeroOf P E = some zs) (hzl : Nat.beq zs.length s = true) (hs0 : Nat.blt 0 s = true) (hn : Nat.blt d n.n = true)
 (hm : ownA E s v m cs ∈ Γ) (hyl : ys.length = k * s) (hq : k ≠ 0 → ∃ bx ox, q = some ⟨bx, ox, none⟩ ∧ ∀ j u, ys[j]? = some u → w.cell? ⟨bx, ox + j, none⟩ = some u) (h1 : ∀ u ∈ ys, isOne u = true) (hbd : (m + k) * b ≤ 140737488355328 ∧ m + k ≤ 4611686018427387904)
 (hr : ∀ v', Rep (ownA E s v m cs) (ownA E s v' (m + k) (cs ++ ys)) Γ (Γ' v'))
 (h : ∀ v' a' w', (v' = .slice none 0 0 ↔ v = .slice none 0 0 ∧ k = 0) → St n F0 w0 a' w' ((d, v') :: L) (Γ' v') → K a' w') : OW P ⟨some d, .call ⟨.builtin .append, #[x, y], #[T, T]⟩, ty, pos, af, g⟩ a w K Q := by
 by_cases hk : k = 0
 · subst hk
   obtain rfl : ys = [] := List.eq_nil_of_length_eq_zero (by simpa using hyl)
   obtain ⟨i, z, hi, hz', hsz, hby, hzc⟩ := info_of hs hb hz
   have hown : w.ownsRow 0 E s v m cs := hS.get hm
   have hrun := run_append_empty (P := P) T ty E i s (sliceT_eq hT) hi v m cs hown q c
   have he : (execOp a.eval (⟨some d, .call ⟨.builtin .append, #[x, y], #[T, T]⟩, ty, pos, af, g⟩ : Oper)).run P w = .ok (.value v) w := by
    simp [execOp, resolve, invoke, builtin, hS.sl.ev hx, hS.sl.ev hy, hrun]
   refine ⟨?_⟩
   unfold Oper.wp
   rw [he]
   refine h v _ _ (by simp) ((hS.upd (hr v) (Chg.refl _ _) ?_ (fun b hb => .inl hb) rfl).put hn _)
   rw [Nat.add_zero, List.append_nil]
   exact ok_own hown
 · obtain ⟨bx, ox, rfl, hys⟩ := hq hk
   exact s_append hS hx hy hT hs hb hz hzl hs0 hn hm hyl hys h1 hbd hr h
end
theorem txs_read {W : World} {sa : Option Addr} {names : List (List UInt8)} (hT : TxsAt W sa names) {w : World} (ho : oldφ W w) : names.length ≠ 0 → ∃ bx ox, sa = some ⟨bx, ox, none⟩ ∧ ∀ j u, (names.flatMap encS)[j]? = some u → w.cell? ⟨bx, ox + j, none⟩ = some u := fun hne => by
 obtain ⟨nb, no, e, hc⟩ := hT.at_ (fun e => hne (by rw [e]; rfl))
 refine ⟨nb, no, e, fun j u hj => old_cell ho ?_⟩
 have e2 : names.flatMap encS = names.map fun x => .string (tx x) := by
  clear hc hne hT hj
  induction names with
  | nil => rfl
  | cons x l ih => rw [List.flatMap_cons, ih]; rfl
 rw [e2, List.getElem?_map, Option.map_eq_some_iff] at hj
 obtain ⟨x, hx, rfl⟩ := hj
 exact hc j x hx
end Go.Proofs.YtlccmgeclhdegaaGreatDoor
namespace Go.Proofs.YtlccmgeclhdegaaGreatDoor
open Go.RowKit
def OwnC (W0 : World) (n : Nat) : Prop := ∀ (v : JV) (cs : List Value) (w0 : World), JAt n v cs W0 → smV n v → oldφ W0 w0 →
 NewC Tryz.prog 155 [.agg cs.toArray] w0 (fun x : { x : JX // x.v = v } => .agg x.1.cs.toArray) (fun x => jxA n x.1)
set_option maxHeartbeats 2000000 in
set_option maxRecDepth 100000 in
theorem own_step (W0 : World) (n : Nat) (IH : OwnC W0 n) : OwnC W0 (n + 1) := by
 intro v cs w0 hj hsm hold
 cases v with
 | mk kd t ns l =>
 obtain ⟨lv, nv, rows, rfl, hn1, hn2, hn3, hn4⟩ := hj
 obtain ⟨na, nc, rfl, hT⟩ := txs_of hn1
 obtain ⟨la, lc, rfl⟩ := hn2.shape
 obtain ⟨hs1, hs2, hs3, hs4, hs5⟩ := hsm
 have hfl : (ns.flatMap encS).length = ns.length := by simpa using flat_len encS 1 (fun _ => rfl) ns
 refine c_enter [(0, .agg [.int .i64 (kd : Int), .string (tx t), .slice la rows.length lc, .slice na ns.length nc].toArray)] [oldA W0] noB Tryz.func155 rfl Tryz.ntmps155 ⟨rfl, trivial⟩ rfl (okC (old_ok hold) okN) dis1 (mineC rfl mineN) ?_
 intro a hS
 refine cS (cR ?_)
 refine L_op (s_boxA hS rfl rfl ?_); clear hS a; intro a w b1 hS
 refine L_op (s_alloc hS ty_z37 rfl ?_); clear hS a; intro a w b2 hS
 refine nL (nT ?_)
 refine c_cut (fun a w => ∃ (b3 : Nat) (q : Option Addr) (c : Nat), St 34 noB w0 a w [(3, .pointer (some ⟨b3, 0, none⟩)), (1, .pointer (some ⟨b1, 0, none⟩)), (2, .pointer (some ⟨b2, 0, none⟩))] [.blk b3 [.int .i64 (kd : Int), .string (tx t), .slice none 0 0, .slice q ns.length c] 37, ownA 9 1 (.slice q ns.length c) ns.length (ns.flatMap encS), .blk b1 [.int .i64 (kd : Int), .string (tx t), .slice la rows.length lc, .slice na ns.length nc] 37, .blk b2 zeroJ 37, oldA W0]) ?_ ?_
 ·
  refine c_drawS [] (by kernel_rfl) hS (sub_cons (X := .blk b1 [.int .i64 (kd : Int), .string (tx t), .slice la rows.length lc, .slice na ns.length nc] 37) (by repeat constructor) sub_nil) ?_; clear hS; intro w hS
  simp only [List.length_cons, List.length_nil, Nat.zero_add, Nat.reduceAdd, List.replicate]
  (first | refine Zt0 0 (tf 1 13) hS rfl want_none (e_fa0 rfl ty_fo37_0) rfl (by kernel_rfl) rfl ?_ | refine Zt0 0 (tf 1 13) hS rfl want_none (e_faK rfl ty_fo37_0) rfl (by kernel_rfl) rfl ?_); clear hS a; intro a hS
  refine Zt 1 (tf 2 12) hS rfl want_none (e_load rfl (by repeat constructor) ty_sc3 (by rfl)) rfl (by kernel_rfl) (sub_cons (by repeat constructor) sub_nil) rfl ?_; clear hS a; intro a hS
  (first | refine Zt0 2 (tf 3 11) hS rfl want_none (e_fa0 rfl ty_fo37_1) rfl (by kernel_rfl) rfl ?_ | refine Zt0 2 (tf 3 11) hS rfl want_none (e_faK rfl ty_fo37_1) rfl (by kernel_rfl) rfl ?_); clear hS a; intro a hS
  refine Zt 3 (tf 4 10) hS rfl want_none (e_load rfl (by repeat constructor) ty_sc9 (by rfl)) rfl (by kernel_rfl) (sub_cons (by repeat constructor) sub_nil) rfl ?_; clear hS a; intro a hS
  (first | refine Zt0 4 (tf 5 9) hS rfl want_none (e_fa0 rfl ty_fo37_3) rfl (by kernel_rfl) rfl ?_ | refine Zt0 4 (tf 5 9) hS rfl want_none (e_faK rfl ty_fo37_3) rfl (by kernel_rfl) rfl ?_); clear hS a; intro a hS
  refine Rz hS (sub_cons (by repeat constructor) sub_nil) (.y 5 (tf 6 8) rfl wN (e_load rfl (by repeat constructor) ty_sc35 (by rfl)) rfl <| .o 6 (tf 7 7) rfl wN (e_len rfl rfl ty_sl35) rfl .n) ?_; clear hS a; intro a hS
  (first | refine Zt0 8 [true, true, true, true, true, true, true, false, true, false, false, false, false, false] hS rfl want_none (e_fa0 rfl ty_fo37_3) rfl (by kernel_rfl) rfl ?_ | refine Zt0 8 [true, true, true, true, true, true, true, false, true, false, false, false, false, false] hS rfl want_none (e_faK rfl ty_fo37_3) rfl (by kernel_rfl) rfl ?_); clear hS a; intro a hS
  refine Zt 9 [true, true, true, true, true, true, true, false, true, true, false, false, false, false] hS rfl want_none (e_load rfl (by repeat constructor) ty_sc35 (by rfl)) rfl (by kernel_rfl) (sub_cons (by repeat constructor) sub_nil) rfl ?_; clear hS a; intro a hS
  refine Z_many (j := 7) (js := [12]) (by kernel_rfl) ⟨?_, ?_, trivial⟩
  ·
   refine Z_op (i := 7) rfl (want_none a hS.sl) (listed' := (tf 10 4)) rfl (s_make0 hS rfl rfl ty_sl35 ty_sz9 ty_by9 ty_z9 rfl (by omega) ?_); clear hS a; intro x13 a w hS
   refine Z_and hS (sub_cons (by repeat constructor) sub_nil) ?_
   refine Z_many (j := 10) (js := [12]) (by kernel_rfl) ⟨?_, ?_, trivial⟩
   ·
    refine Z_op (i := 10) rfl (want_none a hS.sl) (listed' := (tf 11 3)) rfl (s_appendN hS rfl rfl ty_sl35 ty_sz9 ty_by9 ty_z9 rfl rfl rfl (by repeat constructor) (ys := ns.flatMap encS) (by rw [hfl, Nat.mul_one]) (txs_read hT (hS.gg (X := oldA W0))) (fun u hu => by obtain ⟨x, _, hx⟩ := List.mem_flatMap.1 hu; obtain rfl := List.mem_singleton.1 hx; rfl) (by omega) (fun _ => (by repeat constructor)) ?_); clear hS a; intro v16 a w hv16 hS
    obtain ⟨q16, c16, rfl⟩ := own_slice (hS.gg (X := ownA 9 1 v16 (0 + ns.length) ([] ++ ns.flatMap encS)))
    rw [Nat.zero_add, List.nil_append] at hS
    refine Z_and hS (sub_cons (by repeat constructor) sub_nil) ?_
    refine Zt0 11 (tf 12 2) hS rfl want_none (e_build ty_z37 ty_pl37 (.one rfl rfl rfl (by repeat constructor) (.one rfl rfl rfl (by repeat constructor) (.one rfl rfl rfl (by repeat constructor) .nil)))) rfl (by kernel_rfl) rfl ?_; clear hS a; intro a hS
    refine Zo 12 (tf 13 1) hS rfl wN rfl (s_alloc hS ty_z37 rfl ?_); clear hS a; intro a w b3 hS
    refine Z_and hS (sub_cons (by repeat constructor) sub_nil) ?_
    refine Zo 13 (tf 14 0) hS rfl wN rfl (s_storeA hS rfl rfl ty_sz37 (by repeat constructor) (by rfl) (by rfl) (by rfl) ?_); clear hS; intro w hS
    refine Z_and hS (sub_cons (by repeat constructor) sub_nil) ?_
    refine Z_done (by kernel_rfl) ?_
    exact ⟨b3, q16, c16, (hS.slots (by repeat (first | exact trivial | refine ⟨rfl, ?_⟩))).pick (by repeat (first | exact Pick.nil | (refine Pick.cons (by repeat (first | exact Rem.head | apply Rem.tail)) ?_)))⟩
   refine Z_op (i := 12) rfl (want_none a hS.sl) (listed' := [true, true, true, true, true, true, true, true, true, true, false, false, true, false]) rfl (s_alloc hS ty_z37 rfl ?_); clear hS a; intro a w b3 hS
   refine Z_and hS (sub_cons (by repeat constructor) sub_nil) ?_
   refine Zo 10 [true, true, true, true, true, true, true, true, true, true, true, false, true, false] hS rfl wN rfl (s_appendN hS rfl rfl ty_sl35 ty_sz9 ty_by9 ty_z9 rfl rfl rfl (by repeat constructor) (ys := ns.flatMap encS) (by rw [hfl, Nat.mul_one]) (txs_read hT (hS.gg (X := oldA W0))) (fun u hu => by obtain ⟨x, _, hx⟩ := List.mem_flatMap.1 hu; obtain rfl := List.mem_singleton.1 hx; rfl) (by omega) (fun _ => (by repeat constructor)) ?_); clear hS a; intro v16 a w hv16 hS
   obtain ⟨q16, c16, rfl⟩ := own_slice (hS.gg (X := ownA 9 1 v16 (0 + ns.length) ([] ++ ns.flatMap encS)))
   rw [Nat.zero_add, List.nil_append] at hS
   refine Z_and hS (sub_cons (by repeat constructor) sub_nil) ?_
   refine Zt0 11 (tf 13 1) hS rfl want_none (e_build ty_z37 ty_pl37 (.one rfl rfl rfl (by repeat constructor) (.one rfl rfl rfl (by repeat constructor) (.one rfl rfl rfl (by repeat constructor) .nil)))) rfl (by kernel_rfl) rfl ?_; clear hS a; intro a hS
   refine Zo 13 (tf 14 0) hS rfl wN rfl (s_storeA hS rfl rfl ty_sz37 (by repeat constructor) (by rfl) (by rfl) (by rfl) ?_); clear hS; intro w hS
   refine Z_and hS (sub_cons (by repeat constructor) sub_nil) ?_
   refine Z_done (by kernel_rfl) ?_
   exact ⟨b3, q16, c16, (hS.slots (by repeat (first | exact trivial | refine ⟨rfl, ?_⟩))).pick (by repeat (first | exact Pick.nil | (refine Pick.cons (by repeat (first | exact Rem.head | apply Rem.tail)) ?_)))⟩
  refine Z_op (i := 12) rfl (want_none a hS.sl) (listed' := [true, true, true, true, true, true, true, false, true, true, false, false, true, false]) rfl (s_alloc hS ty_z37 rfl ?_); clear hS a; intro a w b3 hS
  refine Z_and hS (sub_cons (by repeat constructor) sub_nil) ?_
  refine Zo 7 [true, true, true, true, true, true, true, true, true, true, false, false, true, false] hS rfl wN rfl (s_make0 hS rfl rfl ty_sl35 ty_sz9 ty_by9 ty_z9 rfl (by omega) ?_); clear hS a; intro x13 a w hS
  refine Z_and hS (sub_cons (by repeat constructor) sub_nil) ?_
  refine Zo 10 [true, true, true, true, true, true, true, true, true, true, true, false, true, false] hS rfl wN rfl (s_appendN hS rfl rfl ty_sl35 ty_sz9 ty_by9 ty_z9 rfl rfl rfl (by repeat constructor) (ys := ns.flatMap encS) (by rw [hfl, Nat.mul_one]) (txs_read hT (hS.gg (X := oldA W0))) (fun u hu => by obtain ⟨x, _, hx⟩ := List.mem_flatMap.1 hu; obtain rfl := List.mem_singleton.1 hx; rfl) (by omega) (fun _ => (by repeat constructor)) ?_); clear hS a; intro v16 a w hv16 hS
  obtain ⟨q16, c16, rfl⟩ := own_slice (hS.gg (X := ownA 9 1 v16 (0 + ns.length) ([] ++ ns.flatMap encS)))
  rw [Nat.zero_add, List.nil_append] at hS
  refine Z_and hS (sub_cons (by repeat constructor) sub_nil) ?_
  refine Zt0 11 (tf 13 1) hS rfl want_none (e_build ty_z37 ty_pl37 (.one rfl rfl rfl (by repeat constructor) (.one rfl rfl rfl (by repeat constructor) (.one rfl rfl rfl (by repeat constructor) .nil)))) rfl (by kernel_rfl) rfl ?_; clear hS a; intro a hS
  refine Zo 13 (tf 14 0) hS rfl wN rfl (s_storeA hS rfl rfl ty_sz37 (by repeat constructor) (by rfl) (by rfl) (by rfl) ?_); clear hS; intro w hS
  refine Z_and hS (sub_cons (by repeat constructor) sub_nil) ?_
  refine Z_done (by kernel_rfl) ?_
  exact ⟨b3, q16, c16, (hS.slots (by repeat (first | exact trivial | refine ⟨rfl, ?_⟩))).pick (by repeat (first | exact Pick.nil | (refine Pick.cons (by repeat (first | exact Rem.head | apply Rem.tail)) ?_)))⟩
 clear hS a; intro a w hS
 obtain ⟨b3, q, c, hS⟩ := hS
 refine cS (cS (cR ?_))
 (first | refine L_e hS (e_fa0 rfl ty_fo37_2) rfl ?_ | refine L_e hS (e_faK rfl ty_fo37_2) rfl ?_); clear hS a; intro a hS
 refine Rn hS (.c (e_load rfl (by repeat constructor) ty_sc34 (by rfl)) <| .c (e_len rfl rfl ty_sl34) <| .m rfl .n) ?_; clear hS a; intro a hS
 refine nL (nT (wB ?_))
 skip
 refine c_loop (γ := List JX × Value) (fun G a w => St 34 noB w0 a w [(21, .int .i64 (G.1.length : Int)), (20, .int .i64 (rows.length : Int)), (19, .slice la rows.length lc), (3, .pointer (some ⟨b3, 0, none⟩)), (2, .pointer (some ⟨b2, 0, none⟩))] [ownA 37 4 G.2 G.1.length (G.1.flatMap JX.cs), kidsA n G.1, .blk b3 [.int .i64 (kd : Int), .string (tx t), G.2, .slice q ns.length c] 37, ownA 9 1 (.slice q ns.length c) ns.length (ns.flatMap encS), .blk b2 zeroJ 37, oldA W0] ∧ G.1.length ≤ rows.length ∧ G.1.map JX.v = l.take G.1.length) (fun G => rows.length - G.1.length) ([], .slice none 0 0) ⟨(((hS.own_nil 37 4).more (Y := kidsA n []) (kids_ok (fun x hx => by cases hx)) (fun b ⟨x, hx, _⟩ => by cases hx)).slots (by repeat (first | exact trivial | refine ⟨rfl, ?_⟩))).pick (by repeat (first | exact Pick.nil | (refine Pick.cons (by repeat (first | exact Rem.head | apply Rem.tail)) ?_))), Nat.zero_le _, rfl⟩ ?_
 clear hS a; intro G a w hI
 obtain ⟨kids, gv⟩ := G
 obtain ⟨hS, hk, hkm⟩ := hI
 simp only at hS hk hkm
 obtain ⟨ql, cl, rfl⟩ := own_slice (hS.gg (X := ownA 37 4 gv kids.length (kids.flatMap JX.cs)))
 refine cS (cR ?_)
 refine L_e hS (e_bin rfl rfl rfl) rfl ?_; clear hS a; intro a hS
 refine nL (nT (cS ?_))
 (first | refine c_ifD hS rfl ?_ ?_ | refine c_if hS rfl ?_ ?_) <;> intro hc22
 ·
  have hkn : kids.length < rows.length := by omega
  obtain ⟨lb, lo, lc', e3, hlb, hcl⟩ := rw_rows hn2 (fun e => by rw [e] at hkn; exact absurd hkn (Nat.not_lt_zero _))
  injection e3 with e3 _ _
  subst e3
  obtain ⟨v, hv⟩ : ∃ x, l[kids.length]? = some x := ⟨_, List.getElem?_eq_getElem (by omega)⟩
  obtain ⟨r, hr⟩ : ∃ x, rows[kids.length]? = some x := ⟨_, List.getElem?_eq_getElem hkn⟩
  have hjv := hn4 _ v r hv hr
  obtain ⟨lv2, nv2, ⟨a1, a2, a3, rfl⟩, ⟨a4, a5, a6, rfl⟩, hrc⟩ := hjv.four
  subst hrc
  refine wS (nT (cS (wB (cS (cR ?_)))))
  refine Rn hS (.c (e_ixN rfl rfl ty_sl34 ty_sz37 (by omega)) <| .c (e_loadAC (l := [.int .i64 (v.k : Int), .string (tx v.t), .slice a1 a2 a3, .slice a4 a5 a6]) rfl ty_st37 ty_sz37 (fun w hh j x hx => old_cell (hh (oldA W0) (by repeat constructor)) (hcl _ _ hr j x hx))) .n) ?_; clear hS a; intro a hS
  refine L_op (s_alloc hS ty_z37 rfl ?_); clear hS a; intro a w b5 hS
  refine L_op (s_storeA hS rfl rfl ty_sz37 (by repeat constructor) (by rfl) (by rfl) (by rfl) ?_); clear hS; intro w hS
  refine nL (nT ?_)
  refine c_drawS [7] (by kernel_rfl) hS (sub_cons (X := .blk b3 [.int .i64 (kd : Int), .string (tx t), .slice ql kids.length cl, .slice q ns.length c] 37) (by repeat constructor) (sub_cons (X := .blk b5 [.int .i64 (v.k : Int), .string (tx v.t), .slice a1 a2 a3, .slice a4 a5 a6] 37) (by repeat constructor) sub_nil)) ?_; clear hS; intro w hS
  simp only [List.length_cons, List.length_nil, Nat.zero_add, Nat.reduceAdd, List.replicate]
  (first | refine Zt0 0 (tf 1 7) hS rfl want_none (e_fa0 rfl ty_fo37_2) rfl (by kernel_rfl) rfl ?_ | refine Zt0 0 (tf 1 7) hS rfl want_none (e_faK rfl ty_fo37_2) rfl (by kernel_rfl) rfl ?_); clear hS a; intro a hS
  refine Rz hS (sub_cons (by repeat constructor) (sub_cons (by repeat constructor) sub_nil)) (.y 1 (tf 2 6) rfl wN (e_load rfl (by repeat constructor) ty_sc34 (by rfl)) rfl <| .y 2 (tf 3 5) rfl wN (e_loadA rfl (by repeat constructor) ty_st37 ty_sz37 (by rfl)) rfl .n) ?_; clear hS a; intro a hS
  refine Zo 3 (tf 4 4) hS rfl wN rfl (s_callN hS (.cons rfl .nil) cf155 rfl (IH v _ _ hjv (hs5 v (List.mem_of_getElem? hv)) (hS.gg (X := oldA W0))) ?_); clear hS a; intro x28 a w hS
  obtain ⟨x, hxv⟩ := x28
  simp only at hS
  obtain ⟨lv3, nv3, ⟨c1, c2, c3, rfl⟩, ⟨c4, c5, c6, rfl⟩, hcs⟩ := JAt.four (hS.get (X := jxA n x) (.head _))
  rw [hcs] at hS
  refine Z_and hS (sub_cons (by repeat constructor) (sub_cons (by repeat constructor) sub_nil)) ?_
  refine Zo 4 (tf 5 3) hS rfl wN rfl (s_bslice hS ty_sl34 ty_sz37 ty_z37 rfl rfl rfl rfl (.agg rfl rfl .nil) rfl ?_); clear hS a; intro a w b29 hS
  refine Z_and hS (sub_cons (by repeat constructor) (sub_cons (by repeat constructor) sub_nil)) ?_
  refine Zo 5 (tf 6 2) hS rfl wN rfl (s_append1 hS rfl rfl ty_sl34 ty_sz37 ty_by37 ty_z37 rfl rfl rfl (by repeat constructor) (by repeat constructor) (by rfl) (by rfl) (fun _ => (by repeat constructor)) (by omega) ?_); clear hS a; intro v30 a w hv30 hS
  obtain ⟨q30, c30, rfl⟩ := own_slice (hS.gg (X := ownA 37 4 v30 (kids.length + 1) _))
  refine Z_and hS (sub_cons (by repeat constructor) (sub_cons (by repeat constructor) sub_nil)) ?_
  (first | refine Zt0 6 (tf 7 1) hS rfl want_none (e_fa0 rfl ty_fo37_2) rfl (by kernel_rfl) rfl ?_ | refine Zt0 6 (tf 7 1) hS rfl want_none (e_faK rfl ty_fo37_2) rfl (by kernel_rfl) rfl ?_); clear hS a; intro a hS
  refine Zo 7 (tf 8 0) hS rfl wN rfl (s_store hS rfl rfl rfl ty_sz34 (by repeat constructor) (by repeat constructor) ?_); clear hS; intro w hS
  refine Z_last (by simp) ?_
  refine Z_done (by kernel_rfl) ?_
  refine n_block (nT ?_)
  have hfl2 : (kids ++ [x]).flatMap JX.cs = kids.flatMap JX.cs ++ ([.int .i64 (x.v.k : Int), .string (tx x.v.t), .slice c1 c2 c3, .slice c4 c5 c6] ++ []) := by rw [List.flatMap_append, ← hcs]; simp
  have hkl1 : (kids ++ [x]).length = kids.length + 1 := by simp
  replace hS := hS.pick (Γ' := [jxA n x, kidsA n kids, .blk b3 [.int .i64 (kd : Int), .string (tx t), .slice q30 (kids.length + 1) c30, .slice q ns.length c] 37, ownA 37 4 (.slice q30 (kids.length + 1) c30) (kids.length + 1) (kids.flatMap JX.cs ++ ([.int .i64 (x.v.k : Int), .string (tx x.v.t), .slice c1 c2 c3, .slice c4 c5 c6] ++ [])), ownA 9 1 (.slice q ns.length c) ns.length (ns.flatMap encS), .blk b2 zeroJ 37, oldA W0]) (by repeat (first | exact Pick.nil | (refine Pick.cons (by repeat (first | exact Rem.head | apply Rem.tail)) ?_)))
  replace hS := kids_add hS
  rw [← hfl2] at hS
  refine cR ?_
  (first | refine L_e hS (e_binN rfl rfl rfl (by omega)) rfl ?_ | refine L_e hS (e_bin rfl rfl rfl) rfl ?_); clear hS a; intro a hS
  refine L_e hS (e_move rfl) rfl ?_; clear hS a; intro a hS
  refine nL ?_
  refine ⟨(kids ++ [x], .slice q30 (kids.length + 1) c30), by show rows.length - (kids ++ [x]).length < rows.length - kids.length; omega, ?_, by show (kids ++ [x]).length ≤ rows.length; omega, ?_⟩
  · show St _ _ _ _ _ [(21, .int .i64 ((kids ++ [x]).length : Int)), _, _, _, _] [ownA _ _ _ (kids ++ [x]).length _, _, _, _, _, _]
    rw [hkl1]
    exact (hS.slots (by repeat (first | exact trivial | refine ⟨rfl, ?_⟩))).pick (by repeat (first | exact Pick.nil | (refine Pick.cons (by repeat (first | exact Rem.head | apply Rem.tail)) ?_)))
  · show (kids ++ [x]).map JX.v = l.take (kids ++ [x]).length
    rw [hkl1, take_next hv, List.map_append, hkm, ← hxv]; rfl
 have hk2 : kids.length = rows.length := by omega
 rw [hk2, hn3, List.take_length] at hkm
 refine wp_exit ?_
 refine x_then (x_then (x_hit ?_))
 refine nT (cS (cR ?_))
 refine L_e hS (e_loadA rfl (by repeat constructor) ty_st37 ty_sz37 (by rfl)) rfl ?_; clear hS a; intro a hS
 refine L_op (s_storeA hS rfl rfl ty_sz37 (by repeat constructor) (by rfl) (by rfl) (by rfl) ?_); clear hS; intro w hS
 refine nL (nT (wp_ret ?_))
 refine c_ret1 hS Tryz.results155 (.cellA rfl (by repeat constructor) ty_st37 ty_sz37 (by rfl)) ?_
 have hS1 := hS.pick (Γ' := [ownA 37 4 (.slice ql kids.length cl) kids.length (kids.flatMap JX.cs), ownA 9 1 (.slice q ns.length c) ns.length (ns.flatMap encS), kidsA n kids]) (by repeat (first | exact Pick.nil | (refine Pick.cons (by repeat (first | exact Rem.head | apply Rem.tail)) ?_)))
 have hS2 := jx_node (d := n) (k := kd) (t := t) (ns := ns) (kids := kids) hS1
 obtain ⟨F, hF⟩ : ∃ F : Nat → Prop, F = fun b => (Value.slice ql kids.length cl).ownBlock = some b ∨ (Value.slice q ns.length c).ownBlock = some b ∨ kidF kids b := ⟨_, rfl⟩
 rw [← hF, hkm] at hS2
 exact ⟨⟨⟨.mk kd t ns l, [.int .i64 (kd : Int), .string (tx t), .slice ql kids.length cl, .slice q ns.length c], F, rfl, rfl⟩, rfl⟩, rfl, hS.chg, hS2.ok _ (.head _), fun b hb => (hS2.mine _ (.head _) rfl b hb).resolve_right (fun h => h)⟩
theorem own_all (W0 : World) : ∀ n, OwnC W0 n
 | 0 => fun _ _ _ hj => absurd hj (fun h => h)
 | n + 1 => own_step W0 n (own_all W0 n)
theorem tx_inj' {a b : List UInt8} (h : tx a = tx b) : a = b := congrArg (fun x : ByteArray => x.data.toList) h
theorem idx_from (nm : List UInt8) : ∀ (ns : List (List UInt8)) (k : Nat), (nm ∉ ns ∧ Lib.idxFromS (ns.map tx) (tx nm) k = -1) ∨ ∃ i, ns[i]? = some nm ∧ (∀ j, j < i → ns[j]? ≠ some nm) ∧ Lib.idxFromS (ns.map tx) (tx nm) k = ((k + i : Nat) : Int)
 | [], k => .inl ⟨by simp, rfl⟩
 | x :: l, k => by
   by_cases h : x = nm
   · subst h
     exact .inr ⟨0, rfl, fun j hj => by omega, by simp [Lib.idxFromS]⟩
   · have h2 : tx x ≠ tx nm := fun e => h (tx_inj' e)
     have e : Lib.idxFromS ((x :: l).map tx) (tx nm) k = Lib.idxFromS (l.map tx) (tx nm) (k + 1) := by
      rw [List.map_cons]; simp [Lib.idxFromS, h2]
     rcases idx_from nm l (k + 1) with ⟨h3, h4⟩ | ⟨i, h3, h4, h5⟩
     · exact .inl ⟨by simp [h3]; exact fun e => h e.symm, by rw [e, h4]⟩
     · refine .inr ⟨i + 1, h3, fun j hj => ?_, by rw [e, h5]; omega⟩
       cases j with
       | zero => intro h6; exact h (by simpa using h6)
       | succ j => exact h4 j (by omega)
theorem idx_spec (nm : List UInt8) (ns : List (List UInt8)) : (nm ∉ ns ∧ Lib.idxOfS (ns.map tx) (tx nm) = -1) ∨ ∃ i : Nat, ns[i]? = some nm ∧ (∀ j : Nat, j < i → ns[j]? ≠ some nm) ∧ Lib.idxOfS (ns.map tx) (tx nm) = (i : Int) := by
 rcases idx_from nm ns 0 with h | ⟨i, h1, h2, h3⟩
 · exact .inl h
 · exact .inr ⟨i, h1, h2, by unfold Lib.idxOfS; rw [h3, Nat.zero_add]⟩
theorem find_at {nm : List UInt8} : ∀ {ns : List (List UInt8)} {l : List JV} {i : Nat}, ns[i]? = some nm → (∀ j, j < i → ns[j]? ≠ some nm) → ((ns.zip l).find? fun p => p.1 == nm).map (·.2) = l[i]?
 | [], _, i, h, _ => by simp at h
 | x :: ns, [], i, h, _ => by simp
 | x :: ns, v :: l, 0, h, _ => by
   obtain rfl : x = nm := by simpa using h
   simp
 | x :: ns, v :: l, i + 1, h, h2 => by
   have hx : x ≠ nm := fun e => h2 0 (by omega) (by rw [e]; rfl)
   have := find_at (ns := ns) (l := l) (i := i) h (fun j hj => h2 (j + 1) (by omega))
   simp [hx, this]
theorem find_no {nm : List UInt8} {ns : List (List UInt8)} {l : List JV} (h : nm ∉ ns) : ((ns.zip l).find? fun p => p.1 == nm).map (·.2) = none := by
 rw [List.find?_eq_none.2]
 · rfl
 · intro p hp
   have := (List.of_mem_zip hp).1
   simp
   intro e
   exact h (e ▸ this)
theorem jIndex_P (W0 : World) (sa : Option Addr) (sc : Nat) (names : List (List UInt8)) (hT : TxsAt W0 sa names) (hn : names.length ≤ 1000000) (nm : List UInt8) (w0 : World) (ho : oldφ W0 w0) : PureC Tryz.prog 154 [.slice sa names.length sc, .string (tx nm)] w0 (.int .i64 (Lib.idxOfS (names.map tx) (tx nm))) := by
 by_cases hne : names = []
 · subst hne
   exact (Tryz.slices_Index_string_empty sa sc (tx nm) w0).mono fun e w' ⟨he, hw⟩ => ⟨he, by rw [hw]; exact Chg.refl _ _⟩
 · obtain ⟨nb, no, rfl, hc⟩ := hT.at_ hne
   have := Tryz.slices_Index_string nb no names.length sc (names.map tx) (tx nm) w0 (by simp) (by omega) (fun j hj => by
     have hj' : j < names.length := by simpa using hj
     rw [old_cell ho (hc j _ (List.getElem?_eq_getElem hj'))]
     simp [hj'])
   refine this.mono fun e w' ⟨he, hw⟩ => ⟨?_, by rw [hw]; exact Chg.refl _ _⟩
   rw [he, List.take_of_length_le (by simp)]
def GetR (v : JV) (nm : List UInt8) : Type := { x : JX // getF v nm = some x.v } ⊕ { _u : Unit // getF v nm = none }
def gtV (v : JV) (nm : List UInt8) : GetR v nm → Value
 | .inl x => .tuple [.agg x.1.cs.toArray, .bool true].toArray
 | .inr _ => .tuple [.agg zeroJ.toArray, .bool false].toArray
def gtY (n : Nat) (v : JV) (nm : List UInt8) : GetR v nm → Asn
 | .inl x => jxA n x.1
 | .inr _ => none_
set_option maxHeartbeats 1000000 in
set_option maxRecDepth 100000 in
theorem jGet_N (W0 : World) (n : Nat) (v : JV) (cs : List Value) (nm : List UInt8) (w0 : World) (hj : JAt (n + 1) v cs W0) (hsm : smV (n + 1) v) (hold : oldφ W0 w0) :
 NewC Tryz.prog 112 [.agg cs.toArray, .string (tx nm)] w0 (gtV v nm) (gtY n v nm) := by
 cases v with
 | mk kd t ns l =>
 obtain ⟨lv, nv, rows, rfl, hn1, hn2, hn3, hn4⟩ := hj
 obtain ⟨na, nc, rfl, hT⟩ := txs_of hn1
 obtain ⟨la, lc, rfl⟩ := hn2.shape
 obtain ⟨hs1, hs2, hs3, hs4, hs5⟩ := hsm
 obtain ⟨ix, hix⟩ : ∃ i, Lib.idxOfS (ns.map tx) (tx nm) = i := ⟨_, rfl⟩
 have hsp := idx_spec nm ns
 rw [hix] at hsp
 refine c_enter [(0, .agg [.int .i64 (kd : Int), .string (tx t), .slice la rows.length lc, .slice na ns.length nc].toArray), (1, .string (tx nm))] [oldA W0] noB Tryz.func112 rfl Tryz.ntmps112 ⟨rfl, rfl, trivial⟩ rfl (okC (old_ok hold) okN) dis1 (mineC rfl mineN) ?_
 intro a hS
 refine cS (cR ?_)
 refine L_op (s_boxA hS rfl rfl ?_); clear hS a; intro a w b2 hS
 refine L_op (s_alloc hS ty_z37 rfl ?_); clear hS a; intro a w b4 hS
 refine L_e hS (e_assign rfl) rfl ?_; clear hS a; intro a hS
 refine nL (nT (cS (cR ?_)))
 (first | refine L_e hS (e_fa0 rfl ty_fo37_3) rfl ?_ | refine L_e hS (e_faK rfl ty_fo37_3) rfl ?_); clear hS a; intro a hS
 refine Rn hS (.c (e_load rfl (by repeat constructor) ty_sc35 (by rfl)) <| .m rfl .n) ?_; clear hS a; intro a hS
 refine L_op (s_callP hS (.cons rfl (.cons rfl .nil)) cf154 rfl (jIndex_P W0 na nc ns hT hs2 nm _ (hS.gg (X := oldA W0))) ?_); clear hS a; intro a w hS
 rw [hix] at hS
 refine L_e hS (e_assign rfl) rfl ?_; clear hS a; intro a hS
 refine nL (nT (cS (cS (cR ?_))))
 (first | refine L_e hS (e_fa0 rfl ty_fo37_0) rfl ?_ | refine L_e hS (e_faK rfl ty_fo37_0) rfl ?_); clear hS a; intro a hS
 refine Rn hS (.c (e_load rfl (by repeat constructor) ty_sc3 (by rfl)) <| .c (e_bin rfl rfl rfl) <| .m rfl .n) ?_; clear hS a; intro a hS
 refine L_merge 3 17 (.bool (decide (kd ≠ 6 ∨ ix < 0))) hS ?_ ?_
 · intro hcM17
   (first | refine g_splitD (t := 14) hS rfl ?_ ?_ | refine g_split (t := 14) hS rfl ?_ ?_) <;> (clear hS; intro hg14 hS)
   ·
    refine Rn hS (.f rfl rfl <| .f rfl rfl <| .c (e_pk rfl rfl) .n) ?_; clear hS a; intro a hS
    exact hcM17 _ _ (hS.ends 4 17 14 rfl (congrArg Value.bool (by exact (decide_eq_true (.inl (by omega))).symm)) rfl rfl (by first | exact congrArg Value.bool (decide_eq_true hg14).symm | exact congrArg Value.bool hg14.symm | simp [hg14]) rfl)
   refine Rn hS (.g rfl rfl (e_move rfl) <| .g rfl rfl (e_bin rfl rfl rfl) <| .c (e_pk rfl rfl) .n) ?_; clear hS a; intro a hS
   exact hcM17 _ _ (hS.ends 4 17 14 rfl (congrArg Value.bool (by exact decide_eq_decide.2 (by omega))) rfl rfl (by first | exact congrArg Value.bool (decide_eq_false hg14).symm | exact congrArg Value.bool hg14.symm | simp [hg14]) rfl)
 · clear hS a; intro a w hS
   simp only [List.drop_succ_cons, List.drop_zero]
   refine L_e hS (e_move rfl) rfl ?_; clear hS a; intro a hS
   refine L_merge 6 24 (.bool (decide ((kd ≠ 6 ∨ ix < 0) ∨ (rows.length : Int) ≤ ix))) hS ?_ ?_
   · intro hcM24
     (first | refine g_splitD (t := 18) hS rfl ?_ ?_ | refine g_split (t := 18) hS rfl ?_ ?_) <;> (clear hS; intro hg18 hS)
     ·
      refine Rn hS (.f rfl rfl <| .f rfl rfl <| .f rfl rfl <| .f rfl rfl <| .f rfl rfl <| .c (e_pk rfl rfl) .n) ?_; clear hS a; intro a hS
      exact hcM24 _ _ (hS.ends 7 24 18 rfl (congrArg Value.bool (by exact (decide_eq_true (.inl (by assumption))).symm)) rfl rfl (by first | exact congrArg Value.bool (decide_eq_true hg18).symm | exact congrArg Value.bool hg18.symm | simp [hg18]) rfl)
     refine L_ge hS rfl rfl (e_move rfl) rfl ?_; clear hS a; intro a hS
     (first | refine L_ge hS rfl rfl (e_fa0 rfl ty_fo37_2) rfl ?_ | refine L_ge hS rfl rfl (e_faK rfl ty_fo37_2) rfl ?_); clear hS a; intro a hS
     refine Rn hS (.g rfl rfl (e_load rfl (by repeat constructor) ty_sc34 (by rfl)) <| .g rfl rfl (e_len rfl rfl ty_sl34) <| .g rfl rfl (e_bin rfl rfl rfl) <| .c (e_pk rfl rfl) .n) ?_; clear hS a; intro a hS
     exact hcM24 _ _ (hS.ends 7 24 18 rfl (congrArg Value.bool (by exact decide_eq_decide.2 (by omega))) rfl rfl (by first | exact congrArg Value.bool (decide_eq_false hg18).symm | exact congrArg Value.bool hg18.symm | simp [hg18]) rfl)
   · clear hS a; intro a w hS
     simp only [List.drop_succ_cons, List.drop_zero]
     refine nL (nT ?_)
     (first | refine c_ifD hS rfl ?_ ?_ | refine c_if hS rfl ?_ ?_) <;> intro hc24
     ·
      have hno : getF (.mk kd t ns l) nm = none := by
       unfold getF
       split
       · rename_i hk6
         have hk6 : kd = 6 := hk6
         rcases hsp with ⟨h1, _⟩ | ⟨i, h1, h2, h3⟩
         · exact find_no h1
         · show ((ns.zip l).find? fun p => p.1 == nm).map (·.2) = none
           rw [find_at h1 h2, List.getElem?_eq_none (by omega)]
       · rfl
      refine cS (cR ?_)
      refine L_e hS (e_build ty_z37 ty_pl37 .nil) rfl ?_; clear hS a; intro a hS
      refine L_op (s_storeA hS rfl rfl ty_sz37 (by repeat constructor) (by rfl) (by rfl) (by rfl) ?_); clear hS; intro w hS
      refine L_e hS (e_assign rfl) rfl ?_; clear hS a; intro a hS
      refine nL (nT (wp_ret (r_then ?_)))
      refine c_retN hS Tryz.results112 (.cons (.cellA rfl (by repeat constructor) ty_st37 ty_sz37 (by rfl)) (.cons (.tmp rfl) .nil)) rfl ?_
      exact ⟨.inr ⟨(), hno⟩, rfl, hS.chg, none_ok _, fun b h => h.elim⟩
     have hk6 : kd = 6 := by omega
     obtain ⟨i, h1, h2, h3⟩ : ∃ i : Nat, ns[i]? = some nm ∧ (∀ j : Nat, j < i → ns[j]? ≠ some nm) ∧ ix = (i : Int) := by
      rcases hsp with ⟨_, h⟩ | h
      · omega
      · exact h
     have hil : i < rows.length := by omega
     subst h3
     obtain ⟨lb, lo, lc', e3, hlb, hcl⟩ := rw_rows hn2 (fun e => by rw [e] at hil; exact absurd hil (Nat.not_lt_zero _))
     injection e3 with e3 _ _
     subst e3
     obtain ⟨v, hv⟩ : ∃ x, l[i]? = some x := ⟨_, List.getElem?_eq_getElem (by omega)⟩
     obtain ⟨r, hr⟩ : ∃ x, rows[i]? = some x := ⟨_, List.getElem?_eq_getElem hil⟩
     have hjv := hn4 _ v r hv hr
     obtain ⟨lv2, nv2, ⟨a1, a2, a3, rfl⟩, ⟨a4, a5, a6, rfl⟩, hrc⟩ := hjv.four
     subst hrc
     have hyes : getF (.mk kd t ns l) nm = some v := by
      unfold getF
      rw [if_pos (show (JV.mk kd t ns l).k = 6 from hk6)]
      show ((ns.zip l).find? fun p => p.1 == nm).map (·.2) = some v
      rw [find_at h1 h2, hv]
     refine wS (nT (cS (cR ?_)))
     (first | refine L_e hS (e_fa0 rfl ty_fo37_2) rfl ?_ | refine L_e hS (e_faK rfl ty_fo37_2) rfl ?_); clear hS a; intro a hS
     refine Rn hS (.c (e_load rfl (by repeat constructor) ty_sc34 (by rfl)) <| .m rfl <| .c (e_ixN rfl rfl ty_sl34 ty_sz37 hil) <| .c (e_loadAC (l := [.int .i64 (v.k : Int), .string (tx v.t), .slice a1 a2 a3, .slice a4 a5 a6]) rfl ty_st37 ty_sz37 (fun w hh j x hx => old_cell (hh (oldA W0) (by repeat constructor)) (hcl _ _ hr j x hx))) .n) ?_; clear hS a; intro a hS
     refine L_op (s_callN hS (.cons rfl .nil) cf155 rfl (own_all W0 n v _ _ hjv (hs5 v (List.mem_of_getElem? hv)) (hS.gg (X := oldA W0))) ?_); clear hS a; intro x31 a w hS
     obtain ⟨x, hxv⟩ := x31
     simp only at hS
     obtain ⟨lv3, nv3, ⟨c1, c2, c3, rfl⟩, ⟨c4, c5, c6, rfl⟩, hcs⟩ := JAt.four (hS.get (X := jxA n x) (.head _))
     rw [hcs] at hS
     refine L_op (s_storeA hS rfl rfl ty_sz37 (by repeat constructor) (by rfl) (by rfl) (by rfl) ?_); clear hS; intro w hS
     refine L_e hS (e_assign rfl) rfl ?_; clear hS a; intro a hS
     refine nL (nT (wp_ret ?_))
     refine c_retN hS Tryz.results112 (.cons (.cellA rfl (by repeat constructor) ty_st37 ty_sz37 (by rfl)) (.cons (.tmp rfl) .nil)) rfl ?_
     exact ⟨.inl ⟨x, by rw [hxv]; exact hyes⟩, by show _ = Ending.returned (Value.tuple [.agg x.cs.toArray, .bool true].toArray); rw [hcs], hS.chg, hS.ok (jxA n x) (by repeat constructor), fun b hb => (hS.mine (jxA n x) (by repeat constructor) rfl b hb).resolve_right (fun h => h)⟩
theorem idx_any (p : Nat → Bool) (hp : ∀ r, 128 ≤ r → p r = true) (s : ByteArray) : ∀ (f pos : Nat), s.size ≤ f + pos → decide (0 ≤ Lib.idxFuncFrom p true s f pos) = (s.data.toList.drop pos).any (fun b => p b.toNat)
 | 0, pos, h => by
   rw [List.drop_eq_nil_of_le (by simp at h ⊢; omega)]; rfl
 | f + 1, pos, h => by
   unfold Lib.idxFuncFrom
   by_cases hpos : pos < s.size
   · rw [if_pos hpos]
     have hd : s.data.toList.drop pos = s[pos] :: s.data.toList.drop (pos + 1) := by
      have hl : pos < s.data.toList.length := by simpa using hpos
      rw [List.drop_eq_getElem_cons hl]; rfl
     rw [hd, List.any_cons]
     by_cases ha : (s[pos]'hpos).toNat < 128
     · rw [Go.decode_ascii s pos hpos ha]
       simp only
       by_cases hb : p (s[pos]'hpos).toNat = true
       · rw [if_pos hb, hb, Bool.true_or]; exact decide_eq_true (by omega)
       · rw [if_neg hb, idx_any p hp s f (pos + 1) (by omega)]
         simp only [Bool.not_eq_true] at hb
         rw [hb, Bool.false_or]
     · have hh := (Go.decode_high s pos hpos (by omega)).1
       rw [if_pos (hp _ hh), hp _ (show 128 ≤ (s[pos]'hpos).toNat by omega), Bool.true_or]; exact decide_eq_true (by omega)
   · rw [if_neg hpos, List.drop_eq_nil_of_le (by simp; omega)]; rfl
theorem idx_all (p : Nat → Bool) (hp : ∀ r, 128 ≤ r → p r = true) (s : ByteArray) : decide (0 ≤ Lib.idxFunc p true s) = s.data.toList.any (fun b => p b.toNat) := by
 have := idx_any p hp s s.size 0 (by omega)
 rw [List.drop_zero] at this; exact this
theorem Contains_P (g : Nat) (p : Nat → Bool) (cfg : CallsTo Tryz.prog g) (hg : ∀ (r : Nat) w, r ≤ 1114111 → PureC Tryz.prog g [.int .i32 (r : Int)] w (.bool (p r))) (hp : ∀ r, 128 ≤ r → p r = true) (s : ByteArray) (w : World) :
 PureC Tryz.prog 133 [.string s, .func (.func g) #[] #[]] w (.bool (s.data.toList.any fun b => p b.toNat)) := by
 have h := Tryz.strings_ContainsFunc_grows g #[] cfg p s w (fun W x hx _ => (hg x W hx).mono fun _ _ ⟨he, hc⟩ => ⟨he, hc.below⟩)
 rw [idx_all p hp s] at h
 exact h.mono fun _ _ ⟨he, hb⟩ => ⟨he, Chg.of_below hb⟩
structure Gj (W : World) : Prop where
 u8 : Lib.Utf8Tabs 0 1 W
 er : ∃ ev, W.cell? ⟨5, 0, none⟩ = some ev ∧ (ev = .nilIface ∨ ∃ te pe, ev = .iface te pe)
 tab : ∀ w, oldφ W w → Lib.TabIs Tryz.prog w "internal/strconv.uint64pow10" .u64 Lib.pow10Tab
 m : ∃ m, W.cell? ⟨2, 0, none⟩ = some (.int .i64 m)
theorem old_trans {W w w' : World} (h : oldφ W w) (h2 : oldφ w w') : oldφ W w' := ⟨Nat.le_trans h.1 h2.1, fun k hk => (h2.2 k (Nat.lt_of_lt_of_le hk h.1)).trans (h.2 k hk)⟩
theorem Gj.keep {W w : World} (hG : Gj W) (h : oldφ W w) : Gj w := by
 obtain ⟨m, hm⟩ := hG.m
 obtain ⟨ev, he, he2⟩ := hG.er
 exact ⟨⟨fun c hc => old_cell h (hG.u8.1 c hc), fun i hi => ⟨old_cell h (hG.u8.2 i hi).1, old_cell h (hG.u8.2 i hi).2⟩⟩, ⟨ev, old_cell h he, he2⟩, fun w' h' => hG.tab w' (old_trans h h'), ⟨m, old_cell h hm⟩⟩
theorem Itoa_P (W0 : World) (hG : Gj W0) (n : Int) (h0 : -9223372036854775808 ≤ n) (h1 : n ≤ 9223372036854775807) (w0 : World) (ho : oldφ W0 w0) : PureC Tryz.prog 69 [.int .i64 n] w0 (.string (tx (Lib.itoa n))) :=
 (Tryz.strconv_Itoa n h0 h1 w0 (hG.tab w0 ho)).mono fun e w' ⟨he, k, os, hw⟩ => ⟨he, by
   rw [hw]
   have c1 := Chg.of_below (Go.Proofs.below_drewNg w0 k)
   refine ⟨c1.os, c1.tape, c1.output, Nat.le_trans c1.size (by simp [Go.Sort.grow]), fun i hi h => ?_⟩
   rw [Go.Sort.heap_grow_old _ _ (Nat.lt_of_lt_of_le hi c1.size)]
   exact c1.block i hi h⟩
section
variable {P : Program} {n : NN} {a : Act} {L : List (Nat × Value)} {Γ : List Asn} {dst : Option Nat} {ty : Nat} {pos : String} {af : Array Edge} {g : Option (Nat × Bool)}
theorem e_ifNe {t t' : TypeId} {x : Operand} {v : Value} {c : Bool} (hx : ev L x = some v) (hu : P.underlying t = some (.interface (P.methodsAt t))) (hv : (v = .nilIface ∧ c = false) ∨ ((∃ u p, v = .iface u p) ∧ c = true)) : Ex P n a L Γ ⟨dst, .binOp .neq t x (.const .nilIface) t', ty, pos, af, g⟩ (.bool c) := fun hs w hh => by
 rcases hv with ⟨rfl, rfl⟩ | ⟨⟨u, p, rfl⟩, rfl⟩
 · have := run_neq_nil_nil (P := P) w t hu
   have he : a.eval (.const .nilIface) = .nilIface := rfl
   simp [execOp, hs.ev hx, he, eqGuard_nil_constR, this]
 · have := run_neq_held_nil (P := P) w t u p hu
   have he : a.eval (.const .nilIface) = .nilIface := rfl
   simp [execOp, hs.ev hx, he, eqGuard, this]
end
end Go.Proofs.YtlccmgeclhdegaaGreatDoor
