/- LedgerPlays: for every argument the law returns true, and each argument reads afterwards as it read before. No conditions. (text 4 of 6) -/
import Derived.Test.YtheofhegdjjfgaaGreatLPlC3
import Derived.ChangeKeysEq
import Derived.Sort.Walk0
import Derived.Laws.BytesArg
namespace Go.Proofs.YtheofhegdjjfgaaGreat
open Go.RowKit
def ps1 : List Pst := [⟨aBank.code, 100, 100⟩, ⟨aSales.code, -100, -100⟩]
def ps2 : List Pst := [⟨aBank.code, 100, 100⟩, ⟨aFees.code, -100, -100⟩]
def ps3 : List Pst := [⟨aTill.code, 100, 110⟩, ⟨aFees.code, -100, -110⟩]
def PA : PL := ⟨usdL, chartL, [⟨1, 5, ⟨#[97]⟩, ps1⟩], [(aBank.code, (100, 100)), (aSales.code, (-100, -100))], -1⟩
def PC : PL := ⟨usdL, chartL, [⟨1, 5, ⟨#[97]⟩, ps1⟩, ⟨2, 7, ⟨#[99]⟩, ps3⟩], [(aBank.code, (100, 100)), (aSales.code, (-100, -100)), (aTill.code, (100, 110)), (aFees.code, (-100, -110))], -1⟩
theorem c_a : checkE P4 5 ⟨#[97]⟩ ps1 = 0 := by decide +kernel
theorem c_b : checkE PA 5 ⟨#[98]⟩ ps2 = 26 := by decide +kernel
theorem c_c : checkE PA 7 ⟨#[99]⟩ ps3 = 0 := by decide +kernel
theorem p_a : postP P4 5 ⟨#[97]⟩ ps1 = PA := if_pos c_a
theorem i_a : postI P4 5 ⟨#[97]⟩ ps1 = 1 := if_pos c_a
theorem p_b : postP PA 5 ⟨#[98]⟩ ps2 = PA := if_neg (by rw [c_b]; decide)
theorem i_b : postI PA 5 ⟨#[98]⟩ ps2 = 0 := if_neg (by rw [c_b]; decide)
theorem p_c : postP PA 7 ⟨#[99]⟩ ps3 = PC := (if_pos c_c).trans (by
  have e : totS PA.tot ps3 = PC.tot := by
    simp only [totS, ps3, PA, PC, List.foldl]
    decide +kernel
  show PL.mk _ _ _ _ _ = _
  rw [e]; rfl)
theorem i_c : postI PA 7 ⟨#[99]⟩ ps3 = 2 := if_pos c_c
theorem b_till : balF PC aTill.code 7 = ((aTill.code, 100, 110), 0) := by decide +kernel
theorem chart_open {i : Nat} {x : Acc} (hx : chartL[i]? = some x) : openEP ((chartL.take i).foldl openP P0) x = 0 := by
  have e1 : openEP P0 aBank = 0 := by decide +kernel
  have e2 : openEP ⟨usdL, [aBank], [], [], -1⟩ aSales = 0 := by decide +kernel
  have e3 : openEP ⟨usdL, [aBank, aSales], [], [], -1⟩ aTill = 0 := by decide +kernel
  have e4 : openEP ⟨usdL, [aBank, aSales, aTill], [], [], -1⟩ aFees = 0 := by decide +kernel
  have s1 : openP P0 aBank = ⟨usdL, [aBank], [], [], -1⟩ := if_pos e1
  have s2 : openP ⟨usdL, [aBank], [], [], -1⟩ aSales = ⟨usdL, [aBank, aSales], [], [], -1⟩ := if_pos e2
  have s3 : openP ⟨usdL, [aBank, aSales], [], [], -1⟩ aTill = ⟨usdL, [aBank, aSales, aTill], [], [], -1⟩ := if_pos e3
  match i, hx with
  | 0, hx => cases hx; exact e1
  | 1, hx => cases hx; show openEP (openP P0 aBank) aSales = 0; rw [s1]; exact e2
  | 2, hx => cases hx; show openEP (openP (openP P0 aBank) aSales) aTill = 0; rw [s1, s2]; exact e3
  | 3, hx => cases hx; show openEP (openP (openP (openP P0 aBank) aSales) aTill) aFees = 0; rw [s1, s2, s3]; exact e4
  | (k + 4), hx => cases hx
theorem blk_rowP {b E : Nat} {ps : List Pst} {w : World} (h : w.heap[b]? = some (.cells (ps.flatMap encP).toArray E (0, 0))) : RowAt b 0 3 (ps.map encP) w := by
  intro i x hx j v hj
  rw [List.getElem?_map] at hx
  cases hp : ps[i]? with
  | none => rw [hp] at hx; cases hx
  | some p =>
    rw [hp] at hx; injection hx with hx; subst hx
    exact cell_of_blk (cs := ps.flatMap encP) (E := E) h (by rw [Nat.zero_add]; exact flat_get encP 3 (fun _ => rfl) ps i p hp j v hj)
theorem fits_small {ps : List Pst} (h : ∀ p ∈ ps, p.acc.size ≤ 300 ∧ (-1000 ≤ p.u ∧ p.u ≤ 1000) ∧ (-1000 ≤ p.f ∧ p.f ≤ 1000)) : ∀ p ∈ ps, p.fits := fun p hp => by
  obtain ⟨h1, h2, h3⟩ := h p hp
  exact ⟨by omega, by omega, by omega⟩
theorem post_row {B : LB} {s : LS} {P P' : PL} {i e at_ : Int} {memo : ByteArray} {ps : List Pst} {b : Nat} (hpl : pl s = P) (hP : postP P at_ memo ps = P') (hI : postI P at_ memo ps = i) (hE : checkE P at_ memo ps = e) (hbt : balT P.tot) (hn : P.es.length ≤ 100) (hfit : ∀ p ∈ ps, p.fits) (hlen : ps.length ≤ 60) (w : World) (h : ledφ B s w)
    (hr : w.heap[b]? = some (.cells (ps.flatMap encP).toArray 82 (0, 0))) (hd : ¬ ledF B s b) :
    MutC Tryz.prog 29 [.pointer (some ⟨B.lb, 0, none⟩), .int .i64 at_, .string memo, .slice (some ⟨b, 0, none⟩) ps.length ps.length] w (ledA B s true) (fun _ : { y : LS // pl y = P' } => .tuple [.int .i64 i, .int .i64 e].toArray) (fun y => ledA B y.1 true) := by
  have hes : s.es.length ≤ 100000 := by
    have h1 : (pl s).es.length = s.es.length := by simp [pl]
    rw [hpl] at h1; omega
  have h2 := lPost_P B s (some (b, 0)) ps.length at_ memo ps (by omega) hfit (by have : (pl s).tot = s.tot := rfl
                                                                                 rw [← this, hpl]; exact hbt) hes w h (blk_rowP hr) (fun q hq => by cases hq; exact (Array.getElem?_eq_some_iff.1 hr).1) (fun q hq => by cases hq; exact hd)
  rw [hpl, hP, hI, hE] at h2
  exact h2
set_option maxHeartbeats 1000000 in
set_option maxRecDepth 100000 in
theorem lfirst_P (w0 : World) : PureC Tryz.prog 6 [] w0 (.bool true) := by
   refine c_enter [] [] noB Tryz.func6 rfl Tryz.ntmps6 trivial rfl (by simp) (by simp) (by simp) ?_
   intro a hS
   refine c_seq (c_region ?_)
   refine L_e hS (e_assign rfl) rfl ?_; clear hS a; intro a hS
   refine L_nil (n_then (c_seq (c_region ?_)))
   refine L_op (s_callN hS (.cons rfl .nil) cf8 rfl (lNew_P usdL _ (by decide +kernel)) ?_); clear hS a; (try clear w); intro x14 a w hS
   refine L_e hS (e_move rfl) rfl ?_; clear hS a; intro a hS
   refine L_e hS (e_extract rfl rfl) rfl ?_; clear hS a; intro a hS
   refine L_e hS (e_extract rfl rfl) rfl ?_; clear hS a; intro a hS
   refine L_e hS (e_assign rfl) rfl ?_; clear hS a; intro a hS
   refine L_e hS (e_assign rfl) rfl ?_; clear hS a; intro a hS
   refine L_nil (n_then (c_seq (c_seq (c_region ?_))))
   refine L_e hS (e_move rfl) rfl ?_; clear hS a; intro a hS
   refine L_e hS (e_nil rfl ty_u25) rfl ?_; clear hS a; intro a hS
   refine L_e hS (e_move rfl) rfl ?_; clear hS a; intro a hS
   replace hS := hS.is (t := 19) (c := false) rfl (rfl)
   refine L_ge hS rfl rfl (e_move rfl) rfl ?_; clear hS a; intro a hS
   refine L_go hS rfl rfl (s_callP hS (.cons rfl .nil) cf10 rfl (Num_w _ _) ?_); clear hS a; (try clear w); intro a w hS
   refine L_ge hS rfl rfl (e_bin rfl rfl rfl) rfl ?_; clear hS a; intro a hS
   refine L_e hS (e_pk rfl rfl) rfl ?_; clear hS a; intro a hS
   refine L_nil (n_then ?_)
   replace hS := hS.is (t := 23) (c := false) rfl ((by decide))
   refine c_if_f hS rfl ?_
   refine wp_skip (n_then (c_seq (c_region ?_)))
   refine L_op (s_callN hS .nil cf17 rfl (lChart_P _) ?_); clear hS a; (try clear w); intro x24 a w hS
   refine L_e hS (e_assign rfl) rfl ?_; clear hS a; intro a hS
   refine L_nil (n_then (c_seq (c_seq (c_region ?_))))
   refine L_e hS (e_assign rfl) rfl ?_; clear hS a; intro a hS
   refine L_nil (n_then (wp_block ?_))
   skip
   refine c_loop (γ := Nat × LS) (fun G a w => St 109 noB w0 a w [(4, .int .i64 (G.1 : Int)), (3, .slice (some ⟨x24, 0, none⟩) 4 4), (1, .pointer (some ⟨x14.lb, 0, none⟩))] [.blk x24 (chartL.flatMap encAc) 35, ledA x14 G.2 true] ∧ G.1 ≤ 4 ∧ pl G.2 = (chartL.take G.1).foldl openP P0) (fun G => 4 - G.1) (0, newL usdL) ⟨(hS.slots (by repeat (first | exact trivial | refine ⟨rfl, ?_⟩))).pick (by repeat (first | exact Pick.nil | (refine Pick.cons (by repeat (first | exact Rem.head | apply Rem.tail)) ?_))), Nat.zero_le _, rfl⟩ ?_
   clear hS a; (try clear w); intro G a w hI
   obtain ⟨i, s⟩ := G
   obtain ⟨hS, hi, hpl⟩ := hI
   simp only at hS hi hpl
   refine c_seq (c_seq (c_region ?_))
   refine L_e hS (e_move rfl) rfl ?_; clear hS a; intro a hS
   refine L_e hS (e_move rfl) rfl ?_; clear hS a; intro a hS
   refine L_e hS (e_len rfl rfl ty_sl48) rfl ?_; clear hS a; intro a hS
   refine L_e hS (e_bin rfl rfl rfl) rfl ?_; clear hS a; intro a hS
   refine L_nil (n_then ?_)
   first | refine c_ifD hS rfl (fun hc28 => ?_) (fun hc28 => ?_) | refine c_if hS rfl (fun hc28 => ?_) (fun hc28 => ?_)
   ·
     obtain ⟨x, hx⟩ : ∃ x, chartL[i]? = some x := ⟨chartL[i]'(by show i < 4; omega), List.getElem?_eq_getElem (by show i < 4; omega)⟩
     have hxs : x.code.size ≤ 4611686018427387904 := by
       have := List.mem_of_getElem? hx
       simp [chartL] at this
       rcases this with rfl | rfl | rfl | rfl <;> decide
     have htk : chartL.take (i + 1) = chartL.take i ++ [x] := by rw [List.take_add_one, hx]; rfl
     have hop : openE s x = 0 := by rw [show openE s x = openEP (pl s) x from rfl, hpl]; exact chart_open hx
     refine wp_skip (n_then (c_seq (wp_block (c_seq (c_region ?_)))))
     refine L_e hS (e_move rfl) rfl ?_; clear hS a; intro a hS
     refine L_e hS (e_move rfl) rfl ?_; clear hS a; intro a hS
     refine L_e hS (e_move rfl) rfl ?_; clear hS a; intro a hS
     refine L_e hS (e_ixN rfl rfl ty_sl48 ty_sz35 (by omega)) rfl ?_; clear hS a; intro a hS
     refine L_e hS (e_loadAC (l := encAc x) rfl ty_st35 ty_sz35 (blkrow_getL (enc := encAc) (s := 4) (by repeat constructor) (fun _ => rfl) hx)) rfl ?_; clear hS a; intro a hS
     refine L_op (s_callM hS (.cons rfl (.cons rfl .nil)) cf32 rfl (lOpen_P x14 s x hxs _ (hS.get (X := ledA x14 s true) (by repeat constructor))) (fun x => (by repeat constructor)) rfl ?_); clear hS a; (try clear w); intro x36 a w hS
     refine L_op (s_callP hS (.cons rfl .nil) cf10 rfl (Num_w _ _) ?_); clear hS a; (try clear w); intro a w hS
     refine L_e hS (e_bin rfl rfl rfl) rfl ?_; clear hS a; intro a hS
     refine L_nil (n_then ?_)
     replace hS := hS.is (t := 38) (c := false) rfl ((decide_eq_false (fun e => e hop)))
     refine c_if_f hS rfl ?_
     refine wp_skip (n_block (n_then (c_region ?_)))
     refine L_e hS (e_move rfl) rfl ?_; clear hS a; intro a hS
     (first | refine L_e hS (e_binN rfl rfl rfl (by omega)) rfl ?_ | refine L_e hS (e_bin rfl rfl rfl) rfl ?_); clear hS a; intro a hS
     refine L_e hS (e_assign rfl) rfl ?_; clear hS a; intro a hS
     refine L_nil ?_
     exact ⟨(i + 1, openL s x), by simp only; omega, (hS.slots (by repeat (first | exact trivial | refine ⟨rfl, ?_⟩))).pick (by repeat (first | exact Pick.nil | (refine Pick.cons (by repeat (first | exact Rem.head | apply Rem.tail)) ?_))), by simp only; omega, by simp only; rw [pl_open, hpl, htk, List.foldl_append]; rfl⟩
   obtain rfl : i = 4 := by omega
   rw [show (chartL.take 4).foldl openP P0 = P4 from chart_made] at hpl
   refine wp_exit ?_
   refine x_then (x_then (x_hit ?_))
   refine n_then (c_seq (c_region ?_))
   refine L_e hS (e_move rfl) rfl ?_; clear hS a; intro a hS
   refine L_e hS (e_build ty_z82 ty_pl82 (.one rfl rfl rfl (by repeat constructor) (.one rfl rfl rfl (by repeat constructor) (.one rfl rfl rfl (by repeat constructor) .nil)))) rfl ?_; clear hS a; intro a hS
   refine L_e hS (e_build ty_z82 ty_pl82 (.one rfl rfl rfl (by repeat constructor) (.one rfl rfl rfl (by repeat constructor) (.one rfl rfl rfl (by repeat constructor) .nil)))) rfl ?_; clear hS a; intro a hS
   refine L_op (s_bslice hS ty_sl36 ty_sz82 ty_z82 rfl rfl rfl rfl (.agg rfl rfl (.agg rfl rfl .nil)) rfl ?_); clear hS a; (try clear w); intro a w b43 hS
   refine L_op (s_callM hS (.cons rfl (.cons rfl (.cons rfl (.cons rfl .nil)))) cf29 rfl (post_row (B := x14) (s := s) (P := P4) (P' := PA) (ps := ps1) hpl p_a i_a c_a (by intro e he; revert e; decide +kernel) (by decide) (fits_small (by decide +kernel)) (by decide) _ (hS.get (X := ledA x14 s true) (by repeat constructor)) (hS.get (X := .blk b43 (ps1.flatMap encP) 82) (by repeat constructor)) (hS.sep (X := .blk b43 (ps1.flatMap encP) 82) (Y := ledA x14 s true) (by repeat (first | exact Rem.head | apply Rem.tail)) (by repeat constructor) b43 rfl)) (fun x => (by repeat constructor)) rfl ?_); clear hS a; (try clear w); intro x44 a w hS
   obtain ⟨s1, hp1⟩ := x44
   simp only at hS
   refine L_e hS (e_move rfl) rfl ?_; clear hS a; intro a hS
   refine L_e hS (e_extract rfl rfl) rfl ?_; clear hS a; intro a hS
   refine L_e hS (e_extract rfl rfl) rfl ?_; clear hS a; intro a hS
   refine L_e hS (e_assign rfl) rfl ?_; clear hS a; intro a hS
   refine L_e hS (e_assign rfl) rfl ?_; clear hS a; intro a hS
   refine L_nil (n_then (c_seq (c_region ?_)))
   refine L_e hS (e_move rfl) rfl ?_; clear hS a; intro a hS
   refine L_e hS (e_build ty_z82 ty_pl82 (.one rfl rfl rfl (by repeat constructor) (.one rfl rfl rfl (by repeat constructor) (.one rfl rfl rfl (by repeat constructor) .nil)))) rfl ?_; clear hS a; intro a hS
   refine L_e hS (e_build ty_z82 ty_pl82 (.one rfl rfl rfl (by repeat constructor) (.one rfl rfl rfl (by repeat constructor) (.one rfl rfl rfl (by repeat constructor) .nil)))) rfl ?_; clear hS a; intro a hS
   refine L_op (s_bslice hS ty_sl36 ty_sz82 ty_z82 rfl rfl rfl rfl (.agg rfl rfl (.agg rfl rfl .nil)) rfl ?_); clear hS a; (try clear w); intro a w b51 hS
   refine L_op (s_callM hS (.cons rfl (.cons rfl (.cons rfl (.cons rfl .nil)))) cf29 rfl (post_row (B := x14) (s := s1) (P := PA) (P' := PA) (ps := ps2) hp1 p_b i_b c_b (by intro e he; revert e; decide +kernel) (by decide) (fits_small (by decide +kernel)) (by decide) _ (hS.get (X := ledA x14 s1 true) (by repeat constructor)) (hS.get (X := .blk b51 (ps2.flatMap encP) 82) (by repeat constructor)) (hS.sep (X := .blk b51 (ps2.flatMap encP) 82) (Y := ledA x14 s1 true) (by repeat (first | exact Rem.head | apply Rem.tail)) (by repeat constructor) b51 rfl)) (fun x => (by repeat constructor)) rfl ?_); clear hS a; (try clear w); intro x52 a w hS
   obtain ⟨s2, hp2⟩ := x52
   simp only at hS
   refine L_e hS (e_move rfl) rfl ?_; clear hS a; intro a hS
   refine L_e hS (e_extract rfl rfl) rfl ?_; clear hS a; intro a hS
   refine L_e hS (e_extract rfl rfl) rfl ?_; clear hS a; intro a hS
   refine L_e hS (e_assign rfl) rfl ?_; clear hS a; intro a hS
   refine L_e hS (e_assign rfl) rfl ?_; clear hS a; intro a hS
   refine L_nil (n_then (c_seq (c_region ?_)))
   refine L_e hS (e_move rfl) rfl ?_; clear hS a; intro a hS
   refine L_e hS (e_build ty_z82 ty_pl82 (.one rfl rfl rfl (by repeat constructor) (.one rfl rfl rfl (by repeat constructor) (.one rfl rfl rfl (by repeat constructor) .nil)))) rfl ?_; clear hS a; intro a hS
   refine L_e hS (e_build ty_z82 ty_pl82 (.one rfl rfl rfl (by repeat constructor) (.one rfl rfl rfl (by repeat constructor) (.one rfl rfl rfl (by repeat constructor) .nil)))) rfl ?_; clear hS a; intro a hS
   refine L_op (s_bslice hS ty_sl36 ty_sz82 ty_z82 rfl rfl rfl rfl (.agg rfl rfl (.agg rfl rfl .nil)) rfl ?_); clear hS a; (try clear w); intro a w b59 hS
   refine L_op (s_callM hS (.cons rfl (.cons rfl (.cons rfl (.cons rfl .nil)))) cf29 rfl (post_row (B := x14) (s := s2) (P := PA) (P' := PC) (ps := ps3) hp2 p_c i_c c_c (by intro e he; revert e; decide +kernel) (by decide) (fits_small (by decide +kernel)) (by decide) _ (hS.get (X := ledA x14 s2 true) (by repeat constructor)) (hS.get (X := .blk b59 (ps3.flatMap encP) 82) (by repeat constructor)) (hS.sep (X := .blk b59 (ps3.flatMap encP) 82) (Y := ledA x14 s2 true) (by repeat (first | exact Rem.head | apply Rem.tail)) (by repeat constructor) b59 rfl)) (fun x => (by repeat constructor)) rfl ?_); clear hS a; (try clear w); intro x60 a w hS
   obtain ⟨s3, hp3⟩ := x60
   simp only at hS
   refine L_e hS (e_move rfl) rfl ?_; clear hS a; intro a hS
   refine L_e hS (e_extract rfl rfl) rfl ?_; clear hS a; intro a hS
   refine L_e hS (e_extract rfl rfl) rfl ?_; clear hS a; intro a hS
   refine L_e hS (e_assign rfl) rfl ?_; clear hS a; intro a hS
   refine L_e hS (e_assign rfl) rfl ?_; clear hS a; intro a hS
   refine L_nil (n_then (c_seq (c_region ?_)))
   refine L_e hS (e_move rfl) rfl ?_; clear hS a; intro a hS
   refine L_op (s_callP hS (.cons rfl (.cons rfl (.cons rfl .nil))) cf28 rfl (lBal_P x14 s3 aTill.code 7 (by rw [hp3]; exact ⟨fun x hx p hp => by
 have h1 : x = ⟨1, 5, ⟨#[97]⟩, ps1⟩ ∨ x = ⟨2, 7, ⟨#[99]⟩, ps3⟩ := by simpa [PC] using hx
 rcases h1 with rfl | rfl
 · exact fits_small (ps := ps1) (by decide +kernel) p hp
 · exact fits_small (ps := ps3) (by decide +kernel) p hp, by decide, fun x hx => by
 have h1 : x = ⟨1, 5, ⟨#[97]⟩, ps1⟩ ∨ x = ⟨2, 7, ⟨#[99]⟩, ps3⟩ := by simpa [PC] using hx
 rcases h1 with rfl | rfl <;> decide⟩) _ (hS.get (X := ledA x14 s3 true) (by repeat constructor))) ?_); clear hS a; (try clear w); intro a w hS
   rw [hp3, b_till] at hS
   refine L_e hS (e_move rfl) rfl ?_; clear hS a; intro a hS
   refine L_e hS (e_extract rfl rfl) rfl ?_; clear hS a; intro a hS
   refine L_e hS (e_extract rfl rfl) rfl ?_; clear hS a; intro a hS
   refine L_op (s_alloc hS ty_z71 rfl ?_); clear hS a; (try clear w); intro a w b11 hS
   refine L_op (s_storeA hS rfl rfl ty_sz71 (by repeat constructor) (by rfl) (by rfl) (by rfl) ?_); clear hS; (try clear w); intro w hS
   refine L_e hS (e_assign rfl) rfl ?_; clear hS a; intro a hS
   refine L_nil (n_then (c_seq (c_region ?_)))
   refine L_e hS (e_move rfl) rfl ?_; clear hS a; intro a hS
   refine L_e hS (e_bin rfl rfl rfl) rfl ?_; clear hS a; intro a hS
   refine L_e hS (e_move rfl) rfl ?_; clear hS a; intro a hS
   replace hS := hS.is (t := 70) (c := true) rfl (rfl)
   refine L_ge hS rfl rfl (e_move rfl) rfl ?_; clear hS a; intro a hS
   refine L_go hS rfl rfl (s_callP hS (.cons rfl .nil) cf10 rfl (Num_w _ _) ?_); clear hS a; (try clear w); intro a w hS
   refine L_ge hS rfl rfl (e_bin rfl rfl rfl) rfl ?_; clear hS a; intro a hS
   refine L_e hS (e_pk rfl rfl) rfl ?_; clear hS a; intro a hS
   refine L_e hS (e_move rfl) rfl ?_; clear hS a; intro a hS
   replace hS := hS.is (t := 75) (c := true) rfl (rfl)
   refine L_ge hS rfl rfl (e_move rfl) rfl ?_; clear hS a; intro a hS
   refine L_go hS rfl rfl (s_callP hS (.cons rfl .nil) cf10 rfl (Num_w _ _) ?_); clear hS a; (try clear w); intro a w hS
   refine L_ge hS rfl rfl (e_bin rfl rfl rfl) rfl ?_; clear hS a; intro a hS
   refine L_e hS (e_pk rfl rfl) rfl ?_; clear hS a; intro a hS
   refine L_e hS (e_move rfl) rfl ?_; clear hS a; intro a hS
   replace hS := hS.is (t := 80) (c := true) rfl (rfl)
   refine L_ge hS rfl rfl (e_move rfl) rfl ?_; clear hS a; intro a hS
   refine L_ge hS rfl rfl (e_bin rfl rfl rfl) rfl ?_; clear hS a; intro a hS
   refine L_e hS (e_pk rfl rfl) rfl ?_; clear hS a; intro a hS
   refine L_e hS (e_move rfl) rfl ?_; clear hS a; intro a hS
   replace hS := hS.is (t := 84) (c := true) rfl (rfl)
   refine L_ge hS rfl rfl (e_move rfl) rfl ?_; clear hS a; intro a hS
   refine L_go hS rfl rfl (s_callP hS (.cons rfl .nil) cf10 rfl (Num_w _ _) ?_); clear hS a; (try clear w); intro a w hS
   refine L_ge hS rfl rfl (e_bin rfl rfl rfl) rfl ?_; clear hS a; intro a hS
   refine L_e hS (e_pk rfl rfl) rfl ?_; clear hS a; intro a hS
   refine L_e hS (e_move rfl) rfl ?_; clear hS a; intro a hS
   replace hS := hS.is (t := 89) (c := true) rfl (rfl)
   (first | refine L_ge hS rfl rfl (e_fa0 rfl ty_fo71_1) rfl ?_ | refine L_ge hS rfl rfl (e_faK rfl ty_fo71_1) rfl ?_); clear hS a; intro a hS
   refine L_ge hS rfl rfl (e_load rfl (by repeat constructor) ty_sc3 (by rfl)) rfl ?_; clear hS a; intro a hS
   refine L_ge hS rfl rfl (e_bin rfl rfl rfl) rfl ?_; clear hS a; intro a hS
   refine L_e hS (e_pk rfl rfl) rfl ?_; clear hS a; intro a hS
   refine L_e hS (e_move rfl) rfl ?_; clear hS a; intro a hS
   replace hS := hS.is (t := 94) (c := true) rfl (rfl)
   (first | refine L_ge hS rfl rfl (e_fa0 rfl ty_fo71_2) rfl ?_ | refine L_ge hS rfl rfl (e_faK rfl ty_fo71_2) rfl ?_); clear hS a; intro a hS
   refine L_ge hS rfl rfl (e_load rfl (by repeat constructor) ty_sc3 (by rfl)) rfl ?_; clear hS a; intro a hS
   refine L_ge hS rfl rfl (e_bin rfl rfl rfl) rfl ?_; clear hS a; intro a hS
   refine L_e hS (e_pk rfl rfl) rfl ?_; clear hS a; intro a hS
   refine L_e hS (e_move rfl) rfl ?_; clear hS a; intro a hS
   replace hS := hS.is (t := 99) (c := true) rfl (rfl)
   refine L_ge hS rfl rfl (e_move rfl) rfl ?_; clear hS a; intro a hS
   refine L_go hS rfl rfl (s_callP hS (.cons rfl .nil) cf10 rfl (Num_w _ _) ?_); clear hS a; (try clear w); intro a w hS
   refine L_ge hS rfl rfl (e_bin rfl rfl rfl) rfl ?_; clear hS a; intro a hS
   refine L_e hS (e_pk rfl rfl) rfl ?_; clear hS a; intro a hS
   refine L_e hS (e_move rfl) rfl ?_; clear hS a; intro a hS
   replace hS := hS.is (t := 104) (c := true) rfl (rfl)
   refine L_ge hS rfl rfl (e_move rfl) rfl ?_; clear hS a; intro a hS
   refine L_go hS rfl rfl (s_callP hS (.cons rfl .nil) cf33 rfl (lClosed_P x14 s3 _ (hS.get (X := ledA x14 s3 true) (by repeat constructor))) ?_); clear hS a; (try clear w); intro a w hS
   rw [show s3.closed = -1 from congrArg PL.closed hp3] at hS
   refine L_ge hS rfl rfl (e_bin rfl rfl rfl) rfl ?_; clear hS a; intro a hS
   refine L_e hS (e_pk rfl rfl) rfl ?_; clear hS a; intro a hS
   refine L_e hS (e_assign rfl) rfl ?_; clear hS a; intro a hS
   refine L_nil (n_then (wp_ret ?_))
   refine c_ret1 hS Tryz.results6 (.tmp rfl) ?_
   exact ⟨rfl, hS.chg⟩
end Go.Proofs.YtheofhegdjjfgaaGreat

namespace Go.Proofs.YtheofhegdjjfgaaGreat
open Go.RowKit
section
variable {n : Nat} {F0 : Nat → Prop} {w0 w : World} {a : Act} {L : List (Nat × Value)} {Γ : List Asn} {dst : Option Nat} {ty t' : Nat} {pos : String} {af : Array Edge} {g : Option (Nat × Bool)} {x y : Operand}
end
def balD (c : ByteArray) (ps : List Pst) : SM := ps.foldl (balStep c) (0, 0)
theorem bal_from (c : ByteArray) : ∀ (ps : List Pst) (g : SM), ps.foldl (balStep c) g = (g.1 + (balD c ps).1, g.2 + (balD c ps).2)
  | [], g => by simp [balD]
  | p :: r, g => by
    have h1 := bal_from c r (balStep c g p)
    have h2 := bal_from c r (balStep c (0, 0) p)
    unfold balD at h1 h2 ⊢
    rw [List.foldl_cons, List.foldl_cons, h1, h2]
    unfold balStep addS
    split <;> (refine Prod.ext ?_ ?_ <;> simp only <;> omega)
theorem balD_append (c : ByteArray) (l r : List Pst) : balD c (l ++ r) = ((balD c l).1 + (balD c r).1, (balD c l).2 + (balD c r).2) := by
  unfold balD
  rw [List.foldl_append, bal_from]
  rfl
theorem sumFn_cons (p : Pst) (r : List Pst) : sumFn (p :: r) = p.f + sumFn r := by
  have h : ∀ (l : List Pst) (g : Int), l.foldl (fun a p => a + p.f) g = g + l.foldl (fun a p => a + p.f) 0 := by
    intro l
    induction l with
    | nil => intro g; simp
    | cons q s ih => intro g; rw [List.foldl_cons, List.foldl_cons, ih, ih (0 + q.f)]; omega
  unfold sumFn
  rw [List.foldl_cons, h]; omega
theorem triT_of (P : PL) (at_ : Int) (c : ByteArray) : totOf (triT P at_) c = if inst at_ then balD c (postsAt P.es at_) else (0, 0) := by
  unfold triT
  split
  · rw [tri_sum]; rfl
  · rfl
end Go.Proofs.YtheofhegdjjfgaaGreat

namespace Go.Proofs.YtheofhegdjjfgaaGreat
open Go.RowKit
def freshOk (o : LO) : Prop := o.kind = 1 ∧ checkE P4 o.at_ o.memo o.ps = 0
instance (o : LO) : Decidable (freshOk o) := by unfold freshOk; infer_instance
end Go.Proofs.YtheofhegdjjfgaaGreat

namespace Go.Proofs.YtheofhegdjjfgaaGreat
open Go.RowKit
theorem checkAny_P (B : LB) (s : LS) (pv : Value) (at_ : Int) (memo : ByteArray) (ps : List Pst) (hlen : ps.length ≤ 4611686018427387904) (hfit : ∀ x ∈ ps, x.fits) (hbt : balT s.tot) (w0 : World) (h : ledφ B s w0) (hp : PsAt pv ps w0) (hd : ∀ k, ps ≠ [] → pv.ownBlock = some k → ¬ ledF B s k) :
    PureC Tryz.prog 36 [.pointer (some ⟨B.lb, 0, none⟩), .int .i64 at_, .string memo, pv] w0 (.int .i64 (checkE (pl s) at_ memo ps)) := by
  by_cases hne : ps = []
  · subst hne
    obtain ⟨a, c, rfl⟩ := hp.shape
    exact lCheck0_P B s a c at_ memo w0 h
  · obtain ⟨b, off, c, rfl, hr, hb⟩ := hp.some hne
    exact lCheck_P B s (some (b, off)) c at_ memo ps hlen hfit hbt w0 h hr (fun q hq => by cases hq; exact hb) (fun q hq => by cases hq; exact hd b hne rfl)
theorem psAt_own {v : Value} {E : Nat} {ps : List Pst} {w : World} (h : w.ownsRow 0 E 3 v ps.length (ps.flatMap encP)) : PsAt v ps w := by
  by_cases e : ps = []
  · subst e
    obtain ⟨a, c, hv⟩ := own_slice h
    exact .inl ⟨rfl, a, c, hv⟩
  · rcases h.2 with ⟨_, e2⟩ | ⟨g, cap, cur, rfl, h1, h2, h3⟩
    · exact absurd (List.length_eq_zero_iff.1 e2) e
    · exact .inr ⟨g, 0, cap, e, rfl, row_of_own (enc := encP) (s := 3) (fun _ => rfl) h, (World.ownsRow.lt h g rfl).2⟩
theorem own_at {w : World} {E s m c : Nat} {q : Option Addr} {xs : List Value} (h : w.ownsRow 0 E s (.slice q m c) m xs) (hm : m ≠ 0) : ∃ g, q = some ⟨g, 0, none⟩ := by
  rcases h.2 with ⟨_, e2⟩ | ⟨g, cap, cur, e1, _⟩
  · exact absurd e2 hm
  · injection e1 with e3; exact ⟨g, e3⟩
end Go.Proofs.YtheofhegdjjfgaaGreat

namespace Go.Proofs.YtheofhegdjjfgaaGreat
open Go.RowKit
theorem ltV_asymm {x y : Ent} (h1 : ltV x y) (h2 : ltV y x) : False := by unfold ltV at h1 h2; omega
theorem uniqV : ∀ {l r : List Ent}, l.Perm r → l.Pairwise ltV → r.Pairwise ltV → l = r
  | [], r, h, _, _ => by rw [List.nil_perm] at h; exact h.symm
  | x :: l, [], h, _, _ => by have := h.length_eq; simp at this
  | x :: l, y :: r, h, h1, h2 => by
    have a1 := List.pairwise_cons.1 h1
    have a2 := List.pairwise_cons.1 h2
    have hxy : x = y := by
      rcases List.mem_cons.1 (h.mem_iff.1 (List.mem_cons_self)) with e | hx
      · exact e
      · rcases List.mem_cons.1 (h.mem_iff.2 (List.mem_cons_self)) with e | hy
        · exact e.symm
        · exact (ltV_asymm (a1.1 y hy) (a2.1 x hx)).elim
    subst hxy
    rw [uniqV (List.Perm.cons_inv h) a1.2 a2.2]
theorem EntsOf.uniq {es : List Ent} {f t : Int} {l r : List Ent} (h1 : EntsOf es f t l) (h2 : EntsOf es f t r) : l = r := uniqV (h1.perm.trans h2.perm.symm) h1.srt h2.srt
theorem filter_parts (es : List Ent) (p q r : Ent → Bool) (h : ∀ e, p e = (q e || r e)) (hd : ∀ e, ¬ (q e = true ∧ r e = true)) : (es.filter p).Perm (es.filter q ++ es.filter r) := by
  induction es with
  | nil => exact .refl _
  | cons e l ih =>
    rw [List.filter_cons, List.filter_cons, List.filter_cons, h e]
    cases hq : q e <;> cases hr : r e
    · simpa using ih
    · simp only [Bool.false_or, if_true, if_false, Bool.false_eq_true]
      exact (List.Perm.cons e ih).trans List.perm_middle.symm
    · simp only [Bool.or_false, if_true, if_false, Bool.false_eq_true, List.cons_append]
      exact List.Perm.cons e ih
    · exact absurd ⟨hq, hr⟩ (hd e)
theorem EntsOf.join {es : List Ent} {f m t : Int} {l r : List Ent} (h1 : EntsOf es f m l) (h2 : EntsOf es m t r) (hfm : f ≤ m) (hmt : m ≤ t) : EntsOf es f t (l ++ r) := by
  constructor
  · refine (h1.perm.append h2.perm).trans (filter_parts es _ _ _ (fun e => ?_) (fun e he => ?_)).symm
    · rw [← Bool.decide_or, decide_eq_decide]; omega
    · have a := of_decide_eq_true he.1
      have b := of_decide_eq_true he.2
      omega
  · refine List.pairwise_append.2 ⟨h1.srt, h2.srt, fun x hx y hy => ?_⟩
    have a := (List.mem_filter.1 (h1.perm.mem_iff.1 hx)).2
    have b := (List.mem_filter.1 (h2.perm.mem_iff.1 hy)).2
    have a := of_decide_eq_true a
    have b := of_decide_eq_true b
    exact .inl (by omega)
theorem EntsOf.mem {es : List Ent} {f t : Int} {l : List Ent} (h : EntsOf es f t l) {x : Ent} (hx : x ∈ l) : x ∈ es ∧ f ≤ x.at_ ∧ x.at_ < t := by
  have a := List.mem_filter.1 (h.perm.mem_iff.1 hx)
  exact ⟨a.1, of_decide_eq_true a.2⟩
theorem EntsOf.len {es : List Ent} {f t : Int} {l : List Ent} (h : EntsOf es f t l) : l.length ≤ es.length := by
  rw [h.perm.length_eq]; exact List.length_filter_le _ _
def idN (P : PL) : Prop := ∀ (i : Nat) (x : Ent), P.es[i]? = some x → x.id = (i : Int) + 1
theorem idN_step {P : PL} (h : idN P) (o : LO) : idN (stepP P o) := by
  unfold stepP
  split
  · unfold openP; split <;> exact h
  · split
    · unfold postP
      split
      · intro i x hx
        simp only at hx
        by_cases e : i < P.es.length
        · rw [List.getElem?_append_left e] at hx; exact h i x hx
        · rw [List.getElem?_append_right (by omega)] at hx
          have hi : i - P.es.length = 0 := by
            have := (List.getElem?_eq_some_iff.1 hx).1
            simp at this; omega
          rw [hi] at hx
          cases hx
          simp only; omega
      · exact h
    · split
      · unfold closeP; split <;> exact h
      · exact h
theorem idN.ids {P : PL} (h : idN P) : idsP P.es := List.pairwise_iff_getElem.2 fun i j hi hj hij => by
  have a := h i _ (List.getElem?_eq_getElem hi)
  have b := h j _ (List.getElem?_eq_getElem hj)
  omega
theorem oneE (l : List EA) : ∀ u ∈ l.flatMap encE, isOne u = true := fun u hu => by
  obtain ⟨x, _, hx⟩ := List.mem_flatMap.1 hu
  simp only [encE, List.mem_cons, List.not_mem_nil, or_false] at hx
  rcases hx with rfl | rfl | rfl | rfl <;> rfl
theorem lenE (l : List EA) : (l.flatMap encE).length = l.length * 4 := flat_len encE 4 (fun _ => rfl) l
end Go.Proofs.YtheofhegdjjfgaaGreat

namespace Go.Proofs.YtheofhegdjjfgaaGreat
open Go.RowKit
theorem srt_of (xs : List ByteArray) : (srt xs).Perm xs := by
  unfold srt
  refine (List.Perm.map _ (List.mergeSort_perm _ _)).trans ?_
  unfold bytesL
  rw [List.map_map]
  have e : xs.map ((fun l : List UInt8 => (⟨l.toArray⟩ : ByteArray)) ∘ fun x : ByteArray => x.data.toList) = xs := by
    conv => rhs; rw [← List.map_id xs]
    exact List.map_congr_left fun x _ => rfl
  rw [e]
theorem accOf_mem {acs : List Acc} {k : ByteArray} (h : k ∈ codesA acs) : accOf acs k ∈ acs ∧ (accOf acs k).code = k := by
  unfold accOf findA
  obtain ⟨a, ha, hk⟩ := List.mem_map.1 h
  cases e : acs.find? fun a => decide (a.code = k) with
  | none => exact absurd (by simpa using hk) (List.find?_eq_none.1 e a ha)
  | some x => exact ⟨List.mem_of_find?_eq_some e, by simpa using List.find?_some e⟩
theorem accs_codes (acs : List Acc) : (accsL acs).map (·.code) = srt (codesA acs) := by
  unfold accsL
  rw [List.map_map]
  conv => rhs; rw [← List.map_id (srt (codesA acs))]
  exact List.map_congr_left fun k hk => (accOf_mem ((srt_of _).mem_iff.1 hk)).2
theorem accs_mem {acs : List Acc} {a : Acc} (h : a ∈ accsL acs) : a ∈ acs ∧ accOf acs a.code = a := by
  unfold accsL at h
  obtain ⟨k, hk, rfl⟩ := List.mem_map.1 h
  have h1 := accOf_mem ((srt_of _).mem_iff.1 hk)
  exact ⟨h1.1, by rw [h1.2]⟩
theorem curSum_append (acs : List Acc) (c : ByteArray) (l r : List Pst) : curSum acs c (l ++ r) = curSum acs c l + curSum acs c r := by
  induction l with
  | nil => simp [curSum]
  | cons p l ih => rw [List.cons_append, curSum_cons, curSum_cons, ih]; omega
def cur6 : List ByteArray := [⟨#[67, 72, 70]⟩, ⟨#[69, 85, 82]⟩, ⟨#[71, 66, 80]⟩, ⟨#[74, 80, 89]⟩, ⟨#[75, 87, 68]⟩, ⟨#[85, 83, 68]⟩]
theorem cur6_nodup : cur6.Nodup := by decide +kernel
theorem scale_mem {s : ByteArray} (h : (scaleR s).2 = 0) : s ∈ cur6 := by
  unfold scaleR at h
  split at h
  · cases h
  · rename_i h1
    rcases firstIdx_cases (fun x : ByteArray × Int => decide (x.1 = s)) curs with ⟨i, x, hi, hx, hp⟩ | h2
    · have hm := List.mem_of_getElem? hx
      have e : x.1 = s := by simpa using hp
      rw [← e]
      have : cur6 = curs.map (·.1) := by decide +kernel
      rw [this]
      exact List.mem_map.2 ⟨x, hm, rfl⟩
    · exfalso; have := h2.1; exact h1 (by show curIdx s < 0; unfold curIdx; omega)
def wfC (P : PL) : Prop := ∀ a ∈ P.acs, a.cur ∈ cur6
theorem wfC_step {P : PL} (h : wfC P) (o : LO) : wfC (stepP P o) := by
  unfold stepP
  split
  · unfold openP
    split
    · rename_i hE
      intro a ha
      rcases List.mem_append.1 ha with ha | ha
      · exact h a ha
      · obtain rfl := List.mem_singleton.1 ha
        refine scale_mem (Classical.byContradiction fun e => ?_)
        unfold openEP at hE
        split at hE
        · cases hE
        · first | (exact absurd hE (by decide)) | (rw [if_pos e] at hE; cases hE)
    · exact h
  · split
    · unfold postP; split <;> exact h
    · split
      · unfold closeP; split <;> exact h
      · exact h
def sumC (f : ByteArray → Int) : List ByteArray → Int
  | [] => 0
  | a :: r => f a + sumC f r
theorem sumC_append (f : ByteArray → Int) (l r : List ByteArray) : sumC f (l ++ r) = sumC f l + sumC f r := by
  induction l with
  | nil => simp [sumC]
  | cons a l ih => simp only [List.cons_append, sumC, ih]; omega
theorem sumC_take (f : ByteArray → Int) {l : List ByteArray} {i : Nat} {x : ByteArray} (h : l[i]? = some x) : sumC f (l.take (i + 1)) = sumC f (l.take i) + f x := by
  rw [List.take_add_one, h, sumC_append]; simp [sumC]
theorem sumC_none (v : Int) (k : ByteArray) : ∀ cs : List ByteArray, ¬ k ∈ cs → sumC (fun c => if k = c then v else 0) cs = 0
  | [], _ => rfl
  | c :: r, h => by
    simp only [sumC]
    rw [if_neg (fun e => h (by rw [e]; exact .head _)), sumC_none v k r (fun e => h (.tail _ e))]; rfl
theorem sumC_one (v : Int) (k : ByteArray) : ∀ cs : List ByteArray, cs.Nodup → k ∈ cs → sumC (fun c => if k = c then v else 0) cs = v
  | c :: r, hn, h => by
    have h2 := List.nodup_cons.1 hn
    simp only [sumC]
    by_cases e : k = c
    · rw [if_pos e, sumC_none v k r (by rw [e]; exact h2.1)]; omega
    · rw [if_neg e, sumC_one v k r h2.2 (by rcases List.mem_cons.1 h with h | h; exact absurd h e; exact h)]; omega
def valT (P : PL) (at_ : Int) (a : Acc) : SM := balV (totOf (triT P at_) a.code)
end Go.Proofs.YtheofhegdjjfgaaGreat

namespace Go.Proofs.YtheofhegdjjfgaaGreat
theorem leS_iff (x y : ByteArray) : leS x y = true ↔ x.data.toList ≤ y.data.toList := by
  unfold leS
  rw [bytesLess_eq, Lib.toList_data, Lib.toList_data]
  simp only [Bool.or_eq_true, decide_eq_true_eq, beq_iff_eq]
  constructor
  · rintro (h | h)
    · exact List.le_of_lt h
    · rw [h]; exact List.le_refl _
  · intro h
    by_cases e : x.data.toList = y.data.toList
    · exact .inr e
    · left
      rcases Classical.em (x.data.toList < y.data.toList) with h1 | h1
      · exact h1
      · exact absurd (List.le_antisymm h h1) e
theorem leS_trans {x y z : ByteArray} (h1 : leS x y = true) (h2 : leS y z = true) : leS x z = true := (leS_iff x z).2 (List.le_trans ((leS_iff x y).1 h1) ((leS_iff y z).1 h2))
theorem leS_anti {x y : ByteArray} (h1 : leS x y = true) (h2 : leS y x = true) : x = y := by
  have := List.le_antisymm ((leS_iff x y).1 h1) ((leS_iff y x).1 h2)
  apply ByteArray.ext; apply Array.ext'; exact this
theorem leS_total {x y : ByteArray} (h : leS x y = false) : leS y x = true := by
  rcases List.le_total x.data.toList y.data.toList with h1 | h1
  · rw [(leS_iff x y).2 h1] at h; cases h
  · exact (leS_iff y x).2 h1
theorem srt_pw (xs : List ByteArray) (hn : xs.Nodup) : (srt xs).Pairwise fun x y => leS x y = true ∧ x ≠ y := by
  have hs : ((bytesL xs).mergeSort fun x y => decide (x ≤ y)).Pairwise fun a b => decide (a ≤ b) = true :=
    List.pairwise_mergeSort (fun a b c h1 h2 => by simp only [decide_eq_true_eq] at *; exact List.le_trans h1 h2) (fun a b => by simp only [Bool.or_eq_true, decide_eq_true_eq]; exact List.le_total a b) _
  have hb : (bytesL xs).Nodup := by
    unfold bytesL List.Nodup
    rw [List.pairwise_map]
    exact hn.imp fun h e => h (by apply ByteArray.ext; apply Array.ext'; exact e)
  have hd : ((bytesL xs).mergeSort fun x y => decide (x ≤ y)).Nodup := (List.mergeSort_perm _ _).nodup_iff.2 hb
  unfold srt
  rw [List.pairwise_map]
  refine (List.pairwise_and_iff.2 ⟨hs, hd⟩).imp ?_
  rintro a b ⟨h1, h2⟩
  refine ⟨(leS_iff _ _).2 (by simpa using h1), fun e => h2 ?_⟩
  have := congrArg (fun x : ByteArray => x.data.toList) e
  simpa using this
end Go.Proofs.YtheofhegdjjfgaaGreat

namespace Go.Proofs.YtheofhegdjjfgaaGreat
open Go.RowKit
def ltB (x y : ByteArray) : Bool := Go.Op.bytesLess x.toList y.toList
theorem ltB_iff (x y : ByteArray) : ltB x y = true ↔ leS x y = true ∧ x ≠ y := by
  rw [leS_iff]
  unfold ltB
  rw [bytesLess_eq, Lib.toList_data, Lib.toList_data, decide_eq_true_eq]
  constructor
  · intro h
    exact ⟨List.le_of_lt h, fun e => by rw [e] at h; exact List.lt_irrefl _ h⟩
  · rintro ⟨h, hne⟩
    rcases Classical.em (x.data.toList < y.data.toList) with h1 | h1
    · exact h1
    · exact absurd (by apply ByteArray.ext; apply Array.ext'; exact List.le_antisymm h h1) hne
theorem ltB_no {x y : ByteArray} (h : ¬ ltB x y = true) (hne : x ≠ y) : leS y x = true ∧ y ≠ x := by
  refine ⟨?_, fun e => hne e.symm⟩
  rw [ltB_iff] at h
  cases e : leS x y with
  | true => exact absurd ⟨e, hne⟩ h
  | false => exact leS_total e
def ltC (x y : Acc) : Prop := leS x.code y.code = true ∧ x.code ≠ y.code
theorem ltC_trans {x y z : Acc} (h1 : ltC x y) (h2 : ltC y z) : ltC x z :=
  ⟨leS_trans h1.1 h2.1, fun e => h1.2 (leS_anti h1.1 (by rw [e]; exact h2.1))⟩
theorem ltC_asymm {x y : Acc} (h1 : ltC x y) (h2 : ltC y x) : False := h1.2 (leS_anti h1.1 h2.1)
theorem uniqA : ∀ {l r : List Acc}, l.Perm r → l.Pairwise ltC → r.Pairwise ltC → l = r
  | [], r, h, _, _ => by rw [List.nil_perm] at h; exact h.symm
  | x :: l, [], h, _, _ => by have := h.length_eq; simp at this
  | x :: l, y :: r, h, h1, h2 => by
    have a1 := List.pairwise_cons.1 h1
    have a2 := List.pairwise_cons.1 h2
    have hxy : x = y := by
      rcases List.mem_cons.1 (h.mem_iff.1 (List.mem_cons_self)) with e | hx
      · exact e
      · rcases List.mem_cons.1 (h.mem_iff.2 (List.mem_cons_self)) with e | hy
        · exact e.symm
        · exact (ltC_asymm (a1.1 y hy) (a2.1 x hx)).elim
    subst hxy
    rw [uniqA (List.Perm.cons_inv h) a1.2 a2.2]
theorem accs_srt {acs : List Acc} (hn : (codesA acs).Nodup) : (accsL acs).Pairwise ltC := by
  have h := srt_pw _ hn
  rw [← accs_codes, List.pairwise_map] at h
  exact h
theorem acc_inj {acs : List Acc} (hn : (codesA acs).Nodup) {x y : Acc} (hx : x ∈ acs) (hy : y ∈ acs) (e : x.code = y.code) : x = y := by
  obtain ⟨i, hi, rfl⟩ := List.mem_iff_getElem.1 hx
  obtain ⟨j, hj, rfl⟩ := List.mem_iff_getElem.1 hy
  have hp : acs.Pairwise fun x y => x.code ≠ y.code := by
    have h := hn
    unfold codesA List.Nodup at h
    rwa [List.pairwise_map] at h
  have hq := List.pairwise_iff_getElem.1 hp
  rcases Nat.lt_trichotomy i j with h | h | h
  · exact absurd e (hq i j hi hj h)
  · subst h; rfl
  · exact absurd e.symm (hq j i hj hi h)
theorem accOf_own {acs : List Acc} (hn : (codesA acs).Nodup) {a : Acc} (ha : a ∈ acs) : accOf acs a.code = a := by
  have h1 := accOf_mem (acs := acs) (k := a.code) (List.mem_map.2 ⟨a, ha, rfl⟩)
  exact acc_inj hn h1.1 ha h1.2
theorem accs_perm {acs : List Acc} (hn : (codesA acs).Nodup) : (accsL acs).Perm acs := by
  unfold accsL
  refine ((srt_of _).map _).trans ?_
  unfold codesA
  rw [List.map_map]
  have e : acs.map (accOf acs ∘ (·.code)) = acs := by
    conv => rhs; rw [← List.map_id acs]
    exact List.map_congr_left fun a ha => accOf_own hn ha
  rw [e]
theorem ins_eq {acs : List Acc} {a : Acc} (hn : (codesA (acs ++ [a])).Nodup) {k : Nat} (hk : k ≤ (accsL acs).length) (hlo : ∀ j y, j < k → (accsL acs)[j]? = some y → ltB y.code a.code = true) (hhi : ∀ y, (accsL acs)[k]? = some y → ¬ ltB y.code a.code = true) :
    (accsL acs).take k ++ a :: (accsL acs).drop k = accsL (acs ++ [a]) := by
  have hn1 : (codesA acs).Nodup := by
    unfold codesA at hn ⊢
    rw [List.map_append] at hn
    exact (List.nodup_append.1 hn).1
  have hna : ∀ y ∈ accsL acs, y.code ≠ a.code := fun y hy e => by
    unfold codesA at hn
    rw [List.map_append] at hn
    exact (List.nodup_append.1 hn).2.2 y.code (List.mem_map.2 ⟨y, (accs_mem hy).1, rfl⟩) a.code (by simp) e
  have hs := accs_srt hn1
  refine uniqA ?_ ?_ (accs_srt hn)
  · refine List.Perm.trans ?_ (accs_perm hn).symm
    refine List.perm_middle.trans ?_
    rw [List.take_append_drop]
    exact (List.Perm.cons a (accs_perm hn1)).trans (List.perm_append_comm (l₁ := [a]))
  · have hlo2 : ∀ y ∈ (accsL acs).take k, ltC y a := fun y hy => by
      obtain ⟨j, hj, rfl⟩ := List.mem_iff_getElem.1 hy
      have hj2 : j < k := by rw [List.length_take] at hj; omega
      rw [List.getElem_take]
      exact (ltB_iff _ _).1 (hlo j _ hj2 (List.getElem?_eq_getElem (by rw [List.length_take] at hj; omega)))
    have hhi2 : ∀ y ∈ (accsL acs).drop k, ltC a y := fun y hy => by
      obtain ⟨j, hj, rfl⟩ := List.mem_iff_getElem.1 hy
      rw [List.length_drop] at hj
      have h0 : (accsL acs)[k]? = some ((accsL acs)[k]'(by omega)) := List.getElem?_eq_getElem (by omega)
      have h1 : ltC a ((accsL acs)[k]'(by omega)) := ltB_no (hhi _ h0) (hna _ (List.getElem_mem _))
      rw [List.getElem_drop]
      by_cases e : j = 0
      · subst e; exact h1
      · exact ltC_trans h1 (List.pairwise_iff_getElem.1 hs k (k + j) (by omega) (by omega) (by omega))
    refine List.pairwise_append.2 ⟨List.Pairwise.sublist (List.take_sublist _ _) hs, List.pairwise_cons.2 ⟨hhi2, List.Pairwise.sublist (List.drop_sublist _ _) hs⟩, fun x hx y hy => ?_⟩
    rcases List.mem_cons.1 hy with rfl | hy
    · exact hlo2 x hx
    · exact ltC_trans (hlo2 x hx) (hhi2 y hy)
def insAt (x : Ent) (vs : List Ent) (k : Nat) : Prop := k ≤ vs.length ∧ (∀ j y, k ≤ j → vs[j]? = some y → x.at_ < y.at_) ∧ ∀ y, 0 < k → vs[k - 1]? = some y → y.at_ ≤ x.at_
theorem ent_ins {es : List Ent} {f t : Int} {vs : List Ent} {x : Ent} (hid : idsP (es ++ [x])) (h : EntsOf es f t vs) (hin : inT f t x) {k : Nat} (hk : insAt x vs k) : EntsOf (es ++ [x]) f t (vs.take k ++ x :: vs.drop k) := by
  obtain ⟨hk1, hk2, hk3⟩ := hk
  have hidx : ∀ y ∈ vs, y.id < x.id := fun y hy => (List.pairwise_append.1 hid).2.2 y (h.mem hy).1 x (by simp)
  constructor
  · refine List.perm_middle.trans ?_
    rw [List.take_append_drop, List.filter_append]
    have e : [x].filter (fun e => decide (f ≤ e.at_ ∧ e.at_ < t)) = [x] := by
      rw [List.filter_cons, if_pos (by simpa [inT] using hin)]; rfl
    rw [e]
    exact (List.Perm.cons x h.perm).trans (List.perm_append_comm (l₁ := [x]))
  · have hlo : ∀ y ∈ vs.take k, ltV y x := fun y hy => by
      obtain ⟨j, hj, rfl⟩ := List.mem_iff_getElem.1 hy
      rw [List.length_take] at hj
      rw [List.getElem_take]
      have hm : vs[j]'(by omega) ∈ vs := List.getElem_mem _
      have h1 := hidx _ hm
      have h0 : vs[k - 1]? = some (vs[k - 1]'(by omega)) := List.getElem?_eq_getElem (by omega)
      have h2 := hk3 _ (by omega) h0
      have h3 : (vs[j]'(by omega)).at_ ≤ (vs[k - 1]'(by omega)).at_ := by
        by_cases e : j = k - 1
        · subst e; exact Int.le_refl _
        · have := List.pairwise_iff_getElem.1 h.srt j (k - 1) (by omega) (by omega) (by omega)
          unfold ltV at this; omega
      unfold ltV; omega
    have hhi : ∀ y ∈ vs.drop k, ltV x y := fun y hy => by
      obtain ⟨j, hj, rfl⟩ := List.mem_iff_getElem.1 hy
      rw [List.length_drop] at hj
      rw [List.getElem_drop]
      exact .inl (hk2 (k + j) _ (by omega) (List.getElem?_eq_getElem (by omega)))
    have ltr : ∀ {x y z : Ent}, ltV x y → ltV y z → ltV x z := fun h1 h2 => by unfold ltV at *; omega
    refine List.pairwise_append.2 ⟨List.Pairwise.sublist (List.take_sublist _ _) h.srt, List.pairwise_cons.2 ⟨hhi, List.Pairwise.sublist (List.drop_sublist _ _) h.srt⟩, fun u hu y hy => ?_⟩
    rcases List.mem_cons.1 hy with rfl | hy
    · exact hlo u hu
    · exact ltr (hlo u hu) (hhi y hy)
theorem ent_skip {es : List Ent} {f t : Int} {vs : List Ent} {x : Ent} (h : EntsOf es f t vs) (hin : ¬ inT f t x) : EntsOf (es ++ [x]) f t vs := by
  refine ⟨?_, h.srt⟩
  rw [List.filter_append]
  have e : [x].filter (fun e => decide (f ≤ e.at_ ∧ e.at_ < t)) = [] := by
    rw [List.filter_cons, if_neg (by simpa [inT] using hin)]; rfl
  rw [e, List.append_nil]; exact h.perm
theorem ent_nil (f t : Int) : EntsOf [] f t [] := ⟨.refl _, .nil⟩
end Go.Proofs.YtheofhegdjjfgaaGreat

namespace Go.Proofs.YtheofhegdjjfgaaGreat
open Go.RowKit
def encS (x : ByteArray × Int) : List Value := [.string x.1]
def encN (x : ByteArray × Int) : List Value := [.int .i64 x.2]
set_option maxRecDepth 100000 in
theorem xCodes_P (w0 : World) : NewC Tryz.prog 79 [] w0 (fun b : Nat => .slice (some ⟨b, 0, none⟩) 6 6) (fun b => .blk b (curs.flatMap encS) 9) := by
  refine c_enter [] [] noB Tryz.func79 rfl Tryz.ntmps79 trivial rfl (by simp) (by simp) (by simp) ?_
  intro a hS
  refine c_seq (c_region ?_)
  refine L_e hS (e_assign rfl) rfl ?_; clear hS a; intro a hS
  refine L_nil (n_then (c_seq (c_region ?_)))
  refine L_op (s_bslice hS ty_sl154 ty_sz9 ty_z9 rfl rfl rfl rfl (.one rfl rfl rfl (.one rfl rfl rfl (.one rfl rfl rfl (.one rfl rfl rfl (.one rfl rfl rfl (.one rfl rfl rfl .nil)))))) rfl ?_); clear hS a; (try clear w); intro a w b1 hS
  refine L_e hS (e_assign rfl) rfl ?_; clear hS a; intro a hS
  refine L_nil (n_then (wp_ret ?_))
  refine c_ret1 hS Tryz.results79 (.tmp rfl) ?_
  exact ⟨b1, rfl, hS.chg, hS.new (.head _) rfl⟩
def refS (s : ByteArray) : Int := if curIdx s < 0 then -1 else (curs.getD (curIdx s).toNat (⟨#[]⟩, 0)).2
theorem idx_some {s : ByteArray} {k : Nat} {x : ByteArray × Int} (hx : curs[k]? = some x) (hs : x.1 = s) (hno : ∀ j, j < k → ∀ y, curs[j]? = some y → y.1 ≠ s) : curIdx s = k :=
  firstIdx_some hx (decide_eq_true hs) (fun j hj y hy => decide_eq_false (hno j hj y hy))
theorem idx_none {s : ByteArray} (hno : ∀ j, j < 6 → ∀ y, curs[j]? = some y → y.1 ≠ s) : curIdx s = -1 :=
  firstIdx_none (fun j hj y hy => decide_eq_false (hno j hj y hy))
theorem refS_neg (s : ByteArray) : refS s < 0 ↔ (scaleR s).2 ≠ 0 := by
  unfold refS scaleR
  split
  · simp
  · rename_i h
    simp only [ne_eq, not_true_eq_false, iff_false, Int.not_lt]
    rw [List.getD_eq_getElem?_getD]
    rcases firstIdx_cases (fun x : ByteArray × Int => decide (x.1 = s)) curs with ⟨i, x, hi, hx, _⟩ | h2
    · rw [show curIdx s = (i : Int) from hi, Int.toNat_natCast, hx]
      have := List.mem_of_getElem? hx
      simp [curs] at this
      rcases this with rfl | rfl | rfl | rfl | rfl | rfl <;> decide
    · exfalso; have := h2.1; exact h (by show curIdx s < 0; unfold curIdx; omega)
set_option maxRecDepth 100000 in
theorem xScale_P (s : ByteArray) (w0 : World) : PureC Tryz.prog 35 [.string s] w0 (.int .i64 (refS s)) := by
  refine c_enter [(0, .string s)] [] noB Tryz.func35 rfl Tryz.ntmps35 ⟨rfl, trivial⟩ rfl (by simp) (by simp) (by simp) ?_
  intro a hS
  refine c_seq (c_region ?_)
  refine L_e hS (e_assign rfl) rfl ?_; clear hS a; intro a hS
  refine L_nil (n_then (c_seq (c_region ?_)))
  refine L_op (s_bslice hS ty_sl137 ty_sz3 ty_z3 rfl rfl rfl rfl (.one rfl rfl rfl (.one rfl rfl rfl (.one rfl rfl rfl (.one rfl rfl rfl (.one rfl rfl rfl (.one rfl rfl rfl .nil)))))) rfl ?_); clear hS a; (try clear w); intro a w b6 hS
  refine L_e hS (e_assign rfl) rfl ?_; clear hS a; intro a hS
  refine L_nil (n_then (c_seq (c_region ?_)))
  refine L_op (s_callN hS .nil cf79 rfl (xCodes_P _) ?_); clear hS a; (try clear w); intro x7 a w hS
  refine L_e hS (e_assign rfl) rfl ?_; clear hS a; intro a hS
  refine L_nil (n_then (c_seq (c_seq (c_region ?_))))
  refine L_e hS (e_assign rfl) rfl ?_; clear hS a; intro a hS
  refine L_nil (n_then (wp_block ?_))
  skip
  refine c_loop (γ := Nat) (fun k a w => St 24 noB w0 a w [(5, .int .i64 (k : Int)), (4, .slice (some ⟨x7, 0, none⟩) 6 6), (3, .slice (some ⟨b6, 0, none⟩) 6 6), (0, .string s)] [.blk x7 (curs.flatMap encS) 9, .blk b6 (curs.flatMap encN) 3] ∧ k ≤ 6 ∧ ∀ j, j < k → ∀ y, curs[j]? = some y → y.1 ≠ s) (fun k => 6 - k) 0 ⟨(hS.slots (by repeat (first | exact trivial | refine ⟨rfl, ?_⟩))).pick (by repeat (first | exact Pick.nil | (refine Pick.cons (by repeat (first | exact Rem.head | apply Rem.tail)) ?_))), Nat.zero_le _, fun j hj => by omega⟩ ?_
  clear hS a; (try clear w); intro k a w hI
  obtain ⟨hS, hk, hno⟩ := hI
  refine c_seq (c_seq (c_region ?_))
  refine L_e hS (e_move rfl) rfl ?_; clear hS a; intro a hS
  refine L_e hS (e_move rfl) rfl ?_; clear hS a; intro a hS
  refine L_e hS (e_len rfl rfl ty_sl154) rfl ?_; clear hS a; intro a hS
  refine L_e hS (e_bin rfl rfl rfl) rfl ?_; clear hS a; intro a hS
  refine L_nil (n_then ?_)
  first | refine c_ifD hS rfl (fun hc11 => ?_) (fun hc11 => ?_) | refine c_if hS rfl (fun hc11 => ?_) (fun hc11 => ?_)
  ·
    have hk6 : k < 6 := by omega
    obtain ⟨x, hx⟩ : ∃ x, curs[k]? = some x := ⟨curs[k], List.getElem?_eq_getElem hk6⟩
    refine wp_skip (n_then (c_seq (wp_block (c_seq (c_region ?_)))))
    refine L_e hS (e_move rfl) rfl ?_; clear hS a; intro a hS
    refine L_e hS (e_move rfl) rfl ?_; clear hS a; intro a hS
    refine L_e hS (e_ixN rfl rfl ty_sl154 ty_sz9 (by omega)) rfl ?_; clear hS a; intro a hS
    refine L_e hS (e_loadC rfl ty_sc9 (fun w hh => blkrow_get (enc := encS) (by repeat constructor) (fun _ => rfl) hx w hh 0 (.string x.1) rfl)) rfl ?_; clear hS a; intro a hS
    refine L_e hS (e_move rfl) rfl ?_; clear hS a; intro a hS
    refine L_e hS (e_binS rfl rfl rfl) rfl ?_; clear hS a; intro a hS
    refine L_nil (n_then ?_)
    first | refine c_ifD hS rfl (fun hc19 => ?_) (fun hc19 => ?_) | refine c_if hS rfl (fun hc19 => ?_) (fun hc19 => ?_)
    ·
      refine c_seq (c_region ?_)
      refine L_e hS (e_move rfl) rfl ?_; clear hS a; intro a hS
      refine L_e hS (e_move rfl) rfl ?_; clear hS a; intro a hS
      refine L_e hS (e_ixN rfl rfl ty_sl137 ty_sz3 (by omega)) rfl ?_; clear hS a; intro a hS
      refine L_e hS (e_loadC rfl ty_sc3 (fun w hh => blkrow_get (enc := encN) (by repeat constructor) (fun _ => rfl) hx w hh 0 (.int .i64 x.2) rfl)) rfl ?_; clear hS a; intro a hS
      refine L_e hS (e_assign rfl) rfl ?_; clear hS a; intro a hS
      refine L_nil (n_then (wp_ret ?_))
      refine r_block (r_then (r_then (r_block (r_then ?_))))
      refine c_ret1 hS Tryz.results35 (.tmp rfl) ?_
      have hi := idx_some hx hc19 hno
      have hg : curs.getD k (⟨#[]⟩, 0) = x := by rw [List.getD_eq_getElem?_getD, hx]; rfl
      exact ⟨by unfold refS; rw [hi, if_neg (by omega), Int.toNat_natCast, hg], hS.chg⟩
    refine wp_skip (n_block (n_then (c_region ?_)))
    refine L_e hS (e_move rfl) rfl ?_; clear hS a; intro a hS
    (first | refine L_e hS (e_binN rfl rfl rfl (by omega)) rfl ?_ | refine L_e hS (e_bin rfl rfl rfl) rfl ?_); clear hS a; intro a hS
    refine L_e hS (e_assign rfl) rfl ?_; clear hS a; intro a hS
    refine L_nil ?_
    exact ⟨k + 1, by omega, hS.slots (by repeat (first | exact trivial | refine ⟨rfl, ?_⟩)), by omega, fun j hj y hy => by
    by_cases e : j = k
    · subst e; rw [hx] at hy; cases hy; exact hc19
    · exact hno j (by omega) y hy⟩
  refine wp_exit ?_
  refine x_then (x_then (x_hit ?_))
  refine n_then (c_seq (c_region ?_))
  refine L_e hS (e_assign rfl) rfl ?_; clear hS a; intro a hS
  refine L_nil (n_then (wp_ret ?_))
  refine c_ret1 hS Tryz.results35 (.tmp rfl) ?_
  exact ⟨by unfold refS; rw [idx_none (fun j hj => hno j (by omega)), if_pos (by decide)], hS.chg⟩
set_option maxRecDepth 100000 in
theorem xInstant_P (n : Int) (w0 : World) : PureC Tryz.prog 54 [.int .i64 n] w0 (.bool (decide (inst n))) := by
  refine c_enter [(0, .int .i64 n)] [] noB Tryz.func54 rfl Tryz.ntmps54 ⟨rfl, trivial⟩ rfl (by simp) (by simp) (by simp) ?_
  intro a hS
  refine c_seq (c_region ?_)
  refine L_e hS (e_assign rfl) rfl ?_; clear hS a; intro a hS
  refine L_nil (n_then (c_seq (c_region ?_)))
  refine L_e hS (e_move rfl) rfl ?_; clear hS a; intro a hS
  refine L_e hS (e_bin rfl rfl rfl) rfl ?_; clear hS a; intro a hS
  refine L_e hS (e_move rfl) rfl ?_; clear hS a; intro a hS
  refine L_merge 3 8 (.bool (decide (inst n))) hS ?_ ?_
  · intro hcM8
    (first | refine g_splitD (t := 5) hS rfl ?_ ?_ | refine g_split (t := 5) hS rfl ?_ ?_) <;> (clear hS; intro hg5 hS)
    ·
      refine L_ge hS rfl rfl (e_move rfl) rfl ?_; clear hS a; intro a hS
      refine L_ge hS rfl rfl (e_bin rfl rfl rfl) rfl ?_; clear hS a; intro a hS
      refine L_e hS (e_pk rfl rfl) rfl ?_; clear hS a; intro a hS
      exact hcM8 _ _ (hS.ends 4 8 5 rfl (congrArg Value.bool (by exact decide_eq_decide.2 (by unfold inst; omega))) rfl rfl (by first | exact congrArg Value.bool (decide_eq_true hg5).symm | exact congrArg Value.bool hg5.symm | simp [hg5]) rfl)
    refine L_skip_t hS rfl rfl rfl ?_; clear hS a; intro a hS
    refine L_skip_t hS rfl rfl rfl ?_; clear hS a; intro a hS
    refine L_e hS (e_pk rfl rfl) rfl ?_; clear hS a; intro a hS
    exact hcM8 _ _ (hS.ends 4 8 5 rfl (congrArg Value.bool (by exact (decide_eq_false (by unfold inst; omega)).symm)) rfl rfl (by first | exact congrArg Value.bool (decide_eq_false hg5).symm | exact congrArg Value.bool hg5.symm | simp [hg5]) rfl)
  · clear hS a; (try clear w); intro a w hS
    simp only [List.drop_succ_cons, List.drop_zero]
    refine L_e hS (e_assign rfl) rfl ?_; clear hS a; intro a hS
    refine L_nil (n_then (wp_ret ?_))
    refine c_ret1 hS Tryz.results54 (.tmp rfl) ?_
    exact ⟨rfl, hS.chg⟩
set_option maxRecDepth 100000 in
theorem xValidName_P (s : ByteArray) (hs : s.size ≤ 4611686018427387904) (w0 : World) : PureC Tryz.prog 52 [.string s] w0 (.bool (decide (ValidN s.data.toList))) := by
  have hl := ba_len s
  refine c_enter [(0, .string s)] [] noB Tryz.func52 rfl Tryz.ntmps52 ⟨rfl, trivial⟩ rfl (by simp) (by simp) (by simp) ?_
  intro a hS
  refine c_seq (c_region ?_)
  refine L_e hS (e_assign rfl) rfl ?_; clear hS a; intro a hS
  refine L_nil (n_then (c_seq (c_seq (c_region ?_))))
  refine L_e hS (e_move rfl) rfl ?_; clear hS a; intro a hS
  refine L_e hS (e_binS rfl rfl rfl) rfl ?_; clear hS a; intro a hS
  refine L_e hS (e_move rfl) rfl ?_; clear hS a; intro a hS
  (first | refine g_splitD (t := 7) hS rfl ?_ ?_ | refine g_split (t := 7) hS rfl ?_ ?_) <;> (clear hS; intro hg7 hS)
  ·
    refine L_skip_f hS rfl rfl rfl ?_; clear hS a; intro a hS
    refine L_skip_f hS rfl rfl rfl ?_; clear hS a; intro a hS
    refine L_skip_f hS rfl rfl rfl ?_; clear hS a; intro a hS
    refine L_e hS (e_pk rfl rfl) rfl ?_; clear hS a; intro a hS
    refine L_e hS (e_move rfl) rfl ?_; clear hS a; intro a hS
    refine L_skip_f hS rfl rfl rfl ?_; clear hS a; intro a hS
    refine L_skip_f hS rfl rfl rfl ?_; clear hS a; intro a hS
    refine L_skip_f hS rfl rfl rfl ?_; clear hS a; intro a hS
    refine L_e hS (e_pk rfl rfl) rfl ?_; clear hS a; intro a hS
    refine L_e hS (e_move rfl) rfl ?_; clear hS a; intro a hS
    refine L_skip_f hS rfl rfl rfl ?_; clear hS a; intro a hS
    refine L_skip_f hS rfl rfl rfl ?_; clear hS a; intro a hS
    refine L_skip_f hS rfl rfl rfl ?_; clear hS a; intro a hS
    refine L_e hS (e_pk rfl rfl) rfl ?_; clear hS a; intro a hS
    refine L_nil (n_then ?_)
    refine c_if_t hS rfl ?_
    refine c_seq (c_region ?_)
    refine L_e hS (e_assign rfl) rfl ?_; clear hS a; intro a hS
    refine L_nil (n_then (wp_ret (r_then ?_)))
    refine c_ret1 hS Tryz.results52 (.tmp rfl) ?_
    have hF : ¬ ValidN s.data.toList := by
      rintro ⟨h1, h2, h3, h4⟩
      first | exact h1 (str_nil s hg7) | omega | (rw [Int.toNat_zero] at *; omega) | (have h5 := h4 k (by omega); unfold okc at h5; rw [Int.toNat_natCast] at *; omega)
    exact ⟨by rw [decide_eq_false hF], hS.chg⟩
  have hpos := size_pos_of_ne hg7
  refine L_ge hS rfl rfl (e_move rfl) rfl ?_; clear hS a; intro a hS
  refine L_ge hS rfl rfl (e_lenS rfl rfl ty_u9) rfl ?_; clear hS a; intro a hS
  refine L_ge hS rfl rfl (e_bin rfl rfl rfl) rfl ?_; clear hS a; intro a hS
  refine L_e hS (e_pk rfl rfl) rfl ?_; clear hS a; intro a hS
  refine L_e hS (e_move rfl) rfl ?_; clear hS a; intro a hS
  (first | refine g_splitD (t := 12) hS rfl ?_ ?_ | refine g_split (t := 12) hS rfl ?_ ?_) <;> (clear hS; intro hg12 hS)
  ·
    refine L_skip_f hS rfl rfl rfl ?_; clear hS a; intro a hS
    refine L_skip_f hS rfl rfl rfl ?_; clear hS a; intro a hS
    refine L_skip_f hS rfl rfl rfl ?_; clear hS a; intro a hS
    refine L_e hS (e_pk rfl rfl) rfl ?_; clear hS a; intro a hS
    refine L_e hS (e_move rfl) rfl ?_; clear hS a; intro a hS
    refine L_skip_f hS rfl rfl rfl ?_; clear hS a; intro a hS
    refine L_skip_f hS rfl rfl rfl ?_; clear hS a; intro a hS
    refine L_skip_f hS rfl rfl rfl ?_; clear hS a; intro a hS
    refine L_e hS (e_pk rfl rfl) rfl ?_; clear hS a; intro a hS
    refine L_nil (n_then ?_)
    refine c_if_t hS rfl ?_
    refine c_seq (c_region ?_)
    refine L_e hS (e_assign rfl) rfl ?_; clear hS a; intro a hS
    refine L_nil (n_then (wp_ret (r_then ?_)))
    refine c_ret1 hS Tryz.results52 (.tmp rfl) ?_
    have hF : ¬ ValidN s.data.toList := by
      rintro ⟨h1, h2, h3, h4⟩
      first | exact h1 (str_nil s hg7) | omega | (rw [Int.toNat_zero] at *; omega) | (have h5 := h4 k (by omega); unfold okc at h5; rw [Int.toNat_natCast] at *; omega)
    exact ⟨by rw [decide_eq_false hF], hS.chg⟩
  refine L_ge hS rfl rfl (e_move rfl) rfl ?_; clear hS a; intro a hS
  refine L_ge hS rfl rfl (e_ixS rfl rfl ty_u9 (by omega)) rfl ?_; clear hS a; intro a hS
  refine L_ge hS rfl rfl (e_bin rfl rfl rfl) rfl ?_; clear hS a; intro a hS
  refine L_e hS (e_pk rfl rfl) rfl ?_; clear hS a; intro a hS
  refine L_e hS (e_move rfl) rfl ?_; clear hS a; intro a hS
  (first | refine g_splitD (t := 17) hS rfl ?_ ?_ | refine g_split (t := 17) hS rfl ?_ ?_) <;> (clear hS; intro hg17 hS)
  ·
    refine L_skip_f hS rfl rfl rfl ?_; clear hS a; intro a hS
    refine L_skip_f hS rfl rfl rfl ?_; clear hS a; intro a hS
    refine L_skip_f hS rfl rfl rfl ?_; clear hS a; intro a hS
    refine L_e hS (e_pk rfl rfl) rfl ?_; clear hS a; intro a hS
    refine L_nil (n_then ?_)
    refine c_if_t hS rfl ?_
    refine c_seq (c_region ?_)
    refine L_e hS (e_assign rfl) rfl ?_; clear hS a; intro a hS
    refine L_nil (n_then (wp_ret (r_then ?_)))
    refine c_ret1 hS Tryz.results52 (.tmp rfl) ?_
    have hF : ¬ ValidN s.data.toList := by
      rintro ⟨h1, h2, h3, h4⟩
      first | exact h1 (str_nil s hg7) | omega | (rw [Int.toNat_zero] at *; omega) | (have h5 := h4 k (by omega); unfold okc at h5; rw [Int.toNat_natCast] at *; omega)
    exact ⟨by rw [decide_eq_false hF], hS.chg⟩
  refine L_ge hS rfl rfl (e_move rfl) rfl ?_; clear hS a; intro a hS
  refine L_ge hS rfl rfl (e_ixS rfl rfl ty_u9 (by omega)) rfl ?_; clear hS a; intro a hS
  refine L_ge hS rfl rfl (e_bin rfl rfl rfl) rfl ?_; clear hS a; intro a hS
  refine L_e hS (e_pk rfl rfl) rfl ?_; clear hS a; intro a hS
  refine L_nil (n_then ?_)
  first | refine c_ifD hS rfl (fun hc21 => ?_) (fun hc21 => ?_) | refine c_if hS rfl (fun hc21 => ?_) (fun hc21 => ?_)
  ·
    refine c_seq (c_region ?_)
    refine L_e hS (e_assign rfl) rfl ?_; clear hS a; intro a hS
    refine L_nil (n_then (wp_ret (r_then ?_)))
    refine c_ret1 hS Tryz.results52 (.tmp rfl) ?_
    have hF : ¬ ValidN s.data.toList := by
      rintro ⟨h1, h2, h3, h4⟩
      first | exact h1 (str_nil s hg7) | omega | (rw [Int.toNat_zero] at *; omega) | (have h5 := h4 k (by omega); unfold okc at h5; rw [Int.toNat_natCast] at *; omega)
    exact ⟨by rw [decide_eq_false hF], hS.chg⟩
  refine wp_skip (n_then (c_seq (c_seq (c_region ?_))))
  refine L_e hS (e_assign rfl) rfl ?_; clear hS a; intro a hS
  refine L_nil (n_then (wp_block ?_))
  skip
  refine c_loop (γ := Nat) (fun k a w => St 49 noB w0 a w [(3, .int .i64 (k : Int)), (0, .string s)] [] ∧ k ≤ s.size ∧ ∀ j, j < k → okc (s.data.toList.getD j 0).toNat) (fun k => s.size - k) 0 ⟨hS.slots (by repeat (first | exact trivial | refine ⟨rfl, ?_⟩)), Nat.zero_le _, fun j hj => by omega⟩ ?_
  clear hS a; (try clear w); intro k a w hI
  obtain ⟨hS, hk, hok⟩ := hI
  refine c_seq (c_seq (c_region ?_))
  refine L_e hS (e_move rfl) rfl ?_; clear hS a; intro a hS
  refine L_e hS (e_move rfl) rfl ?_; clear hS a; intro a hS
  refine L_e hS (e_lenS rfl rfl ty_u9) rfl ?_; clear hS a; intro a hS
  refine L_e hS (e_bin rfl rfl rfl) rfl ?_; clear hS a; intro a hS
  refine L_nil (n_then ?_)
  first | refine c_ifD hS rfl (fun hc25 => ?_) (fun hc25 => ?_) | refine c_if hS rfl (fun hc25 => ?_) (fun hc25 => ?_)
  ·
    refine wp_skip (n_then (c_seq (wp_block (c_seq (c_region ?_)))))
    refine L_e hS (e_move rfl) rfl ?_; clear hS a; intro a hS
    refine L_e hS (e_move rfl) rfl ?_; clear hS a; intro a hS
    refine L_e hS (e_ixS rfl rfl ty_u9 (by omega)) rfl ?_; clear hS a; intro a hS
    refine L_e hS (e_assign rfl) rfl ?_; clear hS a; intro a hS
    refine L_nil (n_then (c_seq (c_region ?_)))
    refine L_e hS (e_move rfl) rfl ?_; clear hS a; intro a hS
    refine L_e hS (e_bin rfl rfl rfl) rfl ?_; clear hS a; intro a hS
    refine L_e hS (e_move rfl) rfl ?_; clear hS a; intro a hS
    (first | refine g_splitD (t := 33) hS rfl ?_ ?_ | refine g_split (t := 33) hS rfl ?_ ?_) <;> (clear hS; intro hg33 hS)
    ·
      refine L_skip_f hS rfl rfl rfl ?_; clear hS a; intro a hS
      refine L_skip_f hS rfl rfl rfl ?_; clear hS a; intro a hS
      refine L_e hS (e_pk rfl rfl) rfl ?_; clear hS a; intro a hS
      refine L_e hS (e_move rfl) rfl ?_; clear hS a; intro a hS
      refine L_ge hS rfl rfl (e_move rfl) rfl ?_; clear hS a; intro a hS
      refine L_ge hS rfl rfl (e_bin rfl rfl rfl) rfl ?_; clear hS a; intro a hS
      refine L_ge hS rfl rfl (e_move rfl) rfl ?_; clear hS a; intro a hS
      (first | refine g_splitD (t := 40) hS rfl ?_ ?_ | refine g_split (t := 40) hS rfl ?_ ?_) <;> (clear hS; intro hg40 hS)
      ·
        refine L_skip_f hS rfl rfl rfl ?_; clear hS a; intro a hS
        refine L_skip_f hS rfl rfl rfl ?_; clear hS a; intro a hS
        refine L_ge hS rfl rfl (e_pk rfl rfl) rfl ?_; clear hS a; intro a hS
        refine L_e hS (e_pk rfl rfl) rfl ?_; clear hS a; intro a hS
        refine L_e hS (e_move rfl) rfl ?_; clear hS a; intro a hS
        refine L_ge hS rfl rfl (e_move rfl) rfl ?_; clear hS a; intro a hS
        refine L_ge hS rfl rfl (e_bin rfl rfl rfl) rfl ?_; clear hS a; intro a hS
        refine L_e hS (e_pk rfl rfl) rfl ?_; clear hS a; intro a hS
        refine L_nil (n_then ?_)
        first | refine c_ifD hS rfl (fun hc48 => ?_) (fun hc48 => ?_) | refine c_if hS rfl (fun hc48 => ?_) (fun hc48 => ?_)
        ·
          refine c_seq (c_region ?_)
          refine L_e hS (e_assign rfl) rfl ?_; clear hS a; intro a hS
          refine L_nil (n_then (wp_ret ?_))
          refine r_block (r_then (r_then (r_block (r_then ?_))))
          refine c_ret1 hS Tryz.results52 (.tmp rfl) ?_
          have hF : ¬ ValidN s.data.toList := by
            rintro ⟨h1, h2, h3, h4⟩
            first | exact h1 (str_nil s hg7) | omega | (rw [Int.toNat_zero] at *; omega) | (have h5 := h4 k (by omega); unfold okc at h5; rw [Int.toNat_natCast] at *; omega)
          exact ⟨by rw [decide_eq_false hF], hS.chg⟩
        refine wp_skip (n_block (n_then (c_region ?_)))
        refine L_e hS (e_move rfl) rfl ?_; clear hS a; intro a hS
        (first | refine L_e hS (e_binN rfl rfl rfl (by omega)) rfl ?_ | refine L_e hS (e_bin rfl rfl rfl) rfl ?_); clear hS a; intro a hS
        refine L_e hS (e_assign rfl) rfl ?_; clear hS a; intro a hS
        refine L_nil ?_
        have h1 : okc (s.data.toList.getD k 0).toNat := by unfold okc; rw [Int.toNat_natCast] at *; omega
        exact ⟨k + 1, by omega, hS.slots (by repeat (first | exact trivial | refine ⟨rfl, ?_⟩)), by omega, fun j hj => by by_cases e : j = k; (subst e; exact h1); exact hok j (by omega)⟩
      refine L_ge hS rfl rfl (e_move rfl) rfl ?_; clear hS a; intro a hS
      refine L_ge hS rfl rfl (e_bin rfl rfl rfl) rfl ?_; clear hS a; intro a hS
      refine L_ge hS rfl rfl (e_pk rfl rfl) rfl ?_; clear hS a; intro a hS
      refine L_e hS (e_pk rfl rfl) rfl ?_; clear hS a; intro a hS
      refine L_e hS (e_move rfl) rfl ?_; clear hS a; intro a hS
      (first | refine g_splitD (t := 45) hS rfl ?_ ?_ | refine g_split (t := 45) hS rfl ?_ ?_) <;> (clear hS; intro hg45 hS)
      ·
        refine L_ge hS rfl rfl (e_move rfl) rfl ?_; clear hS a; intro a hS
        refine L_ge hS rfl rfl (e_bin rfl rfl rfl) rfl ?_; clear hS a; intro a hS
        refine L_e hS (e_pk rfl rfl) rfl ?_; clear hS a; intro a hS
        refine L_nil (n_then ?_)
        first | refine c_ifD hS rfl (fun hc48 => ?_) (fun hc48 => ?_) | refine c_if hS rfl (fun hc48 => ?_) (fun hc48 => ?_)
        ·
          refine c_seq (c_region ?_)
          refine L_e hS (e_assign rfl) rfl ?_; clear hS a; intro a hS
          refine L_nil (n_then (wp_ret ?_))
          refine r_block (r_then (r_then (r_block (r_then ?_))))
          refine c_ret1 hS Tryz.results52 (.tmp rfl) ?_
          have hF : ¬ ValidN s.data.toList := by
            rintro ⟨h1, h2, h3, h4⟩
            first | exact h1 (str_nil s hg7) | omega | (rw [Int.toNat_zero] at *; omega) | (have h5 := h4 k (by omega); unfold okc at h5; rw [Int.toNat_natCast] at *; omega)
          exact ⟨by rw [decide_eq_false hF], hS.chg⟩
        refine wp_skip (n_block (n_then (c_region ?_)))
        refine L_e hS (e_move rfl) rfl ?_; clear hS a; intro a hS
        (first | refine L_e hS (e_binN rfl rfl rfl (by omega)) rfl ?_ | refine L_e hS (e_bin rfl rfl rfl) rfl ?_); clear hS a; intro a hS
        refine L_e hS (e_assign rfl) rfl ?_; clear hS a; intro a hS
        refine L_nil ?_
        have h1 : okc (s.data.toList.getD k 0).toNat := by unfold okc; rw [Int.toNat_natCast] at *; omega
        exact ⟨k + 1, by omega, hS.slots (by repeat (first | exact trivial | refine ⟨rfl, ?_⟩)), by omega, fun j hj => by by_cases e : j = k; (subst e; exact h1); exact hok j (by omega)⟩
      refine L_skip_t hS rfl rfl rfl ?_; clear hS a; intro a hS
      refine L_skip_t hS rfl rfl rfl ?_; clear hS a; intro a hS
      refine L_e hS (e_pk rfl rfl) rfl ?_; clear hS a; intro a hS
      refine L_nil (n_then ?_)
      refine c_if_f hS rfl ?_
      refine wp_skip (n_block (n_then (c_region ?_)))
      refine L_e hS (e_move rfl) rfl ?_; clear hS a; intro a hS
      (first | refine L_e hS (e_binN rfl rfl rfl (by omega)) rfl ?_ | refine L_e hS (e_bin rfl rfl rfl) rfl ?_); clear hS a; intro a hS
      refine L_e hS (e_assign rfl) rfl ?_; clear hS a; intro a hS
      refine L_nil ?_
      have h1 : okc (s.data.toList.getD k 0).toNat := by unfold okc; rw [Int.toNat_natCast] at *; omega
      exact ⟨k + 1, by omega, hS.slots (by repeat (first | exact trivial | refine ⟨rfl, ?_⟩)), by omega, fun j hj => by by_cases e : j = k; (subst e; exact h1); exact hok j (by omega)⟩
    refine L_ge hS rfl rfl (e_move rfl) rfl ?_; clear hS a; intro a hS
    refine L_ge hS rfl rfl (e_bin rfl rfl rfl) rfl ?_; clear hS a; intro a hS
    refine L_e hS (e_pk rfl rfl) rfl ?_; clear hS a; intro a hS
    refine L_e hS (e_move rfl) rfl ?_; clear hS a; intro a hS
    (first | refine g_splitD (t := 37) hS rfl ?_ ?_ | refine g_split (t := 37) hS rfl ?_ ?_) <;> (clear hS; intro hg37 hS)
    ·
      refine L_ge hS rfl rfl (e_move rfl) rfl ?_; clear hS a; intro a hS
      refine L_ge hS rfl rfl (e_bin rfl rfl rfl) rfl ?_; clear hS a; intro a hS
      refine L_ge hS rfl rfl (e_move rfl) rfl ?_; clear hS a; intro a hS
      (first | refine g_splitD (t := 40) hS rfl ?_ ?_ | refine g_split (t := 40) hS rfl ?_ ?_) <;> (clear hS; intro hg40 hS)
      ·
        refine L_skip_f hS rfl rfl rfl ?_; clear hS a; intro a hS
        refine L_skip_f hS rfl rfl rfl ?_; clear hS a; intro a hS
        refine L_ge hS rfl rfl (e_pk rfl rfl) rfl ?_; clear hS a; intro a hS
        refine L_e hS (e_pk rfl rfl) rfl ?_; clear hS a; intro a hS
        refine L_e hS (e_move rfl) rfl ?_; clear hS a; intro a hS
        refine L_ge hS rfl rfl (e_move rfl) rfl ?_; clear hS a; intro a hS
        refine L_ge hS rfl rfl (e_bin rfl rfl rfl) rfl ?_; clear hS a; intro a hS
        refine L_e hS (e_pk rfl rfl) rfl ?_; clear hS a; intro a hS
        refine L_nil (n_then ?_)
        first | refine c_ifD hS rfl (fun hc48 => ?_) (fun hc48 => ?_) | refine c_if hS rfl (fun hc48 => ?_) (fun hc48 => ?_)
        ·
          refine c_seq (c_region ?_)
          refine L_e hS (e_assign rfl) rfl ?_; clear hS a; intro a hS
          refine L_nil (n_then (wp_ret ?_))
          refine r_block (r_then (r_then (r_block (r_then ?_))))
          refine c_ret1 hS Tryz.results52 (.tmp rfl) ?_
          have hF : ¬ ValidN s.data.toList := by
            rintro ⟨h1, h2, h3, h4⟩
            first | exact h1 (str_nil s hg7) | omega | (rw [Int.toNat_zero] at *; omega) | (have h5 := h4 k (by omega); unfold okc at h5; rw [Int.toNat_natCast] at *; omega)
          exact ⟨by rw [decide_eq_false hF], hS.chg⟩
        refine wp_skip (n_block (n_then (c_region ?_)))
        refine L_e hS (e_move rfl) rfl ?_; clear hS a; intro a hS
        (first | refine L_e hS (e_binN rfl rfl rfl (by omega)) rfl ?_ | refine L_e hS (e_bin rfl rfl rfl) rfl ?_); clear hS a; intro a hS
        refine L_e hS (e_assign rfl) rfl ?_; clear hS a; intro a hS
        refine L_nil ?_
        have h1 : okc (s.data.toList.getD k 0).toNat := by unfold okc; rw [Int.toNat_natCast] at *; omega
        exact ⟨k + 1, by omega, hS.slots (by repeat (first | exact trivial | refine ⟨rfl, ?_⟩)), by omega, fun j hj => by by_cases e : j = k; (subst e; exact h1); exact hok j (by omega)⟩
      refine L_ge hS rfl rfl (e_move rfl) rfl ?_; clear hS a; intro a hS
      refine L_ge hS rfl rfl (e_bin rfl rfl rfl) rfl ?_; clear hS a; intro a hS
      refine L_ge hS rfl rfl (e_pk rfl rfl) rfl ?_; clear hS a; intro a hS
      refine L_e hS (e_pk rfl rfl) rfl ?_; clear hS a; intro a hS
      refine L_e hS (e_move rfl) rfl ?_; clear hS a; intro a hS
      (first | refine g_splitD (t := 45) hS rfl ?_ ?_ | refine g_split (t := 45) hS rfl ?_ ?_) <;> (clear hS; intro hg45 hS)
      ·
        refine L_ge hS rfl rfl (e_move rfl) rfl ?_; clear hS a; intro a hS
        refine L_ge hS rfl rfl (e_bin rfl rfl rfl) rfl ?_; clear hS a; intro a hS
        refine L_e hS (e_pk rfl rfl) rfl ?_; clear hS a; intro a hS
        refine L_nil (n_then ?_)
        first | refine c_ifD hS rfl (fun hc48 => ?_) (fun hc48 => ?_) | refine c_if hS rfl (fun hc48 => ?_) (fun hc48 => ?_)
        ·
          refine c_seq (c_region ?_)
          refine L_e hS (e_assign rfl) rfl ?_; clear hS a; intro a hS
          refine L_nil (n_then (wp_ret ?_))
          refine r_block (r_then (r_then (r_block (r_then ?_))))
          refine c_ret1 hS Tryz.results52 (.tmp rfl) ?_
          have hF : ¬ ValidN s.data.toList := by
            rintro ⟨h1, h2, h3, h4⟩
            first | exact h1 (str_nil s hg7) | omega | (rw [Int.toNat_zero] at *; omega) | (have h5 := h4 k (by omega); unfold okc at h5; rw [Int.toNat_natCast] at *; omega)
          exact ⟨by rw [decide_eq_false hF], hS.chg⟩
        refine wp_skip (n_block (n_then (c_region ?_)))
        refine L_e hS (e_move rfl) rfl ?_; clear hS a; intro a hS
        (first | refine L_e hS (e_binN rfl rfl rfl (by omega)) rfl ?_ | refine L_e hS (e_bin rfl rfl rfl) rfl ?_); clear hS a; intro a hS
        refine L_e hS (e_assign rfl) rfl ?_; clear hS a; intro a hS
        refine L_nil ?_
        have h1 : okc (s.data.toList.getD k 0).toNat := by unfold okc; rw [Int.toNat_natCast] at *; omega
        exact ⟨k + 1, by omega, hS.slots (by repeat (first | exact trivial | refine ⟨rfl, ?_⟩)), by omega, fun j hj => by by_cases e : j = k; (subst e; exact h1); exact hok j (by omega)⟩
      refine L_skip_t hS rfl rfl rfl ?_; clear hS a; intro a hS
      refine L_skip_t hS rfl rfl rfl ?_; clear hS a; intro a hS
      refine L_e hS (e_pk rfl rfl) rfl ?_; clear hS a; intro a hS
      refine L_nil (n_then ?_)
      refine c_if_f hS rfl ?_
      refine wp_skip (n_block (n_then (c_region ?_)))
      refine L_e hS (e_move rfl) rfl ?_; clear hS a; intro a hS
      (first | refine L_e hS (e_binN rfl rfl rfl (by omega)) rfl ?_ | refine L_e hS (e_bin rfl rfl rfl) rfl ?_); clear hS a; intro a hS
      refine L_e hS (e_assign rfl) rfl ?_; clear hS a; intro a hS
      refine L_nil ?_
      have h1 : okc (s.data.toList.getD k 0).toNat := by unfold okc; rw [Int.toNat_natCast] at *; omega
      exact ⟨k + 1, by omega, hS.slots (by repeat (first | exact trivial | refine ⟨rfl, ?_⟩)), by omega, fun j hj => by by_cases e : j = k; (subst e; exact h1); exact hok j (by omega)⟩
    refine L_skip_t hS rfl rfl rfl ?_; clear hS a; intro a hS
    refine L_skip_t hS rfl rfl rfl ?_; clear hS a; intro a hS
    refine L_skip_t hS rfl rfl rfl ?_; clear hS a; intro a hS
    refine L_skip_u hS rfl rfl rfl ?_; clear hS a; intro a hS
    refine L_skip_u hS rfl rfl rfl ?_; clear hS a; intro a hS
    refine L_skip_t hS rfl rfl rfl ?_; clear hS a; intro a hS
    refine L_e hS (e_pk rfl rfl) rfl ?_; clear hS a; intro a hS
    refine L_e hS (e_move rfl) rfl ?_; clear hS a; intro a hS
    refine L_skip_t hS rfl rfl rfl ?_; clear hS a; intro a hS
    refine L_skip_t hS rfl rfl rfl ?_; clear hS a; intro a hS
    refine L_e hS (e_pk rfl rfl) rfl ?_; clear hS a; intro a hS
    refine L_nil (n_then ?_)
    refine c_if_f hS rfl ?_
    refine wp_skip (n_block (n_then (c_region ?_)))
    refine L_e hS (e_move rfl) rfl ?_; clear hS a; intro a hS
    (first | refine L_e hS (e_binN rfl rfl rfl (by omega)) rfl ?_ | refine L_e hS (e_bin rfl rfl rfl) rfl ?_); clear hS a; intro a hS
    refine L_e hS (e_assign rfl) rfl ?_; clear hS a; intro a hS
    refine L_nil ?_
    have h1 : okc (s.data.toList.getD k 0).toNat := by unfold okc; rw [Int.toNat_natCast] at *; omega
    exact ⟨k + 1, by omega, hS.slots (by repeat (first | exact trivial | refine ⟨rfl, ?_⟩)), by omega, fun j hj => by by_cases e : j = k; (subst e; exact h1); exact hok j (by omega)⟩
  refine wp_exit ?_
  refine x_then (x_then (x_hit ?_))
  refine n_then (c_seq (c_region ?_))
  refine L_e hS (e_assign rfl) rfl ?_; clear hS a; intro a hS
  refine L_nil (n_then (wp_ret ?_))
  refine c_ret1 hS Tryz.results52 (.tmp rfl) ?_
  exact ⟨by rw [decide_eq_true (show ValidN s.data.toList from ⟨ba_ne s hg7, by omega, by rw [Int.toNat_zero] at *; omega, fun j hj => hok j (by omega)⟩)], hS.chg⟩
end Go.Proofs.YtheofhegdjjfgaaGreat

namespace Go.Proofs.YtheofhegdjjfgaaGreat
open Go.RowKit
def newR (cur : ByteArray) : RS := ⟨cur, [], [], -1, .slice none 0 0, .slice none 0 0⟩
set_option maxRecDepth 100000 in
theorem rlNew_P (c : ByteArray) (w0 : World) (hc : (scaleR c).2 = 0) : NewC Tryz.prog 9 [.string c] w0 (fun b : Nat => .tuple [.pointer (some ⟨b, 0, none⟩), .int .i64 0].toArray) (fun b => rlA b (newR c) true) := by
  have hn := refS_neg c
  refine c_enter [(0, .string c)] [] noB Tryz.func9 rfl Tryz.ntmps9 ⟨rfl, trivial⟩ rfl (by simp) (by simp) (by simp) ?_
  intro a hS
  refine c_seq (c_region ?_)
  refine L_e hS (e_assign rfl) rfl ?_; clear hS a; intro a hS
  refine L_e hS (e_assign rfl) rfl ?_; clear hS a; intro a hS
  refine L_nil (n_then (c_seq (c_seq (c_region ?_))))
  refine L_e hS (e_move rfl) rfl ?_; clear hS a; intro a hS
  refine L_op (s_callP hS (.cons rfl .nil) cf35 rfl (xScale_P c _) ?_); clear hS a; (try clear w); intro a w hS
  refine L_e hS (e_bin rfl rfl rfl) rfl ?_; clear hS a; intro a hS
  refine L_nil (n_then ?_)
  replace hS := hS.is (t := 6) (c := false) rfl ((decide_eq_false (fun e => hn.1 e hc)))
  refine c_if_f hS rfl ?_
  refine wp_skip (n_then (c_seq (c_region ?_)))
  refine L_e hS (e_move rfl) rfl ?_; clear hS a; intro a hS
  refine L_e hS (e_build ty_z66 ty_pl66 (.one rfl rfl rfl (by repeat constructor) (.one rfl rfl rfl (by repeat constructor) .nil))) rfl ?_; clear hS a; intro a hS
  refine L_op (s_boxA hS rfl rfl ?_); clear hS a; (try clear w); intro a w b9 hS
  refine L_e hS (e_assign rfl) rfl ?_; clear hS a; intro a hS
  refine L_e hS (e_assign rfl) rfl ?_; clear hS a; intro a hS
  refine L_nil (n_then (wp_ret ?_))
  refine c_retN hS Tryz.results9 (.cons (.tmp rfl) (.cons (.tmp rfl) .nil)) rfl ?_
  refine ⟨b9, rfl, hS.chg, rl_ok (b := b9) (s := newR c) true ⟨hS.get (X := .blk b9 _ _) (by repeat constructor), World.ownsRow_nil _ _ _ _, World.ownsRow_nil _ _ _ _, fun x hx => (by cases hx)⟩, fun b hb => ?_⟩
  rcases hb with hb | hb | hb | ⟨x, hx, _⟩
  · rw [hb]; exact (hS.new (X := .blk b9 _ _) (by repeat constructor) rfl).2 _ rfl
  · cases hb
  · cases hb
  · cases hx
set_option maxRecDepth 100000 in
theorem rlNew_no (c : ByteArray) (w0 : World) (hc : (scaleR c).2 ≠ 0) : PureC Tryz.prog 9 [.string c] w0 (.tuple [.pointer none, .int .i64 18].toArray) := by
  have hn := refS_neg c
  refine c_enter [(0, .string c)] [] noB Tryz.func9 rfl Tryz.ntmps9 ⟨rfl, trivial⟩ rfl (by simp) (by simp) (by simp) ?_
  intro a hS
  refine c_seq (c_region ?_)
  refine L_e hS (e_assign rfl) rfl ?_; clear hS a; intro a hS
  refine L_e hS (e_assign rfl) rfl ?_; clear hS a; intro a hS
  refine L_nil (n_then (c_seq (c_seq (c_region ?_))))
  refine L_e hS (e_move rfl) rfl ?_; clear hS a; intro a hS
  refine L_op (s_callP hS (.cons rfl .nil) cf35 rfl (xScale_P c _) ?_); clear hS a; (try clear w); intro a w hS
  refine L_e hS (e_bin rfl rfl rfl) rfl ?_; clear hS a; intro a hS
  refine L_nil (n_then ?_)
  replace hS := hS.is (t := 6) (c := true) rfl ((decide_eq_true (hn.2 hc)))
  refine c_if_t hS rfl ?_
  refine c_seq (c_region ?_)
  refine L_e hS (e_assign rfl) rfl ?_; clear hS a; intro a hS
  refine L_e hS (e_assign rfl) rfl ?_; clear hS a; intro a hS
  refine L_nil (n_then (wp_ret (r_then ?_)))
  refine c_retN hS Tryz.results9 (.cons (.tmp rfl) (.cons (.tmp rfl) .nil)) rfl ?_
  exact ⟨rfl, hS.chg⟩
set_option maxRecDepth 100000 in
theorem lNew_no (c : ByteArray) (w0 : World) (hc : (scaleR c).2 ≠ 0) : PureC Tryz.prog 8 [.string c] w0 (.tuple [.pointer none, .int .i64 18].toArray) := by
  have he : (scaleR c).2 = 18 := (scale_err c).resolve_left hc
  refine c_enter [(0, .string c)] [] noB Tryz.func8 rfl Tryz.ntmps8 ⟨rfl, trivial⟩ rfl (by simp) (by simp) (by simp) ?_
  intro a hS
  refine c_seq (c_region ?_)
  refine L_e hS (e_assign rfl) rfl ?_; clear hS a; intro a hS
  refine L_e hS (e_assign rfl) rfl ?_; clear hS a; intro a hS
  refine L_nil (n_then (c_seq (c_seq (c_region ?_))))
  refine L_e hS (e_move rfl) rfl ?_; clear hS a; intro a hS
  refine L_op (s_callP hS (.cons rfl .nil) cf34 rfl (Scale_P c _) ?_); clear hS a; (try clear w); intro a w hS
  rw [he] at hS
  refine L_e hS (e_move rfl) rfl ?_; clear hS a; intro a hS
  refine L_e hS (e_extract rfl rfl) rfl ?_; clear hS a; intro a hS
  refine L_e hS (e_extract rfl rfl) rfl ?_; clear hS a; intro a hS
  refine L_e hS (e_assign rfl) rfl ?_; clear hS a; intro a hS
  refine L_e hS (e_assign rfl) rfl ?_; clear hS a; intro a hS
  refine L_nil (n_then (c_seq (c_region ?_)))
  refine L_e hS (e_move rfl) rfl ?_; clear hS a; intro a hS
  refine L_e hS (e_bin rfl rfl rfl) rfl ?_; clear hS a; intro a hS
  refine L_nil (n_then ?_)
  replace hS := hS.is (t := 12) (c := true) rfl (rfl)
  refine c_if_t hS rfl ?_
  refine c_seq (c_region ?_)
  refine L_e hS (e_move rfl) rfl ?_; clear hS a; intro a hS
  refine L_e hS (e_assign rfl) rfl ?_; clear hS a; intro a hS
  refine L_e hS (e_assign rfl) rfl ?_; clear hS a; intro a hS
  refine L_nil (n_then (wp_ret (r_then ?_)))
  refine c_retN hS Tryz.results8 (.cons (.tmp rfl) (.cons (.tmp rfl) .nil)) rfl ?_
  exact ⟨rfl, hS.chg⟩
theorem findA_some {acs : List Acc} {c : ByteArray} {i : Nat} {x : Acc} (hx : acs[i]? = some x) (hc : x.code = c) (hno : ∀ j, j < i → ∀ y, acs[j]? = some y → y.code ≠ c) : findA acs c = some x := by
  unfold findA
  induction acs generalizing i with
  | nil => cases hx
  | cons a r ih =>
    rw [List.find?_cons]
    cases i with
    | zero =>
      simp only [List.getElem?_cons_zero, Option.some.injEq] at hx
      subst hx
      rw [decide_eq_true hc]
    | succ i =>
      have h0 := hno 0 (by omega) a rfl
      rw [decide_eq_false h0]
      exact ih (by simpa using hx) (fun j hj y hy => hno (j + 1) (by omega) y (by simpa using hy))
theorem findA_none {acs : List Acc} {c : ByteArray} (hno : ∀ j, j < acs.length → ∀ y, acs[j]? = some y → y.code ≠ c) : findA acs c = none := by
  unfold findA
  rw [List.find?_eq_none]
  intro x hx
  obtain ⟨j, hj, rfl⟩ := List.mem_iff_getElem.1 hx
  simpa using hno j hj _ (List.getElem?_eq_getElem hj)
theorem findA_accs {acs : List Acc} (hn : (codesA acs).Nodup) (c : ByteArray) : findA (accsL acs) c = findA acs c := by
  cases e : findA acs c with
  | none =>
    unfold findA at e ⊢
    rw [List.find?_eq_none] at e ⊢
    exact fun x hx => e x (accs_mem hx).1
  | some x =>
    have hx : x ∈ acs := List.mem_of_find?_eq_some e
    have hxc : x.code = c := by simpa using List.find?_some e
    have hxa : x ∈ accsL acs := (accs_perm hn).mem_iff.2 hx
    unfold findA
    cases e2 : (accsL acs).find? fun a => decide (a.code = c) with
    | none => exact absurd (by simpa using hxc) (List.find?_eq_none.1 e2 x hxa)
    | some y =>
      have hy : y ∈ accsL acs := List.mem_of_find?_eq_some e2
      have hyc : y.code = c := by simpa using List.find?_some e2
      rw [acc_inj hn hx (accs_mem hy).1 (hxc.trans hyc.symm)]
set_option maxRecDepth 100000 in
theorem rlFind_P (b : Nat) (s : RS) (c : ByteArray) (hlen : s.acs.length ≤ 100000) (w0 : World) (h : rlφ b s w0) :
    PureC Tryz.prog 46 [.pointer (some ⟨b, 0, none⟩), .string c] w0 (.tuple [.agg (encAc (accOf s.acs c)).toArray, .bool (findA s.acs c).isSome].toArray) := by
  obtain ⟨pA, cA, hav, hsh⟩ := rl_shA h
  refine c_enter [(0, .pointer (some ⟨b, 0, none⟩)), (1, .string c)] [rlA b s false] noB Tryz.func46 rfl Tryz.ntmps46 ⟨rfl, rfl, trivial⟩ rfl (okC (rl_ok false h) okN) dis1 (mineC (by rfl) mineN) ?_
  intro a hS
  refine c_seq (c_region ?_)
  refine L_op (s_alloc hS ty_z51 rfl ?_); clear hS a; (try clear w); intro a w b4 hS
  refine L_e hS (e_assign rfl) rfl ?_; clear hS a; intro a hS
  refine L_nil (n_then (c_seq (c_seq (c_region ?_))))
  refine L_e hS (e_assign rfl) rfl ?_; clear hS a; intro a hS
  refine L_nil (n_then (wp_block ?_))
  skip
  refine c_loop (γ := Nat) (fun i a w => St 34 noB w0 a w [(6, .int .i64 (i : Int)), (4, .pointer (some ⟨b4, 0, none⟩)), (0, .pointer (some ⟨b, 0, none⟩)), (1, .string c)] [.blk b4 (encAc noAcc) 51, rlA b s false] ∧ i ≤ s.acs.length ∧ ∀ j, j < i → ∀ y, s.acs[j]? = some y → y.code ≠ c) (fun i => s.acs.length - i) 0 ⟨(hS.slots (by repeat (first | exact trivial | refine ⟨rfl, ?_⟩))).pick (by repeat (first | exact Pick.nil | (refine Pick.cons (by repeat (first | exact Rem.head | apply Rem.tail)) ?_))), Nat.zero_le _, fun j hj => by omega⟩ ?_
  clear hS a; (try clear w); intro i a w hI
  obtain ⟨hS, hi, hno⟩ := hI
  refine c_seq (c_seq (c_region ?_))
  refine L_e hS (e_move rfl) rfl ?_; clear hS a; intro a hS
  refine L_e hS (e_move rfl) rfl ?_; clear hS a; intro a hS
  refine L_e hS (e_nilCheck rfl) rfl ?_; clear hS a; intro a hS
  (first | refine L_e hS (e_fa0 rfl ty_fo66_1) rfl ?_ | refine L_e hS (e_faK rfl ty_fo66_1) rfl ?_); clear hS a; intro a hS
  refine L_e hS (e_loadC rfl ty_sc63 (rl_cell (k := 1) (by repeat constructor) rfl)) rfl ?_; clear hS a; intro a hS
  rw [hav] at hS
  refine L_e hS (e_len rfl rfl ty_sl63) rfl ?_; clear hS a; intro a hS
  refine L_e hS (e_bin rfl rfl rfl) rfl ?_; clear hS a; intro a hS
  refine L_nil (n_then ?_)
  first | refine c_ifD hS rfl (fun hc13 => ?_) (fun hc13 => ?_) | refine c_if hS rfl (fun hc13 => ?_) (fun hc13 => ?_)
  ·
    have hil : i < s.acs.length := by omega
    obtain ⟨x, hx⟩ : ∃ x, s.acs[i]? = some x := ⟨s.acs[i], List.getElem?_eq_getElem hil⟩
    obtain ⟨g, rfl⟩ : ∃ g, pA = some ⟨g, 0, none⟩ := by rcases hsh with ⟨_, e⟩ | e; exact absurd e (by omega); exact e
    refine wp_skip (n_then (c_seq (wp_block (c_seq (c_region ?_)))))
    refine L_e hS (e_move rfl) rfl ?_; clear hS a; intro a hS
    refine L_e hS (e_nilCheck rfl) rfl ?_; clear hS a; intro a hS
    (first | refine L_e hS (e_fa0 rfl ty_fo66_1) rfl ?_ | refine L_e hS (e_faK rfl ty_fo66_1) rfl ?_); clear hS a; intro a hS
    refine L_e hS (e_loadC rfl ty_sc63 (rl_cell (k := 1) (by repeat constructor) rfl)) rfl ?_; clear hS a; intro a hS
    rw [hav] at hS
    refine L_e hS (e_move rfl) rfl ?_; clear hS a; intro a hS
    refine L_e hS (e_ixN rfl rfl ty_sl63 ty_sz51 (by omega)) rfl ?_; clear hS a; intro a hS
    (first | refine L_e hS (e_fa0 rfl ty_fo51_0) rfl ?_ | refine L_e hS (e_faK rfl ty_fo51_0) rfl ?_); clear hS a; intro a hS
    refine L_e hS (e_loadC rfl ty_sc9 (fun w hh => rl_rowA hav (by repeat constructor) hx w hh 0 (.string x.code) rfl)) rfl ?_; clear hS a; intro a hS
    refine L_e hS (e_move rfl) rfl ?_; clear hS a; intro a hS
    refine L_e hS (e_binS rfl rfl rfl) rfl ?_; clear hS a; intro a hS
    refine L_nil (n_then ?_)
    first | refine c_ifD hS rfl (fun hc25 => ?_) (fun hc25 => ?_) | refine c_if hS rfl (fun hc25 => ?_) (fun hc25 => ?_)
    ·
      refine c_seq (c_region ?_)
      refine L_e hS (e_move rfl) rfl ?_; clear hS a; intro a hS
      refine L_e hS (e_nilCheck rfl) rfl ?_; clear hS a; intro a hS
      (first | refine L_e hS (e_fa0 rfl ty_fo66_1) rfl ?_ | refine L_e hS (e_faK rfl ty_fo66_1) rfl ?_); clear hS a; intro a hS
      refine L_e hS (e_loadC rfl ty_sc63 (rl_cell (k := 1) (by repeat constructor) rfl)) rfl ?_; clear hS a; intro a hS
      rw [hav] at hS
      refine L_e hS (e_move rfl) rfl ?_; clear hS a; intro a hS
      refine L_e hS (e_ixN rfl rfl ty_sl63 ty_sz51 (by omega)) rfl ?_; clear hS a; intro a hS
      refine L_e hS (e_loadAC (l := encAc x) rfl ty_st51 ty_sz51 (rl_rowA hav (by repeat constructor) hx)) rfl ?_; clear hS a; intro a hS
      refine L_op (s_storeA hS rfl rfl ty_sz51 (by repeat constructor) (by rfl) (by rfl) (by rfl) ?_); clear hS; (try clear w); intro w hS
      refine L_e hS (e_assign rfl) rfl ?_; clear hS a; intro a hS
      refine L_nil (n_then (wp_ret ?_))
      refine r_block (r_then (r_then (r_block (r_then ?_))))
      refine c_retN hS Tryz.results46 (.cons (.cellA rfl (by repeat constructor) ty_st51 ty_sz51 (by rfl)) (.cons (.tmp rfl) .nil)) rfl ?_
      have hf := findA_some hx hc25 hno
      have ha : accOf s.acs c = x := by unfold accOf; rw [hf]; rfl
      exact ⟨by rw [ha, hf]; rfl, hS.chg⟩
    refine wp_skip (n_block (n_then (c_region ?_)))
    refine L_e hS (e_move rfl) rfl ?_; clear hS a; intro a hS
    (first | refine L_e hS (e_binN rfl rfl rfl (by omega)) rfl ?_ | refine L_e hS (e_bin rfl rfl rfl) rfl ?_); clear hS a; intro a hS
    refine L_e hS (e_assign rfl) rfl ?_; clear hS a; intro a hS
    refine L_nil ?_
    exact ⟨i + 1, by omega, (hS.slots (by repeat (first | exact trivial | refine ⟨rfl, ?_⟩))).pick (by repeat (first | exact Pick.nil | (refine Pick.cons (by repeat (first | exact Rem.head | apply Rem.tail)) ?_))), by omega, fun j hj y hy => by
    by_cases e : j = i
    · subst e; rw [hx] at hy; cases hy; exact hc25
    · exact hno j (by omega) y hy⟩
  refine wp_exit ?_
  refine x_then (x_then (x_hit ?_))
  refine n_then (c_seq (c_region ?_))
  refine L_e hS (e_build ty_z51 ty_pl51 .nil) rfl ?_; clear hS a; intro a hS
  refine L_op (s_storeA hS rfl rfl ty_sz51 (by repeat constructor) (by rfl) (by rfl) (by rfl) ?_); clear hS; (try clear w); intro w hS
  refine L_e hS (e_assign rfl) rfl ?_; clear hS a; intro a hS
  refine L_nil (n_then (wp_ret ?_))
  refine c_retN hS Tryz.results46 (.cons (.cellA rfl (by repeat constructor) ty_st51 ty_sz51 (by rfl)) (.cons (.tmp rfl) .nil)) rfl ?_
  have hf := findA_none (acs := s.acs) (c := c) (fun j hj => hno j (by omega))
  have ha : accOf s.acs c = noAcc := by unfold accOf; rw [hf]; rfl
  exact ⟨by rw [ha, hf]; rfl, hS.chg⟩
def closeRE (s : RS) (at_ : Int) : Int := if ¬ inst at_ then 6 else if at_ ≤ s.closed then 34 else 0
def closeR (s : RS) (at_ : Int) : RS := if closeRE s at_ = 0 then { s with closed := at_ } else s
set_option maxRecDepth 100000 in
theorem rlClose_P (b : Nat) (s : RS) (at_ : Int) (w0 : World) (h : rlφ b s w0) :
    MutC Tryz.prog 21 [.pointer (some ⟨b, 0, none⟩), .int .i64 at_] w0 (rlA b s true) (fun _ : Unit => .int .i64 (closeRE s at_)) (fun _ => rlA b (closeR s at_) true) := by
  refine c_enter [(0, .pointer (some ⟨b, 0, none⟩)), (1, .int .i64 at_)] [.blk b (rlC s) 66, rowRA s, rowRE s, rpAll s.es] (rlF b s) Tryz.func21 rfl Tryz.ntmps21 ⟨rfl, rfl, trivial⟩ rfl (rl_okP h) (rl_dis h) rl_mine ?_
  intro a hS
  refine c_seq (c_region ?_)
  refine L_e hS (e_assign rfl) rfl ?_; clear hS a; intro a hS
  refine L_nil (n_then (c_seq (c_seq (c_region ?_))))
  refine L_e hS (e_move rfl) rfl ?_; clear hS a; intro a hS
  refine L_op (s_callP hS (.cons rfl .nil) cf54 rfl (xInstant_P at_ _) ?_); clear hS a; (try clear w); intro a w hS
  refine L_e hS (e_not rfl) rfl ?_; clear hS a; intro a hS
  refine L_nil (n_then ?_)
  first | refine c_ifD hS rfl (fun hc7 => ?_) (fun hc7 => ?_) | refine c_if hS rfl (fun hc7 => ?_) (fun hc7 => ?_)
  ·
    refine c_seq (c_region ?_)
    refine L_e hS (e_assign rfl) rfl ?_; clear hS a; intro a hS
    refine L_nil (n_then (wp_ret (r_then ?_)))
    refine c_ret1 hS Tryz.results21 (.tmp rfl) ?_
    have hE : closeRE s at_ = 6 := if_pos (by simpa using hc7)
    have hL : closeR s at_ = s := if_neg (by rw [hE]; decide)
    rw [hE, hL]
    exact ⟨(), rfl, hS.chg, rl_end hS (by repeat constructor) (by repeat constructor) (by repeat constructor) (by repeat constructor)⟩
  refine wp_skip (n_then (c_seq (c_seq (c_region ?_))))
  refine L_e hS (e_move rfl) rfl ?_; clear hS a; intro a hS
  refine L_e hS (e_move rfl) rfl ?_; clear hS a; intro a hS
  refine L_e hS (e_nilCheck rfl) rfl ?_; clear hS a; intro a hS
  (first | refine L_e hS (e_fa0 rfl ty_fo66_3) rfl ?_ | refine L_e hS (e_faK rfl ty_fo66_3) rfl ?_); clear hS a; intro a hS
  refine L_e hS (e_load rfl (by repeat constructor) ty_sc3 (by rfl)) rfl ?_; clear hS a; intro a hS
  refine L_e hS (e_bin rfl rfl rfl) rfl ?_; clear hS a; intro a hS
  refine L_nil (n_then ?_)
  first | refine c_ifD hS rfl (fun hc13 => ?_) (fun hc13 => ?_) | refine c_if hS rfl (fun hc13 => ?_) (fun hc13 => ?_)
  ·
    refine c_seq (c_region ?_)
    refine L_e hS (e_assign rfl) rfl ?_; clear hS a; intro a hS
    refine L_nil (n_then (wp_ret (r_then ?_)))
    refine c_ret1 hS Tryz.results21 (.tmp rfl) ?_
    have hE : closeRE s at_ = 34 := by unfold closeRE; rw [if_neg (by simpa using hc7), if_pos hc13]
    have hL : closeR s at_ = s := if_neg (by rw [hE]; decide)
    rw [hE, hL]
    exact ⟨(), rfl, hS.chg, rl_end hS (by repeat constructor) (by repeat constructor) (by repeat constructor) (by repeat constructor)⟩
  refine wp_skip (n_then (c_seq (c_region ?_)))
  refine L_e hS (e_move rfl) rfl ?_; clear hS a; intro a hS
  refine L_e hS (e_move rfl) rfl ?_; clear hS a; intro a hS
  refine L_e hS (e_nilCheck rfl) rfl ?_; clear hS a; intro a hS
  (first | refine L_e hS (e_fa0 rfl ty_fo66_3) rfl ?_ | refine L_e hS (e_faK rfl ty_fo66_3) rfl ?_); clear hS a; intro a hS
  refine L_op (s_store hS rfl rfl rfl ty_sz3 (by repeat constructor) (by repeat constructor) ?_); clear hS; (try clear w); intro w hS
  refine L_nil (n_then (c_seq (c_region ?_)))
  refine L_e hS (e_assign rfl) rfl ?_; clear hS a; intro a hS
  refine L_nil (n_then (wp_ret ?_))
  refine c_ret1 hS Tryz.results21 (.tmp rfl) ?_
  have hE : closeRE s at_ = 0 := by unfold closeRE; rw [if_neg (by simpa using hc7), if_neg hc13]
  have hL : closeR s at_ = { s with closed := at_ } := if_pos hE
  rw [hE, hL]
  exact ⟨(), rfl, hS.chg, rl_end (s' := { s with closed := at_ }) hS (by repeat constructor) (by repeat constructor) (by repeat constructor) (by repeat constructor)⟩
end Go.Proofs.YtheofhegdjjfgaaGreat

namespace Go.Proofs.YtheofhegdjjfgaaGreat
def encD (n : Int) : List Value := [.int .i64 n]
def nv : List Int → Int
  | [] => 0
  | d :: r => d + 10000 * nv r
def inR (l : List Int) : Prop := ∀ d ∈ l, 0 ≤ d ∧ d ≤ 9999
def dgs (n : Nat) : List Int := if n = 0 then [] else ((n % 10000 : Nat) : Int) :: dgs (n / 10000)
 termination_by n
 decreasing_by omega
theorem dgs_zero : dgs 0 = [] := by rw [dgs]; simp
theorem dgs_pos {n : Nat} (h : n ≠ 0) : dgs n = ((n % 10000 : Nat) : Int) :: dgs (n / 10000) := by rw [dgs, if_neg h]
theorem nv_dgs (n : Nat) : nv (dgs n) = n := by
  induction n using Nat.strongRecOn with
  | ind n ih =>
    by_cases h : n = 0
    · subst h; rw [dgs_zero]; rfl
    · rw [dgs_pos h, nv, ih (n / 10000) (by omega)]; omega
theorem inR_dgs (n : Nat) : inR (dgs n) := by
  induction n using Nat.strongRecOn with
  | ind n ih =>
    by_cases h : n = 0
    · subst h; rw [dgs_zero]; intro d hd; cases hd
    · rw [dgs_pos h]
      intro d hd
      rcases List.mem_cons.1 hd with rfl | hd
      · omega
      · exact ih (n / 10000) (by omega) d hd
theorem nv_nonneg {l : List Int} (h : inR l) : 0 ≤ nv l := by
  induction l with
  | nil => exact Int.le_refl _
  | cons d r ih =>
    have h1 := h d (.head _)
    have h2 := ih (fun x hx => h x (.tail _ hx))
    rw [nv]; omega
theorem inR_tail {d : Int} {r : List Int} (h : inR (d :: r)) : inR r := fun x hx => h x (.tail _ hx)
theorem inR_take {l : List Int} (h : inR l) (n : Nat) : inR (l.take n) := fun x hx => h x (List.mem_of_mem_take hx)
theorem inR_snoc {l : List Int} (h : inR l) {d : Int} (hd : 0 ≤ d ∧ d ≤ 9999) : inR (l ++ [d]) := by
  intro x hx
  rcases List.mem_append.1 hx with hx | hx
  · exact h x hx
  · obtain rfl := List.mem_singleton.1 hx; exact hd
theorem nv_append (l r : List Int) : nv (l ++ r) = nv l + 10000 ^ l.length * nv r := by
  induction l with
  | nil => simp [nv]
  | cons d l ih => simp only [List.cons_append, nv, ih, List.length_cons, Int.pow_succ]; rw [Int.mul_add, Int.mul_comm (10000 ^ l.length) 10000, Int.mul_assoc]; omega
theorem nv_snoc (l : List Int) (d : Int) : nv (l ++ [d]) = nv l + 10000 ^ l.length * d := by
  rw [nv_append]; simp [nv]
theorem dgs_of {l : List Int} (h : inR l) (ht : ∀ r d, l = r ++ [d] → d ≠ 0) : l = dgs (nv l).toNat := by
  induction l with
  | nil => simp [nv, dgs_zero]
  | cons d r ih =>
    have h1 := h d (.head _)
    have h2 := nv_nonneg (inR_tail h)
    have ih' := ih (inR_tail h) (fun r' d' e => ht (d :: r') d' (by rw [e]; rfl))
    have hn : (nv (d :: r)).toNat ≠ 0 := by
      rw [nv]
      cases r with
      | nil =>
        have := ht [] d rfl
        simp only [nv]; omega
      | cons d' r' =>
        intro e
        have e1 : nv (d' :: r') = 0 := by omega
        rw [e1] at ih'
        rw [show (0 : Int).toNat = 0 from rfl, dgs_zero] at ih'
        cases ih'
    rw [dgs_pos hn]
    have e1 : ((nv (d :: r)).toNat % 10000 : Nat) = d := by rw [nv]; omega
    have e2 : (nv (d :: r)).toNat / 10000 = (nv r).toNat := by rw [nv]; omega
    rw [e1, e2, ← ih']
theorem trim_step {l : List Int} {n : Nat} (hd : l[n]? = some 0) : nv (l.take (n + 1)) = nv (l.take n) := by
  rw [List.take_add_one, hd]
  simp only [Option.toList]
  rw [nv_snoc]; simp
theorem trim_end {l : List Int} (h : inR l) {n : Nat} (hn : n ≤ l.length) (hd : n = 0 ∨ ∃ d, l[n - 1]? = some d ∧ d ≠ 0) (hv : nv (l.take n) = nv l) : l.take n = dgs (nv l).toNat := by
  rw [← hv]
  refine dgs_of (inR_take h n) (fun r d e => ?_)
  rcases hd with rfl | ⟨d', hd', hne⟩
  · simp at e
  · have hl : (l.take n).length = n := by rw [List.length_take]; omega
    have hr : r.length = n - 1 := by
      have := congrArg List.length e
      rw [hl] at this
      simp at this; omega
    have h1 : (l.take n)[n - 1]? = some d := by rw [e, List.getElem?_append_right (by omega), hr]; simp
    rw [List.getElem?_take] at h1
    split at h1
    · rw [hd'] at h1; cases h1; exact hne
    · cases h1
theorem dgs_length_le {n k : Nat} (h : n < 10000 ^ k) : (dgs n).length ≤ k := by
  induction k generalizing n with
  | zero =>
    obtain rfl : n = 0 := by simpa using h
    rw [dgs_zero]; simp
  | succ k ih =>
    by_cases h0 : n = 0
    · subst h0; rw [dgs_zero]; simp
    · rw [dgs_pos h0, List.length_cons]
      have : n / 10000 < 10000 ^ k := by rw [Nat.pow_succ] at h; omega
      have := ih this
      omega
theorem nv_lt {l : List Int} (h : inR l) : nv l < 10000 ^ l.length := by
  induction l with
  | nil => simp [nv]
  | cons d r ih =>
    have h1 := h d (.head _)
    have h2 := ih (inR_tail h)
    rw [nv, List.length_cons, Int.pow_succ]; omega
theorem cmp_top {l r : List Int} {d e : Int} {s : List Int} (hl : inR l) (hlen : l.length = r.length) (h : d < e) (hr : inR r) : nv (l ++ d :: s) < nv (r ++ e :: s) := by
  rw [nv_append, nv_append, nv, nv, hlen]
  have h1 := nv_lt hl
  have h2 := nv_nonneg hr
  rw [hlen] at h1
  have h3 : (10000 : Int) ^ r.length * (e + 10000 * nv s) = 10000 ^ r.length * (d + 10000 * nv s) + 10000 ^ r.length * (e - d) := by rw [← Int.mul_add]; congr 1; omega
  have h4 : (10000 : Int) ^ r.length * 1 ≤ 10000 ^ r.length * (e - d) := Int.mul_le_mul_of_nonneg_left (by omega) (Int.le_of_lt (Int.pow_pos (by decide)))
  omega
theorem dgs_pow {n : Nat} (h : n ≠ 0) : (10000 : Int) ^ ((dgs n).length - 1) ≤ n := by
  induction n using Nat.strongRecOn with
  | ind n ih =>
    rw [dgs_pos h, List.length_cons]
    by_cases h0 : n / 10000 = 0
    · rw [h0, dgs_zero]; simp; omega
    · have := ih (n / 10000) (by omega) h0
      have hp : 0 < (dgs (n / 10000)).length := by rw [dgs_pos h0]; simp
      rw [show (dgs (n / 10000)).length + 1 - 1 = ((dgs (n / 10000)).length - 1) + 1 by omega, Int.pow_succ]
      omega
theorem pow_mono {a b : Nat} (h : a ≤ b) : (10000 : Int) ^ a ≤ 10000 ^ b := by
  obtain ⟨k, rfl⟩ := Nat.exists_eq_add_of_le h
  rw [Int.pow_add]
  have h1 : 0 < (10000 : Int) ^ a := Int.pow_pos (by decide)
  have h2 : 1 ≤ (10000 : Int) ^ k := by have : 0 < (10000 : Int) ^ k := Int.pow_pos (by decide); omega
  have := Int.mul_le_mul_of_nonneg_left h2 (Int.le_of_lt h1)
  omega
theorem dgs_lt {m n : Nat} (h : (dgs m).length < (dgs n).length) : m < n := by
  have h1 := nv_lt (inR_dgs m)
  rw [nv_dgs] at h1
  have hn : n ≠ 0 := by rintro rfl; rw [dgs_zero] at h; simp at h
  have h2 := dgs_pow hn
  have h3 := pow_mono (show (dgs m).length ≤ (dgs n).length - 1 by omega)
  omega
theorem dgs_inj {m n : Nat} (h : dgs m = dgs n) : m = n := by
  have h1 := nv_dgs m
  have h2 := nv_dgs n
  rw [h] at h1; omega
theorem dgs_len_mono {m n : Nat} (h : m ≤ n) : (dgs m).length ≤ (dgs n).length := by
  by_cases hh : (dgs n).length < (dgs m).length
  · have := dgs_lt hh; omega
  · omega
theorem dgs_ne {n : Nat} : dgs n ≠ [] ↔ 0 < n := by
  by_cases h : n = 0
  · subst h; simp [dgs_zero]
  · rw [dgs_pos h]; simp; omega
def cmpN (m n : Nat) : Int := if m < n then -1 else if n < m then 1 else 0
end Go.Proofs.YtheofhegdjjfgaaGreat



namespace Go.Proofs.YtheofhegdjjfgaaGreat
open Go.RowKit
def bigV (z : Int) (p : Option (Nat × Nat)) (c : Nat) : Value := .agg [.bool (decide (z < 0)), sliceV p (dgs z.natAbs).length c].toArray
def bigA (z : Int) (b : Nat) : Asn := .any (fun k => k = b) (RowP (some (b, 0)) 1 ((dgs z.natAbs).map encD)) true
def sgn (neg : Bool) (v : Int) : Int := if neg then -v else v
theorem sgn_abs {neg : Bool} {v : Int} (h : 0 ≤ v) : (sgn neg v).natAbs = v.toNat := by unfold sgn; split <;> omega
theorem trim_val {neg : Bool} {v : Int} (h : 0 ≤ v) {p : Option (Nat × Nat)} {c k : Nat} (hk : (dgs v.toNat).length = k) : bigV (sgn neg v) p c = .agg [.bool (neg && decide (0 < (k : Int))), sliceV p k c].toArray := by
  unfold bigV
  rw [sgn_abs h, hk]
  have h2 : 0 < k ↔ 0 < v := by
    have := dgs_ne (n := v.toNat)
    rw [← List.length_pos_iff, hk] at this
    rw [this]; omega
  have : decide (sgn neg v < 0) = (neg && decide (0 < (k : Int))) := by
    cases neg <;> simp [sgn] <;> omega
  rw [this]
theorem digOne (l : List Int) : ∀ u ∈ l.flatMap encD, isOne u = true := by
  intro u hu
  obtain ⟨x, _, hx⟩ := List.mem_flatMap.1 hu
  simp only [encD, List.mem_cons, List.not_mem_nil, or_false] at hx
  rw [hx]; rfl
theorem dig_flat {b off : Nat} {l : List Int} {w : World} (h : RowAt b off 1 (l.map encD) w) : ∀ j u, (l.flatMap encD)[j]? = some u → w.cell? ⟨b, off + j, none⟩ = some u := by
  intro j u hu
  have hlt := (List.getElem?_eq_some_iff.1 hu).1
  rw [flat_len encD 1 (fun _ => rfl)] at hlt
  have hx : (l.map encD)[j]? = some (encD l[j]) := by simp [show j < l.length by omega]
  have hj := flat_get encD 1 (fun _ => rfl) l j l[j] (by simp) 0 (.int .i64 l[j]) rfl
  rw [Nat.mul_one, Nat.add_zero, hu] at hj
  have := h j _ hx 0 u (by rw [hj]; rfl)
  simpa using this
theorem rowAt_take {b off s k : Nat} {xs : List (List Value)} {w : World} (h : RowAt b off s xs w) : RowAt b off s (xs.take k) w := by
  intro i x hx
  rw [List.getElem?_take] at hx
  split at hx
  · exact h i x hx
  · cases hx
theorem big_of_own {w : World} {b c m : Nat} {z : Int} {l : List Int} (hl : l = dgs z.natAbs) (h : w.ownsRow 0 3 1 (.slice (some ⟨b, 0, none⟩) m c) m (l.flatMap encD)) : (bigA z b).ok w := by
  subst hl
  exact ⟨fun k hk => by obtain rfl : k = b := hk; exact (World.ownsRow.lt h k rfl).2, fun w' hw => RowAt.keep (row_of_own (enc := encD) (fun _ => rfl) h) (hw b rfl)⟩
theorem big_zero (b c : Nat) : bigV 0 (some (b, 0)) c = .agg [.bool false, .slice (some ⟨b, 0, none⟩) 0 c].toArray := by
  unfold bigV
  rw [show (0 : Int).natAbs = 0 from rfl, dgs_zero]; rfl
theorem own_le {w : World} {E s b c m : Nat} {xs : List Value} (h : w.ownsRow 0 E s (.slice (some ⟨b, 0, none⟩) m c) m xs) : m ≤ c := by
  rcases h.2 with ⟨e, _⟩ | ⟨g, cap, cur, e, _, _, h1, _⟩
  · cases e
  · cases e; exact h1
abbrev At (z : Int) := { y : Nat × Nat // (dgs z.natAbs).length ≤ y.2 }
set_option maxRecDepth 100000 in
theorem trim_none (neg : Bool) (w0 : World) : NewC Tryz.prog 100 [.bool neg, .slice none 0 0] w0 (fun y : At 0 => bigV 0 (some (y.1.1, 0)) y.1.2) (fun y => bigA 0 y.1.1) := by
  refine c_enter [(0, .bool neg), (1, .slice none 0 0)] [] noB Tryz.func100 rfl Tryz.ntmps100 ⟨rfl, rfl, trivial⟩ rfl (by simp) (by simp) (by simp) ?_
  intro a hS
  refine c_seq (c_region ?_)
  refine L_op (s_alloc hS ty_z139 rfl ?_); clear hS a; (try clear w); intro a w b4 hS
  refine L_nil (n_then (c_seq (c_region ?_)))
  refine L_e hS (e_move rfl) rfl ?_; clear hS a; intro a hS
  refine L_e hS (e_len rfl rfl ty_sl137) rfl ?_; clear hS a; intro a hS
  refine L_e hS (e_assign rfl) rfl ?_; clear hS a; intro a hS
  refine L_nil (n_then (c_seq (wp_block ?_)))
  skip
  refine c_loop (γ := Nat) (fun k a w => St 31 noB w0 a w [(5, .int .i64 0), (4, .pointer (some ⟨b4, 0, none⟩)), (0, .bool neg), (1, .slice none 0 0)] [.blk b4 [.bool false, .slice none 0 0] 139] ∧ k = 0) (fun k => k) 0 ⟨hS.slots ⟨rfl, rfl, rfl, rfl, trivial⟩, rfl⟩ ?_
  clear hS a; (try clear w); intro k a w hI
  obtain ⟨hS, hk⟩ := hI
  refine c_seq (c_seq (c_region ?_))
  refine L_e hS (e_move rfl) rfl ?_; clear hS a; intro a hS
  refine L_e hS (e_bin rfl rfl rfl) rfl ?_; clear hS a; intro a hS
  refine L_e hS (e_move rfl) rfl ?_; clear hS a; intro a hS
  replace hS := hS.is (t := 10) (c := false) rfl ((by decide))
  refine L_skip_t hS rfl rfl rfl ?_; clear hS a; intro a hS
  refine L_skip_t hS rfl rfl rfl ?_; clear hS a; intro a hS
  refine L_skip_t hS rfl rfl rfl ?_; clear hS a; intro a hS
  refine L_skip_t hS rfl rfl rfl ?_; clear hS a; intro a hS
  refine L_skip_t hS rfl rfl rfl ?_; clear hS a; intro a hS
  refine L_skip_t hS rfl rfl rfl ?_; clear hS a; intro a hS
  refine L_e hS (e_pk rfl rfl) rfl ?_; clear hS a; intro a hS
  refine L_nil (n_then ?_)
  refine c_if_f hS rfl ?_
  refine wp_exit ?_
  refine x_then (x_then (x_hit ?_))
  refine n_then (c_seq (c_region ?_))
  refine L_e hS (e_move rfl) rfl ?_; clear hS a; intro a hS
  refine L_e hS (e_move rfl) rfl ?_; clear hS a; intro a hS
  (first | refine g_splitD (t := 21) hS rfl ?_ ?_ | refine g_split (t := 21) hS rfl ?_ ?_) <;> (clear hS; intro hg21 hS)
  ·
    refine L_ge hS rfl rfl (e_move rfl) rfl ?_; clear hS a; intro a hS
    refine L_ge hS rfl rfl (e_bin rfl rfl rfl) rfl ?_; clear hS a; intro a hS
    refine L_e hS (e_pk rfl rfl) rfl ?_; clear hS a; intro a hS
    refine L_op (s_bslice hS ty_sl137 ty_sz3 ty_z3 rfl rfl rfl rfl .nil rfl ?_); clear hS a; (try clear w); intro a w b25 hS
    refine L_e hS (e_move rfl) rfl ?_; clear hS a; intro a hS
    refine L_e hS (e_move rfl) rfl ?_; clear hS a; intro a hS
    refine L_e hS (e_slH (j := 0) rfl rfl ty_sl137 ty_sz3 (Nat.le_refl _)) rfl ?_; clear hS a; intro a hS
    replace hS := hS.swap (X := .blk b25 [] 3) (Y := ownA 3 1 (.slice (some ⟨b25, 0, none⟩) 0 0) 0 []) (by repeat (first | apply Rep.head | apply Rep.tail)) (own_empty (hS.get (X := .blk b25 [] 3) (by repeat (first | exact .head _ | refine .tail _ ?_)))) (fun b hb => by simpa [ownA, Asn.F, Value.ownBlock, eq_comm] using hb) rfl
    refine L_e hS (e_append0 rfl rfl ty_sl137 ty_sz3 ty_by3 ty_z3 (by repeat (first | exact .head _ | refine .tail _ ?_))) rfl ?_; clear hS a; intro a hS
    refine L_e hS (e_build ty_z139 ty_pl139 (.one rfl rfl rfl (by repeat constructor) (.one rfl rfl rfl (by repeat constructor) .nil))) rfl ?_; clear hS a; intro a hS
    refine L_op (s_storeA hS rfl rfl ty_sz139 (by repeat constructor) (by rfl) (by rfl) (by rfl) ?_); clear hS; (try clear w); intro w hS
    refine L_nil (n_then (wp_ret ?_))
    refine c_ret1 hS Tryz.results100 (.cellA rfl (by repeat constructor) ty_st139 ty_sz139 (by rfl)) ?_
    have hn := hS.new (X := ownA 3 1 (.slice (some ⟨b25, 0, none⟩) 0 0) 0 []) (by repeat (first | exact .head _ | refine .tail _ ?_)) rfl
    refine ⟨⟨(b25, 0), by rw [show (0 : Int).natAbs = 0 from rfl, dgs_zero]; exact Nat.le_refl _⟩, (congrArg Ending.returned (big_zero b25 0)).symm, hS.chg, big_of_own (c := 0) (m := 0) (l := []) (by rw [show (0 : Int).natAbs = 0 from rfl, dgs_zero]) hn.1.now, fun q hq => hn.2 q (by obtain rfl : q = b25 := hq; rfl)⟩
  refine L_skip_t hS rfl rfl rfl ?_; clear hS a; intro a hS
  refine L_skip_t hS rfl rfl rfl ?_; clear hS a; intro a hS
  refine L_e hS (e_pk rfl rfl) rfl ?_; clear hS a; intro a hS
  refine L_op (s_bslice hS ty_sl137 ty_sz3 ty_z3 rfl rfl rfl rfl .nil rfl ?_); clear hS a; (try clear w); intro a w b25 hS
  refine L_e hS (e_move rfl) rfl ?_; clear hS a; intro a hS
  refine L_e hS (e_move rfl) rfl ?_; clear hS a; intro a hS
  refine L_e hS (e_slH (j := 0) rfl rfl ty_sl137 ty_sz3 (Nat.le_refl _)) rfl ?_; clear hS a; intro a hS
  replace hS := hS.swap (X := .blk b25 [] 3) (Y := ownA 3 1 (.slice (some ⟨b25, 0, none⟩) 0 0) 0 []) (by repeat (first | apply Rep.head | apply Rep.tail)) (own_empty (hS.get (X := .blk b25 [] 3) (by repeat (first | exact .head _ | refine .tail _ ?_)))) (fun b hb => by simpa [ownA, Asn.F, Value.ownBlock, eq_comm] using hb) rfl
  refine L_e hS (e_append0 rfl rfl ty_sl137 ty_sz3 ty_by3 ty_z3 (by repeat (first | exact .head _ | refine .tail _ ?_))) rfl ?_; clear hS a; intro a hS
  refine L_e hS (e_build ty_z139 ty_pl139 (.one rfl rfl rfl (by repeat constructor) (.one rfl rfl rfl (by repeat constructor) .nil))) rfl ?_; clear hS a; intro a hS
  refine L_op (s_storeA hS rfl rfl ty_sz139 (by repeat constructor) (by rfl) (by rfl) (by rfl) ?_); clear hS; (try clear w); intro w hS
  refine L_nil (n_then (wp_ret ?_))
  refine c_ret1 hS Tryz.results100 (.cellA rfl (by repeat constructor) ty_st139 ty_sz139 (by rfl)) ?_
  have hn := hS.new (X := ownA 3 1 (.slice (some ⟨b25, 0, none⟩) 0 0) 0 []) (by repeat (first | exact .head _ | refine .tail _ ?_)) rfl
  refine ⟨⟨(b25, 0), by rw [show (0 : Int).natAbs = 0 from rfl, dgs_zero]; exact Nat.le_refl _⟩, (congrArg Ending.returned (big_zero b25 0)).symm, hS.chg, big_of_own (c := 0) (m := 0) (l := []) (by rw [show (0 : Int).natAbs = 0 from rfl, dgs_zero]) hn.1.now, fun q hq => hn.2 q (by obtain rfl : q = b25 := hq; rfl)⟩
set_option maxRecDepth 100000 in
theorem trim_some (neg : Bool) (b off c : Nat) (ds : List Int) (hin : inR ds) (hc : ds.length ≤ c) (hlen : ds.length ≤ 1000000) (w0 : World) (hrow : RowAt b off 1 (ds.map encD) w0) (hb : b < w0.heap.size) :
    NewC Tryz.prog 100 [.bool neg, sliceV (some (b, off)) ds.length c] w0 (fun y : At (sgn neg (nv ds)) => bigV (sgn neg (nv ds)) (some (y.1.1, 0)) y.1.2) (fun y => bigA (sgn neg (nv ds)) y.1.1) := by
  refine c_enter [(0, .bool neg), (1, sliceV (some (b, off)) ds.length c)] [rowA b off 1 (ds.map encD)] noB Tryz.func100 rfl Tryz.ntmps100 ⟨rfl, rfl, trivial⟩ rfl (by intro X hX; obtain rfl := List.mem_singleton.1 hX; exact ok_row hrow hb) (by simp) (by intro X hX hm; obtain rfl := List.mem_singleton.1 hX; cases hm) ?_
  intro a hS
  refine c_seq (c_region ?_)
  refine L_op (s_alloc hS ty_z139 rfl ?_); clear hS a; (try clear w); intro a w b4 hS
  refine L_nil (n_then (c_seq (c_region ?_)))
  refine L_e hS (e_move rfl) rfl ?_; clear hS a; intro a hS
  refine L_e hS (e_len rfl rfl ty_sl137) rfl ?_; clear hS a; intro a hS
  refine L_e hS (e_assign rfl) rfl ?_; clear hS a; intro a hS
  refine L_nil (n_then (c_seq (wp_block ?_)))
  skip
  refine c_loop (γ := Nat) (fun k a w => St 31 noB w0 a w [(5, .int .i64 (k : Int)), (4, .pointer (some ⟨b4, 0, none⟩)), (0, .bool neg), (1, sliceV (some (b, off)) ds.length c)] [.blk b4 [.bool false, .slice none 0 0] 139, rowA b off 1 (ds.map encD)] ∧ k ≤ ds.length ∧ nv (ds.take k) = nv ds) (fun k => k) ds.length ⟨hS.slots ⟨rfl, rfl, rfl, rfl, trivial⟩, Nat.le_refl _, by rw [List.take_length]⟩ ?_
  clear hS a; (try clear w); intro k a w hI
  obtain ⟨hS, hk, hv⟩ := hI
  refine c_seq (c_seq (c_region ?_))
  refine L_e hS (e_move rfl) rfl ?_; clear hS a; intro a hS
  refine L_e hS (e_bin rfl rfl rfl) rfl ?_; clear hS a; intro a hS
  refine L_e hS (e_move rfl) rfl ?_; clear hS a; intro a hS
  try (
    have hk1 : 0 < k := by omega
    have hkn : ((k : Int) - 1).toNat = k - 1 := by omega
    obtain ⟨d, hd⟩ : ∃ d, ds[k - 1]? = some d := ⟨ds[k - 1]'(by omega), List.getElem?_eq_getElem (by omega)⟩
    have hd' : (ds.map encD)[k - 1]? = some (encD d) := by simp [hd])
  (first | refine g_splitD (t := 10) hS rfl ?_ ?_ | refine g_split (t := 10) hS rfl ?_ ?_) <;> (clear hS; intro hg10 hS)
  ·
    try (
      have hk1 : 0 < k := by omega
      have hkn : ((k : Int) - 1).toNat = k - 1 := by omega
      obtain ⟨d, hd⟩ : ∃ d, ds[k - 1]? = some d := ⟨ds[k - 1]'(by omega), List.getElem?_eq_getElem (by omega)⟩
      have hd' : (ds.map encD)[k - 1]? = some (encD d) := by simp [hd])
    refine L_ge hS rfl rfl (e_move rfl) rfl ?_; clear hS a; intro a hS
    refine L_ge hS rfl rfl (e_move rfl) rfl ?_; clear hS a; intro a hS
    (first | refine L_ge hS rfl rfl (e_binN rfl rfl rfl (by omega)) rfl ?_ | refine L_ge hS rfl rfl (e_bin rfl rfl rfl) rfl ?_); clear hS a; intro a hS
    refine L_ge hS rfl rfl (e_ix rfl rfl ty_sl137 ty_sz3 (by omega)) rfl ?_; clear hS a; intro a hS
    refine L_ge hS rfl rfl (e_loadC rfl ty_sc3 (fun w hh => by rw [hkn]; exact row_get (by repeat (first | exact .head _ | refine .tail _ ?_)) hd' w hh 0 (.int .i64 d) rfl)) rfl ?_; clear hS a; intro a hS
    refine L_ge hS rfl rfl (e_bin rfl rfl rfl) rfl ?_; clear hS a; intro a hS
    refine L_e hS (e_pk rfl rfl) rfl ?_; clear hS a; intro a hS
    refine L_nil (n_then ?_)
    first | refine c_ifD hS rfl (fun hc17 => ?_) (fun hc17 => ?_) | refine c_if hS rfl (fun hc17 => ?_) (fun hc17 => ?_)
    ·
      refine wp_skip (n_then (wp_block (c_region ?_)))
      refine L_e hS (e_move rfl) rfl ?_; clear hS a; intro a hS
      (first | refine L_e hS (e_binN rfl rfl rfl (by omega)) rfl ?_ | refine L_e hS (e_bin rfl rfl rfl) rfl ?_); clear hS a; intro a hS
      refine L_e hS (e_assign rfl) rfl ?_; clear hS a; intro a hS
      refine L_nil (n_block ?_)
      exact ⟨k - 1, by omega, by rw [show ((k - 1 : Nat) : Int) = (k : Int) - 1 by omega]; exact hS.slots (by exact ⟨rfl, rfl, rfl, rfl, trivial⟩), by omega, by subst hc17; have := trim_step hd; rw [show k - 1 + 1 = k by omega] at this; rw [← this]; exact hv⟩
    refine wp_exit ?_
    refine x_then (x_then (x_hit ?_))
    refine n_then (c_seq (c_region ?_))
    have hT : ds.take k = dgs (nv ds).toNat := trim_end hin hk (by first | exact .inl (by omega) | exact .inr ⟨d, hd, hc17⟩) hv
    refine L_e hS (e_move rfl) rfl ?_; clear hS a; intro a hS
    refine L_e hS (e_move rfl) rfl ?_; clear hS a; intro a hS
    (first | refine g_splitD (t := 21) hS rfl ?_ ?_ | refine g_split (t := 21) hS rfl ?_ ?_) <;> (clear hS; intro hg21 hS)
    ·
      refine L_ge hS rfl rfl (e_move rfl) rfl ?_; clear hS a; intro a hS
      refine L_ge hS rfl rfl (e_bin rfl rfl rfl) rfl ?_; clear hS a; intro a hS
      refine L_e hS (e_pk rfl rfl) rfl ?_; clear hS a; intro a hS
      refine L_op (s_bslice hS ty_sl137 ty_sz3 ty_z3 rfl rfl rfl rfl .nil rfl ?_); clear hS a; (try clear w); intro a w b25 hS
      refine L_e hS (e_move rfl) rfl ?_; clear hS a; intro a hS
      refine L_e hS (e_move rfl) rfl ?_; clear hS a; intro a hS
      refine L_e hS (e_slH rfl rfl ty_sl137 ty_sz3 (by omega)) rfl ?_; clear hS a; intro a hS
      replace hS := hS.swap (X := .blk b25 [] 3) (Y := ownA 3 1 (.slice (some ⟨b25, 0, none⟩) 0 0) 0 []) (by repeat (first | apply Rep.head | apply Rep.tail)) (own_empty (hS.get (X := .blk b25 [] 3) (by repeat (first | exact .head _ | refine .tail _ ?_)))) (fun b hb => by simpa [ownA, Asn.F, Value.ownBlock, eq_comm] using hb) rfl
      refine L_op (s_append hS rfl rfl ty_sl137 ty_sz3 ty_by3 ty_z3 rfl rfl rfl (by repeat (first | exact .head _ | refine .tail _ ?_)) (ys := (ds.take k).flatMap encD) (by rw [flat_len encD 1 (fun _ => rfl), List.length_take]; omega) (by have := dig_flat (l := ds.take k) (by rw [List.map_take]; exact rowAt_take (hS.get (X := rowA b off 1 (ds.map encD)) (by repeat (first | exact .head _ | refine .tail _ ?_)))); exact this) (digOne _) (by omega) (fun _ => (by repeat (first | apply Rep.head | apply Rep.tail))) ?_); clear hS a; (try clear w); intro v29 a w hv29 hS
      obtain ⟨lb, c', rfl⟩ := own_some (hS.get (.head _)) (fun e => by have := (hv29.1 e).1; cases this)
      rw [Nat.zero_add, List.nil_append] at hS
      clear hv29
      refine L_e hS (e_build ty_z139 ty_pl139 (.one rfl rfl rfl (by repeat constructor) (.one rfl rfl rfl (by repeat constructor) .nil))) rfl ?_; clear hS a; intro a hS
      refine L_op (s_storeA hS rfl rfl ty_sz139 (by repeat constructor) (by rfl) (by rfl) (by rfl) ?_); clear hS; (try clear w); intro w hS
      refine L_nil (n_then (wp_ret ?_))
      refine c_ret1 hS Tryz.results100 (.cellA rfl (by repeat constructor) ty_st139 ty_sz139 (by rfl)) ?_
      have hlk : (dgs (nv ds).toNat).length = k := by rw [← hT, List.length_take]; omega
      have hn := hS.new (X := ownA 3 1 (.slice (some ⟨lb, 0, none⟩) k c') k ((ds.take k).flatMap encD)) (by repeat (first | exact .head _ | refine .tail _ ?_)) rfl
      refine ⟨⟨(lb, c'), by rw [sgn_abs (nv_nonneg hin), hlk]; exact own_le hn.1.now⟩, ?_, hS.chg, big_of_own (by rw [sgn_abs (nv_nonneg hin)]; exact hT) hn.1.now, fun q hq => hn.2 q (by obtain rfl : q = lb := hq; rfl)⟩
      show _ = Ending.returned (bigV (sgn neg (nv ds)) (some (lb, 0)) c')
      rw [trim_val (nv_nonneg hin) hlk, hg21]
      simp [sliceV]
    refine L_skip_t hS rfl rfl rfl ?_; clear hS a; intro a hS
    refine L_skip_t hS rfl rfl rfl ?_; clear hS a; intro a hS
    refine L_e hS (e_pk rfl rfl) rfl ?_; clear hS a; intro a hS
    refine L_op (s_bslice hS ty_sl137 ty_sz3 ty_z3 rfl rfl rfl rfl .nil rfl ?_); clear hS a; (try clear w); intro a w b25 hS
    refine L_e hS (e_move rfl) rfl ?_; clear hS a; intro a hS
    refine L_e hS (e_move rfl) rfl ?_; clear hS a; intro a hS
    refine L_e hS (e_slH rfl rfl ty_sl137 ty_sz3 (by omega)) rfl ?_; clear hS a; intro a hS
    replace hS := hS.swap (X := .blk b25 [] 3) (Y := ownA 3 1 (.slice (some ⟨b25, 0, none⟩) 0 0) 0 []) (by repeat (first | apply Rep.head | apply Rep.tail)) (own_empty (hS.get (X := .blk b25 [] 3) (by repeat (first | exact .head _ | refine .tail _ ?_)))) (fun b hb => by simpa [ownA, Asn.F, Value.ownBlock, eq_comm] using hb) rfl
    refine L_op (s_append hS rfl rfl ty_sl137 ty_sz3 ty_by3 ty_z3 rfl rfl rfl (by repeat (first | exact .head _ | refine .tail _ ?_)) (ys := (ds.take k).flatMap encD) (by rw [flat_len encD 1 (fun _ => rfl), List.length_take]; omega) (by have := dig_flat (l := ds.take k) (by rw [List.map_take]; exact rowAt_take (hS.get (X := rowA b off 1 (ds.map encD)) (by repeat (first | exact .head _ | refine .tail _ ?_)))); exact this) (digOne _) (by omega) (fun _ => (by repeat (first | apply Rep.head | apply Rep.tail))) ?_); clear hS a; (try clear w); intro v29 a w hv29 hS
    obtain ⟨lb, c', rfl⟩ := own_some (hS.get (.head _)) (fun e => by have := (hv29.1 e).1; cases this)
    rw [Nat.zero_add, List.nil_append] at hS
    clear hv29
    refine L_e hS (e_build ty_z139 ty_pl139 (.one rfl rfl rfl (by repeat constructor) (.one rfl rfl rfl (by repeat constructor) .nil))) rfl ?_; clear hS a; intro a hS
    refine L_op (s_storeA hS rfl rfl ty_sz139 (by repeat constructor) (by rfl) (by rfl) (by rfl) ?_); clear hS; (try clear w); intro w hS
    refine L_nil (n_then (wp_ret ?_))
    refine c_ret1 hS Tryz.results100 (.cellA rfl (by repeat constructor) ty_st139 ty_sz139 (by rfl)) ?_
    have hlk : (dgs (nv ds).toNat).length = k := by rw [← hT, List.length_take]; omega
    have hn := hS.new (X := ownA 3 1 (.slice (some ⟨lb, 0, none⟩) k c') k ((ds.take k).flatMap encD)) (by repeat (first | exact .head _ | refine .tail _ ?_)) rfl
    refine ⟨⟨(lb, c'), by rw [sgn_abs (nv_nonneg hin), hlk]; exact own_le hn.1.now⟩, ?_, hS.chg, big_of_own (by rw [sgn_abs (nv_nonneg hin)]; exact hT) hn.1.now, fun q hq => hn.2 q (by obtain rfl : q = lb := hq; rfl)⟩
    show _ = Ending.returned (bigV (sgn neg (nv ds)) (some (lb, 0)) c')
    rw [trim_val (nv_nonneg hin) hlk, hg21]
    simp [sliceV]
  try (
    have hk1 : 0 < k := by omega
    have hkn : ((k : Int) - 1).toNat = k - 1 := by omega
    obtain ⟨d, hd⟩ : ∃ d, ds[k - 1]? = some d := ⟨ds[k - 1]'(by omega), List.getElem?_eq_getElem (by omega)⟩
    have hd' : (ds.map encD)[k - 1]? = some (encD d) := by simp [hd])
  refine L_skip_t hS rfl rfl rfl ?_; clear hS a; intro a hS
  refine L_skip_t hS rfl rfl rfl ?_; clear hS a; intro a hS
  refine L_skip_t hS rfl rfl rfl ?_; clear hS a; intro a hS
  refine L_skip_t hS rfl rfl rfl ?_; clear hS a; intro a hS
  refine L_skip_t hS rfl rfl rfl ?_; clear hS a; intro a hS
  refine L_skip_t hS rfl rfl rfl ?_; clear hS a; intro a hS
  refine L_e hS (e_pk rfl rfl) rfl ?_; clear hS a; intro a hS
  refine L_nil (n_then ?_)
  refine c_if_f hS rfl ?_
  refine wp_exit ?_
  refine x_then (x_then (x_hit ?_))
  refine n_then (c_seq (c_region ?_))
  have hT : ds.take k = dgs (nv ds).toNat := trim_end hin hk (by first | exact .inl (by omega) | exact .inr ⟨d, hd, hc17⟩) hv
  refine L_e hS (e_move rfl) rfl ?_; clear hS a; intro a hS
  refine L_e hS (e_move rfl) rfl ?_; clear hS a; intro a hS
  (first | refine g_splitD (t := 21) hS rfl ?_ ?_ | refine g_split (t := 21) hS rfl ?_ ?_) <;> (clear hS; intro hg21 hS)
  ·
    refine L_ge hS rfl rfl (e_move rfl) rfl ?_; clear hS a; intro a hS
    refine L_ge hS rfl rfl (e_bin rfl rfl rfl) rfl ?_; clear hS a; intro a hS
    refine L_e hS (e_pk rfl rfl) rfl ?_; clear hS a; intro a hS
    refine L_op (s_bslice hS ty_sl137 ty_sz3 ty_z3 rfl rfl rfl rfl .nil rfl ?_); clear hS a; (try clear w); intro a w b25 hS
    refine L_e hS (e_move rfl) rfl ?_; clear hS a; intro a hS
    refine L_e hS (e_move rfl) rfl ?_; clear hS a; intro a hS
    refine L_e hS (e_slH rfl rfl ty_sl137 ty_sz3 (by omega)) rfl ?_; clear hS a; intro a hS
    replace hS := hS.swap (X := .blk b25 [] 3) (Y := ownA 3 1 (.slice (some ⟨b25, 0, none⟩) 0 0) 0 []) (by repeat (first | apply Rep.head | apply Rep.tail)) (own_empty (hS.get (X := .blk b25 [] 3) (by repeat (first | exact .head _ | refine .tail _ ?_)))) (fun b hb => by simpa [ownA, Asn.F, Value.ownBlock, eq_comm] using hb) rfl
    refine L_op (s_append hS rfl rfl ty_sl137 ty_sz3 ty_by3 ty_z3 rfl rfl rfl (by repeat (first | exact .head _ | refine .tail _ ?_)) (ys := (ds.take k).flatMap encD) (by rw [flat_len encD 1 (fun _ => rfl), List.length_take]; omega) (by have := dig_flat (l := ds.take k) (by rw [List.map_take]; exact rowAt_take (hS.get (X := rowA b off 1 (ds.map encD)) (by repeat (first | exact .head _ | refine .tail _ ?_)))); exact this) (digOne _) (by omega) (fun _ => (by repeat (first | apply Rep.head | apply Rep.tail))) ?_); clear hS a; (try clear w); intro v29 a w hv29 hS
    obtain ⟨lb, c', rfl⟩ := own_some (hS.get (.head _)) (fun e => by have := (hv29.1 e).1; cases this)
    rw [Nat.zero_add, List.nil_append] at hS
    clear hv29
    refine L_e hS (e_build ty_z139 ty_pl139 (.one rfl rfl rfl (by repeat constructor) (.one rfl rfl rfl (by repeat constructor) .nil))) rfl ?_; clear hS a; intro a hS
    refine L_op (s_storeA hS rfl rfl ty_sz139 (by repeat constructor) (by rfl) (by rfl) (by rfl) ?_); clear hS; (try clear w); intro w hS
    refine L_nil (n_then (wp_ret ?_))
    refine c_ret1 hS Tryz.results100 (.cellA rfl (by repeat constructor) ty_st139 ty_sz139 (by rfl)) ?_
    have hlk : (dgs (nv ds).toNat).length = k := by rw [← hT, List.length_take]; omega
    have hn := hS.new (X := ownA 3 1 (.slice (some ⟨lb, 0, none⟩) k c') k ((ds.take k).flatMap encD)) (by repeat (first | exact .head _ | refine .tail _ ?_)) rfl
    refine ⟨⟨(lb, c'), by rw [sgn_abs (nv_nonneg hin), hlk]; exact own_le hn.1.now⟩, ?_, hS.chg, big_of_own (by rw [sgn_abs (nv_nonneg hin)]; exact hT) hn.1.now, fun q hq => hn.2 q (by obtain rfl : q = lb := hq; rfl)⟩
    show _ = Ending.returned (bigV (sgn neg (nv ds)) (some (lb, 0)) c')
    rw [trim_val (nv_nonneg hin) hlk, hg21]
    simp [sliceV]
  refine L_skip_t hS rfl rfl rfl ?_; clear hS a; intro a hS
  refine L_skip_t hS rfl rfl rfl ?_; clear hS a; intro a hS
  refine L_e hS (e_pk rfl rfl) rfl ?_; clear hS a; intro a hS
  refine L_op (s_bslice hS ty_sl137 ty_sz3 ty_z3 rfl rfl rfl rfl .nil rfl ?_); clear hS a; (try clear w); intro a w b25 hS
  refine L_e hS (e_move rfl) rfl ?_; clear hS a; intro a hS
  refine L_e hS (e_move rfl) rfl ?_; clear hS a; intro a hS
  refine L_e hS (e_slH rfl rfl ty_sl137 ty_sz3 (by omega)) rfl ?_; clear hS a; intro a hS
  replace hS := hS.swap (X := .blk b25 [] 3) (Y := ownA 3 1 (.slice (some ⟨b25, 0, none⟩) 0 0) 0 []) (by repeat (first | apply Rep.head | apply Rep.tail)) (own_empty (hS.get (X := .blk b25 [] 3) (by repeat (first | exact .head _ | refine .tail _ ?_)))) (fun b hb => by simpa [ownA, Asn.F, Value.ownBlock, eq_comm] using hb) rfl
  refine L_op (s_append hS rfl rfl ty_sl137 ty_sz3 ty_by3 ty_z3 rfl rfl rfl (by repeat (first | exact .head _ | refine .tail _ ?_)) (ys := (ds.take k).flatMap encD) (by rw [flat_len encD 1 (fun _ => rfl), List.length_take]; omega) (by have := dig_flat (l := ds.take k) (by rw [List.map_take]; exact rowAt_take (hS.get (X := rowA b off 1 (ds.map encD)) (by repeat (first | exact .head _ | refine .tail _ ?_)))); exact this) (digOne _) (by omega) (fun _ => (by repeat (first | apply Rep.head | apply Rep.tail))) ?_); clear hS a; (try clear w); intro v29 a w hv29 hS
  obtain ⟨lb, c', rfl⟩ := own_some (hS.get (.head _)) (fun e => by have := (hv29.1 e).1; cases this)
  rw [Nat.zero_add, List.nil_append] at hS
  clear hv29
  refine L_e hS (e_build ty_z139 ty_pl139 (.one rfl rfl rfl (by repeat constructor) (.one rfl rfl rfl (by repeat constructor) .nil))) rfl ?_; clear hS a; intro a hS
  refine L_op (s_storeA hS rfl rfl ty_sz139 (by repeat constructor) (by rfl) (by rfl) (by rfl) ?_); clear hS; (try clear w); intro w hS
  refine L_nil (n_then (wp_ret ?_))
  refine c_ret1 hS Tryz.results100 (.cellA rfl (by repeat constructor) ty_st139 ty_sz139 (by rfl)) ?_
  have hlk : (dgs (nv ds).toNat).length = k := by rw [← hT, List.length_take]; omega
  have hn := hS.new (X := ownA 3 1 (.slice (some ⟨lb, 0, none⟩) k c') k ((ds.take k).flatMap encD)) (by repeat (first | exact .head _ | refine .tail _ ?_)) rfl
  refine ⟨⟨(lb, c'), by rw [sgn_abs (nv_nonneg hin), hlk]; exact own_le hn.1.now⟩, ?_, hS.chg, big_of_own (by rw [sgn_abs (nv_nonneg hin)]; exact hT) hn.1.now, fun q hq => hn.2 q (by obtain rfl : q = lb := hq; rfl)⟩
  show _ = Ending.returned (bigV (sgn neg (nv ds)) (some (lb, 0)) c')
  rw [trim_val (nv_nonneg hin) hlk, hg21]
  simp [sliceV]
theorem trim_P (neg : Bool) (p : Option (Nat × Nat)) (c : Nat) (hp : p = none → c = 0) (ds : List Int) (hin : inR ds) (hc : ds.length ≤ c) (hlen : ds.length ≤ 1000000) (w0 : World) (hrow : RowP p 1 (ds.map encD) w0) (hb : ∀ q, p = some q → q.1 < w0.heap.size) :
    NewC Tryz.prog 100 [.bool neg, sliceV p ds.length c] w0 (fun y : At (sgn neg (nv ds)) => bigV (sgn neg (nv ds)) (some (y.1.1, 0)) y.1.2) (fun y => bigA (sgn neg (nv ds)) y.1.1) := by
  cases p with
  | none =>
    obtain rfl := hp rfl
    obtain rfl : ds = [] := by simpa [RowP] using hrow
    have e : sgn neg (nv []) = 0 := by cases neg <;> rfl
    rw [e]
    exact trim_none neg w0
  | some q => exact trim_some neg q.1 q.2 c ds hin hc hlen w0 hrow (hb q rfl)
theorem own_digs {w : World} {v : Value} {l : List Int} (h : w.ownsRow 0 3 1 v l.length (l.flatMap encD)) :
    ∃ p c, v = sliceV p l.length c ∧ (p = none → c = 0) ∧ l.length ≤ c ∧ RowP p 1 (l.map encD) w ∧ ∀ q, p = some q → q.1 < w.heap.size := by
  rcases h.2 with ⟨rfl, e⟩ | ⟨g, cap, cur, rfl, _, _, hc, _⟩
  · refine ⟨none, 0, by rw [e]; rfl, fun _ => rfl, by omega, ?_, by simp⟩
    rw [List.eq_nil_of_length_eq_zero e]; rfl
  · refine ⟨some (g, 0), cap, rfl, by simp, hc, row_of_own (enc := encD) (fun _ => rfl) h, fun q hq => ?_⟩
    cases hq
    exact (World.ownsRow.lt h g rfl).2
theorem sliceV_inj {p q : Option (Nat × Nat)} {m c d : Nat} (h : sliceV p m c = sliceV q m d) : p = q ∧ c = d := by
  unfold sliceV at h
  simp only [Value.slice.injEq, true_and] at h
  refine ⟨?_, h.2⟩
  cases p <;> cases q <;> simp_all
  exact Prod.ext h.1.1 h.1.2
theorem sgn_of {z v : Int} (h : v = z.natAbs) : sgn (decide (z < 0)) v = z := by
  unfold sgn
  by_cases h0 : z < 0 <;> simp [h0] <;> omega
end Go.Proofs.YtheofhegdjjfgaaGreat

namespace Go.Proofs.YtheofhegdjjfgaaGreat
open Go.RowKit
theorem wrap_fit {m : Int} (h : -9223372036854775808 ≤ m ∧ m ≤ 9223372036854775807) : IntKind.i64.wrap m = m := IntWalk.i64_in _ (by omega)
theorem quo_abs (n : Int) : (n.tdiv 10000).natAbs = n.natAbs / 10000 := Int.natAbs_tdiv n 10000
theorem rem_abs (n : Int) : (n.tmod 10000).natAbs = n.natAbs % 10000 := Int.natAbs_tmod n 10000
set_option maxRecDepth 100000 in
theorem BigOf_P (z : Int) (hz : -9223372036854775808 ≤ z ∧ z ≤ 9223372036854775807) (w0 : World) :
    NewC Tryz.prog 62 [.int .i64 z] w0 (fun y : At z => bigV z (some (y.1.1, 0)) y.1.2) (fun y => bigA z y.1.1) := by
  have hlz : (dgs z.natAbs).length ≤ 5 := dgs_length_le (by omega)
  refine c_enter [(0, .int .i64 z)] [] noB Tryz.func62 rfl Tryz.ntmps62 ⟨rfl, trivial⟩ rfl (by simp) (by simp) (by simp) ?_
  intro a hS
  refine c_seq (c_region ?_)
  refine L_op (s_alloc hS ty_z139 rfl ?_); clear hS a; (try clear w); intro a w b2 hS
  refine L_nil (n_then (c_seq (c_region ?_)))
  refine L_e hS (e_move rfl) rfl ?_; clear hS a; intro a hS
  refine L_e hS (e_bin rfl rfl rfl) rfl ?_; clear hS a; intro a hS
  refine L_e hS (e_assign rfl) rfl ?_; clear hS a; intro a hS
  refine L_nil (n_then (c_seq (c_region ?_)))
  refine L_e hS (e_assign rfl) rfl ?_; clear hS a; intro a hS
  refine L_nil (n_then (c_seq (wp_block ?_)))
  skip
  refine c_loop (γ := (Int × List Int × Value)) (fun G a w => St 25 noB w0 a w [(0, .int .i64 G.1), (2, .pointer (some ⟨b2, 0, none⟩)), (3, .bool (decide (z < 0))), (4, G.2.2)] [ownA 3 1 G.2.2 G.2.1.length (G.2.1.flatMap encD), .blk b2 [.bool false, .slice none 0 0] 139] ∧ G.2.1 ++ dgs G.1.natAbs = dgs z.natAbs ∧ -9223372036854775808 ≤ G.1 ∧ G.1 ≤ 9223372036854775807) (fun G => G.1.natAbs) (z, [], .slice none 0 0) ⟨(hS.own_nil 3 1).slots ⟨rfl, rfl, rfl, rfl, trivial⟩, rfl, hz⟩ ?_
  clear hS a; (try clear w); intro G a w hI
  obtain ⟨n, l, sv⟩ := G
  obtain ⟨hS, hl, hn⟩ := hI
  simp only at hS hl hn
  refine c_seq (c_seq (c_region ?_))
  refine L_e hS (e_move rfl) rfl ?_; clear hS a; intro a hS
  refine L_e hS (e_bin rfl rfl rfl) rfl ?_; clear hS a; intro a hS
  refine L_nil (n_then ?_)
  first | refine c_ifD hS rfl (fun hc9 => ?_) (fun hc9 => ?_) | refine c_if hS rfl (fun hc9 => ?_) (fun hc9 => ?_)
  ·
    have hn0 : n.natAbs ≠ 0 := by omega
    have hll : l.length < 5 := by
      have := congrArg List.length hl
      rw [dgs_pos hn0, List.length_append, List.length_cons] at this
      omega
    have hq := quo_abs n
    have hr := rem_abs n
    refine wp_skip (n_then (wp_block (c_seq (c_region ?_))))
    refine L_e hS (e_move rfl) rfl ?_; clear hS a; intro a hS
    refine L_e hS (e_rem rfl rfl (by decide)) rfl ?_; clear hS a; intro a hS
    refine L_e hS (e_assign rfl) rfl ?_; clear hS a; intro a hS
    refine L_nil (n_then ?_)
    refine c_cut (fun a w => ∃ d : Int, St 25 noB w0 a w [(5, .int .i64 d), (0, .int .i64 n), (2, .pointer (some ⟨b2, 0, none⟩)), (3, .bool (decide (z < 0))), (4, sv)] [ownA 3 1 sv l.length (l.flatMap encD), .blk b2 [.bool false, .slice none 0 0] 139] ∧ d = (n.natAbs % 10000 : Nat)) ?_ ?_
    ·
      refine c_seq (c_region ?_)
      refine L_e hS (e_move rfl) rfl ?_; clear hS a; intro a hS
      refine L_e hS (e_bin rfl rfl rfl) rfl ?_; clear hS a; intro a hS
      refine L_nil (n_then ?_)
      first | refine c_ifD hS rfl (fun hc13 => ?_) (fun hc13 => ?_) | refine c_if hS rfl (fun hc13 => ?_) (fun hc13 => ?_)
      ·
        refine c_region ?_
        refine L_e hS (e_move rfl) rfl ?_; clear hS a; intro a hS
        refine L_e hS (e_neg rfl) rfl ?_; clear hS a; intro a hS
        rw [wrap_fit (by omega)] at hS
        refine L_e hS (e_assign rfl) rfl ?_; clear hS a; intro a hS
        refine L_nil ?_
        exact ⟨_, hS.slots (by exact ⟨rfl, rfl, rfl, rfl, rfl, trivial⟩), by omega⟩
      refine wp_skip ?_
      exact ⟨_, hS.slots (by exact ⟨rfl, rfl, rfl, rfl, rfl, trivial⟩), by omega⟩
    clear hS a; (try clear w); intro a w hS
    obtain ⟨d, hS, hd⟩ := hS
    have e1 : (l ++ [d]).flatMap encD = l.flatMap encD ++ [.int .i64 d] := by simp [encD]
    refine c_seq (c_region ?_)
    refine L_e hS (e_move rfl) rfl ?_; clear hS a; intro a hS
    refine L_e hS (e_move rfl) rfl ?_; clear hS a; intro a hS
    refine L_op (s_bslice hS ty_sl137 ty_sz3 ty_z3 rfl rfl rfl rfl (.one rfl rfl rfl .nil) rfl ?_); clear hS a; (try clear w); intro a w b18 hS
    refine L_op (s_append1 hS rfl rfl ty_sl137 ty_sz3 ty_by3 ty_z3 rfl rfl rfl (by repeat constructor) (by repeat constructor) (by rfl) (by rfl) (fun _ => (by repeat constructor)) (by omega) ?_); clear hS a; (try clear w); intro v19 a w hv19 hS
    refine L_e hS (e_assign rfl) rfl ?_; clear hS a; intro a hS
    refine L_nil (n_then (c_region ?_))
    refine L_e hS (e_move rfl) rfl ?_; clear hS a; intro a hS
    refine L_e hS (e_quo rfl rfl (by decide)) rfl ?_; clear hS a; intro a hS
    rw [wrap_fit (by omega)] at hS
    refine L_e hS (e_assign rfl) rfl ?_; clear hS a; intro a hS
    refine L_nil (n_block ?_)
    have hq1 : (n.tdiv 10000).natAbs < n.natAbs := by omega
    refine ⟨(n.tdiv 10000, l ++ [d], v19), hq1, ?_, ?_, ?_⟩
    · simp only [List.length_append, List.length_cons, List.length_nil, Nat.zero_add, e1]
      exact (hS.drop (by repeat (first | exact List.Sublist.refl _ | apply List.Sublist.cons_cons | apply List.Sublist.cons))).slots (by exact ⟨rfl, rfl, rfl, rfl, trivial⟩)
    · show l ++ [d] ++ dgs (n.tdiv 10000).natAbs = _
      rw [← hl, dgs_pos hn0, hq, hd]; simp
    · simp only; omega
  obtain rfl : n = 0 := by omega
  rw [show (0 : Int).natAbs = 0 from rfl, dgs_zero, List.append_nil] at hl
  obtain ⟨p4, c4, rfl, h4, h5, _, _⟩ := own_digs (hS.get (X := ownA 3 1 sv l.length (l.flatMap encD)) (by repeat (first | exact .head _ | refine .tail _ ?_)))
  refine wp_exit ?_
  refine x_then (x_then (x_hit ?_))
  refine n_then (c_seq (c_region ?_))
  refine L_e hS (e_move rfl) rfl ?_; clear hS a; intro a hS
  refine L_e hS (e_move rfl) rfl ?_; clear hS a; intro a hS
  obtain ⟨p5, c5, e5, _, _, h6, h7⟩ := own_digs (hS.get (X := ownA 3 1 (sliceV p4 l.length c4) l.length (l.flatMap encD)) (by repeat (first | exact .head _ | refine .tail _ ?_)))
  obtain ⟨rfl, rfl⟩ := sliceV_inj e5
  have hT := trim_P (decide (z < 0)) p4 c4 h4 l (by rw [hl]; exact inR_dgs _) h5 (by rw [hl]; omega) w h6 h7
  rw [sgn_of (by rw [hl, nv_dgs])] at hT
  clear e5
  refine L_op (s_callN hS (.cons rfl (.cons rfl .nil)) cf100 rfl (hT) ?_); clear hS a; (try clear w); intro x24 a w hS
  refine L_op (s_storeA hS rfl rfl ty_sz139 (by repeat constructor) (by rfl) (by rfl) (by rfl) ?_); clear hS; (try clear w); intro w hS
  refine L_nil (n_then (wp_ret ?_))
  refine c_ret1 hS Tryz.results62 (.cellA rfl (by repeat constructor) ty_st139 ty_sz139 (by rfl)) ?_
  exact ⟨x24, rfl, hS.chg, hS.new (X := bigA z x24.1.1) (by repeat (first | exact .head _ | refine .tail _ ?_)) rfl⟩
def twoA (p q : Option (Nat × Nat)) (xs ys : List Int) : Asn := .any (fun b => (∃ off, p = some (b, off)) ∨ ∃ off, q = some (b, off)) (fun w => RowP p 1 (xs.map encD) w ∧ RowP q 1 (ys.map encD) w) false
theorem two_ok {p q : Option (Nat × Nat)} {xs ys : List Int} {w : World} (h1 : RowP p 1 (xs.map encD) w) (h2 : RowP q 1 (ys.map encD) w) (b1 : ∀ r, p = some r → r.1 < w.heap.size) (b2 : ∀ r, q = some r → r.1 < w.heap.size) : (twoA p q xs ys).ok w := by
  refine ⟨fun b hb => ?_, fun w' hw => ⟨(ok_rowP h1 b1).hold w' (fun b hb => hw b (.inl hb)), (ok_rowP h2 b2).hold w' (fun b hb => hw b (.inr hb))⟩⟩
  rcases hb with ⟨off, e⟩ | ⟨off, e⟩
  · exact b1 _ e
  · exact b2 _ e
theorem two_l {b off : Nat} {q : Option (Nat × Nat)} {xs ys : List Int} {Γ : List Asn} (hm : twoA (some (b, off)) q xs ys ∈ Γ) {i : Nat} {d : Int} (hd : xs[i]? = some d) : ∀ w, Hd Γ w → w.cell? ⟨b, off + i * 1, none⟩ = some (.int .i64 d) := fun w hh => by
  have := (hh _ hm).1 i (encD d) (by simp [hd]) 0 (.int .i64 d) rfl
  simpa using this
theorem two_r {b off : Nat} {q : Option (Nat × Nat)} {xs ys : List Int} {Γ : List Asn} (hm : twoA q (some (b, off)) xs ys ∈ Γ) {i : Nat} {d : Int} (hd : ys[i]? = some d) : ∀ w, Hd Γ w → w.cell? ⟨b, off + i * 1, none⟩ = some (.int .i64 d) := fun w hh => by
  have := (hh _ hm).2 i (encD d) (by simp [hd]) 0 (.int .i64 d) rfl
  simpa using this
theorem two_pos {p : Option (Nat × Nat)} {xs : List Int} {w : World} (h : RowP p 1 (xs.map encD) w) (hx : xs ≠ []) : ∃ b off, p = some (b, off) := by
  cases p with
  | none => simp only [RowP, List.map_eq_nil_iff] at h; exact absurd h hx
  | some r => exact ⟨r.1, r.2, rfl⟩
theorem drop_at {l : List Int} {k : Nat} {d : Int} (h : l[k]? = some d) : l.drop k = d :: l.drop (k + 1) := by
  obtain ⟨h1, h2⟩ := List.getElem?_eq_some_iff.1 h
  rw [List.drop_eq_getElem_cons h1, h2]
theorem cmp_at {m n k : Nat} {d e : Int} (hd : (dgs m)[k]? = some d) (he : (dgs n)[k]? = some e) (ht : (dgs m).drop (k + 1) = (dgs n).drop (k + 1)) (hlt : d < e) : m < n := by
  have h1 := List.take_append_drop k (dgs m)
  have h2 := List.take_append_drop k (dgs n)
  rw [drop_at hd, ht] at h1
  rw [drop_at he] at h2
  have l1 := (List.getElem?_eq_some_iff.1 hd).1
  have l2 := (List.getElem?_eq_some_iff.1 he).1
  have := cmp_top (s := (dgs n).drop (k + 1)) (inR_take (inR_dgs m) k) (show ((dgs m).take k).length = ((dgs n).take k).length by rw [List.length_take, List.length_take]; omega) hlt (inR_take (inR_dgs n) k)
  rw [h1, h2, nv_dgs, nv_dgs] at this
  omega
set_option maxRecDepth 100000 in
theorem cmp_P (p q : Option (Nat × Nat)) (c1 c2 m n : Nat) (hm : (dgs m).length ≤ 1000000) (w0 : World) (h : (twoA p q (dgs m) (dgs n)).ok w0) :
    PureC Tryz.prog 102 [sliceV p (dgs m).length c1, sliceV q (dgs n).length c2] w0 (.int .i64 (cmpN m n)) := by
  have hp := h.now.1
  have hq := h.now.2
  refine c_enter [(0, sliceV p (dgs m).length c1), (1, sliceV q (dgs n).length c2)] [twoA p q (dgs m) (dgs n)] noB Tryz.func102 rfl Tryz.ntmps102 ⟨rfl, rfl, trivial⟩ rfl (by intro X hX; obtain rfl := List.mem_singleton.1 hX; exact h) (by simp) (by intro X hX hm; obtain rfl := List.mem_singleton.1 hX; cases hm) ?_
  intro a hS
  refine c_seq (c_region ?_)
  refine L_e hS (e_assign rfl) rfl ?_; clear hS a; intro a hS
  refine L_nil (n_then (c_seq (c_seq (c_region ?_))))
  refine L_e hS (e_move rfl) rfl ?_; clear hS a; intro a hS
  refine L_e hS (e_len rfl rfl ty_sl137) rfl ?_; clear hS a; intro a hS
  refine L_e hS (e_move rfl) rfl ?_; clear hS a; intro a hS
  refine L_e hS (e_len rfl rfl ty_sl137) rfl ?_; clear hS a; intro a hS
  refine L_e hS (e_bin rfl rfl rfl) rfl ?_; clear hS a; intro a hS
  refine L_nil (n_then ?_)
  first | refine c_ifD hS rfl (fun hc10 => ?_) (fun hc10 => ?_) | refine c_if hS rfl (fun hc10 => ?_) (fun hc10 => ?_)
  ·
    refine c_seq (c_seq (c_region ?_))
    refine L_e hS (e_move rfl) rfl ?_; clear hS a; intro a hS
    refine L_e hS (e_len rfl rfl ty_sl137) rfl ?_; clear hS a; intro a hS
    refine L_e hS (e_move rfl) rfl ?_; clear hS a; intro a hS
    refine L_e hS (e_len rfl rfl ty_sl137) rfl ?_; clear hS a; intro a hS
    refine L_e hS (e_bin rfl rfl rfl) rfl ?_; clear hS a; intro a hS
    refine L_nil (n_then ?_)
    first | refine c_ifD hS rfl (fun hc15 => ?_) (fun hc15 => ?_) | refine c_if hS rfl (fun hc15 => ?_) (fun hc15 => ?_)
    ·
      refine c_seq (c_region ?_)
      refine L_e hS (e_assign rfl) rfl ?_; clear hS a; intro a hS
      refine L_nil (n_then (wp_ret ?_))
      refine r_then (r_then ?_)
      refine c_ret1 hS Tryz.results102 (.tmp rfl) ?_
      exact ⟨by rw [cmpN, if_pos (dgs_lt (by omega))], hS.chg⟩
    refine wp_skip (n_then (c_seq (c_region ?_)))
    refine L_e hS (e_assign rfl) rfl ?_; clear hS a; intro a hS
    refine L_nil (n_then (wp_ret (r_then ?_)))
    refine c_ret1 hS Tryz.results102 (.tmp rfl) ?_
    have h1 := dgs_lt (m := n) (n := m) (by omega)
    exact ⟨by rw [cmpN, if_neg (by omega), if_pos h1], hS.chg⟩
  refine wp_skip (n_then (c_seq (c_seq (c_region ?_))))
  refine L_e hS (e_move rfl) rfl ?_; clear hS a; intro a hS
  refine L_e hS (e_len rfl rfl ty_sl137) rfl ?_; clear hS a; intro a hS
  (first | refine L_e hS (e_binN rfl rfl rfl (by omega)) rfl ?_ | refine L_e hS (e_bin rfl rfl rfl) rfl ?_); clear hS a; intro a hS
  refine L_e hS (e_assign rfl) rfl ?_; clear hS a; intro a hS
  refine L_nil (n_then (wp_block ?_))
  skip
  refine c_loop (γ := Nat) (fun k a w => St 41 noB w0 a w [(5, .int .i64 ((k : Int) - 1)), (4, .int .i64 0), (0, sliceV p (dgs m).length c1), (1, sliceV q (dgs n).length c2)] [twoA p q (dgs m) (dgs n)] ∧ k ≤ (dgs m).length ∧ (dgs m).drop k = (dgs n).drop k) (fun k => k) (dgs m).length ⟨hS.slots ⟨rfl, rfl, rfl, rfl, trivial⟩, Nat.le_refl _, by rw [List.drop_length, List.drop_eq_nil_of_le (by omega)]⟩ ?_
  clear hS a; (try clear w); intro k a w hI
  obtain ⟨hS, hk, ht⟩ := hI
  refine c_seq (c_seq (c_region ?_))
  refine L_e hS (e_move rfl) rfl ?_; clear hS a; intro a hS
  refine L_e hS (e_bin rfl rfl rfl) rfl ?_; clear hS a; intro a hS
  refine L_nil (n_then ?_)
  first | refine c_ifD hS rfl (fun hc20 => ?_) (fun hc20 => ?_) | refine c_if hS rfl (fun hc20 => ?_) (fun hc20 => ?_)
  ·
    have hk1 : 0 < k := by omega
    obtain ⟨d, hd⟩ : ∃ d, (dgs m)[k - 1]? = some d := ⟨(dgs m)[k - 1]'(by omega), List.getElem?_eq_getElem (by omega)⟩
    obtain ⟨e, he⟩ : ∃ e, (dgs n)[k - 1]? = some e := ⟨(dgs n)[k - 1]'(by omega), List.getElem?_eq_getElem (by omega)⟩
    obtain ⟨b1, o1, rfl⟩ := two_pos hp (fun e => by rw [e] at hd; cases hd)
    obtain ⟨b2, o2, rfl⟩ := two_pos hq (fun e => by rw [e] at he; cases he)
    have hkn : ((k : Int) - 1).toNat = k - 1 := by omega
    have ht' : (dgs m).drop (k - 1 + 1) = (dgs n).drop (k - 1 + 1) := by rw [show k - 1 + 1 = k by omega]; exact ht
    refine wp_skip (n_then (c_seq (wp_block (c_seq (c_seq ?_)))))
    refine c_draw1 [] (by kernel_rfl) hS ?_; clear hS; (try clear w); intro w hS
    simp only [List.length_cons, List.length_nil, Nat.zero_add, Nat.reduceAdd, List.replicate]
    refine Zt0 0 (tf 1 8) hS rfl want_none (e_move rfl) rfl (by kernel_rfl) rfl ?_; clear hS a; intro a hS
    refine Zt0 1 (tf 2 7) hS rfl want_none (e_move rfl) rfl (by kernel_rfl) rfl ?_; clear hS a; intro a hS
    refine Zt0 2 (tf 3 6) hS rfl want_none (e_ix rfl rfl ty_sl137 ty_sz3 (by omega)) rfl (by kernel_rfl) rfl ?_; clear hS a; intro a hS
    refine Zt 3 (tf 4 5) hS rfl want_none (e_loadC rfl ty_sc3 (fun w hh => by rw [hkn]; exact two_l (by repeat (first | exact .head _ | refine .tail _ ?_)) hd w hh)) rfl (by kernel_rfl) (by intro X hX; repeat (first | exact hX | apply List.Mem.tail)) rfl ?_; clear hS a; intro a hS
    refine Zt0 4 (tf 5 4) hS rfl want_none (e_move rfl) rfl (by kernel_rfl) rfl ?_; clear hS a; intro a hS
    refine Zt0 5 (tf 6 3) hS rfl want_none (e_move rfl) rfl (by kernel_rfl) rfl ?_; clear hS a; intro a hS
    refine Zt0 6 (tf 7 2) hS rfl want_none (e_ix rfl rfl ty_sl137 ty_sz3 (by omega)) rfl (by kernel_rfl) rfl ?_; clear hS a; intro a hS
    refine Zt 7 (tf 8 1) hS rfl want_none (e_loadC rfl ty_sc3 (fun w hh => by rw [hkn]; exact two_r (by repeat (first | exact .head _ | refine .tail _ ?_)) he w hh)) rfl (by kernel_rfl) (by intro X hX; repeat (first | exact hX | apply List.Mem.tail)) rfl ?_; clear hS a; intro a hS
    refine Zt0 8 (tf 9 0) hS rfl want_none (e_bin rfl rfl rfl) rfl (by kernel_rfl) rfl ?_; clear hS a; intro a hS
    refine Z_done (by kernel_rfl) ?_
    refine n_then ?_
    first | refine c_ifD hS rfl (fun hc31 => ?_) (fun hc31 => ?_) | refine c_if hS rfl (fun hc31 => ?_) (fun hc31 => ?_)
    ·
      refine c_seq (c_region ?_)
      refine L_e hS (e_assign rfl) rfl ?_; clear hS a; intro a hS
      refine L_nil (n_then (wp_ret ?_))
      refine r_then (r_block (r_then (r_then (r_block (r_then ?_)))))
      refine c_ret1 hS Tryz.results102 (.tmp rfl) ?_
      exact ⟨by rw [cmpN, if_pos (cmp_at hd he ht' (by omega))], hS.chg⟩
    refine wp_skip (n_then (c_seq ?_))
    refine c_draw1 [] (by kernel_rfl) hS ?_; clear hS; (try clear w); intro w hS
    simp only [List.length_cons, List.length_nil, Nat.zero_add, Nat.reduceAdd, List.replicate]
    refine Zt0 0 (tf 1 8) hS rfl want_none (e_move rfl) rfl (by kernel_rfl) rfl ?_; clear hS a; intro a hS
    refine Zt0 1 (tf 2 7) hS rfl want_none (e_move rfl) rfl (by kernel_rfl) rfl ?_; clear hS a; intro a hS
    refine Zt0 2 (tf 3 6) hS rfl want_none (e_ix rfl rfl ty_sl137 ty_sz3 (by omega)) rfl (by kernel_rfl) rfl ?_; clear hS a; intro a hS
    refine Zt 3 (tf 4 5) hS rfl want_none (e_loadC rfl ty_sc3 (fun w hh => by rw [hkn]; exact two_l (by repeat (first | exact .head _ | refine .tail _ ?_)) hd w hh)) rfl (by kernel_rfl) (by intro X hX; repeat (first | exact hX | apply List.Mem.tail)) rfl ?_; clear hS a; intro a hS
    refine Zt0 4 (tf 5 4) hS rfl want_none (e_move rfl) rfl (by kernel_rfl) rfl ?_; clear hS a; intro a hS
    refine Zt0 5 (tf 6 3) hS rfl want_none (e_move rfl) rfl (by kernel_rfl) rfl ?_; clear hS a; intro a hS
    refine Zt0 6 (tf 7 2) hS rfl want_none (e_ix rfl rfl ty_sl137 ty_sz3 (by omega)) rfl (by kernel_rfl) rfl ?_; clear hS a; intro a hS
    refine Zt 7 (tf 8 1) hS rfl want_none (e_loadC rfl ty_sc3 (fun w hh => by rw [hkn]; exact two_r (by repeat (first | exact .head _ | refine .tail _ ?_)) he w hh)) rfl (by kernel_rfl) (by intro X hX; repeat (first | exact hX | apply List.Mem.tail)) rfl ?_; clear hS a; intro a hS
    refine Zt0 8 (tf 9 0) hS rfl want_none (e_bin rfl rfl rfl) rfl (by kernel_rfl) rfl ?_; clear hS a; intro a hS
    refine Z_done (by kernel_rfl) ?_
    refine n_then ?_
    first | refine c_ifD hS rfl (fun hc40 => ?_) (fun hc40 => ?_) | refine c_if hS rfl (fun hc40 => ?_) (fun hc40 => ?_)
    ·
      refine c_seq (c_region ?_)
      refine L_e hS (e_assign rfl) rfl ?_; clear hS a; intro a hS
      refine L_nil (n_then (wp_ret ?_))
      refine r_block (r_then (r_then (r_block (r_then ?_))))
      refine c_ret1 hS Tryz.results102 (.tmp rfl) ?_
      have h1 := cmp_at he hd ht'.symm (by omega)
      exact ⟨by rw [cmpN, if_neg (by omega), if_pos h1], hS.chg⟩
    refine wp_skip (n_block (n_then (c_region ?_)))
    refine L_e hS (e_move rfl) rfl ?_; clear hS a; intro a hS
    (first | refine L_e hS (e_binN rfl rfl rfl (by omega)) rfl ?_ | refine L_e hS (e_bin rfl rfl rfl) rfl ?_); clear hS a; intro a hS
    refine L_e hS (e_assign rfl) rfl ?_; clear hS a; intro a hS
    refine L_nil ?_
    exact ⟨k - 1, by omega, hS.slots (by exact ⟨by show lk _ 5 = _; rw [show ((k - 1 : Nat) : Int) = (k : Int) - 1 by omega]; rfl, rfl, rfl, rfl, trivial⟩), by omega, by rw [drop_at hd, drop_at he, ht']; congr 1; omega⟩
  obtain rfl : k = 0 := by omega
  rw [List.drop_zero, List.drop_zero] at ht
  obtain rfl := dgs_inj ht
  refine wp_exit ?_
  refine x_then (x_then (x_hit ?_))
  refine n_then (c_seq (c_region ?_))
  refine L_e hS (e_assign rfl) rfl ?_; clear hS a; intro a hS
  refine L_nil (n_then (wp_ret ?_))
  refine c_ret1 hS Tryz.results102 (.tmp rfl) ?_
  exact ⟨by rw [cmpN, if_neg (by omega), if_neg (by omega)], hS.chg⟩
end Go.Proofs.YtheofhegdjjfgaaGreat

namespace Go.Proofs.YtheofhegdjjfgaaGreat
open Go.RowKit
def gd (xs : List Int) (i : Nat) : Int := (xs[i]?).getD 0
theorem gd_in {xs : List Int} (h : inR xs) (i : Nat) : 0 ≤ gd xs i ∧ gd xs i ≤ 9999 := by
  unfold gd
  cases hx : xs[i]? with
  | none => simp
  | some d => exact h d (List.mem_of_getElem? hx)
theorem nv_drop (xs : List Int) (i : Nat) : nv (xs.drop i) = gd xs i + 10000 * nv (xs.drop (i + 1)) := by
  unfold gd
  cases hx : xs[i]? with
  | none =>
    have := List.getElem?_eq_none_iff.1 hx
    rw [List.drop_eq_nil_of_le this, List.drop_eq_nil_of_le (by omega)]; simp [nv]
  | some d => rw [drop_at hx]; rfl
theorem add_step {S P o c A B a b A' B' x : Int} (h : S = o + P * (c + A + B)) (hA : A = a + 10000 * A') (hB : B = b + 10000 * B') (hx : x = c + a + b) : S = (o + P * (x % 10000)) + P * 10000 * (x / 10000 + A' + B') := by
  have e : c + A + B = x % 10000 + 10000 * (x / 10000 + A' + B') := by omega
  rw [h, e, Int.mul_add, Int.mul_assoc]; omega
abbrev Digs := List Int × Value
def digA (r : Digs) : Asn := ownA 3 1 r.2 r.1.length (r.1.flatMap encD)
set_option maxRecDepth 100000 in
theorem add_P (p q : Option (Nat × Nat)) (c1 c2 : Nat) (xs ys : List Int) (hx : inR xs) (hy : inR ys) (N : Nat) (hN : N ≤ 1000000) (hlx : xs.length ≤ N) (hly : ys.length ≤ N) (w0 : World) (h : (twoA p q xs ys).ok w0) :
    NewC Tryz.prog 101 [sliceV p xs.length c1, sliceV q ys.length c2] w0 (fun r : { r : Digs // inR r.1 ∧ nv r.1 = nv xs + nv ys ∧ r.1.length ≤ N + 1 } => r.1.2) (fun r => digA r.1) := by
  have hp := h.now.1
  have hq := h.now.2
  refine c_enter [(0, sliceV p xs.length c1), (1, sliceV q ys.length c2)] [twoA p q xs ys] noB Tryz.func101 rfl Tryz.ntmps101 ⟨rfl, rfl, trivial⟩ rfl (by intro X hX; obtain rfl := List.mem_singleton.1 hX; exact h) (by simp) (by intro X hX hm; obtain rfl := List.mem_singleton.1 hX; cases hm) ?_
  intro a hS
  refine c_seq (c_region ?_)
  refine L_e hS (e_assign rfl) rfl ?_; clear hS a; intro a hS
  refine L_nil (n_then (c_seq (c_region ?_)))
  refine L_e hS (e_assign rfl) rfl ?_; clear hS a; intro a hS
  refine L_nil (n_then (c_seq (c_region ?_)))
  refine L_e hS (e_assign rfl) rfl ?_; clear hS a; intro a hS
  refine L_nil (n_then (c_seq (c_seq (c_region ?_))))
  refine L_e hS (e_assign rfl) rfl ?_; clear hS a; intro a hS
  refine L_nil (n_then (wp_block ?_))
  skip
  refine c_loop (γ := (Int × List Int × Value)) (fun G a w => St 54 noB w0 a w [(0, sliceV p xs.length c1), (1, sliceV q ys.length c2), (5, G.2.2), (6, .int .i64 G.1), (7, .int .i64 (G.2.1.length : Int))] [ownA 3 1 G.2.2 G.2.1.length (G.2.1.flatMap encD), twoA p q xs ys] ∧ inR G.2.1 ∧ 0 ≤ G.1 ∧ G.1 ≤ 1 ∧ G.2.1.length ≤ N + 1 ∧ (G.2.1.length = N + 1 → G.1 = 0) ∧ nv xs + nv ys = nv G.2.1 + 10000 ^ G.2.1.length * (G.1 + nv (xs.drop G.2.1.length) + nv (ys.drop G.2.1.length))) (fun G => N + 2 - G.2.1.length) (0, [], .slice none 0 0) ⟨(hS.own_nil 3 1).slots ⟨rfl, rfl, rfl, rfl, rfl, trivial⟩, (by intro d hd; cases hd), by decide, by decide, Nat.zero_le _, fun _ => rfl, by simp [nv]⟩ ?_
  clear hS a; (try clear w); intro G a w hI
  obtain ⟨cy, l, sv⟩ := G
  obtain ⟨hS, hin, hc0, hc1, hll, hlN, hsum⟩ := hI
  simp only at hS hin hc0 hc1 hll hlN hsum
  have ga := gd_in hx l.length
  have gb := gd_in hy l.length
  have da := nv_drop xs l.length
  have db := nv_drop ys l.length
  refine c_seq (c_seq (c_region ?_))
  refine L_e hS (e_move rfl) rfl ?_; clear hS a; intro a hS
  refine L_e hS (e_move rfl) rfl ?_; clear hS a; intro a hS
  refine L_e hS (e_len rfl rfl ty_sl137) rfl ?_; clear hS a; intro a hS
  refine L_e hS (e_bin rfl rfl rfl) rfl ?_; clear hS a; intro a hS
  refine L_e hS (e_move rfl) rfl ?_; clear hS a; intro a hS
  (first | refine g_splitD (t := 13) hS rfl ?_ ?_ | refine g_split (t := 13) hS rfl ?_ ?_) <;> (clear hS; intro hg13 hS)
  ·
    refine L_skip_f hS rfl rfl rfl ?_; clear hS a; intro a hS
    refine L_skip_f hS rfl rfl rfl ?_; clear hS a; intro a hS
    refine L_skip_f hS rfl rfl rfl ?_; clear hS a; intro a hS
    refine L_skip_f hS rfl rfl rfl ?_; clear hS a; intro a hS
    refine L_e hS (e_pk rfl rfl) rfl ?_; clear hS a; intro a hS
    refine L_e hS (e_move rfl) rfl ?_; clear hS a; intro a hS
    refine L_skip_f hS rfl rfl rfl ?_; clear hS a; intro a hS
    refine L_skip_f hS rfl rfl rfl ?_; clear hS a; intro a hS
    refine L_e hS (e_pk rfl rfl) rfl ?_; clear hS a; intro a hS
    refine L_nil (n_then ?_)
    refine c_if_t hS rfl ?_
    refine wp_skip (n_then (c_seq (wp_block (c_seq (c_region ?_)))))
    refine L_e hS (e_move rfl) rfl ?_; clear hS a; intro a hS
    refine L_e hS (e_assign rfl) rfl ?_; clear hS a; intro a hS
    refine L_nil (n_then ?_)
    refine c_cut (fun a w => ∃ d1 : Int, St 54 noB w0 a w [(8, .int .i64 d1), (0, sliceV p xs.length c1), (1, sliceV q ys.length c2), (5, sv), (6, .int .i64 cy), (7, .int .i64 (l.length : Int))] [ownA 3 1 sv l.length (l.flatMap encD), twoA p q xs ys] ∧ d1 = cy + gd xs l.length) ?_ ?_
    ·
      refine c_seq (c_region ?_)
      refine L_e hS (e_move rfl) rfl ?_; clear hS a; intro a hS
      refine L_e hS (e_move rfl) rfl ?_; clear hS a; intro a hS
      refine L_e hS (e_len rfl rfl ty_sl137) rfl ?_; clear hS a; intro a hS
      refine L_e hS (e_bin rfl rfl rfl) rfl ?_; clear hS a; intro a hS
      refine L_nil (n_then ?_)
      first | refine c_ifD hS rfl (fun hc29 => ?_) (fun hc29 => ?_) | refine c_if hS rfl (fun hc29 => ?_) (fun hc29 => ?_)
      ·
        obtain ⟨d, hd⟩ : ∃ d, xs[l.length]? = some d := ⟨xs[l.length]'(by omega), List.getElem?_eq_getElem (by omega)⟩
        obtain ⟨b1, o1, rfl⟩ := two_pos hp (fun e => by rw [e] at hd; cases hd)
        have hgd : gd xs l.length = d := by unfold gd; rw [hd]; rfl
        refine c_region ?_
        refine L_e hS (e_move rfl) rfl ?_; clear hS a; intro a hS
        refine L_e hS (e_move rfl) rfl ?_; clear hS a; intro a hS
        refine L_e hS (e_move rfl) rfl ?_; clear hS a; intro a hS
        refine L_e hS (e_ixN rfl rfl ty_sl137 ty_sz3 (by omega)) rfl ?_; clear hS a; intro a hS
        refine L_e hS (e_loadC rfl ty_sc3 (two_l (by repeat (first | exact .head _ | refine .tail _ ?_)) hd)) rfl ?_; clear hS a; intro a hS
        (first | refine L_e hS (e_binN rfl rfl rfl (by omega)) rfl ?_ | refine L_e hS (e_bin rfl rfl rfl) rfl ?_); clear hS a; intro a hS
        refine L_e hS (e_assign rfl) rfl ?_; clear hS a; intro a hS
        refine L_nil ?_
        exact ⟨_, hS.slots (by exact ⟨rfl, rfl, rfl, rfl, rfl, rfl, trivial⟩), by omega⟩
      have hgd : gd xs l.length = 0 := by unfold gd; rw [List.getElem?_eq_none (by omega)]; rfl
      refine wp_skip ?_
      exact ⟨_, hS.slots (by exact ⟨rfl, rfl, rfl, rfl, rfl, rfl, trivial⟩), by omega⟩
    clear hS a; (try clear w); intro a w hS
    obtain ⟨d1, hS, hd1⟩ := hS
    refine c_cut (fun a w => ∃ d2 : Int, St 54 noB w0 a w [(8, .int .i64 d2), (0, sliceV p xs.length c1), (1, sliceV q ys.length c2), (5, sv), (6, .int .i64 cy), (7, .int .i64 (l.length : Int))] [ownA 3 1 sv l.length (l.flatMap encD), twoA p q xs ys] ∧ d2 = cy + gd xs l.length + gd ys l.length) ?_ ?_
    ·
      refine c_seq (c_region ?_)
      refine L_e hS (e_move rfl) rfl ?_; clear hS a; intro a hS
      refine L_e hS (e_move rfl) rfl ?_; clear hS a; intro a hS
      refine L_e hS (e_len rfl rfl ty_sl137) rfl ?_; clear hS a; intro a hS
      refine L_e hS (e_bin rfl rfl rfl) rfl ?_; clear hS a; intro a hS
      refine L_nil (n_then ?_)
      first | refine c_ifD hS rfl (fun hc39 => ?_) (fun hc39 => ?_) | refine c_if hS rfl (fun hc39 => ?_) (fun hc39 => ?_)
      ·
        obtain ⟨d, hd⟩ : ∃ d, ys[l.length]? = some d := ⟨ys[l.length]'(by omega), List.getElem?_eq_getElem (by omega)⟩
        obtain ⟨b2, o2, rfl⟩ := two_pos hq (fun e => by rw [e] at hd; cases hd)
        have hgd : gd ys l.length = d := by unfold gd; rw [hd]; rfl
        refine c_region ?_
        refine L_e hS (e_move rfl) rfl ?_; clear hS a; intro a hS
        refine L_e hS (e_move rfl) rfl ?_; clear hS a; intro a hS
        refine L_e hS (e_move rfl) rfl ?_; clear hS a; intro a hS
        refine L_e hS (e_ixN rfl rfl ty_sl137 ty_sz3 (by omega)) rfl ?_; clear hS a; intro a hS
        refine L_e hS (e_loadC rfl ty_sc3 (two_r (by repeat (first | exact .head _ | refine .tail _ ?_)) hd)) rfl ?_; clear hS a; intro a hS
        (first | refine L_e hS (e_binN rfl rfl rfl (by omega)) rfl ?_ | refine L_e hS (e_bin rfl rfl rfl) rfl ?_); clear hS a; intro a hS
        refine L_e hS (e_assign rfl) rfl ?_; clear hS a; intro a hS
        refine L_nil ?_
        exact ⟨_, hS.slots (by exact ⟨rfl, rfl, rfl, rfl, rfl, rfl, trivial⟩), by omega⟩
      have hgd : gd ys l.length = 0 := by unfold gd; rw [List.getElem?_eq_none (by omega)]; rfl
      refine wp_skip ?_
      exact ⟨_, hS.slots (by exact ⟨rfl, rfl, rfl, rfl, rfl, rfl, trivial⟩), by omega⟩
    clear hS a; (try clear w); intro a w hS
    obtain ⟨d2, hS, hd2⟩ := hS
    have e1 : (l ++ [d2 % 10000]).flatMap encD = l.flatMap encD ++ [.int .i64 (d2 % 10000)] := by simp [encD]
    have hs2 := add_step hsum da db hd2
    refine c_seq (c_region ?_)
    refine L_e hS (e_move rfl) rfl ?_; clear hS a; intro a hS
    refine L_e hS (e_move rfl) rfl ?_; clear hS a; intro a hS
    (first | refine L_e hS (e_remN rfl rfl (by omega)) rfl ?_ | refine L_e hS (e_rem rfl rfl (by omega)) rfl ?_); clear hS a; intro a hS
    refine L_op (s_bslice hS ty_sl137 ty_sz3 ty_z3 rfl rfl rfl rfl (.one rfl rfl rfl .nil) rfl ?_); clear hS a; (try clear w); intro a w b49 hS
    refine L_op (s_append1 hS rfl rfl ty_sl137 ty_sz3 ty_by3 ty_z3 rfl rfl rfl (by repeat constructor) (by repeat constructor) (by rfl) (by rfl) (fun _ => (by repeat constructor)) (by omega) ?_); clear hS a; (try clear w); intro v50 a w hv50 hS
    refine L_e hS (e_assign rfl) rfl ?_; clear hS a; intro a hS
    refine L_nil (n_then (c_region ?_))
    refine L_e hS (e_move rfl) rfl ?_; clear hS a; intro a hS
    (first | refine L_e hS (e_quoN rfl rfl (by omega)) rfl ?_ | refine L_e hS (e_quo rfl rfl (by omega)) rfl ?_); clear hS a; intro a hS
    refine L_e hS (e_assign rfl) rfl ?_; clear hS a; intro a hS
    refine L_nil (n_block (n_then (c_region ?_)))
    refine L_e hS (e_move rfl) rfl ?_; clear hS a; intro a hS
    (first | refine L_e hS (e_binN rfl rfl rfl (by omega)) rfl ?_ | refine L_e hS (e_bin rfl rfl rfl) rfl ?_); clear hS a; intro a hS
    refine L_e hS (e_assign rfl) rfl ?_; clear hS a; intro a hS
    refine L_nil ?_
    have hlN2 : l.length ≤ N := by
      rcases Nat.lt_or_ge l.length (N + 1) with h1 | h1
      · omega
      · have := hlN (by omega)
        omega
    refine ⟨(d2 / 10000, l ++ [d2 % 10000], v50), by simp only [List.length_append, List.length_cons, List.length_nil]; omega, ?_, inR_snoc hin (by omega), by simp only; omega, by simp only; omega, by simp only [List.length_append, List.length_cons, List.length_nil]; omega, ?_, ?_⟩
    · simp only [List.length_append, List.length_cons, List.length_nil, Nat.zero_add, e1]
      exact (hS.drop (by repeat (first | exact List.Sublist.refl _ | apply List.Sublist.cons_cons | apply List.Sublist.cons))).slots (by exact ⟨rfl, rfl, rfl, rfl, rfl, trivial⟩)
    · simp only [List.length_append, List.length_cons, List.length_nil, Nat.zero_add]
      intro h1
      have za : gd xs l.length = 0 := by unfold gd; rw [List.getElem?_eq_none (by omega)]; rfl
      have zb : gd ys l.length = 0 := by unfold gd; rw [List.getElem?_eq_none (by omega)]; rfl
      omega
    · simp only [List.length_append, List.length_cons, List.length_nil, Nat.zero_add]
      rw [nv_snoc, hs2, Int.pow_succ]
  refine L_ge hS rfl rfl (e_move rfl) rfl ?_; clear hS a; intro a hS
  refine L_ge hS rfl rfl (e_move rfl) rfl ?_; clear hS a; intro a hS
  refine L_ge hS rfl rfl (e_len rfl rfl ty_sl137) rfl ?_; clear hS a; intro a hS
  refine L_ge hS rfl rfl (e_bin rfl rfl rfl) rfl ?_; clear hS a; intro a hS
  refine L_e hS (e_pk rfl rfl) rfl ?_; clear hS a; intro a hS
  refine L_e hS (e_move rfl) rfl ?_; clear hS a; intro a hS
  (first | refine g_splitD (t := 19) hS rfl ?_ ?_ | refine g_split (t := 19) hS rfl ?_ ?_) <;> (clear hS; intro hg19 hS)
  ·
    refine L_skip_f hS rfl rfl rfl ?_; clear hS a; intro a hS
    refine L_skip_f hS rfl rfl rfl ?_; clear hS a; intro a hS
    refine L_e hS (e_pk rfl rfl) rfl ?_; clear hS a; intro a hS
    refine L_nil (n_then ?_)
    refine c_if_t hS rfl ?_
    refine wp_skip (n_then (c_seq (wp_block (c_seq (c_region ?_)))))
    refine L_e hS (e_move rfl) rfl ?_; clear hS a; intro a hS
    refine L_e hS (e_assign rfl) rfl ?_; clear hS a; intro a hS
    refine L_nil (n_then ?_)
    refine c_cut (fun a w => ∃ d1 : Int, St 54 noB w0 a w [(8, .int .i64 d1), (0, sliceV p xs.length c1), (1, sliceV q ys.length c2), (5, sv), (6, .int .i64 cy), (7, .int .i64 (l.length : Int))] [ownA 3 1 sv l.length (l.flatMap encD), twoA p q xs ys] ∧ d1 = cy + gd xs l.length) ?_ ?_
    ·
      refine c_seq (c_region ?_)
      refine L_e hS (e_move rfl) rfl ?_; clear hS a; intro a hS
      refine L_e hS (e_move rfl) rfl ?_; clear hS a; intro a hS
      refine L_e hS (e_len rfl rfl ty_sl137) rfl ?_; clear hS a; intro a hS
      refine L_e hS (e_bin rfl rfl rfl) rfl ?_; clear hS a; intro a hS
      refine L_nil (n_then ?_)
      first | refine c_ifD hS rfl (fun hc29 => ?_) (fun hc29 => ?_) | refine c_if hS rfl (fun hc29 => ?_) (fun hc29 => ?_)
      ·
        obtain ⟨d, hd⟩ : ∃ d, xs[l.length]? = some d := ⟨xs[l.length]'(by omega), List.getElem?_eq_getElem (by omega)⟩
        obtain ⟨b1, o1, rfl⟩ := two_pos hp (fun e => by rw [e] at hd; cases hd)
        have hgd : gd xs l.length = d := by unfold gd; rw [hd]; rfl
        refine c_region ?_
        refine L_e hS (e_move rfl) rfl ?_; clear hS a; intro a hS
        refine L_e hS (e_move rfl) rfl ?_; clear hS a; intro a hS
        refine L_e hS (e_move rfl) rfl ?_; clear hS a; intro a hS
        refine L_e hS (e_ixN rfl rfl ty_sl137 ty_sz3 (by omega)) rfl ?_; clear hS a; intro a hS
        refine L_e hS (e_loadC rfl ty_sc3 (two_l (by repeat (first | exact .head _ | refine .tail _ ?_)) hd)) rfl ?_; clear hS a; intro a hS
        (first | refine L_e hS (e_binN rfl rfl rfl (by omega)) rfl ?_ | refine L_e hS (e_bin rfl rfl rfl) rfl ?_); clear hS a; intro a hS
        refine L_e hS (e_assign rfl) rfl ?_; clear hS a; intro a hS
        refine L_nil ?_
        exact ⟨_, hS.slots (by exact ⟨rfl, rfl, rfl, rfl, rfl, rfl, trivial⟩), by omega⟩
      have hgd : gd xs l.length = 0 := by unfold gd; rw [List.getElem?_eq_none (by omega)]; rfl
      refine wp_skip ?_
      exact ⟨_, hS.slots (by exact ⟨rfl, rfl, rfl, rfl, rfl, rfl, trivial⟩), by omega⟩
    clear hS a; (try clear w); intro a w hS
    obtain ⟨d1, hS, hd1⟩ := hS
    refine c_cut (fun a w => ∃ d2 : Int, St 54 noB w0 a w [(8, .int .i64 d2), (0, sliceV p xs.length c1), (1, sliceV q ys.length c2), (5, sv), (6, .int .i64 cy), (7, .int .i64 (l.length : Int))] [ownA 3 1 sv l.length (l.flatMap encD), twoA p q xs ys] ∧ d2 = cy + gd xs l.length + gd ys l.length) ?_ ?_
    ·
      refine c_seq (c_region ?_)
      refine L_e hS (e_move rfl) rfl ?_; clear hS a; intro a hS
      refine L_e hS (e_move rfl) rfl ?_; clear hS a; intro a hS
      refine L_e hS (e_len rfl rfl ty_sl137) rfl ?_; clear hS a; intro a hS
      refine L_e hS (e_bin rfl rfl rfl) rfl ?_; clear hS a; intro a hS
      refine L_nil (n_then ?_)
      first | refine c_ifD hS rfl (fun hc39 => ?_) (fun hc39 => ?_) | refine c_if hS rfl (fun hc39 => ?_) (fun hc39 => ?_)
      ·
        obtain ⟨d, hd⟩ : ∃ d, ys[l.length]? = some d := ⟨ys[l.length]'(by omega), List.getElem?_eq_getElem (by omega)⟩
        obtain ⟨b2, o2, rfl⟩ := two_pos hq (fun e => by rw [e] at hd; cases hd)
        have hgd : gd ys l.length = d := by unfold gd; rw [hd]; rfl
        refine c_region ?_
        refine L_e hS (e_move rfl) rfl ?_; clear hS a; intro a hS
        refine L_e hS (e_move rfl) rfl ?_; clear hS a; intro a hS
        refine L_e hS (e_move rfl) rfl ?_; clear hS a; intro a hS
        refine L_e hS (e_ixN rfl rfl ty_sl137 ty_sz3 (by omega)) rfl ?_; clear hS a; intro a hS
        refine L_e hS (e_loadC rfl ty_sc3 (two_r (by repeat (first | exact .head _ | refine .tail _ ?_)) hd)) rfl ?_; clear hS a; intro a hS
        (first | refine L_e hS (e_binN rfl rfl rfl (by omega)) rfl ?_ | refine L_e hS (e_bin rfl rfl rfl) rfl ?_); clear hS a; intro a hS
        refine L_e hS (e_assign rfl) rfl ?_; clear hS a; intro a hS
        refine L_nil ?_
        exact ⟨_, hS.slots (by exact ⟨rfl, rfl, rfl, rfl, rfl, rfl, trivial⟩), by omega⟩
      have hgd : gd ys l.length = 0 := by unfold gd; rw [List.getElem?_eq_none (by omega)]; rfl
      refine wp_skip ?_
      exact ⟨_, hS.slots (by exact ⟨rfl, rfl, rfl, rfl, rfl, rfl, trivial⟩), by omega⟩
    clear hS a; (try clear w); intro a w hS
    obtain ⟨d2, hS, hd2⟩ := hS
    have e1 : (l ++ [d2 % 10000]).flatMap encD = l.flatMap encD ++ [.int .i64 (d2 % 10000)] := by simp [encD]
    have hs2 := add_step hsum da db hd2
    refine c_seq (c_region ?_)
    refine L_e hS (e_move rfl) rfl ?_; clear hS a; intro a hS
    refine L_e hS (e_move rfl) rfl ?_; clear hS a; intro a hS
    (first | refine L_e hS (e_remN rfl rfl (by omega)) rfl ?_ | refine L_e hS (e_rem rfl rfl (by omega)) rfl ?_); clear hS a; intro a hS
    refine L_op (s_bslice hS ty_sl137 ty_sz3 ty_z3 rfl rfl rfl rfl (.one rfl rfl rfl .nil) rfl ?_); clear hS a; (try clear w); intro a w b49 hS
    refine L_op (s_append1 hS rfl rfl ty_sl137 ty_sz3 ty_by3 ty_z3 rfl rfl rfl (by repeat constructor) (by repeat constructor) (by rfl) (by rfl) (fun _ => (by repeat constructor)) (by omega) ?_); clear hS a; (try clear w); intro v50 a w hv50 hS
    refine L_e hS (e_assign rfl) rfl ?_; clear hS a; intro a hS
    refine L_nil (n_then (c_region ?_))
    refine L_e hS (e_move rfl) rfl ?_; clear hS a; intro a hS
    (first | refine L_e hS (e_quoN rfl rfl (by omega)) rfl ?_ | refine L_e hS (e_quo rfl rfl (by omega)) rfl ?_); clear hS a; intro a hS
    refine L_e hS (e_assign rfl) rfl ?_; clear hS a; intro a hS
    refine L_nil (n_block (n_then (c_region ?_)))
    refine L_e hS (e_move rfl) rfl ?_; clear hS a; intro a hS
    (first | refine L_e hS (e_binN rfl rfl rfl (by omega)) rfl ?_ | refine L_e hS (e_bin rfl rfl rfl) rfl ?_); clear hS a; intro a hS
    refine L_e hS (e_assign rfl) rfl ?_; clear hS a; intro a hS
    refine L_nil ?_
    have hlN2 : l.length ≤ N := by
      rcases Nat.lt_or_ge l.length (N + 1) with h1 | h1
      · omega
      · have := hlN (by omega)
        omega
    refine ⟨(d2 / 10000, l ++ [d2 % 10000], v50), by simp only [List.length_append, List.length_cons, List.length_nil]; omega, ?_, inR_snoc hin (by omega), by simp only; omega, by simp only; omega, by simp only [List.length_append, List.length_cons, List.length_nil]; omega, ?_, ?_⟩
    · simp only [List.length_append, List.length_cons, List.length_nil, Nat.zero_add, e1]
      exact (hS.drop (by repeat (first | exact List.Sublist.refl _ | apply List.Sublist.cons_cons | apply List.Sublist.cons))).slots (by exact ⟨rfl, rfl, rfl, rfl, rfl, trivial⟩)
    · simp only [List.length_append, List.length_cons, List.length_nil, Nat.zero_add]
      intro h1
      have za : gd xs l.length = 0 := by unfold gd; rw [List.getElem?_eq_none (by omega)]; rfl
      have zb : gd ys l.length = 0 := by unfold gd; rw [List.getElem?_eq_none (by omega)]; rfl
      omega
    · simp only [List.length_append, List.length_cons, List.length_nil, Nat.zero_add]
      rw [nv_snoc, hs2, Int.pow_succ]
  refine L_ge hS rfl rfl (e_move rfl) rfl ?_; clear hS a; intro a hS
  refine L_ge hS rfl rfl (e_bin rfl rfl rfl) rfl ?_; clear hS a; intro a hS
  refine L_e hS (e_pk rfl rfl) rfl ?_; clear hS a; intro a hS
  refine L_nil (n_then ?_)
  first | refine c_ifD hS rfl (fun hc22 => ?_) (fun hc22 => ?_) | refine c_if hS rfl (fun hc22 => ?_) (fun hc22 => ?_)
  ·
    refine wp_skip (n_then (c_seq (wp_block (c_seq (c_region ?_)))))
    refine L_e hS (e_move rfl) rfl ?_; clear hS a; intro a hS
    refine L_e hS (e_assign rfl) rfl ?_; clear hS a; intro a hS
    refine L_nil (n_then ?_)
    refine c_cut (fun a w => ∃ d1 : Int, St 54 noB w0 a w [(8, .int .i64 d1), (0, sliceV p xs.length c1), (1, sliceV q ys.length c2), (5, sv), (6, .int .i64 cy), (7, .int .i64 (l.length : Int))] [ownA 3 1 sv l.length (l.flatMap encD), twoA p q xs ys] ∧ d1 = cy + gd xs l.length) ?_ ?_
    ·
      refine c_seq (c_region ?_)
      refine L_e hS (e_move rfl) rfl ?_; clear hS a; intro a hS
      refine L_e hS (e_move rfl) rfl ?_; clear hS a; intro a hS
      refine L_e hS (e_len rfl rfl ty_sl137) rfl ?_; clear hS a; intro a hS
      refine L_e hS (e_bin rfl rfl rfl) rfl ?_; clear hS a; intro a hS
      refine L_nil (n_then ?_)
      first | refine c_ifD hS rfl (fun hc29 => ?_) (fun hc29 => ?_) | refine c_if hS rfl (fun hc29 => ?_) (fun hc29 => ?_)
      ·
        obtain ⟨d, hd⟩ : ∃ d, xs[l.length]? = some d := ⟨xs[l.length]'(by omega), List.getElem?_eq_getElem (by omega)⟩
        obtain ⟨b1, o1, rfl⟩ := two_pos hp (fun e => by rw [e] at hd; cases hd)
        have hgd : gd xs l.length = d := by unfold gd; rw [hd]; rfl
        refine c_region ?_
        refine L_e hS (e_move rfl) rfl ?_; clear hS a; intro a hS
        refine L_e hS (e_move rfl) rfl ?_; clear hS a; intro a hS
        refine L_e hS (e_move rfl) rfl ?_; clear hS a; intro a hS
        refine L_e hS (e_ixN rfl rfl ty_sl137 ty_sz3 (by omega)) rfl ?_; clear hS a; intro a hS
        refine L_e hS (e_loadC rfl ty_sc3 (two_l (by repeat (first | exact .head _ | refine .tail _ ?_)) hd)) rfl ?_; clear hS a; intro a hS
        (first | refine L_e hS (e_binN rfl rfl rfl (by omega)) rfl ?_ | refine L_e hS (e_bin rfl rfl rfl) rfl ?_); clear hS a; intro a hS
        refine L_e hS (e_assign rfl) rfl ?_; clear hS a; intro a hS
        refine L_nil ?_
        exact ⟨_, hS.slots (by exact ⟨rfl, rfl, rfl, rfl, rfl, rfl, trivial⟩), by omega⟩
      have hgd : gd xs l.length = 0 := by unfold gd; rw [List.getElem?_eq_none (by omega)]; rfl
      refine wp_skip ?_
      exact ⟨_, hS.slots (by exact ⟨rfl, rfl, rfl, rfl, rfl, rfl, trivial⟩), by omega⟩
    clear hS a; (try clear w); intro a w hS
    obtain ⟨d1, hS, hd1⟩ := hS
    refine c_cut (fun a w => ∃ d2 : Int, St 54 noB w0 a w [(8, .int .i64 d2), (0, sliceV p xs.length c1), (1, sliceV q ys.length c2), (5, sv), (6, .int .i64 cy), (7, .int .i64 (l.length : Int))] [ownA 3 1 sv l.length (l.flatMap encD), twoA p q xs ys] ∧ d2 = cy + gd xs l.length + gd ys l.length) ?_ ?_
    ·
      refine c_seq (c_region ?_)
      refine L_e hS (e_move rfl) rfl ?_; clear hS a; intro a hS
      refine L_e hS (e_move rfl) rfl ?_; clear hS a; intro a hS
      refine L_e hS (e_len rfl rfl ty_sl137) rfl ?_; clear hS a; intro a hS
      refine L_e hS (e_bin rfl rfl rfl) rfl ?_; clear hS a; intro a hS
      refine L_nil (n_then ?_)
      first | refine c_ifD hS rfl (fun hc39 => ?_) (fun hc39 => ?_) | refine c_if hS rfl (fun hc39 => ?_) (fun hc39 => ?_)
      ·
        obtain ⟨d, hd⟩ : ∃ d, ys[l.length]? = some d := ⟨ys[l.length]'(by omega), List.getElem?_eq_getElem (by omega)⟩
        obtain ⟨b2, o2, rfl⟩ := two_pos hq (fun e => by rw [e] at hd; cases hd)
        have hgd : gd ys l.length = d := by unfold gd; rw [hd]; rfl
        refine c_region ?_
        refine L_e hS (e_move rfl) rfl ?_; clear hS a; intro a hS
        refine L_e hS (e_move rfl) rfl ?_; clear hS a; intro a hS
        refine L_e hS (e_move rfl) rfl ?_; clear hS a; intro a hS
        refine L_e hS (e_ixN rfl rfl ty_sl137 ty_sz3 (by omega)) rfl ?_; clear hS a; intro a hS
        refine L_e hS (e_loadC rfl ty_sc3 (two_r (by repeat (first | exact .head _ | refine .tail _ ?_)) hd)) rfl ?_; clear hS a; intro a hS
        (first | refine L_e hS (e_binN rfl rfl rfl (by omega)) rfl ?_ | refine L_e hS (e_bin rfl rfl rfl) rfl ?_); clear hS a; intro a hS
        refine L_e hS (e_assign rfl) rfl ?_; clear hS a; intro a hS
        refine L_nil ?_
        exact ⟨_, hS.slots (by exact ⟨rfl, rfl, rfl, rfl, rfl, rfl, trivial⟩), by omega⟩
      have hgd : gd ys l.length = 0 := by unfold gd; rw [List.getElem?_eq_none (by omega)]; rfl
      refine wp_skip ?_
      exact ⟨_, hS.slots (by exact ⟨rfl, rfl, rfl, rfl, rfl, rfl, trivial⟩), by omega⟩
    clear hS a; (try clear w); intro a w hS
    obtain ⟨d2, hS, hd2⟩ := hS
    have e1 : (l ++ [d2 % 10000]).flatMap encD = l.flatMap encD ++ [.int .i64 (d2 % 10000)] := by simp [encD]
    have hs2 := add_step hsum da db hd2
    refine c_seq (c_region ?_)
    refine L_e hS (e_move rfl) rfl ?_; clear hS a; intro a hS
    refine L_e hS (e_move rfl) rfl ?_; clear hS a; intro a hS
    (first | refine L_e hS (e_remN rfl rfl (by omega)) rfl ?_ | refine L_e hS (e_rem rfl rfl (by omega)) rfl ?_); clear hS a; intro a hS
    refine L_op (s_bslice hS ty_sl137 ty_sz3 ty_z3 rfl rfl rfl rfl (.one rfl rfl rfl .nil) rfl ?_); clear hS a; (try clear w); intro a w b49 hS
    refine L_op (s_append1 hS rfl rfl ty_sl137 ty_sz3 ty_by3 ty_z3 rfl rfl rfl (by repeat constructor) (by repeat constructor) (by rfl) (by rfl) (fun _ => (by repeat constructor)) (by omega) ?_); clear hS a; (try clear w); intro v50 a w hv50 hS
    refine L_e hS (e_assign rfl) rfl ?_; clear hS a; intro a hS
    refine L_nil (n_then (c_region ?_))
    refine L_e hS (e_move rfl) rfl ?_; clear hS a; intro a hS
    (first | refine L_e hS (e_quoN rfl rfl (by omega)) rfl ?_ | refine L_e hS (e_quo rfl rfl (by omega)) rfl ?_); clear hS a; intro a hS
    refine L_e hS (e_assign rfl) rfl ?_; clear hS a; intro a hS
    refine L_nil (n_block (n_then (c_region ?_)))
    refine L_e hS (e_move rfl) rfl ?_; clear hS a; intro a hS
    (first | refine L_e hS (e_binN rfl rfl rfl (by omega)) rfl ?_ | refine L_e hS (e_bin rfl rfl rfl) rfl ?_); clear hS a; intro a hS
    refine L_e hS (e_assign rfl) rfl ?_; clear hS a; intro a hS
    refine L_nil ?_
    have hlN2 : l.length ≤ N := by
      rcases Nat.lt_or_ge l.length (N + 1) with h1 | h1
      · omega
      · have := hlN (by omega)
        omega
    refine ⟨(d2 / 10000, l ++ [d2 % 10000], v50), by simp only [List.length_append, List.length_cons, List.length_nil]; omega, ?_, inR_snoc hin (by omega), by simp only; omega, by simp only; omega, by simp only [List.length_append, List.length_cons, List.length_nil]; omega, ?_, ?_⟩
    · simp only [List.length_append, List.length_cons, List.length_nil, Nat.zero_add, e1]
      exact (hS.drop (by repeat (first | exact List.Sublist.refl _ | apply List.Sublist.cons_cons | apply List.Sublist.cons))).slots (by exact ⟨rfl, rfl, rfl, rfl, rfl, trivial⟩)
    · simp only [List.length_append, List.length_cons, List.length_nil, Nat.zero_add]
      intro h1
      have za : gd xs l.length = 0 := by unfold gd; rw [List.getElem?_eq_none (by omega)]; rfl
      have zb : gd ys l.length = 0 := by unfold gd; rw [List.getElem?_eq_none (by omega)]; rfl
      omega
    · simp only [List.length_append, List.length_cons, List.length_nil, Nat.zero_add]
      rw [nv_snoc, hs2, Int.pow_succ]
  refine wp_exit ?_
  refine x_then (x_then (x_hit ?_))
  refine n_then (c_seq (c_region ?_))
  refine L_e hS (e_move rfl) rfl ?_; clear hS a; intro a hS
  refine L_e hS (e_assign rfl) rfl ?_; clear hS a; intro a hS
  refine L_nil (n_then (wp_ret ?_))
  refine c_ret1 hS Tryz.results101 (.tmp rfl) ?_
  refine ⟨⟨(l, sv), hin, ?_, hll⟩, rfl, hS.chg, hS.new (X := ownA 3 1 sv l.length (l.flatMap encD)) (by repeat (first | exact .head _ | refine .tail _ ?_)) rfl⟩
  rw [hsum, List.drop_eq_nil_of_le (by omega), List.drop_eq_nil_of_le (by omega), show cy = 0 by omega]
  simp [nv]
theorem sub_step {S P o c A B a b A' B' x c' : Int} (h : S = o + P * (A - B - c)) (hA : A = a + 10000 * A') (hB : B = b + 10000 * B') (hx : x = a - c - b + 10000 * c') : S = (o + P * x) + P * 10000 * (A' - B' - c') := by
  have e : A - B - c = x + 10000 * (A' - B' - c') := by omega
  rw [h, e, Int.mul_add, Int.mul_assoc]; omega
set_option maxRecDepth 100000 in
theorem sub_P (p q : Option (Nat × Nat)) (c1 c2 : Nat) (xs ys : List Int) (hx : inR xs) (hy : inR ys) (hN : xs.length ≤ 1000000) (hly : ys.length ≤ xs.length) (hle : nv ys ≤ nv xs) (w0 : World) (h : (twoA p q xs ys).ok w0) :
    NewC Tryz.prog 103 [sliceV p xs.length c1, sliceV q ys.length c2] w0 (fun r : { r : Digs // inR r.1 ∧ nv r.1 = nv xs - nv ys ∧ r.1.length ≤ xs.length } => r.1.2) (fun r => digA r.1) := by
  have hp := h.now.1
  have hq := h.now.2
  refine c_enter [(0, sliceV p xs.length c1), (1, sliceV q ys.length c2)] [twoA p q xs ys] noB Tryz.func103 rfl Tryz.ntmps103 ⟨rfl, rfl, trivial⟩ rfl (by intro X hX; obtain rfl := List.mem_singleton.1 hX; exact h) (by simp) (by intro X hX hm; obtain rfl := List.mem_singleton.1 hX; cases hm) ?_
  intro a hS
  refine c_seq (c_region ?_)
  refine L_e hS (e_assign rfl) rfl ?_; clear hS a; intro a hS
  refine L_nil (n_then (c_seq (c_region ?_)))
  refine L_e hS (e_assign rfl) rfl ?_; clear hS a; intro a hS
  refine L_nil (n_then (c_seq (c_region ?_)))
  refine L_e hS (e_assign rfl) rfl ?_; clear hS a; intro a hS
  refine L_nil (n_then (c_seq (c_seq (c_region ?_))))
  refine L_e hS (e_assign rfl) rfl ?_; clear hS a; intro a hS
  refine L_nil (n_then (wp_block ?_))
  skip
  refine c_loop (γ := (Int × List Int × Value)) (fun G a w => St 40 noB w0 a w [(0, sliceV p xs.length c1), (1, sliceV q ys.length c2), (5, G.2.2), (6, .int .i64 G.1), (7, .int .i64 (G.2.1.length : Int))] [ownA 3 1 G.2.2 G.2.1.length (G.2.1.flatMap encD), twoA p q xs ys] ∧ inR G.2.1 ∧ 0 ≤ G.1 ∧ G.1 ≤ 1 ∧ G.2.1.length ≤ xs.length ∧ nv xs - nv ys = nv G.2.1 + 10000 ^ G.2.1.length * (nv (xs.drop G.2.1.length) - nv (ys.drop G.2.1.length) - G.1)) (fun G => xs.length - G.2.1.length) (0, [], .slice none 0 0) ⟨(hS.own_nil 3 1).slots ⟨rfl, rfl, rfl, rfl, rfl, trivial⟩, (by intro d hd; cases hd), by decide, by decide, Nat.zero_le _, by simp [nv]⟩ ?_
  clear hS a; (try clear w); intro G a w hI
  obtain ⟨cy, l, sv⟩ := G
  obtain ⟨hS, hin, hc0, hc1, hll, hsum⟩ := hI
  simp only at hS hin hc0 hc1 hll hsum
  have ga := gd_in hx l.length
  have gb := gd_in hy l.length
  have da := nv_drop xs l.length
  have db := nv_drop ys l.length
  refine c_seq (c_seq (c_region ?_))
  refine L_e hS (e_move rfl) rfl ?_; clear hS a; intro a hS
  refine L_e hS (e_move rfl) rfl ?_; clear hS a; intro a hS
  refine L_e hS (e_len rfl rfl ty_sl137) rfl ?_; clear hS a; intro a hS
  refine L_e hS (e_bin rfl rfl rfl) rfl ?_; clear hS a; intro a hS
  refine L_nil (n_then ?_)
  first | refine c_ifD hS rfl (fun hc12 => ?_) (fun hc12 => ?_) | refine c_if hS rfl (fun hc12 => ?_) (fun hc12 => ?_)
  ·
    obtain ⟨d, hd⟩ : ∃ d, xs[l.length]? = some d := ⟨xs[l.length]'(by omega), List.getElem?_eq_getElem (by omega)⟩
    obtain ⟨b1, o1, rfl⟩ := two_pos hp (fun e => by rw [e] at hd; cases hd)
    have hga : gd xs l.length = d := by unfold gd; rw [hd]; rfl
    refine wp_skip (n_then (c_seq (wp_block (c_seq (c_region ?_)))))
    refine L_e hS (e_move rfl) rfl ?_; clear hS a; intro a hS
    refine L_e hS (e_move rfl) rfl ?_; clear hS a; intro a hS
    refine L_e hS (e_ixN rfl rfl ty_sl137 ty_sz3 (by omega)) rfl ?_; clear hS a; intro a hS
    refine L_e hS (e_loadC rfl ty_sc3 (two_l (by repeat (first | exact .head _ | refine .tail _ ?_)) hd)) rfl ?_; clear hS a; intro a hS
    refine L_e hS (e_move rfl) rfl ?_; clear hS a; intro a hS
    (first | refine L_e hS (e_binN rfl rfl rfl (by omega)) rfl ?_ | refine L_e hS (e_bin rfl rfl rfl) rfl ?_); clear hS a; intro a hS
    refine L_e hS (e_assign rfl) rfl ?_; clear hS a; intro a hS
    refine L_nil (n_then ?_)
    refine c_cut (fun a w => ∃ d1 : Int, St 40 noB w0 a w [(8, .int .i64 d1), (0, sliceV (some (b1, o1)) xs.length c1), (1, sliceV q ys.length c2), (5, sv), (6, .int .i64 cy), (7, .int .i64 (l.length : Int))] [ownA 3 1 sv l.length (l.flatMap encD), twoA (some (b1, o1)) q xs ys] ∧ d1 = gd xs l.length - cy - gd ys l.length) ?_ ?_
    ·
      refine c_seq (c_region ?_)
      refine L_e hS (e_move rfl) rfl ?_; clear hS a; intro a hS
      refine L_e hS (e_move rfl) rfl ?_; clear hS a; intro a hS
      refine L_e hS (e_len rfl rfl ty_sl137) rfl ?_; clear hS a; intro a hS
      refine L_e hS (e_bin rfl rfl rfl) rfl ?_; clear hS a; intro a hS
      refine L_nil (n_then ?_)
      first | refine c_ifD hS rfl (fun hc24 => ?_) (fun hc24 => ?_) | refine c_if hS rfl (fun hc24 => ?_) (fun hc24 => ?_)
      ·
        obtain ⟨e, he⟩ : ∃ d, ys[l.length]? = some d := ⟨ys[l.length]'(by omega), List.getElem?_eq_getElem (by omega)⟩
        obtain ⟨b2, o2, rfl⟩ := two_pos hq (fun e => by rw [e] at he; cases he)
        have hgd : gd ys l.length = e := by unfold gd; rw [he]; rfl
        refine c_region ?_
        refine L_e hS (e_move rfl) rfl ?_; clear hS a; intro a hS
        refine L_e hS (e_move rfl) rfl ?_; clear hS a; intro a hS
        refine L_e hS (e_move rfl) rfl ?_; clear hS a; intro a hS
        refine L_e hS (e_ixN rfl rfl ty_sl137 ty_sz3 (by omega)) rfl ?_; clear hS a; intro a hS
        refine L_e hS (e_loadC rfl ty_sc3 (two_r (by repeat (first | exact .head _ | refine .tail _ ?_)) he)) rfl ?_; clear hS a; intro a hS
        (first | refine L_e hS (e_binN rfl rfl rfl (by omega)) rfl ?_ | refine L_e hS (e_bin rfl rfl rfl) rfl ?_); clear hS a; intro a hS
        refine L_e hS (e_assign rfl) rfl ?_; clear hS a; intro a hS
        refine L_nil ?_
        exact ⟨_, hS.slots (by exact ⟨rfl, rfl, rfl, rfl, rfl, rfl, trivial⟩), by omega⟩
      have hgd : gd ys l.length = 0 := by unfold gd; rw [List.getElem?_eq_none (by omega)]; rfl
      refine wp_skip ?_
      exact ⟨_, hS.slots (by exact ⟨rfl, rfl, rfl, rfl, rfl, rfl, trivial⟩), by omega⟩
    clear hS a; (try clear w); intro a w hS
    obtain ⟨d1, hS, hd1⟩ := hS
    refine c_seq (c_region ?_)
    refine L_e hS (e_assign rfl) rfl ?_; clear hS a; intro a hS
    refine L_nil (n_then ?_)
    refine c_cut (fun a w => ∃ d2 c' : Int, St 40 noB w0 a w [(8, .int .i64 d2), (0, sliceV (some (b1, o1)) xs.length c1), (1, sliceV q ys.length c2), (5, sv), (6, .int .i64 c'), (7, .int .i64 (l.length : Int))] [ownA 3 1 sv l.length (l.flatMap encD), twoA (some (b1, o1)) q xs ys] ∧ (0 ≤ d2 ∧ d2 ≤ 9999) ∧ (0 ≤ c' ∧ c' ≤ 1) ∧ d2 = gd xs l.length - cy - gd ys l.length + 10000 * c') ?_ ?_
    ·
      refine c_seq (c_region ?_)
      refine L_e hS (e_move rfl) rfl ?_; clear hS a; intro a hS
      refine L_e hS (e_bin rfl rfl rfl) rfl ?_; clear hS a; intro a hS
      refine L_nil (n_then ?_)
      first | refine c_ifD hS rfl (fun hc32 => ?_) (fun hc32 => ?_) | refine c_if hS rfl (fun hc32 => ?_) (fun hc32 => ?_)
      ·
        refine c_seq (c_region ?_)
        refine L_e hS (e_move rfl) rfl ?_; clear hS a; intro a hS
        (first | refine L_e hS (e_binN rfl rfl rfl (by omega)) rfl ?_ | refine L_e hS (e_bin rfl rfl rfl) rfl ?_); clear hS a; intro a hS
        refine L_e hS (e_assign rfl) rfl ?_; clear hS a; intro a hS
        refine L_nil (n_then (c_region ?_))
        refine L_e hS (e_assign rfl) rfl ?_; clear hS a; intro a hS
        refine L_nil ?_
        exact ⟨_, _, hS.slots (by exact ⟨rfl, rfl, rfl, rfl, rfl, rfl, trivial⟩), by omega, by decide, by omega⟩
      refine wp_skip ?_
      exact ⟨_, _, hS.slots (by exact ⟨rfl, rfl, rfl, rfl, rfl, rfl, trivial⟩), by omega, by decide, by omega⟩
    clear hS a; (try clear w); intro a w hS
    obtain ⟨d2, c', hS, hb2, hbc, hd2⟩ := hS
    have e1 : (l ++ [d2]).flatMap encD = l.flatMap encD ++ [.int .i64 d2] := by simp [encD]
    have hs2 := sub_step hsum da db hd2
    refine c_region ?_
    refine L_e hS (e_move rfl) rfl ?_; clear hS a; intro a hS
    refine L_e hS (e_move rfl) rfl ?_; clear hS a; intro a hS
    refine L_op (s_bslice hS ty_sl137 ty_sz3 ty_z3 rfl rfl rfl rfl (.one rfl rfl rfl .nil) rfl ?_); clear hS a; (try clear w); intro a w b37 hS
    refine L_op (s_append1 hS rfl rfl ty_sl137 ty_sz3 ty_by3 ty_z3 rfl rfl rfl (by repeat constructor) (by repeat constructor) (by rfl) (by rfl) (fun _ => (by repeat constructor)) (by omega) ?_); clear hS a; (try clear w); intro v38 a w hv38 hS
    refine L_e hS (e_assign rfl) rfl ?_; clear hS a; intro a hS
    refine L_nil (n_block (n_then (c_region ?_)))
    refine L_e hS (e_move rfl) rfl ?_; clear hS a; intro a hS
    (first | refine L_e hS (e_binN rfl rfl rfl (by omega)) rfl ?_ | refine L_e hS (e_bin rfl rfl rfl) rfl ?_); clear hS a; intro a hS
    refine L_e hS (e_assign rfl) rfl ?_; clear hS a; intro a hS
    refine L_nil ?_
    refine ⟨(c', l ++ [d2], v38), by simp only [List.length_append, List.length_cons, List.length_nil]; omega, ?_, inR_snoc hin hb2, hbc.1, hbc.2, by simp only [List.length_append, List.length_cons, List.length_nil]; omega, ?_⟩
    · simp only [List.length_append, List.length_cons, List.length_nil, Nat.zero_add, e1]
      exact (hS.drop (by repeat (first | exact List.Sublist.refl _ | apply List.Sublist.cons_cons | apply List.Sublist.cons))).slots (by exact ⟨rfl, rfl, rfl, rfl, rfl, trivial⟩)
    · simp only [List.length_append, List.length_cons, List.length_nil, Nat.zero_add]
      rw [nv_snoc, hs2, Int.pow_succ]
  refine wp_exit ?_
  refine x_then (x_then (x_hit ?_))
  refine n_then (c_seq (c_region ?_))
  refine L_e hS (e_move rfl) rfl ?_; clear hS a; intro a hS
  refine L_e hS (e_assign rfl) rfl ?_; clear hS a; intro a hS
  refine L_nil (n_then (wp_ret ?_))
  refine c_ret1 hS Tryz.results103 (.tmp rfl) ?_
  refine ⟨⟨(l, sv), hin, ?_, hll⟩, rfl, hS.chg, hS.new (X := ownA 3 1 sv l.length (l.flatMap encD)) (by repeat (first | exact .head _ | refine .tail _ ?_)) rfl⟩
  rw [List.drop_eq_nil_of_le (show xs.length ≤ l.length by omega), List.drop_eq_nil_of_le (show ys.length ≤ l.length by omega)] at hsum
  have h1 := nv_lt hin
  simp only [nv, Int.sub_self, Int.zero_sub] at hsum
  have h2 : cy = 0 := by
    rcases (show cy = 0 ∨ cy = 1 by omega) with h2 | rfl
    · exact h2
    · rw [Int.mul_neg, Int.mul_one] at hsum; omega
  subst h2
  simp only [Int.neg_zero, Int.mul_zero, Int.add_zero] at hsum
  exact hsum.symm
end Go.Proofs.YtheofhegdjjfgaaGreat

namespace Go.Proofs.YtheofhegdjjfgaaGreat
open Go.RowKit
theorem two_swap {p q : Option (Nat × Nat)} {xs ys : List Int} {w : World} (h : (twoA p q xs ys).ok w) : (twoA q p ys xs).ok w :=
  two_ok h.now.2 h.now.1 (fun r e => h.lt r.1 (.inr ⟨r.2, e⟩)) (fun r e => h.lt r.1 (.inl ⟨r.2, e⟩))
set_option maxHeartbeats 1000000 in
set_option maxRecDepth 100000 in
theorem BigAdd_P (p q : Option (Nat × Nat)) (c1 c2 : Nat) (x y : Int) (N : Nat) (hN : N ≤ 100000) (hx : (dgs x.natAbs).length ≤ N) (hy : (dgs y.natAbs).length ≤ N) (w0 : World) (h : (twoA p q (dgs x.natAbs) (dgs y.natAbs)).ok w0) :
    NewC Tryz.prog 63 [bigV x p c1, bigV y q c2] w0 (fun r : At (x + y) => bigV (x + y) (some (r.1.1, 0)) r.1.2) (fun r => bigA (x + y) r.1.1) := by
  refine c_enter [(0, bigV x p c1), (1, bigV y q c2)] [twoA p q (dgs x.natAbs) (dgs y.natAbs)] noB Tryz.func63 rfl Tryz.ntmps63 ⟨rfl, rfl, trivial⟩ rfl (by intro X hX; obtain rfl := List.mem_singleton.1 hX; exact h) (by simp) (by intro X hX hm; obtain rfl := List.mem_singleton.1 hX; cases hm) ?_
  intro a hS
  refine c_seq (c_region ?_)
  refine L_op (s_boxA hS rfl rfl ?_); clear hS a; (try clear w); intro a w b2 hS
  refine L_op (s_boxA hS rfl rfl ?_); clear hS a; (try clear w); intro a w b3 hS
  refine L_op (s_alloc hS ty_z139 rfl ?_); clear hS a; (try clear w); intro a w b4 hS
  refine L_nil (n_then (c_seq (c_seq (c_region ?_))))
  (first | refine L_e hS (e_fa0 rfl ty_fo139_0) rfl ?_ | refine L_e hS (e_faK rfl ty_fo139_0) rfl ?_); clear hS a; intro a hS
  refine L_e hS (e_load rfl (by repeat constructor) ty_sc4 (by rfl)) rfl ?_; clear hS a; intro a hS
  (first | refine L_e hS (e_fa0 rfl ty_fo139_0) rfl ?_ | refine L_e hS (e_faK rfl ty_fo139_0) rfl ?_); clear hS a; intro a hS
  refine L_e hS (e_load rfl (by repeat constructor) ty_sc4 (by rfl)) rfl ?_; clear hS a; intro a hS
  refine L_e hS (e_binB rfl rfl ty_u4 rfl) rfl ?_; clear hS a; intro a hS
  refine L_nil (n_then ?_)
  first | refine c_ifD hS rfl (fun hc9 => ?_) (fun hc9 => ?_) | refine c_if hS rfl (fun hc9 => ?_) (fun hc9 => ?_)
  ·
    have hsame : x < 0 ↔ y < 0 := by simpa using hc9
    refine c_seq ?_
    refine c_drawS [8] (by kernel_rfl) hS (sub_cons (X := .blk b2 _ _) (by repeat constructor) (sub_cons (X := .blk b3 _ _) (by repeat constructor) sub_nil)) ?_; clear hS; (try clear w); intro w hS
    simp only [List.length_cons, List.length_nil, Nat.zero_add, Nat.reduceAdd, List.replicate]
    (first | refine Zt0 0 (tf 1 8) hS rfl want_none (e_fa0 rfl ty_fo139_0) rfl (by kernel_rfl) rfl ?_ | refine Zt0 0 (tf 1 8) hS rfl want_none (e_faK rfl ty_fo139_0) rfl (by kernel_rfl) rfl ?_); clear hS a; intro a hS
    refine Zt 1 (tf 2 7) hS rfl want_none (e_load rfl (by repeat constructor) ty_sc4 (by rfl)) rfl (by kernel_rfl) (sub_cons (by repeat constructor) (sub_cons (by repeat constructor) sub_nil)) rfl ?_; clear hS a; intro a hS
    (first | refine Zt0 2 (tf 3 6) hS rfl want_none (e_fa0 rfl ty_fo139_1) rfl (by kernel_rfl) rfl ?_ | refine Zt0 2 (tf 3 6) hS rfl want_none (e_faK rfl ty_fo139_1) rfl (by kernel_rfl) rfl ?_); clear hS a; intro a hS
    refine Zt 3 (tf 4 5) hS rfl want_none (e_load rfl (by repeat constructor) ty_sc137 (by rfl)) rfl (by kernel_rfl) (sub_cons (by repeat constructor) (sub_cons (by repeat constructor) sub_nil)) rfl ?_; clear hS a; intro a hS
    (first | refine Zt0 4 (tf 5 4) hS rfl want_none (e_fa0 rfl ty_fo139_1) rfl (by kernel_rfl) rfl ?_ | refine Zt0 4 (tf 5 4) hS rfl want_none (e_faK rfl ty_fo139_1) rfl (by kernel_rfl) rfl ?_); clear hS a; intro a hS
    refine Zt 5 (tf 6 3) hS rfl want_none (e_load rfl (by repeat constructor) ty_sc137 (by rfl)) rfl (by kernel_rfl) (sub_cons (by repeat constructor) (sub_cons (by repeat constructor) sub_nil)) rfl ?_; clear hS a; intro a hS
    refine Z_one (i := 6) rfl (want_none a hS.sl) (listed' := (tf 7 2)) rfl (by kernel_rfl) (s_callN hS (.cons rfl (.cons rfl .nil)) cf101 rfl (add_P p q c1 c2 (dgs x.natAbs) (dgs y.natAbs) (inR_dgs _) (inR_dgs _) N (by omega) hx hy _ (hS.ok _ (by repeat (first | exact .head _ | refine .tail _ ?_)))) ?_); clear hS a; (try clear w); intro x16 a w hS
    obtain ⟨⟨l, sv⟩, hin, hnv, hll⟩ := x16
    simp only at hin hnv hll
    obtain ⟨p5, c5, e5, h4, h5, h6, h7⟩ := own_digs (hS.get (X := digA (l, sv)) (by repeat (first | exact .head _ | refine .tail _ ?_)))
    have e5 : sv = sliceV p5 l.length c5 := e5
    subst e5
    have hT := trim_P (decide (x < 0)) p5 c5 h4 l hin h5 (by omega) w h6 h7
    rw [show sgn (decide (x < 0)) (nv l) = x + y by rw [nv_dgs, nv_dgs] at hnv; unfold sgn; by_cases hneg : x < 0 <;> simp [hneg] <;> omega] at hT
    refine Z_and hS (sub_cons (by repeat constructor) (sub_cons (by repeat constructor) sub_nil)) ?_
    refine Z_one (i := 7) rfl (want_none a hS.sl) (listed' := (tf 8 1)) rfl (by kernel_rfl) (s_callN hS (.cons rfl (.cons rfl .nil)) cf100 rfl (hT) ?_); clear hS a; (try clear w); intro x17 a w hS
    refine Z_and hS (sub_cons (by repeat constructor) (sub_cons (by repeat constructor) sub_nil)) ?_
    refine Z_one (i := 8) rfl (want_none a hS.sl) (listed' := (tf 9 0)) rfl (by kernel_rfl) (s_storeA hS rfl rfl ty_sz139 (by repeat constructor) (by rfl) (by rfl) (by rfl) ?_); clear hS; (try clear w); intro w hS
    refine Z_last (by simp) ?_
    refine Z_done (by kernel_rfl) ?_
    refine n_then (wp_ret (r_then ?_))
    refine c_ret1 hS Tryz.results63 (.cellA rfl (by repeat constructor) ty_st139 ty_sz139 (by rfl)) ?_
    exact ⟨x17, rfl, hS.chg, hS.new (X := bigA (x + y) x17.1.1) (by repeat (first | exact .head _ | refine .tail _ ?_)) rfl⟩
  have hdiff : ¬ (x < 0 ↔ y < 0) := by simpa using hc9
  refine wp_skip (n_then (c_seq (c_seq (c_region ?_))))
  (first | refine L_e hS (e_fa0 rfl ty_fo139_1) rfl ?_ | refine L_e hS (e_faK rfl ty_fo139_1) rfl ?_); clear hS a; intro a hS
  refine L_e hS (e_load rfl (by repeat constructor) ty_sc137 (by rfl)) rfl ?_; clear hS a; intro a hS
  (first | refine L_e hS (e_fa0 rfl ty_fo139_1) rfl ?_ | refine L_e hS (e_faK rfl ty_fo139_1) rfl ?_); clear hS a; intro a hS
  refine L_e hS (e_load rfl (by repeat constructor) ty_sc137 (by rfl)) rfl ?_; clear hS a; intro a hS
  refine L_op (s_callP hS (.cons rfl (.cons rfl .nil)) cf102 rfl (cmp_P p q c1 c2 x.natAbs y.natAbs (by omega) _ (hS.ok _ (by repeat (first | exact .head _ | refine .tail _ ?_)))) ?_); clear hS a; (try clear w); intro a w hS
  refine L_e hS (e_bin rfl rfl rfl) rfl ?_; clear hS a; intro a hS
  refine L_nil (n_then ?_)
  first | refine c_ifD hS rfl (fun hc23 => ?_) (fun hc23 => ?_) | refine c_if hS rfl (fun hc23 => ?_) (fun hc23 => ?_)
  ·
    have hge : y.natAbs ≤ x.natAbs := by
      unfold cmpN at hc23
      split at hc23
      · omega
      · omega
    have hlm := dgs_len_mono hge
    refine c_seq ?_
    refine c_drawS [8] (by kernel_rfl) hS (sub_cons (X := .blk b2 _ _) (by repeat constructor) (sub_cons (X := .blk b3 _ _) (by repeat constructor) sub_nil)) ?_; clear hS; (try clear w); intro w hS
    simp only [List.length_cons, List.length_nil, Nat.zero_add, Nat.reduceAdd, List.replicate]
    (first | refine Zt0 0 (tf 1 8) hS rfl want_none (e_fa0 rfl ty_fo139_0) rfl (by kernel_rfl) rfl ?_ | refine Zt0 0 (tf 1 8) hS rfl want_none (e_faK rfl ty_fo139_0) rfl (by kernel_rfl) rfl ?_); clear hS a; intro a hS
    refine Zt 1 (tf 2 7) hS rfl want_none (e_load rfl (by repeat constructor) ty_sc4 (by rfl)) rfl (by kernel_rfl) (sub_cons (by repeat constructor) (sub_cons (by repeat constructor) sub_nil)) rfl ?_; clear hS a; intro a hS
    (first | refine Zt0 2 (tf 3 6) hS rfl want_none (e_fa0 rfl ty_fo139_1) rfl (by kernel_rfl) rfl ?_ | refine Zt0 2 (tf 3 6) hS rfl want_none (e_faK rfl ty_fo139_1) rfl (by kernel_rfl) rfl ?_); clear hS a; intro a hS
    refine Zt 3 (tf 4 5) hS rfl want_none (e_load rfl (by repeat constructor) ty_sc137 (by rfl)) rfl (by kernel_rfl) (sub_cons (by repeat constructor) (sub_cons (by repeat constructor) sub_nil)) rfl ?_; clear hS a; intro a hS
    (first | refine Zt0 4 (tf 5 4) hS rfl want_none (e_fa0 rfl ty_fo139_1) rfl (by kernel_rfl) rfl ?_ | refine Zt0 4 (tf 5 4) hS rfl want_none (e_faK rfl ty_fo139_1) rfl (by kernel_rfl) rfl ?_); clear hS a; intro a hS
    refine Zt 5 (tf 6 3) hS rfl want_none (e_load rfl (by repeat constructor) ty_sc137 (by rfl)) rfl (by kernel_rfl) (sub_cons (by repeat constructor) (sub_cons (by repeat constructor) sub_nil)) rfl ?_; clear hS a; intro a hS
    refine Z_one (i := 6) rfl (want_none a hS.sl) (listed' := (tf 7 2)) rfl (by kernel_rfl) (s_callN hS (.cons rfl (.cons rfl .nil)) cf103 rfl (sub_P p q c1 c2 (dgs x.natAbs) (dgs y.natAbs) (inR_dgs _) (inR_dgs _) (by omega) hlm (by rw [nv_dgs, nv_dgs]; omega) _ (hS.ok _ (by repeat (first | exact .head _ | refine .tail _ ?_)))) ?_); clear hS a; (try clear w); intro x30 a w hS
    obtain ⟨⟨l, sv⟩, hin, hnv, hll⟩ := x30
    simp only at hin hnv hll
    obtain ⟨p5, c5, e5, h4, h5, h6, h7⟩ := own_digs (hS.get (X := digA (l, sv)) (by repeat (first | exact .head _ | refine .tail _ ?_)))
    have e5 : sv = sliceV p5 l.length c5 := e5
    subst e5
    have hT := trim_P (decide (x < 0)) p5 c5 h4 l hin h5 (by omega) w h6 h7
    rw [show sgn (decide (x < 0)) (nv l) = x + y by rw [nv_dgs, nv_dgs] at hnv; unfold sgn; by_cases hneg : x < 0 <;> simp [hneg] <;> omega] at hT
    refine Z_and hS (sub_cons (by repeat constructor) (sub_cons (by repeat constructor) sub_nil)) ?_
    refine Z_one (i := 7) rfl (want_none a hS.sl) (listed' := (tf 8 1)) rfl (by kernel_rfl) (s_callN hS (.cons rfl (.cons rfl .nil)) cf100 rfl (hT) ?_); clear hS a; (try clear w); intro x31 a w hS
    refine Z_and hS (sub_cons (by repeat constructor) (sub_cons (by repeat constructor) sub_nil)) ?_
    refine Z_one (i := 8) rfl (want_none a hS.sl) (listed' := (tf 9 0)) rfl (by kernel_rfl) (s_storeA hS rfl rfl ty_sz139 (by repeat constructor) (by rfl) (by rfl) (by rfl) ?_); clear hS; (try clear w); intro w hS
    refine Z_last (by simp) ?_
    refine Z_done (by kernel_rfl) ?_
    refine n_then (wp_ret (r_then ?_))
    refine c_ret1 hS Tryz.results63 (.cellA rfl (by repeat constructor) ty_st139 ty_sz139 (by rfl)) ?_
    exact ⟨x31, rfl, hS.chg, hS.new (X := bigA (x + y) x31.1.1) (by repeat (first | exact .head _ | refine .tail _ ?_)) rfl⟩
  have hge : x.natAbs ≤ y.natAbs := by
    unfold cmpN at hc23
    split at hc23
    · omega
    · split at hc23 <;> omega
  have hlm := dgs_len_mono hge
  refine wp_skip (n_then (c_seq ?_))
  refine c_drawS [8] (by kernel_rfl) hS (sub_cons (X := .blk b2 _ _) (by repeat constructor) (sub_cons (X := .blk b3 _ _) (by repeat constructor) sub_nil)) ?_; clear hS; (try clear w); intro w hS
  simp only [List.length_cons, List.length_nil, Nat.zero_add, Nat.reduceAdd, List.replicate]
  (first | refine Zt0 0 (tf 1 8) hS rfl want_none (e_fa0 rfl ty_fo139_0) rfl (by kernel_rfl) rfl ?_ | refine Zt0 0 (tf 1 8) hS rfl want_none (e_faK rfl ty_fo139_0) rfl (by kernel_rfl) rfl ?_); clear hS a; intro a hS
  refine Zt 1 (tf 2 7) hS rfl want_none (e_load rfl (by repeat constructor) ty_sc4 (by rfl)) rfl (by kernel_rfl) (sub_cons (by repeat constructor) (sub_cons (by repeat constructor) sub_nil)) rfl ?_; clear hS a; intro a hS
  (first | refine Zt0 2 (tf 3 6) hS rfl want_none (e_fa0 rfl ty_fo139_1) rfl (by kernel_rfl) rfl ?_ | refine Zt0 2 (tf 3 6) hS rfl want_none (e_faK rfl ty_fo139_1) rfl (by kernel_rfl) rfl ?_); clear hS a; intro a hS
  refine Zt 3 (tf 4 5) hS rfl want_none (e_load rfl (by repeat constructor) ty_sc137 (by rfl)) rfl (by kernel_rfl) (sub_cons (by repeat constructor) (sub_cons (by repeat constructor) sub_nil)) rfl ?_; clear hS a; intro a hS
  (first | refine Zt0 4 (tf 5 4) hS rfl want_none (e_fa0 rfl ty_fo139_1) rfl (by kernel_rfl) rfl ?_ | refine Zt0 4 (tf 5 4) hS rfl want_none (e_faK rfl ty_fo139_1) rfl (by kernel_rfl) rfl ?_); clear hS a; intro a hS
  refine Zt 5 (tf 6 3) hS rfl want_none (e_load rfl (by repeat constructor) ty_sc137 (by rfl)) rfl (by kernel_rfl) (sub_cons (by repeat constructor) (sub_cons (by repeat constructor) sub_nil)) rfl ?_; clear hS a; intro a hS
  refine Z_one (i := 6) rfl (want_none a hS.sl) (listed' := (tf 7 2)) rfl (by kernel_rfl) (s_callN hS (.cons rfl (.cons rfl .nil)) cf103 rfl (sub_P q p c2 c1 (dgs y.natAbs) (dgs x.natAbs) (inR_dgs _) (inR_dgs _) (by omega) hlm (by rw [nv_dgs, nv_dgs]; omega) _ (two_swap (hS.ok (twoA p q _ _) (by repeat (first | exact .head _ | refine .tail _ ?_))))) ?_); clear hS a; (try clear w); intro x38 a w hS
  obtain ⟨⟨l, sv⟩, hin, hnv, hll⟩ := x38
  simp only at hin hnv hll
  obtain ⟨p5, c5, e5, h4, h5, h6, h7⟩ := own_digs (hS.get (X := digA (l, sv)) (by repeat (first | exact .head _ | refine .tail _ ?_)))
  have e5 : sv = sliceV p5 l.length c5 := e5
  subst e5
  have hT := trim_P (decide (y < 0)) p5 c5 h4 l hin h5 (by omega) w h6 h7
  rw [show sgn (decide (y < 0)) (nv l) = x + y by rw [nv_dgs, nv_dgs] at hnv; unfold sgn; by_cases hneg : y < 0 <;> simp [hneg] <;> omega] at hT
  refine Z_and hS (sub_cons (by repeat constructor) (sub_cons (by repeat constructor) sub_nil)) ?_
  refine Z_one (i := 7) rfl (want_none a hS.sl) (listed' := (tf 8 1)) rfl (by kernel_rfl) (s_callN hS (.cons rfl (.cons rfl .nil)) cf100 rfl (hT) ?_); clear hS a; (try clear w); intro x39 a w hS
  refine Z_and hS (sub_cons (by repeat constructor) (sub_cons (by repeat constructor) sub_nil)) ?_
  refine Z_one (i := 8) rfl (want_none a hS.sl) (listed' := (tf 9 0)) rfl (by kernel_rfl) (s_storeA hS rfl rfl ty_sz139 (by repeat constructor) (by rfl) (by rfl) (by rfl) ?_); clear hS; (try clear w); intro w hS
  refine Z_last (by simp) ?_
  refine Z_done (by kernel_rfl) ?_
  refine n_then (wp_ret ?_)
  refine c_ret1 hS Tryz.results63 (.cellA rfl (by repeat constructor) ty_st139 ty_sz139 (by rfl)) ?_
  exact ⟨x39, rfl, hS.chg, hS.new (X := bigA (x + y) x39.1.1) (by repeat (first | exact .head _ | refine .tail _ ?_)) rfl⟩
def oneA (p : Option (Nat × Nat)) (xs : List Int) : Asn := rowP p 1 (xs.map encD)
section
variable {n : Nat} {F0 : Nat → Prop} {w0 w : World} {a : Act} {L : List (Nat × Value)} {Γ : List Asn}
end
theorem len20 {z : Int} (h : z.natAbs < 100000000000000000000000000000000000000000000000000000000000000000000000000000000) : (dgs z.natAbs).length ≤ 20 := dgs_length_le (Nat.lt_of_lt_of_le h (by decide))
end Go.Proofs.YtheofhegdjjfgaaGreat

namespace Go.Proofs.YtheofhegdjjfgaaGreat
open Go.RowKit
def dgP (z : Int) (p : Option (Nat × Nat)) : Asn := .any (fun k => ∃ off, p = some (k, off)) (RowP p 1 ((dgs z.natAbs).map encD)) true
theorem dgP_of {w : World} {z : Int} {b : Nat} (h : (bigA z b).ok w) : (dgP z (some (b, 0))).ok w :=
  ⟨fun k hk => by obtain ⟨off, e⟩ := hk; cases e; exact h.lt _ rfl, fun w' hw => h.hold w' (fun k hk => by obtain rfl : k = b := hk; exact hw _ ⟨0, rfl⟩)⟩
theorem dgP0 {w : World} : (dgP 0 none).ok w := ⟨fun k hk => (by obtain ⟨off, e⟩ := hk; cases e), fun w' _ => (by show _ = []; rw [show (0 : Int).natAbs = 0 from rfl, dgs_zero]; rfl)⟩
theorem dg_len0 : (dgs (0 : Int).natAbs).length = 0 := by rw [show (0 : Int).natAbs = 0 from rfl, dgs_zero]; rfl
end Go.Proofs.YtheofhegdjjfgaaGreat

namespace Go.Proofs.YtheofhegdjjfgaaGreat
open Go.RowKit
theorem row_read {w : World} {E s m c : Nat} {q : Option Addr} {xs : List Value} (h : w.ownsRow 0 E s (.slice q m c) m xs) (hl : xs.length = m * s) : (m = 0 ∧ xs = []) ∨ ∃ bx ox, q = some ⟨bx, ox, none⟩ ∧ ∀ j u, xs[j]? = some u → w.cell? ⟨bx, ox + j, none⟩ = some u := by
  rcases h.2 with ⟨_, e2⟩ | ⟨g, cap, cur, e, _⟩
  · left; subst e2; exact ⟨rfl, by simpa using hl⟩
  · right
    injection e with e1
    subst e1
    refine ⟨g, 0, rfl, fun j u hu => ?_⟩
    have h2 := World.ownsRow.cells h (g := g) rfl j u hu
    rw [addr_add] at h2
    rw [← h2]
theorem balD_snoc (c : ByteArray) (L : List Pst) (p : Pst) : balD c (L ++ [p]) = ((balD c L).1 + (if p.acc = c then p.u else 0), (balD c L).2 + (if p.acc = c then p.f else 0)) := by
  rw [balD_append]
  have e : balD c [p] = ((if p.acc = c then p.u else 0), (if p.acc = c then p.f else 0)) := by
    show balStep c (0, 0) p = _
    unfold balStep addS
    split <;> simp
  rw [e]
def pre (V : List Ent) (j : Nat) (r : List Pst) (k : Nat) : List Pst := (V.take j).flatMap (·.ps) ++ r.take k
end Go.Proofs.YtheofhegdjjfgaaGreat

namespace Go.Proofs.YtheofhegdjjfgaaGreat
namespace Wd
def sv (neg : Bool) (s : Int) : Int := if neg = true then -s else s
end Wd
end Go.Proofs.YtheofhegdjjfgaaGreat

namespace Go.Proofs.YtheofhegdjjfgaaGreat
namespace Wd
end Wd
end Go.Proofs.YtheofhegdjjfgaaGreat

namespace Go.Proofs.YtheofhegdjjfgaaGreat
namespace Wd
def ev (S w : Int) : Int := if w < 2 * (S % w) ∨ 2 * (S % w) = w ∧ S / w % 2 = 1 then S / w + 1 else S / w
def dv (a d : Int) : Int := sv (!(decide (a < 0) == decide (d < 0))) (ev (ab a) (ab d))
end Wd
end Go.Proofs.YtheofhegdjjfgaaGreat

namespace Go.Proofs.YtheofhegdjjfgaaGreat
namespace Wd
def dig (n : Nat) : UInt8 := UInt8.ofNat (48 + n % 10)
def dg (n : Nat) : List UInt8 := if n = 0 then [] else dg (n / 10) ++ [dig n]
 termination_by n
 decreasing_by omega
def ld : Nat → Nat → List UInt8
  | 0, _ => []
  | k + 1, n => ld k (n / 10) ++ [dig n]
theorem dg_zero : dg 0 = [] := by rw [dg]; simp
theorem dg_pos (n : Nat) (h : n ≠ 0) : dg n = dg (n / 10) ++ [dig n] := by rw [dg]; simp [h]
theorem ld_len : ∀ k n, (ld k n).length = k
  | 0, _ => rfl
  | k + 1, n => by simp [ld, ld_len k]
theorem ld_cons : ∀ k n, dig (n / 10 ^ k) :: ld k n = ld (k + 1) n
  | 0, n => by simp [ld]
  | k + 1, n => by
    have ih := ld_cons k (n / 10)
    have e : n / 10 ^ (k + 1) = n / 10 / 10 ^ k := by rw [Nat.pow_succ, Nat.mul_comm, Nat.div_div_eq_div_mul]
    rw [e]
    show _ :: (ld k (n / 10) ++ [dig n]) = ld (k + 1) (n / 10) ++ [dig n]
    rw [← ih]; rfl
theorem dg_ld : ∀ k n, dg n = if n / 10 ^ k = 0 then dg n else dg (n / 10 ^ k) ++ ld k n
  | 0, n => by simp [ld]
  | k + 1, n => by
    split
    · rfl
    · rename_i h
      have e : n / 10 ^ (k + 1) = n / 10 / 10 ^ k := by rw [Nat.pow_succ, Nat.mul_comm, Nat.div_div_eq_div_mul]
      have hn : n ≠ 0 := fun h0 => h (by rw [h0]; simp)
      have ih := dg_ld k (n / 10)
      rw [e] at h ⊢
      rw [if_neg h] at ih
      rw [dg_pos n hn, ih]
      simp [ld]
theorem dg_all : ∀ k n, n / 10 ^ k = 0 → (k = 0 ∨ n / 10 ^ (k - 1) ≠ 0) → dg n = ld k n
  | 0, n, h, _ => by simp at h; subst h; exact dg_zero
  | k + 1, n, h, h1 => by
    have h2 : n / 10 ^ k ≠ 0 := by simpa using h1
    have e := dg_ld k n
    rw [if_neg h2] at e
    rw [e, ← ld_cons, dg_pos _ h2]
    have e2 : n / 10 ^ k / 10 = 0 := by rw [Nat.div_div_eq_div_mul, ← Nat.pow_succ]; exact h
    rw [e2, dg_zero]; rfl
def text (v : Int) : List UInt8 := if v = 0 then [48] else if v < 0 then 45 :: dg (ab v).toNat else dg (ab v).toNat
theorem dg_ne (n : Nat) (h : n ≠ 0) : dg n ≠ [] := by rw [dg_pos n h]; simp
end Wd
end Go.Proofs.YtheofhegdjjfgaaGreat

namespace Go.Proofs.YtheofhegdjjfgaaGreat
open Go.RowKit
section
variable {n : Nat} {F0 : Nat → Prop} {w0 w : World} {a : Act} {L : List (Nat × Value)} {Γ : List Asn} {dst : Option Nat} {ty : Nat} {pos : String} {af : Array Edge} {g : Option (Nat × Bool)} {x : Operand}
theorem e_byte1 {b E : Nat} {u : Int} (hx : ev L x = some (.slice (some ⟨b, 0, none⟩) 1 1)) (hm : Asn.blk b [.int .u8 u] E ∈ Γ) : Ex Tryz.prog n a L Γ ⟨dst, .convert 218 9 x, ty, pos, af, g⟩ (.string ⟨#[UInt8.ofNat u.toNat]⟩) := fun hs w hh => by
  have h := run_convert_bytes_arg (P := Tryz.prog) w 218 5 Tryz.underlying218 Tryz.underlying5 b 0 1 1 [u] rfl (fun i hi => by
    obtain rfl : i = 0 := by omega
    exact cell_of_blk (hh _ hm) (k := 0) rfl) 9 Tryz.underlying9
  have e : strOfNums [u] = ⟨#[UInt8.ofNat u.toNat]⟩ := rfl
  rw [e] at h
  simp [execOp, hs.ev hx, h]
end
theorem wrap_u8 {m : Int} (h : 0 ≤ m ∧ m ≤ 255) : IntKind.u8.wrap m = m := IntWalk.u8_in _ h
theorem pow4 (i : Nat) : (10000 : Nat) ^ i = 10 ^ (4 * i) := by rw [Nat.pow_mul]
theorem dgs_get : ∀ (i N : Nat), i < (dgs N).length → (dgs N)[i]? = some ((N / 10000 ^ i % 10000 : Nat) : Int)
  | 0, N, h => by
    have h0 : N ≠ 0 := by rintro rfl; rw [dgs_zero] at h; simp at h
    rw [dgs_pos h0]; simp
  | i + 1, N, h => by
    have h0 : N ≠ 0 := by rintro rfl; rw [dgs_zero] at h; simp at h
    rw [dgs_pos h0] at h ⊢
    rw [List.getElem?_cons_succ, dgs_get i (N / 10000) (by simpa using h), Nat.div_div_eq_div_mul, Nat.pow_succ, Nat.mul_comm]
theorem dgs_hi {N : Nat} : N < 10 ^ (4 * (dgs N).length) := by
  have := nv_lt (inR_dgs N)
  rw [nv_dgs] at this
  rw [← pow4]
  have e : ((10000 ^ (dgs N).length : Nat) : Int) = 10000 ^ (dgs N).length := by rw [Int.natCast_pow]; rfl
  rw [← e] at this
  omega
theorem dgs_lo {N : Nat} (h : N ≠ 0) : 10 ^ (4 * ((dgs N).length - 1)) ≤ N := by
  have := dgs_pow h
  rw [← pow4]
  have e : ((10000 ^ ((dgs N).length - 1) : Nat) : Int) = 10000 ^ ((dgs N).length - 1) := by rw [Int.natCast_pow]; rfl
  rw [← e] at this
  omega
def xk (N i k : Nat) : Nat := N / 10 ^ (4 * i + k) % 10 ^ (4 - k)
theorem xk_zero (N i : Nat) : xk N i 0 = N / 10000 ^ i % 10000 := by unfold xk; rw [pow4]; rfl
theorem xk_div {N i k : Nat} (h : k < 4) : xk N i k / 10 = xk N i (k + 1) := by
  unfold xk
  rw [show 4 - k = (4 - (k + 1)) + 1 by omega, Nat.pow_succ, Nat.mul_comm (10 ^ (4 - (k + 1))) 10, Nat.mod_mul_right_div_self, Nat.div_div_eq_div_mul, ← Nat.pow_succ]
  rfl
theorem xk_mod {N i k : Nat} (h : k < 4) : xk N i k % 10 = N / 10 ^ (4 * i + k) % 10 := by
  unfold xk
  rw [show 4 - k = (4 - (k + 1)) + 1 by omega, Nat.pow_succ]
  exact Nat.mod_mod_of_dvd _ (Nat.dvd_mul_left _ _)
theorem xk_lt {N i k : Nat} : xk N i k < 10000 := by
  unfold xk
  have h1 : N / 10 ^ (4 * i + k) % 10 ^ (4 - k) < 10 ^ (4 - k) := Nat.mod_lt _ (Nat.pow_pos (by decide))
  have h2 : 10 ^ (4 - k) ≤ 10 ^ 4 := Nat.pow_le_pow_right (by decide) (by omega)
  omega
theorem top_quo {N i k : Nat} (hi : i + 1 = (dgs N).length) (hk : k ≤ 4) : N / 10 ^ (4 * i + k) = xk N i k := by
  unfold xk
  have h1 := dgs_hi (N := N)
  rw [← hi, show 4 * (i + 1) = (4 * i + k) + (4 - k) by omega, Nat.pow_add] at h1
  exact (Nat.mod_eq_of_lt (Nat.div_lt_of_lt_mul h1)).symm
theorem top_pos {N i : Nat} (hi : i + 1 = (dgs N).length) : N / 10 ^ (4 * i) ≠ 0 := by
  have hN : N ≠ 0 := by rintro rfl; rw [dgs_zero] at hi; simp at hi
  have h1 := dgs_lo hN
  rw [← hi, Nat.add_sub_cancel] at h1
  have := Nat.div_pos h1 (Nat.pow_pos (n := 4 * i) (show 0 < 10 by decide))
  omega
theorem cons_bytes (x : UInt8) (l : List UInt8) : (⟨#[x]⟩ : ByteArray) ++ ⟨l.toArray⟩ = ⟨(x :: l).toArray⟩ := by
  apply ByteArray.ext; simp
theorem text_step {N i k : Nat} (h : k < 4) : (⟨#[UInt8.ofNat (48 + (xk N i k : Int) % 10).toNat]⟩ : ByteArray) ++ ⟨(Wd.ld (4 * i + k) N).toArray⟩ = ⟨(Wd.ld (4 * i + (k + 1)) N).toArray⟩ := by
  have e : UInt8.ofNat (48 + (xk N i k : Int) % 10).toNat = Wd.dig (N / 10 ^ (4 * i + k)) := by
    unfold Wd.dig
    rw [← xk_mod h]
    congr 1
  rw [e, show 4 * i + (k + 1) = (4 * i + k) + 1 by omega, ← Wd.ld_cons, cons_bytes]
theorem dg_size : ∀ (k n : Nat), n < 10 ^ k → (Wd.dg n).length ≤ k
  | 0, n, h => by
    obtain rfl : n = 0 := by simpa using h
    rw [Wd.dg_zero]; simp
  | k + 1, n, h => by
    by_cases h0 : n = 0
    · subst h0; rw [Wd.dg_zero]; simp
    · rw [Wd.dg_pos n h0, List.length_append]
      have := dg_size k (n / 10) (by rw [Nat.pow_succ] at h; omega)
      simp only [List.length_cons, List.length_nil]; omega
set_option maxHeartbeats 1000000 in
set_option maxRecDepth 100000 in
theorem BigText_P (p : Option (Nat × Nat)) (c : Nat) (z : Int) (hz : (dgs z.natAbs).length ≤ 1000) (w0 : World) (h : (oneA p (dgs z.natAbs)).ok w0) :
    PureC Tryz.prog 122 [bigV z p c] w0 (.string ⟨(Wd.text z).toArray⟩) := by
  have hp : RowP p 1 ((dgs z.natAbs).map encD) w0 := h.now
  refine c_enter [(0, bigV z p c)] [oneA p (dgs z.natAbs)] noB Tryz.func122 rfl Tryz.ntmps122 ⟨rfl, trivial⟩ rfl (by intro X hX; obtain rfl := List.mem_singleton.1 hX; exact h) (by simp) (by intro X hX hm; obtain rfl := List.mem_singleton.1 hX; cases hm) ?_
  intro a hS
  refine c_seq (c_region ?_)
  refine L_op (s_boxA hS rfl rfl ?_); clear hS a; (try clear w); intro a w b1 hS
  refine L_e hS (e_assign rfl) rfl ?_; clear hS a; intro a hS
  refine L_nil (n_then (c_seq (c_seq (c_region ?_))))
  (first | refine L_e hS (e_fa0 rfl ty_fo139_1) rfl ?_ | refine L_e hS (e_faK rfl ty_fo139_1) rfl ?_); clear hS a; intro a hS
  refine L_e hS (e_load rfl (by repeat constructor) ty_sc137 (by rfl)) rfl ?_; clear hS a; intro a hS
  refine L_e hS (e_len rfl rfl ty_sl137) rfl ?_; clear hS a; intro a hS
  refine L_e hS (e_bin rfl rfl rfl) rfl ?_; clear hS a; intro a hS
  refine L_nil (n_then ?_)
  first | refine c_ifD hS rfl (fun hc10 => ?_) (fun hc10 => ?_) | refine c_if hS rfl (fun hc10 => ?_) (fun hc10 => ?_)
  ·
    have hz0 : z = 0 := by
      have := (dgs_ne (n := z.natAbs)).2
      by_cases h0 : 0 < z.natAbs
      · have h1 := List.length_pos_iff.2 (this h0); omega
      · omega
    refine c_seq (c_region ?_)
    refine L_e hS (e_assign rfl) rfl ?_; clear hS a; intro a hS
    refine L_nil (n_then (wp_ret (r_then ?_)))
    refine c_ret1 hS Tryz.results122 (.tmp rfl) ?_
    exact ⟨by subst hz0; rfl, hS.chg⟩
  refine wp_skip (n_then (c_seq (c_region ?_)))
  refine L_e hS (e_assign rfl) rfl ?_; clear hS a; intro a hS
  refine L_nil (n_then (c_seq (c_seq (c_region ?_))))
  refine L_e hS (e_assign rfl) rfl ?_; clear hS a; intro a hS
  refine L_nil (n_then (wp_block ?_))
  skip
  refine c_loop (γ := (Nat × List UInt8)) (fun G a w => St 54 noB w0 a w [(4, .int .i64 (G.1 : Int)), (3, .string ⟨G.2.toArray⟩), (2, .string ⟨#[]⟩), (1, .pointer (some ⟨b1, 0, none⟩))] [.blk b1 [.bool (decide (z < 0)), sliceV p (dgs z.natAbs).length c] 139, oneA p (dgs z.natAbs)] ∧ G.1 ≤ (dgs z.natAbs).length ∧ (G.1 < (dgs z.natAbs).length → G.2 = Wd.ld (4 * G.1) z.natAbs) ∧ (G.1 = (dgs z.natAbs).length → G.2 = Wd.dg z.natAbs)) (fun G => (dgs z.natAbs).length - G.1) (0, []) ⟨hS.slots ⟨rfl, rfl, rfl, rfl, trivial⟩, Nat.zero_le _, fun _ => rfl, fun e => absurd e (by simp only; omega)⟩ ?_
  clear hS a; (try clear w); intro G a w hI
  obtain ⟨i, s⟩ := G
  obtain ⟨hS, hi, hs1, hs2⟩ := hI
  simp only at hS hi hs1 hs2
  refine c_seq (c_seq (c_region ?_))
  refine L_e hS (e_move rfl) rfl ?_; clear hS a; intro a hS
  (first | refine L_e hS (e_fa0 rfl ty_fo139_1) rfl ?_ | refine L_e hS (e_faK rfl ty_fo139_1) rfl ?_); clear hS a; intro a hS
  refine L_e hS (e_load rfl (by repeat constructor) ty_sc137 (by rfl)) rfl ?_; clear hS a; intro a hS
  refine L_e hS (e_len rfl rfl ty_sl137) rfl ?_; clear hS a; intro a hS
  refine L_e hS (e_bin rfl rfl rfl) rfl ?_; clear hS a; intro a hS
  refine L_nil (n_then ?_)
  first | refine c_ifD hS rfl (fun hc15 => ?_) (fun hc15 => ?_) | refine c_if hS rfl (fun hc15 => ?_) (fun hc15 => ?_)
  ·
    have hsl := hs1 (by omega)
    subst hsl
    have hd := dgs_get i z.natAbs (by omega)
    obtain ⟨bp, op, rfl⟩ := two_pos hp (fun e => by rw [e] at hd; cases hd)
    have hd' : ((dgs z.natAbs).map encD)[i]? = some (encD ((z.natAbs / 10000 ^ i % 10000 : Nat) : Int)) := by simp [hd]
    refine wp_skip (n_then (c_seq (wp_block (c_seq (c_region ?_)))))
    (first | refine L_e hS (e_fa0 rfl ty_fo139_1) rfl ?_ | refine L_e hS (e_faK rfl ty_fo139_1) rfl ?_); clear hS a; intro a hS
    refine L_e hS (e_load rfl (by repeat constructor) ty_sc137 (by rfl)) rfl ?_; clear hS a; intro a hS
    refine L_e hS (e_move rfl) rfl ?_; clear hS a; intro a hS
    refine L_e hS (e_ixN rfl rfl ty_sl137 ty_sz3 (by omega)) rfl ?_; clear hS a; intro a hS
    refine L_e hS (e_loadC rfl ty_sc3 (fun w hh => rowP_get (by repeat (first | exact .head _ | refine .tail _ ?_)) hd' w hh 0 (.int .i64 ((z.natAbs / 10000 ^ i % 10000 : Nat) : Int)) rfl)) rfl ?_; clear hS a; intro a hS
    refine L_e hS (e_assign rfl) rfl ?_; clear hS a; intro a hS
    refine L_nil (n_then (c_seq (c_region ?_)))
    rw [← xk_zero] at hS
    refine L_e hS (e_assign rfl) rfl ?_; clear hS a; intro a hS
    refine L_nil (n_then (wp_block ?_))
    skip
    refine c_loop (γ := Nat) (fun k a w => St 54 noB w0 a w [(6, .int .i64 (k : Int)), (5, .int .i64 (xk z.natAbs i k : Int)), (4, .int .i64 (i : Int)), (3, .string ⟨(Wd.ld (4 * i + k) z.natAbs).toArray⟩), (2, .string ⟨#[]⟩), (1, .pointer (some ⟨b1, 0, none⟩))] [.blk b1 [.bool (decide (z < 0)), sliceV (some (bp, op)) (dgs z.natAbs).length c] 139, oneA (some (bp, op)) (dgs z.natAbs)] ∧ k ≤ 4 ∧ (i + 1 = (dgs z.natAbs).length → k ≠ 0 → z.natAbs / 10 ^ (4 * i + k - 1) ≠ 0)) (fun k => 4 - k) 0 ⟨hS.slots ⟨rfl, rfl, rfl, rfl, rfl, rfl, trivial⟩, Nat.zero_le _, fun _ e => absurd rfl e⟩ ?_
    clear hS a; (try clear w); intro k a w hI
    obtain ⟨hS, hk, hpr⟩ := hI
    refine c_seq (c_seq (c_region ?_))
    refine L_e hS (e_move rfl) rfl ?_; clear hS a; intro a hS
    refine L_e hS (e_bin rfl rfl rfl) rfl ?_; clear hS a; intro a hS
    refine L_e hS (e_move rfl) rfl ?_; clear hS a; intro a hS
    (first | refine g_splitD (t := 25) hS rfl ?_ ?_ | refine g_split (t := 25) hS rfl ?_ ?_) <;> (clear hS; intro hg25 hS)
    ·
      refine L_ge hS rfl rfl (e_move rfl) rfl ?_; clear hS a; intro a hS
      (first | refine L_ge hS rfl rfl (e_fa0 rfl ty_fo139_1) rfl ?_ | refine L_ge hS rfl rfl (e_faK rfl ty_fo139_1) rfl ?_); clear hS a; intro a hS
      refine L_ge hS rfl rfl (e_load rfl (by repeat constructor) ty_sc137 (by rfl)) rfl ?_; clear hS a; intro a hS
      refine L_ge hS rfl rfl (e_len rfl rfl ty_sl137) rfl ?_; clear hS a; intro a hS
      (first | refine L_ge hS rfl rfl (e_binN rfl rfl rfl (by omega)) rfl ?_ | refine L_ge hS rfl rfl (e_bin rfl rfl rfl) rfl ?_); clear hS a; intro a hS
      refine L_ge hS rfl rfl (e_bin rfl rfl rfl) rfl ?_; clear hS a; intro a hS
      refine L_ge hS rfl rfl (e_move rfl) rfl ?_; clear hS a; intro a hS
      (first | refine g_splitD (t := 32) hS rfl ?_ ?_ | refine g_split (t := 32) hS rfl ?_ ?_) <;> (clear hS; intro hg32 hS)
      ·
        refine L_skip_f hS rfl rfl rfl ?_; clear hS a; intro a hS
        refine L_skip_f hS rfl rfl rfl ?_; clear hS a; intro a hS
        refine L_ge hS rfl rfl (e_pk rfl rfl) rfl ?_; clear hS a; intro a hS
        refine L_e hS (e_pk rfl rfl) rfl ?_; clear hS a; intro a hS
        refine L_nil (n_then ?_)
        refine c_if_t hS rfl ?_
        refine wp_skip (n_then (c_seq (wp_block (c_seq (c_region ?_)))))
        have hk4 : k < 4 := by omega
        have hxl := xk_lt (N := z.natAbs) (i := i) (k := k)
        have hll : (Wd.ld (4 * i + k) z.natAbs).length = 4 * i + k := Wd.ld_len _ _
        refine L_e hS (e_move rfl) rfl ?_; clear hS a; intro a hS
        (first | refine L_e hS (e_remN rfl rfl (by omega)) rfl ?_ | refine L_e hS (e_rem rfl rfl (by omega)) rfl ?_); clear hS a; intro a hS
        (first | refine L_e hS (e_binN rfl rfl rfl (by omega)) rfl ?_ | refine L_e hS (e_bin rfl rfl rfl) rfl ?_); clear hS a; intro a hS
        refine L_e hS (e_conv rfl Tryz.underlying3 Tryz.underlying5) rfl ?_; clear hS a; intro a hS
        rw [wrap_u8 (by omega)] at hS
        refine L_op (s_bslice hS ty_sl218 ty_sz5 ty_z5 rfl rfl rfl rfl (.one rfl rfl rfl .nil) rfl ?_); clear hS a; (try clear w); intro a w b43 hS
        refine L_e hS (e_byte1 rfl (by repeat (first | exact .head _ | refine .tail _ ?_))) rfl ?_; clear hS a; intro a hS
        refine L_e hS (e_move rfl) rfl ?_; clear hS a; intro a hS
        refine L_e hS (e_cat rfl rfl (by simp [ByteArray.size]; omega)) rfl ?_; clear hS a; intro a hS
        rw [text_step hk4] at hS
        refine L_e hS (e_assign rfl) rfl ?_; clear hS a; intro a hS
        refine L_nil (n_then (c_region ?_))
        refine L_e hS (e_move rfl) rfl ?_; clear hS a; intro a hS
        (first | refine L_e hS (e_quoN rfl rfl (by omega)) rfl ?_ | refine L_e hS (e_quo rfl rfl (by omega)) rfl ?_); clear hS a; intro a hS
        rw [show (xk z.natAbs i k : Int) / 10 = (xk z.natAbs i (k + 1) : Nat) by rw [← xk_div hk4]; omega] at hS
        refine L_e hS (e_assign rfl) rfl ?_; clear hS a; intro a hS
        refine L_nil (n_block (n_then (c_region ?_)))
        refine L_e hS (e_move rfl) rfl ?_; clear hS a; intro a hS
        (first | refine L_e hS (e_binN rfl rfl rfl (by omega)) rfl ?_ | refine L_e hS (e_bin rfl rfl rfl) rfl ?_); clear hS a; intro a hS
        refine L_e hS (e_assign rfl) rfl ?_; clear hS a; intro a hS
        refine L_nil ?_
        refine ⟨k + 1, by omega, (hS.drop (by repeat (first | exact List.Sublist.refl _ | apply List.Sublist.cons))).slots (by exact ⟨rfl, rfl, rfl, rfl, rfl, rfl, trivial⟩), by omega, fun e _ => ?_⟩
        rw [show 4 * i + (k + 1) - 1 = 4 * i + k by omega, top_quo e hk]
        omega
      refine L_ge hS rfl rfl (e_move rfl) rfl ?_; clear hS a; intro a hS
      refine L_ge hS rfl rfl (e_bin rfl rfl rfl) rfl ?_; clear hS a; intro a hS
      refine L_ge hS rfl rfl (e_pk rfl rfl) rfl ?_; clear hS a; intro a hS
      refine L_e hS (e_pk rfl rfl) rfl ?_; clear hS a; intro a hS
      refine L_nil (n_then ?_)
      first | refine c_ifD hS rfl (fun hc36 => ?_) (fun hc36 => ?_) | refine c_if hS rfl (fun hc36 => ?_) (fun hc36 => ?_)
      ·
        refine wp_skip (n_then (c_seq (wp_block (c_seq (c_region ?_)))))
        have hk4 : k < 4 := by omega
        have hxl := xk_lt (N := z.natAbs) (i := i) (k := k)
        have hll : (Wd.ld (4 * i + k) z.natAbs).length = 4 * i + k := Wd.ld_len _ _
        refine L_e hS (e_move rfl) rfl ?_; clear hS a; intro a hS
        (first | refine L_e hS (e_remN rfl rfl (by omega)) rfl ?_ | refine L_e hS (e_rem rfl rfl (by omega)) rfl ?_); clear hS a; intro a hS
        (first | refine L_e hS (e_binN rfl rfl rfl (by omega)) rfl ?_ | refine L_e hS (e_bin rfl rfl rfl) rfl ?_); clear hS a; intro a hS
        refine L_e hS (e_conv rfl Tryz.underlying3 Tryz.underlying5) rfl ?_; clear hS a; intro a hS
        rw [wrap_u8 (by omega)] at hS
        refine L_op (s_bslice hS ty_sl218 ty_sz5 ty_z5 rfl rfl rfl rfl (.one rfl rfl rfl .nil) rfl ?_); clear hS a; (try clear w); intro a w b43 hS
        refine L_e hS (e_byte1 rfl (by repeat (first | exact .head _ | refine .tail _ ?_))) rfl ?_; clear hS a; intro a hS
        refine L_e hS (e_move rfl) rfl ?_; clear hS a; intro a hS
        refine L_e hS (e_cat rfl rfl (by simp [ByteArray.size]; omega)) rfl ?_; clear hS a; intro a hS
        rw [text_step hk4] at hS
        refine L_e hS (e_assign rfl) rfl ?_; clear hS a; intro a hS
        refine L_nil (n_then (c_region ?_))
        refine L_e hS (e_move rfl) rfl ?_; clear hS a; intro a hS
        (first | refine L_e hS (e_quoN rfl rfl (by omega)) rfl ?_ | refine L_e hS (e_quo rfl rfl (by omega)) rfl ?_); clear hS a; intro a hS
        rw [show (xk z.natAbs i k : Int) / 10 = (xk z.natAbs i (k + 1) : Nat) by rw [← xk_div hk4]; omega] at hS
        refine L_e hS (e_assign rfl) rfl ?_; clear hS a; intro a hS
        refine L_nil (n_block (n_then (c_region ?_)))
        refine L_e hS (e_move rfl) rfl ?_; clear hS a; intro a hS
        (first | refine L_e hS (e_binN rfl rfl rfl (by omega)) rfl ?_ | refine L_e hS (e_bin rfl rfl rfl) rfl ?_); clear hS a; intro a hS
        refine L_e hS (e_assign rfl) rfl ?_; clear hS a; intro a hS
        refine L_nil ?_
        refine ⟨k + 1, by omega, (hS.drop (by repeat (first | exact List.Sublist.refl _ | apply List.Sublist.cons))).slots (by exact ⟨rfl, rfl, rfl, rfl, rfl, rfl, trivial⟩), by omega, fun e _ => ?_⟩
        rw [show 4 * i + (k + 1) - 1 = 4 * i + k by omega, top_quo e hk]
        omega
      refine wp_exit ?_
      refine x_then (x_then (x_hit ?_))
      refine n_block (n_then (c_region ?_))
      refine L_e hS (e_move rfl) rfl ?_; clear hS a; intro a hS
      (first | refine L_e hS (e_binN rfl rfl rfl (by omega)) rfl ?_ | refine L_e hS (e_bin rfl rfl rfl) rfl ?_); clear hS a; intro a hS
      refine L_e hS (e_assign rfl) rfl ?_; clear hS a; intro a hS
      refine L_nil ?_
      refine ⟨(i + 1, Wd.ld (4 * i + k) z.natAbs), by simp only; omega, hS.slots (by exact ⟨rfl, rfl, rfl, rfl, trivial⟩), by simp only; omega, fun e => ?_, fun e => ?_⟩
      · simp only at e ⊢
        obtain rfl : k = 4 := by omega
        rfl
      · simp only at e ⊢
        have hk0 : k ≠ 0 := by
          rintro rfl
          have := top_pos e
          have h2 := top_quo e (Nat.zero_le 4)
          rw [Nat.add_zero] at h2
          omega
        have hx0 : xk z.natAbs i k = 0 := by
          by_cases h4 : k = 4
          · subst h4; unfold xk; simp [Nat.mod_one]
          · omega
        refine (Wd.dg_all (4 * i + k) z.natAbs (by rw [top_quo e hk]; exact hx0) (.inr (hpr e hk0))).symm
    refine L_skip_t hS rfl rfl rfl ?_; clear hS a; intro a hS
    refine L_skip_t hS rfl rfl rfl ?_; clear hS a; intro a hS
    refine L_skip_t hS rfl rfl rfl ?_; clear hS a; intro a hS
    refine L_skip_t hS rfl rfl rfl ?_; clear hS a; intro a hS
    refine L_skip_t hS rfl rfl rfl ?_; clear hS a; intro a hS
    refine L_skip_t hS rfl rfl rfl ?_; clear hS a; intro a hS
    refine L_skip_t hS rfl rfl rfl ?_; clear hS a; intro a hS
    refine L_skip_u hS rfl rfl rfl ?_; clear hS a; intro a hS
    refine L_skip_u hS rfl rfl rfl ?_; clear hS a; intro a hS
    refine L_skip_t hS rfl rfl rfl ?_; clear hS a; intro a hS
    refine L_e hS (e_pk rfl rfl) rfl ?_; clear hS a; intro a hS
    refine L_nil (n_then ?_)
    refine c_if_f hS rfl ?_
    refine wp_exit ?_
    refine x_then (x_then (x_hit ?_))
    refine n_block (n_then (c_region ?_))
    refine L_e hS (e_move rfl) rfl ?_; clear hS a; intro a hS
    (first | refine L_e hS (e_binN rfl rfl rfl (by omega)) rfl ?_ | refine L_e hS (e_bin rfl rfl rfl) rfl ?_); clear hS a; intro a hS
    refine L_e hS (e_assign rfl) rfl ?_; clear hS a; intro a hS
    refine L_nil ?_
    refine ⟨(i + 1, Wd.ld (4 * i + k) z.natAbs), by simp only; omega, hS.slots (by exact ⟨rfl, rfl, rfl, rfl, trivial⟩), by simp only; omega, fun e => ?_, fun e => ?_⟩
    · simp only at e ⊢
      obtain rfl : k = 4 := by omega
      rfl
    · simp only at e ⊢
      have hk0 : k ≠ 0 := by
        rintro rfl
        have := top_pos e
        have h2 := top_quo e (Nat.zero_le 4)
        rw [Nat.add_zero] at h2
        omega
      have hx0 : xk z.natAbs i k = 0 := by
        by_cases h4 : k = 4
        · subst h4; unfold xk; simp [Nat.mod_one]
        · omega
      refine (Wd.dg_all (4 * i + k) z.natAbs (by rw [top_quo e hk]; exact hx0) (.inr (hpr e hk0))).symm
  have hsl := hs2 (by omega)
  subst hsl
  have hzn : z ≠ 0 := by
    rintro rfl
    rw [show (0 : Int).natAbs = 0 from rfl, dgs_zero] at *
    simp at *
  have hta : (Wd.ab z).toNat = z.natAbs := by unfold Wd.ab; split <;> omega
  have hdl := dg_size _ z.natAbs dgs_hi
  refine wp_exit ?_
  refine x_then (x_then (x_hit ?_))
  refine n_then (c_seq (c_seq (c_region ?_)))
  (first | refine L_e hS (e_fa0 rfl ty_fo139_0) rfl ?_ | refine L_e hS (e_faK rfl ty_fo139_0) rfl ?_); clear hS a; intro a hS
  refine L_e hS (e_load rfl (by repeat constructor) ty_sc4 (by rfl)) rfl ?_; clear hS a; intro a hS
  refine L_nil (n_then ?_)
  first | refine c_ifD hS rfl (fun hc50 => ?_) (fun hc50 => ?_) | refine c_if hS rfl (fun hc50 => ?_) (fun hc50 => ?_)
  ·
    refine c_seq (c_region ?_)
    refine L_e hS (e_move rfl) rfl ?_; clear hS a; intro a hS
    refine L_e hS (e_cat rfl rfl (by simp [ByteArray.size]; omega)) rfl ?_; clear hS a; intro a hS
    refine L_e hS (e_assign rfl) rfl ?_; clear hS a; intro a hS
    refine L_nil (n_then (wp_ret (r_then ?_)))
    refine c_ret1 hS Tryz.results122 (.tmp rfl) ?_
    exact ⟨by unfold Wd.text; rw [if_neg hzn, if_pos hc50, hta]; rw [cons_bytes], hS.chg⟩
  refine wp_skip (n_then (c_seq (c_region ?_)))
  refine L_e hS (e_move rfl) rfl ?_; clear hS a; intro a hS
  refine L_e hS (e_assign rfl) rfl ?_; clear hS a; intro a hS
  refine L_nil (n_then (wp_ret ?_))
  refine c_ret1 hS Tryz.results122 (.tmp rfl) ?_
  exact ⟨by unfold Wd.text; rw [if_neg hzn, if_neg hc50, hta], hS.chg⟩
end Go.Proofs.YtheofhegdjjfgaaGreat

namespace Go.Proofs.YtheofhegdjjfgaaGreat
open Go.RowKit
def byteAt (l : List UInt8) (i : Nat) : Nat := (l.getD i 0).toNat
def numBody (l : List UInt8) : List UInt8 := if 1 < l.length ∧ byteAt l 0 = 45 then l.drop 1 else l
def NumForm (l : List UInt8) : Prop := numBody l ≠ [] ∧ ¬ (1 < (numBody l).length ∧ byteAt (numBody l) 0 = 48) ∧ ¬ (numBody l = [48] ∧ 1 < l.length) ∧ ∀ j, j < (numBody l).length → 48 ≤ byteAt (numBody l) j ∧ byteAt (numBody l) j ≤ 57
instance (l : List UInt8) : Decidable (NumForm l) := by unfold NumForm; infer_instance
theorem size_list (s : ByteArray) : s.data.toList.length = s.size := by simp
theorem drop_one (s : ByteArray) : (s.extract 1 s.size).data.toList = s.data.toList.drop 1 := by
  simp only [ByteArray.data_extract, Array.toList_extract, List.extract_eq_take_drop]
  rw [List.take_of_length_le (by simp)]
theorem nil_list {s : ByteArray} : s = ⟨#[]⟩ ↔ s.data.toList = [] := by
  constructor
  · rintro rfl; rfl
  · intro h; apply ByteArray.ext; simpa using h
theorem one_list {s : ByteArray} {x : UInt8} : s = ⟨#[x]⟩ ↔ s.data.toList = [x] := by
  constructor
  · rintro rfl; rfl
  · intro h; apply ByteArray.ext; apply Array.ext'; simpa using h
set_option maxRecDepth 100000 in
theorem NumberForm_P (s : ByteArray) (hs : s.size ≤ 4611686018427387904) (w0 : World) : PureC Tryz.prog 133 [.string s] w0 (.bool (decide (NumForm s.data.toList))) := by
  have hl := size_list s
  refine c_enter [(0, .string s)] [] noB Tryz.func133 rfl Tryz.ntmps133 ⟨rfl, trivial⟩ rfl (by simp) (by simp) (by simp) ?_
  intro a hS
  refine c_seq (c_region ?_)
  refine L_e hS (e_assign rfl) rfl ?_; clear hS a; intro a hS
  refine L_nil (n_then (c_seq (c_region ?_)))
  refine L_e hS (e_move rfl) rfl ?_; clear hS a; intro a hS
  refine L_e hS (e_assign rfl) rfl ?_; clear hS a; intro a hS
  refine L_nil (n_then ?_)
  refine c_cut (fun a w => ∃ d : ByteArray, St 53 noB w0 a w [(3, .string d), (0, .string s), (2, .bool false)] [] ∧ d.data.toList = numBody s.data.toList) ?_ ?_
  ·
    refine c_seq (c_region ?_)
    refine L_e hS (e_move rfl) rfl ?_; clear hS a; intro a hS
    refine L_e hS (e_lenS rfl rfl ty_u9) rfl ?_; clear hS a; intro a hS
    refine L_e hS (e_bin rfl rfl rfl) rfl ?_; clear hS a; intro a hS
    refine L_e hS (e_move rfl) rfl ?_; clear hS a; intro a hS
    (first | refine g_splitD (t := 9) hS rfl ?_ ?_ | refine g_split (t := 9) hS rfl ?_ ?_) <;> (clear hS; intro hg9 hS)
    ·
      refine L_ge hS rfl rfl (e_move rfl) rfl ?_; clear hS a; intro a hS
      refine L_ge hS rfl rfl (e_ixS rfl rfl ty_u9 (by omega)) rfl ?_; clear hS a; intro a hS
      refine L_ge hS rfl rfl (e_bin rfl rfl rfl) rfl ?_; clear hS a; intro a hS
      refine L_e hS (e_pk rfl rfl) rfl ?_; clear hS a; intro a hS
      refine L_nil (n_then ?_)
      first | refine c_ifD hS rfl (fun hc13 => ?_) (fun hc13 => ?_) | refine c_if hS rfl (fun hc13 => ?_) (fun hc13 => ?_)
      ·
        refine c_region ?_
        refine L_e hS (e_move rfl) rfl ?_; clear hS a; intro a hS
        refine L_e hS (e_slSf rfl rfl ty_u9 (by omega)) rfl ?_; clear hS a; intro a hS
        refine L_e hS (e_assign rfl) rfl ?_; clear hS a; intro a hS
        refine L_nil ?_
        first
        | exact ⟨_, hS.slots (by exact ⟨rfl, rfl, rfl, trivial⟩), by unfold numBody byteAt; rw [if_pos ⟨by omega, by rw [Int.toNat_zero] at *; omega⟩]; exact drop_one s⟩
        | exact ⟨_, hS.slots (by exact ⟨rfl, rfl, rfl, trivial⟩), by unfold numBody byteAt; rw [if_neg (by rw [Int.toNat_zero] at *; omega)]⟩
        | exact ⟨_, hS.slots (by exact ⟨rfl, rfl, rfl, trivial⟩), by unfold numBody byteAt; rw [if_neg (by omega)]⟩
      refine wp_skip ?_
      first
      | exact ⟨_, hS.slots (by exact ⟨rfl, rfl, rfl, trivial⟩), by unfold numBody byteAt; rw [if_pos ⟨by omega, by rw [Int.toNat_zero] at *; omega⟩]; exact drop_one s⟩
      | exact ⟨_, hS.slots (by exact ⟨rfl, rfl, rfl, trivial⟩), by unfold numBody byteAt; rw [if_neg (by rw [Int.toNat_zero] at *; omega)]⟩
      | exact ⟨_, hS.slots (by exact ⟨rfl, rfl, rfl, trivial⟩), by unfold numBody byteAt; rw [if_neg (by omega)]⟩
    refine L_skip_t hS rfl rfl rfl ?_; clear hS a; intro a hS
    refine L_skip_t hS rfl rfl rfl ?_; clear hS a; intro a hS
    refine L_skip_t hS rfl rfl rfl ?_; clear hS a; intro a hS
    refine L_e hS (e_pk rfl rfl) rfl ?_; clear hS a; intro a hS
    refine L_nil (n_then ?_)
    refine c_if_f hS rfl ?_
    refine wp_skip ?_
    first
    | exact ⟨_, hS.slots (by exact ⟨rfl, rfl, rfl, trivial⟩), by unfold numBody byteAt; rw [if_pos ⟨by omega, by rw [Int.toNat_zero] at *; omega⟩]; exact drop_one s⟩
    | exact ⟨_, hS.slots (by exact ⟨rfl, rfl, rfl, trivial⟩), by unfold numBody byteAt; rw [if_neg (by rw [Int.toNat_zero] at *; omega)]⟩
    | exact ⟨_, hS.slots (by exact ⟨rfl, rfl, rfl, trivial⟩), by unfold numBody byteAt; rw [if_neg (by omega)]⟩
  clear hS a; (try clear w); intro a w hS
  obtain ⟨d, hS, hd⟩ := hS
  have hld := size_list d
  have hds : d.size ≤ s.size := by
    rw [← hld, hd]; unfold numBody; split
    · rw [List.length_drop]; omega
    · omega
  refine c_seq (c_seq (c_region ?_))
  refine L_e hS (e_move rfl) rfl ?_; clear hS a; intro a hS
  refine L_e hS (e_binS rfl rfl rfl) rfl ?_; clear hS a; intro a hS
  refine L_e hS (e_move rfl) rfl ?_; clear hS a; intro a hS
  (first | refine g_splitD (t := 18) hS rfl ?_ ?_ | refine g_split (t := 18) hS rfl ?_ ?_) <;> (clear hS; intro hg18 hS)
  ·
    refine L_skip_f hS rfl rfl rfl ?_; clear hS a; intro a hS
    refine L_skip_f hS rfl rfl rfl ?_; clear hS a; intro a hS
    refine L_skip_f hS rfl rfl rfl ?_; clear hS a; intro a hS
    refine L_skip_f hS rfl rfl rfl ?_; clear hS a; intro a hS
    refine L_skip_u hS rfl rfl rfl ?_; clear hS a; intro a hS
    refine L_skip_u hS rfl rfl rfl ?_; clear hS a; intro a hS
    refine L_skip_u hS rfl rfl rfl ?_; clear hS a; intro a hS
    refine L_skip_f hS rfl rfl rfl ?_; clear hS a; intro a hS
    refine L_e hS (e_pk rfl rfl) rfl ?_; clear hS a; intro a hS
    refine L_e hS (e_move rfl) rfl ?_; clear hS a; intro a hS
    refine L_skip_f hS rfl rfl rfl ?_; clear hS a; intro a hS
    refine L_skip_f hS rfl rfl rfl ?_; clear hS a; intro a hS
    refine L_skip_f hS rfl rfl rfl ?_; clear hS a; intro a hS
    refine L_skip_u hS rfl rfl rfl ?_; clear hS a; intro a hS
    refine L_skip_u hS rfl rfl rfl ?_; clear hS a; intro a hS
    refine L_skip_u hS rfl rfl rfl ?_; clear hS a; intro a hS
    refine L_skip_f hS rfl rfl rfl ?_; clear hS a; intro a hS
    refine L_e hS (e_pk rfl rfl) rfl ?_; clear hS a; intro a hS
    refine L_nil (n_then ?_)
    refine c_if_t hS rfl ?_
    refine c_seq (c_region ?_)
    refine L_e hS (e_assign rfl) rfl ?_; clear hS a; intro a hS
    refine L_nil (n_then (wp_ret (r_then ?_)))
    refine c_ret1 hS Tryz.results133 (.tmp rfl) ?_
    have hF : ¬ NumForm s.data.toList := by
      unfold NumForm
      rw [← hd]
      rintro ⟨h1, h2, h3, h4⟩
      first
      | exact h1 (nil_list.1 hg18)
      | exact h2 ⟨by omega, by unfold byteAt; rw [Int.toNat_zero] at hg28; omega⟩
      | exact h3 ⟨one_list.1 hg31, by omega⟩
    exact ⟨by rw [decide_eq_false hF], hS.chg⟩
  have hpos := size_pos_of_ne hg18
  refine L_ge hS rfl rfl (e_move rfl) rfl ?_; clear hS a; intro a hS
  refine L_ge hS rfl rfl (e_lenS rfl rfl ty_u9) rfl ?_; clear hS a; intro a hS
  refine L_ge hS rfl rfl (e_bin rfl rfl rfl) rfl ?_; clear hS a; intro a hS
  refine L_ge hS rfl rfl (e_move rfl) rfl ?_; clear hS a; intro a hS
  (first | refine g_splitD (t := 22) hS rfl ?_ ?_ | refine g_split (t := 22) hS rfl ?_ ?_) <;> (clear hS; intro hg22 hS)
  ·
    refine L_ge hS rfl rfl (e_move rfl) rfl ?_; clear hS a; intro a hS
    refine L_ge hS rfl rfl (e_ixS rfl rfl ty_u9 (by omega)) rfl ?_; clear hS a; intro a hS
    refine L_ge hS rfl rfl (e_bin rfl rfl rfl) rfl ?_; clear hS a; intro a hS
    refine L_ge hS rfl rfl (e_pk rfl rfl) rfl ?_; clear hS a; intro a hS
    refine L_e hS (e_pk rfl rfl) rfl ?_; clear hS a; intro a hS
    refine L_e hS (e_move rfl) rfl ?_; clear hS a; intro a hS
    (first | refine g_splitD (t := 28) hS rfl ?_ ?_ | refine g_split (t := 28) hS rfl ?_ ?_) <;> (clear hS; intro hg28 hS)
    ·
      refine L_skip_f hS rfl rfl rfl ?_; clear hS a; intro a hS
      refine L_skip_f hS rfl rfl rfl ?_; clear hS a; intro a hS
      refine L_skip_f hS rfl rfl rfl ?_; clear hS a; intro a hS
      refine L_skip_u hS rfl rfl rfl ?_; clear hS a; intro a hS
      refine L_skip_u hS rfl rfl rfl ?_; clear hS a; intro a hS
      refine L_skip_u hS rfl rfl rfl ?_; clear hS a; intro a hS
      refine L_skip_f hS rfl rfl rfl ?_; clear hS a; intro a hS
      refine L_e hS (e_pk rfl rfl) rfl ?_; clear hS a; intro a hS
      refine L_nil (n_then ?_)
      refine c_if_t hS rfl ?_
      refine c_seq (c_region ?_)
      refine L_e hS (e_assign rfl) rfl ?_; clear hS a; intro a hS
      refine L_nil (n_then (wp_ret (r_then ?_)))
      refine c_ret1 hS Tryz.results133 (.tmp rfl) ?_
      have hF : ¬ NumForm s.data.toList := by
        unfold NumForm
        rw [← hd]
        rintro ⟨h1, h2, h3, h4⟩
        first
        | exact h1 (nil_list.1 hg18)
        | exact h2 ⟨by omega, by unfold byteAt; rw [Int.toNat_zero] at hg28; omega⟩
        | exact h3 ⟨one_list.1 hg31, by omega⟩
      exact ⟨by rw [decide_eq_false hF], hS.chg⟩
    refine L_ge hS rfl rfl (e_move rfl) rfl ?_; clear hS a; intro a hS
    refine L_ge hS rfl rfl (e_binS rfl rfl rfl) rfl ?_; clear hS a; intro a hS
    refine L_ge hS rfl rfl (e_move rfl) rfl ?_; clear hS a; intro a hS
    (first | refine g_splitD (t := 31) hS rfl ?_ ?_ | refine g_split (t := 31) hS rfl ?_ ?_) <;> (clear hS; intro hg31 hS)
    ·
      refine L_ge hS rfl rfl (e_move rfl) rfl ?_; clear hS a; intro a hS
      refine L_ge hS rfl rfl (e_lenS rfl rfl ty_u9) rfl ?_; clear hS a; intro a hS
      refine L_ge hS rfl rfl (e_bin rfl rfl rfl) rfl ?_; clear hS a; intro a hS
      refine L_ge hS rfl rfl (e_pk rfl rfl) rfl ?_; clear hS a; intro a hS
      refine L_e hS (e_pk rfl rfl) rfl ?_; clear hS a; intro a hS
      refine L_nil (n_then ?_)
      first | refine c_ifD hS rfl (fun hc36 => ?_) (fun hc36 => ?_) | refine c_if hS rfl (fun hc36 => ?_) (fun hc36 => ?_)
      ·
        refine c_seq (c_region ?_)
        refine L_e hS (e_assign rfl) rfl ?_; clear hS a; intro a hS
        refine L_nil (n_then (wp_ret (r_then ?_)))
        refine c_ret1 hS Tryz.results133 (.tmp rfl) ?_
        have hF : ¬ NumForm s.data.toList := by
          unfold NumForm
          rw [← hd]
          rintro ⟨h1, h2, h3, h4⟩
          first
          | exact h1 (nil_list.1 hg18)
          | exact h2 ⟨by omega, by unfold byteAt; rw [Int.toNat_zero] at hg28; omega⟩
          | exact h3 ⟨one_list.1 hg31, by omega⟩
        exact ⟨by rw [decide_eq_false hF], hS.chg⟩
      refine wp_skip (n_then (c_seq (c_seq (c_region ?_))))
      refine L_e hS (e_assign rfl) rfl ?_; clear hS a; intro a hS
      refine L_nil (n_then (wp_block ?_))
      skip
      refine c_loop (γ := Nat) (fun k a w => St 53 noB w0 a w [(4, .int .i64 (k : Int)), (3, .string d), (0, .string s), (2, .bool false)] [] ∧ k ≤ d.size ∧ ∀ j, j < k → 48 ≤ byteAt d.data.toList j ∧ byteAt d.data.toList j ≤ 57) (fun k => d.size - k) 0 ⟨hS.slots ⟨rfl, rfl, rfl, rfl, trivial⟩, Nat.zero_le _, fun j hj => by omega⟩ ?_
      clear hS a; (try clear w); intro k a w hI
      obtain ⟨hS, hk, hok⟩ := hI
      refine c_seq (c_seq (c_region ?_))
      refine L_e hS (e_move rfl) rfl ?_; clear hS a; intro a hS
      refine L_e hS (e_move rfl) rfl ?_; clear hS a; intro a hS
      refine L_e hS (e_lenS rfl rfl ty_u9) rfl ?_; clear hS a; intro a hS
      refine L_e hS (e_bin rfl rfl rfl) rfl ?_; clear hS a; intro a hS
      refine L_nil (n_then ?_)
      first | refine c_ifD hS rfl (fun hc40 => ?_) (fun hc40 => ?_) | refine c_if hS rfl (fun hc40 => ?_) (fun hc40 => ?_)
      ·
        refine wp_skip (n_then (c_seq (wp_block (c_seq (c_region ?_)))))
        refine L_e hS (e_move rfl) rfl ?_; clear hS a; intro a hS
        refine L_e hS (e_move rfl) rfl ?_; clear hS a; intro a hS
        refine L_e hS (e_ixS rfl rfl ty_u9 (by omega)) rfl ?_; clear hS a; intro a hS
        refine L_e hS (e_bin rfl rfl rfl) rfl ?_; clear hS a; intro a hS
        refine L_e hS (e_move rfl) rfl ?_; clear hS a; intro a hS
        (first | refine g_splitD (t := 47) hS rfl ?_ ?_ | refine g_split (t := 47) hS rfl ?_ ?_) <;> (clear hS; intro hg47 hS)
        ·
          refine L_skip_f hS rfl rfl rfl ?_; clear hS a; intro a hS
          refine L_skip_f hS rfl rfl rfl ?_; clear hS a; intro a hS
          refine L_skip_f hS rfl rfl rfl ?_; clear hS a; intro a hS
          refine L_skip_f hS rfl rfl rfl ?_; clear hS a; intro a hS
          refine L_e hS (e_pk rfl rfl) rfl ?_; clear hS a; intro a hS
          refine L_nil (n_then ?_)
          refine c_if_t hS rfl ?_
          refine c_seq (c_region ?_)
          refine L_e hS (e_assign rfl) rfl ?_; clear hS a; intro a hS
          refine L_nil (n_then (wp_ret ?_))
          refine r_block (r_then (r_then (r_block (r_then ?_))))
          refine c_ret1 hS Tryz.results133 (.tmp rfl) ?_
          have hF : ¬ NumForm s.data.toList := by
            unfold NumForm
            rw [← hd]
            rintro ⟨h1, h2, h3, h4⟩
            have h5 := h4 k (by omega)
            unfold byteAt at h5
            rw [Int.toNat_natCast] at *
            omega
          exact ⟨by rw [decide_eq_false hF], hS.chg⟩
        refine L_ge hS rfl rfl (e_move rfl) rfl ?_; clear hS a; intro a hS
        refine L_ge hS rfl rfl (e_move rfl) rfl ?_; clear hS a; intro a hS
        refine L_ge hS rfl rfl (e_ixS rfl rfl ty_u9 (by omega)) rfl ?_; clear hS a; intro a hS
        refine L_ge hS rfl rfl (e_bin rfl rfl rfl) rfl ?_; clear hS a; intro a hS
        refine L_e hS (e_pk rfl rfl) rfl ?_; clear hS a; intro a hS
        refine L_nil (n_then ?_)
        first | refine c_ifD hS rfl (fun hc52 => ?_) (fun hc52 => ?_) | refine c_if hS rfl (fun hc52 => ?_) (fun hc52 => ?_)
        ·
          refine c_seq (c_region ?_)
          refine L_e hS (e_assign rfl) rfl ?_; clear hS a; intro a hS
          refine L_nil (n_then (wp_ret ?_))
          refine r_block (r_then (r_then (r_block (r_then ?_))))
          refine c_ret1 hS Tryz.results133 (.tmp rfl) ?_
          have hF : ¬ NumForm s.data.toList := by
            unfold NumForm
            rw [← hd]
            rintro ⟨h1, h2, h3, h4⟩
            have h5 := h4 k (by omega)
            unfold byteAt at h5
            rw [Int.toNat_natCast] at *
            omega
          exact ⟨by rw [decide_eq_false hF], hS.chg⟩
        refine wp_skip (n_block (n_then (c_region ?_)))
        refine L_e hS (e_move rfl) rfl ?_; clear hS a; intro a hS
        (first | refine L_e hS (e_binN rfl rfl rfl (by omega)) rfl ?_ | refine L_e hS (e_bin rfl rfl rfl) rfl ?_); clear hS a; intro a hS
        refine L_e hS (e_assign rfl) rfl ?_; clear hS a; intro a hS
        refine L_nil ?_
        have h1 : 48 ≤ byteAt d.data.toList k ∧ byteAt d.data.toList k ≤ 57 := by unfold byteAt; rw [Int.toNat_natCast] at *; omega
        exact ⟨k + 1, by omega, hS.slots (by exact ⟨rfl, rfl, rfl, rfl, trivial⟩), by omega, fun j hj => by by_cases e : j = k; (subst e; exact h1); exact hok j (by omega)⟩
      refine wp_exit ?_
      refine x_then (x_then (x_hit ?_))
      refine n_then (c_seq (c_region ?_))
      refine L_e hS (e_assign rfl) rfl ?_; clear hS a; intro a hS
      refine L_nil (n_then (wp_ret ?_))
      refine c_ret1 hS Tryz.results133 (.tmp rfl) ?_
      have hF : NumForm s.data.toList := by
        unfold NumForm
        rw [← hd]
        refine ⟨fun e => hg18 (nil_list.2 e), ?_, ?_, fun j hj => hok j (by omega)⟩
        · rintro ⟨u, v⟩
          unfold byteAt at v
          first | omega | (rw [Int.toNat_zero] at *; omega)
        · rintro ⟨u, v⟩
          first | exact hg31 (one_list.2 u) | omega
      exact ⟨by rw [decide_eq_true hF], hS.chg⟩
    refine L_skip_t hS rfl rfl rfl ?_; clear hS a; intro a hS
    refine L_skip_t hS rfl rfl rfl ?_; clear hS a; intro a hS
    refine L_skip_t hS rfl rfl rfl ?_; clear hS a; intro a hS
    refine L_ge hS rfl rfl (e_pk rfl rfl) rfl ?_; clear hS a; intro a hS
    refine L_e hS (e_pk rfl rfl) rfl ?_; clear hS a; intro a hS
    refine L_nil (n_then ?_)
    refine c_if_f hS rfl ?_
    refine wp_skip (n_then (c_seq (c_seq (c_region ?_))))
    refine L_e hS (e_assign rfl) rfl ?_; clear hS a; intro a hS
    refine L_nil (n_then (wp_block ?_))
    skip
    refine c_loop (γ := Nat) (fun k a w => St 53 noB w0 a w [(4, .int .i64 (k : Int)), (3, .string d), (0, .string s), (2, .bool false)] [] ∧ k ≤ d.size ∧ ∀ j, j < k → 48 ≤ byteAt d.data.toList j ∧ byteAt d.data.toList j ≤ 57) (fun k => d.size - k) 0 ⟨hS.slots ⟨rfl, rfl, rfl, rfl, trivial⟩, Nat.zero_le _, fun j hj => by omega⟩ ?_
    clear hS a; (try clear w); intro k a w hI
    obtain ⟨hS, hk, hok⟩ := hI
    refine c_seq (c_seq (c_region ?_))
    refine L_e hS (e_move rfl) rfl ?_; clear hS a; intro a hS
    refine L_e hS (e_move rfl) rfl ?_; clear hS a; intro a hS
    refine L_e hS (e_lenS rfl rfl ty_u9) rfl ?_; clear hS a; intro a hS
    refine L_e hS (e_bin rfl rfl rfl) rfl ?_; clear hS a; intro a hS
    refine L_nil (n_then ?_)
    first | refine c_ifD hS rfl (fun hc40 => ?_) (fun hc40 => ?_) | refine c_if hS rfl (fun hc40 => ?_) (fun hc40 => ?_)
    ·
      refine wp_skip (n_then (c_seq (wp_block (c_seq (c_region ?_)))))
      refine L_e hS (e_move rfl) rfl ?_; clear hS a; intro a hS
      refine L_e hS (e_move rfl) rfl ?_; clear hS a; intro a hS
      refine L_e hS (e_ixS rfl rfl ty_u9 (by omega)) rfl ?_; clear hS a; intro a hS
      refine L_e hS (e_bin rfl rfl rfl) rfl ?_; clear hS a; intro a hS
      refine L_e hS (e_move rfl) rfl ?_; clear hS a; intro a hS
      (first | refine g_splitD (t := 47) hS rfl ?_ ?_ | refine g_split (t := 47) hS rfl ?_ ?_) <;> (clear hS; intro hg47 hS)
      ·
        refine L_skip_f hS rfl rfl rfl ?_; clear hS a; intro a hS
        refine L_skip_f hS rfl rfl rfl ?_; clear hS a; intro a hS
        refine L_skip_f hS rfl rfl rfl ?_; clear hS a; intro a hS
        refine L_skip_f hS rfl rfl rfl ?_; clear hS a; intro a hS
        refine L_e hS (e_pk rfl rfl) rfl ?_; clear hS a; intro a hS
        refine L_nil (n_then ?_)
        refine c_if_t hS rfl ?_
        refine c_seq (c_region ?_)
        refine L_e hS (e_assign rfl) rfl ?_; clear hS a; intro a hS
        refine L_nil (n_then (wp_ret ?_))
        refine r_block (r_then (r_then (r_block (r_then ?_))))
        refine c_ret1 hS Tryz.results133 (.tmp rfl) ?_
        have hF : ¬ NumForm s.data.toList := by
          unfold NumForm
          rw [← hd]
          rintro ⟨h1, h2, h3, h4⟩
          have h5 := h4 k (by omega)
          unfold byteAt at h5
          rw [Int.toNat_natCast] at *
          omega
        exact ⟨by rw [decide_eq_false hF], hS.chg⟩
      refine L_ge hS rfl rfl (e_move rfl) rfl ?_; clear hS a; intro a hS
      refine L_ge hS rfl rfl (e_move rfl) rfl ?_; clear hS a; intro a hS
      refine L_ge hS rfl rfl (e_ixS rfl rfl ty_u9 (by omega)) rfl ?_; clear hS a; intro a hS
      refine L_ge hS rfl rfl (e_bin rfl rfl rfl) rfl ?_; clear hS a; intro a hS
      refine L_e hS (e_pk rfl rfl) rfl ?_; clear hS a; intro a hS
      refine L_nil (n_then ?_)
      first | refine c_ifD hS rfl (fun hc52 => ?_) (fun hc52 => ?_) | refine c_if hS rfl (fun hc52 => ?_) (fun hc52 => ?_)
      ·
        refine c_seq (c_region ?_)
        refine L_e hS (e_assign rfl) rfl ?_; clear hS a; intro a hS
        refine L_nil (n_then (wp_ret ?_))
        refine r_block (r_then (r_then (r_block (r_then ?_))))
        refine c_ret1 hS Tryz.results133 (.tmp rfl) ?_
        have hF : ¬ NumForm s.data.toList := by
          unfold NumForm
          rw [← hd]
          rintro ⟨h1, h2, h3, h4⟩
          have h5 := h4 k (by omega)
          unfold byteAt at h5
          rw [Int.toNat_natCast] at *
          omega
        exact ⟨by rw [decide_eq_false hF], hS.chg⟩
      refine wp_skip (n_block (n_then (c_region ?_)))
      refine L_e hS (e_move rfl) rfl ?_; clear hS a; intro a hS
      (first | refine L_e hS (e_binN rfl rfl rfl (by omega)) rfl ?_ | refine L_e hS (e_bin rfl rfl rfl) rfl ?_); clear hS a; intro a hS
      refine L_e hS (e_assign rfl) rfl ?_; clear hS a; intro a hS
      refine L_nil ?_
      have h1 : 48 ≤ byteAt d.data.toList k ∧ byteAt d.data.toList k ≤ 57 := by unfold byteAt; rw [Int.toNat_natCast] at *; omega
      exact ⟨k + 1, by omega, hS.slots (by exact ⟨rfl, rfl, rfl, rfl, trivial⟩), by omega, fun j hj => by by_cases e : j = k; (subst e; exact h1); exact hok j (by omega)⟩
    refine wp_exit ?_
    refine x_then (x_then (x_hit ?_))
    refine n_then (c_seq (c_region ?_))
    refine L_e hS (e_assign rfl) rfl ?_; clear hS a; intro a hS
    refine L_nil (n_then (wp_ret ?_))
    refine c_ret1 hS Tryz.results133 (.tmp rfl) ?_
    have hF : NumForm s.data.toList := by
      unfold NumForm
      rw [← hd]
      refine ⟨fun e => hg18 (nil_list.2 e), ?_, ?_, fun j hj => hok j (by omega)⟩
      · rintro ⟨u, v⟩
        unfold byteAt at v
        first | omega | (rw [Int.toNat_zero] at *; omega)
      · rintro ⟨u, v⟩
        first | exact hg31 (one_list.2 u) | omega
    exact ⟨by rw [decide_eq_true hF], hS.chg⟩
  refine L_skip_t hS rfl rfl rfl ?_; clear hS a; intro a hS
  refine L_skip_t hS rfl rfl rfl ?_; clear hS a; intro a hS
  refine L_skip_t hS rfl rfl rfl ?_; clear hS a; intro a hS
  refine L_ge hS rfl rfl (e_pk rfl rfl) rfl ?_; clear hS a; intro a hS
  refine L_e hS (e_pk rfl rfl) rfl ?_; clear hS a; intro a hS
  refine L_e hS (e_move rfl) rfl ?_; clear hS a; intro a hS
  refine L_ge hS rfl rfl (e_move rfl) rfl ?_; clear hS a; intro a hS
  refine L_ge hS rfl rfl (e_binS rfl rfl rfl) rfl ?_; clear hS a; intro a hS
  refine L_ge hS rfl rfl (e_move rfl) rfl ?_; clear hS a; intro a hS
  (first | refine g_splitD (t := 31) hS rfl ?_ ?_ | refine g_split (t := 31) hS rfl ?_ ?_) <;> (clear hS; intro hg31 hS)
  ·
    refine L_ge hS rfl rfl (e_move rfl) rfl ?_; clear hS a; intro a hS
    refine L_ge hS rfl rfl (e_lenS rfl rfl ty_u9) rfl ?_; clear hS a; intro a hS
    refine L_ge hS rfl rfl (e_bin rfl rfl rfl) rfl ?_; clear hS a; intro a hS
    refine L_ge hS rfl rfl (e_pk rfl rfl) rfl ?_; clear hS a; intro a hS
    refine L_e hS (e_pk rfl rfl) rfl ?_; clear hS a; intro a hS
    refine L_nil (n_then ?_)
    first | refine c_ifD hS rfl (fun hc36 => ?_) (fun hc36 => ?_) | refine c_if hS rfl (fun hc36 => ?_) (fun hc36 => ?_)
    ·
      refine c_seq (c_region ?_)
      refine L_e hS (e_assign rfl) rfl ?_; clear hS a; intro a hS
      refine L_nil (n_then (wp_ret (r_then ?_)))
      refine c_ret1 hS Tryz.results133 (.tmp rfl) ?_
      have hF : ¬ NumForm s.data.toList := by
        unfold NumForm
        rw [← hd]
        rintro ⟨h1, h2, h3, h4⟩
        first
        | exact h1 (nil_list.1 hg18)
        | exact h2 ⟨by omega, by unfold byteAt; rw [Int.toNat_zero] at hg28; omega⟩
        | exact h3 ⟨one_list.1 hg31, by omega⟩
      exact ⟨by rw [decide_eq_false hF], hS.chg⟩
    refine wp_skip (n_then (c_seq (c_seq (c_region ?_))))
    refine L_e hS (e_assign rfl) rfl ?_; clear hS a; intro a hS
    refine L_nil (n_then (wp_block ?_))
    skip
    refine c_loop (γ := Nat) (fun k a w => St 53 noB w0 a w [(4, .int .i64 (k : Int)), (3, .string d), (0, .string s), (2, .bool false)] [] ∧ k ≤ d.size ∧ ∀ j, j < k → 48 ≤ byteAt d.data.toList j ∧ byteAt d.data.toList j ≤ 57) (fun k => d.size - k) 0 ⟨hS.slots ⟨rfl, rfl, rfl, rfl, trivial⟩, Nat.zero_le _, fun j hj => by omega⟩ ?_
    clear hS a; (try clear w); intro k a w hI
    obtain ⟨hS, hk, hok⟩ := hI
    refine c_seq (c_seq (c_region ?_))
    refine L_e hS (e_move rfl) rfl ?_; clear hS a; intro a hS
    refine L_e hS (e_move rfl) rfl ?_; clear hS a; intro a hS
    refine L_e hS (e_lenS rfl rfl ty_u9) rfl ?_; clear hS a; intro a hS
    refine L_e hS (e_bin rfl rfl rfl) rfl ?_; clear hS a; intro a hS
    refine L_nil (n_then ?_)
    first | refine c_ifD hS rfl (fun hc40 => ?_) (fun hc40 => ?_) | refine c_if hS rfl (fun hc40 => ?_) (fun hc40 => ?_)
    ·
      refine wp_skip (n_then (c_seq (wp_block (c_seq (c_region ?_)))))
      refine L_e hS (e_move rfl) rfl ?_; clear hS a; intro a hS
      refine L_e hS (e_move rfl) rfl ?_; clear hS a; intro a hS
      refine L_e hS (e_ixS rfl rfl ty_u9 (by omega)) rfl ?_; clear hS a; intro a hS
      refine L_e hS (e_bin rfl rfl rfl) rfl ?_; clear hS a; intro a hS
      refine L_e hS (e_move rfl) rfl ?_; clear hS a; intro a hS
      (first | refine g_splitD (t := 47) hS rfl ?_ ?_ | refine g_split (t := 47) hS rfl ?_ ?_) <;> (clear hS; intro hg47 hS)
      ·
        refine L_skip_f hS rfl rfl rfl ?_; clear hS a; intro a hS
        refine L_skip_f hS rfl rfl rfl ?_; clear hS a; intro a hS
        refine L_skip_f hS rfl rfl rfl ?_; clear hS a; intro a hS
        refine L_skip_f hS rfl rfl rfl ?_; clear hS a; intro a hS
        refine L_e hS (e_pk rfl rfl) rfl ?_; clear hS a; intro a hS
        refine L_nil (n_then ?_)
        refine c_if_t hS rfl ?_
        refine c_seq (c_region ?_)
        refine L_e hS (e_assign rfl) rfl ?_; clear hS a; intro a hS
        refine L_nil (n_then (wp_ret ?_))
        refine r_block (r_then (r_then (r_block (r_then ?_))))
        refine c_ret1 hS Tryz.results133 (.tmp rfl) ?_
        have hF : ¬ NumForm s.data.toList := by
          unfold NumForm
          rw [← hd]
          rintro ⟨h1, h2, h3, h4⟩
          have h5 := h4 k (by omega)
          unfold byteAt at h5
          rw [Int.toNat_natCast] at *
          omega
        exact ⟨by rw [decide_eq_false hF], hS.chg⟩
      refine L_ge hS rfl rfl (e_move rfl) rfl ?_; clear hS a; intro a hS
      refine L_ge hS rfl rfl (e_move rfl) rfl ?_; clear hS a; intro a hS
      refine L_ge hS rfl rfl (e_ixS rfl rfl ty_u9 (by omega)) rfl ?_; clear hS a; intro a hS
      refine L_ge hS rfl rfl (e_bin rfl rfl rfl) rfl ?_; clear hS a; intro a hS
      refine L_e hS (e_pk rfl rfl) rfl ?_; clear hS a; intro a hS
      refine L_nil (n_then ?_)
      first | refine c_ifD hS rfl (fun hc52 => ?_) (fun hc52 => ?_) | refine c_if hS rfl (fun hc52 => ?_) (fun hc52 => ?_)
      ·
        refine c_seq (c_region ?_)
        refine L_e hS (e_assign rfl) rfl ?_; clear hS a; intro a hS
        refine L_nil (n_then (wp_ret ?_))
        refine r_block (r_then (r_then (r_block (r_then ?_))))
        refine c_ret1 hS Tryz.results133 (.tmp rfl) ?_
        have hF : ¬ NumForm s.data.toList := by
          unfold NumForm
          rw [← hd]
          rintro ⟨h1, h2, h3, h4⟩
          have h5 := h4 k (by omega)
          unfold byteAt at h5
          rw [Int.toNat_natCast] at *
          omega
        exact ⟨by rw [decide_eq_false hF], hS.chg⟩
      refine wp_skip (n_block (n_then (c_region ?_)))
      refine L_e hS (e_move rfl) rfl ?_; clear hS a; intro a hS
      (first | refine L_e hS (e_binN rfl rfl rfl (by omega)) rfl ?_ | refine L_e hS (e_bin rfl rfl rfl) rfl ?_); clear hS a; intro a hS
      refine L_e hS (e_assign rfl) rfl ?_; clear hS a; intro a hS
      refine L_nil ?_
      have h1 : 48 ≤ byteAt d.data.toList k ∧ byteAt d.data.toList k ≤ 57 := by unfold byteAt; rw [Int.toNat_natCast] at *; omega
      exact ⟨k + 1, by omega, hS.slots (by exact ⟨rfl, rfl, rfl, rfl, trivial⟩), by omega, fun j hj => by by_cases e : j = k; (subst e; exact h1); exact hok j (by omega)⟩
    refine wp_exit ?_
    refine x_then (x_then (x_hit ?_))
    refine n_then (c_seq (c_region ?_))
    refine L_e hS (e_assign rfl) rfl ?_; clear hS a; intro a hS
    refine L_nil (n_then (wp_ret ?_))
    refine c_ret1 hS Tryz.results133 (.tmp rfl) ?_
    have hF : NumForm s.data.toList := by
      unfold NumForm
      rw [← hd]
      refine ⟨fun e => hg18 (nil_list.2 e), ?_, ?_, fun j hj => hok j (by omega)⟩
      · rintro ⟨u, v⟩
        unfold byteAt at v
        first | omega | (rw [Int.toNat_zero] at *; omega)
      · rintro ⟨u, v⟩
        first | exact hg31 (one_list.2 u) | omega
    exact ⟨by rw [decide_eq_true hF], hS.chg⟩
  refine L_skip_t hS rfl rfl rfl ?_; clear hS a; intro a hS
  refine L_skip_t hS rfl rfl rfl ?_; clear hS a; intro a hS
  refine L_skip_t hS rfl rfl rfl ?_; clear hS a; intro a hS
  refine L_ge hS rfl rfl (e_pk rfl rfl) rfl ?_; clear hS a; intro a hS
  refine L_e hS (e_pk rfl rfl) rfl ?_; clear hS a; intro a hS
  refine L_nil (n_then ?_)
  refine c_if_f hS rfl ?_
  refine wp_skip (n_then (c_seq (c_seq (c_region ?_))))
  refine L_e hS (e_assign rfl) rfl ?_; clear hS a; intro a hS
  refine L_nil (n_then (wp_block ?_))
  skip
  refine c_loop (γ := Nat) (fun k a w => St 53 noB w0 a w [(4, .int .i64 (k : Int)), (3, .string d), (0, .string s), (2, .bool false)] [] ∧ k ≤ d.size ∧ ∀ j, j < k → 48 ≤ byteAt d.data.toList j ∧ byteAt d.data.toList j ≤ 57) (fun k => d.size - k) 0 ⟨hS.slots ⟨rfl, rfl, rfl, rfl, trivial⟩, Nat.zero_le _, fun j hj => by omega⟩ ?_
  clear hS a; (try clear w); intro k a w hI
  obtain ⟨hS, hk, hok⟩ := hI
  refine c_seq (c_seq (c_region ?_))
  refine L_e hS (e_move rfl) rfl ?_; clear hS a; intro a hS
  refine L_e hS (e_move rfl) rfl ?_; clear hS a; intro a hS
  refine L_e hS (e_lenS rfl rfl ty_u9) rfl ?_; clear hS a; intro a hS
  refine L_e hS (e_bin rfl rfl rfl) rfl ?_; clear hS a; intro a hS
  refine L_nil (n_then ?_)
  first | refine c_ifD hS rfl (fun hc40 => ?_) (fun hc40 => ?_) | refine c_if hS rfl (fun hc40 => ?_) (fun hc40 => ?_)
  ·
    refine wp_skip (n_then (c_seq (wp_block (c_seq (c_region ?_)))))
    refine L_e hS (e_move rfl) rfl ?_; clear hS a; intro a hS
    refine L_e hS (e_move rfl) rfl ?_; clear hS a; intro a hS
    refine L_e hS (e_ixS rfl rfl ty_u9 (by omega)) rfl ?_; clear hS a; intro a hS
    refine L_e hS (e_bin rfl rfl rfl) rfl ?_; clear hS a; intro a hS
    refine L_e hS (e_move rfl) rfl ?_; clear hS a; intro a hS
    (first | refine g_splitD (t := 47) hS rfl ?_ ?_ | refine g_split (t := 47) hS rfl ?_ ?_) <;> (clear hS; intro hg47 hS)
    ·
      refine L_skip_f hS rfl rfl rfl ?_; clear hS a; intro a hS
      refine L_skip_f hS rfl rfl rfl ?_; clear hS a; intro a hS
      refine L_skip_f hS rfl rfl rfl ?_; clear hS a; intro a hS
      refine L_skip_f hS rfl rfl rfl ?_; clear hS a; intro a hS
      refine L_e hS (e_pk rfl rfl) rfl ?_; clear hS a; intro a hS
      refine L_nil (n_then ?_)
      refine c_if_t hS rfl ?_
      refine c_seq (c_region ?_)
      refine L_e hS (e_assign rfl) rfl ?_; clear hS a; intro a hS
      refine L_nil (n_then (wp_ret ?_))
      refine r_block (r_then (r_then (r_block (r_then ?_))))
      refine c_ret1 hS Tryz.results133 (.tmp rfl) ?_
      have hF : ¬ NumForm s.data.toList := by
        unfold NumForm
        rw [← hd]
        rintro ⟨h1, h2, h3, h4⟩
        have h5 := h4 k (by omega)
        unfold byteAt at h5
        rw [Int.toNat_natCast] at *
        omega
      exact ⟨by rw [decide_eq_false hF], hS.chg⟩
    refine L_ge hS rfl rfl (e_move rfl) rfl ?_; clear hS a; intro a hS
    refine L_ge hS rfl rfl (e_move rfl) rfl ?_; clear hS a; intro a hS
    refine L_ge hS rfl rfl (e_ixS rfl rfl ty_u9 (by omega)) rfl ?_; clear hS a; intro a hS
    refine L_ge hS rfl rfl (e_bin rfl rfl rfl) rfl ?_; clear hS a; intro a hS
    refine L_e hS (e_pk rfl rfl) rfl ?_; clear hS a; intro a hS
    refine L_nil (n_then ?_)
    first | refine c_ifD hS rfl (fun hc52 => ?_) (fun hc52 => ?_) | refine c_if hS rfl (fun hc52 => ?_) (fun hc52 => ?_)
    ·
      refine c_seq (c_region ?_)
      refine L_e hS (e_assign rfl) rfl ?_; clear hS a; intro a hS
      refine L_nil (n_then (wp_ret ?_))
      refine r_block (r_then (r_then (r_block (r_then ?_))))
      refine c_ret1 hS Tryz.results133 (.tmp rfl) ?_
      have hF : ¬ NumForm s.data.toList := by
        unfold NumForm
        rw [← hd]
        rintro ⟨h1, h2, h3, h4⟩
        have h5 := h4 k (by omega)
        unfold byteAt at h5
        rw [Int.toNat_natCast] at *
        omega
      exact ⟨by rw [decide_eq_false hF], hS.chg⟩
    refine wp_skip (n_block (n_then (c_region ?_)))
    refine L_e hS (e_move rfl) rfl ?_; clear hS a; intro a hS
    (first | refine L_e hS (e_binN rfl rfl rfl (by omega)) rfl ?_ | refine L_e hS (e_bin rfl rfl rfl) rfl ?_); clear hS a; intro a hS
    refine L_e hS (e_assign rfl) rfl ?_; clear hS a; intro a hS
    refine L_nil ?_
    have h1 : 48 ≤ byteAt d.data.toList k ∧ byteAt d.data.toList k ≤ 57 := by unfold byteAt; rw [Int.toNat_natCast] at *; omega
    exact ⟨k + 1, by omega, hS.slots (by exact ⟨rfl, rfl, rfl, rfl, trivial⟩), by omega, fun j hj => by by_cases e : j = k; (subst e; exact h1); exact hok j (by omega)⟩
  refine wp_exit ?_
  refine x_then (x_then (x_hit ?_))
  refine n_then (c_seq (c_region ?_))
  refine L_e hS (e_assign rfl) rfl ?_; clear hS a; intro a hS
  refine L_nil (n_then (wp_ret ?_))
  refine c_ret1 hS Tryz.results133 (.tmp rfl) ?_
  have hF : NumForm s.data.toList := by
    unfold NumForm
    rw [← hd]
    refine ⟨fun e => hg18 (nil_list.2 e), ?_, ?_, fun j hj => hok j (by omega)⟩
    · rintro ⟨u, v⟩
      unfold byteAt at v
      first | omega | (rw [Int.toNat_zero] at *; omega)
    · rintro ⟨u, v⟩
      first | exact hg31 (one_list.2 u) | omega
  exact ⟨by rw [decide_eq_true hF], hS.chg⟩
end Go.Proofs.YtheofhegdjjfgaaGreat

namespace Go.Proofs.YtheofhegdjjfgaaGreat
open Go.RowKit
def dvStep (a : Nat) (c : UInt8) : Nat := 10 * a + (c.toNat - 48)
def dv (l : List UInt8) : Nat := l.foldl dvStep 0
theorem dv_snoc (l : List UInt8) (c : UInt8) : dv (l ++ [c]) = 10 * dv l + (c.toNat - 48) := by unfold dv; rw [List.foldl_append]; rfl
theorem fold_ge : ∀ (b : List UInt8) (x : Nat), x ≤ b.foldl dvStep x
  | [], _ => Nat.le_refl _
  | c :: r, x => by
    have := fold_ge r (dvStep x c)
    rw [List.foldl_cons]
    have h : x ≤ dvStep x c := by unfold dvStep; omega
    omega
theorem fold_lo : ∀ (b : List UInt8) (x : Nat), x * 10 ^ b.length ≤ b.foldl dvStep x
  | [], x => by simp
  | c :: r, x => by
    have := fold_lo r (dvStep x c)
    rw [List.foldl_cons, List.length_cons, Nat.pow_succ]
    have h : 10 * x ≤ dvStep x c := by unfold dvStep; omega
    have h2 := Nat.mul_le_mul_right (10 ^ r.length) h
    rw [show x * (10 ^ r.length * 10) = 10 * x * 10 ^ r.length by rw [Nat.mul_comm (10 ^ r.length) 10, ← Nat.mul_assoc, Nat.mul_comm x 10]]
    omega
theorem dv_take {l : List UInt8} (k : Nat) : dv (l.take k) ≤ dv l := by
  have h := fold_ge (l.drop k) (dv (l.take k))
  unfold dv at *
  rw [← List.foldl_append, List.take_append_drop] at h
  exact h
theorem dv_succ {l : List UInt8} {k : Nat} (hk : k < l.length) : dv (l.take (k + 1)) = 10 * dv (l.take k) + (byteAt l k - 48) := by
  rw [List.take_succ_eq_append_getElem hk, dv_snoc]
  unfold byteAt
  rw [List.getD_eq_getElem?_getD, List.getElem?_eq_getElem hk]; rfl
theorem dv_long {l : List UInt8} (h : 20 ≤ l.length) (h0 : 49 ≤ byteAt l 0) : 9223372036854775808 < dv l := by
  cases l with
  | nil => simp at h
  | cons c r =>
    have h1 := fold_lo r (dvStep 0 c)
    have h2 : 1 ≤ dvStep 0 c := by unfold dvStep; unfold byteAt at h0; simp at h0; omega
    have h3 : 10 ^ 19 ≤ 10 ^ r.length := Nat.pow_le_pow_right (by decide) (by simp at h; omega)
    have h4 := Nat.mul_le_mul h2 h3
    unfold dv
    rw [List.foldl_cons]
    omega
theorem wrap_byte {m : Int} (h : 0 ≤ m ∧ m ≤ 255) : IntKind.u8.wrap m = m := IntWalk.u8_in _ h
theorem neg_quo {m : Int} (h : 0 ≤ m) : (-m).tdiv 10 = -(m / 10) := by rw [Int.neg_tdiv, Int.tdiv_eq_ediv_of_nonneg h]
def numVal (l : List UInt8) : Int := if byteAt l 0 = 45 then -(dv (numBody l) : Int) else dv (numBody l)
def atoiR (l : List UInt8) : Int × Bool := if NumForm l ∧ -9223372036854775808 ≤ numVal l ∧ numVal l ≤ 9223372036854775807 then (numVal l, true) else (0, false)
set_option maxRecDepth 100000 in
set_option maxHeartbeats 1000000 in
theorem Atoi_P (s : ByteArray) (hs : s.size ≤ 4611686018427387904) (w0 : World) : PureC Tryz.prog 121 [.string s] w0 (.tuple [.int .i64 (atoiR s.data.toList).1, .bool (atoiR s.data.toList).2].toArray) := by
  have hl := size_list s
  refine c_enter [(0, .string s)] [] noB Tryz.func121 rfl Tryz.ntmps121 ⟨rfl, trivial⟩ rfl (by simp) (by simp) (by simp) ?_
  intro a hS
  refine c_seq (c_region ?_)
  refine L_e hS (e_assign rfl) rfl ?_; clear hS a; intro a hS
  refine L_e hS (e_assign rfl) rfl ?_; clear hS a; intro a hS
  refine L_nil (n_then (c_seq (c_region ?_)))
  refine L_e hS (e_move rfl) rfl ?_; clear hS a; intro a hS
  refine L_op (s_callP hS (.cons rfl .nil) cf133 rfl (NumberForm_P s hs _) ?_); clear hS a; (try clear w); intro a w hS
  refine L_e hS (e_assign rfl) rfl ?_; clear hS a; intro a hS
  refine L_nil (n_then (c_seq (c_seq (c_region ?_))))
  refine L_e hS (e_move rfl) rfl ?_; clear hS a; intro a hS
  refine L_e hS (e_not rfl) rfl ?_; clear hS a; intro a hS
  refine L_nil (n_then ?_)
  first | refine c_ifD hS rfl (fun hc13 => ?_) (fun hc13 => ?_) | refine c_if hS rfl (fun hc13 => ?_) (fun hc13 => ?_)
  ·
    have hF : ¬ NumForm s.data.toList := by simpa using hc13
    refine c_seq (c_region ?_)
    refine L_e hS (e_assign rfl) rfl ?_; clear hS a; intro a hS
    refine L_e hS (e_assign rfl) rfl ?_; clear hS a; intro a hS
    refine L_nil (n_then (wp_ret (r_then ?_)))
    refine c_retN hS Tryz.results121 (.cons (.tmp rfl) (.cons (.tmp rfl) .nil)) rfl ?_
    exact ⟨by unfold atoiR; rw [if_neg (fun h => hF h.1)], hS.chg⟩
  have hF : NumForm s.data.toList := by simpa using hc13
  have hpos : 0 < s.size := by
    have h1 := hF.1
    by_cases h0 : s.size = 0
    · have : s.data.toList = [] := List.eq_nil_of_length_eq_zero (by omega)
      rw [this] at h1
      exact absurd rfl h1
    · omega
  have hneg : byteAt s.data.toList 0 = 45 → 1 < s.data.toList.length := by
    intro h1
    by_cases h2 : 1 < s.data.toList.length
    · exact h2
    · have h3 : numBody s.data.toList = s.data.toList := by unfold numBody; rw [if_neg (by omega)]
      have h4 := hF.2.2.2 0 (by rw [h3]; omega)
      rw [h3] at h4
      omega
  refine wp_skip (n_then (c_seq (c_region ?_)))
  refine L_e hS (e_move rfl) rfl ?_; clear hS a; intro a hS
  refine L_e hS (e_ixS rfl rfl ty_u9 (by omega)) rfl ?_; clear hS a; intro a hS
  refine L_e hS (e_bin rfl rfl rfl) rfl ?_; clear hS a; intro a hS
  refine L_e hS (e_assign rfl) rfl ?_; clear hS a; intro a hS
  refine L_nil (n_then (c_seq (c_region ?_)))
  refine L_e hS (e_move rfl) rfl ?_; clear hS a; intro a hS
  refine L_e hS (e_assign rfl) rfl ?_; clear hS a; intro a hS
  refine L_nil (n_then ?_)
  refine c_cut (fun a w => ∃ d : ByteArray, St 50 noB w0 a w [(6, .string d), (5, .bool (decide ((byteAt s.data.toList 0 : Int) = 45))), (0, .string s), (2, .int .i64 0), (3, .bool false)] [] ∧ d.data.toList = numBody s.data.toList) ?_ ?_
  ·
    refine c_seq (c_region ?_)
    refine L_e hS (e_move rfl) rfl ?_; clear hS a; intro a hS
    refine L_nil (n_then ?_)
    first | refine c_ifD hS rfl (fun hc18 => ?_) (fun hc18 => ?_) | refine c_if hS rfl (fun hc18 => ?_) (fun hc18 => ?_)
    ·
      refine c_region ?_
      refine L_e hS (e_move rfl) rfl ?_; clear hS a; intro a hS
      refine L_e hS (e_slSf rfl rfl ty_u9 (by omega)) rfl ?_; clear hS a; intro a hS
      refine L_e hS (e_assign rfl) rfl ?_; clear hS a; intro a hS
      refine L_nil ?_
      first
      | (
        have h45 : byteAt s.data.toList 0 = 45 := by unfold byteAt; rw [Int.toNat_zero] at hc18; omega
        exact ⟨_, hS.slots (by exact ⟨rfl, rfl, rfl, rfl, rfl, trivial⟩), by unfold numBody; rw [if_pos ⟨hneg h45, h45⟩]; exact drop_one s⟩)
      | exact ⟨_, hS.slots (by exact ⟨rfl, rfl, rfl, rfl, rfl, trivial⟩), by unfold numBody; rw [if_neg (by rintro ⟨_, u⟩; unfold byteAt at u; rw [Int.toNat_zero] at hc18; omega)]⟩
    refine wp_skip ?_
    first
    | (
      have h45 : byteAt s.data.toList 0 = 45 := by unfold byteAt; rw [Int.toNat_zero] at hc18; omega
      exact ⟨_, hS.slots (by exact ⟨rfl, rfl, rfl, rfl, rfl, trivial⟩), by unfold numBody; rw [if_pos ⟨hneg h45, h45⟩]; exact drop_one s⟩)
    | exact ⟨_, hS.slots (by exact ⟨rfl, rfl, rfl, rfl, rfl, trivial⟩), by unfold numBody; rw [if_neg (by rintro ⟨_, u⟩; unfold byteAt at u; rw [Int.toNat_zero] at hc18; omega)]⟩
  clear hS a; (try clear w); intro a w hS
  obtain ⟨d, hS, hd⟩ := hS
  have hld := size_list d
  have hds : d.size ≤ s.size := by
    rw [← hld, hd]; unfold numBody; split
    · rw [List.length_drop]; omega
    · omega
  have hF1 := hF.1
  have hF2 := hF.2.1
  have hF4 := hF.2.2.2
  rw [← hd] at hF1 hF2 hF4
  have hv : numVal s.data.toList = if byteAt s.data.toList 0 = 45 then -(dv d.data.toList : Int) else dv d.data.toList := by unfold numVal; rw [hd]
  refine c_seq (c_seq (c_region ?_))
  refine L_e hS (e_move rfl) rfl ?_; clear hS a; intro a hS
  refine L_e hS (e_lenS rfl rfl ty_u9) rfl ?_; clear hS a; intro a hS
  refine L_e hS (e_bin rfl rfl rfl) rfl ?_; clear hS a; intro a hS
  refine L_nil (n_then ?_)
  first | refine c_ifD hS rfl (fun hc23 => ?_) (fun hc23 => ?_) | refine c_if hS rfl (fun hc23 => ?_) (fun hc23 => ?_)
  ·
    have hno : atoiR s.data.toList = (0, false) := by
      have h1 := hF4 0 (by omega)
      have h2 := dv_long (l := d.data.toList) (by omega) (by
        have h3 : ¬ byteAt d.data.toList 0 = 48 := fun e => hF2 ⟨by omega, e⟩
        omega)
      unfold atoiR
      rw [if_neg]
      rintro ⟨_, u, v⟩
      rw [hv] at u v
      split at u <;> omega
    refine c_seq (c_region ?_)
    refine L_e hS (e_assign rfl) rfl ?_; clear hS a; intro a hS
    refine L_e hS (e_assign rfl) rfl ?_; clear hS a; intro a hS
    refine L_nil (n_then (wp_ret (r_then ?_)))
    refine c_retN hS Tryz.results121 (.cons (.tmp rfl) (.cons (.tmp rfl) .nil)) rfl ?_
    exact ⟨by rw [hno], hS.chg⟩
  refine wp_skip (n_then (c_seq (c_region ?_)))
  refine L_e hS (e_assign rfl) rfl ?_; clear hS a; intro a hS
  refine L_nil (n_then (c_seq (c_seq (c_region ?_))))
  refine L_e hS (e_assign rfl) rfl ?_; clear hS a; intro a hS
  refine L_nil (n_then (wp_block ?_))
  skip
  refine c_loop (γ := Nat) (fun k a w => St 50 noB w0 a w [(8, .int .i64 (k : Int)), (7, .int .i64 (-(dv (d.data.toList.take k) : Int))), (6, .string d), (5, .bool (decide ((byteAt s.data.toList 0 : Int) = 45))), (0, .string s), (2, .int .i64 0), (3, .bool false)] [] ∧ k ≤ d.size ∧ dv (d.data.toList.take k) ≤ 9223372036854775808) (fun k => d.size - k) 0 ⟨hS.slots (by exact ⟨rfl, rfl, rfl, rfl, rfl, rfl, rfl, trivial⟩), Nat.zero_le _, by simp [dv]⟩ ?_
  clear hS a; (try clear w); intro k a w hI
  obtain ⟨hS, hk, hb⟩ := hI
  refine c_seq (c_seq (c_region ?_))
  refine L_e hS (e_move rfl) rfl ?_; clear hS a; intro a hS
  refine L_e hS (e_move rfl) rfl ?_; clear hS a; intro a hS
  refine L_e hS (e_lenS rfl rfl ty_u9) rfl ?_; clear hS a; intro a hS
  refine L_e hS (e_bin rfl rfl rfl) rfl ?_; clear hS a; intro a hS
  refine L_nil (n_then ?_)
  first | refine c_ifD hS rfl (fun hc27 => ?_) (fun hc27 => ?_) | refine c_if hS rfl (fun hc27 => ?_) (fun hc27 => ?_)
  ·
    have hx := hF4 k (by omega)
    have hs1 := dv_succ (l := d.data.toList) (k := k) (by omega)
    have hxe : ((d.data.toList.getD (k : Int).toNat 0).toNat : Int) = (byteAt d.data.toList k : Int) := by unfold byteAt; rw [Int.toNat_natCast]
    refine wp_skip (n_then (c_seq (wp_block (c_seq (c_region ?_)))))
    refine L_e hS (e_move rfl) rfl ?_; clear hS a; intro a hS
    refine L_e hS (e_move rfl) rfl ?_; clear hS a; intro a hS
    refine L_e hS (e_ixS rfl rfl ty_u9 (by omega)) rfl ?_; clear hS a; intro a hS
    rw [hxe] at hS
    (first | refine L_e hS (e_binN rfl rfl rfl (by omega)) rfl ?_ | refine L_e hS (e_bin rfl rfl rfl) rfl ?_); clear hS a; intro a hS
    rw [wrap_byte (by omega)] at hS
    (first | refine L_e hS (e_convN rfl ty_u5 ty_u3 (by omega)) rfl ?_ | refine L_e hS (e_conv rfl ty_u5 ty_u3) rfl ?_); clear hS a; intro a hS
    refine L_e hS (e_assign rfl) rfl ?_; clear hS a; intro a hS
    refine L_nil (n_then (c_seq (c_seq (c_region ?_))))
    refine L_e hS (e_move rfl) rfl ?_; clear hS a; intro a hS
    refine L_e hS (e_move rfl) rfl ?_; clear hS a; intro a hS
    (first | refine L_e hS (e_binN rfl rfl rfl (by omega)) rfl ?_ | refine L_e hS (e_bin rfl rfl rfl) rfl ?_); clear hS a; intro a hS
    refine L_e hS (e_quo rfl rfl (by decide)) rfl ?_; clear hS a; intro a hS
    have hq : ((-9223372036854775808 : Int) + ((byteAt d.data.toList k : Int) - 48)).tdiv 10 = -((9223372036854775808 - ((byteAt d.data.toList k : Int) - 48)) / 10) := by
      rw [show (-9223372036854775808 : Int) + ((byteAt d.data.toList k : Int) - 48) = -(9223372036854775808 - ((byteAt d.data.toList k : Int) - 48)) by omega]
      exact neg_quo (by omega)
    rw [hq, wrap_fit (by omega)] at hS
    refine L_e hS (e_bin rfl rfl rfl) rfl ?_; clear hS a; intro a hS
    refine L_nil (n_then ?_)
    first | refine c_ifD hS rfl (fun hc39 => ?_) (fun hc39 => ?_) | refine c_if hS rfl (fun hc39 => ?_) (fun hc39 => ?_)
    ·
      have hno : atoiR s.data.toList = (0, false) := by
        have h2 := dv_take (l := d.data.toList) (k + 1)
        have h3 : 9223372036854775808 < dv (d.data.toList.take (k + 1)) := by omega
        unfold atoiR
        rw [if_neg]
        rintro ⟨_, u, v⟩
        rw [hv] at u v
        split at u <;> omega
      refine c_seq (c_region ?_)
      refine L_e hS (e_assign rfl) rfl ?_; clear hS a; intro a hS
      refine L_e hS (e_assign rfl) rfl ?_; clear hS a; intro a hS
      refine L_nil (n_then (wp_ret ?_))
      refine r_then (r_block (r_then (r_then (r_block (r_then ?_)))))
      refine c_retN hS Tryz.results121 (.cons (.tmp rfl) (.cons (.tmp rfl) .nil)) rfl ?_
      exact ⟨by rw [hno], hS.chg⟩
    refine wp_skip (n_then (c_region ?_))
    refine L_e hS (e_move rfl) rfl ?_; clear hS a; intro a hS
    (first | refine L_e hS (e_binN rfl rfl rfl (by omega)) rfl ?_ | refine L_e hS (e_bin rfl rfl rfl) rfl ?_); clear hS a; intro a hS
    refine L_e hS (e_move rfl) rfl ?_; clear hS a; intro a hS
    (first | refine L_e hS (e_binN rfl rfl rfl (by omega)) rfl ?_ | refine L_e hS (e_bin rfl rfl rfl) rfl ?_); clear hS a; intro a hS
    refine L_e hS (e_assign rfl) rfl ?_; clear hS a; intro a hS
    refine L_nil (n_block (n_then (c_region ?_)))
    refine L_e hS (e_move rfl) rfl ?_; clear hS a; intro a hS
    (first | refine L_e hS (e_binN rfl rfl rfl (by omega)) rfl ?_ | refine L_e hS (e_bin rfl rfl rfl) rfl ?_); clear hS a; intro a hS
    refine L_e hS (e_assign rfl) rfl ?_; clear hS a; intro a hS
    refine L_nil ?_
    have e7 : 10 * -(dv (d.data.toList.take k) : Int) - ((byteAt d.data.toList k : Int) - 48) = -(dv (d.data.toList.take (k + 1)) : Int) := by rw [hs1]; omega
    rw [e7] at hS
    exact ⟨k + 1, by omega, hS.slots (by exact ⟨rfl, rfl, rfl, rfl, rfl, rfl, rfl, trivial⟩), by omega, by rw [hs1]; omega⟩
  obtain rfl : k = d.size := by omega
  rw [List.take_of_length_le (by omega)] at hS hb
  clear hk
  refine wp_exit ?_
  refine x_then (x_then (x_hit ?_))
  refine n_then (c_seq (c_seq (c_region ?_)))
  refine L_e hS (e_move rfl) rfl ?_; clear hS a; intro a hS
  refine L_nil (n_then ?_)
  first | refine c_ifD hS rfl (fun hc44 => ?_) (fun hc44 => ?_) | refine c_if hS rfl (fun hc44 => ?_) (fun hc44 => ?_)
  ·
    refine c_seq (c_region ?_)
    refine L_e hS (e_move rfl) rfl ?_; clear hS a; intro a hS
    refine L_e hS (e_assign rfl) rfl ?_; clear hS a; intro a hS
    refine L_e hS (e_assign rfl) rfl ?_; clear hS a; intro a hS
    refine L_nil (n_then (wp_ret (r_then ?_)))
    refine c_retN hS Tryz.results121 (.cons (.tmp rfl) (.cons (.tmp rfl) .nil)) rfl ?_
    have hyes : atoiR s.data.toList = (-(dv d.data.toList : Int), true) := by
      have e : numVal s.data.toList = -(dv d.data.toList : Int) := by rw [hv, if_pos (by omega)]
      unfold atoiR
      rw [e, if_pos ⟨hF, by omega, by omega⟩]
    exact ⟨by rw [hyes], hS.chg⟩
  refine wp_skip (n_then (c_seq (c_seq (c_region ?_))))
  refine L_e hS (e_move rfl) rfl ?_; clear hS a; intro a hS
  refine L_e hS (e_bin rfl rfl rfl) rfl ?_; clear hS a; intro a hS
  refine L_nil (n_then ?_)
  first | refine c_ifD hS rfl (fun hc47 => ?_) (fun hc47 => ?_) | refine c_if hS rfl (fun hc47 => ?_) (fun hc47 => ?_)
  ·
    refine c_seq (c_region ?_)
    refine L_e hS (e_assign rfl) rfl ?_; clear hS a; intro a hS
    refine L_e hS (e_assign rfl) rfl ?_; clear hS a; intro a hS
    refine L_nil (n_then (wp_ret (r_then ?_)))
    refine c_retN hS Tryz.results121 (.cons (.tmp rfl) (.cons (.tmp rfl) .nil)) rfl ?_
    have hno : atoiR s.data.toList = (0, false) := by
      have e : numVal s.data.toList = (dv d.data.toList : Int) := by rw [hv, if_neg (by omega)]
      unfold atoiR
      rw [e, if_neg (by rintro ⟨_, _, u⟩; omega)]
    exact ⟨by rw [hno], hS.chg⟩
  refine wp_skip (n_then (c_seq (c_region ?_)))
  refine L_e hS (e_move rfl) rfl ?_; clear hS a; intro a hS
  refine L_e hS (e_neg rfl) rfl ?_; clear hS a; intro a hS
  rw [wrap_fit (by omega)] at hS
  refine L_e hS (e_assign rfl) rfl ?_; clear hS a; intro a hS
  refine L_e hS (e_assign rfl) rfl ?_; clear hS a; intro a hS
  refine L_nil (n_then (wp_ret ?_))
  refine c_retN hS Tryz.results121 (.cons (.tmp rfl) (.cons (.tmp rfl) .nil)) rfl ?_
  have hyes : atoiR s.data.toList = ((dv d.data.toList : Int), true) := by
    have e : numVal s.data.toList = (dv d.data.toList : Int) := by rw [hv, if_neg (by omega)]
    unfold atoiR
    rw [e, if_pos ⟨hF, by omega, by omega⟩]
  exact ⟨by rw [hyes]; simp, hS.chg⟩
end Go.Proofs.YtheofhegdjjfgaaGreat

namespace Go.Proofs.YtheofhegdjjfgaaGreat
open Go.RowKit
theorem dig_nat (n : Nat) : (Wd.dig n).toNat = 48 + n % 10 := by
  unfold Wd.dig
  rw [UInt8.toNat_ofNat']
  omega
theorem dv_dg (n : Nat) : dv (Wd.dg n) = n := by
  induction n using Nat.strongRecOn with
  | ind n ih =>
    by_cases h : n = 0
    · subst h; rw [Wd.dg_zero]; rfl
    · rw [Wd.dg_pos n h, dv_snoc, ih (n / 10) (by omega), dig_nat]; omega
theorem dg_byte (n : Nat) : ∀ c ∈ Wd.dg n, 48 ≤ c.toNat ∧ c.toNat ≤ 57 := by
  induction n using Nat.strongRecOn with
  | ind n ih =>
    by_cases h : n = 0
    · subst h; rw [Wd.dg_zero]; intro c hc; cases hc
    · rw [Wd.dg_pos n h]
      intro c hc
      rcases List.mem_append.1 hc with hc | hc
      · exact ih (n / 10) (by omega) c hc
      · obtain rfl := List.mem_singleton.1 hc
        rw [dig_nat]; omega
theorem dg_head (n : Nat) (h : n ≠ 0) : 49 ≤ byteAt (Wd.dg n) 0 := by
  induction n using Nat.strongRecOn with
  | ind n ih =>
    rw [Wd.dg_pos n h]
    by_cases h0 : n / 10 = 0
    · rw [h0, Wd.dg_zero]
      show 49 ≤ (Wd.dig n).toNat
      rw [dig_nat]; omega
    · have h1 := ih (n / 10) (by omega) h0
      have h2 := Wd.dg_ne (n / 10) h0
      unfold byteAt at *
      cases hd : Wd.dg (n / 10) with
      | nil => exact absurd hd h2
      | cons c r => rw [hd] at h1; exact h1
theorem byteAt_mem {l : List UInt8} {j : Nat} (h : j < l.length) : ∃ c ∈ l, byteAt l j = c.toNat := by
  refine ⟨l[j], List.getElem_mem h, ?_⟩
  unfold byteAt
  rw [List.getD_eq_getElem?_getD, List.getElem?_eq_getElem h]; rfl
theorem ab_nat (z : Int) : (Wd.ab z).toNat = z.natAbs := by unfold Wd.ab; split <;> omega
theorem text_body (z : Int) (h : z ≠ 0) : numBody (Wd.text z) = Wd.dg z.natAbs ∧ (byteAt (Wd.text z) 0 = 45 ↔ z < 0) ∧ (1 < (Wd.text z).length ∨ 0 ≤ z) := by
  have hn : z.natAbs ≠ 0 := by omega
  have h1 := dg_head z.natAbs hn
  have h2 := Wd.dg_ne z.natAbs hn
  unfold Wd.text
  rw [if_neg h, ab_nat]
  by_cases h0 : z < 0
  · rw [if_pos h0]
    have hl : 0 < (Wd.dg z.natAbs).length := List.length_pos_iff.2 h2
    refine ⟨?_, ⟨fun _ => h0, fun _ => rfl⟩, .inl (by simp; omega)⟩
    unfold numBody
    rw [if_pos ⟨by simp; omega, rfl⟩]; rfl
  · rw [if_neg h0]
    refine ⟨?_, ⟨fun e => by omega, fun e => absurd e h0⟩, .inr (by omega)⟩
    unfold numBody
    rw [if_neg (by rintro ⟨_, e⟩; omega)]
theorem text_form (z : Int) : NumForm (Wd.text z) ∧ numVal (Wd.text z) = z := by
  by_cases h : z = 0
  · subst h; exact ⟨by decide, by decide⟩
  · have hn : z.natAbs ≠ 0 := by omega
    obtain ⟨b1, b2, b3⟩ := text_body z h
    have h1 := dg_head z.natAbs hn
    refine ⟨⟨?_, ?_, ?_, ?_⟩, ?_⟩
    · rw [b1]; exact Wd.dg_ne z.natAbs hn
    · rw [b1]; rintro ⟨_, e⟩; omega
    · rw [b1]; rintro ⟨e, _⟩; rw [e] at h1; exact absurd h1 (by decide)
    · rw [b1]
      intro j hj
      obtain ⟨c, hc, e⟩ := byteAt_mem hj
      rw [e]; exact dg_byte _ c hc
    · unfold numVal
      rw [b1, dv_dg]
      by_cases h0 : z < 0
      · rw [if_pos (b2.2 h0)]; omega
      · rw [if_neg (fun e => h0 (b2.1 e))]; omega
def i64R (z : Int) : Int × Bool := if -9223372036854775808 ≤ z ∧ z ≤ 9223372036854775807 then (z, true) else (0, false)
theorem atoi_text (z : Int) : atoiR (Wd.text z) = i64R z := by
  obtain ⟨h1, h2⟩ := text_form z
  unfold atoiR i64R
  rw [h2]
  by_cases h : -9223372036854775808 ≤ z ∧ z ≤ 9223372036854775807
  · rw [if_pos ⟨h1, h⟩, if_pos h]
  · rw [if_neg (fun e => h e.2), if_neg h]
theorem text_size {z : Int} (hz : (dgs z.natAbs).length ≤ 1000) : (Wd.text z).length ≤ 4001 := by
  have hd := dg_size _ z.natAbs dgs_hi
  unfold Wd.text
  rw [ab_nat]
  split
  · simp
  · split
    · rw [List.length_cons]; omega
    · omega
set_option maxRecDepth 100000 in
theorem BigInt_P (p : Option (Nat × Nat)) (c : Nat) (z : Int) (hz : (dgs z.natAbs).length ≤ 1000) (w0 : World) (h : (oneA p (dgs z.natAbs)).ok w0) :
    PureC Tryz.prog 99 [bigV z p c] w0 (.tuple [.int .i64 (i64R z).1, .bool (i64R z).2].toArray) := by
  have hsz := text_size hz
  refine c_enter [(0, bigV z p c)] [oneA p (dgs z.natAbs)] noB Tryz.func99 rfl Tryz.ntmps99 ⟨rfl, trivial⟩ rfl (by intro X hX; obtain rfl := List.mem_singleton.1 hX; exact h) (by simp) (by intro X hX hm; obtain rfl := List.mem_singleton.1 hX; cases hm) ?_
  intro a hS
  refine c_seq (c_region ?_)
  refine L_op (s_boxA hS rfl rfl ?_); clear hS a; (try clear w); intro a w b1 hS
  refine L_e hS (e_assign rfl) rfl ?_; clear hS a; intro a hS
  refine L_e hS (e_assign rfl) rfl ?_; clear hS a; intro a hS
  refine L_nil (n_then (c_seq (c_region ?_)))
  refine L_e hS (e_loadA rfl (by repeat constructor) ty_st139 ty_sz139 (by rfl)) rfl ?_; clear hS a; intro a hS
  refine L_op (s_callP hS (.cons rfl .nil) cf122 rfl (BigText_P p c z hz _ (hS.ok _ (by repeat (first | exact .head _ | refine .tail _ ?_)))) ?_); clear hS a; (try clear w); intro a w hS
  refine L_op (s_callP hS (.cons rfl .nil) cf121 rfl (Atoi_P ⟨(Wd.text z).toArray⟩ (by show (Wd.text z).toArray.size ≤ _; simp; omega) _) ?_); clear hS a; (try clear w); intro a w hS
  simp only [atoi_text] at hS
  refine L_e hS (e_extract rfl rfl) rfl ?_; clear hS a; intro a hS
  refine L_e hS (e_extract rfl rfl) rfl ?_; clear hS a; intro a hS
  refine L_e hS (e_assign rfl) rfl ?_; clear hS a; intro a hS
  refine L_e hS (e_assign rfl) rfl ?_; clear hS a; intro a hS
  refine L_nil (n_then (wp_ret ?_))
  refine c_retN hS Tryz.results99 (.cons (.tmp rfl) (.cons (.tmp rfl) .nil)) rfl ?_
  exact ⟨rfl, hS.chg⟩
end Go.Proofs.YtheofhegdjjfgaaGreat

namespace Go.Proofs.YtheofhegdjjfgaaGreat
open Go.RowKit
theorem units_iff (z : Int) : inU z ↔ ((i64R z).2 = true ∧ (i64R z).1 ≤ 4611686018427387904) ∧ -4611686018427387904 ≤ (i64R z).1 := by
  unfold inU i64R
  split
  · simp; omega
  · simp; omega
set_option maxRecDepth 100000 in
theorem xUnits_P (p : Option (Nat × Nat)) (c : Nat) (z : Int) (hz : (dgs z.natAbs).length ≤ 1000) (w0 : World) (h : (oneA p (dgs z.natAbs)).ok w0) :
    PureC Tryz.prog 60 [bigV z p c] w0 (.tuple [.int .i64 (i64R z).1, .bool (decide (inU z))].toArray) := by
  refine c_enter [(0, bigV z p c)] [oneA p (dgs z.natAbs)] noB Tryz.func60 rfl Tryz.ntmps60 ⟨rfl, trivial⟩ rfl (okC (h) okN) dis1 (mineC (by rfl) mineN) ?_
  intro a hS
  refine c_seq (c_region ?_)
  refine L_op (s_boxA hS rfl rfl ?_); clear hS a; (try clear w); intro a w b1 hS
  refine L_e hS (e_assign rfl) rfl ?_; clear hS a; intro a hS
  refine L_e hS (e_assign rfl) rfl ?_; clear hS a; intro a hS
  refine L_nil (n_then (c_seq (c_region ?_)))
  refine L_e hS (e_loadA rfl (by repeat constructor) ty_st139 ty_sz139 (by rfl)) rfl ?_; clear hS a; intro a hS
  refine L_op (s_callP hS (.cons rfl .nil) cf99 rfl (BigInt_P p c z hz _ (hS.ok (oneA p (dgs z.natAbs)) (by repeat constructor))) ?_); clear hS a; (try clear w); intro a w hS
  refine L_e hS (e_move rfl) rfl ?_; clear hS a; intro a hS
  refine L_e hS (e_extract rfl rfl) rfl ?_; clear hS a; intro a hS
  refine L_e hS (e_extract rfl rfl) rfl ?_; clear hS a; intro a hS
  refine L_e hS (e_assign rfl) rfl ?_; clear hS a; intro a hS
  refine L_e hS (e_assign rfl) rfl ?_; clear hS a; intro a hS
  refine L_nil (n_then (c_seq (c_region ?_)))
  refine L_e hS (e_move rfl) rfl ?_; clear hS a; intro a hS
  refine L_e hS (e_move rfl) rfl ?_; clear hS a; intro a hS
  refine L_e hS (e_move rfl) rfl ?_; clear hS a; intro a hS
  refine L_merge 3 16 (.bool (decide ((i64R z).2 = true ∧ (i64R z).1 ≤ 4611686018427387904))) hS ?_ ?_
  · intro hcM16
    (first | refine g_splitD (t := 13) hS rfl ?_ ?_ | refine g_split (t := 13) hS rfl ?_ ?_) <;> (clear hS; intro hg13 hS)
    ·
      refine L_ge hS rfl rfl (e_move rfl) rfl ?_; clear hS a; intro a hS
      refine L_ge hS rfl rfl (e_bin rfl rfl rfl) rfl ?_; clear hS a; intro a hS
      refine L_e hS (e_pk rfl rfl) rfl ?_; clear hS a; intro a hS
      exact hcM16 _ _ (hS.ends 4 16 13 rfl (congrArg Value.bool (by first | rfl | (simp [hg13]; done) | (simp [hg13]; omega) | grind)) rfl rfl (by first | exact congrArg Value.bool (decide_eq_true hg13).symm | exact congrArg Value.bool hg13.symm | simp [hg13]) rfl)
    refine L_skip_t hS rfl rfl rfl ?_; clear hS a; intro a hS
    refine L_skip_t hS rfl rfl rfl ?_; clear hS a; intro a hS
    refine L_e hS (e_pk rfl rfl) rfl ?_; clear hS a; intro a hS
    exact hcM16 _ _ (hS.ends 4 16 13 rfl (congrArg Value.bool (by first | rfl | (simp [hg13]; done) | (simp [hg13]; omega) | grind)) rfl rfl (by first | exact congrArg Value.bool (decide_eq_false hg13).symm | exact congrArg Value.bool hg13.symm | simp [hg13]) rfl)
  · clear hS a; (try clear w); intro a w hS
    simp only [List.drop_succ_cons, List.drop_zero]
    refine L_e hS (e_move rfl) rfl ?_; clear hS a; intro a hS
    refine L_merge 3 20 (.bool (decide (inU z))) hS ?_ ?_
    · intro hcM20
      (first | refine g_splitD (t := 17) hS rfl ?_ ?_ | refine g_split (t := 17) hS rfl ?_ ?_) <;> (clear hS; intro hg17 hS)
      ·
        refine L_ge hS rfl rfl (e_move rfl) rfl ?_; clear hS a; intro a hS
        refine L_ge hS rfl rfl (e_bin rfl rfl rfl) rfl ?_; clear hS a; intro a hS
        refine L_e hS (e_pk rfl rfl) rfl ?_; clear hS a; intro a hS
        exact hcM20 _ _ (hS.ends 4 20 17 rfl (congrArg Value.bool (by exact decide_eq_decide.2 ⟨fun h => (units_iff z).2 ⟨hg17, h⟩, fun h => ((units_iff z).1 h).2⟩)) rfl rfl (by first | exact congrArg Value.bool (decide_eq_true hg17).symm | exact congrArg Value.bool hg17.symm | simp [hg17]) rfl)
      refine L_skip_t hS rfl rfl rfl ?_; clear hS a; intro a hS
      refine L_skip_t hS rfl rfl rfl ?_; clear hS a; intro a hS
      refine L_e hS (e_pk rfl rfl) rfl ?_; clear hS a; intro a hS
      exact hcM20 _ _ (hS.ends 4 20 17 rfl (congrArg Value.bool (by exact (decide_eq_false (fun h => hg17 ((units_iff z).1 h).1)).symm)) rfl rfl (by first | exact congrArg Value.bool (decide_eq_false hg17).symm | exact congrArg Value.bool hg17.symm | simp [hg17]) rfl)
    · clear hS a; (try clear w); intro a w hS
      simp only [List.drop_succ_cons, List.drop_zero]
      refine L_e hS (e_assign rfl) rfl ?_; clear hS a; intro a hS
      refine L_e hS (e_assign rfl) rfl ?_; clear hS a; intro a hS
      refine L_nil (n_then (wp_ret ?_))
      refine c_retN hS Tryz.results60 (.cons (.tmp rfl) (.cons (.tmp rfl) .nil)) rfl ?_
      exact ⟨rfl, hS.chg⟩
theorem i64R_in {z : Int} (h : inU z) : (i64R z).1 = z := by unfold i64R; unfold inU at h; rw [if_pos (by omega)]
section
variable {n : Nat} {F0 : Nat → Prop} {w0 w : World} {a : Act} {L : List (Nat × Value)} {Γ : List Asn}
theorem one_of (hS : St n F0 w0 a w L Γ) {z : Int} {b : Nat} (h1 : bigA z b ∈ Γ) : (oneA (some (b, 0)) (dgs z.natAbs)).ok w := ok_rowP (hS.get h1) (fun q hq => by cases hq; exact (hS.ok _ h1).lt b rfl)
end
abbrev BP := Option (Nat × Nat) × Nat
end Go.Proofs.YtheofhegdjjfgaaGreat
