/- The law LedgerSums, for every argument: it returns true; with all walks that it needs. (text 5 of 5) -/
import Derived.Test.YtheofhegdjjfgaaLSumsC4
import Derived.Deep.Slices
import Derived.Deep.Fields
import Derived.ChangeSame
import Derived.SizedLaws
import Derived.OpenShut
import Derived.Lib.SmallJoins
import Derived.Laws.LoneSync
import Derived.ProofKit
import Derived.ShutString
import Derived.ChangeOld
import Derived.Below
namespace Go.Proofs.Ytheofhegdjjfgaa
open Go.RowKit

/-- the digits of a number, the walk's own or none. -/
def dgP (z : Int) (p : Option (Nat × Nat)) : Asn := .any (fun k => ∃ off, p = some (k, off)) (RowP p 1 ((dgs z.natAbs).map encD)) true
theorem dgP_of {w : World} {z : Int} {b : Nat} (h : (bigA z b).ok w) : (dgP z (some (b, 0))).ok w :=
  ⟨fun k hk => by obtain ⟨off, e⟩ := hk; cases e; exact h.lt _ rfl, fun w' hw => h.hold w' (fun k hk => by obtain rfl : k = b := hk; exact hw _ ⟨0, rfl⟩)⟩
theorem dgP0 {w : World} : (dgP 0 none).ok w := ⟨fun k hk => (by obtain ⟨off, e⟩ := hk; cases e), fun w' _ => (by show _ = []; rw [show (0 : Int).natAbs = 0 from rfl, dgs_zero]; rfl)⟩
theorem dg_len0 : (dgs (0 : Int).natAbs).length = 0 := by rw [show (0 : Int).natAbs = 0 from rfl, dgs_zero]; rfl

theorem own_getT {Γ : List Asn} {g c m : Nat} {xs : List BL} (hm : ownA 60 3 (.slice (some ⟨g, 0, none⟩) m c) m (xs.flatMap encBl) ∈ Γ) {i : Nat} {x : BL} (hx : xs[i]? = some x) : ∀ w, Hd Γ w → ∀ j v, (encBl x)[j]? = some v → w.cell? ⟨g, 0 + i * 3 + j, none⟩ = some v := own_getL (enc := encBl) (s := 3) (fun _ => rfl) hm hx

set_option maxHeartbeats 2000000 in
set_option maxRecDepth 100000 in
theorem lSums_P (B : LB) (s : LS) (at_ : Int) (hacs : s.acs.length ≤ 1000) (hfl : fitL (pl s)) (hz : zeros (pl s) at_) (w0 : World) (h : ledφ B s w0) :
    PureC Try.prog 31 [.pointer (some ⟨B.lb, 0, none⟩), .int .i64 at_] w0 (.bool true) := by
  have hal := accs_len s.acs
  have htl : (trialF (pl s) at_).length = (accsL s.acs).length := by unfold trialF; rw [List.length_map]; rfl
  have bu : ∀ c i, (sumA (unitsOf (pl s) at_ c) ((accsL s.acs).take i)).natAbs < 100000000000000000000000000000000000000000 := fun c i => by
    have h1 := sumA_bd (f := unitsOf (pl s) at_ c) (l := (accsL s.acs).take i) (fun a _ => units_bd (pl s) at_ c a)
    have h2 : ((accsL s.acs).take i).length ≤ 1000 := by rw [List.length_take]; omega
    have h3 := Nat.mul_le_mul_right 4611686018427387904 h2
    omega
  have bw : ∀ c i, (sumA (worthOf (pl s) at_ c) ((accsL s.acs).take i)).natAbs < 100000000000000000000000000000000000000000 := fun c i => by
    have h1 := sumA_bd (f := worthOf (pl s) at_ c) (l := (accsL s.acs).take i) (fun a _ => worth_bd (pl s) at_ c a)
    have h2 : ((accsL s.acs).take i).length ≤ 1000 := by rw [List.length_take]; omega
    have h3 := Nat.mul_le_mul_right 4611686018427387904 h2
    omega
  have ba : ∀ k, (sumC (fun c => sumA (worthOf (pl s) at_ c) (accsL s.acs)) (cur6.take k)).natAbs < 1000000000000000000000000000000000000000000 := by
    have hw : ∀ c, (sumA (worthOf (pl s) at_ c) (accsL s.acs)).natAbs < 100000000000000000000000000000000000000000 := fun c => by
      have := bw c (accsL s.acs).length; rwa [List.take_length] at this
    intro k
    have a0 := hw cur6[0]; have a1 := hw cur6[1]; have a2 := hw cur6[2]; have a3 := hw cur6[3]; have a4 := hw cur6[4]; have a5 := hw cur6[5]
    match k with
    | 0 => simp [sumC]
    | 1 => simp only [cur6, List.take, sumC]; simp only [cur6, List.getElem_cons_zero] at a0; omega
    | 2 => simp only [cur6, List.take, sumC]; simp only [cur6, List.getElem_cons_zero, List.getElem_cons_succ] at a0 a1; omega
    | 3 => simp only [cur6, List.take, sumC]; simp only [cur6, List.getElem_cons_zero, List.getElem_cons_succ] at a0 a1 a2; omega
    | 4 => simp only [cur6, List.take, sumC]; simp only [cur6, List.getElem_cons_zero, List.getElem_cons_succ] at a0 a1 a2 a3; omega
    | 5 => simp only [cur6, List.take, sumC]; simp only [cur6, List.getElem_cons_zero, List.getElem_cons_succ] at a0 a1 a2 a3 a4; omega
    | (j + 6) =>
      rw [List.take_of_length_le (by show 6 ≤ _; omega)]
      simp only [cur6, sumC]; simp only [cur6, List.getElem_cons_zero, List.getElem_cons_succ] at a0 a1 a2 a3 a4 a5; omega
  refine c_enter [(0, .pointer (some ⟨B.lb, 0, none⟩)), (1, .int .i64 at_)] [ledA B s false] noB Try.func31 rfl Try.ntmps31 ⟨rfl, rfl, trivial⟩ rfl (okC (led_ok false h) okN) dis1 (mineC (by rfl) mineN) ?_
  intro a hS
  refine c_seq ?_
  refine c_region ?_
  refine L_op (s_e hS (e_assign rfl) rfl ?_); clear hS a; intro a hS
  refine L_nil ?_
  refine n_then ?_
  refine c_seq ?_
  refine c_region ?_
  refine L_op (s_e hS (e_move rfl) rfl ?_); clear hS a; intro a hS
  refine L_op (s_e hS (e_move rfl) rfl ?_); clear hS a; intro a hS
  refine L_op (s_callN hS (.cons rfl (.cons rfl .nil)) cf35 rfl (lTrial_P B s at_ hacs hfl _ (hS.get (X := ledA B s false) (by repeat constructor))) ?_); clear hS a; (try clear w); intro x14 a w hS
  refine L_op (s_e hS (e_assign rfl) rfl ?_); clear hS a; intro a hS
  refine L_nil ?_
  refine n_then ?_
  refine c_seq ?_
  refine c_region ?_
  refine L_op (s_e hS (e_move rfl) rfl ?_); clear hS a; intro a hS
  refine L_op (s_callN hS (.cons rfl .nil) cf30 rfl (lAccs_P B s hacs _ (hS.get (X := ledA B s false) (by repeat constructor))) ?_); clear hS a; (try clear w); intro x16 a w hS
  obtain ⟨q14, c14, rfl⟩ := own_slice (hS.get (X := ownA 60 3 x14 (trialF (pl s) at_).length ((trialF (pl s) at_).flatMap encBl)) (by repeat constructor))
  obtain ⟨q16, c16, rfl⟩ := own_slice (hS.get (X := ownA 68 4 x16 (accsL s.acs).length ((accsL s.acs).flatMap encAc)) (by repeat constructor))
  rw [htl] at hS
  refine L_op (s_e hS (e_assign rfl) rfl ?_); clear hS a; intro a hS
  refine L_nil ?_
  refine n_then ?_
  refine c_seq ?_
  refine c_region ?_
  refine L_op (s_e hS (e_build ty_z44 ty_pl44 .nil) rfl ?_); clear hS a; intro a hS
  refine L_op (s_alloc hS ty_z44 rfl ?_); clear hS a; (try clear w); intro a w b7 hS
  refine L_op (s_storeA hS rfl rfl ty_sz44 (by repeat constructor) (by rfl) (by rfl) (by rfl) ?_); clear hS; (try clear w); intro w hS
  refine L_nil ?_
  refine n_then ?_
  refine c_seq ?_
  refine c_region ?_
  refine L_op (s_bslice hS ty_sl142 ty_sz9 ty_z9 rfl rfl rfl rfl (.one rfl rfl rfl (.one rfl rfl rfl (.one rfl rfl rfl (.one rfl rfl rfl (.one rfl rfl rfl (.one rfl rfl rfl .nil)))))) rfl ?_); clear hS a; (try clear w); intro a w b18 hS
  refine L_op (s_e hS (e_assign rfl) rfl ?_); clear hS a; intro a hS
  refine L_nil ?_
  refine n_then ?_
  refine c_seq ?_
  refine c_seq ?_
  refine c_region ?_
  refine L_op (s_e hS (e_assign rfl) rfl ?_); clear hS a; intro a hS
  refine L_nil ?_
  refine n_then ?_
  refine wp_block ?_
  replace hS := hS.swap (X := .blk b7 [.bool false, .slice none 0 0] 44) (Y := .blk b7 [.bool (decide ((0 : Int) < 0)), sliceV none (dgs (0 : Int).natAbs).length 0] 44) (by repeat constructor) (by rw [dg_len0]; exact hS.ok (.blk b7 [.bool false, .slice none 0 0] 44) (by repeat constructor)) (fun _ hb => hb) rfl
  replace hS := (hS.more (Y := dgP 0 none) dgP0 (fun b hb => by obtain ⟨off, e⟩ := hb; cases e))
  replace hS := hS.swap (X := .blk b18 [.string ⟨#[67, 72, 70]⟩, .string ⟨#[69, 85, 82]⟩, .string ⟨#[71, 66, 80]⟩, .string ⟨#[74, 80, 89]⟩, .string ⟨#[75, 87, 68]⟩, .string ⟨#[85, 83, 68]⟩] 9) (Y := .blk b18 (cur6.flatMap fun x => [.string x]) 9) (by repeat constructor) (hS.ok (.blk b18 [.string ⟨#[67, 72, 70]⟩, .string ⟨#[69, 85, 82]⟩, .string ⟨#[71, 66, 80]⟩, .string ⟨#[74, 80, 89]⟩, .string ⟨#[75, 87, 68]⟩, .string ⟨#[85, 83, 68]⟩] 9) (by repeat constructor)) (fun _ hb => hb) rfl
  refine c_loop (γ := Nat) (fun k a w => ∃ (p2 : Option (Nat × Nat)) (c2 : Nat), St 79 noB w0 a w [(9, .int .i64 (k : Int)), (8, .slice (some ⟨b18, 0, none⟩) 6 6), (7, .pointer (some ⟨b7, 0, none⟩)), (6, .slice q16 (accsL s.acs).length c16), (5, .slice q14 (accsL s.acs).length c14)] [.blk b7 [.bool (decide (sumC (fun c => sumA (worthOf (pl s) at_ c) (accsL s.acs)) (cur6.take k) < 0)), sliceV p2 (dgs (sumC (fun c => sumA (worthOf (pl s) at_ c) (accsL s.acs)) (cur6.take k)).natAbs).length c2] 44, dgP (sumC (fun c => sumA (worthOf (pl s) at_ c) (accsL s.acs)) (cur6.take k)) p2, .blk b18 (cur6.flatMap fun x => [.string x]) 9, ownA 68 4 (.slice q16 (accsL s.acs).length c16) (accsL s.acs).length ((accsL s.acs).flatMap encAc), ownA 60 3 (.slice q14 (accsL s.acs).length c14) (accsL s.acs).length ((trialF (pl s) at_).flatMap encBl)] ∧ k ≤ 6) (fun k => 6 - k) 0 ⟨none, 0, (hS.slots (by repeat (first | exact trivial | refine ⟨rfl, ?_⟩))).pick (by repeat (first | exact Pick.nil | (refine Pick.cons (by repeat (first | exact Rem.head | apply Rem.tail)) ?_))), Nat.zero_le _⟩ ?_
  clear hS a; (try clear w); intro k a w hI
  obtain ⟨p2, c2, hS, hk⟩ := hI
  refine c_seq ?_
  refine c_seq ?_
  refine c_region ?_
  refine L_op (s_e hS (e_move rfl) rfl ?_); clear hS a; intro a hS
  refine L_op (s_e hS (e_move rfl) rfl ?_); clear hS a; intro a hS
  refine L_op (s_e hS (e_len rfl rfl ty_sl142) rfl ?_); clear hS a; intro a hS
  refine L_op (s_e hS (e_bin rfl rfl rfl) rfl ?_); clear hS a; intro a hS
  refine L_nil ?_
  refine n_then ?_
  first | refine c_ifD hS rfl (fun hc22 => ?_) (fun hc22 => ?_) | refine c_if hS rfl (fun hc22 => ?_) (fun hc22 => ?_)
  ·
    obtain ⟨c, hc⟩ : ∃ c, cur6[k]? = some c := ⟨cur6[k]'(by show k < 6; omega), List.getElem?_eq_getElem (by show k < 6; omega)⟩
    have hck := sumC_take (fun c => sumA (worthOf (pl s) at_ c) (accsL s.acs)) hc
    generalize hA : sumC (fun c => sumA (worthOf (pl s) at_ c) (accsL s.acs)) (cur6.take k) = A at hS hck
    have bA := ba k
    rw [hA] at bA
    refine wp_skip ?_
    refine n_then ?_
    refine c_seq ?_
    refine wp_block ?_
    refine c_seq ?_
    refine c_region ?_
    refine L_op (s_e hS (e_build ty_z44 ty_pl44 .nil) rfl ?_); clear hS a; intro a hS
    refine L_op (s_alloc hS ty_z44 rfl ?_); clear hS a; (try clear w); intro a w b10 hS
    refine L_op (s_storeA hS rfl rfl ty_sz44 (by repeat constructor) (by rfl) (by rfl) (by rfl) ?_); clear hS; (try clear w); intro w hS
    refine L_nil ?_
    refine n_then ?_
    refine c_seq ?_
    refine c_seq ?_
    refine c_region ?_
    refine L_op (s_e hS (e_assign rfl) rfl ?_); clear hS a; intro a hS
    refine L_nil ?_
    refine n_then ?_
    refine wp_block ?_
    replace hS := hS.swap (X := .blk b10 [.bool false, .slice none 0 0] 44) (Y := .blk b10 [.bool (decide ((0 : Int) < 0)), sliceV none (dgs (0 : Int).natAbs).length 0] 44) (by repeat constructor) (by rw [dg_len0]; exact hS.ok (.blk b10 [.bool false, .slice none 0 0] 44) (by repeat constructor)) (fun _ hb => hb) rfl
    replace hS := (hS.more (Y := dgP 0 none) dgP0 (fun b hb => by obtain ⟨off, e⟩ := hb; cases e))
    refine c_loop (γ := Nat) (fun i a w => ∃ (p1 p2 : Option (Nat × Nat)) (c1 c2 : Nat), St 79 noB w0 a w [(11, .int .i64 (i : Int)), (10, .pointer (some ⟨b10, 0, none⟩)), (9, .int .i64 (k : Int)), (8, .slice (some ⟨b18, 0, none⟩) 6 6), (7, .pointer (some ⟨b7, 0, none⟩)), (6, .slice q16 (accsL s.acs).length c16), (5, .slice q14 (accsL s.acs).length c14)] [.blk b10 [.bool (decide (sumA (unitsOf (pl s) at_ c) ((accsL s.acs).take i) < 0)), sliceV p1 (dgs (sumA (unitsOf (pl s) at_ c) ((accsL s.acs).take i)).natAbs).length c1] 44, dgP (sumA (unitsOf (pl s) at_ c) ((accsL s.acs).take i)) p1, .blk b7 [.bool (decide (A + sumA (worthOf (pl s) at_ c) ((accsL s.acs).take i) < 0)), sliceV p2 (dgs (A + sumA (worthOf (pl s) at_ c) ((accsL s.acs).take i)).natAbs).length c2] 44, dgP (A + sumA (worthOf (pl s) at_ c) ((accsL s.acs).take i)) p2, .blk b18 (cur6.flatMap fun x => [.string x]) 9, ownA 68 4 (.slice q16 (accsL s.acs).length c16) (accsL s.acs).length ((accsL s.acs).flatMap encAc), ownA 60 3 (.slice q14 (accsL s.acs).length c14) (accsL s.acs).length ((trialF (pl s) at_).flatMap encBl)] ∧ i ≤ (accsL s.acs).length) (fun i => (accsL s.acs).length - i) 0 ⟨none, p2, 0, c2, by rw [show sumA (worthOf (pl s) at_ c) ((accsL s.acs).take 0) = 0 from rfl, Int.add_zero]; exact (hS.slots (by repeat (first | exact trivial | refine ⟨rfl, ?_⟩))).pick (by repeat (first | exact Pick.nil | (refine Pick.cons (by repeat (first | exact Rem.head | apply Rem.tail)) ?_))), Nat.zero_le _⟩ ?_
    clear hS a; (try clear w); intro i a w hI
    obtain ⟨p1, p2, c1, c2, hS, hi⟩ := hI
    refine c_seq ?_
    refine c_seq ?_
    refine c_region ?_
    refine L_op (s_e hS (e_move rfl) rfl ?_); clear hS a; intro a hS
    refine L_op (s_e hS (e_move rfl) rfl ?_); clear hS a; intro a hS
    refine L_op (s_e hS (e_len rfl rfl ty_sl76) rfl ?_); clear hS a; intro a hS
    refine L_op (s_e hS (e_bin rfl rfl rfl) rfl ?_); clear hS a; intro a hS
    refine L_op (s_e hS (e_move rfl) rfl ?_); clear hS a; intro a hS
    refine L_merge 5 35 (.bool (decide (i < (accsL s.acs).length))) hS ?_ ?_
    · intro hcM35
      (first | refine g_splitD (t := 30) hS rfl ?_ ?_ | refine g_split (t := 30) hS rfl ?_ ?_) <;> (clear hS; intro hg30 hS)
      ·
        refine L_go hS rfl rfl (s_e hS (e_move rfl) rfl ?_); clear hS a; intro a hS
        refine L_go hS rfl rfl (s_e hS (e_move rfl) rfl ?_); clear hS a; intro a hS
        refine L_go hS rfl rfl (s_e hS (e_len rfl rfl ty_sl65) rfl ?_); clear hS a; intro a hS
        refine L_go hS rfl rfl (s_e hS (e_bin rfl rfl rfl) rfl ?_); clear hS a; intro a hS
        first | (refine L_op (s_e hS (e_pick_t rfl rfl) rfl ?_); clear hS a; intro a hS) | (refine L_op (s_e hS (e_pick_f rfl rfl) rfl ?_); clear hS a; intro a hS)
        exact hcM35 _ _ (hS.ends 6 35 30 rfl (congrArg Value.bool (by rw [decide_eq_decide]; omega)) rfl rfl (by first | exact congrArg Value.bool (decide_eq_true hg30).symm | exact congrArg Value.bool hg30.symm | simp [hg30]) rfl)
      ·
        refine L_skip_t hS rfl rfl rfl ?_; clear hS a; intro a hS
        refine L_skip_t hS rfl rfl rfl ?_; clear hS a; intro a hS
        refine L_skip_t hS rfl rfl rfl ?_; clear hS a; intro a hS
        refine L_skip_t hS rfl rfl rfl ?_; clear hS a; intro a hS
        first | (refine L_op (s_e hS (e_pick_t rfl rfl) rfl ?_); clear hS a; intro a hS) | (refine L_op (s_e hS (e_pick_f rfl rfl) rfl ?_); clear hS a; intro a hS)
        exact hcM35 _ _ (hS.ends 6 35 30 rfl (congrArg Value.bool (by exact (decide_eq_false (by omega)).symm)) rfl rfl (by first | exact congrArg Value.bool (decide_eq_false hg30).symm | exact congrArg Value.bool hg30.symm | simp [hg30]) rfl)
    · clear hS a; (try clear w); intro a w hS
      simp only [List.drop_succ_cons, List.drop_zero]
      refine L_nil ?_
      refine n_then ?_
      first | refine c_ifD hS rfl (fun hc35 => ?_) (fun hc35 => ?_) | refine c_if hS rfl (fun hc35 => ?_) (fun hc35 => ?_)
      ·
        have hil : i < (accsL s.acs).length := hc35
        obtain ⟨x, hx⟩ : ∃ x, (accsL s.acs)[i]? = some x := ⟨(accsL s.acs)[i], List.getElem?_eq_getElem hil⟩
        have hxt : (trialF (pl s) at_)[i]? = some (x.code, valT (pl s) at_ x) := by
          unfold trialF
          rw [List.getElem?_map, show (accsL (pl s).acs)[i]? = some x from hx]; rfl
        obtain ⟨g6, rfl⟩ : ∃ g, q16 = some ⟨g, 0, none⟩ := own_at (hS.get (X := ownA 68 4 (.slice q16 (accsL s.acs).length c16) (accsL s.acs).length ((accsL s.acs).flatMap encAc)) (by repeat constructor)) (by omega)
        obtain ⟨g5, rfl⟩ : ∃ g, q14 = some ⟨g, 0, none⟩ := own_at (hS.get (X := ownA 60 3 (.slice q14 (accsL s.acs).length c14) (accsL s.acs).length ((trialF (pl s) at_).flatMap encBl)) (by repeat constructor)) (by omega)
        have e1 := sumA_take (unitsOf (pl s) at_ c) hx
        have e2 := sumA_take (worthOf (pl s) at_ c) hx
        have b1' := bu c i
        have b2' := bw c i
        have hv := valT_bd (pl s) at_ x
        have hv1 := hv.1
        have hv2 := hv.2
        unfold inU at hv1 hv2
        refine wp_skip ?_
        refine n_then ?_
        refine c_seq ?_
        refine wp_block ?_
        refine c_seq ?_
        refine c_drawS [] (by kernel_rfl) hS (sub_cons (X := ownA 68 4 (.slice (some ⟨g6, 0, none⟩) (accsL s.acs).length c16) (accsL s.acs).length ((accsL s.acs).flatMap encAc)) (by repeat constructor) (sub_cons (X := .blk b18 (cur6.flatMap fun x => [.string x]) 9) (by repeat constructor) sub_nil)) ?_; clear hS; (try clear w); intro w hS
        simp only [List.length_cons, List.length_nil, Nat.zero_add, Nat.reduceAdd, List.replicate]
        refine Z_take0 (i := 0) hS rfl want_none (e_move rfl) (listed' := [true, false, false, false, false, false, false, false, false, false]) rfl (by kernel_rfl) (by kernel_rfl) (by kernel_rfl) (fun _ _ _ h => h) rfl ?_; clear hS a; intro a hS
        refine Z_take0 (i := 1) hS rfl want_none (e_move rfl) (listed' := [true, true, false, false, false, false, false, false, false, false]) rfl (by kernel_rfl) (by kernel_rfl) (by kernel_rfl) (fun _ _ _ h => h) rfl ?_; clear hS a; intro a hS
        refine Z_take0 (i := 2) hS rfl want_none (e_ixN rfl rfl ty_sl65 ty_sz68 (by omega)) (listed' := [true, true, true, false, false, false, false, false, false, false]) rfl (by kernel_rfl) (by kernel_rfl) (by kernel_rfl) (fun _ _ _ h => h) rfl ?_; clear hS a; intro a hS
        first | (refine Z_take0 (i := 3) hS rfl want_none (e_fa0 rfl ty_fo68_1) (listed' := [true, true, true, true, false, false, false, false, false, false]) rfl (by kernel_rfl) (by kernel_rfl) (by kernel_rfl) (fun _ _ _ h => h) rfl ?_; clear hS a; intro a hS) | (refine Z_take0 (i := 3) hS rfl want_none (e_faK rfl ty_fo68_1) (listed' := [true, true, true, true, false, false, false, false, false, false]) rfl (by kernel_rfl) (by kernel_rfl) (by kernel_rfl) (fun _ _ _ h => h) rfl ?_; clear hS a; intro a hS)
        refine Z_take (i := 4) hS rfl want_none (e_loadC rfl ty_sc9 (fun w hh => own_getL (enc := encAc) (s := 4) (fun _ => rfl) (by repeat constructor) hx w hh 1 (.string x.cur) rfl)) (listed' := [true, true, true, true, true, false, false, false, false, false]) rfl (by kernel_rfl) (by kernel_rfl) (by kernel_rfl) (by kernel_rfl) (by kernel_rfl) (sub_cons (by repeat constructor) (sub_cons (by repeat constructor) sub_nil)) (fun _ _ _ h => h) rfl ?_; clear hS a; intro a hS
        refine Z_take0 (i := 5) hS rfl want_none (e_move rfl) (listed' := [true, true, true, true, true, true, false, false, false, false]) rfl (by kernel_rfl) (by kernel_rfl) (by kernel_rfl) (fun _ _ _ h => h) rfl ?_; clear hS a; intro a hS
        refine Z_take0 (i := 6) hS rfl want_none (e_move rfl) (listed' := [true, true, true, true, true, true, true, false, false, false]) rfl (by kernel_rfl) (by kernel_rfl) (by kernel_rfl) (fun _ _ _ h => h) rfl ?_; clear hS a; intro a hS
        refine Z_take0 (i := 7) hS rfl want_none (e_ixN rfl rfl ty_sl142 ty_sz9 (by omega)) (listed' := [true, true, true, true, true, true, true, true, false, false]) rfl (by kernel_rfl) (by kernel_rfl) (by kernel_rfl) (fun _ _ _ h => h) rfl ?_; clear hS a; intro a hS
        refine Z_take (i := 8) hS rfl want_none (e_loadC rfl ty_sc9 (fun w hh => blkrow_getL (enc := fun x => [Value.string x]) (s := 1) (by repeat constructor) (fun _ => rfl) hc w hh 0 (.string c) rfl)) (listed' := [true, true, true, true, true, true, true, true, true, false]) rfl (by kernel_rfl) (by kernel_rfl) (by kernel_rfl) (by kernel_rfl) (by kernel_rfl) (sub_cons (by repeat constructor) (sub_cons (by repeat constructor) sub_nil)) (fun _ _ _ h => h) rfl ?_; clear hS a; intro a hS
        refine Z_take0 (i := 9) hS rfl want_none (e_binS rfl rfl rfl) (listed' := [true, true, true, true, true, true, true, true, true, true]) rfl (by kernel_rfl) (by kernel_rfl) (by kernel_rfl) (fun _ _ _ h => h) rfl ?_; clear hS a; intro a hS
        refine Z_done (by kernel_rfl) ?_
        refine n_then ?_
        first | refine c_ifD hS rfl (fun hc47 => ?_) (fun hc47 => ?_) | refine c_if hS rfl (fun hc47 => ?_) (fun hc47 => ?_)
        ·
          have hcur : x.cur = c := hc47
          have f1 : unitsOf (pl s) at_ c x = (valT (pl s) at_ x).1 := if_pos hcur
          have f2 : worthOf (pl s) at_ c x = (valT (pl s) at_ x).2 := if_pos hcur
          rw [f1] at e1
          rw [f2] at e2
          generalize hU : sumA (unitsOf (pl s) at_ c) ((accsL s.acs).take i) = U at hS e1 b1'
          generalize hW : sumA (worthOf (pl s) at_ c) ((accsL s.acs).take i) = W at hS e2 b2'
          refine c_seq ?_
          refine c_drawS [8] (by kernel_rfl) hS (sub_cons (X := .blk b10 _ _) (by repeat constructor) (sub_cons (X := ownA 60 3 (.slice (some ⟨g5, 0, none⟩) (accsL s.acs).length c14) (accsL s.acs).length ((trialF (pl s) at_).flatMap encBl)) (by repeat constructor) sub_nil)) ?_; clear hS; (try clear w); intro w hS
          simp only [List.length_cons, List.length_nil, Nat.zero_add, Nat.reduceAdd, List.replicate]
          refine Z_take (i := 0) hS rfl want_none (e_loadA rfl (by repeat constructor) ty_st44 ty_sz44 (by rfl)) (listed' := [true, false, false, false, false, false, false, false, false]) rfl (by kernel_rfl) (by kernel_rfl) (by kernel_rfl) (by kernel_rfl) (by kernel_rfl) (sub_cons (by repeat constructor) (sub_cons (by repeat constructor) sub_nil)) (fun _ _ _ h => h) rfl ?_; clear hS a; intro a hS
          refine Z_take0 (i := 1) hS rfl want_none (e_move rfl) (listed' := [true, true, false, false, false, false, false, false, false]) rfl (by kernel_rfl) (by kernel_rfl) (by kernel_rfl) (fun _ _ _ h => h) rfl ?_; clear hS a; intro a hS
          refine Z_take0 (i := 2) hS rfl want_none (e_move rfl) (listed' := [true, true, true, false, false, false, false, false, false]) rfl (by kernel_rfl) (by kernel_rfl) (by kernel_rfl) (fun _ _ _ h => h) rfl ?_; clear hS a; intro a hS
          refine Z_take0 (i := 3) hS rfl want_none (e_ixN rfl rfl ty_sl76 ty_sz60 (by omega)) (listed' := [true, true, true, true, false, false, false, false, false]) rfl (by kernel_rfl) (by kernel_rfl) (by kernel_rfl) (fun _ _ _ h => h) rfl ?_; clear hS a; intro a hS
          first | (refine Z_take0 (i := 4) hS rfl want_none (e_fa0 rfl ty_fo60_1) (listed' := [true, true, true, true, true, false, false, false, false]) rfl (by kernel_rfl) (by kernel_rfl) (by kernel_rfl) (fun _ _ _ h => h) rfl ?_; clear hS a; intro a hS) | (refine Z_take0 (i := 4) hS rfl want_none (e_faK rfl ty_fo60_1) (listed' := [true, true, true, true, true, false, false, false, false]) rfl (by kernel_rfl) (by kernel_rfl) (by kernel_rfl) (fun _ _ _ h => h) rfl ?_; clear hS a; intro a hS)
          refine Z_take (i := 5) hS rfl want_none (e_loadC rfl ty_sc3 (fun w hh => own_getT (by repeat constructor) hxt w hh 1 (.int .i64 (valT (pl s) at_ x).1) rfl)) (listed' := [true, true, true, true, true, true, false, false, false]) rfl (by kernel_rfl) (by kernel_rfl) (by kernel_rfl) (by kernel_rfl) (by kernel_rfl) (sub_cons (by repeat constructor) (sub_cons (by repeat constructor) sub_nil)) (fun _ _ _ h => h) rfl ?_; clear hS a; intro a hS
          refine Z_one (i := 6) rfl (want_none a hS.sl) (listed' := [true, true, true, true, true, true, true, false, false]) rfl (by kernel_rfl) (s_callN hS (.cons rfl .nil) cf22 rfl (BigOf_P (valT (pl s) at_ x).1 (by omega) _) ?_); clear hS a; (try clear w); intro x54 a w hS
          refine Z_and hS (sub_cons (by repeat constructor) (sub_cons (by repeat constructor) sub_nil)) ?_
          have hA := BigAdd_P p1 (some (x54.1.1, 0)) c1 x54.1.2 U (valT (pl s) at_ x).1 20 (by decide) (len20 (by omega)) (len20 (by omega)) _ (two_ok (hS.get (X := dgP U p1) (by repeat constructor)) (hS.get (X := bigA (valT (pl s) at_ x).1 x54.1.1) (by repeat constructor)) (fun r e => (hS.ok (dgP U p1) (by repeat constructor)).lt r.1 ⟨r.2, e⟩) (fun r e => by cases e; exact (hS.ok (bigA (valT (pl s) at_ x).1 x54.1.1) (by repeat constructor)).lt _ rfl))
          refine Z_one (i := 7) rfl (want_none a hS.sl) (listed' := [true, true, true, true, true, true, true, true, false]) rfl (by kernel_rfl) (s_callN hS (.cons rfl (.cons rfl .nil)) cf23 rfl (hA) ?_); clear hS a; (try clear w); intro x55 a w hS
          clear hA
          refine Z_and hS (sub_cons (by repeat constructor) (sub_cons (by repeat constructor) sub_nil)) ?_
          refine Z_one (i := 8) rfl (want_none a hS.sl) (listed' := [true, true, true, true, true, true, true, true, true]) rfl (by kernel_rfl) (s_storeA hS rfl rfl ty_sz44 (by repeat constructor) (by rfl) (by rfl) (by rfl) ?_); clear hS; (try clear w); intro w hS
          refine Z_last (by simp) ?_
          refine Z_done (by kernel_rfl) ?_
          refine n_then ?_
          refine c_drawS [8] (by kernel_rfl) hS (sub_cons (X := .blk b7 _ _) (by repeat constructor) (sub_cons (X := ownA 60 3 (.slice (some ⟨g5, 0, none⟩) (accsL s.acs).length c14) (accsL s.acs).length ((trialF (pl s) at_).flatMap encBl)) (by repeat constructor) sub_nil)) ?_; clear hS; (try clear w); intro w hS
          simp only [List.length_cons, List.length_nil, Nat.zero_add, Nat.reduceAdd, List.replicate]
          refine Z_take (i := 0) hS rfl want_none (e_loadA rfl (by repeat constructor) ty_st44 ty_sz44 (by rfl)) (listed' := [true, false, false, false, false, false, false, false, false]) rfl (by kernel_rfl) (by kernel_rfl) (by kernel_rfl) (by kernel_rfl) (by kernel_rfl) (sub_cons (by repeat constructor) (sub_cons (by repeat constructor) sub_nil)) (fun _ _ _ h => h) rfl ?_; clear hS a; intro a hS
          refine Z_take0 (i := 1) hS rfl want_none (e_move rfl) (listed' := [true, true, false, false, false, false, false, false, false]) rfl (by kernel_rfl) (by kernel_rfl) (by kernel_rfl) (fun _ _ _ h => h) rfl ?_; clear hS a; intro a hS
          refine Z_take0 (i := 2) hS rfl want_none (e_move rfl) (listed' := [true, true, true, false, false, false, false, false, false]) rfl (by kernel_rfl) (by kernel_rfl) (by kernel_rfl) (fun _ _ _ h => h) rfl ?_; clear hS a; intro a hS
          refine Z_take0 (i := 3) hS rfl want_none (e_ixN rfl rfl ty_sl76 ty_sz60 (by omega)) (listed' := [true, true, true, true, false, false, false, false, false]) rfl (by kernel_rfl) (by kernel_rfl) (by kernel_rfl) (fun _ _ _ h => h) rfl ?_; clear hS a; intro a hS
          first | (refine Z_take0 (i := 4) hS rfl want_none (e_fa0 rfl ty_fo60_2) (listed' := [true, true, true, true, true, false, false, false, false]) rfl (by kernel_rfl) (by kernel_rfl) (by kernel_rfl) (fun _ _ _ h => h) rfl ?_; clear hS a; intro a hS) | (refine Z_take0 (i := 4) hS rfl want_none (e_faK rfl ty_fo60_2) (listed' := [true, true, true, true, true, false, false, false, false]) rfl (by kernel_rfl) (by kernel_rfl) (by kernel_rfl) (fun _ _ _ h => h) rfl ?_; clear hS a; intro a hS)
          refine Z_take (i := 5) hS rfl want_none (e_loadC rfl ty_sc3 (fun w hh => own_getT (by repeat constructor) hxt w hh 2 (.int .i64 (valT (pl s) at_ x).2) rfl)) (listed' := [true, true, true, true, true, true, false, false, false]) rfl (by kernel_rfl) (by kernel_rfl) (by kernel_rfl) (by kernel_rfl) (by kernel_rfl) (sub_cons (by repeat constructor) (sub_cons (by repeat constructor) sub_nil)) (fun _ _ _ h => h) rfl ?_; clear hS a; intro a hS
          refine Z_one (i := 6) rfl (want_none a hS.sl) (listed' := [true, true, true, true, true, true, true, false, false]) rfl (by kernel_rfl) (s_callN hS (.cons rfl .nil) cf22 rfl (BigOf_P (valT (pl s) at_ x).2 (by omega) _) ?_); clear hS a; (try clear w); intro x62 a w hS
          refine Z_and hS (sub_cons (by repeat constructor) (sub_cons (by repeat constructor) sub_nil)) ?_
          have hA := BigAdd_P p2 (some (x62.1.1, 0)) c2 x62.1.2 (A + W) (valT (pl s) at_ x).2 20 (by decide) (len20 (by omega)) (len20 (by omega)) _ (two_ok (hS.get (X := dgP (A + W) p2) (by repeat constructor)) (hS.get (X := bigA (valT (pl s) at_ x).2 x62.1.1) (by repeat constructor)) (fun r e => (hS.ok (dgP (A + W) p2) (by repeat constructor)).lt r.1 ⟨r.2, e⟩) (fun r e => by cases e; exact (hS.ok (bigA (valT (pl s) at_ x).2 x62.1.1) (by repeat constructor)).lt _ rfl))
          refine Z_one (i := 7) rfl (want_none a hS.sl) (listed' := [true, true, true, true, true, true, true, true, false]) rfl (by kernel_rfl) (s_callN hS (.cons rfl (.cons rfl .nil)) cf23 rfl (hA) ?_); clear hS a; (try clear w); intro x63 a w hS
          clear hA
          refine Z_and hS (sub_cons (by repeat constructor) (sub_cons (by repeat constructor) sub_nil)) ?_
          refine Z_one (i := 8) rfl (want_none a hS.sl) (listed' := [true, true, true, true, true, true, true, true, true]) rfl (by kernel_rfl) (s_storeA hS rfl rfl ty_sz44 (by repeat constructor) (by rfl) (by rfl) (by rfl) ?_); clear hS; (try clear w); intro w hS
          refine Z_last (by simp) ?_
          refine Z_done (by kernel_rfl) ?_
          refine n_block ?_
          refine n_then ?_
          refine c_region ?_
          refine L_op (s_e hS (e_move rfl) rfl ?_); clear hS a; intro a hS
          first | (refine L_op (s_e hS (e_binN rfl rfl rfl (by omega)) rfl ?_); clear hS a; intro a hS) | (refine L_op (s_e hS (e_bin rfl rfl rfl) rfl ?_); clear hS a; intro a hS)
          refine L_op (s_e hS (e_assign rfl) rfl ?_); clear hS a; intro a hS
          refine L_nil ?_
          first
          | (have hne : ¬ x.cur = c := hc47
             have f1 : unitsOf (pl s) at_ c x = 0 := if_neg hne
             have f2 : worthOf (pl s) at_ c x = 0 := if_neg hne
             rw [f1, Int.add_zero] at e1
             rw [f2, Int.add_zero] at e2
             refine ⟨i + 1, by omega, p1, p2, c1, c2, ?_, by omega⟩
             rw [e1, e2]
             exact (hS.slots (by repeat (first | exact trivial | refine ⟨rfl, ?_⟩))).pick (by repeat (first | exact Pick.nil | (refine Pick.cons (by repeat (first | exact Rem.head | apply Rem.tail)) ?_))))
          | (replace hS := hS.swap (X := bigA (U + (valT (pl s) at_ x).1) x55.1.1) (Y := dgP (U + (valT (pl s) at_ x).1) (some (x55.1.1, 0))) (by repeat constructor) (dgP_of (hS.ok (bigA (U + (valT (pl s) at_ x).1) x55.1.1) (by repeat constructor))) (fun b hb => by obtain ⟨off, e⟩ := hb; cases e; rfl) rfl
             replace hS := hS.swap (X := bigA (A + W + (valT (pl s) at_ x).2) x63.1.1) (Y := dgP (A + W + (valT (pl s) at_ x).2) (some (x63.1.1, 0))) (by repeat constructor) (dgP_of (hS.ok (bigA (A + W + (valT (pl s) at_ x).2) x63.1.1) (by repeat constructor))) (fun b hb => by obtain ⟨off, e⟩ := hb; cases e; rfl) rfl
             refine ⟨i + 1, by omega, some (x55.1.1, 0), some (x63.1.1, 0), x55.1.2, x63.1.2, ?_, by omega⟩
             rw [e1, e2, ← Int.add_assoc]
             exact (hS.slots (by repeat (first | exact trivial | refine ⟨rfl, ?_⟩))).pick (by repeat (first | exact Pick.nil | (refine Pick.cons (by repeat (first | exact Rem.head | apply Rem.tail)) ?_))))
        ·
          refine wp_skip ?_
          refine n_block ?_
          refine n_then ?_
          refine c_region ?_
          refine L_op (s_e hS (e_move rfl) rfl ?_); clear hS a; intro a hS
          first | (refine L_op (s_e hS (e_binN rfl rfl rfl (by omega)) rfl ?_); clear hS a; intro a hS) | (refine L_op (s_e hS (e_bin rfl rfl rfl) rfl ?_); clear hS a; intro a hS)
          refine L_op (s_e hS (e_assign rfl) rfl ?_); clear hS a; intro a hS
          refine L_nil ?_
          first
          | (have hne : ¬ x.cur = c := hc47
             have f1 : unitsOf (pl s) at_ c x = 0 := if_neg hne
             have f2 : worthOf (pl s) at_ c x = 0 := if_neg hne
             rw [f1, Int.add_zero] at e1
             rw [f2, Int.add_zero] at e2
             refine ⟨i + 1, by omega, p1, p2, c1, c2, ?_, by omega⟩
             rw [e1, e2]
             exact (hS.slots (by repeat (first | exact trivial | refine ⟨rfl, ?_⟩))).pick (by repeat (first | exact Pick.nil | (refine Pick.cons (by repeat (first | exact Rem.head | apply Rem.tail)) ?_))))
          | (replace hS := hS.swap (X := bigA (U + (valT (pl s) at_ x).1) x55.1.1) (Y := dgP (U + (valT (pl s) at_ x).1) (some (x55.1.1, 0))) (by repeat constructor) (dgP_of (hS.ok (bigA (U + (valT (pl s) at_ x).1) x55.1.1) (by repeat constructor))) (fun b hb => by obtain ⟨off, e⟩ := hb; cases e; rfl) rfl
             replace hS := hS.swap (X := bigA (A + W + (valT (pl s) at_ x).2) x63.1.1) (Y := dgP (A + W + (valT (pl s) at_ x).2) (some (x63.1.1, 0))) (by repeat constructor) (dgP_of (hS.ok (bigA (A + W + (valT (pl s) at_ x).2) x63.1.1) (by repeat constructor))) (fun b hb => by obtain ⟨off, e⟩ := hb; cases e; rfl) rfl
             refine ⟨i + 1, by omega, some (x55.1.1, 0), some (x63.1.1, 0), x55.1.2, x63.1.2, ?_, by omega⟩
             rw [e1, e2, ← Int.add_assoc]
             exact (hS.slots (by repeat (first | exact trivial | refine ⟨rfl, ?_⟩))).pick (by repeat (first | exact Pick.nil | (refine Pick.cons (by repeat (first | exact Rem.head | apply Rem.tail)) ?_))))
      ·
        obtain rfl : i = (accsL s.acs).length := by omega
        rw [List.take_length, show sumA (unitsOf (pl s) at_ c) (accsL s.acs) = 0 from hz.units c] at hS
        rw [dg_len0] at hS
        refine wp_exit ?_
        refine x_then (x_then (x_hit ?_))
        refine n_then ?_
        refine c_seq ?_
        refine c_region ?_
        first | (refine L_op (s_e hS (e_fa0 rfl ty_fo44_1) rfl ?_); clear hS a; intro a hS) | (refine L_op (s_e hS (e_faK rfl ty_fo44_1) rfl ?_); clear hS a; intro a hS)
        refine L_op (s_e hS (e_load rfl (by repeat constructor) ty_sc42 (by rfl)) rfl ?_); clear hS a; intro a hS
        refine L_op (s_e hS (e_len rfl rfl ty_sl42) rfl ?_); clear hS a; intro a hS
        refine L_op (s_e hS (e_bin rfl rfl rfl) rfl ?_); clear hS a; intro a hS
        refine L_nil ?_
        refine n_then ?_
        replace hS := hS.is (t := 67) (c := false) rfl (rfl)
        refine c_if_f hS rfl ?_
        refine wp_skip ?_
        refine n_block ?_
        refine n_then ?_
        refine c_region ?_
        refine L_op (s_e hS (e_move rfl) rfl ?_); clear hS a; intro a hS
        first | (refine L_op (s_e hS (e_binN rfl rfl rfl (by omega)) rfl ?_); clear hS a; intro a hS) | (refine L_op (s_e hS (e_bin rfl rfl rfl) rfl ?_); clear hS a; intro a hS)
        refine L_op (s_e hS (e_assign rfl) rfl ?_); clear hS a; intro a hS
        refine L_nil ?_
        exact ⟨k + 1, by omega, p2, c2, by rw [hck]; exact (hS.slots (by repeat (first | exact trivial | refine ⟨rfl, ?_⟩))).pick (by repeat (first | exact Pick.nil | (refine Pick.cons (by repeat (first | exact Rem.head | apply Rem.tail)) ?_))), by omega⟩
  ·
    obtain rfl : k = 6 := by omega
    rw [show cur6.take 6 = cur6 from rfl, show sumC (fun c => sumA (worthOf (pl s) at_ c) (accsL s.acs)) cur6 = 0 from hz.worth] at hS
    rw [dg_len0] at hS
    refine wp_exit ?_
    refine x_then (x_then (x_hit ?_))
    refine n_then ?_
    refine c_seq ?_
    refine c_region ?_
    first | (refine L_op (s_e hS (e_fa0 rfl ty_fo44_1) rfl ?_); clear hS a; intro a hS) | (refine L_op (s_e hS (e_faK rfl ty_fo44_1) rfl ?_); clear hS a; intro a hS)
    refine L_op (s_e hS (e_load rfl (by repeat constructor) ty_sc42 (by rfl)) rfl ?_); clear hS a; intro a hS
    refine L_op (s_e hS (e_len rfl rfl ty_sl42) rfl ?_); clear hS a; intro a hS
    refine L_op (s_e hS (e_bin rfl rfl rfl) rfl ?_); clear hS a; intro a hS
    refine L_op (s_e hS (e_move rfl) rfl ?_); clear hS a; intro a hS
    replace hS := hS.is (t := 72) (c := true) rfl (rfl)
    refine L_go hS rfl rfl (s_e hS (e_move rfl) rfl ?_); clear hS a; intro a hS
    refine L_go hS rfl rfl (s_e hS (e_len rfl rfl ty_sl76) rfl ?_); clear hS a; intro a hS
    refine L_go hS rfl rfl (s_e hS (e_move rfl) rfl ?_); clear hS a; intro a hS
    refine L_go hS rfl rfl (s_e hS (e_len rfl rfl ty_sl65) rfl ?_); clear hS a; intro a hS
    refine L_go hS rfl rfl (s_e hS (e_bin rfl rfl rfl) rfl ?_); clear hS a; intro a hS
    first | (refine L_op (s_e hS (e_pick_t rfl rfl) rfl ?_); clear hS a; intro a hS) | (refine L_op (s_e hS (e_pick_f rfl rfl) rfl ?_); clear hS a; intro a hS)
    refine L_op (s_e hS (e_assign rfl) rfl ?_); clear hS a; intro a hS
    refine L_nil ?_
    refine n_then ?_
    refine wp_ret ?_
    refine c_ret1 hS Try.results31 (.tmp rfl) ?_
    exact ⟨by simp, hS.chg⟩
end Go.Proofs.Ytheofhegdjjfgaa

namespace Go.Proofs.Ytheofhegdjjfgaa
open Go.RowKit

set_option maxHeartbeats 1000000 in
set_option maxRecDepth 100000 in
theorem LedgerSums_P (p : Option (Nat × Nat)) (c : Nat) (l : List LO) (hlen : l.length ≤ 4611686018427387904) (hfit : ∀ x ∈ l, x.fits) (at_ : Int)
    (w0 : World) (h : losφ p l w0) (hb : ∀ r, p = some r → r.1 < w0.heap.size) :
    PureC Try.prog 7 [sliceV p l.length c, .int .i64 at_] w0 (.bool true) := by
  refine c_enter [(0, sliceV p l.length c), (1, .int .i64 at_)] [losA p l] noB Try.func7 rfl Try.ntmps7 ⟨rfl, rfl, trivial⟩ rfl (okC (los_ok h hb) okN) dis1 (mineC (by rfl) mineN) ?_
  intro a hS
  refine c_seq ?_
  refine c_region ?_
  refine L_op (s_e hS (e_assign rfl) rfl ?_); clear hS a; intro a hS
  refine L_nil ?_
  refine n_then ?_
  refine c_seq ?_
  refine c_region ?_
  refine L_op (s_callP hS .nil cf25 rfl (lfirst_P _) ?_); clear hS a; (try clear w); intro a w hS
  refine L_op (s_e hS (e_assign rfl) rfl ?_); clear hS a; intro a hS
  refine L_nil ?_
  refine n_then ?_
  refine c_seq ?_
  refine c_region ?_
  refine L_op (s_e hS (e_move rfl) rfl ?_); clear hS a; intro a hS
  refine L_op (s_callP hS (.cons rfl .nil) cf26 rfl (lFew_P p c l hlen hfit _ (hS.get (X := losA p l) (by repeat constructor)) (fun r hr => (hS.ok (losA p l) (by repeat constructor)).lt r.1 (.inl ⟨r.2, hr⟩))) ?_); clear hS a; (try clear w); intro a w hS
  refine L_op (s_e hS (e_assign rfl) rfl ?_); clear hS a; intro a hS
  refine L_nil ?_
  refine n_then ?_
  refine c_seq ?_
  refine c_seq ?_
  refine c_region ?_
  refine L_op (s_e hS (e_move rfl) rfl ?_); clear hS a; intro a hS
  refine L_op (s_e hS (e_not rfl) rfl ?_); clear hS a; intro a hS
  refine L_op (s_e hS (e_move rfl) rfl ?_); clear hS a; intro a hS
  replace hS := hS.is (t := 17) (c := false) rfl (rfl)
  refine L_go hS rfl rfl (s_e hS (e_move rfl) rfl ?_); clear hS a; intro a hS
  refine L_go hS rfl rfl (s_e hS (e_not rfl) rfl ?_); clear hS a; intro a hS
  first | (refine L_op (s_e hS (e_pick_t rfl rfl) rfl ?_); clear hS a; intro a hS) | (refine L_op (s_e hS (e_pick_f rfl rfl) rfl ?_); clear hS a; intro a hS)
  refine L_op (s_e hS (e_move rfl) rfl ?_); clear hS a; intro a hS
  refine L_merge 3 24 (.bool (decide (¬ fewLs l ∨ at_ < 0))) hS ?_ ?_
  · intro hcM24
    (first | refine g_splitD (t := 21) hS rfl ?_ ?_ | refine g_split (t := 21) hS rfl ?_ ?_) <;> (clear hS; intro hg21 hS)
    ·
      refine L_skip_f hS rfl rfl rfl ?_; clear hS a; intro a hS
      refine L_skip_f hS rfl rfl rfl ?_; clear hS a; intro a hS
      first | (refine L_op (s_e hS (e_pick_t rfl rfl) rfl ?_); clear hS a; intro a hS) | (refine L_op (s_e hS (e_pick_f rfl rfl) rfl ?_); clear hS a; intro a hS)
      exact hcM24 _ _ (hS.ends 4 24 21 rfl (congrArg Value.bool (by exact (decide_eq_true (.inl (by simpa using hg21))).symm)) rfl rfl (by first | exact congrArg Value.bool (decide_eq_true hg21).symm | exact congrArg Value.bool hg21.symm | simp [hg21]) rfl)
    ·
      refine L_go hS rfl rfl (s_e hS (e_move rfl) rfl ?_); clear hS a; intro a hS
      refine L_go hS rfl rfl (s_e hS (e_bin rfl rfl rfl) rfl ?_); clear hS a; intro a hS
      first | (refine L_op (s_e hS (e_pick_t rfl rfl) rfl ?_); clear hS a; intro a hS) | (refine L_op (s_e hS (e_pick_f rfl rfl) rfl ?_); clear hS a; intro a hS)
      exact hcM24 _ _ (hS.ends 4 24 21 rfl (congrArg Value.bool (by rw [decide_eq_decide]; exact ⟨.inr, fun e => e.resolve_left (by simpa using hg21)⟩)) rfl rfl (by first | exact congrArg Value.bool (decide_eq_false hg21).symm | exact congrArg Value.bool hg21.symm | simp [hg21]) rfl)
  · clear hS a; (try clear w); intro a w hS
    simp only [List.drop_succ_cons, List.drop_zero]
    refine L_op (s_e hS (e_move rfl) rfl ?_); clear hS a; intro a hS
    refine L_merge 3 28 (.bool (decide ((¬ fewLs l ∨ at_ < 0) ∨ 1099511627776 < at_))) hS ?_ ?_
    · intro hcM28
      (first | refine g_splitD (t := 25) hS rfl ?_ ?_ | refine g_split (t := 25) hS rfl ?_ ?_) <;> (clear hS; intro hg25 hS)
      ·
        refine L_skip_f hS rfl rfl rfl ?_; clear hS a; intro a hS
        refine L_skip_f hS rfl rfl rfl ?_; clear hS a; intro a hS
        first | (refine L_op (s_e hS (e_pick_t rfl rfl) rfl ?_); clear hS a; intro a hS) | (refine L_op (s_e hS (e_pick_f rfl rfl) rfl ?_); clear hS a; intro a hS)
        exact hcM28 _ _ (hS.ends 4 28 25 rfl (congrArg Value.bool (by exact (decide_eq_true (.inl hg25)).symm)) rfl rfl (by first | exact congrArg Value.bool (decide_eq_true hg25).symm | exact congrArg Value.bool hg25.symm | simp [hg25]) rfl)
      ·
        refine L_go hS rfl rfl (s_e hS (e_move rfl) rfl ?_); clear hS a; intro a hS
        refine L_go hS rfl rfl (s_e hS (e_bin rfl rfl rfl) rfl ?_); clear hS a; intro a hS
        first | (refine L_op (s_e hS (e_pick_t rfl rfl) rfl ?_); clear hS a; intro a hS) | (refine L_op (s_e hS (e_pick_f rfl rfl) rfl ?_); clear hS a; intro a hS)
        exact hcM28 _ _ (hS.ends 4 28 25 rfl (congrArg Value.bool (by rw [decide_eq_decide]; exact ⟨.inr, fun e => e.resolve_left hg25⟩)) rfl rfl (by first | exact congrArg Value.bool (decide_eq_false hg25).symm | exact congrArg Value.bool hg25.symm | simp [hg25]) rfl)
    · clear hS a; (try clear w); intro a w hS
      simp only [List.drop_succ_cons, List.drop_zero]
      refine L_nil ?_
      refine n_then ?_
      first | refine c_ifD hS rfl (fun hc28 => ?_) (fun hc28 => ?_) | refine c_if hS rfl (fun hc28 => ?_) (fun hc28 => ?_)
      ·
        refine c_seq ?_
        refine c_region ?_
        refine L_op (s_e hS (e_move rfl) rfl ?_); clear hS a; intro a hS
        refine L_op (s_e hS (e_assign rfl) rfl ?_); clear hS a; intro a hS
        refine L_nil ?_
        refine n_then ?_
        refine wp_ret ?_
        refine r_then ?_
        refine c_ret1 hS Try.results7 (.tmp rfl) ?_
        exact ⟨rfl, hS.chg⟩
      ·
        have hsm : fewLs l := Classical.byContradiction fun e => hc28 (.inl (.inl e))
        have hi : inst at_ := ⟨by omega, by omega⟩
        have hll := hsm.1
        refine wp_skip ?_
        refine n_then ?_
        refine c_seq ?_
        refine c_region ?_
        refine L_op (s_e hS (e_move rfl) rfl ?_); clear hS a; intro a hS
        refine L_op (s_callN hS (.cons rfl .nil) cf27 rfl (lMade_P p c l hsm.1 hfit _ (hS.get (X := losA p l) (by repeat constructor)) (fun r hr => (hS.ok (losA p l) (by repeat constructor)).lt r.1 (.inl ⟨r.2, hr⟩))) ?_); clear hS a; (try clear w); intro x31 a w hS
        obtain ⟨⟨B, s⟩, hpl0⟩ := x31
        simp only at hS hpl0
        have hwf := wf_made hfit l.length (Nat.le_refl _)
        rw [List.take_length, ← hpl0] at hwf
        have hwc := wfC_made l
        rw [← hpl0] at hwc
        have hac : s.acs.length ≤ 100 := by have h1 := hwf.la; simp [pl] at h1; omega
        have hal := accs_len s.acs
        have hfl := hwf.fitL (by omega)
        refine L_op (s_e hS (e_assign rfl) rfl ?_); clear hS a; intro a hS
        refine L_nil ?_
        refine n_then ?_
        refine c_seq ?_
        refine c_seq ?_
        refine c_region ?_
        refine L_op (s_e hS (e_move rfl) rfl ?_); clear hS a; intro a hS
        refine L_op (s_e hS (e_nil rfl ty_u52) rfl ?_); clear hS a; intro a hS
        refine L_nil ?_
        refine n_then ?_
        replace hS := hS.is (t := 33) (c := false) rfl (rfl)
        refine c_if_f hS rfl ?_
        refine wp_skip ?_
        refine n_then ?_
        refine c_seq ?_
        refine c_region ?_
        refine L_op (s_e hS (e_move rfl) rfl ?_); clear hS a; intro a hS
        refine L_op (s_callN hS (.cons rfl .nil) cf30 rfl (lAccs_P B s (by omega) _ (hS.get (X := ledA B s true) (by repeat constructor))) ?_); clear hS a; (try clear w); intro x35 a w hS
        obtain ⟨q35, c35, rfl⟩ := own_slice (hS.get (X := ownA 68 4 x35 (accsL s.acs).length ((accsL s.acs).flatMap encAc)) (by repeat constructor))
        refine L_op (s_e hS (e_assign rfl) rfl ?_); clear hS a; intro a hS
        refine L_nil ?_
        refine n_then ?_
        refine c_seq ?_
        refine c_seq ?_
        refine c_region ?_
        refine L_op (s_e hS (e_assign rfl) rfl ?_); clear hS a; intro a hS
        refine L_nil ?_
        refine n_then ?_
        refine wp_block ?_
        skip
        refine c_loop (γ := Nat) (fun i a w => St 62 noB w0 a w [(9, .int .i64 (i : Int)), (8, .slice q35 (accsL s.acs).length c35), (7, .pointer (some ⟨B.lb, 0, none⟩)), (1, .int .i64 at_)] [ownA 68 4 (.slice q35 (accsL s.acs).length c35) (accsL s.acs).length ((accsL s.acs).flatMap encAc), ledA B s true] ∧ i ≤ (accsL s.acs).length ∧ ∀ j, j < i → ∀ a, (accsL s.acs)[j]? = some a → okS (sumAt (pl s) a.code at_)) (fun i => (accsL s.acs).length - i) 0 ⟨(hS.slots (by repeat (first | exact trivial | refine ⟨rfl, ?_⟩))).pick (by repeat (first | exact Pick.nil | (refine Pick.cons (by repeat (first | exact Rem.head | apply Rem.tail)) ?_))), Nat.zero_le _, fun j hj => by omega⟩ ?_
        clear hS a; (try clear w); intro i a w hI
        obtain ⟨hS, hil, hall⟩ := hI
        refine c_seq ?_
        refine c_seq ?_
        refine c_region ?_
        refine L_op (s_e hS (e_move rfl) rfl ?_); clear hS a; intro a hS
        refine L_op (s_e hS (e_move rfl) rfl ?_); clear hS a; intro a hS
        refine L_op (s_e hS (e_len rfl rfl ty_sl65) rfl ?_); clear hS a; intro a hS
        refine L_op (s_e hS (e_bin rfl rfl rfl) rfl ?_); clear hS a; intro a hS
        refine L_nil ?_
        refine n_then ?_
        first | refine c_ifD hS rfl (fun hc39 => ?_) (fun hc39 => ?_) | refine c_if hS rfl (fun hc39 => ?_) (fun hc39 => ?_)
        ·
          have hik : i < (accsL s.acs).length := by omega
          obtain ⟨x, hx⟩ : ∃ x, (accsL s.acs)[i]? = some x := ⟨(accsL s.acs)[i], List.getElem?_eq_getElem hik⟩
          obtain ⟨g, rfl⟩ : ∃ g, q35 = some ⟨g, 0, none⟩ := own_at (hS.get (X := ownA 68 4 (.slice q35 (accsL s.acs).length c35) (accsL s.acs).length ((accsL s.acs).flatMap encAc)) (by repeat constructor)) (by omega)
          have hbo := bal_of (P := pl s) hi (a := x) (List.mem_of_getElem? hx)
          refine wp_skip ?_
          refine n_then ?_
          refine c_seq ?_
          refine wp_block ?_
          refine c_seq ?_
          refine c_region ?_
          refine L_op (s_e hS (e_move rfl) rfl ?_); clear hS a; intro a hS
          refine L_op (s_e hS (e_move rfl) rfl ?_); clear hS a; intro a hS
          refine L_op (s_e hS (e_move rfl) rfl ?_); clear hS a; intro a hS
          refine L_op (s_e hS (e_ixN rfl rfl ty_sl65 ty_sz68 (by omega)) rfl ?_); clear hS a; intro a hS
          first | (refine L_op (s_e hS (e_fa0 rfl ty_fo68_0) rfl ?_); clear hS a; intro a hS) | (refine L_op (s_e hS (e_faK rfl ty_fo68_0) rfl ?_); clear hS a; intro a hS)
          refine L_op (s_e hS (e_loadC rfl ty_sc9 (fun w hh => own_getL (enc := encAc) (s := 4) (fun _ => rfl) (by repeat constructor) hx w hh 0 (.string x.code) rfl)) rfl ?_); clear hS a; intro a hS
          refine L_op (s_e hS (e_move rfl) rfl ?_); clear hS a; intro a hS
          refine L_op (s_callP hS (.cons rfl (.cons rfl (.cons rfl .nil))) cf29 rfl (lBal_P B s x.code at_ hfl _ (hS.get (X := ledA B s true) (by repeat constructor))) ?_); clear hS a; (try clear w); intro a w hS
          refine L_op (s_e hS (e_move rfl) rfl ?_); clear hS a; intro a hS
          refine L_op (s_e hS (e_extract rfl rfl) rfl ?_); clear hS a; intro a hS
          refine L_op (s_e hS (e_extract rfl rfl) rfl ?_); clear hS a; intro a hS
          refine L_op (s_alloc hS ty_z60 rfl ?_); clear hS a; (try clear w); intro a w b10 hS
          refine L_op (s_storeA hS rfl rfl ty_sz60 (by repeat constructor) (by rfl) (by rfl) (by rfl) ?_); clear hS; (try clear w); intro w hS
          refine L_op (s_e hS (e_assign rfl) rfl ?_); clear hS a; intro a hS
          refine L_nil ?_
          refine n_then ?_
          refine c_seq ?_
          refine c_region ?_
          refine L_op (s_e hS (e_move rfl) rfl ?_); clear hS a; intro a hS
          refine L_op (s_callP hS (.cons rfl .nil) cf16 rfl (Num_w _ _) ?_); clear hS a; (try clear w); intro a w hS
          refine L_op (s_e hS (e_bin rfl rfl rfl) rfl ?_); clear hS a; intro a hS
          refine L_nil ?_
          refine n_then ?_
          first | refine c_ifD hS rfl (fun hc55 => ?_) (fun hc55 => ?_) | refine c_if hS rfl (fun hc55 => ?_) (fun hc55 => ?_)
          ·
            have h16 : (balF (pl s) x.code at_).2 = 16 := by
              rw [hbo]
              split
              · rename_i hk; rw [if_pos hk] at hbo; exact absurd hbo hc55
              · rfl
            refine c_seq ?_
            refine c_region ?_
            refine L_op (s_e hS (e_move rfl) rfl ?_); clear hS a; intro a hS
            refine L_op (s_callP hS (.cons rfl .nil) cf16 rfl (Num_w _ _) ?_); clear hS a; (try clear w); intro a w hS
            refine L_op (s_e hS (e_bin rfl rfl rfl) rfl ?_); clear hS a; intro a hS
            refine L_op (s_e hS (e_assign rfl) rfl ?_); clear hS a; intro a hS
            refine L_nil ?_
            refine n_then ?_
            refine wp_ret ?_
            refine r_block (r_then (r_then (r_block (r_then ?_))))
            refine c_ret1 hS Try.results7 (.tmp rfl) ?_
            exact ⟨by rw [h16]; rfl, hS.chg⟩
          ·
            have hk : okS (sumAt (pl s) x.code at_) := by
              have h0 : (balF (pl s) x.code at_).2 = 0 := Classical.byContradiction fun e => hc55 e
              rw [hbo] at h0
              split at h0
              · assumption
              · cases h0
            refine wp_skip ?_
            refine n_block ?_
            refine n_then ?_
            refine c_region ?_
            refine L_op (s_e hS (e_move rfl) rfl ?_); clear hS a; intro a hS
            first | (refine L_op (s_e hS (e_binN rfl rfl rfl (by omega)) rfl ?_); clear hS a; intro a hS) | (refine L_op (s_e hS (e_bin rfl rfl rfl) rfl ?_); clear hS a; intro a hS)
            refine L_op (s_e hS (e_assign rfl) rfl ?_); clear hS a; intro a hS
            refine L_nil ?_
            exact ⟨i + 1, by omega, (hS.slots (by repeat (first | exact trivial | refine ⟨rfl, ?_⟩))).pick (by repeat (first | exact Pick.nil | (refine Pick.cons (by repeat (first | exact Rem.head | apply Rem.tail)) ?_))), by omega, fun j hj a ha => by
            by_cases e : j = i
            · subst e; rw [hx] at ha; cases ha; exact hk
            · exact hall j (by omega) a ha⟩
        ·
          obtain rfl : i = (accsL s.acs).length := by omega
          have hz : zeros (pl s) at_ := zeros_of hwf hwc hi (fun a ha => by
            obtain ⟨j, hj, rfl⟩ := List.mem_iff_getElem.1 ha
            exact hall j hj _ (List.getElem?_eq_getElem hj))
          refine wp_exit ?_
          refine x_then (x_then (x_hit ?_))
          refine n_then ?_
          refine c_seq ?_
          refine c_region ?_
          refine L_op (s_e hS (e_move rfl) rfl ?_); clear hS a; intro a hS
          refine L_op (s_e hS (e_move rfl) rfl ?_); clear hS a; intro a hS
          refine L_op (s_callP hS (.cons rfl (.cons rfl .nil)) cf31 rfl (lSums_P B s at_ (by omega) hfl hz _ (hS.get (X := ledA B s true) (by repeat constructor))) ?_); clear hS a; (try clear w); intro a w hS
          refine L_op (s_e hS (e_assign rfl) rfl ?_); clear hS a; intro a hS
          refine L_nil ?_
          refine n_then ?_
          refine wp_ret ?_
          refine c_ret1 hS Try.results7 (.tmp rfl) ?_
          exact ⟨rfl, hS.chg⟩
end Go.Proofs.Ytheofhegdjjfgaa

namespace Go.Proofs.Ytheofhegdjjfgaa
open Go.RowKit

/-- a currency's rates: instants and worths, and the slice that holds them. -/
structure RA where
  cur : ByteArray
  rows : List (Int × Int)
  v : Value
def encT (c : ByteArray) (x : Int × Int) : List Value := [.string c, .int .i64 x.1, .int .i64 x.2]
def rowT (e : RA) (w : World) : Prop := w.ownsRow 0 93 3 e.v e.rows.length (e.rows.flatMap (encT e.cur))
def entT (es : List RA) : List (ByteArray × Value) := es.map fun e => (e.cur, e.v)
def vsT (es : List RA) : List (ByteArray × List (Int × Int)) := es.map fun e => (e.cur, e.rows)
/-- what holds of the rates besides their memory. -/
structure wfT (es : List RA) (n : Int) : Prop where
  keys : es.Pairwise fun x y => x.cur ≠ y.cur
  apart : es.Pairwise fun x y => ∀ k, x.v.ownBlock = some k → y.v.ownBlock ≠ some k
  len : ∀ e ∈ es, (e.rows.length : Int) ≤ n
  n : 0 ≤ n ∧ n ≤ 500
def rowsT (es : List RA) : Asn := .any (fun k => ∃ e ∈ es, e.v.ownBlock = some k) (fun w => ∀ e ∈ es, rowT e w) true
def bkT (bk mb : Nat) (own : ByteArray) (n : Int) : Asn := .blk bk [.string own, .map (some mb), .int .i64 n] 114
structure ratesφ (bk mb : Nat) (own : ByteArray) (es : List RA) (n : Int) (w : World) : Prop where
  bk : w.heap[bk]? = some (.cells [.string own, .map (some mb), .int .i64 n].toArray 114 (0, 0))
  mp : w.heap[mb]? = some (.map (mkM 0 (entT es)).toArray (entT es).length)
  rows : ∀ e ∈ es, rowT e w
  wf : wfT es n
def ratesF (bk mb : Nat) (es : List RA) (k : Nat) : Prop := k = bk ∨ k = mb ∨ ∃ e ∈ es, e.v.ownBlock = some k
def ratesA (bk mb : Nat) (own : ByteArray) (es : List RA) (n : Int) (m : Bool) : Asn := .any (ratesF bk mb es) (ratesφ bk mb own es n) m

theorem owns_keep {w w' : World} {E s : Nat} {v : Value} {m : Nat} {xs : List Value} (h : w.ownsRow 0 E s v m xs) (hw : ∀ b, v.ownBlock = some b → w'.heap[b]? = w.heap[b]?) : w'.ownsRow 0 E s v m xs :=
  (ok_own h).hold w' hw
theorem rows_ok {es : List RA} {w : World} (h : ∀ e ∈ es, rowT e w) : (rowsT es).ok w := by
  refine ⟨fun b hb => ?_, fun w' hw e he => owns_keep (h e he) (fun b hb => hw b ⟨e, he, hb⟩)⟩
  obtain ⟨e, he, hb⟩ := hb
  exact (World.ownsRow.lt (h e he) b hb).2
theorem rates_ok {bk mb : Nat} {own : ByteArray} {es : List RA} {n : Int} {w : World} (m : Bool) (h : ratesφ bk mb own es n w) : (ratesA bk mb own es n m).ok w := by
  refine ⟨fun b hb => ?_, fun w' hw => ⟨?_, ?_, fun e he => owns_keep (h.rows e he) (fun b hb => hw b (.inr (.inr ⟨e, he, hb⟩))), h.wf⟩⟩
  · rcases hb with rfl | rfl | ⟨e, he, hb⟩
    · exact (Array.getElem?_eq_some_iff.1 h.bk).1
    · exact (Array.getElem?_eq_some_iff.1 h.mp).1
    · exact (World.ownsRow.lt (h.rows e he) b hb).2
  · rw [hw bk (.inl rfl)]; exact h.bk
  · rw [hw mb (.inr (.inl rfl))]; exact h.mp
theorem row_obj {w : World} {E s : Nat} {v : Value} {m : Nat} {xs : List Value} (h : w.ownsRow 0 E s v m xs) {g : Nat} (hg : v.ownBlock = some g) : ∃ cs, w.heap[g]? = some (.cells cs E (0, 0)) := by
  rcases h.2 with ⟨rfl, _⟩ | ⟨g', cap, cur, rfl, _, e2, _⟩
  · cases hg
  · simp [Value.ownBlock] at hg; subst hg; exact ⟨_, e2⟩
theorem rates_apart {bk mb : Nat} {own : ByteArray} {es : List RA} {n : Int} {w : World} (h : ratesφ bk mb own es n w) : bk ≠ mb ∧ (∀ e ∈ es, e.v.ownBlock ≠ some bk) ∧ ∀ e ∈ es, e.v.ownBlock ≠ some mb := by
  refine ⟨fun e => ?_, fun e he hb => ?_, fun e he hb => ?_⟩
  · have h1 := h.bk; rw [e, h.mp] at h1; cases h1
  · obtain ⟨cs, h1⟩ := row_obj (h.rows e he) hb
    rw [h.bk] at h1; cases h1
  · obtain ⟨cs, h1⟩ := row_obj (h.rows e he) hb
    rw [h.mp] at h1; cases h1

/-! ### one currency among them -/
theorem no_cur {es : List RA} {c : ByteArray} (h : ∀ e ∈ es, e.cur ≠ c) (m : Nat) : idxM (entT es) c m = none := by
  induction es generalizing m with
  | nil => rfl
  | cons e es ih =>
    show (if e.cur = c then _ else _) = _
    rw [if_neg (h e (.head _))]
    exact ih (fun x hx => h x (.tail _ hx)) _
theorem is_cur {es : List RA} (hk : es.Pairwise fun x y => x.cur ≠ y.cur) {i : Nat} {e : RA} (h : es[i]? = some e) (m : Nat) : idxM (entT es) e.cur m = some (m + i, e.v) := by
  induction es generalizing i m with
  | nil => cases h
  | cons x es ih =>
    have hk' := List.pairwise_cons.1 hk
    cases i with
    | zero =>
      simp at h; subst h
      show (if x.cur = x.cur then _ else _) = _
      rw [if_pos rfl]; rfl
    | succ i =>
      have h2 : es[i]? = some e := by simpa using h
      show (if x.cur = e.cur then _ else _) = _
      rw [if_neg (hk'.1 e (List.mem_of_getElem? h2)), show m + (i + 1) = (m + 1) + i by omega]
      exact ih hk'.2 h2 _
theorem has_cur (es : List RA) (c : ByteArray) : (∃ (i : Nat) (e : RA), es[i]? = some e ∧ e.cur = c) ∨ ∀ e ∈ es, e.cur ≠ c := by
  by_cases h : ∃ e ∈ es, e.cur = c
  · obtain ⟨e, he, hc⟩ := h
    obtain ⟨i, hi, rfl⟩ := List.mem_iff_getElem.1 he
    exact .inl ⟨i, _, List.getElem?_eq_getElem hi, hc⟩
  · exact .inr fun e he hc => h ⟨e, he, hc⟩
/-- a currency's rates, in plain data. -/
def rowsOf (l : List (ByteArray × List (Int × Int))) (c : ByteArray) : List (Int × Int) := match l.find? (fun e => decide (e.1 = c)) with | some e => e.2 | none => []
theorem rowsOf_no {es : List RA} {c : ByteArray} (h : ∀ e ∈ es, e.cur ≠ c) : rowsOf (vsT es) c = [] := by
  unfold rowsOf
  rw [List.find?_eq_none.2]
  intro x hx
  obtain ⟨e, he, rfl⟩ := List.mem_map.1 hx
  simpa using h e he
theorem rowsOf_is {es : List RA} (hk : es.Pairwise fun x y => x.cur ≠ y.cur) {i : Nat} {e : RA} (h : es[i]? = some e) : rowsOf (vsT es) e.cur = e.rows := by
  induction es generalizing i with
  | nil => cases h
  | cons x es ih =>
    have hk' := List.pairwise_cons.1 hk
    unfold rowsOf vsT
    rw [List.map_cons, List.find?_cons]
    cases i with
    | zero => simp at h; subst h; simp
    | succ i =>
      have h2 : es[i]? = some e := by simpa using h
      have : decide (x.cur = e.cur) = false := decide_eq_false (hk'.1 e (List.mem_of_getElem? h2))
      simp only [this]
      exact ih hk'.2 h2
def putL : List (ByteArray × List (Int × Int)) → ByteArray → List (Int × Int) → List (ByteArray × List (Int × Int))
  | [], c, r => [(c, r)]
  | (k, u) :: l, c, r => if k = c then (c, r) :: l else (k, u) :: putL l c r
theorem putL_no {es : List RA} {c : ByteArray} (r : List (Int × Int)) (h : ∀ e ∈ es, e.cur ≠ c) : putL (vsT es) c r = vsT es ++ [(c, r)] := by
  induction es with
  | nil => rfl
  | cons e es ih =>
    show (if e.cur = c then _ else _) = _
    rw [if_neg (h e (.head _))]
    show _ :: putL (vsT es) c r = _
    rw [ih (fun x hx => h x (.tail _ hx))]; rfl
theorem putL_is {es : List RA} (hk : es.Pairwise fun x y => x.cur ≠ y.cur) {i : Nat} {e : RA} (r : List (Int × Int)) (h : es[i]? = some e) : putL (vsT es) e.cur r = (vsT es).set i (e.cur, r) := by
  induction es generalizing i with
  | nil => cases h
  | cons x es ih =>
    have hk' := List.pairwise_cons.1 hk
    cases i with
    | zero =>
      simp at h; subst h
      show (if x.cur = x.cur then _ else _) = _
      rw [if_pos rfl]; rfl
    | succ i =>
      have h2 : es[i]? = some e := by simpa using h
      show (if x.cur = e.cur then _ else _) = _
      rw [if_neg (hk'.1 e (List.mem_of_getElem? h2))]
      show _ :: putL (vsT es) e.cur r = _
      rw [ih hk'.2 h2]; rfl
/-- the error of a rate that is set. -/
def setE (own : ByteArray) (l : List (ByteArray × List (Int × Int))) (n : Int) (c : ByteArray) (at_ nano : Int) : Int :=
  if c = own then 18 else if askF c at_ ≠ 0 then askF c at_ else if nano < 1 ∨ 1125899906842624 < nano then 6
  else if (∃ x, (rowsOf l c).getLast? = some x ∧ at_ ≤ x.1) then 34 else if 500 ≤ n then 9 else 0
instance (l : List (Int × Int)) (at_ : Int) : Decidable (∃ x, l.getLast? = some x ∧ at_ ≤ x.1) :=
  match l.getLast? with
  | none => .isFalse fun ⟨_, h, _⟩ => by cases h
  | some x => if h : at_ ≤ x.1 then .isTrue ⟨x, rfl, h⟩ else .isFalse fun ⟨_, h1, h2⟩ => by cases h1; exact h h2

set_option maxRecDepth 100000 in
theorem fxNew_P (c : ByteArray) (w0 : World) (hc : (scaleR c).2 = 0) : NewC Try.prog 37 [.string c] w0 (fun y : Nat × Nat => .tuple [.pointer (some ⟨y.1, 0, none⟩), .int .i64 0].toArray) (fun y => ratesA y.1 y.2 c [] 0 true) := by
  refine c_enter [(0, .string c)] [] noB Try.func37 rfl Try.ntmps37 ⟨rfl, trivial⟩ rfl (by simp) (by simp) (by simp) ?_
  intro a hS
  refine c_seq ?_
  refine c_region ?_
  refine L_op (s_e hS (e_assign rfl) rfl ?_); clear hS a; intro a hS
  refine L_op (s_e hS (e_assign rfl) rfl ?_); clear hS a; intro a hS
  refine L_nil ?_
  refine n_then ?_
  refine c_seq ?_
  refine c_seq ?_
  refine c_region ?_
  refine L_op (s_e hS (e_move rfl) rfl ?_); clear hS a; intro a hS
  refine L_op (s_callP hS (.cons rfl .nil) cf79 rfl (Scale_P c _) ?_); clear hS a; (try clear w); intro a w hS
  refine L_op (s_e hS (e_move rfl) rfl ?_); clear hS a; intro a hS
  refine L_op (s_e hS (e_extract rfl rfl) rfl ?_); clear hS a; intro a hS
  refine L_op (s_e hS (e_extract rfl rfl) rfl ?_); clear hS a; intro a hS
  refine L_op (s_e hS (e_assign rfl) rfl ?_); clear hS a; intro a hS
  refine L_op (s_e hS (e_assign rfl) rfl ?_); clear hS a; intro a hS
  refine L_nil ?_
  refine n_then ?_
  refine c_seq ?_
  refine c_region ?_
  refine L_op (s_e hS (e_move rfl) rfl ?_); clear hS a; intro a hS
  refine L_op (s_e hS (e_bin rfl rfl rfl) rfl ?_); clear hS a; intro a hS
  refine L_nil ?_
  refine n_then ?_
  replace hS := hS.is (t := 12) (c := false) rfl ((decide_eq_false (by rw [hc]; decide)))
  refine c_if_f hS rfl ?_
  refine wp_skip ?_
  refine n_then ?_
  refine c_seq ?_
  refine c_region ?_
  refine L_op (s_e hS (e_move rfl) rfl ?_); clear hS a; intro a hS
  refine L_op (s_makeMapS hS rfl ?_); clear hS a; (try clear w); intro a w b15 hS
  refine L_op (s_e hS (e_build ty_z114 ty_pl114 (.one rfl rfl rfl (by repeat constructor) (.one rfl rfl rfl (by repeat constructor) .nil))) rfl ?_); clear hS a; intro a hS
  refine L_op (s_boxA hS rfl rfl ?_); clear hS a; (try clear w); intro a w b17 hS
  refine L_op (s_e hS (e_assign rfl) rfl ?_); clear hS a; intro a hS
  refine L_op (s_e hS (e_assign rfl) rfl ?_); clear hS a; intro a hS
  refine L_nil ?_
  refine n_then ?_
  refine wp_ret ?_
  refine c_retN hS Try.results37 (.cons (.tmp rfl) (.cons (.tmp rfl) .nil)) rfl ?_
  refine ⟨(b17, b15), rfl, hS.chg, rates_ok true ⟨hS.get (X := .blk b17 _ _) (by repeat constructor), hS.get (X := smapA b15 []) (by repeat constructor), fun e he => (by cases he), ⟨.nil, .nil, fun e he => (by cases he), by decide, by decide⟩⟩, fun b hb => ?_⟩
  rcases hb with hb | hb | ⟨e, he, _⟩
  · rw [hb]; exact (hS.new (X := .blk b17 _ _) (by repeat constructor) rfl).2 _ rfl
  · rw [hb]; exact (hS.new (X := smapA b15 []) (by repeat constructor) rfl).2 _ rfl
  · cases he
set_option maxRecDepth 100000 in
theorem fxNew_no (c : ByteArray) (w0 : World) (hc : (scaleR c).2 ≠ 0) : PureC Try.prog 37 [.string c] w0 (.tuple [.pointer none, .int .i64 18].toArray) := by
  have := scale_err c
  refine c_enter [(0, .string c)] [] noB Try.func37 rfl Try.ntmps37 ⟨rfl, trivial⟩ rfl (by simp) (by simp) (by simp) ?_
  intro a hS
  refine c_seq ?_
  refine c_region ?_
  refine L_op (s_e hS (e_assign rfl) rfl ?_); clear hS a; intro a hS
  refine L_op (s_e hS (e_assign rfl) rfl ?_); clear hS a; intro a hS
  refine L_nil ?_
  refine n_then ?_
  refine c_seq ?_
  refine c_seq ?_
  refine c_region ?_
  refine L_op (s_e hS (e_move rfl) rfl ?_); clear hS a; intro a hS
  refine L_op (s_callP hS (.cons rfl .nil) cf79 rfl (Scale_P c _) ?_); clear hS a; (try clear w); intro a w hS
  refine L_op (s_e hS (e_move rfl) rfl ?_); clear hS a; intro a hS
  refine L_op (s_e hS (e_extract rfl rfl) rfl ?_); clear hS a; intro a hS
  refine L_op (s_e hS (e_extract rfl rfl) rfl ?_); clear hS a; intro a hS
  refine L_op (s_e hS (e_assign rfl) rfl ?_); clear hS a; intro a hS
  refine L_op (s_e hS (e_assign rfl) rfl ?_); clear hS a; intro a hS
  refine L_nil ?_
  refine n_then ?_
  refine c_seq ?_
  refine c_region ?_
  refine L_op (s_e hS (e_move rfl) rfl ?_); clear hS a; intro a hS
  refine L_op (s_e hS (e_bin rfl rfl rfl) rfl ?_); clear hS a; intro a hS
  refine L_nil ?_
  refine n_then ?_
  replace hS := hS.is (t := 12) (c := true) rfl ((decide_eq_true hc))
  refine c_if_t hS rfl ?_
  refine c_seq ?_
  refine c_region ?_
  refine L_op (s_e hS (e_move rfl) rfl ?_); clear hS a; intro a hS
  refine L_op (s_e hS (e_assign rfl) rfl ?_); clear hS a; intro a hS
  refine L_op (s_e hS (e_assign rfl) rfl ?_); clear hS a; intro a hS
  refine L_nil ?_
  refine n_then ?_
  refine wp_ret ?_
  refine r_then ?_
  refine c_retN hS Try.results37 (.cons (.tmp rfl) (.cons (.tmp rfl) .nil)) rfl ?_
  exact ⟨by rw [show (scaleR c).2 = 18 by omega], hS.chg⟩
end Go.Proofs.Ytheofhegdjjfgaa

namespace Go.Proofs.Ytheofhegdjjfgaa
open Go.RowKit

theorem own_get {Γ : List Asn} {α : Type} {enc : α → List Value} {s E g c m : Nat} {xs : List α} (hl : ∀ x, (enc x).length = s) (hm : ownA E s (.slice (some ⟨g, 0, none⟩) m c) m (xs.flatMap enc) ∈ Γ) {i : Nat} {x : α} (hx : xs[i]? = some x) : ∀ w, Hd Γ w → ∀ j v, (enc x)[j]? = some v → w.cell? ⟨g, 0 + i * s + j, none⟩ = some v := by
  intro w hh j v hj
  have h : w.ownsRow 0 E s (.slice (some ⟨g, 0, none⟩) m c) m (xs.flatMap enc) := hh _ hm
  have h1 := flat_get enc s hl xs i x hx j v hj
  have h2 := World.ownsRow.cells h (g := g) rfl _ _ h1
  rw [addr_add] at h2
  rw [← h2]; congr 2; omega
theorem set_mem {α : Type} {l : List α} {i : Nat} {y x : α} (h : x ∈ l.set i y) : x = y ∨ x ∈ l.eraseIdx i := by
  obtain ⟨j, hj, rfl⟩ := List.mem_iff_getElem.1 h
  by_cases e : i = j
  · subst e; left; simp
  · right
    rw [List.mem_eraseIdx_iff_getElem]
    exact ⟨j, by simpa using hj, fun h => e h.symm, by rw [List.getElem_set_ne e]⟩
theorem all_mem {α : Type} {l : List α} {i : Nat} {y x : α} (hy : l[i]? = some y) (h : x ∈ l) : x = y ∨ x ∈ l.eraseIdx i := by
  obtain ⟨hlt, e⟩ := List.getElem?_eq_some_iff.1 hy
  refine set_mem (i := i) (y := y) ?_
  rw [← e, List.set_getElem_self]; exact h
theorem pw_set {α : Type} {R : α → α → Prop} {l : List α} (h : l.Pairwise R) {i : Nat} {y : α} (hy : ∀ x ∈ l.eraseIdx i, R x y ∧ R y x) : (l.set i y).Pairwise R := by
  rw [List.pairwise_iff_getElem] at h ⊢
  intro j k hj hk hjk
  have mem : ∀ q (hq : q < l.length), q ≠ i → l[q] ∈ l.eraseIdx i := fun q hq hne => List.mem_eraseIdx_iff_getElem.2 ⟨q, hq, hne, rfl⟩
  simp only [List.length_set] at hj hk
  rw [List.getElem_set, List.getElem_set]
  by_cases e1 : i = j
  · by_cases e2 : i = k
    · omega
    · rw [if_pos e1, if_neg e2]; exact (hy _ (mem k hk (fun h => e2 h.symm))).2
  · by_cases e2 : i = k
    · rw [if_neg e1, if_pos e2]; exact (hy _ (mem j hj (fun h => e1 h.symm))).1
    · rw [if_neg e1, if_neg e2]; exact h j k hj hk hjk
theorem pw_erase {α : Type} {R : α → α → Prop} (hR : ∀ x y, R x y → R y x) {l : List α} (h : l.Pairwise R) {i : Nat} {y : α} (hy : l[i]? = some y) : ∀ x ∈ l.eraseIdx i, R x y ∧ R y x := by
  intro x hx
  obtain ⟨j, hj, hne, rfl⟩ := List.mem_eraseIdx_iff_getElem.1 hx
  obtain ⟨hi, rfl⟩ := List.getElem?_eq_some_iff.1 hy
  rw [List.pairwise_iff_getElem] at h
  rcases Nat.lt_or_ge j i with h1 | h1
  · have := h j i hj hi h1; exact ⟨this, hR _ _ this⟩
  · have := h i j hi hj (by omega); exact ⟨hR _ _ this, this⟩
theorem pw_snoc {α : Type} {R : α → α → Prop} {l : List α} (h : l.Pairwise R) {y : α} (hy : ∀ x ∈ l, R x y) : (l ++ [y]).Pairwise R :=
  List.pairwise_append.2 ⟨h, List.pairwise_singleton _ _, fun x hx z hz => by obtain rfl := List.mem_singleton.1 hz; exact hy x hx⟩

/-- what a rate that is set makes of them. -/
def setR (own : ByteArray) (l : List (ByteArray × List (Int × Int))) (n : Int) (c : ByteArray) (at_ nano : Int) : List (ByteArray × List (Int × Int)) × Int :=
  if setE own l n c at_ nano = 0 then (putL l c (rowsOf l c ++ [(at_, nano)]), n + 1) else (l, n)
theorem setE_zero {own : ByteArray} {l : List (ByteArray × List (Int × Int))} {n : Int} {c : ByteArray} {at_ nano : Int} (h1 : ¬ c = own) (h2 : ¬ askF c at_ ≠ 0) (h3 : ¬ (nano < 1 ∨ 1125899906842624 < nano)) (h4 : ¬ ∃ x, (rowsOf l c).getLast? = some x ∧ at_ ≤ x.1) (h5 : ¬ 500 ≤ n) : setE own l n c at_ nano = 0 := by
  unfold setE; rw [if_neg h1, if_neg h2, if_neg h3, if_neg h4, if_neg h5]
theorem entT_len (es : List RA) : (entT es).length = es.length := by simp [entT]

set_option maxRecDepth 100000 in
theorem fxSet_is (bk mb : Nat) (own : ByteArray) (es : List RA) (n at_ nano : Int) (i : Nat) (e : RA) (he : es[i]? = some e) (_ : -9223372036854775808 ≤ at_ ∧ at_ ≤ 9223372036854775807) (w0 : World) (h : ratesφ bk mb own es n w0) :
    MutC Try.prog 19 [.pointer (some ⟨bk, 0, none⟩), .string e.cur, .int .i64 at_, .int .i64 nano] w0 (ratesA bk mb own es n true) (fun _ : { y : List RA × Int // (vsT y.1, y.2) = setR own (vsT es) n e.cur at_ nano } => .int .i64 (setE own (vsT es) n e.cur at_ nano)) (fun y => ratesA bk mb own y.1.1 y.1.2 true) := by
  obtain ⟨a1, a2, a3⟩ := rates_apart h
  have wf := h.wf
  have hn0 := wf.n
  have hem := List.mem_of_getElem? he
  have hro : rowsOf (vsT es) e.cur = e.rows := rowsOf_is wf.keys he
  have hix : idxM (entT es) e.cur 0 = some (i, e.v) := by rw [is_cur wf.keys he 0, Nat.zero_add]
  have hlk : lkM (entT es) e.cur (.slice none 0 0) = e.v := by unfold lkM; rw [hix]
  have hel := wf.len e hem
  obtain ⟨q, cq, hev⟩ := own_slice (h.rows e hem)
  have hsh : q = none ∧ e.rows.length = 0 ∨ ∃ g, q = some ⟨g, 0, none⟩ := by
    rcases (h.rows e hem).2 with ⟨e1, e2⟩ | ⟨g, cap, cur, e1, _⟩
    · rw [hev] at e1; injection e1 with e3; exact .inl ⟨e3, e2⟩
    · rw [hev] at e1; injection e1 with e3; exact .inr ⟨g, e3⟩
  have hpe := pw_erase (fun x y h k h1 h2 => h k h2 h1) wf.apart he
  have same : setE own (vsT es) n e.cur at_ nano ≠ 0 → (vsT es, n) = setR own (vsT es) n e.cur at_ nano := fun hne => by unfold setR; rw [if_neg hne]
  have hback : ∀ {a : Act} {w : World} {L : List (Nat × Value)} {Δ : List Asn}, St 76 (ratesF bk mb es) w0 a w L (bkT bk mb own n :: smapA mb (entT es) :: ownA 93 3 (.slice q e.rows.length cq) e.rows.length (e.rows.flatMap (encT e.cur)) :: rowsT (es.eraseIdx i) :: Δ) → (ratesA bk mb own es n true).ok w := fun {a w L Δ} hS => rates_ok true ⟨hS.get (X := bkT bk mb own n) (by repeat constructor), hS.get (X := smapA mb (entT es)) (by repeat constructor), fun x hx => by
      rcases all_mem he hx with rfl | hx
      · show w.ownsRow 0 93 3 x.v x.rows.length (x.rows.flatMap (encT x.cur))
        rw [hev]; exact hS.get (X := ownA 93 3 (.slice q x.rows.length cq) x.rows.length (x.rows.flatMap (encT x.cur))) (by repeat constructor)
      · exact hS.get (X := rowsT (es.eraseIdx i)) (by repeat constructor) x hx, wf⟩
  refine c_enter [(0, .pointer (some ⟨bk, 0, none⟩)), (1, .string e.cur), (2, .int .i64 at_), (3, .int .i64 nano)] [bkT bk mb own n, smapA mb (entT es), ownA 93 3 (.slice q e.rows.length cq) e.rows.length (e.rows.flatMap (encT e.cur)), rowsT (es.eraseIdx i)] (ratesF bk mb es) Try.func19 rfl Try.ntmps19 ⟨rfl, rfl, rfl, rfl, trivial⟩ rfl (okC (ok_blk h.bk) (okC ⟨fun b hb => by obtain rfl : b = mb := hb; exact (Array.getElem?_eq_some_iff.1 h.mp).1, fun w' hw => by show w'.heap[mb]? = _; rw [hw mb rfl]; exact h.mp⟩ (okC (ok_own (hev ▸ h.rows e hem)) (okC (rows_ok fun x hx => h.rows x (List.mem_of_mem_eraseIdx hx)) okN)))) (disC (sepC (fun b hb hb' => a1 ((show b = bk from hb).symm.trans (show b = mb from hb'))) (sepC (fun b hb hb' => a2 e hem (by rw [hev, ← show b = bk from hb]; exact hb')) (sepC (fun b hb hb' => by obtain ⟨x, hx, hxb⟩ := hb'; exact a2 x (List.mem_of_mem_eraseIdx hx) (by rw [← show b = bk from hb]; exact hxb)) sepN))) (disC (sepC (fun b hb hb' => a3 e hem (by rw [hev, ← show b = mb from hb]; exact hb')) (sepC (fun b hb hb' => by obtain ⟨x, hx, hxb⟩ := hb'; exact a3 x (List.mem_of_mem_eraseIdx hx) (by rw [← show b = mb from hb]; exact hxb)) sepN)) (disC (sepC (fun b hb hb' => by obtain ⟨x, hx, hxb⟩ := hb'; exact (hpe x hx).1 b hxb (by rw [hev]; exact hb)) sepN) dis1))) (mineO (fun b hb => .inl hb) (mineO (fun b hb => .inr (.inl hb)) (mineO (fun b hb => .inr (.inr ⟨e, hem, by rw [hev]; exact hb⟩)) (mineO (fun b hb => by obtain ⟨x, hx, hxb⟩ := hb; exact .inr (.inr ⟨x, List.mem_of_mem_eraseIdx hx, hxb⟩)) mineN)))) ?_
  intro a hS
  refine c_seq ?_
  refine c_region ?_
  refine L_op (s_e hS (e_assign rfl) rfl ?_); clear hS a; intro a hS
  refine L_nil ?_
  refine n_then ?_
  refine c_seq ?_
  refine c_seq ?_
  refine c_region ?_
  refine L_op (s_e hS (e_move rfl) rfl ?_); clear hS a; intro a hS
  refine L_op (s_e hS (e_move rfl) rfl ?_); clear hS a; intro a hS
  refine L_op (s_e hS (e_nilCheck rfl) rfl ?_); clear hS a; intro a hS
  first | (refine L_op (s_e hS (e_fa0 rfl ty_fo114_0) rfl ?_); clear hS a; intro a hS) | (refine L_op (s_e hS (e_faK rfl ty_fo114_0) rfl ?_); clear hS a; intro a hS)
  refine L_op (s_e hS (e_load rfl (by repeat constructor) ty_sc9 (by rfl)) rfl ?_); clear hS a; intro a hS
  refine L_op (s_e hS (e_binS rfl rfl rfl) rfl ?_); clear hS a; intro a hS
  refine L_nil ?_
  refine n_then ?_
  first | refine c_ifD hS rfl (fun hc16 => ?_) (fun hc16 => ?_) | refine c_if hS rfl (fun hc16 => ?_) (fun hc16 => ?_)
  ·
    refine c_seq ?_
    refine c_region ?_
    refine L_op (s_e hS (e_assign rfl) rfl ?_); clear hS a; intro a hS
    refine L_nil ?_
    refine n_then ?_
    refine wp_ret ?_
    refine r_then ?_
    refine c_ret1 hS Try.results19 (.tmp rfl) ?_
    have hE : setE own (vsT es) n e.cur at_ nano = 18 := if_pos hc16
    exact ⟨⟨(es, n), same (by rw [hE]; decide)⟩, by (try dsimp only); rw [hE], hS.chg, hback hS, fun b hb => .inl hb⟩
  ·
    refine wp_skip ?_
    refine n_then ?_
    refine c_seq ?_
    refine c_seq ?_
    refine c_region ?_
    refine L_op (s_e hS (e_move rfl) rfl ?_); clear hS a; intro a hS
    refine L_op (s_e hS (e_move rfl) rfl ?_); clear hS a; intro a hS
    refine L_op (s_callP hS (.cons rfl (.cons rfl .nil)) cf53 rfl (fxasked_P e.cur at_ _) ?_); clear hS a; (try clear w); intro a w hS
    refine L_op (s_e hS (e_assign rfl) rfl ?_); clear hS a; intro a hS
    refine L_nil ?_
    refine n_then ?_
    refine c_seq ?_
    refine c_region ?_
    refine L_op (s_e hS (e_move rfl) rfl ?_); clear hS a; intro a hS
    refine L_op (s_e hS (e_bin rfl rfl rfl) rfl ?_); clear hS a; intro a hS
    refine L_nil ?_
    refine n_then ?_
    first | refine c_ifD hS rfl (fun hc21 => ?_) (fun hc21 => ?_) | refine c_if hS rfl (fun hc21 => ?_) (fun hc21 => ?_)
    ·
      refine c_seq ?_
      refine c_region ?_
      refine L_op (s_e hS (e_move rfl) rfl ?_); clear hS a; intro a hS
      refine L_op (s_e hS (e_assign rfl) rfl ?_); clear hS a; intro a hS
      refine L_nil ?_
      refine n_then ?_
      refine wp_ret ?_
      refine r_then ?_
      refine c_ret1 hS Try.results19 (.tmp rfl) ?_
      have hE : setE own (vsT es) n e.cur at_ nano = askF e.cur at_ := by unfold setE; rw [if_neg hc16, if_pos hc21]
      exact ⟨⟨(es, n), same (by rw [hE]; exact hc21)⟩, by (try dsimp only); rw [hE], hS.chg, hback hS, fun b hb => .inl hb⟩
    ·
      refine wp_skip ?_
      refine n_then ?_
      refine c_seq ?_
      refine c_region ?_
      refine L_op (s_e hS (e_move rfl) rfl ?_); clear hS a; intro a hS
      refine L_op (s_e hS (e_nilCheck rfl) rfl ?_); clear hS a; intro a hS
      first | (refine L_op (s_e hS (e_fa0 rfl ty_fo114_1) rfl ?_); clear hS a; intro a hS) | (refine L_op (s_e hS (e_faK rfl ty_fo114_1) rfl ?_); clear hS a; intro a hS)
      refine L_op (s_e hS (e_load rfl (by repeat constructor) ty_sc112 (by rfl)) rfl ?_); clear hS a; intro a hS
      refine L_op (s_e hS (e_move rfl) rfl ?_); clear hS a; intro a hS
      refine L_op (s_e hS (e_lookupS rfl rfl ty_mp112 ty_u9 ty_zv91 (by repeat constructor)) rfl ?_); clear hS a; intro a hS
      rw [hlk, hev] at hS
      refine L_op (s_e hS (e_assign rfl) rfl ?_); clear hS a; intro a hS
      refine L_nil ?_
      refine n_then ?_
      refine c_seq ?_
      refine wp_block ?_
      refine c_seq ?_
      refine c_region ?_
      refine L_op (s_e hS (e_move rfl) rfl ?_); clear hS a; intro a hS
      refine L_op (s_e hS (e_bin rfl rfl rfl) rfl ?_); clear hS a; intro a hS
      refine L_op (s_e hS (e_move rfl) rfl ?_); clear hS a; intro a hS
      refine L_merge 3 35 (.bool (decide (nano < 1 ∨ 1125899906842624 < nano))) hS ?_ ?_
      · intro hcM35
        (first | refine g_splitD (t := 32) hS rfl ?_ ?_ | refine g_split (t := 32) hS rfl ?_ ?_) <;> (clear hS; intro hg32 hS)
        ·
          refine L_skip_f hS rfl rfl rfl ?_; clear hS a; intro a hS
          refine L_skip_f hS rfl rfl rfl ?_; clear hS a; intro a hS
          first | (refine L_op (s_e hS (e_pick_t rfl rfl) rfl ?_); clear hS a; intro a hS) | (refine L_op (s_e hS (e_pick_f rfl rfl) rfl ?_); clear hS a; intro a hS)
          exact hcM35 _ _ (hS.ends 4 35 32 rfl (congrArg Value.bool (by first | rfl | (simp [hg32]; done) | (simp [hg32]; omega) | grind)) rfl rfl (by first | exact congrArg Value.bool (decide_eq_true hg32).symm | exact congrArg Value.bool hg32.symm | simp [hg32]) rfl)
        ·
          refine L_go hS rfl rfl (s_e hS (e_move rfl) rfl ?_); clear hS a; intro a hS
          refine L_go hS rfl rfl (s_e hS (e_bin rfl rfl rfl) rfl ?_); clear hS a; intro a hS
          first | (refine L_op (s_e hS (e_pick_t rfl rfl) rfl ?_); clear hS a; intro a hS) | (refine L_op (s_e hS (e_pick_f rfl rfl) rfl ?_); clear hS a; intro a hS)
          exact hcM35 _ _ (hS.ends 4 35 32 rfl (congrArg Value.bool (by first | rfl | (simp [hg32]; done) | (simp [hg32]; omega) | grind)) rfl rfl (by first | exact congrArg Value.bool (decide_eq_false hg32).symm | exact congrArg Value.bool hg32.symm | simp [hg32]) rfl)
      · clear hS a; (try clear w); intro a w hS
        simp only [List.drop_succ_cons, List.drop_zero]
        refine L_op (s_e hS (e_assign rfl) rfl ?_); clear hS a; intro a hS
        refine L_nil ?_
        refine n_then ?_
        first | refine c_ifD hS rfl (fun hc29 => ?_) (fun hc29 => ?_) | refine c_if hS rfl (fun hc29 => ?_) (fun hc29 => ?_)
        ·
          refine c_seq ?_
          refine c_region ?_
          refine L_op (s_e hS (e_assign rfl) rfl ?_); clear hS a; intro a hS
          refine L_nil ?_
          refine n_then ?_
          refine wp_ret ?_
          refine r_block (r_then ?_)
          refine c_ret1 hS Try.results19 (.tmp rfl) ?_
          have hE : setE own (vsT es) n e.cur at_ nano = 6 := by unfold setE; rw [if_neg hc16, if_neg hc21, if_pos hc29]
          exact ⟨⟨(es, n), same (by rw [hE]; decide)⟩, by (try dsimp only); rw [hE], hS.chg, hback hS, fun b hb => .inl hb⟩
        ·
          refine c_seq ?_
          refine c_region ?_
          refine L_op (s_e hS (e_move rfl) rfl ?_); clear hS a; intro a hS
          refine L_op (s_e hS (e_len rfl rfl ty_sl91) rfl ?_); clear hS a; intro a hS
          refine L_op (s_e hS (e_bin rfl rfl rfl) rfl ?_); clear hS a; intro a hS
          refine L_op (s_e hS (e_move rfl) rfl ?_); clear hS a; intro a hS
          refine L_merge 10 50 (.bool (decide (∃ x, (rowsOf (vsT es) e.cur).getLast? = some x ∧ at_ ≤ x.1))) hS ?_ ?_
          · intro hcM50
            (first | refine g_splitD (t := 40) hS rfl ?_ ?_ | refine g_split (t := 40) hS rfl ?_ ?_) <;> (clear hS; intro hg40 hS)
            ·
              obtain ⟨x, hx⟩ : ∃ x, e.rows[e.rows.length - 1]? = some x := ⟨e.rows[e.rows.length - 1]'(by omega), List.getElem?_eq_getElem (by omega)⟩
              have hlast : e.rows.getLast? = some x := by rw [List.getLast?_eq_getElem?]; exact hx
              obtain ⟨g, rfl⟩ : ∃ g, q = some ⟨g, 0, none⟩ := by
                rcases hsh with ⟨_, h0⟩ | hg
                · exfalso; omega
                · exact hg
              have hnat : ((e.rows.length : Int) - 1).toNat = e.rows.length - 1 := by omega
              refine L_go hS rfl rfl (s_e hS (e_move rfl) rfl ?_); clear hS a; intro a hS
              refine L_go hS rfl rfl (s_e hS (e_move rfl) rfl ?_); clear hS a; intro a hS
              refine L_go hS rfl rfl (s_e hS (e_len rfl rfl ty_sl91) rfl ?_); clear hS a; intro a hS
              first | (refine L_go hS rfl rfl (s_e hS (e_binN rfl rfl rfl (by omega)) rfl ?_); clear hS a; intro a hS) | (refine L_go hS rfl rfl (s_e hS (e_bin rfl rfl rfl) rfl ?_); clear hS a; intro a hS)
              refine L_go hS rfl rfl (s_e hS (e_ix rfl rfl ty_sl91 ty_sz93 (by omega)) rfl ?_); clear hS a; intro a hS
              first | (refine L_go hS rfl rfl (s_e hS (e_fa0 rfl ty_fo93_1) rfl ?_); clear hS a; intro a hS) | (refine L_go hS rfl rfl (s_e hS (e_faK rfl ty_fo93_1) rfl ?_); clear hS a; intro a hS)
              refine L_go hS rfl rfl (s_e hS (e_loadC rfl ty_sc3 (fun w hh => by rw [hnat]; exact own_get (enc := encT e.cur) (fun _ => rfl) (by repeat constructor) hx w hh 1 (.int .i64 x.1) rfl)) rfl ?_); clear hS a; intro a hS
              refine L_go hS rfl rfl (s_e hS (e_move rfl) rfl ?_); clear hS a; intro a hS
              refine L_go hS rfl rfl (s_e hS (e_bin rfl rfl rfl) rfl ?_); clear hS a; intro a hS
              first | (refine L_op (s_e hS (e_pick_t rfl rfl) rfl ?_); clear hS a; intro a hS) | (refine L_op (s_e hS (e_pick_f rfl rfl) rfl ?_); clear hS a; intro a hS)
              exact hcM50 _ _ (hS.ends 11 50 40 rfl (congrArg Value.bool (by rw [hro]; exact decide_eq_decide.2 ⟨fun hh => ⟨x, hlast, hh⟩, fun ⟨z, hz, hh⟩ => by rw [hlast] at hz; cases hz; exact hh⟩)) rfl rfl (by first | exact congrArg Value.bool (decide_eq_true hg40).symm | exact congrArg Value.bool hg40.symm | simp [hg40]) rfl)
            ·
              refine L_skip_t hS rfl rfl rfl ?_; clear hS a; intro a hS
              refine L_skip_t hS rfl rfl rfl ?_; clear hS a; intro a hS
              refine L_skip_t hS rfl rfl rfl ?_; clear hS a; intro a hS
              refine L_skip_t hS rfl rfl rfl ?_; clear hS a; intro a hS
              refine L_skip_t hS rfl rfl rfl ?_; clear hS a; intro a hS
              refine L_skip_t hS rfl rfl rfl ?_; clear hS a; intro a hS
              refine L_skip_t hS rfl rfl rfl ?_; clear hS a; intro a hS
              refine L_skip_t hS rfl rfl rfl ?_; clear hS a; intro a hS
              refine L_skip_t hS rfl rfl rfl ?_; clear hS a; intro a hS
              first | (refine L_op (s_e hS (e_pick_t rfl rfl) rfl ?_); clear hS a; intro a hS) | (refine L_op (s_e hS (e_pick_f rfl rfl) rfl ?_); clear hS a; intro a hS)
              exact hcM50 _ _ (hS.ends 11 50 40 rfl (congrArg Value.bool (by rw [hro]; exact (decide_eq_false (fun ⟨z, hz, hh⟩ => by rw [show e.rows = [] from List.eq_nil_of_length_eq_zero (by omega)] at hz; cases hz)).symm)) rfl rfl (by first | exact congrArg Value.bool (decide_eq_false hg40).symm | exact congrArg Value.bool hg40.symm | simp [hg40]) rfl)
          · clear hS a; (try clear w); intro a w hS
            simp only [List.drop_succ_cons, List.drop_zero]
            refine L_op (s_e hS (e_assign rfl) rfl ?_); clear hS a; intro a hS
            refine L_nil ?_
            refine n_then ?_
            first | refine c_ifD hS rfl (fun hc36 => ?_) (fun hc36 => ?_) | refine c_if hS rfl (fun hc36 => ?_) (fun hc36 => ?_)
            ·
              refine c_seq ?_
              refine c_region ?_
              refine L_op (s_e hS (e_assign rfl) rfl ?_); clear hS a; intro a hS
              refine L_nil ?_
              refine n_then ?_
              refine wp_ret ?_
              refine r_block (r_then ?_)
              refine c_ret1 hS Try.results19 (.tmp rfl) ?_
              have hE : setE own (vsT es) n e.cur at_ nano = 34 := by unfold setE; rw [if_neg hc16, if_neg hc21, if_neg hc29, if_pos hc36]
              exact ⟨⟨(es, n), same (by rw [hE]; decide)⟩, by (try dsimp only); rw [hE], hS.chg, hback hS, fun b hb => .inl hb⟩
            ·
              refine c_seq ?_
              refine c_region ?_
              refine L_op (s_e hS (e_move rfl) rfl ?_); clear hS a; intro a hS
              refine L_op (s_e hS (e_nilCheck rfl) rfl ?_); clear hS a; intro a hS
              first | (refine L_op (s_e hS (e_fa0 rfl ty_fo114_2) rfl ?_); clear hS a; intro a hS) | (refine L_op (s_e hS (e_faK rfl ty_fo114_2) rfl ?_); clear hS a; intro a hS)
              refine L_op (s_e hS (e_load rfl (by repeat constructor) ty_sc3 (by rfl)) rfl ?_); clear hS a; intro a hS
              refine L_op (s_e hS (e_bin rfl rfl rfl) rfl ?_); clear hS a; intro a hS
              refine L_op (s_e hS (e_assign rfl) rfl ?_); clear hS a; intro a hS
              refine L_nil ?_
              refine n_then ?_
              first | refine c_ifD hS rfl (fun hc51 => ?_) (fun hc51 => ?_) | refine c_if hS rfl (fun hc51 => ?_) (fun hc51 => ?_)
              ·
                refine c_seq ?_
                refine c_region ?_
                refine L_op (s_e hS (e_assign rfl) rfl ?_); clear hS a; intro a hS
                refine L_nil ?_
                refine n_then ?_
                refine wp_ret ?_
                refine r_block (r_then ?_)
                refine c_ret1 hS Try.results19 (.tmp rfl) ?_
                have hE : setE own (vsT es) n e.cur at_ nano = 9 := by unfold setE; rw [if_neg hc16, if_neg hc21, if_neg hc29, if_neg hc36, if_pos hc51]
                exact ⟨⟨(es, n), same (by rw [hE]; decide)⟩, by (try dsimp only); rw [hE], hS.chg, hback hS, fun b hb => .inl hb⟩
              ·
                refine wp_skip ?_
                refine n_block ?_
                refine n_then ?_
                refine c_seq ?_
                refine c_drawS [12] (by kernel_rfl) hS (sub_cons (X := bkT bk mb own n) (by repeat constructor) (sub_cons (X := smapA mb (entT es)) (by repeat constructor) sub_nil)) ?_; clear hS; (try clear w); intro w hS
                simp only [List.length_cons, List.length_nil, Nat.zero_add, Nat.reduceAdd, List.replicate]
                refine Z_take0 (i := 0) hS rfl want_none (e_move rfl) (listed' := [true, false, false, false, false, false, false, false, false, false, false, false, false]) rfl (by kernel_rfl) (by kernel_rfl) (by kernel_rfl) (fun _ _ _ h => h) rfl ?_; clear hS a; intro a hS
                refine Z_take0 (i := 1) hS rfl want_none (e_nilCheck rfl) (listed' := [true, true, false, false, false, false, false, false, false, false, false, false, false]) rfl (by kernel_rfl) (by kernel_rfl) (by kernel_rfl) (fun _ _ _ h => h) rfl ?_; clear hS a; intro a hS
                first | (refine Z_take0 (i := 2) hS rfl want_none (e_fa0 rfl ty_fo114_1) (listed' := [true, true, true, false, false, false, false, false, false, false, false, false, false]) rfl (by kernel_rfl) (by kernel_rfl) (by kernel_rfl) (fun _ _ _ h => h) rfl ?_; clear hS a; intro a hS) | (refine Z_take0 (i := 2) hS rfl want_none (e_faK rfl ty_fo114_1) (listed' := [true, true, true, false, false, false, false, false, false, false, false, false, false]) rfl (by kernel_rfl) (by kernel_rfl) (by kernel_rfl) (fun _ _ _ h => h) rfl ?_; clear hS a; intro a hS)
                refine Z_take (i := 3) hS rfl want_none (e_load rfl (by repeat constructor) ty_sc112 (by rfl)) (listed' := [true, true, true, true, false, false, false, false, false, false, false, false, false]) rfl (by kernel_rfl) (by kernel_rfl) (by kernel_rfl) (by kernel_rfl) (by kernel_rfl) (sub_cons (by repeat constructor) (sub_cons (by repeat constructor) sub_nil)) (fun _ _ _ h => h) rfl ?_; clear hS a; intro a hS
                refine Z_take0 (i := 4) hS rfl want_none (e_move rfl) (listed' := [true, true, true, true, true, false, false, false, false, false, false, false, false]) rfl (by kernel_rfl) (by kernel_rfl) (by kernel_rfl) (fun _ _ _ h => h) rfl ?_; clear hS a; intro a hS
                refine Z_take0 (i := 5) hS rfl want_none (e_move rfl) (listed' := [true, true, true, true, true, true, false, false, false, false, false, false, false]) rfl (by kernel_rfl) (by kernel_rfl) (by kernel_rfl) (fun _ _ _ h => h) rfl ?_; clear hS a; intro a hS
                refine Z_take0 (i := 6) hS rfl want_none (e_move rfl) (listed' := [true, true, true, true, true, true, true, false, false, false, false, false, false]) rfl (by kernel_rfl) (by kernel_rfl) (by kernel_rfl) (fun _ _ _ h => h) rfl ?_; clear hS a; intro a hS
                refine Z_take0 (i := 7) hS rfl want_none (e_move rfl) (listed' := [true, true, true, true, true, true, true, true, false, false, false, false, false]) rfl (by kernel_rfl) (by kernel_rfl) (by kernel_rfl) (fun _ _ _ h => h) rfl ?_; clear hS a; intro a hS
                refine Z_take0 (i := 8) hS rfl want_none (e_move rfl) (listed' := [true, true, true, true, true, true, true, true, true, false, false, false, false]) rfl (by kernel_rfl) (by kernel_rfl) (by kernel_rfl) (fun _ _ _ h => h) rfl ?_; clear hS a; intro a hS
                refine Z_take0 (i := 9) hS rfl want_none (e_build ty_z93 ty_pl93 (.one rfl rfl rfl (by repeat constructor) (.one rfl rfl rfl (by repeat constructor) (.one rfl rfl rfl (by repeat constructor) .nil)))) (listed' := [true, true, true, true, true, true, true, true, true, true, false, false, false]) rfl (by kernel_rfl) (by kernel_rfl) (by kernel_rfl) (fun _ _ _ h => h) rfl ?_; clear hS a; intro a hS
                refine Z_one (i := 10) rfl (want_none a hS.sl) (listed' := [true, true, true, true, true, true, true, true, true, true, true, false, false]) rfl (by kernel_rfl) (s_bslice hS ty_sl91 ty_sz93 ty_z93 rfl rfl rfl rfl (.agg rfl rfl .nil) rfl ?_); clear hS a; (try clear w); intro a w b67 hS
                refine Z_and hS (sub_cons (by repeat constructor) (sub_cons (by repeat constructor) sub_nil)) ?_
                refine Z_one (i := 11) rfl (want_none a hS.sl) (listed' := [true, true, true, true, true, true, true, true, true, true, true, true, false]) rfl (by kernel_rfl) (s_append1 hS rfl rfl ty_sl91 ty_sz93 ty_by93 ty_z93 rfl rfl rfl (by repeat constructor) (by repeat constructor) (by rfl) (by rfl) (fun _ => (by repeat constructor)) (by omega) ?_); clear hS a; (try clear w); intro v68 a w hv68 hS
                refine Z_and hS (sub_cons (by repeat constructor) (sub_cons (by repeat constructor) sub_nil)) ?_
                refine Z_one (i := 12) rfl (want_none a hS.sl) (listed' := [true, true, true, true, true, true, true, true, true, true, true, true, true]) rfl (by kernel_rfl) (s_mapUp hS rfl rfl rfl ty_mp112 ty_u9 (by repeat constructor) ?_); clear hS; (try clear w); intro w hS
                refine Z_last (by simp) ?_
                refine Z_done (by kernel_rfl) ?_
                refine n_then ?_
                refine c_seq ?_
                refine c_region ?_
                refine L_op (s_e hS (e_move rfl) rfl ?_); clear hS a; intro a hS
                refine L_op (s_e hS (e_nilCheck rfl) rfl ?_); clear hS a; intro a hS
                first | (refine L_op (s_e hS (e_fa0 rfl ty_fo114_2) rfl ?_); clear hS a; intro a hS) | (refine L_op (s_e hS (e_faK rfl ty_fo114_2) rfl ?_); clear hS a; intro a hS)
                refine L_op (s_e hS (e_load rfl (by repeat constructor) ty_sc3 (by rfl)) rfl ?_); clear hS a; intro a hS
                first | (refine L_op (s_e hS (e_binN rfl rfl rfl (by omega)) rfl ?_); clear hS a; intro a hS) | (refine L_op (s_e hS (e_bin rfl rfl rfl) rfl ?_); clear hS a; intro a hS)
                refine L_op (s_e hS (e_nilCheck rfl) rfl ?_); clear hS a; intro a hS
                first | (refine L_op (s_e hS (e_fa0 rfl ty_fo114_2) rfl ?_); clear hS a; intro a hS) | (refine L_op (s_e hS (e_faK rfl ty_fo114_2) rfl ?_); clear hS a; intro a hS)
                refine L_op (s_store hS rfl rfl rfl ty_sz3 (by repeat constructor) (by repeat constructor) ?_); clear hS; (try clear w); intro w hS
                refine L_nil ?_
                refine n_then ?_
                refine c_seq ?_
                refine c_region ?_
                refine L_op (s_e hS (e_assign rfl) rfl ?_); clear hS a; intro a hS
                refine L_nil ?_
                refine n_then ?_
                refine wp_ret ?_
                refine c_ret1 hS Try.results19 (.tmp rfl) ?_
                have hE := setE_zero (own := own) (l := vsT es) (n := n) (c := e.cur) (at_ := at_) (nano := nano) hc16 hc21 hc29 hc36 hc51
                have hent : entT (es.set i ⟨e.cur, e.rows ++ [(at_, nano)], v68⟩) = setM (entT es) e.cur v68 := by
                  rw [setM_some v68 hix, Nat.sub_zero]; simp [entT, List.map_set]
                have hrow : w.ownsRow 0 93 3 v68 (e.rows ++ [(at_, nano)]).length ((e.rows ++ [(at_, nano)]).flatMap (encT e.cur)) := by
                  have h1 : w.ownsRow 0 93 3 v68 (e.rows.length + 1) (e.rows.flatMap (encT e.cur) ++ ([.string e.cur, .int .i64 at_, .int .i64 nano] ++ [])) := hS.get (X := ownA 93 3 v68 (e.rows.length + 1) _) (by repeat constructor)
                  simpa [encT] using h1
                have hsep := hS.sep (X := ownA 93 3 v68 (e.rows.length + 1) (e.rows.flatMap (encT e.cur) ++ ([.string e.cur, .int .i64 at_, .int .i64 nano] ++ []))) (Y := rowsT (es.eraseIdx i)) (by repeat (first | exact Rem.head | apply Rem.tail)) (by repeat constructor)
                have hrest := hS.get (X := rowsT (es.eraseIdx i)) (by repeat constructor)
                have hset : (vsT (es.set i ⟨e.cur, e.rows ++ [(at_, nano)], v68⟩), n + 1) = setR own (vsT es) n e.cur at_ nano := by
                  unfold setR; rw [if_pos hE, hro, putL_is wf.keys _ he]; simp [vsT, List.map_set]
                refine ⟨⟨(es.set i ⟨e.cur, e.rows ++ [(at_, nano)], v68⟩, n + 1), hset⟩, by (try dsimp only); rw [hE], hS.chg, rates_ok true ⟨hS.get (X := .blk bk [.string own, .map (some mb), .int .i64 (n + 1)] 114) (by repeat constructor), by rw [hent]; exact hS.get (X := smapA mb (setM (entT es) e.cur v68)) (by repeat constructor), fun x hx => ?_, ⟨?_, ?_, fun x hx => ?_, by show 0 ≤ n + 1; omega, by show n + 1 ≤ 500; omega⟩⟩, fun b hb => ?_⟩
                · rcases set_mem hx with rfl | hx
                  · exact hrow
                  · exact hrest x hx
                · exact pw_set wf.keys (fun x hx => (pw_erase (fun x y h => Ne.symm h) wf.keys he x hx))
                · exact pw_set wf.apart (fun x hx => ⟨fun k h1 h2 => hsep k h2 ⟨x, hx, h1⟩, fun k h1 h2 => hsep k h1 ⟨x, hx, h2⟩⟩)
                · rcases set_mem hx with rfl | hx
                  · simp only [List.length_append, List.length_cons, List.length_nil]; omega
                  · have := wf.len x (List.mem_of_mem_eraseIdx hx); simp only; omega
                · rcases hb with hb | hb | ⟨x, hx, hxb⟩
                  · exact .inl (.inl hb)
                  · exact .inl (.inr (.inl hb))
                  · rcases set_mem hx with rfl | hx
                    · exact (hS.mine (ownA 93 3 v68 (e.rows.length + 1) _) (by repeat constructor) rfl b hxb).symm
                    · exact .inl (.inr (.inr ⟨x, List.mem_of_mem_eraseIdx hx, hxb⟩))

set_option maxRecDepth 100000 in
theorem fxSet_no (bk mb : Nat) (own c : ByteArray) (es : List RA) (n at_ nano : Int) (hno : ∀ e ∈ es, e.cur ≠ c) (_ : -9223372036854775808 ≤ at_ ∧ at_ ≤ 9223372036854775807) (w0 : World) (h : ratesφ bk mb own es n w0) :
    MutC Try.prog 19 [.pointer (some ⟨bk, 0, none⟩), .string c, .int .i64 at_, .int .i64 nano] w0 (ratesA bk mb own es n true) (fun _ : { y : List RA × Int // (vsT y.1, y.2) = setR own (vsT es) n c at_ nano } => .int .i64 (setE own (vsT es) n c at_ nano)) (fun y => ratesA bk mb own y.1.1 y.1.2 true) := by
  obtain ⟨a1, a2, a3⟩ := rates_apart h
  have wf := h.wf
  have hn0 := wf.n
  have hro : rowsOf (vsT es) c = [] := rowsOf_no hno
  have hix : idxM (entT es) c 0 = none := no_cur hno 0
  have hlk : lkM (entT es) c (.slice none 0 0) = .slice none 0 0 := by unfold lkM; rw [hix]
  have same : setE own (vsT es) n c at_ nano ≠ 0 → (vsT es, n) = setR own (vsT es) n c at_ nano := fun hne => by unfold setR; rw [if_neg hne]
  have hback : ∀ {a : Act} {w : World} {L : List (Nat × Value)} {Δ : List Asn}, St 76 (ratesF bk mb es) w0 a w L (bkT bk mb own n :: smapA mb (entT es) :: rowsT es :: Δ) → (ratesA bk mb own es n true).ok w := fun {a w L Δ} hS => rates_ok true ⟨hS.get (X := bkT bk mb own n) (by repeat constructor), hS.get (X := smapA mb (entT es)) (by repeat constructor), hS.get (X := rowsT es) (by repeat constructor), wf⟩
  refine c_enter [(0, .pointer (some ⟨bk, 0, none⟩)), (1, .string c), (2, .int .i64 at_), (3, .int .i64 nano)] [bkT bk mb own n, smapA mb (entT es), rowsT es] (ratesF bk mb es) Try.func19 rfl Try.ntmps19 ⟨rfl, rfl, rfl, rfl, trivial⟩ rfl (okC (ok_blk h.bk) (okC ⟨fun b hb => by obtain rfl : b = mb := hb; exact (Array.getElem?_eq_some_iff.1 h.mp).1, fun w' hw => by show w'.heap[mb]? = _; rw [hw mb rfl]; exact h.mp⟩ (okC (rows_ok h.rows) okN))) (disC (sepC (fun b hb hb' => a1 ((show b = bk from hb).symm.trans (show b = mb from hb'))) (sepC (fun b hb hb' => by obtain ⟨x, hx, hxb⟩ := hb'; exact a2 x hx (by rw [← show b = bk from hb]; exact hxb)) sepN)) (disC (sepC (fun b hb hb' => by obtain ⟨x, hx, hxb⟩ := hb'; exact a3 x hx (by rw [← show b = mb from hb]; exact hxb)) sepN) dis1)) (mineO (fun b hb => .inl hb) (mineO (fun b hb => .inr (.inl hb)) (mineO (fun b hb => .inr (.inr hb)) mineN))) ?_
  intro a hS
  refine c_seq ?_
  refine c_region ?_
  refine L_op (s_e hS (e_assign rfl) rfl ?_); clear hS a; intro a hS
  refine L_nil ?_
  refine n_then ?_
  refine c_seq ?_
  refine c_seq ?_
  refine c_region ?_
  refine L_op (s_e hS (e_move rfl) rfl ?_); clear hS a; intro a hS
  refine L_op (s_e hS (e_move rfl) rfl ?_); clear hS a; intro a hS
  refine L_op (s_e hS (e_nilCheck rfl) rfl ?_); clear hS a; intro a hS
  first | (refine L_op (s_e hS (e_fa0 rfl ty_fo114_0) rfl ?_); clear hS a; intro a hS) | (refine L_op (s_e hS (e_faK rfl ty_fo114_0) rfl ?_); clear hS a; intro a hS)
  refine L_op (s_e hS (e_load rfl (by repeat constructor) ty_sc9 (by rfl)) rfl ?_); clear hS a; intro a hS
  refine L_op (s_e hS (e_binS rfl rfl rfl) rfl ?_); clear hS a; intro a hS
  refine L_nil ?_
  refine n_then ?_
  first | refine c_ifD hS rfl (fun hc16 => ?_) (fun hc16 => ?_) | refine c_if hS rfl (fun hc16 => ?_) (fun hc16 => ?_)
  ·
    refine c_seq ?_
    refine c_region ?_
    refine L_op (s_e hS (e_assign rfl) rfl ?_); clear hS a; intro a hS
    refine L_nil ?_
    refine n_then ?_
    refine wp_ret ?_
    refine r_then ?_
    refine c_ret1 hS Try.results19 (.tmp rfl) ?_
    have hE : setE own (vsT es) n c at_ nano = 18 := if_pos hc16
    exact ⟨⟨(es, n), same (by rw [hE]; decide)⟩, by (try dsimp only); rw [hE], hS.chg, hback hS, fun b hb => .inl hb⟩
  ·
    refine wp_skip ?_
    refine n_then ?_
    refine c_seq ?_
    refine c_seq ?_
    refine c_region ?_
    refine L_op (s_e hS (e_move rfl) rfl ?_); clear hS a; intro a hS
    refine L_op (s_e hS (e_move rfl) rfl ?_); clear hS a; intro a hS
    refine L_op (s_callP hS (.cons rfl (.cons rfl .nil)) cf53 rfl (fxasked_P c at_ _) ?_); clear hS a; (try clear w); intro a w hS
    refine L_op (s_e hS (e_assign rfl) rfl ?_); clear hS a; intro a hS
    refine L_nil ?_
    refine n_then ?_
    refine c_seq ?_
    refine c_region ?_
    refine L_op (s_e hS (e_move rfl) rfl ?_); clear hS a; intro a hS
    refine L_op (s_e hS (e_bin rfl rfl rfl) rfl ?_); clear hS a; intro a hS
    refine L_nil ?_
    refine n_then ?_
    first | refine c_ifD hS rfl (fun hc21 => ?_) (fun hc21 => ?_) | refine c_if hS rfl (fun hc21 => ?_) (fun hc21 => ?_)
    ·
      refine c_seq ?_
      refine c_region ?_
      refine L_op (s_e hS (e_move rfl) rfl ?_); clear hS a; intro a hS
      refine L_op (s_e hS (e_assign rfl) rfl ?_); clear hS a; intro a hS
      refine L_nil ?_
      refine n_then ?_
      refine wp_ret ?_
      refine r_then ?_
      refine c_ret1 hS Try.results19 (.tmp rfl) ?_
      have hE : setE own (vsT es) n c at_ nano = askF c at_ := by unfold setE; rw [if_neg hc16, if_pos hc21]
      exact ⟨⟨(es, n), same (by rw [hE]; exact hc21)⟩, by (try dsimp only); rw [hE], hS.chg, hback hS, fun b hb => .inl hb⟩
    ·
      refine wp_skip ?_
      refine n_then ?_
      refine c_seq ?_
      refine c_region ?_
      refine L_op (s_e hS (e_move rfl) rfl ?_); clear hS a; intro a hS
      refine L_op (s_e hS (e_nilCheck rfl) rfl ?_); clear hS a; intro a hS
      first | (refine L_op (s_e hS (e_fa0 rfl ty_fo114_1) rfl ?_); clear hS a; intro a hS) | (refine L_op (s_e hS (e_faK rfl ty_fo114_1) rfl ?_); clear hS a; intro a hS)
      refine L_op (s_e hS (e_load rfl (by repeat constructor) ty_sc112 (by rfl)) rfl ?_); clear hS a; intro a hS
      refine L_op (s_e hS (e_move rfl) rfl ?_); clear hS a; intro a hS
      refine L_op (s_e hS (e_lookupS rfl rfl ty_mp112 ty_u9 ty_zv91 (by repeat constructor)) rfl ?_); clear hS a; intro a hS
      rw [hlk] at hS
      refine L_op (s_e hS (e_assign rfl) rfl ?_); clear hS a; intro a hS
      refine L_nil ?_
      refine n_then ?_
      refine c_seq ?_
      refine wp_block ?_
      refine c_seq ?_
      refine c_region ?_
      refine L_op (s_e hS (e_move rfl) rfl ?_); clear hS a; intro a hS
      refine L_op (s_e hS (e_bin rfl rfl rfl) rfl ?_); clear hS a; intro a hS
      refine L_op (s_e hS (e_move rfl) rfl ?_); clear hS a; intro a hS
      refine L_merge 3 35 (.bool (decide (nano < 1 ∨ 1125899906842624 < nano))) hS ?_ ?_
      · intro hcM35
        (first | refine g_splitD (t := 32) hS rfl ?_ ?_ | refine g_split (t := 32) hS rfl ?_ ?_) <;> (clear hS; intro hg32 hS)
        ·
          refine L_skip_f hS rfl rfl rfl ?_; clear hS a; intro a hS
          refine L_skip_f hS rfl rfl rfl ?_; clear hS a; intro a hS
          first | (refine L_op (s_e hS (e_pick_t rfl rfl) rfl ?_); clear hS a; intro a hS) | (refine L_op (s_e hS (e_pick_f rfl rfl) rfl ?_); clear hS a; intro a hS)
          exact hcM35 _ _ (hS.ends 4 35 32 rfl (congrArg Value.bool (by first | rfl | (simp [hg32]; done) | (simp [hg32]; omega) | grind)) rfl rfl (by first | exact congrArg Value.bool (decide_eq_true hg32).symm | exact congrArg Value.bool hg32.symm | simp [hg32]) rfl)
        ·
          refine L_go hS rfl rfl (s_e hS (e_move rfl) rfl ?_); clear hS a; intro a hS
          refine L_go hS rfl rfl (s_e hS (e_bin rfl rfl rfl) rfl ?_); clear hS a; intro a hS
          first | (refine L_op (s_e hS (e_pick_t rfl rfl) rfl ?_); clear hS a; intro a hS) | (refine L_op (s_e hS (e_pick_f rfl rfl) rfl ?_); clear hS a; intro a hS)
          exact hcM35 _ _ (hS.ends 4 35 32 rfl (congrArg Value.bool (by first | rfl | (simp [hg32]; done) | (simp [hg32]; omega) | grind)) rfl rfl (by first | exact congrArg Value.bool (decide_eq_false hg32).symm | exact congrArg Value.bool hg32.symm | simp [hg32]) rfl)
      · clear hS a; (try clear w); intro a w hS
        simp only [List.drop_succ_cons, List.drop_zero]
        refine L_op (s_e hS (e_assign rfl) rfl ?_); clear hS a; intro a hS
        refine L_nil ?_
        refine n_then ?_
        first | refine c_ifD hS rfl (fun hc29 => ?_) (fun hc29 => ?_) | refine c_if hS rfl (fun hc29 => ?_) (fun hc29 => ?_)
        ·
          refine c_seq ?_
          refine c_region ?_
          refine L_op (s_e hS (e_assign rfl) rfl ?_); clear hS a; intro a hS
          refine L_nil ?_
          refine n_then ?_
          refine wp_ret ?_
          refine r_block (r_then ?_)
          refine c_ret1 hS Try.results19 (.tmp rfl) ?_
          have hE : setE own (vsT es) n c at_ nano = 6 := by unfold setE; rw [if_neg hc16, if_neg hc21, if_pos hc29]
          exact ⟨⟨(es, n), same (by rw [hE]; decide)⟩, by (try dsimp only); rw [hE], hS.chg, hback hS, fun b hb => .inl hb⟩
        ·
          refine c_seq ?_
          refine c_region ?_
          refine L_op (s_e hS (e_move rfl) rfl ?_); clear hS a; intro a hS
          refine L_op (s_e hS (e_len rfl rfl ty_sl91) rfl ?_); clear hS a; intro a hS
          refine L_op (s_e hS (e_bin rfl rfl rfl) rfl ?_); clear hS a; intro a hS
          refine L_op (s_e hS (e_move rfl) rfl ?_); clear hS a; intro a hS
          replace hS := hS.is (t := 40) (c := false) rfl (rfl)
          refine L_skip_t hS rfl rfl rfl ?_; clear hS a; intro a hS
          refine L_skip_t hS rfl rfl rfl ?_; clear hS a; intro a hS
          refine L_skip_t hS rfl rfl rfl ?_; clear hS a; intro a hS
          refine L_skip_t hS rfl rfl rfl ?_; clear hS a; intro a hS
          refine L_skip_t hS rfl rfl rfl ?_; clear hS a; intro a hS
          refine L_skip_t hS rfl rfl rfl ?_; clear hS a; intro a hS
          refine L_skip_t hS rfl rfl rfl ?_; clear hS a; intro a hS
          refine L_skip_t hS rfl rfl rfl ?_; clear hS a; intro a hS
          refine L_skip_t hS rfl rfl rfl ?_; clear hS a; intro a hS
          first | (refine L_op (s_e hS (e_pick_t rfl rfl) rfl ?_); clear hS a; intro a hS) | (refine L_op (s_e hS (e_pick_f rfl rfl) rfl ?_); clear hS a; intro a hS)
          refine L_op (s_e hS (e_assign rfl) rfl ?_); clear hS a; intro a hS
          refine L_nil ?_
          refine n_then ?_
          refine c_if_f hS rfl ?_
          refine c_seq ?_
          refine c_region ?_
          refine L_op (s_e hS (e_move rfl) rfl ?_); clear hS a; intro a hS
          refine L_op (s_e hS (e_nilCheck rfl) rfl ?_); clear hS a; intro a hS
          first | (refine L_op (s_e hS (e_fa0 rfl ty_fo114_2) rfl ?_); clear hS a; intro a hS) | (refine L_op (s_e hS (e_faK rfl ty_fo114_2) rfl ?_); clear hS a; intro a hS)
          refine L_op (s_e hS (e_load rfl (by repeat constructor) ty_sc3 (by rfl)) rfl ?_); clear hS a; intro a hS
          refine L_op (s_e hS (e_bin rfl rfl rfl) rfl ?_); clear hS a; intro a hS
          refine L_op (s_e hS (e_assign rfl) rfl ?_); clear hS a; intro a hS
          refine L_nil ?_
          refine n_then ?_
          first | refine c_ifD hS rfl (fun hc51 => ?_) (fun hc51 => ?_) | refine c_if hS rfl (fun hc51 => ?_) (fun hc51 => ?_)
          ·
            refine c_seq ?_
            refine c_region ?_
            refine L_op (s_e hS (e_assign rfl) rfl ?_); clear hS a; intro a hS
            refine L_nil ?_
            refine n_then ?_
            refine wp_ret ?_
            refine r_block (r_then ?_)
            refine c_ret1 hS Try.results19 (.tmp rfl) ?_
            have hE : setE own (vsT es) n c at_ nano = 9 := by unfold setE; rw [if_neg hc16, if_neg hc21, if_neg hc29, if_neg (by rw [hro]; rintro ⟨_, h0, _⟩; cases h0), if_pos hc51]
            exact ⟨⟨(es, n), same (by rw [hE]; decide)⟩, by (try dsimp only); rw [hE], hS.chg, hback hS, fun b hb => .inl hb⟩
          ·
            refine wp_skip ?_
            refine n_block ?_
            refine n_then ?_
            refine c_seq ?_
            refine c_drawS [12] (by kernel_rfl) hS (sub_cons (X := bkT bk mb own n) (by repeat constructor) (sub_cons (X := smapA mb (entT es)) (by repeat constructor) sub_nil)) ?_; clear hS; (try clear w); intro w hS
            simp only [List.length_cons, List.length_nil, Nat.zero_add, Nat.reduceAdd, List.replicate]
            refine Z_take0 (i := 0) hS rfl want_none (e_move rfl) (listed' := [true, false, false, false, false, false, false, false, false, false, false, false, false]) rfl (by kernel_rfl) (by kernel_rfl) (by kernel_rfl) (fun _ _ _ h => h) rfl ?_; clear hS a; intro a hS
            refine Z_take0 (i := 1) hS rfl want_none (e_nilCheck rfl) (listed' := [true, true, false, false, false, false, false, false, false, false, false, false, false]) rfl (by kernel_rfl) (by kernel_rfl) (by kernel_rfl) (fun _ _ _ h => h) rfl ?_; clear hS a; intro a hS
            first | (refine Z_take0 (i := 2) hS rfl want_none (e_fa0 rfl ty_fo114_1) (listed' := [true, true, true, false, false, false, false, false, false, false, false, false, false]) rfl (by kernel_rfl) (by kernel_rfl) (by kernel_rfl) (fun _ _ _ h => h) rfl ?_; clear hS a; intro a hS) | (refine Z_take0 (i := 2) hS rfl want_none (e_faK rfl ty_fo114_1) (listed' := [true, true, true, false, false, false, false, false, false, false, false, false, false]) rfl (by kernel_rfl) (by kernel_rfl) (by kernel_rfl) (fun _ _ _ h => h) rfl ?_; clear hS a; intro a hS)
            refine Z_take (i := 3) hS rfl want_none (e_load rfl (by repeat constructor) ty_sc112 (by rfl)) (listed' := [true, true, true, true, false, false, false, false, false, false, false, false, false]) rfl (by kernel_rfl) (by kernel_rfl) (by kernel_rfl) (by kernel_rfl) (by kernel_rfl) (sub_cons (by repeat constructor) (sub_cons (by repeat constructor) sub_nil)) (fun _ _ _ h => h) rfl ?_; clear hS a; intro a hS
            refine Z_take0 (i := 4) hS rfl want_none (e_move rfl) (listed' := [true, true, true, true, true, false, false, false, false, false, false, false, false]) rfl (by kernel_rfl) (by kernel_rfl) (by kernel_rfl) (fun _ _ _ h => h) rfl ?_; clear hS a; intro a hS
            refine Z_take0 (i := 5) hS rfl want_none (e_move rfl) (listed' := [true, true, true, true, true, true, false, false, false, false, false, false, false]) rfl (by kernel_rfl) (by kernel_rfl) (by kernel_rfl) (fun _ _ _ h => h) rfl ?_; clear hS a; intro a hS
            refine Z_take0 (i := 6) hS rfl want_none (e_move rfl) (listed' := [true, true, true, true, true, true, true, false, false, false, false, false, false]) rfl (by kernel_rfl) (by kernel_rfl) (by kernel_rfl) (fun _ _ _ h => h) rfl ?_; clear hS a; intro a hS
            refine Z_take0 (i := 7) hS rfl want_none (e_move rfl) (listed' := [true, true, true, true, true, true, true, true, false, false, false, false, false]) rfl (by kernel_rfl) (by kernel_rfl) (by kernel_rfl) (fun _ _ _ h => h) rfl ?_; clear hS a; intro a hS
            refine Z_take0 (i := 8) hS rfl want_none (e_move rfl) (listed' := [true, true, true, true, true, true, true, true, true, false, false, false, false]) rfl (by kernel_rfl) (by kernel_rfl) (by kernel_rfl) (fun _ _ _ h => h) rfl ?_; clear hS a; intro a hS
            refine Z_take0 (i := 9) hS rfl want_none (e_build ty_z93 ty_pl93 (.one rfl rfl rfl (by repeat constructor) (.one rfl rfl rfl (by repeat constructor) (.one rfl rfl rfl (by repeat constructor) .nil)))) (listed' := [true, true, true, true, true, true, true, true, true, true, false, false, false]) rfl (by kernel_rfl) (by kernel_rfl) (by kernel_rfl) (fun _ _ _ h => h) rfl ?_; clear hS a; intro a hS
            refine Z_one (i := 10) rfl (want_none a hS.sl) (listed' := [true, true, true, true, true, true, true, true, true, true, true, false, false]) rfl (by kernel_rfl) (s_bslice hS ty_sl91 ty_sz93 ty_z93 rfl rfl rfl rfl (.agg rfl rfl .nil) rfl ?_); clear hS a; (try clear w); intro a w b67 hS
            refine Z_and hS (sub_cons (by repeat constructor) (sub_cons (by repeat constructor) sub_nil)) ?_
            replace hS := hS.own_nil 93 3
            refine Z_one (i := 11) rfl (want_none a hS.sl) (listed' := [true, true, true, true, true, true, true, true, true, true, true, true, false]) rfl (by kernel_rfl) (s_append1 hS rfl rfl ty_sl91 ty_sz93 ty_by93 ty_z93 rfl rfl rfl (by repeat constructor) (by repeat constructor) (by rfl) (by rfl) (fun _ => (by repeat constructor)) (by omega) ?_); clear hS a; (try clear w); intro v68 a w hv68 hS
            refine Z_and hS (sub_cons (by repeat constructor) (sub_cons (by repeat constructor) sub_nil)) ?_
            refine Z_one (i := 12) rfl (want_none a hS.sl) (listed' := [true, true, true, true, true, true, true, true, true, true, true, true, true]) rfl (by kernel_rfl) (s_mapUp hS rfl rfl rfl ty_mp112 ty_u9 (by repeat constructor) ?_); clear hS; (try clear w); intro w hS
            refine Z_last (by simp) ?_
            refine Z_done (by kernel_rfl) ?_
            refine n_then ?_
            refine c_seq ?_
            refine c_region ?_
            refine L_op (s_e hS (e_move rfl) rfl ?_); clear hS a; intro a hS
            refine L_op (s_e hS (e_nilCheck rfl) rfl ?_); clear hS a; intro a hS
            first | (refine L_op (s_e hS (e_fa0 rfl ty_fo114_2) rfl ?_); clear hS a; intro a hS) | (refine L_op (s_e hS (e_faK rfl ty_fo114_2) rfl ?_); clear hS a; intro a hS)
            refine L_op (s_e hS (e_load rfl (by repeat constructor) ty_sc3 (by rfl)) rfl ?_); clear hS a; intro a hS
            first | (refine L_op (s_e hS (e_binN rfl rfl rfl (by omega)) rfl ?_); clear hS a; intro a hS) | (refine L_op (s_e hS (e_bin rfl rfl rfl) rfl ?_); clear hS a; intro a hS)
            refine L_op (s_e hS (e_nilCheck rfl) rfl ?_); clear hS a; intro a hS
            first | (refine L_op (s_e hS (e_fa0 rfl ty_fo114_2) rfl ?_); clear hS a; intro a hS) | (refine L_op (s_e hS (e_faK rfl ty_fo114_2) rfl ?_); clear hS a; intro a hS)
            refine L_op (s_store hS rfl rfl rfl ty_sz3 (by repeat constructor) (by repeat constructor) ?_); clear hS; (try clear w); intro w hS
            refine L_nil ?_
            refine n_then ?_
            refine c_seq ?_
            refine c_region ?_
            refine L_op (s_e hS (e_assign rfl) rfl ?_); clear hS a; intro a hS
            refine L_nil ?_
            refine n_then ?_
            refine wp_ret ?_
            refine c_ret1 hS Try.results19 (.tmp rfl) ?_
            have hE := setE_zero (own := own) (l := vsT es) (n := n) (c := c) (at_ := at_) (nano := nano) hc16 hc21 hc29 (by rw [hro]; rintro ⟨_, h0, _⟩; cases h0) hc51
            have hent : entT (es ++ [⟨c, [(at_, nano)], v68⟩]) = setM (entT es) c v68 := by
              rw [setM_none v68 hix]; simp [entT]
            have hrow : w.ownsRow 0 93 3 v68 [(at_, nano)].length ([(at_, nano)].flatMap (encT c)) := by
              have h1 : w.ownsRow 0 93 3 v68 (0 + 1) ([] ++ ([.string c, .int .i64 at_, .int .i64 nano] ++ [])) := hS.get (X := ownA 93 3 v68 (0 + 1) _) (by repeat constructor)
              simpa [encT] using h1
            have hsep := hS.sep (X := ownA 93 3 v68 (0 + 1) ([] ++ ([.string c, .int .i64 at_, .int .i64 nano] ++ []))) (Y := rowsT es) (by repeat (first | exact Rem.head | apply Rem.tail)) (by repeat constructor)
            have hrest := hS.get (X := rowsT es) (by repeat constructor)
            have hset : (vsT (es ++ [⟨c, [(at_, nano)], v68⟩]), n + 1) = setR own (vsT es) n c at_ nano := by
              unfold setR; rw [if_pos hE, hro, putL_no _ hno]; simp [vsT]
            refine ⟨⟨(es ++ [⟨c, [(at_, nano)], v68⟩], n + 1), hset⟩, by (try dsimp only); rw [hE], hS.chg, rates_ok true ⟨hS.get (X := .blk bk [.string own, .map (some mb), .int .i64 (n + 1)] 114) (by repeat constructor), by rw [hent]; exact hS.get (X := smapA mb (setM (entT es) c v68)) (by repeat constructor), fun x hx => ?_, ⟨?_, ?_, fun x hx => ?_, by show 0 ≤ n + 1; omega, by show n + 1 ≤ 500; omega⟩⟩, fun b hb => ?_⟩
            · rcases List.mem_append.1 hx with hx | hx
              · exact hrest x hx
              · obtain rfl := List.mem_singleton.1 hx; exact hrow
            · exact pw_snoc wf.keys hno
            · exact pw_snoc wf.apart (fun x hx k h1 h2 => hsep k h2 ⟨x, hx, h1⟩)
            · rcases List.mem_append.1 hx with hx | hx
              · have := wf.len x hx; simp only; omega
              · obtain rfl := List.mem_singleton.1 hx; simp only [List.length_cons, List.length_nil]; omega
            · rcases hb with hb | hb | ⟨x, hx, hxb⟩
              · exact .inl (.inl hb)
              · exact .inl (.inr (.inl hb))
              · rcases List.mem_append.1 hx with hx | hx
                · exact .inl (.inr (.inr ⟨x, hx, hxb⟩))
                · obtain rfl := List.mem_singleton.1 hx
                  exact (hS.mine (ownA 93 3 v68 (0 + 1) _) (by repeat constructor) rfl b hxb).symm
theorem fxSet_P (bk mb : Nat) (own c : ByteArray) (es : List RA) (n at_ nano : Int) (hat : -9223372036854775808 ≤ at_ ∧ at_ ≤ 9223372036854775807) (w0 : World) (h : ratesφ bk mb own es n w0) :
    MutC Try.prog 19 [.pointer (some ⟨bk, 0, none⟩), .string c, .int .i64 at_, .int .i64 nano] w0 (ratesA bk mb own es n true) (fun _ : { y : List RA × Int // (vsT y.1, y.2) = setR own (vsT es) n c at_ nano } => .int .i64 (setE own (vsT es) n c at_ nano)) (fun y => ratesA bk mb own y.1.1 y.1.2 true) := by
  rcases has_cur es c with ⟨i, e, he, rfl⟩ | hno
  · exact fxSet_is bk mb own es n at_ nano i e he hat w0 h
  · exact fxSet_no bk mb own c es n at_ nano hno hat w0 h
end Go.Proofs.Ytheofhegdjjfgaa

namespace Go.Proofs.Ytheofhegdjjfgaa
open Go.RowKit

set_option maxRecDepth 100000 in
theorem Backward_P (v : Value) (hv : isOne v = true) (w0 : World) : NewC Try.prog 54 [v] w0 (fun b : Nat => .func (.func 93) #[] [.pointer (some ⟨b, 0, none⟩)].toArray) (fun b => .blk b [v] 91) := by
  refine c_enter [(0, v)] [] noB Try.func54 rfl Try.ntmps54 ⟨rfl, trivial⟩ rfl (by simp) (by simp) (by simp) ?_
  intro a hS
  refine c_seq ?_
  refine c_region ?_
  obtain ⟨b1, hb1⟩ : ∃ b, b = w0.heap.size := ⟨_, rfl⟩
  refine L_op (s_box1 hS rfl hv rfl ?_); clear hS a; intro a w b1 hS
  refine L_op (s_e hS (e_assign rfl) rfl ?_); clear hS a; intro a hS
  refine L_nil ?_
  refine n_then ?_
  refine c_seq ?_
  refine c_region ?_
  refine L_op (s_e hS (e_makeFunc .nil (.cons rfl .nil)) rfl ?_); clear hS a; intro a hS
  refine L_op (s_e hS (e_assign rfl) rfl ?_); clear hS a; intro a hS
  refine L_nil ?_
  refine n_then ?_
  refine wp_ret ?_
  refine c_ret1 hS Try.results54 (.tmp rfl) ?_
  exact ⟨b1, rfl, hS.chg, hS.new (.head _) rfl⟩

/-- the indices from the top down. -/
def downL (n d : Nat) : List Nat := (List.range d).map fun j => n - 1 - j
theorem downL_succ (n d : Nat) : downL n (d + 1) = downL n d ++ [n - 1 - d] := by unfold downL; rw [List.range_succ]; simp
theorem downL_len (n d : Nat) : (downL n d).length = d := by simp [downL]
def encB (c : ByteArray) (rows : List (Int × Int)) (k : Nat) : Array Value := [.int .i64 (k : Int), .agg (encT c (rows.getD k (0, 0))).toArray].toArray
/-- what the iterator reads. -/
def backK (b : Nat) (e : RA) (w : World) : Prop := w.heap[b]? = some (.cells [e.v].toArray 91 (0, 0)) ∧ rowT e w
def backA (b : Nat) (e : RA) : Asn := .any (fun k => k = b ∨ e.v.ownBlock = some k) (backK b e) false
theorem back_ok {b : Nat} {e : RA} {w : World} (h : backK b e w) : (backA b e).ok w := by
  refine ⟨fun k hk => ?_, fun w' hw => ⟨?_, owns_keep h.2 (fun k hk => hw k (.inr hk))⟩⟩
  · rcases hk with rfl | hk
    · exact (Array.getElem?_eq_some_iff.1 h.1).1
    · exact (World.ownsRow.lt h.2 k hk).2
  · rw [hw b (.inl rfl)]; exact h.1
theorem St.bare {n : Nat} {a : Act} {w : World} {L : List (Nat × Value)} (h : Sl n a L) : St n noB w a w L [] := ⟨h, Chg.refl _ _, okN, disN, mineN⟩
theorem St.again {n : Nat} {a : Act} {w : World} {L : List (Nat × Value)} (h : Sl n a L) {X : Asn} (hX : X.ok w) (hm : X.mine = false) : St n noB w a w L [X] :=
  ⟨h, Chg.refl _ _, okC hX okN, dis1, mineC hm mineN⟩

set_option maxRecDepth 100000 in
theorem Back_seq (b : Nat) (e : RA) (hlen : e.rows.length ≤ 1000000) : SeqB Try.prog 93 #[.pointer (some ⟨b, 0, none⟩)] (encB e.cur e.rows) (fun xs => xs = downL e.rows.length e.rows.length) (fun pre => ∃ d, d < e.rows.length ∧ pre = downL e.rows.length (d + 1)) e.rows.length (backK b e) := by
   intro l J Jx W hK hJ hJx hY h0
   have hk0 := hK _ _ h0
   obtain ⟨q, cq, hev⟩ := own_slice hk0.2
   have hsh : q = none ∧ e.rows.length = 0 ∨ ∃ g, q = some ⟨g, 0, none⟩ := by
     rcases hk0.2.2 with ⟨e1, e2⟩ | ⟨g, cap, cur, e1, _⟩
     · rw [hev] at e1; injection e1 with e3; exact .inl ⟨e3, e2⟩
     · rw [hev] at e1; injection e1 with e3; exact .inr ⟨g, e3⟩
   rw [show (#[Value.func (.yield l) #[] #[]] ++ #[Value.pointer (some ⟨b, 0, none⟩)] : Array Value) = [Value.func (.yield l) #[] #[], Value.pointer (some ⟨b, 0, none⟩)].toArray from rfl]
   refine callsIn_enter [(0, .func (.yield l) #[] #[]), (1, .pointer (some ⟨b, 0, none⟩))] [backA b e] noB Try.func93 rfl Try.ntmps93 ⟨rfl, rfl, trivial⟩ rfl (okC (back_ok hk0) okN) dis1 (mineC (by rfl) mineN) ?_
   intro a hS
   refine R_seq ?_
   refine R_region ?_
   refine R_op rfl (s_e hS (e_loadC rfl ty_sc91 (fun w hh => cell_of_blk (cs := [e.v]) (hh (backA b e) (by repeat constructor)).1 rfl)) rfl ?_); clear hS a; intro a hS
   rw [hev] at hS
   refine R_op rfl (s_e hS (e_len rfl rfl ty_sl91) rfl ?_); clear hS a; intro a hS
   first | (refine R_op rfl (s_e hS (e_binN rfl rfl rfl (by omega)) rfl ?_); clear hS a; intro a hS) | (refine R_op rfl (s_e hS (e_bin rfl rfl rfl) rfl ?_); clear hS a; intro a hS)
   refine R_op rfl (s_e hS (e_assign rfl) rfl ?_); clear hS a; intro a hS
   refine R_nil ?_
   refine n_then ?_
   refine R_block ?_
   skip
   refine R_loop (γ := Nat) (fun d a w => St 19 noB w a w [(3, .int .i64 ((e.rows.length : Int) - d - 1)), (0, .func (.yield l) #[] #[]), (1, .pointer (some ⟨b, 0, none⟩))] [backA b e] ∧ d ≤ e.rows.length ∧ J (downL e.rows.length d) w) (fun d => e.rows.length - d) 0 ⟨St.again (hS.sl.sub (by rw [show ((e.rows.length : Int) - (0 : Nat) - 1) = (e.rows.length : Int) - 1 by omega]; exact (by repeat (first | exact trivial | refine ⟨rfl, ?_⟩)))) (hS.ok _ (by repeat constructor)) rfl, Nat.zero_le _, h0⟩ ?_
   clear hS a; (try clear w); intro d a w hI
   obtain ⟨hS, hd, hj⟩ := hI
   refine R_seq ?_
   refine R_seq ?_
   refine R_region ?_
   refine R_op rfl (s_e hS (e_move rfl) rfl ?_); clear hS a; intro a hS
   refine R_op rfl (s_e hS (e_bin rfl rfl rfl) rfl ?_); clear hS a; intro a hS
   refine R_nil ?_
   refine n_then ?_
   first | refine R_ifD hS rfl (fun hc8 => ?_) (fun hc8 => ?_) | refine R_if hS rfl (fun hc8 => ?_) (fun hc8 => ?_)
   ·
     have hdl : d < e.rows.length := by omega
     obtain ⟨g, rfl⟩ : ∃ g, q = some ⟨g, 0, none⟩ := by
       rcases hsh with ⟨_, h1⟩ | hg
       · exfalso; omega
       · exact hg
     obtain ⟨x, hx⟩ : ∃ x, e.rows[e.rows.length - 1 - d]? = some x := ⟨e.rows[e.rows.length - 1 - d]'(by omega), List.getElem?_eq_getElem (by omega)⟩
     have hnat : ((e.rows.length : Int) - d - 1).toNat = e.rows.length - 1 - d := by omega
     have hint : ((e.rows.length : Int) - d - 1) = ((e.rows.length - 1 - d : Nat) : Int) := by omega
     have hgd : e.rows.getD (e.rows.length - 1 - d) (0, 0) = x := by rw [List.getD_eq_getElem?_getD, hx]; rfl
     have hy := hY _ (e.rows.length - 1 - d) w hj (by rw [downL_len]; exact hdl)
     unfold encB at hy
     rw [← hint, hgd, ← downL_succ] at hy
     refine R_skip ?_
     refine n_then ?_
     refine R_seq ?_
     refine R_block ?_
     refine R_seq ?_
     refine R_region ?_
     refine R_op rfl (s_e hS (e_move rfl) rfl ?_); clear hS a; intro a hS
     refine R_op rfl (s_e hS (e_move rfl) rfl ?_); clear hS a; intro a hS
     refine R_op rfl (s_e hS (e_loadC rfl ty_sc91 (fun w hh => cell_of_blk (cs := [e.v]) (hh (backA b e) (by repeat constructor)).1 rfl)) rfl ?_); clear hS a; intro a hS
     rw [hev] at hS
     refine R_op rfl (s_e hS (e_move rfl) rfl ?_); clear hS a; intro a hS
     refine R_op rfl (s_e hS (e_ix rfl rfl ty_sl91 ty_sz93 (by omega)) rfl ?_); clear hS a; intro a hS
     refine R_op rfl (s_e hS (e_loadAC (l := encT e.cur x) rfl ty_st93 ty_sz93 (fun w hh => by
 have h1 : w.ownsRow 0 93 3 e.v e.rows.length (e.rows.flatMap (encT e.cur)) := (hh (backA b e) (by repeat constructor)).2
 rw [hev] at h1
 rw [hnat]
 intro j v hj
 have h2 := flat_get (encT e.cur) 3 (fun _ => rfl) e.rows _ x hx j v hj
 have h3 := World.ownsRow.cells h1 (g := g) rfl _ _ h2
 rw [addr_add] at h3
 rw [← h3]; congr 2; omega)) rfl ?_); clear hS a; intro a hS
     refine R_yield hS rfl (.cons rfl (.cons rfl .nil)) hy (fun e' w' hR => ?_)
     obtain ⟨y, rfl, hR2⟩ : ∃ y : Bool, e' = .returned (.bool y) ∧ ((y = true ∧ J (downL e.rows.length (d + 1)) w') ∨ (y = false ∧ Jx (downL e.rows.length (d + 1)) w')) := by
       rcases hR with ⟨h1, h2⟩ | ⟨h1, h2⟩
       · exact ⟨true, h1, .inl ⟨rfl, h2⟩⟩
       · exact ⟨false, h1, .inr ⟨rfl, h2⟩⟩
     refine ⟨_, rfl, ?_⟩
     replace hS := St.bare (w := w') (hS.sl.put (d := 17) rfl (.bool y))
     clear hj hy
     generalize a.put (some 17) (Value.bool y) = a2 at hS ⊢
     clear a; revert a2; intro a hS; clear w; rename World => w
     refine R_op rfl (s_e hS (e_not rfl) rfl ?_); clear hS a; intro a hS
     refine R_nil ?_
     refine n_then ?_
     first | refine R_ifD hS rfl (fun hc18 => ?_) (fun hc18 => ?_) | refine R_if hS rfl (fun hc18 => ?_) (fun hc18 => ?_)
     ·
       refine R_ret ?_
       refine r_block (r_then (r_then (r_block ?_)))
       refine c_retN hS Try.results93 .nil rfl ?_
       have hx2 : Jx (downL e.rows.length (d + 1)) w := by
         rcases hR2 with ⟨h1, _⟩ | ⟨_, h2⟩
         · rw [h1] at hc18; cases hc18
         · exact h2
       exact ⟨⟨_, rfl⟩, .inr ⟨_, ⟨d, hdl, rfl⟩, hx2⟩⟩
     ·
       refine R_skip ?_
       refine n_block ?_
       refine n_then ?_
       refine R_region ?_
       refine R_op rfl (s_e hS (e_move rfl) rfl ?_); clear hS a; intro a hS
       first | (refine R_op rfl (s_e hS (e_binN rfl rfl rfl (by omega)) rfl ?_); clear hS a; intro a hS) | (refine R_op rfl (s_e hS (e_bin rfl rfl rfl) rfl ?_); clear hS a; intro a hS)
       refine R_op rfl (s_e hS (e_assign rfl) rfl ?_); clear hS a; intro a hS
       refine R_nil ?_
       have hx2 : J (downL e.rows.length (d + 1)) w := by
         rcases hR2 with ⟨_, h2⟩ | ⟨h1, _⟩
         · exact h2
         · rw [h1] at hc18; cases hc18
       exact ⟨d + 1, by omega, St.again (hS.sl.sub (by rw [show ((e.rows.length : Int) - (d + 1 : Nat) - 1) = (e.rows.length : Int) - d - 1 - 1 by omega]; exact (by repeat (first | exact trivial | refine ⟨rfl, ?_⟩)))) (back_ok (hK _ _ hx2)) rfl, by omega, hx2⟩
   ·
     refine R_exit ?_
     refine x_then (x_then (x_hit ?_))
     refine r_norm ?_
     refine c_retN hS Try.results93 .nil rfl ?_
     obtain rfl : d = e.rows.length := by omega
     exact ⟨⟨_, rfl⟩, .inl ⟨_, rfl, hj⟩⟩
end Go.Proofs.Ytheofhegdjjfgaa

namespace Go.Proofs.Ytheofhegdjjfgaa
open Go.RowKit

/-- the latest rate that is not later. -/
def lastLe (rows : List (Int × Int)) (at_ : Int) : Option (Int × Int) := rows.reverse.find? fun x => decide (x.1 ≤ at_)
def getF (own : ByteArray) (l : List (ByteArray × List (Int × Int))) (c : ByteArray) (at_ : Int) : Int × Int :=
  if askF c at_ ≠ 0 then (0, askF c at_) else if c = own then (1000000000, 0) else match lastLe (rowsOf l c) at_ with | some x => (x.2, 0) | none => (0, 28)
theorem last_at {rows : List (Int × Int)} {d : Nat} {x : Int × Int} {at_ : Int} (hd : d < rows.length) (hx : rows[rows.length - 1 - d]? = some x) (hle : x.1 ≤ at_) (hb : ∀ i ∈ downL rows.length d, ∀ y, rows[i]? = some y → at_ < y.1) : lastLe rows at_ = some x := by
  unfold lastLe
  rw [List.find?_eq_some_iff_getElem]
  have hx2 : rows.reverse[d]? = some x := by rw [List.getElem?_reverse hd]; exact hx
  obtain ⟨h1, h2⟩ := List.getElem?_eq_some_iff.1 hx2
  refine ⟨by simpa using hle, d, h1, h2, fun j hj => ?_⟩
  have hj2 : j < rows.length := by omega
  have h3 := hb (rows.length - 1 - j) (List.mem_map.2 ⟨j, List.mem_range.2 hj, rfl⟩) (rows[rows.length - 1 - j]'(by omega)) (List.getElem?_eq_getElem (by omega))
  rw [List.getElem_reverse]
  simp only [Bool.not_eq_true', decide_eq_false_iff_not]
  have : rows.length - 1 - j = rows.length - 1 - j := rfl
  omega
theorem last_none {rows : List (Int × Int)} {at_ : Int} (hb : ∀ i ∈ downL rows.length rows.length, ∀ y, rows[i]? = some y → at_ < y.1) : lastLe rows at_ = none := by
  unfold lastLe
  rw [List.find?_eq_none]
  intro x hx
  obtain ⟨i, hi, rfl⟩ := List.mem_iff_getElem.1 (List.mem_reverse.1 hx)
  have := hb i (List.mem_map.2 ⟨rows.length - 1 - i, List.mem_range.2 (by omega), by omega⟩) rows[i] (List.getElem?_eq_getElem hi)
  simp only [decide_eq_true_eq]; omega

/-- a currency's slice, whether it is there or not. -/
theorem cur_at {bk mb : Nat} {own c : ByteArray} {es : List RA} {n : Int} {w : World} (h : ratesφ bk mb own es n w) : ∃ e : RA, e.cur = c ∧ lkM (entT es) c (.slice none 0 0) = e.v ∧ rowsOf (vsT es) c = e.rows ∧ rowT e w ∧ (∀ k, e.v.ownBlock = some k → ratesF bk mb es k) ∧ e.rows.length ≤ 500 := by
  have hn := h.wf.n
  rcases has_cur es c with ⟨i, e, he, rfl⟩ | hno
  · have hm := List.mem_of_getElem? he
    have hl := h.wf.len e hm
    refine ⟨e, rfl, ?_, rowsOf_is h.wf.keys he, h.rows e hm, fun k hk => .inr (.inr ⟨e, hm, hk⟩), by omega⟩
    unfold lkM; rw [is_cur h.wf.keys he 0]
  · refine ⟨⟨c, [], .slice none 0 0⟩, rfl, ?_, rowsOf_no hno, World.ownsRow_nil _ _ _ _, fun k hk => (by cases hk), Nat.zero_le _⟩
    unfold lkM; rw [no_cur hno 0]
theorem rowT_keep {e : RA} {w w' : World} (h : rowT e w) (hw : ∀ b, e.v.ownBlock = some b → w'.heap[b]? = w.heap[b]?) : rowT e w' := owns_keep h hw
/-- a block that is only read. -/
def roA (b : Nat) (cs : List Value) (E : Nat) : Asn := .any (fun k => k = b) (fun w => w.heap[b]? = some (.cells cs.toArray E (0, 0))) false
theorem ro_ok {b E : Nat} {cs : List Value} {w : World} (h : w.heap[b]? = some (.cells cs.toArray E (0, 0))) : (roA b cs E).ok w :=
  ⟨fun k hk => by obtain rfl : k = b := hk; exact (Array.getElem?_eq_some_iff.1 h).1, fun w' hw => by show w'.heap[b]? = _; rw [hw b rfl]; exact h⟩
theorem ro_get {Γ : List Asn} {b E : Nat} {cs : List Value} (hm : roA b cs E ∈ Γ) {k : Nat} {v : Value} (hv : cs[k]? = some v) : ∀ w, Hd Γ w → w.cell? ⟨b, k, none⟩ = some v := fun _ hh => cell_of_blk (E := E) (hh _ hm) hv

/-- what holds between two rounds of Get's loop. -/
structure getI (w0 : World) (e : RA) (at_ : Int) (b5 b6 b7 b : Nat) (pre : List Nat) (W : World) : Prop where
  chg : Chg noB w0 W
  k : backK b e W
  h5 : W.heap[b5]? = some (.cells [Value.int .i64 at_].toArray 3 (0, 0))
  h6 : W.heap[b6]? = some (.cells [Value.int .i64 0].toArray 3 (0, 0))
  h7 : W.heap[b7]? = some (.cells [Value.int .i64 0].toArray 27 (0, 0))
  no : ∀ i ∈ pre, at_ < (e.rows.getD i (0, 0)).1
structure getX (w0 : World) (e : RA) (at_ : Int) (b6 b7 : Nat) (c : Code) (pre : List Nat) (W : World) : Prop where
  chg : Chg noB w0 W
  ret : c = .ret
  got : ∃ p i, pre = p ++ [i] ∧ (∀ j ∈ p, at_ < (e.rows.getD j (0, 0)).1) ∧ (e.rows.getD i (0, 0)).1 ≤ at_ ∧ W.heap[b6]? = some (.cells [Value.int .i64 (e.rows.getD i (0, 0)).2].toArray 3 (0, 0)) ∧ W.heap[b7]? = some (.cells [Value.int .i64 0].toArray 27 (0, 0))
theorem chg_ab {w0 W W' : World} {B : Nat} (h : Chg noB w0 W) (hB : w0.heap.size ≤ B) (e1 : W'.os = W.os) (e2 : W'.tape = W.tape) (e3 : W'.output = W.output) (e4 : W.heap.size ≤ W'.heap.size) (e5 : ∀ k, k < B → W'.heap[k]? = W.heap[k]?) : Chg noB w0 W' :=
  ⟨e1.trans h.os, e2.trans h.tape, e3.trans h.output, Nat.le_trans h.size e4, fun k hk hn => (e5 k (by omega)).trans (h.block k hk hn)⟩
theorem getI_ab {w0 : World} {e : RA} {at_ : Int} {b5 b6 b7 b B : Nat} (hB : w0.heap.size ≤ B) (h5 : b5 < B) (h6 : b6 < B) (h7 : b7 < B) (hb : b < B) (he : ∀ k, e.v.ownBlock = some k → k < B) : AbB B (getI w0 e at_ b5 b6 b7 b) :=
  fun _ _ _ h e1 e2 e3 e4 e5 => ⟨chg_ab h.chg hB e1 e2 e3 e4 e5, ⟨(e5 b hb).trans h.k.1, owns_keep h.k.2 (fun k hk => e5 k (he k hk))⟩, (e5 _ h5).trans h.h5, (e5 _ h6).trans h.h6, (e5 _ h7).trans h.h7, h.no⟩
theorem getX_ab {w0 : World} {e : RA} {at_ : Int} {b6 b7 B : Nat} (hB : w0.heap.size ≤ B) (h6 : b6 < B) (h7 : b7 < B) (c : Code) : AbB B (getX w0 e at_ b6 b7 c) :=
  fun _ _ _ h e1 e2 e3 e4 e5 => by
    obtain ⟨p, i, q1, q2, q3, q4, q5⟩ := h.got
    exact ⟨chg_ab h.chg hB e1 e2 e3 e4 e5, h.ret, p, i, q1, q2, q3, (e5 _ h6).trans q4, (e5 _ h7).trans q5⟩
/-- the three steps of a round, as a change of what the caller sees. -/
theorem chg_round {w0 W W1 W2 W3 : World} {B : Nat} {F : Nat → Prop} (h : Chg noB w0 W) (hB : w0.heap.size ≤ B) (h1 : Chg noB W W1) (hT : Turn (B + 1) W1 W2) (h3 : Chg F W2 W3) (hF : ∀ k, F k → w0.heap.size ≤ k) : Chg noB w0 W3 := by
  refine ⟨h3.os.trans (hT.os.trans (h1.os.trans h.os)), h3.tape.trans (hT.tape.trans (h1.tape.trans h.tape)), h3.output.trans (hT.output.trans (h1.output.trans h.output)), ?_, fun k hk _ => ?_⟩
  · have := h.size; have := h1.size; have := hT.size; have := h3.size; omega
  · have e1 := h.block k hk (fun hf => hf)
    have e2 := h1.block k (by have := h.size; omega) (fun hf => hf)
    have e3 := hT.same k (by omega)
    have e4 := h3.block k (by have := h.size; have := h1.size; have := hT.size; omega) (fun hf => by have := hF k hf; omega)
    exact e4.trans (e3.trans (e2.trans e1))
theorem lt_blk {w : World} {b E : Nat} {cs : Array Value} (h : w.heap[b]? = some (.cells cs E (0, 0))) : b < w.heap.size := (Array.getElem?_eq_some_iff.1 h).1

theorem mine2 {w0 : World} {F0 : Nat → Prop} {b c E E' : Nat} {l l' : List Value} (hb : w0.heap.size ≤ b) (hc : w0.heap.size ≤ c) : ∀ X ∈ [Asn.blk b l E, Asn.blk c l' E'], X.mine = true → ∀ k, X.F k → w0.heap.size ≤ k ∨ F0 k := fun X hX _ k hk => .inl (by
  rcases List.mem_cons.1 hX with rfl | hX
  · have : k = b := hk; omega
  · obtain rfl := List.mem_singleton.1 hX
    have : k = c := hk; omega)
theorem ne2 {D b c E E' : Nat} {l l' : List Value} (hb : b < D) (hc : c < D) : ∀ X ∈ [Asn.blk b l E, Asn.blk c l' E'], ∀ k, X.F k → k ≠ D := fun X hX k hk => by
  rcases List.mem_cons.1 hX with rfl | hX
  · have : k = b := hk; omega
  · obtain rfl := List.mem_singleton.1 hX
    have : k = c := hk; omega
theorem round2 {a : Act} {p q : Nat} {u v : Value} (hd : a.defers = []) : (a.put (some p) u).put (some q) v = ({ tmps := (a.tmps.setIfInBounds p u).setIfInBounds q v, defers := [] } : Act) := by
  simp [Act.put, hd]
set_option maxRecDepth 100000 in
theorem fxGet_P (bk mb : Nat) (own c : ByteArray) (es : List RA) (n at_ : Int) (w0 : World) (h : ratesφ bk mb own es n w0) :
    PureC Try.prog 18 [.pointer (some ⟨bk, 0, none⟩), .string c, .int .i64 at_] w0 (.tuple [.int .i64 (getF own (vsT es) c at_).1, .int .i64 (getF own (vsT es) c at_).2].toArray) := by
  obtain ⟨e, hec, hlk, hro, hrow, heF, hel⟩ := cur_at (c := c) h
  refine callsM_enter [(0, .pointer (some ⟨bk, 0, none⟩)), (1, .string c), (2, .int .i64 at_)] [ratesA bk mb own es n false] noB Try.func18 rfl Try.ntmps18 ⟨rfl, rfl, rfl, trivial⟩ rfl (okC (rates_ok false h) okN) dis1 (mineC (by rfl) mineN) ?_
  intro a hS
  refine R_seq ?_
  refine R_region ?_
  refine R_op rfl (s_box1 hS rfl rfl rfl ?_); clear hS a; (try clear w); intro a w b5 hS
  refine R_op rfl (s_alloc hS ty_z3 rfl ?_); clear hS a; (try clear w); intro a w b6 hS
  refine R_op rfl (s_alloc hS ty_z27 rfl ?_); clear hS a; (try clear w); intro a w b7 hS
  refine R_nil ?_
  refine n_then ?_
  refine R_seq ?_
  refine R_seq ?_
  refine R_region ?_
  refine R_op rfl (s_e hS (e_move rfl) rfl ?_); clear hS a; intro a hS
  refine R_op rfl (s_e hS (e_load rfl (by repeat constructor) ty_sc3 (by rfl)) rfl ?_); clear hS a; intro a hS
  refine R_op rfl (s_callP hS (.cons rfl (.cons rfl .nil)) cf53 rfl (fxasked_P c at_ _) ?_); clear hS a; (try clear w); intro a w hS
  refine R_op rfl (s_e hS (e_assign rfl) rfl ?_); clear hS a; intro a hS
  refine R_nil ?_
  refine n_then ?_
  refine R_seq ?_
  refine R_region ?_
  refine R_op rfl (s_e hS (e_move rfl) rfl ?_); clear hS a; intro a hS
  refine R_op rfl (s_e hS (e_bin rfl rfl rfl) rfl ?_); clear hS a; intro a hS
  refine R_nil ?_
  refine n_then ?_
  first | refine R_ifD hS rfl (fun hc15 => ?_) (fun hc15 => ?_) | refine R_if hS rfl (fun hc15 => ?_) (fun hc15 => ?_)
  ·
    refine R_seq ?_
    refine R_region ?_
    refine R_op rfl (s_e hS (e_move rfl) rfl ?_); clear hS a; intro a hS
    refine R_op rfl (s_store hS rfl rfl rfl ty_sz3 (by repeat constructor) (by repeat constructor) ?_); clear hS; (try clear w); intro w hS
    refine R_op rfl (s_store hS rfl rfl rfl ty_sz27 (by repeat constructor) (by repeat constructor) ?_); clear hS; (try clear w); intro w hS
    refine R_nil ?_
    refine n_then ?_
    refine R_ret ?_
    refine r_then ?_
    refine retM hS.sl.defers ?_
    refine c_retN hS Try.results18 (.cons (.cell rfl (by repeat constructor) ty_sc3 (by rfl)) (.cons (.cell rfl (by repeat constructor) ty_sc27 (by rfl)) .nil)) rfl ?_
    exact ⟨by rw [show getF own (vsT es) c at_ = (0, askF c at_) from if_pos hc15], hS.chg⟩
  ·
    refine R_skip ?_
    refine n_then ?_
    refine R_seq ?_
    refine R_seq ?_
    refine R_region ?_
    refine R_op rfl (s_e hS (e_move rfl) rfl ?_); clear hS a; intro a hS
    refine R_op rfl (s_e hS (e_move rfl) rfl ?_); clear hS a; intro a hS
    refine R_op rfl (s_e hS (e_nilCheck rfl) rfl ?_); clear hS a; intro a hS
    first | (refine R_op rfl (s_e hS (e_fa0 rfl ty_fo114_0) rfl ?_); clear hS a; intro a hS) | (refine R_op rfl (s_e hS (e_faK rfl ty_fo114_0) rfl ?_); clear hS a; intro a hS)
    refine R_op rfl (s_e hS (e_loadC rfl ty_sc9 (fun w hh => cell_of_blk (cs := [.string own, .map (some mb), .int .i64 n]) (hh (ratesA bk mb own es n false) (by repeat constructor)).bk rfl)) rfl ?_); clear hS a; intro a hS
    refine R_op rfl (s_e hS (e_binS rfl rfl rfl) rfl ?_); clear hS a; intro a hS
    refine R_nil ?_
    refine n_then ?_
    first | refine R_ifD hS rfl (fun hc22 => ?_) (fun hc22 => ?_) | refine R_if hS rfl (fun hc22 => ?_) (fun hc22 => ?_)
    ·
      refine R_seq ?_
      refine R_region ?_
      refine R_op rfl (s_store hS rfl rfl rfl ty_sz3 (by repeat constructor) (by repeat constructor) ?_); clear hS; (try clear w); intro w hS
      refine R_op rfl (s_store hS rfl rfl rfl ty_sz27 (by repeat constructor) (by repeat constructor) ?_); clear hS; (try clear w); intro w hS
      refine R_nil ?_
      refine n_then ?_
      refine R_ret ?_
      refine r_then ?_
      refine retM hS.sl.defers ?_
      refine c_retN hS Try.results18 (.cons (.cell rfl (by repeat constructor) ty_sc3 (by rfl)) (.cons (.cell rfl (by repeat constructor) ty_sc27 (by rfl)) .nil)) rfl ?_
      exact ⟨by rw [show getF own (vsT es) c at_ = (1000000000, 0) by unfold getF; rw [if_neg hc15, if_pos hc22]], hS.chg⟩
    ·
      refine R_skip ?_
      refine n_then ?_
      refine R_seq ?_
      refine R_seq ?_
      refine R_region ?_
      refine R_op rfl (s_e hS (e_move rfl) rfl ?_); clear hS a; intro a hS
      refine R_op rfl (s_e hS (e_nilCheck rfl) rfl ?_); clear hS a; intro a hS
      first | (refine R_op rfl (s_e hS (e_fa0 rfl ty_fo114_1) rfl ?_); clear hS a; intro a hS) | (refine R_op rfl (s_e hS (e_faK rfl ty_fo114_1) rfl ?_); clear hS a; intro a hS)
      refine R_op rfl (s_e hS (e_loadC rfl ty_sc112 (fun w hh => cell_of_blk (cs := [.string own, .map (some mb), .int .i64 n]) (hh (ratesA bk mb own es n false) (by repeat constructor)).bk rfl)) rfl ?_); clear hS a; intro a hS
      refine R_op rfl (s_e hS (e_move rfl) rfl ?_); clear hS a; intro a hS
      refine R_op rfl (s_e hS (e_lookupC rfl rfl ty_mp112 ty_u9 ty_zv91 (fun w hh => (hh (ratesA bk mb own es n false) (by repeat constructor)).mp)) rfl ?_); clear hS a; intro a hS
      rw [hlk] at hS
      refine R_op rfl (s_callN hS (.cons rfl .nil) cf54 rfl (Backward_P e.v (by obtain ⟨q, cq, hev⟩ := own_slice hrow; rw [hev]; rfl) _) ?_); clear hS a; (try clear w); intro x29 a w hS
      refine R_nil ?_
      refine n_then ?_
      refine R_block ?_
      obtain ⟨B, hB⟩ : ∃ B, w.heap.size = B := ⟨_, rfl⟩
      have g5 := hS.get (X := .blk b5 [.int .i64 at_] 3) (by repeat constructor)
      have g6 := hS.get (X := .blk b6 [.int .i64 0] 3) (by repeat constructor)
      have g7 := hS.get (X := .blk b7 [.int .i64 0] 27) (by repeat constructor)
      have gk := hS.get (X := .blk x29 [e.v] 91) (by repeat constructor)
      have l5 : b5 < B := by rw [← hB]; exact lt_blk g5
      have l6 : b6 < B := by rw [← hB]; exact lt_blk g6
      have l7 : b7 < B := by rw [← hB]; exact lt_blk g7
      have lx : x29 < B := by rw [← hB]; exact lt_blk gk
      have m6 : w0.heap.size ≤ b6 := (hS.mine (.blk b6 [.int .i64 0] 3) (by repeat constructor) rfl b6 rfl).resolve_right (fun h => h)
      have m7 : w0.heap.size ≤ b7 := (hS.mine (.blk b7 [.int .i64 0] 27) (by repeat constructor) rfl b7 rfl).resolve_right (fun h => h)
      have n67 : b6 ≠ b7 := fun h => hS.sep (X := .blk b6 [.int .i64 0] 3) (Y := .blk b7 [.int .i64 0] 27) (by repeat (first | exact Rem.head | apply Rem.tail)) (by repeat constructor) b6 rfl h
      have n65 : b6 ≠ b5 := fun h => hS.sep (X := .blk b6 [.int .i64 0] 3) (Y := .blk b5 [.int .i64 at_] 3) (by repeat (first | exact Rem.head | apply Rem.tail)) (by repeat constructor) b6 rfl h
      have n75 : b7 ≠ b5 := fun h => hS.sep (X := .blk b7 [.int .i64 0] 27) (Y := .blk b5 [.int .i64 at_] 3) (by repeat (first | exact Rem.head | apply Rem.tail)) (by repeat constructor) b7 rfl h
      have n96 : x29 ≠ b6 := fun h => hS.sep (X := .blk x29 [e.v] 91) (Y := .blk b6 [.int .i64 0] 3) (by repeat (first | exact Rem.head | apply Rem.tail)) (by repeat constructor) x29 rfl h
      have n97 : x29 ≠ b7 := fun h => hS.sep (X := .blk x29 [e.v] 91) (Y := .blk b7 [.int .i64 0] 27) (by repeat (first | exact Rem.head | apply Rem.tail)) (by repeat constructor) x29 rfl h
      have hB0 : w0.heap.size ≤ B := by rw [← hB]; exact hS.chg.size
      have hEB : ∀ k, e.v.ownBlock = some k → k < B := fun k hk => Nat.lt_of_lt_of_le (World.ownsRow.lt hrow k hk).2 hB0
      refine rangeFunc_B2 (α := Nat) hB (hS.sl.ev rfl) cf93 (Back_seq x29 e (by omega)) (fun _ => rfl) (getI w0 e at_ b5 b6 b7 x29) (getX w0 e at_ b6 b7) (getI_ab hB0 l5 l6 l7 lx hEB) (getX_ab hB0 l6 l7) (fun _ _ h => h.k)
        ⟨hS.chg, ⟨gk, rowT_keep hrow (fun k hk => hS.chg.block k (World.ownsRow.lt hrow k hk).2 (fun h => h))⟩, g5, g6, g7, fun i hi => (by cases hi)⟩ ?_ ?_ ?_
      · intro l pre x W hz hI hlen
        have hR : St 38 noB W ((a.put (some 30) (.int .i64 (x : Int))).put (some 31) (.agg (encT e.cur (e.rows.getD x (0, 0))).toArray)) W
            [(31, .agg (encT e.cur (e.rows.getD x (0, 0))).toArray), (5, .pointer (some ⟨b5, 0, none⟩)), (6, .pointer (some ⟨b6, 0, none⟩)), (7, .pointer (some ⟨b7, 0, none⟩))] [] :=
          ⟨((hS.sl.put rfl _).put rfl _).sub (by repeat (first | exact trivial | refine ⟨rfl, ?_⟩)), Chg.refl _ _, okN, disN, mineN⟩
        have hact : ({ tmps := (#[30, 31].zip (encB e.cur e.rows x)).foldl (fun t (p, v) => t.setIfInBounds p v) a.tmps, defers := [] } : Act) = ((a.put (some 30) (.int .i64 (x : Int))).put (some 31) (.agg (encT e.cur (e.rows.getD x (0, 0))).toArray)) := by
          rw [round2 hS.sl.defers, show (#[30, 31].zip (encB e.cur e.rows x)) = #[(30, .int .i64 (x : Int)), (31, .agg (encT e.cur (e.rows.getD x (0, 0))).toArray)] from by unfold encB; simp]; simp
        rw [hact]
        clear hS hact g5 g6 g7 gk hB
        generalize ((a.put (some 30) (.int .i64 (x : Int))).put (some 31) (.agg (encT e.cur (e.rows.getD x (0, 0))).toArray)) = a2 at hR ⊢
        clear a; rename Act => a
        clear w
        have hS := hR
        clear hR
        refine R_region ?_
        refine R_op rfl (s_alloc hS ty_z93 rfl ?_); clear hS a; (try clear w); intro a w b10 hS
        refine R_op rfl (s_storeA hS rfl rfl ty_sz93 (by repeat constructor) (by rfl) (by rfl) (by rfl) ?_); clear hS; (try clear w); intro w hS
        refine R_nil ?_
        refine n_then ?_
        have h10 := hS.get (X := .blk b10 (encT e.cur (e.rows.getD x (0, 0))) 93) (by repeat constructor)
        have m10 : W.heap.size ≤ b10 := (hS.mine (.blk b10 (encT e.cur (e.rows.getD x (0, 0))) 93) (by repeat constructor) rfl b10 rfl).resolve_right (fun h => h)
        have hCW := hS.chg
        refine ⟨⟨fun k h1 h2 => hCW.block k h2 (fun h => h), hCW.size⟩, fun W2 hT => ?_⟩
        have hlow : ∀ k, k < B → W2.heap[k]? = W.heap[k]? := fun k hk => (hT.same k (by omega)).trans (hCW.block k (by omega) (fun h => h))
        have hR : St 38 (fun k => k = b6 ∨ k = b7) W2 a W2 [(10, .pointer (some ⟨b10, 0, none⟩)), (5, .pointer (some ⟨b5, 0, none⟩)), (6, .pointer (some ⟨b6, 0, none⟩)), (7, .pointer (some ⟨b7, 0, none⟩))]
            [roA b10 (encT e.cur (e.rows.getD x (0, 0))) 93, .blk b7 [.int .i64 0] 27, .blk b6 [.int .i64 0] 3, roA b5 [.int .i64 at_] 3] :=
          ⟨hS.sl.sub (by repeat (first | exact trivial | refine ⟨rfl, ?_⟩)), Chg.refl _ _, okC (ro_ok ((hT.same b10 (by omega)).trans h10)) (okC (ok_blk ((hlow b7 l7).trans hI.h7)) (okC (ok_blk ((hlow b6 l6).trans hI.h6)) (okC (ro_ok ((hlow b5 l5).trans hI.h5)) okN))),
           disC (sepC (fun b h1 h2 => by have h1 : b = b10 := h1; have h2 : b = b7 := h2; omega) (sepC (fun b h1 h2 => by have h1 : b = b10 := h1; have h2 : b = b6 := h2; omega) (sepC (fun b h1 h2 => by have h1 : b = b10 := h1; have h2 : b = b5 := h2; omega) sepN)))
            (disC (sepC (fun b h1 h2 => n67 (Eq.trans (Eq.symm h2) h1)) (sepC (fun b h1 h2 => n75 (Eq.trans (Eq.symm h1) h2)) sepN)) (disC (sepC (fun b h1 h2 => n65 (Eq.trans (Eq.symm h1) h2)) sepN) dis1)),
           mineC rfl (mineO (fun b hb => .inr hb) (mineO (fun b hb => .inl hb) (mineC rfl mineN)))⟩
        clear hS
        have hS := hR
        clear hR
        refine R_block ?_
        refine R_seq ?_
        refine R_region ?_
        first | (refine R_op rfl (s_e hS (e_fa0 rfl ty_fo93_1) rfl ?_); clear hS a; intro a hS) | (refine R_op rfl (s_e hS (e_faK rfl ty_fo93_1) rfl ?_); clear hS a; intro a hS)
        refine R_op rfl (s_e hS (e_loadC rfl ty_sc3 (ro_get (b := b10) (cs := encT e.cur (e.rows.getD x (0, 0))) (by repeat constructor) (k := 1) rfl)) rfl ?_); clear hS a; intro a hS
        refine R_op rfl (s_e hS (e_loadC rfl ty_sc3 (ro_get (b := b5) (cs := [.int .i64 at_]) (by repeat constructor) (k := 0) rfl)) rfl ?_); clear hS a; intro a hS
        refine R_op rfl (s_e hS (e_bin rfl rfl rfl) rfl ?_); clear hS a; intro a hS
        refine R_nil ?_
        refine n_then ?_
        first | refine R_ifD hS rfl (fun hc35 => ?_) (fun hc35 => ?_) | refine R_if hS rfl (fun hc35 => ?_) (fun hc35 => ?_)
        ·
          refine R_seq ?_
          refine R_region ?_
          first | (refine R_op rfl (s_e hS (e_fa0 rfl ty_fo93_2) rfl ?_); clear hS a; intro a hS) | (refine R_op rfl (s_e hS (e_faK rfl ty_fo93_2) rfl ?_); clear hS a; intro a hS)
          refine R_op rfl (s_e hS (e_loadC rfl ty_sc3 (ro_get (b := b10) (cs := encT e.cur (e.rows.getD x (0, 0))) (by repeat constructor) (k := 2) rfl)) rfl ?_); clear hS a; intro a hS
          refine R_op rfl (s_store hS rfl rfl rfl ty_sz3 (by repeat constructor) (by repeat constructor) ?_); clear hS; (try clear w); intro w hS
          refine R_op rfl (s_store hS rfl rfl rfl ty_sz27 (by repeat constructor) (by repeat constructor) ?_); clear hS; (try clear w); intro w hS
          refine R_nil ?_
          refine n_then ?_
          refine R_ret ?_
          refine r_block ?_
          exact ⟨fun k h1 h2 => hS.chg.block k h2 (by rintro (h | h) <;> omega), ⟨chg_round hI.chg hB0 hCW hT hS.chg (by rintro k (h | h) <;> omega), rfl, pre, x, rfl, hI.no, hc35, hS.get (X := .blk b6 [.int .i64 (e.rows.getD x (0, 0)).2] 3) (by repeat constructor), hS.get (X := .blk b7 [.int .i64 0] 27) (by repeat constructor)⟩⟩
        ·
          refine R_skip ?_
          refine n_block ?_
          refine ⟨fun k h1 h2 => hS.chg.block k h2 (by rintro (h | h) <;> omega), ⟨chg_round hI.chg hB0 hCW hT hS.chg (by rintro k (h | h) <;> omega), ⟨(hlow x29 lx).trans hI.k.1, owns_keep hI.k.2 (fun k hk => hlow k (hEB k hk))⟩, (hlow b5 l5).trans hI.h5, hS.get (X := .blk b6 [.int .i64 0] 3) (by repeat constructor), hS.get (X := .blk b7 [.int .i64 0] 27) (by repeat constructor), fun i hi => ?_⟩⟩
          · rcases List.mem_append.1 hi with hi | hi
            · exact hI.no i hi
            · obtain rfl := List.mem_singleton.1 hi
              omega
      · intro D xs W hBD hxs hI hDc
        have hd : St 38 (fun k => k = b6 ∨ k = b7) W a W [(6, .pointer (some ⟨b6, 0, none⟩)), (7, .pointer (some ⟨b7, 0, none⟩))] [.blk b6 [.int .i64 0] 3, .blk b7 [.int .i64 0] 27] :=
          ⟨hS.sl.sub (by repeat (first | exact trivial | refine ⟨rfl, ?_⟩)), Chg.refl _ _, okC (ok_blk hI.h6) (okC (ok_blk hI.h7) okN), disC (sepC (fun b h1 h2 => n67 (Eq.trans (Eq.symm h1) h2)) sepN) dis1, mineO (fun b hb => .inl hb) (mineO (fun b hb => .inr hb) mineN)⟩
        clear hS
        refine n_block ?_
        refine n_then ?_
        refine R_seq ?_
        refine R_region ?_
        refine R_op rfl (OW.stores (s_store hd rfl rfl rfl ty_sz3 (by repeat constructor) (by repeat constructor) ?_)); clear hd; intro w1 hd
        refine R_op rfl (OW.stores (s_store hd rfl rfl rfl ty_sz27 (by repeat constructor) (by repeat constructor) ?_)); clear hd; intro w2 hd
        refine R_nil ?_
        refine n_then ?_
        refine R_ret ?_
        have hD2 := (hd.chg.block D (Array.getElem?_eq_some_iff.1 hDc).1 (by rintro (h | h) <;> omega)).trans hDc
        have hd2 : St 38 noB w0 a w2 [(6, .pointer (some ⟨b6, 0, none⟩)), (7, .pointer (some ⟨b7, 0, none⟩))] [.blk b6 [.int .i64 0] 3, .blk b7 [.int .i64 28] 27] :=
          ⟨hd.sl, hI.chg.trans hd.chg (fun i hF hlt => by rcases hF with h | h <;> omega), hd.ok, hd.dis, mine2 m6 m7⟩
        have hd3 := hd2.putD (D := D) (o := .deferred none) (by omega) (ne2 (by omega) (by omega))
        have hlast : lastLe e.rows at_ = none := last_none (fun j hj y hy => by
          rw [← hxs] at hj
          have := hI.no j hj
          rw [List.getD_eq_getElem?_getD, hy] at this; exact this)
        exact endN hd3 (.inl rfl) hD2 Try.results18 (.cons (.cell rfl (by repeat constructor) ty_sc3 rfl) (.cons (.cell rfl (by repeat constructor) ty_sc27 rfl) .nil)) rfl ⟨by unfold getF; rw [if_neg hc15, if_neg hc22, hro, hlast], hd3.chg⟩
      · intro D c pre W hBD hSp hX hDc
        obtain rfl := hX.ret
        obtain ⟨d, hdl, rfl⟩ := hSp
        obtain ⟨p, i, hpi, hno, hle, g6', g7'⟩ := hX.got
        rw [downL_succ] at hpi
        obtain ⟨rfl, hi2⟩ := List.append_inj' hpi rfl
        injection hi2 with hi2 _
        have hlast : lastLe e.rows at_ = some (e.rows.getD i (0, 0)) := by
          refine last_at hdl ?_ hle (fun j hj y hy => ?_)
          · rw [← hi2, List.getD_eq_getElem?_getD, List.getElem?_eq_getElem (by omega)]; rfl
          · have := hno j hj
            rw [List.getD_eq_getElem?_getD, hy] at this; exact this
        have hd : St 38 noB w0 a W [(6, .pointer (some ⟨b6, 0, none⟩)), (7, .pointer (some ⟨b7, 0, none⟩))] [.blk b6 [.int .i64 (e.rows.getD i (0, 0)).2] 3, .blk b7 [.int .i64 0] 27] :=
          ⟨hS.sl.sub (by repeat (first | exact trivial | refine ⟨rfl, ?_⟩)), hX.chg, okC (ok_blk g6') (okC (ok_blk g7') okN), disC (sepC (fun b h1 h2 => n67 (Eq.trans (Eq.symm h1) h2)) sepN) dis1, mine2 m6 m7⟩
        refine R_ret ?_
        refine r_block (r_then ?_)
        have hd3 := hd.putD (D := D) (o := .deferred none) (by omega) (ne2 (by omega) (by omega))
        exact endN hd3 (.inl rfl) hDc Try.results18 (.cons (.cell rfl (by repeat constructor) ty_sc3 rfl) (.cons (.cell rfl (by repeat constructor) ty_sc27 rfl) .nil)) rfl ⟨by unfold getF; rw [if_neg hc15, if_neg hc22, hro, hlast], hd3.chg⟩
end Go.Proofs.Ytheofhegdjjfgaa

namespace Go.Proofs.Ytheofhegdjjfgaa
open Go.RowKit

def checkF (u : Int) (c : ByteArray) : Int := if (scaleR c).2 ≠ 0 then 18 else if ¬ inU u then 6 else 0
set_option maxRecDepth 100000 in
theorem mcheck_P (u : Int) (c : ByteArray) (w0 : World) : PureC Try.prog 94 [.agg [.int .i64 u, .string c].toArray] w0 (.int .i64 (checkF u c)) := by
  have hse := scale_err c
  refine c_enter [(0, .agg [.int .i64 u, .string c].toArray)] [] noB Try.func94 rfl Try.ntmps94 ⟨rfl, trivial⟩ rfl (by simp) (by simp) (by simp) ?_
  intro a hS
  refine c_seq ?_
  refine c_region ?_
  refine L_op (s_boxA hS rfl rfl ?_); clear hS a; (try clear w); intro a w b1 hS
  refine L_op (s_e hS (e_assign rfl) rfl ?_); clear hS a; intro a hS
  refine L_nil ?_
  refine n_then ?_
  refine c_seq ?_
  refine c_seq ?_
  refine c_region ?_
  first | (refine L_op (s_e hS (e_fa0 rfl ty_fo41_1) rfl ?_); clear hS a; intro a hS) | (refine L_op (s_e hS (e_faK rfl ty_fo41_1) rfl ?_); clear hS a; intro a hS)
  refine L_op (s_e hS (e_load rfl (by repeat constructor) ty_sc9 (by rfl)) rfl ?_); clear hS a; intro a hS
  refine L_op (s_callP hS (.cons rfl .nil) cf79 rfl (Scale_P c _) ?_); clear hS a; (try clear w); intro a w hS
  refine L_op (s_e hS (e_move rfl) rfl ?_); clear hS a; intro a hS
  refine L_op (s_e hS (e_extract rfl rfl) rfl ?_); clear hS a; intro a hS
  refine L_op (s_e hS (e_extract rfl rfl) rfl ?_); clear hS a; intro a hS
  refine L_op (s_e hS (e_assign rfl) rfl ?_); clear hS a; intro a hS
  refine L_op (s_e hS (e_assign rfl) rfl ?_); clear hS a; intro a hS
  refine L_nil ?_
  refine n_then ?_
  refine c_seq ?_
  refine c_region ?_
  refine L_op (s_e hS (e_move rfl) rfl ?_); clear hS a; intro a hS
  refine L_op (s_e hS (e_bin rfl rfl rfl) rfl ?_); clear hS a; intro a hS
  refine L_nil ?_
  refine n_then ?_
  first | refine c_ifD hS rfl (fun hc12 => ?_) (fun hc12 => ?_) | refine c_if hS rfl (fun hc12 => ?_) (fun hc12 => ?_)
  ·
    refine c_seq ?_
    refine c_region ?_
    refine L_op (s_e hS (e_move rfl) rfl ?_); clear hS a; intro a hS
    refine L_op (s_e hS (e_assign rfl) rfl ?_); clear hS a; intro a hS
    refine L_nil ?_
    refine n_then ?_
    refine wp_ret ?_
    refine r_then ?_
    refine c_ret1 hS Try.results94 (.tmp rfl) ?_
    exact ⟨by rw [show checkF u c = 18 from if_pos hc12, show (scaleR c).2 = 18 by omega], hS.chg⟩
  ·
    refine wp_skip ?_
    refine n_then ?_
    refine c_seq ?_
    refine c_seq ?_
    refine c_region ?_
    first | (refine L_op (s_e hS (e_fa0 rfl ty_fo41_0) rfl ?_); clear hS a; intro a hS) | (refine L_op (s_e hS (e_faK rfl ty_fo41_0) rfl ?_); clear hS a; intro a hS)
    refine L_op (s_e hS (e_load rfl (by repeat constructor) ty_sc3 (by rfl)) rfl ?_); clear hS a; intro a hS
    refine L_op (s_callP hS (.cons rfl .nil) cf112 rfl (mwithin_P u _) ?_); clear hS a; (try clear w); intro a w hS
    refine L_op (s_e hS (e_not rfl) rfl ?_); clear hS a; intro a hS
    refine L_nil ?_
    refine n_then ?_
    first | refine c_ifD hS rfl (fun hc17 => ?_) (fun hc17 => ?_) | refine c_if hS rfl (fun hc17 => ?_) (fun hc17 => ?_)
    ·
      refine c_seq ?_
      refine c_region ?_
      refine L_op (s_e hS (e_assign rfl) rfl ?_); clear hS a; intro a hS
      refine L_nil ?_
      refine n_then ?_
      refine wp_ret ?_
      refine r_then ?_
      refine c_ret1 hS Try.results94 (.tmp rfl) ?_
      exact ⟨by (have h : ¬ inU u := by simpa using hc17); rw [show checkF u c = 6 by unfold checkF; rw [if_neg hc12, if_pos h]], hS.chg⟩
    ·
      refine wp_skip ?_
      refine n_then ?_
      refine c_seq ?_
      refine c_region ?_
      refine L_op (s_e hS (e_assign rfl) rfl ?_); clear hS a; intro a hS
      refine L_nil ?_
      refine n_then ?_
      refine wp_ret ?_
      refine c_ret1 hS Try.results94 (.tmp rfl) ?_
      exact ⟨by (have h : ¬ ¬ inU u := by simpa using hc17); rw [show checkF u c = 0 by unfold checkF; rw [if_neg hc12, if_neg h]], hS.chg⟩
set_option maxRecDepth 100000 in
theorem mNew_no (u : Int) (c : ByteArray) (h : checkF u c ≠ 0) (w0 : World) : PureC Try.prog 55 [.int .i64 u, .string c] w0 (.tuple [.agg [.int .i64 0, .string ⟨#[]⟩].toArray, .int .i64 (checkF u c)].toArray) := by
  refine c_enter [(0, .int .i64 u), (1, .string c)] [] noB Try.func55 rfl Try.ntmps55 ⟨rfl, rfl, trivial⟩ rfl (by simp) (by simp) (by simp) ?_
  intro a hS
  refine c_seq ?_
  refine c_region ?_
  refine L_op (s_alloc hS ty_z41 rfl ?_); clear hS a; (try clear w); intro a w b4 hS
  refine L_op (s_e hS (e_assign rfl) rfl ?_); clear hS a; intro a hS
  refine L_nil ?_
  refine n_then ?_
  refine c_seq ?_
  refine c_region ?_
  refine L_op (s_e hS (e_move rfl) rfl ?_); clear hS a; intro a hS
  refine L_op (s_e hS (e_move rfl) rfl ?_); clear hS a; intro a hS
  refine L_op (s_e hS (e_build ty_z41 ty_pl41 (.one rfl rfl rfl (by repeat constructor) (.one rfl rfl rfl (by repeat constructor) .nil))) rfl ?_); clear hS a; intro a hS
  refine L_op (s_alloc hS ty_z41 rfl ?_); clear hS a; (try clear w); intro a w b6 hS
  refine L_op (s_storeA hS rfl rfl ty_sz41 (by repeat constructor) (by rfl) (by rfl) (by rfl) ?_); clear hS; (try clear w); intro w hS
  refine L_nil ?_
  refine n_then ?_
  refine c_seq ?_
  refine c_seq ?_
  refine c_region ?_
  refine L_op (s_e hS (e_loadA rfl (by repeat constructor) ty_st41 ty_sz41 (by rfl)) rfl ?_); clear hS a; intro a hS
  refine L_op (s_callP hS (.cons rfl .nil) cf94 rfl (mcheck_P u c _) ?_); clear hS a; (try clear w); intro a w hS
  refine L_op (s_e hS (e_assign rfl) rfl ?_); clear hS a; intro a hS
  refine L_nil ?_
  refine n_then ?_
  refine c_seq ?_
  refine c_region ?_
  refine L_op (s_e hS (e_move rfl) rfl ?_); clear hS a; intro a hS
  refine L_op (s_e hS (e_bin rfl rfl rfl) rfl ?_); clear hS a; intro a hS
  refine L_nil ?_
  refine n_then ?_
  replace hS := hS.is (t := 14) (c := true) rfl ((decide_eq_true h))
  refine c_if_t hS rfl ?_
  refine c_seq ?_
  refine c_region ?_
  refine L_op (s_e hS (e_build ty_z41 ty_pl41 .nil) rfl ?_); clear hS a; intro a hS
  refine L_op (s_e hS (e_move rfl) rfl ?_); clear hS a; intro a hS
  refine L_op (s_storeA hS rfl rfl ty_sz41 (by repeat constructor) (by rfl) (by rfl) (by rfl) ?_); clear hS; (try clear w); intro w hS
  refine L_op (s_e hS (e_assign rfl) rfl ?_); clear hS a; intro a hS
  refine L_nil ?_
  refine n_then ?_
  refine wp_ret ?_
  refine r_then ?_
  refine c_retN hS Try.results55 (.cons (.cellA rfl (by repeat constructor) ty_st41 ty_sz41 (by rfl)) (.cons (.tmp rfl) .nil)) rfl ?_
  exact ⟨rfl, hS.chg⟩
set_option maxRecDepth 100000 in
theorem mNew_ok (u : Int) (c : ByteArray) (h : checkF u c = 0) (w0 : World) : PureC Try.prog 55 [.int .i64 u, .string c] w0 (.tuple [.agg [.int .i64 u, .string c].toArray, .int .i64 0].toArray) := by
  refine c_enter [(0, .int .i64 u), (1, .string c)] [] noB Try.func55 rfl Try.ntmps55 ⟨rfl, rfl, trivial⟩ rfl (by simp) (by simp) (by simp) ?_
  intro a hS
  refine c_seq ?_
  refine c_region ?_
  refine L_op (s_alloc hS ty_z41 rfl ?_); clear hS a; (try clear w); intro a w b4 hS
  refine L_op (s_e hS (e_assign rfl) rfl ?_); clear hS a; intro a hS
  refine L_nil ?_
  refine n_then ?_
  refine c_seq ?_
  refine c_region ?_
  refine L_op (s_e hS (e_move rfl) rfl ?_); clear hS a; intro a hS
  refine L_op (s_e hS (e_move rfl) rfl ?_); clear hS a; intro a hS
  refine L_op (s_e hS (e_build ty_z41 ty_pl41 (.one rfl rfl rfl (by repeat constructor) (.one rfl rfl rfl (by repeat constructor) .nil))) rfl ?_); clear hS a; intro a hS
  refine L_op (s_alloc hS ty_z41 rfl ?_); clear hS a; (try clear w); intro a w b6 hS
  refine L_op (s_storeA hS rfl rfl ty_sz41 (by repeat constructor) (by rfl) (by rfl) (by rfl) ?_); clear hS; (try clear w); intro w hS
  refine L_nil ?_
  refine n_then ?_
  refine c_seq ?_
  refine c_seq ?_
  refine c_region ?_
  refine L_op (s_e hS (e_loadA rfl (by repeat constructor) ty_st41 ty_sz41 (by rfl)) rfl ?_); clear hS a; intro a hS
  refine L_op (s_callP hS (.cons rfl .nil) cf94 rfl (mcheck_P u c _) ?_); clear hS a; (try clear w); intro a w hS
  refine L_op (s_e hS (e_assign rfl) rfl ?_); clear hS a; intro a hS
  refine L_nil ?_
  refine n_then ?_
  refine c_seq ?_
  refine c_region ?_
  refine L_op (s_e hS (e_move rfl) rfl ?_); clear hS a; intro a hS
  refine L_op (s_e hS (e_bin rfl rfl rfl) rfl ?_); clear hS a; intro a hS
  refine L_nil ?_
  refine n_then ?_
  replace hS := hS.is (t := 14) (c := false) rfl ((decide_eq_false (fun hh => hh h)))
  refine c_if_f hS rfl ?_
  refine wp_skip ?_
  refine n_then ?_
  refine c_seq ?_
  refine c_region ?_
  refine L_op (s_e hS (e_loadA rfl (by repeat constructor) ty_st41 ty_sz41 (by rfl)) rfl ?_); clear hS a; intro a hS
  refine L_op (s_storeA hS rfl rfl ty_sz41 (by repeat constructor) (by rfl) (by rfl) (by rfl) ?_); clear hS; (try clear w); intro w hS
  refine L_op (s_e hS (e_assign rfl) rfl ?_); clear hS a; intro a hS
  refine L_nil ?_
  refine n_then ?_
  refine wp_ret ?_
  refine c_retN hS Try.results55 (.cons (.cellA rfl (by repeat constructor) ty_st41 ty_sz41 (by rfl)) (.cons (.tmp rfl) .nil)) rfl ?_
  exact ⟨rfl, hS.chg⟩

/-- every rate lies between one and what a rate may be. -/
def nanoOK (l : List (ByteArray × List (Int × Int))) : Prop := ∀ c, ∀ x ∈ rowsOf l c, 1 ≤ x.2 ∧ x.2 ≤ 1125899906842624
def worthF (own : ByteArray) (l : List (ByteArray × List (Int × Int))) (u : Int) (c : ByteArray) (at_ : Int) : Int × Int :=
  if checkF u c ≠ 0 then (0, checkF u c) else if (getF own l c at_).2 ≠ 0 then (0, (getF own l c at_).2) else convF u (getF own l c at_).1
theorem getF_bd {own : ByteArray} {l : List (ByteArray × List (Int × Int))} (h : nanoOK l) (c : ByteArray) (at_ : Int) : 0 ≤ (getF own l c at_).1 ∧ (getF own l c at_).1 ≤ 1125899906842624 := by
  unfold getF
  split
  · simp
  · split
    · simp
    · split
      · rename_i x hx
        have h2 := List.mem_of_find?_eq_some hx
        have := h c x (List.mem_reverse.1 h2)
        constructor
        · show 0 ≤ x.2; omega
        · exact this.2
      · simp
set_option maxRecDepth 100000 in
theorem fxWorth_P (bk mb : Nat) (own c : ByteArray) (es : List RA) (n u at_ : Int) (hu : -9223372036854775808 ≤ u ∧ u ≤ 9223372036854775807) (w0 : World) (h : ratesφ bk mb own es n w0) (hb : nanoOK (vsT es)) :
    PureC Try.prog 20 [.pointer (some ⟨bk, 0, none⟩), .agg [.int .i64 u, .string c].toArray, .int .i64 at_] w0 (.tuple [.int .i64 (worthF own (vsT es) u c at_).1, .int .i64 (worthF own (vsT es) u c at_).2].toArray) := by
  have hgb := getF_bd (own := own) hb c at_
  by_cases hck : checkF u c = 0
  ·
    refine c_enter [(0, .pointer (some ⟨bk, 0, none⟩)), (1, .agg [.int .i64 u, .string c].toArray), (2, .int .i64 at_)] [ratesA bk mb own es n false] noB Try.func20 rfl Try.ntmps20 ⟨rfl, rfl, rfl, trivial⟩ rfl (okC (rates_ok false h) okN) dis1 (mineC (by rfl) mineN) ?_
    intro a hS
    refine c_seq ?_
    refine c_region ?_
    refine L_op (s_boxA hS rfl rfl ?_); clear hS a; (try clear w); intro a w b4 hS
    refine L_op (s_e hS (e_assign rfl) rfl ?_); clear hS a; intro a hS
    refine L_op (s_e hS (e_assign rfl) rfl ?_); clear hS a; intro a hS
    refine L_nil ?_
    refine n_then ?_
    refine c_seq ?_
    refine c_seq ?_
    refine c_region ?_
    first | (refine L_op (s_e hS (e_fa0 rfl ty_fo41_0) rfl ?_); clear hS a; intro a hS) | (refine L_op (s_e hS (e_faK rfl ty_fo41_0) rfl ?_); clear hS a; intro a hS)
    refine L_op (s_e hS (e_load rfl (by repeat constructor) ty_sc3 (by rfl)) rfl ?_); clear hS a; intro a hS
    first | (refine L_op (s_e hS (e_fa0 rfl ty_fo41_1) rfl ?_); clear hS a; intro a hS) | (refine L_op (s_e hS (e_faK rfl ty_fo41_1) rfl ?_); clear hS a; intro a hS)
    refine L_op (s_e hS (e_load rfl (by repeat constructor) ty_sc9 (by rfl)) rfl ?_); clear hS a; intro a hS
    refine L_op (s_callP hS (.cons rfl (.cons rfl .nil)) cf55 rfl (mNew_ok u c hck _) ?_); clear hS a; (try clear w); intro a w hS
    refine L_op (s_e hS (e_move rfl) rfl ?_); clear hS a; intro a hS
    refine L_op (s_e hS (e_extract rfl rfl) rfl ?_); clear hS a; intro a hS
    refine L_op (s_e hS (e_extract rfl rfl) rfl ?_); clear hS a; intro a hS
    refine L_op (s_alloc hS ty_z41 rfl ?_); clear hS a; (try clear w); intro a w b8 hS
    refine L_op (s_storeA hS rfl rfl ty_sz41 (by repeat constructor) (by rfl) (by rfl) (by rfl) ?_); clear hS; (try clear w); intro w hS
    refine L_op (s_e hS (e_assign rfl) rfl ?_); clear hS a; intro a hS
    refine L_nil ?_
    refine n_then ?_
    refine c_seq ?_
    refine c_region ?_
    refine L_op (s_e hS (e_move rfl) rfl ?_); clear hS a; intro a hS
    refine L_op (s_e hS (e_bin rfl rfl rfl) rfl ?_); clear hS a; intro a hS
    refine L_nil ?_
    refine n_then ?_
    replace hS := hS.is (t := 21) (c := false) rfl (rfl)
    refine c_if_f hS rfl ?_
    refine wp_skip ?_
    refine n_then ?_
    refine c_seq ?_
    refine c_region ?_
    refine L_op (s_e hS (e_move rfl) rfl ?_); clear hS a; intro a hS
    first | (refine L_op (s_e hS (e_fa0 rfl ty_fo41_1) rfl ?_); clear hS a; intro a hS) | (refine L_op (s_e hS (e_faK rfl ty_fo41_1) rfl ?_); clear hS a; intro a hS)
    refine L_op (s_e hS (e_load rfl (by repeat constructor) ty_sc9 (by rfl)) rfl ?_); clear hS a; intro a hS
    refine L_op (s_e hS (e_move rfl) rfl ?_); clear hS a; intro a hS
    refine L_op (s_callP hS (.cons rfl (.cons rfl (.cons rfl .nil))) cf18 rfl (fxGet_P bk mb own c es n at_ _ (hS.get (X := ratesA bk mb own es n false) (by repeat constructor))) ?_); clear hS a; (try clear w); intro a w hS
    refine L_op (s_e hS (e_move rfl) rfl ?_); clear hS a; intro a hS
    refine L_op (s_e hS (e_extract rfl rfl) rfl ?_); clear hS a; intro a hS
    refine L_op (s_e hS (e_extract rfl rfl) rfl ?_); clear hS a; intro a hS
    refine L_op (s_e hS (e_assign rfl) rfl ?_); clear hS a; intro a hS
    refine L_op (s_e hS (e_assign rfl) rfl ?_); clear hS a; intro a hS
    refine L_nil ?_
    refine n_then ?_
    refine c_seq ?_
    refine c_seq ?_
    refine c_region ?_
    refine L_op (s_e hS (e_move rfl) rfl ?_); clear hS a; intro a hS
    refine L_op (s_e hS (e_bin rfl rfl rfl) rfl ?_); clear hS a; intro a hS
    refine L_nil ?_
    refine n_then ?_
    first | refine c_ifD hS rfl (fun hc32 => ?_) (fun hc32 => ?_) | refine c_if hS rfl (fun hc32 => ?_) (fun hc32 => ?_)
    ·
      refine c_seq ?_
      refine c_region ?_
      refine L_op (s_e hS (e_move rfl) rfl ?_); clear hS a; intro a hS
      refine L_op (s_e hS (e_assign rfl) rfl ?_); clear hS a; intro a hS
      refine L_op (s_e hS (e_assign rfl) rfl ?_); clear hS a; intro a hS
      refine L_nil ?_
      refine n_then ?_
      refine wp_ret ?_
      refine r_then ?_
      refine c_retN hS Try.results20 (.cons (.tmp rfl) (.cons (.tmp rfl) .nil)) rfl ?_
      exact ⟨by unfold worthF; rw [if_neg (fun hh => hh hck), if_pos hc32], hS.chg⟩
    ·
      refine wp_skip ?_
      refine n_then ?_
      refine c_seq ?_
      refine c_region ?_
      first | (refine L_op (s_e hS (e_fa0 rfl ty_fo41_0) rfl ?_); clear hS a; intro a hS) | (refine L_op (s_e hS (e_faK rfl ty_fo41_0) rfl ?_); clear hS a; intro a hS)
      refine L_op (s_e hS (e_load rfl (by repeat constructor) ty_sc3 (by rfl)) rfl ?_); clear hS a; intro a hS
      refine L_op (s_e hS (e_move rfl) rfl ?_); clear hS a; intro a hS
      refine L_op (s_callP hS (.cons rfl (.cons rfl .nil)) cf14 rfl (fxConvert_P u _ hu (by omega) _) ?_); clear hS a; (try clear w); intro a w hS
      refine L_op (s_e hS (e_extract rfl rfl) rfl ?_); clear hS a; intro a hS
      refine L_op (s_e hS (e_extract rfl rfl) rfl ?_); clear hS a; intro a hS
      refine L_op (s_e hS (e_assign rfl) rfl ?_); clear hS a; intro a hS
      refine L_op (s_e hS (e_assign rfl) rfl ?_); clear hS a; intro a hS
      refine L_nil ?_
      refine n_then ?_
      refine wp_ret ?_
      refine c_retN hS Try.results20 (.cons (.tmp rfl) (.cons (.tmp rfl) .nil)) rfl ?_
      exact ⟨by unfold worthF; rw [if_neg (fun hh => hh hck), if_neg hc32], hS.chg⟩
  ·
    refine c_enter [(0, .pointer (some ⟨bk, 0, none⟩)), (1, .agg [.int .i64 u, .string c].toArray), (2, .int .i64 at_)] [ratesA bk mb own es n false] noB Try.func20 rfl Try.ntmps20 ⟨rfl, rfl, rfl, trivial⟩ rfl (okC (rates_ok false h) okN) dis1 (mineC (by rfl) mineN) ?_
    intro a hS
    refine c_seq ?_
    refine c_region ?_
    refine L_op (s_boxA hS rfl rfl ?_); clear hS a; (try clear w); intro a w b4 hS
    refine L_op (s_e hS (e_assign rfl) rfl ?_); clear hS a; intro a hS
    refine L_op (s_e hS (e_assign rfl) rfl ?_); clear hS a; intro a hS
    refine L_nil ?_
    refine n_then ?_
    refine c_seq ?_
    refine c_seq ?_
    refine c_region ?_
    first | (refine L_op (s_e hS (e_fa0 rfl ty_fo41_0) rfl ?_); clear hS a; intro a hS) | (refine L_op (s_e hS (e_faK rfl ty_fo41_0) rfl ?_); clear hS a; intro a hS)
    refine L_op (s_e hS (e_load rfl (by repeat constructor) ty_sc3 (by rfl)) rfl ?_); clear hS a; intro a hS
    first | (refine L_op (s_e hS (e_fa0 rfl ty_fo41_1) rfl ?_); clear hS a; intro a hS) | (refine L_op (s_e hS (e_faK rfl ty_fo41_1) rfl ?_); clear hS a; intro a hS)
    refine L_op (s_e hS (e_load rfl (by repeat constructor) ty_sc9 (by rfl)) rfl ?_); clear hS a; intro a hS
    refine L_op (s_callP hS (.cons rfl (.cons rfl .nil)) cf55 rfl (mNew_no u c hck _) ?_); clear hS a; (try clear w); intro a w hS
    refine L_op (s_e hS (e_move rfl) rfl ?_); clear hS a; intro a hS
    refine L_op (s_e hS (e_extract rfl rfl) rfl ?_); clear hS a; intro a hS
    refine L_op (s_e hS (e_extract rfl rfl) rfl ?_); clear hS a; intro a hS
    refine L_op (s_alloc hS ty_z41 rfl ?_); clear hS a; (try clear w); intro a w b8 hS
    refine L_op (s_storeA hS rfl rfl ty_sz41 (by repeat constructor) (by rfl) (by rfl) (by rfl) ?_); clear hS; (try clear w); intro w hS
    refine L_op (s_e hS (e_assign rfl) rfl ?_); clear hS a; intro a hS
    refine L_nil ?_
    refine n_then ?_
    refine c_seq ?_
    refine c_region ?_
    refine L_op (s_e hS (e_move rfl) rfl ?_); clear hS a; intro a hS
    refine L_op (s_e hS (e_bin rfl rfl rfl) rfl ?_); clear hS a; intro a hS
    refine L_nil ?_
    refine n_then ?_
    replace hS := hS.is (t := 21) (c := true) rfl ((decide_eq_true hck))
    refine c_if_t hS rfl ?_
    refine c_seq ?_
    refine c_region ?_
    refine L_op (s_e hS (e_move rfl) rfl ?_); clear hS a; intro a hS
    refine L_op (s_e hS (e_assign rfl) rfl ?_); clear hS a; intro a hS
    refine L_op (s_e hS (e_assign rfl) rfl ?_); clear hS a; intro a hS
    refine L_nil ?_
    refine n_then ?_
    refine wp_ret ?_
    refine r_then ?_
    refine c_retN hS Try.results20 (.cons (.tmp rfl) (.cons (.tmp rfl) .nil)) rfl ?_
    exact ⟨by unfold worthF; rw [if_pos hck], hS.chg⟩
end Go.Proofs.Ytheofhegdjjfgaa

namespace Go.Proofs.Ytheofhegdjjfgaa
open Go.RowKit

def encS (x : ByteArray × Int) : List Value := [.string x.1]
def encN (x : ByteArray × Int) : List Value := [.int .i64 x.2]
set_option maxRecDepth 100000 in
theorem xCodes_P (w0 : World) : NewC Try.prog 80 [] w0 (fun b : Nat => .slice (some ⟨b, 0, none⟩) 6 6) (fun b => .blk b (curs.flatMap encS) 9) := by
  refine c_enter [] [] noB Try.func80 rfl Try.ntmps80 trivial rfl (by simp) (by simp) (by simp) ?_
  intro a hS
  refine c_seq ?_
  refine c_region ?_
  refine L_op (s_e hS (e_assign rfl) rfl ?_); clear hS a; intro a hS
  refine L_nil ?_
  refine n_then ?_
  refine c_seq ?_
  refine c_region ?_
  refine L_op (s_bslice hS ty_sl142 ty_sz9 ty_z9 rfl rfl rfl rfl (.one rfl rfl rfl (.one rfl rfl rfl (.one rfl rfl rfl (.one rfl rfl rfl (.one rfl rfl rfl (.one rfl rfl rfl .nil)))))) rfl ?_); clear hS a; (try clear w); intro a w b1 hS
  refine L_op (s_e hS (e_assign rfl) rfl ?_); clear hS a; intro a hS
  refine L_nil ?_
  refine n_then ?_
  refine wp_ret ?_
  refine c_ret1 hS Try.results80 (.tmp rfl) ?_
  exact ⟨b1, rfl, hS.chg, hS.new (.head _) rfl⟩
/-- the reference's scale. -/
def refS (s : ByteArray) : Int := if curIdx s < 0 then -1 else (curs.getD (curIdx s).toNat (⟨#[]⟩, 0)).2
theorem idx_some {s : ByteArray} {k : Nat} {x : ByteArray × Int} (hx : curs[k]? = some x) (hs : x.1 = s) (hno : ∀ j, j < k → ∀ y, curs[j]? = some y → y.1 ≠ s) : curIdx s = k :=
  firstIdx_some hx (decide_eq_true hs) (fun j hj y hy => decide_eq_false (hno j hj y hy))
theorem idx_none {s : ByteArray} (hno : ∀ j, j < 6 → ∀ y, curs[j]? = some y → y.1 ≠ s) : curIdx s = -1 :=
  firstIdx_none (fun j hj y hy => decide_eq_false (hno j hj y hy))
theorem refS_neg (s : ByteArray) : refS s < 0 ↔ (scaleR s).2 ≠ 0 := by
  unfold refS scaleR
  split
  · simp
  · rename_i h
    simp only [ne_eq, not_true_eq_false, iff_false, Int.not_lt]
    rw [List.getD_eq_getElem?_getD]
    rcases firstIdx_cases (fun x : ByteArray × Int => decide (x.1 = s)) curs with ⟨i, x, hi, hx, _⟩ | h2
    · rw [show curIdx s = (i : Int) from hi, Int.toNat_natCast, hx]
      have := List.mem_of_getElem? hx
      simp [curs] at this
      rcases this with rfl | rfl | rfl | rfl | rfl | rfl <;> decide
    · exfalso; have := h2.1; exact h (by show curIdx s < 0; unfold curIdx; omega)
set_option maxRecDepth 100000 in
theorem xScale_P (s : ByteArray) (w0 : World) : PureC Try.prog 38 [.string s] w0 (.int .i64 (refS s)) := by
  refine c_enter [(0, .string s)] [] noB Try.func38 rfl Try.ntmps38 ⟨rfl, trivial⟩ rfl (by simp) (by simp) (by simp) ?_
  intro a hS
  refine c_seq ?_
  refine c_region ?_
  refine L_op (s_e hS (e_assign rfl) rfl ?_); clear hS a; intro a hS
  refine L_nil ?_
  refine n_then ?_
  refine c_seq ?_
  refine c_region ?_
  refine L_op (s_bslice hS ty_sl42 ty_sz3 ty_z3 rfl rfl rfl rfl (.one rfl rfl rfl (.one rfl rfl rfl (.one rfl rfl rfl (.one rfl rfl rfl (.one rfl rfl rfl (.one rfl rfl rfl .nil)))))) rfl ?_); clear hS a; (try clear w); intro a w b6 hS
  refine L_op (s_e hS (e_assign rfl) rfl ?_); clear hS a; intro a hS
  refine L_nil ?_
  refine n_then ?_
  refine c_seq ?_
  refine c_region ?_
  refine L_op (s_callN hS .nil cf80 rfl (xCodes_P _) ?_); clear hS a; (try clear w); intro x7 a w hS
  refine L_op (s_e hS (e_assign rfl) rfl ?_); clear hS a; intro a hS
  refine L_nil ?_
  refine n_then ?_
  refine c_seq ?_
  refine c_seq ?_
  refine c_region ?_
  refine L_op (s_e hS (e_assign rfl) rfl ?_); clear hS a; intro a hS
  refine L_nil ?_
  refine n_then ?_
  refine wp_block ?_
  skip
  refine c_loop (γ := Nat) (fun k a w => St 24 noB w0 a w [(5, .int .i64 (k : Int)), (4, .slice (some ⟨x7, 0, none⟩) 6 6), (3, .slice (some ⟨b6, 0, none⟩) 6 6), (0, .string s)] [.blk x7 (curs.flatMap encS) 9, .blk b6 (curs.flatMap encN) 3] ∧ k ≤ 6 ∧ ∀ j, j < k → ∀ y, curs[j]? = some y → y.1 ≠ s) (fun k => 6 - k) 0 ⟨(hS.slots (by repeat (first | exact trivial | refine ⟨rfl, ?_⟩))).pick (by repeat (first | exact Pick.nil | (refine Pick.cons (by repeat (first | exact Rem.head | apply Rem.tail)) ?_))), Nat.zero_le _, fun j hj => by omega⟩ ?_
  clear hS a; (try clear w); intro k a w hI
  obtain ⟨hS, hk, hno⟩ := hI
  refine c_seq ?_
  refine c_seq ?_
  refine c_region ?_
  refine L_op (s_e hS (e_move rfl) rfl ?_); clear hS a; intro a hS
  refine L_op (s_e hS (e_move rfl) rfl ?_); clear hS a; intro a hS
  refine L_op (s_e hS (e_len rfl rfl ty_sl142) rfl ?_); clear hS a; intro a hS
  refine L_op (s_e hS (e_bin rfl rfl rfl) rfl ?_); clear hS a; intro a hS
  refine L_nil ?_
  refine n_then ?_
  first | refine c_ifD hS rfl (fun hc11 => ?_) (fun hc11 => ?_) | refine c_if hS rfl (fun hc11 => ?_) (fun hc11 => ?_)
  ·
    have hk6 : k < 6 := by omega
    obtain ⟨x, hx⟩ : ∃ x, curs[k]? = some x := ⟨curs[k], List.getElem?_eq_getElem hk6⟩
    refine wp_skip ?_
    refine n_then ?_
    refine c_seq ?_
    refine wp_block ?_
    refine c_seq ?_
    refine c_region ?_
    refine L_op (s_e hS (e_move rfl) rfl ?_); clear hS a; intro a hS
    refine L_op (s_e hS (e_move rfl) rfl ?_); clear hS a; intro a hS
    refine L_op (s_e hS (e_ixN rfl rfl ty_sl142 ty_sz9 (by omega)) rfl ?_); clear hS a; intro a hS
    refine L_op (s_e hS (e_loadC rfl ty_sc9 (fun w hh => blkrow_get (enc := encS) (by repeat constructor) (fun _ => rfl) hx w hh 0 (.string x.1) rfl)) rfl ?_); clear hS a; intro a hS
    refine L_op (s_e hS (e_move rfl) rfl ?_); clear hS a; intro a hS
    refine L_op (s_e hS (e_binS rfl rfl rfl) rfl ?_); clear hS a; intro a hS
    refine L_nil ?_
    refine n_then ?_
    first | refine c_ifD hS rfl (fun hc19 => ?_) (fun hc19 => ?_) | refine c_if hS rfl (fun hc19 => ?_) (fun hc19 => ?_)
    ·
      refine c_seq ?_
      refine c_region ?_
      refine L_op (s_e hS (e_move rfl) rfl ?_); clear hS a; intro a hS
      refine L_op (s_e hS (e_move rfl) rfl ?_); clear hS a; intro a hS
      refine L_op (s_e hS (e_ixN rfl rfl ty_sl42 ty_sz3 (by omega)) rfl ?_); clear hS a; intro a hS
      refine L_op (s_e hS (e_loadC rfl ty_sc3 (fun w hh => blkrow_get (enc := encN) (by repeat constructor) (fun _ => rfl) hx w hh 0 (.int .i64 x.2) rfl)) rfl ?_); clear hS a; intro a hS
      refine L_op (s_e hS (e_assign rfl) rfl ?_); clear hS a; intro a hS
      refine L_nil ?_
      refine n_then ?_
      refine wp_ret ?_
      refine r_block (r_then (r_then (r_block (r_then ?_))))
      refine c_ret1 hS Try.results38 (.tmp rfl) ?_
      have hi := idx_some hx hc19 hno
      have hg : curs.getD k (⟨#[]⟩, 0) = x := by rw [List.getD_eq_getElem?_getD, hx]; rfl
      exact ⟨by unfold refS; rw [hi, if_neg (by omega), Int.toNat_natCast, hg], hS.chg⟩
    ·
      refine wp_skip ?_
      refine n_block ?_
      refine n_then ?_
      refine c_region ?_
      refine L_op (s_e hS (e_move rfl) rfl ?_); clear hS a; intro a hS
      first | (refine L_op (s_e hS (e_binN rfl rfl rfl (by omega)) rfl ?_); clear hS a; intro a hS) | (refine L_op (s_e hS (e_bin rfl rfl rfl) rfl ?_); clear hS a; intro a hS)
      refine L_op (s_e hS (e_assign rfl) rfl ?_); clear hS a; intro a hS
      refine L_nil ?_
      exact ⟨k + 1, by omega, hS.slots (by repeat (first | exact trivial | refine ⟨rfl, ?_⟩)), by omega, fun j hj y hy => by
      by_cases e : j = k
      · subst e; rw [hx] at hy; cases hy; exact hc19
      · exact hno j (by omega) y hy⟩
  ·
    refine wp_exit ?_
    refine x_then (x_then (x_hit ?_))
    refine n_then ?_
    refine c_seq ?_
    refine c_region ?_
    refine L_op (s_e hS (e_assign rfl) rfl ?_); clear hS a; intro a hS
    refine L_nil ?_
    refine n_then ?_
    refine wp_ret ?_
    refine c_ret1 hS Try.results38 (.tmp rfl) ?_
    exact ⟨by unfold refS; rw [idx_none (fun j hj => hno j (by omega)), if_pos (by decide)], hS.chg⟩
set_option maxRecDepth 100000 in
theorem xInstant_P (n : Int) (w0 : World) : PureC Try.prog 81 [.int .i64 n] w0 (.bool (decide (inst n))) := by
  refine c_enter [(0, .int .i64 n)] [] noB Try.func81 rfl Try.ntmps81 ⟨rfl, trivial⟩ rfl (by simp) (by simp) (by simp) ?_
  intro a hS
  refine c_seq ?_
  refine c_region ?_
  refine L_op (s_e hS (e_assign rfl) rfl ?_); clear hS a; intro a hS
  refine L_nil ?_
  refine n_then ?_
  refine c_seq ?_
  refine c_region ?_
  refine L_op (s_e hS (e_move rfl) rfl ?_); clear hS a; intro a hS
  refine L_op (s_e hS (e_bin rfl rfl rfl) rfl ?_); clear hS a; intro a hS
  refine L_op (s_e hS (e_move rfl) rfl ?_); clear hS a; intro a hS
  refine L_merge 3 8 (.bool (decide (inst n))) hS ?_ ?_
  · intro hcM8
    (first | refine g_splitD (t := 5) hS rfl ?_ ?_ | refine g_split (t := 5) hS rfl ?_ ?_) <;> (clear hS; intro hg5 hS)
    ·
      refine L_go hS rfl rfl (s_e hS (e_move rfl) rfl ?_); clear hS a; intro a hS
      refine L_go hS rfl rfl (s_e hS (e_bin rfl rfl rfl) rfl ?_); clear hS a; intro a hS
      first | (refine L_op (s_e hS (e_pick_t rfl rfl) rfl ?_); clear hS a; intro a hS) | (refine L_op (s_e hS (e_pick_f rfl rfl) rfl ?_); clear hS a; intro a hS)
      exact hcM8 _ _ (hS.ends 4 8 5 rfl (congrArg Value.bool (by exact decide_eq_decide.2 (by unfold inst; omega))) rfl rfl (by first | exact congrArg Value.bool (decide_eq_true hg5).symm | exact congrArg Value.bool hg5.symm | simp [hg5]) rfl)
    ·
      refine L_skip_t hS rfl rfl rfl ?_; clear hS a; intro a hS
      refine L_skip_t hS rfl rfl rfl ?_; clear hS a; intro a hS
      first | (refine L_op (s_e hS (e_pick_t rfl rfl) rfl ?_); clear hS a; intro a hS) | (refine L_op (s_e hS (e_pick_f rfl rfl) rfl ?_); clear hS a; intro a hS)
      exact hcM8 _ _ (hS.ends 4 8 5 rfl (congrArg Value.bool (by exact (decide_eq_false (by unfold inst; omega)).symm)) rfl rfl (by first | exact congrArg Value.bool (decide_eq_false hg5).symm | exact congrArg Value.bool hg5.symm | simp [hg5]) rfl)
  · clear hS a; (try clear w); intro a w hS
    simp only [List.drop_succ_cons, List.drop_zero]
    refine L_op (s_e hS (e_assign rfl) rfl ?_); clear hS a; intro a hS
    refine L_nil ?_
    refine n_then ?_
    refine wp_ret ?_
    refine c_ret1 hS Try.results81 (.tmp rfl) ?_
    exact ⟨rfl, hS.chg⟩
end Go.Proofs.Ytheofhegdjjfgaa

namespace Go.Proofs.Ytheofhegdjjfgaa
open Go.RowKit

abbrev RR := ByteArray × Int × Int
def encR (x : RR) : List Value := [.string x.1, .int .i64 x.2.1, .int .i64 x.2.2]
structure refφ (bw : Nat) (own : ByteArray) (rows : List RR) (v : Value) (w : World) : Prop where
  bk : w.heap[bw]? = some (.cells [.string own, v].toArray 86 (0, 0))
  rows : w.ownsRow 0 94 3 v rows.length (rows.flatMap encR)
def refF (bw : Nat) (v : Value) (k : Nat) : Prop := k = bw ∨ v.ownBlock = some k
def refA (bw : Nat) (own : ByteArray) (rows : List RR) (v : Value) (m : Bool) : Asn := .any (refF bw v) (refφ bw own rows v) m
theorem ref_ok {bw : Nat} {own : ByteArray} {rows : List RR} {v : Value} {w : World} (m : Bool) (h : refφ bw own rows v w) : (refA bw own rows v m).ok w := by
  refine ⟨fun b hb => ?_, fun w' hw => ⟨?_, owns_keep h.rows (fun b hb => hw b (.inr hb))⟩⟩
  · rcases hb with rfl | hb
    · exact (Array.getElem?_eq_some_iff.1 h.bk).1
    · exact (World.ownsRow.lt h.rows b hb).2
  · rw [hw bw (.inl rfl)]; exact h.bk
/-- where a rate of a currency goes. -/
def kOK (c : ByteArray) (rows : List RR) (i k : Nat) : Prop := k ≤ i ∧ (k = 0 ∨ ∃ y, rows[k - 1]? = some y ∧ leS y.1 c = true) ∧ ∀ j, k ≤ j → j < i → ∀ y, rows[j]? = some y → leS y.1 c = false
def late (rows : List RR) (c : ByteArray) (at_ : Int) : Prop := ∃ x ∈ rows, x.1 = c ∧ at_ ≤ x.2.1
instance (rows : List RR) (c : ByteArray) (at_ : Int) : Decidable (late rows c at_) := by unfold late; infer_instance
def refE (own : ByteArray) (rows : List RR) (c : ByteArray) (at_ nano : Int) : Int :=
  if refS c < 0 ∨ c = own then 18 else if ¬ inst at_ ∨ nano < 1 ∨ 1125899906842624 < nano then 6 else if late rows c at_ then 34 else if 500 ≤ rows.length then 9 else 0
def refStep (own : ByteArray) (rows : List RR) (c : ByteArray) (at_ nano : Int) (rows' : List RR) : Prop :=
  (refE own rows c at_ nano ≠ 0 ∧ rows' = rows) ∨ (refE own rows c at_ nano = 0 ∧ ∃ k, kOK c rows rows.length k ∧ rows' = rows.take k ++ (c, at_, nano) :: rows.drop k)

theorem kOK_yes {c : ByteArray} {rows : List RR} {i : Nat} {x : RR} (hx : rows[i]? = some x) (hl : leS x.1 c = true) : kOK c rows (i + 1) (i + 1) :=
  ⟨Nat.le_refl _, .inr ⟨x, by rw [Nat.add_sub_cancel]; exact hx, hl⟩, fun j h1 h2 => by omega⟩
theorem kOK_no {c : ByteArray} {rows : List RR} {i k : Nat} {x : RR} (h : kOK c rows i k) (hx : rows[i]? = some x) (hl : leS x.1 c = false) : kOK c rows (i + 1) k :=
  ⟨by have := h.1; omega, h.2.1, fun j h1 h2 y hy => by
    by_cases e : j = i
    · subst e; rw [hx] at hy; cases hy; exact hl
    · exact h.2.2 j h1 (by omega) y hy⟩

set_option maxRecDepth 100000 in
theorem rSet_P (bw : Nat) (own c : ByteArray) (rows : List RR) (v : Value) (at_ nano : Int) (hlen : rows.length ≤ 500) (w0 : World) (h : refφ bw own rows v w0) :
    MutC Try.prog 39 [.pointer (some ⟨bw, 0, none⟩), .string c, .int .i64 at_, .int .i64 nano] w0 (refA bw own rows v true) (fun _ : { y : List RR × Value // refStep own rows c at_ nano y.1 } => .int .i64 (refE own rows c at_ nano)) (fun y => refA bw own y.1.1 y.1.2 true) := by
  obtain ⟨q, cq, rfl⟩ := own_slice h.rows
  have hdis : (Value.slice q rows.length cq).ownBlock ≠ some bw := fun hb => by
    obtain ⟨cs, h1⟩ := row_obj h.rows hb
    rw [h.bk] at h1; injection h1 with h1; injection h1 with h1 h2 h3; exact absurd h2 (by decide)
  have hcq : rows.length ≤ cq := by
    rcases h.rows.2 with ⟨e1, e2⟩ | ⟨g, cap, cur, e1, _, _, e2, _⟩
    · injection e1 with _ _ e3; omega
    · injection e1 with _ _ e3; omega
  have hsh : rows.length = 0 ∨ ∃ g, q = some ⟨g, 0, none⟩ := by
    rcases h.rows.2 with ⟨e1, e2⟩ | ⟨g, cap, cur, e1, _⟩
    · exact .inl e2
    · injection e1 with e3; exact .inr ⟨g, e3⟩
  have hone : ∀ l : List RR, ∀ u ∈ l.flatMap encR, isOne u = true := fun l u hu => by
    obtain ⟨x, _, hx⟩ := List.mem_flatMap.1 hu
    simp [encR] at hx
    rcases hx with rfl | rfl | rfl <;> rfl
  have same : refE own rows c at_ nano ≠ 0 → refStep own rows c at_ nano rows := fun hne => .inl ⟨hne, rfl⟩
  have hback : ∀ {a : Act} {w : World} {L : List (Nat × Value)} {Δ : List Asn}, St 109 (refF bw (.slice q rows.length cq)) w0 a w L (.blk bw [.string own, .slice q rows.length cq] 86 :: ownA 94 3 (.slice q rows.length cq) rows.length (rows.flatMap encR) :: Δ) → (refA bw own rows (.slice q rows.length cq) true).ok w := fun {a w L Δ} hS =>
    ref_ok true ⟨hS.get (X := .blk bw [.string own, .slice q rows.length cq] 86) (by repeat constructor), hS.get (X := ownA 94 3 (.slice q rows.length cq) rows.length (rows.flatMap encR)) (by repeat constructor)⟩
  refine c_enter [(0, .pointer (some ⟨bw, 0, none⟩)), (1, .string c), (2, .int .i64 at_), (3, .int .i64 nano)] [.blk bw [.string own, .slice q rows.length cq] 86, ownA 94 3 (.slice q rows.length cq) rows.length (rows.flatMap encR)] (refF bw (.slice q rows.length cq)) Try.func39 rfl Try.ntmps39 ⟨rfl, rfl, rfl, rfl, trivial⟩ rfl (okC (ok_blk h.bk) (okC (ok_own h.rows) okN)) (disC (sepC (fun b hb hb' => hdis (by rw [← show b = bw from hb]; exact hb')) sepN) dis1) (mineO (fun b hb => .inl hb) (mineO (fun b hb => .inr hb) mineN)) ?_
  intro a hS
  refine c_seq ?_
  refine c_region ?_
  refine L_op (s_e hS (e_assign rfl) rfl ?_); clear hS a; intro a hS
  refine L_nil ?_
  refine n_then ?_
  refine c_seq ?_
  refine c_seq ?_
  refine c_region ?_
  refine L_op (s_e hS (e_move rfl) rfl ?_); clear hS a; intro a hS
  refine L_op (s_callP hS (.cons rfl .nil) cf38 rfl (xScale_P c _) ?_); clear hS a; (try clear w); intro a w hS
  refine L_op (s_e hS (e_bin rfl rfl rfl) rfl ?_); clear hS a; intro a hS
  refine L_op (s_e hS (e_move rfl) rfl ?_); clear hS a; intro a hS
  refine L_merge 7 22 (.bool (decide (refS c < 0 ∨ c = own))) hS ?_ ?_
  · intro hcM22
    (first | refine g_splitD (t := 15) hS rfl ?_ ?_ | refine g_split (t := 15) hS rfl ?_ ?_) <;> (clear hS; intro hg15 hS)
    ·
      refine L_skip_f hS rfl rfl rfl ?_; clear hS a; intro a hS
      refine L_skip_f hS rfl rfl rfl ?_; clear hS a; intro a hS
      refine L_skip_f hS rfl rfl rfl ?_; clear hS a; intro a hS
      refine L_skip_f hS rfl rfl rfl ?_; clear hS a; intro a hS
      refine L_skip_f hS rfl rfl rfl ?_; clear hS a; intro a hS
      refine L_skip_f hS rfl rfl rfl ?_; clear hS a; intro a hS
      first | (refine L_op (s_e hS (e_pick_t rfl rfl) rfl ?_); clear hS a; intro a hS) | (refine L_op (s_e hS (e_pick_f rfl rfl) rfl ?_); clear hS a; intro a hS)
      exact hcM22 _ _ (hS.ends 8 22 15 rfl (congrArg Value.bool (by first | rfl | (simp [hg15]; done) | (simp [hg15]; omega) | grind)) rfl rfl (by first | exact congrArg Value.bool (decide_eq_true hg15).symm | exact congrArg Value.bool hg15.symm | simp [hg15]) rfl)
    ·
      refine L_go hS rfl rfl (s_e hS (e_move rfl) rfl ?_); clear hS a; intro a hS
      refine L_go hS rfl rfl (s_e hS (e_move rfl) rfl ?_); clear hS a; intro a hS
      refine L_go hS rfl rfl (s_e hS (e_nilCheck rfl) rfl ?_); clear hS a; intro a hS
      first | (refine L_go hS rfl rfl (s_e hS (e_fa0 rfl ty_fo86_0) rfl ?_); clear hS a; intro a hS) | (refine L_go hS rfl rfl (s_e hS (e_faK rfl ty_fo86_0) rfl ?_); clear hS a; intro a hS)
      refine L_go hS rfl rfl (s_e hS (e_load rfl (by repeat constructor) ty_sc9 (by rfl)) rfl ?_); clear hS a; intro a hS
      refine L_go hS rfl rfl (s_e hS (e_binS rfl rfl rfl) rfl ?_); clear hS a; intro a hS
      first | (refine L_op (s_e hS (e_pick_t rfl rfl) rfl ?_); clear hS a; intro a hS) | (refine L_op (s_e hS (e_pick_f rfl rfl) rfl ?_); clear hS a; intro a hS)
      exact hcM22 _ _ (hS.ends 8 22 15 rfl (congrArg Value.bool (by first | rfl | (simp [hg15]; done) | (simp [hg15]; omega) | grind)) rfl rfl (by first | exact congrArg Value.bool (decide_eq_false hg15).symm | exact congrArg Value.bool hg15.symm | simp [hg15]) rfl)
  · clear hS a; (try clear w); intro a w hS
    simp only [List.drop_succ_cons, List.drop_zero]
    refine L_nil ?_
    refine n_then ?_
    first | refine c_ifD hS rfl (fun hc22 => ?_) (fun hc22 => ?_) | refine c_if hS rfl (fun hc22 => ?_) (fun hc22 => ?_)
    ·
      refine c_seq ?_
      refine c_region ?_
      refine L_op (s_e hS (e_assign rfl) rfl ?_); clear hS a; intro a hS
      refine L_nil ?_
      refine n_then ?_
      refine wp_ret ?_
      refine r_then ?_
      refine c_ret1 hS Try.results39 (.tmp rfl) ?_
      have hE : refE own rows c at_ nano = 18 := if_pos hc22
      exact ⟨⟨(rows, _), same (by rw [hE]; decide)⟩, by (try dsimp only); rw [hE], hS.chg, hback hS, fun b hb => .inl hb⟩
    ·
      refine wp_skip ?_
      refine n_then ?_
      refine c_seq ?_
      refine c_seq ?_
      refine c_region ?_
      refine L_op (s_e hS (e_move rfl) rfl ?_); clear hS a; intro a hS
      refine L_op (s_callP hS (.cons rfl .nil) cf81 rfl (xInstant_P at_ _) ?_); clear hS a; (try clear w); intro a w hS
      refine L_op (s_e hS (e_not rfl) rfl ?_); clear hS a; intro a hS
      refine L_op (s_e hS (e_move rfl) rfl ?_); clear hS a; intro a hS
      refine L_merge 3 29 (.bool (decide (¬ inst at_ ∨ nano < 1))) hS ?_ ?_
      · intro hcM29
        (first | refine g_splitD (t := 26) hS rfl ?_ ?_ | refine g_split (t := 26) hS rfl ?_ ?_) <;> (clear hS; intro hg26 hS)
        ·
          refine L_skip_f hS rfl rfl rfl ?_; clear hS a; intro a hS
          refine L_skip_f hS rfl rfl rfl ?_; clear hS a; intro a hS
          first | (refine L_op (s_e hS (e_pick_t rfl rfl) rfl ?_); clear hS a; intro a hS) | (refine L_op (s_e hS (e_pick_f rfl rfl) rfl ?_); clear hS a; intro a hS)
          exact hcM29 _ _ (hS.ends 4 29 26 rfl (congrArg Value.bool (by simp at hg26; simp [hg26])) rfl rfl (by first | exact congrArg Value.bool (decide_eq_true hg26).symm | exact congrArg Value.bool hg26.symm | simp [hg26]) rfl)
        ·
          refine L_go hS rfl rfl (s_e hS (e_move rfl) rfl ?_); clear hS a; intro a hS
          refine L_go hS rfl rfl (s_e hS (e_bin rfl rfl rfl) rfl ?_); clear hS a; intro a hS
          first | (refine L_op (s_e hS (e_pick_t rfl rfl) rfl ?_); clear hS a; intro a hS) | (refine L_op (s_e hS (e_pick_f rfl rfl) rfl ?_); clear hS a; intro a hS)
          exact hcM29 _ _ (hS.ends 4 29 26 rfl (congrArg Value.bool (by simp at hg26; rw [decide_eq_decide]; simp [hg26])) rfl rfl (by first | exact congrArg Value.bool (decide_eq_false hg26).symm | exact congrArg Value.bool hg26.symm | simp [hg26]) rfl)
      · clear hS a; (try clear w); intro a w hS
        simp only [List.drop_succ_cons, List.drop_zero]
        refine L_op (s_e hS (e_move rfl) rfl ?_); clear hS a; intro a hS
        refine L_merge 3 33 (.bool (decide (¬ inst at_ ∨ nano < 1 ∨ 1125899906842624 < nano))) hS ?_ ?_
        · intro hcM33
          (first | refine g_splitD (t := 30) hS rfl ?_ ?_ | refine g_split (t := 30) hS rfl ?_ ?_) <;> (clear hS; intro hg30 hS)
          ·
            refine L_skip_f hS rfl rfl rfl ?_; clear hS a; intro a hS
            refine L_skip_f hS rfl rfl rfl ?_; clear hS a; intro a hS
            first | (refine L_op (s_e hS (e_pick_t rfl rfl) rfl ?_); clear hS a; intro a hS) | (refine L_op (s_e hS (e_pick_f rfl rfl) rfl ?_); clear hS a; intro a hS)
            exact hcM33 _ _ (hS.ends 4 33 30 rfl (congrArg Value.bool (by symm; rw [decide_eq_true_eq]; rcases hg30 with h | h; exact .inl h; exact .inr (.inl h))) rfl rfl (by first | exact congrArg Value.bool (decide_eq_true hg30).symm | exact congrArg Value.bool hg30.symm | simp [hg30]) rfl)
          ·
            refine L_go hS rfl rfl (s_e hS (e_move rfl) rfl ?_); clear hS a; intro a hS
            refine L_go hS rfl rfl (s_e hS (e_bin rfl rfl rfl) rfl ?_); clear hS a; intro a hS
            first | (refine L_op (s_e hS (e_pick_t rfl rfl) rfl ?_); clear hS a; intro a hS) | (refine L_op (s_e hS (e_pick_f rfl rfl) rfl ?_); clear hS a; intro a hS)
            exact hcM33 _ _ (hS.ends 4 33 30 rfl (congrArg Value.bool (by rw [decide_eq_decide]; constructor; exact fun h => .inr (.inr h); exact fun h => by (rcases h with h | h | h; exact absurd (.inl h) hg30; exact absurd (.inr h) hg30; exact h))) rfl rfl (by first | exact congrArg Value.bool (decide_eq_false hg30).symm | exact congrArg Value.bool hg30.symm | simp [hg30]) rfl)
        · clear hS a; (try clear w); intro a w hS
          simp only [List.drop_succ_cons, List.drop_zero]
          refine L_nil ?_
          refine n_then ?_
          first | refine c_ifD hS rfl (fun hc33 => ?_) (fun hc33 => ?_) | refine c_if hS rfl (fun hc33 => ?_) (fun hc33 => ?_)
          ·
            refine c_seq ?_
            refine c_region ?_
            refine L_op (s_e hS (e_assign rfl) rfl ?_); clear hS a; intro a hS
            refine L_nil ?_
            refine n_then ?_
            refine wp_ret ?_
            refine r_then ?_
            refine c_ret1 hS Try.results39 (.tmp rfl) ?_
            have hE : refE own rows c at_ nano = 6 := by unfold refE; rw [if_neg hc22, if_pos hc33]
            exact ⟨⟨(rows, _), same (by rw [hE]; decide)⟩, by (try dsimp only); rw [hE], hS.chg, hback hS, fun b hb => .inl hb⟩
          ·
            refine wp_skip ?_
            refine n_then ?_
            refine c_seq ?_
            refine c_region ?_
            refine L_op (s_e hS (e_assign rfl) rfl ?_); clear hS a; intro a hS
            refine L_nil ?_
            refine n_then ?_
            refine c_seq ?_
            refine c_seq ?_
            refine c_region ?_
            refine L_op (s_e hS (e_assign rfl) rfl ?_); clear hS a; intro a hS
            refine L_nil ?_
            refine n_then ?_
            refine wp_block ?_
            skip
            refine c_loop (γ := Nat × Nat) (fun p a w => St 109 (refF bw (.slice q rows.length cq)) w0 a w [(9, .int .i64 (p.2 : Int)), (10, .int .i64 (p.1 : Int)), (0, .pointer (some ⟨bw, 0, none⟩)), (1, .string c), (2, .int .i64 at_), (3, .int .i64 nano)] [.blk bw [.string own, .slice q rows.length cq] 86, ownA 94 3 (.slice q rows.length cq) rows.length (rows.flatMap encR)] ∧ p.1 ≤ rows.length ∧ kOK c rows p.1 p.2 ∧ ∀ j, j < p.1 → ∀ y, rows[j]? = some y → ¬ (y.1 = c ∧ at_ ≤ y.2.1)) (fun p => rows.length - p.1) (0, 0) ⟨hS.slots (by repeat (first | exact trivial | refine ⟨rfl, ?_⟩)), Nat.zero_le _, ⟨Nat.le_refl _, .inl rfl, fun j h1 h2 => absurd h2 (Nat.not_lt_zero _)⟩, fun j hj => absurd hj (Nat.not_lt_zero _)⟩ ?_
            clear hS a; (try clear w); intro p a w hI
            obtain ⟨hS, hi, hk, hno⟩ := hI
            obtain ⟨i, k⟩ := p
            simp only at hS hi hk hno ⊢
            refine c_seq ?_
            refine c_seq ?_
            refine c_region ?_
            refine L_op (s_e hS (e_move rfl) rfl ?_); clear hS a; intro a hS
            refine L_op (s_e hS (e_move rfl) rfl ?_); clear hS a; intro a hS
            refine L_op (s_e hS (e_nilCheck rfl) rfl ?_); clear hS a; intro a hS
            first | (refine L_op (s_e hS (e_fa0 rfl ty_fo86_1) rfl ?_); clear hS a; intro a hS) | (refine L_op (s_e hS (e_faK rfl ty_fo86_1) rfl ?_); clear hS a; intro a hS)
            refine L_op (s_e hS (e_load rfl (by repeat constructor) ty_sc84 (by rfl)) rfl ?_); clear hS a; intro a hS
            refine L_op (s_e hS (e_len rfl rfl ty_sl84) rfl ?_); clear hS a; intro a hS
            refine L_op (s_e hS (e_bin rfl rfl rfl) rfl ?_); clear hS a; intro a hS
            refine L_nil ?_
            refine n_then ?_
            first | refine c_ifD hS rfl (fun hc40 => ?_) (fun hc40 => ?_) | refine c_if hS rfl (fun hc40 => ?_) (fun hc40 => ?_)
            ·
              have hin : i < rows.length := by omega
              obtain ⟨x, hx⟩ : ∃ x, rows[i]? = some x := ⟨rows[i], List.getElem?_eq_getElem hin⟩
              obtain ⟨g, rfl⟩ : ∃ g, q = some ⟨g, 0, none⟩ := hsh.resolve_left (by omega)
              refine wp_skip ?_
              refine n_then ?_
              refine c_seq ?_
              refine wp_block ?_
              refine c_seq ?_
              refine c_seq ?_
              refine c_region ?_
              refine L_op (s_e hS (e_move rfl) rfl ?_); clear hS a; intro a hS
              refine L_op (s_e hS (e_nilCheck rfl) rfl ?_); clear hS a; intro a hS
              first | (refine L_op (s_e hS (e_fa0 rfl ty_fo86_1) rfl ?_); clear hS a; intro a hS) | (refine L_op (s_e hS (e_faK rfl ty_fo86_1) rfl ?_); clear hS a; intro a hS)
              refine L_op (s_e hS (e_load rfl (by repeat constructor) ty_sc84 (by rfl)) rfl ?_); clear hS a; intro a hS
              refine L_op (s_e hS (e_move rfl) rfl ?_); clear hS a; intro a hS
              refine L_op (s_e hS (e_ixN rfl rfl ty_sl84 ty_sz94 (by omega)) rfl ?_); clear hS a; intro a hS
              first | (refine L_op (s_e hS (e_fa0 rfl ty_fo94_0) rfl ?_); clear hS a; intro a hS) | (refine L_op (s_e hS (e_faK rfl ty_fo94_0) rfl ?_); clear hS a; intro a hS)
              refine L_op (s_e hS (e_loadC rfl ty_sc9 (fun w hh => own_get (enc := encR) (fun _ => rfl) (by repeat constructor) hx w hh 0 (.string x.1) rfl)) rfl ?_); clear hS a; intro a hS
              refine L_op (s_e hS (e_move rfl) rfl ?_); clear hS a; intro a hS
              refine L_op (s_e hS (e_binS rfl rfl rfl) rfl ?_); clear hS a; intro a hS
              refine L_op (s_e hS (e_move rfl) rfl ?_); clear hS a; intro a hS
              refine L_merge 11 64 (.bool (decide (x.1 = c ∧ at_ ≤ x.2.1))) hS ?_ ?_
              · intro hcM64
                (first | refine g_splitD (t := 53) hS rfl ?_ ?_ | refine g_split (t := 53) hS rfl ?_ ?_) <;> (clear hS; intro hg53 hS)
                ·
                  refine L_go hS rfl rfl (s_e hS (e_move rfl) rfl ?_); clear hS a; intro a hS
                  refine L_go hS rfl rfl (s_e hS (e_nilCheck rfl) rfl ?_); clear hS a; intro a hS
                  first | (refine L_go hS rfl rfl (s_e hS (e_fa0 rfl ty_fo86_1) rfl ?_); clear hS a; intro a hS) | (refine L_go hS rfl rfl (s_e hS (e_faK rfl ty_fo86_1) rfl ?_); clear hS a; intro a hS)
                  refine L_go hS rfl rfl (s_e hS (e_load rfl (by repeat constructor) ty_sc84 (by rfl)) rfl ?_); clear hS a; intro a hS
                  refine L_go hS rfl rfl (s_e hS (e_move rfl) rfl ?_); clear hS a; intro a hS
                  refine L_go hS rfl rfl (s_e hS (e_ixN rfl rfl ty_sl84 ty_sz94 (by omega)) rfl ?_); clear hS a; intro a hS
                  first | (refine L_go hS rfl rfl (s_e hS (e_fa0 rfl ty_fo94_1) rfl ?_); clear hS a; intro a hS) | (refine L_go hS rfl rfl (s_e hS (e_faK rfl ty_fo94_1) rfl ?_); clear hS a; intro a hS)
                  refine L_go hS rfl rfl (s_e hS (e_loadC rfl ty_sc3 (fun w hh => own_get (enc := encR) (fun _ => rfl) (by repeat constructor) hx w hh 1 (.int .i64 x.2.1) rfl)) rfl ?_); clear hS a; intro a hS
                  refine L_go hS rfl rfl (s_e hS (e_move rfl) rfl ?_); clear hS a; intro a hS
                  refine L_go hS rfl rfl (s_e hS (e_bin rfl rfl rfl) rfl ?_); clear hS a; intro a hS
                  first | (refine L_op (s_e hS (e_pick_t rfl rfl) rfl ?_); clear hS a; intro a hS) | (refine L_op (s_e hS (e_pick_f rfl rfl) rfl ?_); clear hS a; intro a hS)
                  exact hcM64 _ _ (hS.ends 12 64 53 rfl (congrArg Value.bool (by first | rfl | (simp [hg53]; done) | (simp [hg53]; omega) | grind)) rfl rfl (by first | exact congrArg Value.bool (decide_eq_true hg53).symm | exact congrArg Value.bool hg53.symm | simp [hg53]) rfl)
                ·
                  refine L_skip_t hS rfl rfl rfl ?_; clear hS a; intro a hS
                  refine L_skip_t hS rfl rfl rfl ?_; clear hS a; intro a hS
                  refine L_skip_t hS rfl rfl rfl ?_; clear hS a; intro a hS
                  refine L_skip_t hS rfl rfl rfl ?_; clear hS a; intro a hS
                  refine L_skip_t hS rfl rfl rfl ?_; clear hS a; intro a hS
                  refine L_skip_t hS rfl rfl rfl ?_; clear hS a; intro a hS
                  refine L_skip_t hS rfl rfl rfl ?_; clear hS a; intro a hS
                  refine L_skip_t hS rfl rfl rfl ?_; clear hS a; intro a hS
                  refine L_skip_t hS rfl rfl rfl ?_; clear hS a; intro a hS
                  refine L_skip_t hS rfl rfl rfl ?_; clear hS a; intro a hS
                  first | (refine L_op (s_e hS (e_pick_t rfl rfl) rfl ?_); clear hS a; intro a hS) | (refine L_op (s_e hS (e_pick_f rfl rfl) rfl ?_); clear hS a; intro a hS)
                  exact hcM64 _ _ (hS.ends 12 64 53 rfl (congrArg Value.bool (by first | rfl | (simp [hg53]; done) | (simp [hg53]; omega) | grind)) rfl rfl (by first | exact congrArg Value.bool (decide_eq_false hg53).symm | exact congrArg Value.bool hg53.symm | simp [hg53]) rfl)
              · clear hS a; (try clear w); intro a w hS
                simp only [List.drop_succ_cons, List.drop_zero]
                refine L_nil ?_
                refine n_then ?_
                first | refine c_ifD hS rfl (fun hc64 => ?_) (fun hc64 => ?_) | refine c_if hS rfl (fun hc64 => ?_) (fun hc64 => ?_)
                ·
                  refine c_seq ?_
                  refine c_region ?_
                  refine L_op (s_e hS (e_assign rfl) rfl ?_); clear hS a; intro a hS
                  refine L_nil ?_
                  refine n_then ?_
                  refine wp_ret ?_
                  refine r_then (r_block (r_then (r_then (r_block (r_then ?_)))))
                  refine c_ret1 hS Try.results39 (.tmp rfl) ?_
                  have hl : late rows c at_ := ⟨x, List.mem_of_getElem? hx, hc64⟩
                  have hE : refE own rows c at_ nano = 34 := by unfold refE; rw [if_neg hc22, if_neg hc33, if_pos hl]
                  exact ⟨⟨(rows, _), same (by rw [hE]; decide)⟩, by (try dsimp only); rw [hE], hS.chg, hback hS, fun b hb => .inl hb⟩
                ·
                  refine wp_skip ?_
                  refine n_then ?_
                  refine c_seq ?_
                  refine c_region ?_
                  refine L_op (s_e hS (e_move rfl) rfl ?_); clear hS a; intro a hS
                  refine L_op (s_e hS (e_nilCheck rfl) rfl ?_); clear hS a; intro a hS
                  first | (refine L_op (s_e hS (e_fa0 rfl ty_fo86_1) rfl ?_); clear hS a; intro a hS) | (refine L_op (s_e hS (e_faK rfl ty_fo86_1) rfl ?_); clear hS a; intro a hS)
                  refine L_op (s_e hS (e_load rfl (by repeat constructor) ty_sc84 (by rfl)) rfl ?_); clear hS a; intro a hS
                  refine L_op (s_e hS (e_move rfl) rfl ?_); clear hS a; intro a hS
                  refine L_op (s_e hS (e_ixN rfl rfl ty_sl84 ty_sz94 (by omega)) rfl ?_); clear hS a; intro a hS
                  first | (refine L_op (s_e hS (e_fa0 rfl ty_fo94_0) rfl ?_); clear hS a; intro a hS) | (refine L_op (s_e hS (e_faK rfl ty_fo94_0) rfl ?_); clear hS a; intro a hS)
                  refine L_op (s_e hS (e_loadC rfl ty_sc9 (fun w hh => own_get (enc := encR) (fun _ => rfl) (by repeat constructor) hx w hh 0 (.string x.1) rfl)) rfl ?_); clear hS a; intro a hS
                  refine L_op (s_e hS (e_move rfl) rfl ?_); clear hS a; intro a hS
                  refine L_op (s_e hS (e_leS rfl rfl) rfl ?_); clear hS a; intro a hS
                  refine L_nil ?_
                  refine n_then ?_
                  first | refine c_ifD hS rfl (fun hc74 => ?_) (fun hc74 => ?_) | refine c_if hS rfl (fun hc74 => ?_) (fun hc74 => ?_)
                  ·
                    refine c_region ?_
                    refine L_op (s_e hS (e_move rfl) rfl ?_); clear hS a; intro a hS
                    first | (refine L_op (s_e hS (e_binN rfl rfl rfl (by omega)) rfl ?_); clear hS a; intro a hS) | (refine L_op (s_e hS (e_bin rfl rfl rfl) rfl ?_); clear hS a; intro a hS)
                    refine L_op (s_e hS (e_assign rfl) rfl ?_); clear hS a; intro a hS
                    refine L_nil ?_
                    refine n_block ?_
                    refine n_then ?_
                    refine c_region ?_
                    refine L_op (s_e hS (e_move rfl) rfl ?_); clear hS a; intro a hS
                    first | (refine L_op (s_e hS (e_binN rfl rfl rfl (by omega)) rfl ?_); clear hS a; intro a hS) | (refine L_op (s_e hS (e_bin rfl rfl rfl) rfl ?_); clear hS a; intro a hS)
                    refine L_op (s_e hS (e_assign rfl) rfl ?_); clear hS a; intro a hS
                    refine L_nil ?_
                    first
                    | exact ⟨(i + 1, i + 1), by simp only; omega, hS.slots (by repeat (first | exact trivial | refine ⟨rfl, ?_⟩)), by simp only; omega, kOK_yes hx hc74, fun j hj y hy => by
                        by_cases e : j = i
                        · subst e; rw [hx] at hy; cases hy; exact hc64
                        · exact hno j (by simp only at hj; omega) y hy⟩
                    | exact ⟨(i + 1, k), by simp only; omega, hS.slots (by repeat (first | exact trivial | refine ⟨rfl, ?_⟩)), by simp only; omega, kOK_no hk hx (by simpa using hc74), fun j hj y hy => by
                        by_cases e : j = i
                        · subst e; rw [hx] at hy; cases hy; exact hc64
                        · exact hno j (by simp only at hj; omega) y hy⟩
                  ·
                    refine wp_skip ?_
                    refine n_block ?_
                    refine n_then ?_
                    refine c_region ?_
                    refine L_op (s_e hS (e_move rfl) rfl ?_); clear hS a; intro a hS
                    first | (refine L_op (s_e hS (e_binN rfl rfl rfl (by omega)) rfl ?_); clear hS a; intro a hS) | (refine L_op (s_e hS (e_bin rfl rfl rfl) rfl ?_); clear hS a; intro a hS)
                    refine L_op (s_e hS (e_assign rfl) rfl ?_); clear hS a; intro a hS
                    refine L_nil ?_
                    first
                    | exact ⟨(i + 1, i + 1), by simp only; omega, hS.slots (by repeat (first | exact trivial | refine ⟨rfl, ?_⟩)), by simp only; omega, kOK_yes hx hc74, fun j hj y hy => by
                        by_cases e : j = i
                        · subst e; rw [hx] at hy; cases hy; exact hc64
                        · exact hno j (by simp only at hj; omega) y hy⟩
                    | exact ⟨(i + 1, k), by simp only; omega, hS.slots (by repeat (first | exact trivial | refine ⟨rfl, ?_⟩)), by simp only; omega, kOK_no hk hx (by simpa using hc74), fun j hj y hy => by
                        by_cases e : j = i
                        · subst e; rw [hx] at hy; cases hy; exact hc64
                        · exact hno j (by simp only at hj; omega) y hy⟩
            ·
              have hE0 : ¬ late rows c at_ := fun ⟨y, hy, hyc⟩ => by
                obtain ⟨j, hj, rfl⟩ := List.mem_iff_getElem.1 hy
                exact hno j (by omega) _ (List.getElem?_eq_getElem hj) hyc
              obtain rfl : i = rows.length := by omega
              have hkl := hk.1
              refine wp_exit ?_
              refine x_then (x_then (x_hit ?_))
              refine n_then ?_
              refine c_seq ?_
              refine c_seq ?_
              refine c_region ?_
              refine L_op (s_e hS (e_move rfl) rfl ?_); clear hS a; intro a hS
              refine L_op (s_e hS (e_nilCheck rfl) rfl ?_); clear hS a; intro a hS
              first | (refine L_op (s_e hS (e_fa0 rfl ty_fo86_1) rfl ?_); clear hS a; intro a hS) | (refine L_op (s_e hS (e_faK rfl ty_fo86_1) rfl ?_); clear hS a; intro a hS)
              refine L_op (s_e hS (e_load rfl (by repeat constructor) ty_sc84 (by rfl)) rfl ?_); clear hS a; intro a hS
              refine L_op (s_e hS (e_len rfl rfl ty_sl84) rfl ?_); clear hS a; intro a hS
              refine L_op (s_e hS (e_bin rfl rfl rfl) rfl ?_); clear hS a; intro a hS
              refine L_nil ?_
              refine n_then ?_
              first | refine c_ifD hS rfl (fun hc82 => ?_) (fun hc82 => ?_) | refine c_if hS rfl (fun hc82 => ?_) (fun hc82 => ?_)
              ·
                refine c_seq ?_
                refine c_region ?_
                refine L_op (s_e hS (e_assign rfl) rfl ?_); clear hS a; intro a hS
                refine L_nil ?_
                refine n_then ?_
                refine wp_ret ?_
                refine r_then ?_
                refine c_ret1 hS Try.results39 (.tmp rfl) ?_
                have hE : refE own rows c at_ nano = 9 := by unfold refE; rw [if_neg hc22, if_neg hc33, if_neg hE0, if_pos (by omega)]
                exact ⟨⟨(rows, _), same (by rw [hE]; decide)⟩, by (try dsimp only); rw [hE], hS.chg, hback hS, fun b hb => .inl hb⟩
              ·
                refine wp_skip ?_
                refine n_then ?_
                refine c_seq ?_
                refine c_region ?_
                refine L_op (s_bslice hS ty_sl84 ty_sz94 ty_z94 rfl rfl rfl rfl .nil rfl ?_); clear hS a; (try clear w); intro a w b83 hS
                replace hS := hS.swap (X := .blk b83 [] 94) (Y := ownA 94 3 (.slice (some ⟨b83, 0, none⟩) 0 0) 0 []) (by repeat constructor) (own_empty (hS.get (X := .blk b83 [] 94) (by repeat constructor))) (fun b hb => by simpa [ownA, Asn.F, Value.ownBlock, eq_comm] using hb) rfl
                refine L_op (s_e hS (e_move rfl) rfl ?_); clear hS a; intro a hS
                refine L_op (s_e hS (e_nilCheck rfl) rfl ?_); clear hS a; intro a hS
                first | (refine L_op (s_e hS (e_fa0 rfl ty_fo86_1) rfl ?_); clear hS a; intro a hS) | (refine L_op (s_e hS (e_faK rfl ty_fo86_1) rfl ?_); clear hS a; intro a hS)
                refine L_op (s_e hS (e_load rfl (by repeat constructor) ty_sc84 (by rfl)) rfl ?_); clear hS a; intro a hS
                refine L_op (s_e hS (e_move rfl) rfl ?_); clear hS a; intro a hS
                refine L_op (s_e hS (e_slH rfl rfl ty_sl84 ty_sz94 (by omega)) rfl ?_); clear hS a; intro a hS
                refine L_op (s_appendQ hS rfl rfl ty_sl84 ty_sz94 ty_by94 ty_z94 rfl rfl rfl (by repeat constructor) (by rw [flat_len encR 3 (fun _ => rfl), List.length_take, Nat.min_eq_left hkl]) (own_head (hS.get (X := ownA 94 3 (.slice q rows.length cq) rows.length (rows.flatMap encR)) (by repeat constructor)) (fun _ => rfl) hkl) (hone _) (by omega) (fun _ => (by repeat constructor)) ?_); clear hS a; (try clear w); intro v90 a w hv90 hS
                refine L_op (s_e hS (e_assign rfl) rfl ?_); clear hS a; intro a hS
                refine L_nil ?_
                refine n_then ?_
                refine c_seq ?_
                refine c_region ?_
                refine L_op (s_e hS (e_move rfl) rfl ?_); clear hS a; intro a hS
                refine L_op (s_e hS (e_move rfl) rfl ?_); clear hS a; intro a hS
                refine L_op (s_e hS (e_move rfl) rfl ?_); clear hS a; intro a hS
                refine L_op (s_e hS (e_move rfl) rfl ?_); clear hS a; intro a hS
                refine L_op (s_e hS (e_build ty_z94 ty_pl94 (.one rfl rfl rfl (by repeat constructor) (.one rfl rfl rfl (by repeat constructor) (.one rfl rfl rfl (by repeat constructor) .nil)))) rfl ?_); clear hS a; intro a hS
                refine L_op (s_bslice hS ty_sl84 ty_sz94 ty_z94 rfl rfl rfl rfl (.agg rfl rfl .nil) rfl ?_); clear hS a; (try clear w); intro a w b96 hS
                refine L_op (s_append1 hS rfl rfl ty_sl84 ty_sz94 ty_by94 ty_z94 rfl rfl rfl (by repeat constructor) (by repeat constructor) (by rfl) (by rfl) (fun _ => (by repeat constructor)) (by omega) ?_); clear hS a; (try clear w); intro v97 a w hv97 hS
                refine L_op (s_e hS (e_assign rfl) rfl ?_); clear hS a; intro a hS
                refine L_nil ?_
                refine n_then ?_
                refine c_seq ?_
                refine c_region ?_
                refine L_op (s_e hS (e_move rfl) rfl ?_); clear hS a; intro a hS
                refine L_op (s_e hS (e_move rfl) rfl ?_); clear hS a; intro a hS
                refine L_op (s_e hS (e_move rfl) rfl ?_); clear hS a; intro a hS
                refine L_op (s_e hS (e_nilCheck rfl) rfl ?_); clear hS a; intro a hS
                first | (refine L_op (s_e hS (e_fa0 rfl ty_fo86_1) rfl ?_); clear hS a; intro a hS) | (refine L_op (s_e hS (e_faK rfl ty_fo86_1) rfl ?_); clear hS a; intro a hS)
                refine L_op (s_e hS (e_load rfl (by repeat constructor) ty_sc84 (by rfl)) rfl ?_); clear hS a; intro a hS
                refine L_op (s_e hS (e_move rfl) rfl ?_); clear hS a; intro a hS
                refine L_op (s_e hS (e_slT rfl rfl ty_sl84 ty_sz94 (by omega)) rfl ?_); clear hS a; intro a hS
                refine L_op (s_appendQ hS rfl rfl ty_sl84 ty_sz94 ty_by94 ty_z94 rfl rfl rfl (by repeat constructor) (by rw [flat_len encR 3 (fun _ => rfl), List.length_drop]) (own_tail (hS.get (X := ownA 94 3 (.slice q rows.length cq) rows.length (rows.flatMap encR)) (by repeat constructor)) (fun _ => rfl) rfl hkl) (hone _) (by omega) (fun _ => (by repeat constructor)) ?_); clear hS a; (try clear w); intro v106 a w hv106 hS
                obtain ⟨q2, c2, rfl⟩ := own_slice (hS.get (X := ownA 94 3 v106 (0 + k + 1 + (rows.length - k)) _) (by repeat constructor))
                refine L_op (s_e hS (e_nilCheck rfl) rfl ?_); clear hS a; intro a hS
                first | (refine L_op (s_e hS (e_fa0 rfl ty_fo86_1) rfl ?_); clear hS a; intro a hS) | (refine L_op (s_e hS (e_faK rfl ty_fo86_1) rfl ?_); clear hS a; intro a hS)
                refine L_op (s_store hS rfl rfl rfl ty_sz84 (by repeat constructor) (by repeat constructor) ?_); clear hS; (try clear w); intro w hS
                refine L_nil ?_
                refine n_then ?_
                refine c_seq ?_
                refine c_region ?_
                refine L_op (s_e hS (e_assign rfl) rfl ?_); clear hS a; intro a hS
                refine L_nil ?_
                refine n_then ?_
                refine wp_ret ?_
                refine c_ret1 hS Try.results39 (.tmp rfl) ?_
                have hE : refE own rows c at_ nano = 0 := by unfold refE; rw [if_neg hc22, if_neg hc33, if_neg hE0, if_neg (by omega)]
                have hrow := hS.get (X := ownA 94 3 (.slice q2 (0 + k + 1 + (rows.length - k)) c2) (0 + k + 1 + (rows.length - k)) _) (by repeat constructor)
                have hmine := hS.mine (ownA 94 3 (.slice q2 (0 + k + 1 + (rows.length - k)) c2) (0 + k + 1 + (rows.length - k)) _) (by repeat constructor) rfl
                have e1 : (rows.take k ++ (c, at_, nano) :: rows.drop k).length = 0 + k + 1 + (rows.length - k) := by simp; omega
                refine ⟨⟨(rows.take k ++ (c, at_, nano) :: rows.drop k, .slice q2 (0 + k + 1 + (rows.length - k)) c2), .inr ⟨hE, k, hk, rfl⟩⟩, by (try dsimp only); rw [hE], hS.chg, ref_ok true ⟨hS.get (X := .blk bw [.string own, .slice q2 (0 + k + 1 + (rows.length - k)) c2] 86) (by repeat constructor), ?_⟩, ?_⟩
                · have h2 : w.ownsRow 0 94 3 (.slice q2 (0 + k + 1 + (rows.length - k)) c2) (0 + k + 1 + (rows.length - k)) _ := hrow
                  rw [e1]
                  simpa [encR] using h2
                · rintro b (hb | hb)
                  · exact .inl (.inl hb)
                  · rcases hmine b hb with h | h
                    · exact .inr h
                    · exact .inl h
end Go.Proofs.Ytheofhegdjjfgaa

namespace Go.Proofs.Ytheofhegdjjfgaa
open Go.RowKit

def rrFits (x : RR) : Prop := x.1.size ≤ 4611686018427387904 ∧ (-9223372036854775808 ≤ x.2.1 ∧ x.2.1 ≤ 9223372036854775807) ∧ (-9223372036854775808 ≤ x.2.2 ∧ x.2.2 ≤ 9223372036854775807)
def fewS (l : List RR) : Prop := l.length ≤ 60 ∧ ∀ x ∈ l, x.1.size ≤ 300
instance (l : List RR) : Decidable (fewS l) := by unfold fewS; infer_instance
set_option maxRecDepth 100000 in
theorem fxfew_P (p : Option (Nat × Nat)) (c : Nat) (l : List RR) (hlen : l.length ≤ 4611686018427387904) (hfit : ∀ x ∈ l, rrFits x) (w0 : World) (h : RowP p 3 (l.map encR) w0) (hb : ∀ q, p = some q → q.1 < w0.heap.size) :
    PureC Try.prog 13 [sliceV p l.length c] w0 (.bool (decide (fewS l))) := by
  refine c_enter [(0, sliceV p l.length c)] [rowP p 3 (l.map encR)] noB Try.func13 rfl Try.ntmps13 ⟨rfl, trivial⟩ rfl (okC (ok_rowP h hb) okN) dis1 (mineC (by rfl) mineN) ?_
  intro a hS
  refine c_seq ?_
  refine c_region ?_
  refine L_op (s_e hS (e_assign rfl) rfl ?_); clear hS a; intro a hS
  refine L_nil ?_
  refine n_then ?_
  refine c_seq ?_
  refine c_seq ?_
  refine c_region ?_
  refine L_op (s_e hS (e_assign rfl) rfl ?_); clear hS a; intro a hS
  refine L_nil ?_
  refine n_then ?_
  refine wp_block ?_
  skip
  refine c_loop (γ := Nat) (fun k a w => St 24 noB w0 a w [(3, .int .i64 (k : Int)), (0, sliceV p l.length c)] [rowP p 3 (l.map encR)] ∧ k ≤ l.length ∧ ∀ j, j < k → ∀ y, l[j]? = some y → y.1.size ≤ 300) (fun k => l.length - k) 0 ⟨hS.slots (by repeat (first | exact trivial | refine ⟨rfl, ?_⟩)), Nat.zero_le _, fun j hj => by omega⟩ ?_
  clear hS a; (try clear w); intro k a w hI
  obtain ⟨hS, hk, hno⟩ := hI
  refine c_seq ?_
  refine c_seq ?_
  refine c_region ?_
  refine L_op (s_e hS (e_move rfl) rfl ?_); clear hS a; intro a hS
  refine L_op (s_e hS (e_move rfl) rfl ?_); clear hS a; intro a hS
  refine L_op (s_e hS (e_len rfl rfl ty_sl22) rfl ?_); clear hS a; intro a hS
  refine L_op (s_e hS (e_bin rfl rfl rfl) rfl ?_); clear hS a; intro a hS
  refine L_op (s_e hS (e_move rfl) rfl ?_); clear hS a; intro a hS
  refine L_merge 3 11 (.bool (decide (k < l.length ∧ k ≤ 60))) hS ?_ ?_
  · intro hcM11
    (first | refine g_splitD (t := 8) hS rfl ?_ ?_ | refine g_split (t := 8) hS rfl ?_ ?_) <;> (clear hS; intro hg8 hS)
    ·
      refine L_go hS rfl rfl (s_e hS (e_move rfl) rfl ?_); clear hS a; intro a hS
      refine L_go hS rfl rfl (s_e hS (e_bin rfl rfl rfl) rfl ?_); clear hS a; intro a hS
      first | (refine L_op (s_e hS (e_pick_t rfl rfl) rfl ?_); clear hS a; intro a hS) | (refine L_op (s_e hS (e_pick_f rfl rfl) rfl ?_); clear hS a; intro a hS)
      exact hcM11 _ _ (hS.ends 4 11 8 rfl (congrArg Value.bool (by rw [decide_eq_decide]; omega)) rfl rfl (by first | exact congrArg Value.bool (decide_eq_true hg8).symm | exact congrArg Value.bool hg8.symm | simp [hg8]) rfl)
    ·
      refine L_skip_t hS rfl rfl rfl ?_; clear hS a; intro a hS
      refine L_skip_t hS rfl rfl rfl ?_; clear hS a; intro a hS
      first | (refine L_op (s_e hS (e_pick_t rfl rfl) rfl ?_); clear hS a; intro a hS) | (refine L_op (s_e hS (e_pick_f rfl rfl) rfl ?_); clear hS a; intro a hS)
      exact hcM11 _ _ (hS.ends 4 11 8 rfl (congrArg Value.bool (by symm; rw [decide_eq_false_iff_not]; omega)) rfl rfl (by first | exact congrArg Value.bool (decide_eq_false hg8).symm | exact congrArg Value.bool hg8.symm | simp [hg8]) rfl)
  · clear hS a; (try clear w); intro a w hS
    simp only [List.drop_succ_cons, List.drop_zero]
    refine L_nil ?_
    refine n_then ?_
    first | refine c_ifD hS rfl (fun hc11 => ?_) (fun hc11 => ?_) | refine c_if hS rfl (fun hc11 => ?_) (fun hc11 => ?_)
    ·
      obtain ⟨x, hx⟩ : ∃ x, l[k]? = some x := ⟨l[k]'hc11.1, List.getElem?_eq_getElem hc11.1⟩
      have hx' : (l.map encR)[k]? = some (encR x) := by simp [hx]
      obtain ⟨b, off, rfl⟩ := rowP_some h hx'
      have hxf := hfit x (List.mem_of_getElem? hx)
      have hxs := hxf.1
      refine wp_skip ?_
      refine n_then ?_
      refine c_seq ?_
      refine wp_block ?_
      refine c_seq ?_
      refine c_region ?_
      refine L_op (s_e hS (e_move rfl) rfl ?_); clear hS a; intro a hS
      refine L_op (s_e hS (e_move rfl) rfl ?_); clear hS a; intro a hS
      refine L_op (s_e hS (e_ixN rfl rfl ty_sl22 ty_sz24 (by omega)) rfl ?_); clear hS a; intro a hS
      first | (refine L_op (s_e hS (e_fa0 rfl ty_fo24_0) rfl ?_); clear hS a; intro a hS) | (refine L_op (s_e hS (e_faK rfl ty_fo24_0) rfl ?_); clear hS a; intro a hS)
      refine L_op (s_e hS (e_loadC rfl ty_sc9 (fun w hh => rowP_get (by repeat constructor) hx' w hh 0 (.string x.1) rfl)) rfl ?_); clear hS a; intro a hS
      refine L_op (s_e hS (e_lenS rfl rfl ty_u9) rfl ?_); clear hS a; intro a hS
      refine L_op (s_e hS (e_bin rfl rfl rfl) rfl ?_); clear hS a; intro a hS
      refine L_nil ?_
      refine n_then ?_
      first | refine c_ifD hS rfl (fun hc20 => ?_) (fun hc20 => ?_) | refine c_if hS rfl (fun hc20 => ?_) (fun hc20 => ?_)
      ·
        refine c_seq ?_
        refine c_region ?_
        refine L_op (s_e hS (e_assign rfl) rfl ?_); clear hS a; intro a hS
        refine L_nil ?_
        refine n_then ?_
        refine wp_ret ?_
        refine r_block (r_then (r_then (r_block (r_then ?_))))
        refine c_ret1 hS Try.results13 (.tmp rfl) ?_
        have hn : ¬ fewS l := fun hf => by have := hf.2 x (List.mem_of_getElem? hx); omega
        exact ⟨by rw [decide_eq_false hn], hS.chg⟩
      ·
        refine wp_skip ?_
        refine n_block ?_
        refine n_then ?_
        refine c_region ?_
        refine L_op (s_e hS (e_move rfl) rfl ?_); clear hS a; intro a hS
        first | (refine L_op (s_e hS (e_binN rfl rfl rfl (by omega)) rfl ?_); clear hS a; intro a hS) | (refine L_op (s_e hS (e_bin rfl rfl rfl) rfl ?_); clear hS a; intro a hS)
        refine L_op (s_e hS (e_assign rfl) rfl ?_); clear hS a; intro a hS
        refine L_nil ?_
        exact ⟨k + 1, by omega, hS.slots (by repeat (first | exact trivial | refine ⟨rfl, ?_⟩)), by omega, fun j hj y hy => by
        by_cases e : j = k
        · subst e; rw [hx] at hy; cases hy; omega
        · exact hno j (by omega) y hy⟩
    ·
      refine wp_exit ?_
      refine x_then (x_then (x_hit ?_))
      refine n_then ?_
      refine c_seq ?_
      refine c_region ?_
      refine L_op (s_e hS (e_move rfl) rfl ?_); clear hS a; intro a hS
      refine L_op (s_e hS (e_len rfl rfl ty_sl22) rfl ?_); clear hS a; intro a hS
      refine L_op (s_e hS (e_bin rfl rfl rfl) rfl ?_); clear hS a; intro a hS
      refine L_op (s_e hS (e_assign rfl) rfl ?_); clear hS a; intro a hS
      refine L_nil ?_
      refine n_then ?_
      refine wp_ret ?_
      refine c_ret1 hS Try.results13 (.tmp rfl) ?_
      refine ⟨?_, hS.chg⟩
      have : (l.length : Int) ≤ 60 ↔ fewS l := ⟨fun h => ⟨by omega, fun x hx => by
        obtain ⟨j, hj, rfl⟩ := List.mem_iff_getElem.1 hx
        exact hno j (by omega) _ (List.getElem?_eq_getElem hj)⟩, fun h => by have := h.1; omega⟩
      rw [decide_eq_decide.2 this]

def usd : ByteArray := ⟨#[85, 83, 68]⟩
theorem usd_scale : (scaleR usd).2 = 0 := by decide +kernel
def stepS (own : ByteArray) (st : List (ByteArray × List (Int × Int)) × Int) (x : RR) : List (ByteArray × List (Int × Int)) × Int := setR own st.1 st.2 x.1 x.2.1 x.2.2
/-- what the sets make of no rates. -/
def madeF (own : ByteArray) (l : List RR) : List (ByteArray × List (Int × Int)) × Int := l.foldl (stepS own) ([], 0)
inductive RefsOf (own : ByteArray) : List RR → List RR → Prop
  | nil : RefsOf own [] []
  | snoc {l rows rows' : List RR} {x : RR} (h : RefsOf own l rows) (hs : refStep own rows x.1 x.2.1 x.2.2 rows') : RefsOf own (l ++ [x]) rows'
theorem step_len {own c : ByteArray} {rows rows' : List RR} {at_ nano : Int} (h : refStep own rows c at_ nano rows') (hl : rows.length ≤ 500) : rows'.length ≤ 500 := by
  rcases h with ⟨_, rfl⟩ | ⟨hE, k, hk, rfl⟩
  · exact hl
  · have h5 : ¬ 500 ≤ rows.length := fun h5 => by
      unfold refE at hE
      split at hE
      · cases hE
      · split at hE
        · cases hE
        · split at hE
          · cases hE
          · cases hE
    have := hk.1
    simp; omega
structure Both where
  bk : Nat
  mb : Nat
  bw : Nat
  es : List RA
  n : Int
  rows : List RR
  v : Value
def bothA (y : Both) : Asn := .any (fun k => ratesF y.bk y.mb y.es k ∨ refF y.bw y.v k) (fun w => ratesφ y.bk y.mb usd y.es y.n w ∧ refφ y.bw usd y.rows y.v w) true
theorem both_ok {y : Both} {w : World} (h1 : (ratesA y.bk y.mb usd y.es y.n true).ok w) (h2 : (refA y.bw usd y.rows y.v true).ok w) : (bothA y).ok w :=
  ⟨fun b hb => hb.elim (h1.lt b) (h2.lt b), fun w' hw => ⟨h1.hold w' (fun b hb => hw b (.inl hb)), h2.hold w' (fun b hb => hw b (.inr hb))⟩⟩
set_option maxRecDepth 100000 in
theorem fxmade_P (p : Option (Nat × Nat)) (c : Nat) (l : List RR) (hlen : l.length ≤ 4611686018427387904) (hfit : ∀ x ∈ l, rrFits x) (w0 : World) (h : RowP p 3 (l.map encR) w0) (hb : ∀ q, p = some q → q.1 < w0.heap.size) :
    NewC Try.prog 17 [sliceV p l.length c] w0 (fun y : { y : Both // (vsT y.es, y.n) = madeF usd l ∧ RefsOf usd l y.rows } => .tuple [.pointer (some ⟨y.1.bk, 0, none⟩), .pointer (some ⟨y.1.bw, 0, none⟩)].toArray) (fun y => bothA y.1) := by
  refine c_enter [(0, sliceV p l.length c)] [rowP p 3 (l.map encR)] noB Try.func17 rfl Try.ntmps17 ⟨rfl, trivial⟩ rfl (okC (ok_rowP h hb) okN) dis1 (mineC (by rfl) mineN) ?_
  intro a hS
  refine c_seq ?_
  refine c_region ?_
  refine L_op (s_e hS (e_assign rfl) rfl ?_); clear hS a; intro a hS
  refine L_op (s_e hS (e_assign rfl) rfl ?_); clear hS a; intro a hS
  refine L_nil ?_
  refine n_then ?_
  refine c_seq ?_
  refine c_region ?_
  refine L_op (s_callN hS (.cons rfl .nil) cf37 rfl (fxNew_P usd _ usd_scale) ?_); clear hS a; (try clear w); intro x9 a w hS
  refine L_op (s_e hS (e_move rfl) rfl ?_); clear hS a; intro a hS
  refine L_op (s_e hS (e_extract rfl rfl) rfl ?_); clear hS a; intro a hS
  refine L_op (s_e hS (e_extract rfl rfl) rfl ?_); clear hS a; intro a hS
  refine L_op (s_e hS (e_assign rfl) rfl ?_); clear hS a; intro a hS
  refine L_op (s_e hS (e_assign rfl) rfl ?_); clear hS a; intro a hS
  refine L_nil ?_
  refine n_then ?_
  refine c_seq ?_
  refine c_region ?_
  refine L_op (s_e hS (e_build ty_z86 ty_pl86 (.one rfl rfl rfl (by repeat constructor) .nil)) rfl ?_); clear hS a; intro a hS
  refine L_op (s_boxA hS rfl rfl ?_); clear hS a; (try clear w); intro a w b13 hS
  refine L_op (s_e hS (e_assign rfl) rfl ?_); clear hS a; intro a hS
  refine L_nil ?_
  refine n_then ?_
  refine c_seq ?_
  refine c_seq ?_
  refine c_region ?_
  replace hS := hS.swap (X := .blk b13 [.string usd, .slice none 0 0] 86) (Y := refA b13 usd [] (.slice none 0 0) true) (by repeat constructor) (ref_ok true ⟨hS.get (X := .blk b13 [.string usd, .slice none 0 0] 86) (by repeat constructor), World.ownsRow_nil _ _ _ _⟩) (fun b hb => by rcases hb with hb | hb; exact hb; cases hb) rfl
  refine L_op (s_e hS (e_assign rfl) rfl ?_); clear hS a; intro a hS
  refine L_nil ?_
  refine n_then ?_
  refine wp_block ?_
  skip
  refine c_loop (γ := Nat × (List RA × Int) × (List RR × Value)) (fun s a w => St 60 noB w0 a w [(7, .int .i64 (s.1 : Int)), (0, sliceV p l.length c), (4, .pointer (some ⟨x9.1, 0, none⟩)), (6, .pointer (some ⟨b13, 0, none⟩))] [rowP p 3 (l.map encR), ratesA x9.1 x9.2 usd s.2.1.1 s.2.1.2 true, refA b13 usd s.2.2.1 s.2.2.2 true] ∧ s.1 ≤ l.length ∧ (vsT s.2.1.1, s.2.1.2) = madeF usd (l.take s.1) ∧ RefsOf usd (l.take s.1) s.2.2.1 ∧ s.2.2.1.length ≤ 500) (fun s => l.length - s.1) (0, ([], 0), ([], .slice none 0 0)) ⟨(hS.slots (by repeat (first | exact trivial | refine ⟨rfl, ?_⟩))).pick (by repeat (first | exact Pick.nil | (refine Pick.cons (by repeat (first | exact Rem.head | apply Rem.tail)) ?_))), Nat.zero_le _, rfl, RefsOf.nil, Nat.zero_le _⟩ ?_
  clear hS a; (try clear w); intro s a w hI
  obtain ⟨hS, hk, hm, hr, hrl⟩ := hI
  obtain ⟨k, ⟨es, n⟩, rows, v⟩ := s
  simp only at hS hk hm hr hrl ⊢
  refine c_seq ?_
  refine c_seq ?_
  refine c_region ?_
  refine L_op (s_e hS (e_move rfl) rfl ?_); clear hS a; intro a hS
  refine L_op (s_e hS (e_move rfl) rfl ?_); clear hS a; intro a hS
  refine L_op (s_e hS (e_len rfl rfl ty_sl22) rfl ?_); clear hS a; intro a hS
  refine L_op (s_e hS (e_bin rfl rfl rfl) rfl ?_); clear hS a; intro a hS
  refine L_op (s_e hS (e_move rfl) rfl ?_); clear hS a; intro a hS
  refine L_merge 3 21 (.bool (decide (k < l.length))) hS ?_ ?_
  · intro hcM21
    (first | refine g_splitD (t := 18) hS rfl ?_ ?_ | refine g_split (t := 18) hS rfl ?_ ?_) <;> (clear hS; intro hg18 hS)
    ·
      refine L_go hS rfl rfl (s_e hS (e_move rfl) rfl ?_); clear hS a; intro a hS
      refine L_go hS rfl rfl (s_e hS (e_nnil rfl ty_u32) rfl ?_); clear hS a; intro a hS
      first | (refine L_op (s_e hS (e_pick_t rfl rfl) rfl ?_); clear hS a; intro a hS) | (refine L_op (s_e hS (e_pick_f rfl rfl) rfl ?_); clear hS a; intro a hS)
      exact hcM21 _ _ (hS.ends 4 21 18 rfl (congrArg Value.bool (by rw [decide_eq_true (by omega)]; simp)) rfl rfl (by first | exact congrArg Value.bool (decide_eq_true hg18).symm | exact congrArg Value.bool hg18.symm | simp [hg18]) rfl)
    ·
      refine L_skip_t hS rfl rfl rfl ?_; clear hS a; intro a hS
      refine L_skip_t hS rfl rfl rfl ?_; clear hS a; intro a hS
      first | (refine L_op (s_e hS (e_pick_t rfl rfl) rfl ?_); clear hS a; intro a hS) | (refine L_op (s_e hS (e_pick_f rfl rfl) rfl ?_); clear hS a; intro a hS)
      exact hcM21 _ _ (hS.ends 4 21 18 rfl (congrArg Value.bool (by symm; rw [decide_eq_false_iff_not]; omega)) rfl rfl (by first | exact congrArg Value.bool (decide_eq_false hg18).symm | exact congrArg Value.bool hg18.symm | simp [hg18]) rfl)
  · clear hS a; (try clear w); intro a w hS
    simp only [List.drop_succ_cons, List.drop_zero]
    refine L_nil ?_
    refine n_then ?_
    first | refine c_ifD hS rfl (fun hc21 => ?_) (fun hc21 => ?_) | refine c_if hS rfl (fun hc21 => ?_) (fun hc21 => ?_)
    ·
      obtain ⟨x, hx⟩ : ∃ x, l[k]? = some x := ⟨l[k]'hc21, List.getElem?_eq_getElem hc21⟩
      have hx' : (l.map encR)[k]? = some (encR x) := by simp [hx]
      obtain ⟨b, off, rfl⟩ := rowP_some h hx'
      have hxf := hfit x (List.mem_of_getElem? hx)
      refine wp_skip ?_
      refine n_then ?_
      refine c_seq ?_
      refine wp_block ?_
      refine c_seq ?_
      refine c_drawS [] (by kernel_rfl) hS (sub_cons (X := rowP (some (b, off)) 3 (l.map encR)) (by repeat constructor) sub_nil) ?_; clear hS; (try clear w); intro w hS
      simp only [List.length_cons, List.length_nil, Nat.zero_add, Nat.reduceAdd, List.replicate]
      refine Z_take0 (i := 0) hS rfl want_none (e_move rfl) (listed' := [true, false, false, false, false, false, false, false, false, false, false, false, false, false, false, false, false]) rfl (by kernel_rfl) (by kernel_rfl) (by kernel_rfl) (fun _ _ _ h => h) rfl ?_; clear hS a; intro a hS
      refine Z_take0 (i := 1) hS rfl want_none (e_move rfl) (listed' := [true, true, false, false, false, false, false, false, false, false, false, false, false, false, false, false, false]) rfl (by kernel_rfl) (by kernel_rfl) (by kernel_rfl) (fun _ _ _ h => h) rfl ?_; clear hS a; intro a hS
      refine Z_take0 (i := 2) hS rfl want_none (e_move rfl) (listed' := [true, true, true, false, false, false, false, false, false, false, false, false, false, false, false, false, false]) rfl (by kernel_rfl) (by kernel_rfl) (by kernel_rfl) (fun _ _ _ h => h) rfl ?_; clear hS a; intro a hS
      refine Z_take0 (i := 3) hS rfl want_none (e_ixN rfl rfl ty_sl22 ty_sz24 (by omega)) (listed' := [true, true, true, true, false, false, false, false, false, false, false, false, false, false, false, false, false]) rfl (by kernel_rfl) (by kernel_rfl) (by kernel_rfl) (fun _ _ _ h => h) rfl ?_; clear hS a; intro a hS
      first | (refine Z_take0 (i := 4) hS rfl want_none (e_fa0 rfl ty_fo24_0) (listed' := [true, true, true, true, true, false, false, false, false, false, false, false, false, false, false, false, false]) rfl (by kernel_rfl) (by kernel_rfl) (by kernel_rfl) (fun _ _ _ h => h) rfl ?_; clear hS a; intro a hS) | (refine Z_take0 (i := 4) hS rfl want_none (e_faK rfl ty_fo24_0) (listed' := [true, true, true, true, true, false, false, false, false, false, false, false, false, false, false, false, false]) rfl (by kernel_rfl) (by kernel_rfl) (by kernel_rfl) (fun _ _ _ h => h) rfl ?_; clear hS a; intro a hS)
      refine Z_take (i := 5) hS rfl want_none (e_loadC rfl ty_sc9 (fun w hh => rowP_get (by repeat constructor) hx' w hh 0 (.string x.1) rfl)) (listed' := [true, true, true, true, true, true, false, false, false, false, false, false, false, false, false, false, false]) rfl (by kernel_rfl) (by kernel_rfl) (by kernel_rfl) (by kernel_rfl) (by kernel_rfl) (sub_cons (by repeat constructor) sub_nil) (fun _ _ _ h => h) rfl ?_; clear hS a; intro a hS
      refine Z_take0 (i := 6) hS rfl want_none (e_move rfl) (listed' := [true, true, true, true, true, true, true, false, false, false, false, false, false, false, false, false, false]) rfl (by kernel_rfl) (by kernel_rfl) (by kernel_rfl) (fun _ _ _ h => h) rfl ?_; clear hS a; intro a hS
      refine Z_take0 (i := 7) hS rfl want_none (e_move rfl) (listed' := [true, true, true, true, true, true, true, true, false, false, false, false, false, false, false, false, false]) rfl (by kernel_rfl) (by kernel_rfl) (by kernel_rfl) (fun _ _ _ h => h) rfl ?_; clear hS a; intro a hS
      refine Z_take0 (i := 8) hS rfl want_none (e_ixN rfl rfl ty_sl22 ty_sz24 (by omega)) (listed' := [true, true, true, true, true, true, true, true, true, false, false, false, false, false, false, false, false]) rfl (by kernel_rfl) (by kernel_rfl) (by kernel_rfl) (fun _ _ _ h => h) rfl ?_; clear hS a; intro a hS
      first | (refine Z_take0 (i := 9) hS rfl want_none (e_fa0 rfl ty_fo24_1) (listed' := [true, true, true, true, true, true, true, true, true, true, false, false, false, false, false, false, false]) rfl (by kernel_rfl) (by kernel_rfl) (by kernel_rfl) (fun _ _ _ h => h) rfl ?_; clear hS a; intro a hS) | (refine Z_take0 (i := 9) hS rfl want_none (e_faK rfl ty_fo24_1) (listed' := [true, true, true, true, true, true, true, true, true, true, false, false, false, false, false, false, false]) rfl (by kernel_rfl) (by kernel_rfl) (by kernel_rfl) (fun _ _ _ h => h) rfl ?_; clear hS a; intro a hS)
      refine Z_take (i := 10) hS rfl want_none (e_loadC rfl ty_sc3 (fun w hh => rowP_get (by repeat constructor) hx' w hh 1 (.int .i64 x.2.1) rfl)) (listed' := [true, true, true, true, true, true, true, true, true, true, true, false, false, false, false, false, false]) rfl (by kernel_rfl) (by kernel_rfl) (by kernel_rfl) (by kernel_rfl) (by kernel_rfl) (sub_cons (by repeat constructor) sub_nil) (fun _ _ _ h => h) rfl ?_; clear hS a; intro a hS
      refine Z_take0 (i := 11) hS rfl want_none (e_move rfl) (listed' := [true, true, true, true, true, true, true, true, true, true, true, true, false, false, false, false, false]) rfl (by kernel_rfl) (by kernel_rfl) (by kernel_rfl) (fun _ _ _ h => h) rfl ?_; clear hS a; intro a hS
      refine Z_take0 (i := 12) hS rfl want_none (e_move rfl) (listed' := [true, true, true, true, true, true, true, true, true, true, true, true, true, false, false, false, false]) rfl (by kernel_rfl) (by kernel_rfl) (by kernel_rfl) (fun _ _ _ h => h) rfl ?_; clear hS a; intro a hS
      refine Z_take0 (i := 13) hS rfl want_none (e_ixN rfl rfl ty_sl22 ty_sz24 (by omega)) (listed' := [true, true, true, true, true, true, true, true, true, true, true, true, true, true, false, false, false]) rfl (by kernel_rfl) (by kernel_rfl) (by kernel_rfl) (fun _ _ _ h => h) rfl ?_; clear hS a; intro a hS
      first | (refine Z_take0 (i := 14) hS rfl want_none (e_fa0 rfl ty_fo24_2) (listed' := [true, true, true, true, true, true, true, true, true, true, true, true, true, true, true, false, false]) rfl (by kernel_rfl) (by kernel_rfl) (by kernel_rfl) (fun _ _ _ h => h) rfl ?_; clear hS a; intro a hS) | (refine Z_take0 (i := 14) hS rfl want_none (e_faK rfl ty_fo24_2) (listed' := [true, true, true, true, true, true, true, true, true, true, true, true, true, true, true, false, false]) rfl (by kernel_rfl) (by kernel_rfl) (by kernel_rfl) (fun _ _ _ h => h) rfl ?_; clear hS a; intro a hS)
      refine Z_take (i := 15) hS rfl want_none (e_loadC rfl ty_sc3 (fun w hh => rowP_get (by repeat constructor) hx' w hh 2 (.int .i64 x.2.2) rfl)) (listed' := [true, true, true, true, true, true, true, true, true, true, true, true, true, true, true, true, false]) rfl (by kernel_rfl) (by kernel_rfl) (by kernel_rfl) (by kernel_rfl) (by kernel_rfl) (sub_cons (by repeat constructor) sub_nil) (fun _ _ _ h => h) rfl ?_; clear hS a; intro a hS
      refine Z_one (i := 16) rfl (want_none a hS.sl) (listed' := [true, true, true, true, true, true, true, true, true, true, true, true, true, true, true, true, true]) rfl (by kernel_rfl) (s_callM hS (.cons rfl (.cons rfl (.cons rfl (.cons rfl .nil)))) cf19 rfl (fxSet_P x9.1 x9.2 usd x.1 es n x.2.1 x.2.2 hxf.2.1 _ (hS.get (X := ratesA x9.1 x9.2 usd es n true) (by repeat constructor))) (fun x => (by repeat constructor)) rfl ?_); clear hS a; (try clear w); intro x40 a w hS
      refine Z_and hS (sub_cons (by repeat constructor) sub_nil) ?_
      refine Z_done (by kernel_rfl) ?_
      refine n_then ?_
      refine c_drawS [] (by kernel_rfl) hS (sub_cons (X := rowP (some (b, off)) 3 (l.map encR)) (by repeat constructor) sub_nil) ?_; clear hS; (try clear w); intro w hS
      simp only [List.length_cons, List.length_nil, Nat.zero_add, Nat.reduceAdd, List.replicate]
      refine Z_take0 (i := 0) hS rfl want_none (e_move rfl) (listed' := [true, false, false, false, false, false, false, false, false, false, false, false, false, false, false, false, false]) rfl (by kernel_rfl) (by kernel_rfl) (by kernel_rfl) (fun _ _ _ h => h) rfl ?_; clear hS a; intro a hS
      refine Z_take0 (i := 1) hS rfl want_none (e_move rfl) (listed' := [true, true, false, false, false, false, false, false, false, false, false, false, false, false, false, false, false]) rfl (by kernel_rfl) (by kernel_rfl) (by kernel_rfl) (fun _ _ _ h => h) rfl ?_; clear hS a; intro a hS
      refine Z_take0 (i := 2) hS rfl want_none (e_move rfl) (listed' := [true, true, true, false, false, false, false, false, false, false, false, false, false, false, false, false, false]) rfl (by kernel_rfl) (by kernel_rfl) (by kernel_rfl) (fun _ _ _ h => h) rfl ?_; clear hS a; intro a hS
      refine Z_take0 (i := 3) hS rfl want_none (e_ixN rfl rfl ty_sl22 ty_sz24 (by omega)) (listed' := [true, true, true, true, false, false, false, false, false, false, false, false, false, false, false, false, false]) rfl (by kernel_rfl) (by kernel_rfl) (by kernel_rfl) (fun _ _ _ h => h) rfl ?_; clear hS a; intro a hS
      first | (refine Z_take0 (i := 4) hS rfl want_none (e_fa0 rfl ty_fo24_0) (listed' := [true, true, true, true, true, false, false, false, false, false, false, false, false, false, false, false, false]) rfl (by kernel_rfl) (by kernel_rfl) (by kernel_rfl) (fun _ _ _ h => h) rfl ?_; clear hS a; intro a hS) | (refine Z_take0 (i := 4) hS rfl want_none (e_faK rfl ty_fo24_0) (listed' := [true, true, true, true, true, false, false, false, false, false, false, false, false, false, false, false, false]) rfl (by kernel_rfl) (by kernel_rfl) (by kernel_rfl) (fun _ _ _ h => h) rfl ?_; clear hS a; intro a hS)
      refine Z_take (i := 5) hS rfl want_none (e_loadC rfl ty_sc9 (fun w hh => rowP_get (by repeat constructor) hx' w hh 0 (.string x.1) rfl)) (listed' := [true, true, true, true, true, true, false, false, false, false, false, false, false, false, false, false, false]) rfl (by kernel_rfl) (by kernel_rfl) (by kernel_rfl) (by kernel_rfl) (by kernel_rfl) (sub_cons (by repeat constructor) sub_nil) (fun _ _ _ h => h) rfl ?_; clear hS a; intro a hS
      refine Z_take0 (i := 6) hS rfl want_none (e_move rfl) (listed' := [true, true, true, true, true, true, true, false, false, false, false, false, false, false, false, false, false]) rfl (by kernel_rfl) (by kernel_rfl) (by kernel_rfl) (fun _ _ _ h => h) rfl ?_; clear hS a; intro a hS
      refine Z_take0 (i := 7) hS rfl want_none (e_move rfl) (listed' := [true, true, true, true, true, true, true, true, false, false, false, false, false, false, false, false, false]) rfl (by kernel_rfl) (by kernel_rfl) (by kernel_rfl) (fun _ _ _ h => h) rfl ?_; clear hS a; intro a hS
      refine Z_take0 (i := 8) hS rfl want_none (e_ixN rfl rfl ty_sl22 ty_sz24 (by omega)) (listed' := [true, true, true, true, true, true, true, true, true, false, false, false, false, false, false, false, false]) rfl (by kernel_rfl) (by kernel_rfl) (by kernel_rfl) (fun _ _ _ h => h) rfl ?_; clear hS a; intro a hS
      first | (refine Z_take0 (i := 9) hS rfl want_none (e_fa0 rfl ty_fo24_1) (listed' := [true, true, true, true, true, true, true, true, true, true, false, false, false, false, false, false, false]) rfl (by kernel_rfl) (by kernel_rfl) (by kernel_rfl) (fun _ _ _ h => h) rfl ?_; clear hS a; intro a hS) | (refine Z_take0 (i := 9) hS rfl want_none (e_faK rfl ty_fo24_1) (listed' := [true, true, true, true, true, true, true, true, true, true, false, false, false, false, false, false, false]) rfl (by kernel_rfl) (by kernel_rfl) (by kernel_rfl) (fun _ _ _ h => h) rfl ?_; clear hS a; intro a hS)
      refine Z_take (i := 10) hS rfl want_none (e_loadC rfl ty_sc3 (fun w hh => rowP_get (by repeat constructor) hx' w hh 1 (.int .i64 x.2.1) rfl)) (listed' := [true, true, true, true, true, true, true, true, true, true, true, false, false, false, false, false, false]) rfl (by kernel_rfl) (by kernel_rfl) (by kernel_rfl) (by kernel_rfl) (by kernel_rfl) (sub_cons (by repeat constructor) sub_nil) (fun _ _ _ h => h) rfl ?_; clear hS a; intro a hS
      refine Z_take0 (i := 11) hS rfl want_none (e_move rfl) (listed' := [true, true, true, true, true, true, true, true, true, true, true, true, false, false, false, false, false]) rfl (by kernel_rfl) (by kernel_rfl) (by kernel_rfl) (fun _ _ _ h => h) rfl ?_; clear hS a; intro a hS
      refine Z_take0 (i := 12) hS rfl want_none (e_move rfl) (listed' := [true, true, true, true, true, true, true, true, true, true, true, true, true, false, false, false, false]) rfl (by kernel_rfl) (by kernel_rfl) (by kernel_rfl) (fun _ _ _ h => h) rfl ?_; clear hS a; intro a hS
      refine Z_take0 (i := 13) hS rfl want_none (e_ixN rfl rfl ty_sl22 ty_sz24 (by omega)) (listed' := [true, true, true, true, true, true, true, true, true, true, true, true, true, true, false, false, false]) rfl (by kernel_rfl) (by kernel_rfl) (by kernel_rfl) (fun _ _ _ h => h) rfl ?_; clear hS a; intro a hS
      first | (refine Z_take0 (i := 14) hS rfl want_none (e_fa0 rfl ty_fo24_2) (listed' := [true, true, true, true, true, true, true, true, true, true, true, true, true, true, true, false, false]) rfl (by kernel_rfl) (by kernel_rfl) (by kernel_rfl) (fun _ _ _ h => h) rfl ?_; clear hS a; intro a hS) | (refine Z_take0 (i := 14) hS rfl want_none (e_faK rfl ty_fo24_2) (listed' := [true, true, true, true, true, true, true, true, true, true, true, true, true, true, true, false, false]) rfl (by kernel_rfl) (by kernel_rfl) (by kernel_rfl) (fun _ _ _ h => h) rfl ?_; clear hS a; intro a hS)
      refine Z_take (i := 15) hS rfl want_none (e_loadC rfl ty_sc3 (fun w hh => rowP_get (by repeat constructor) hx' w hh 2 (.int .i64 x.2.2) rfl)) (listed' := [true, true, true, true, true, true, true, true, true, true, true, true, true, true, true, true, false]) rfl (by kernel_rfl) (by kernel_rfl) (by kernel_rfl) (by kernel_rfl) (by kernel_rfl) (sub_cons (by repeat constructor) sub_nil) (fun _ _ _ h => h) rfl ?_; clear hS a; intro a hS
      refine Z_one (i := 16) rfl (want_none a hS.sl) (listed' := [true, true, true, true, true, true, true, true, true, true, true, true, true, true, true, true, true]) rfl (by kernel_rfl) (s_callM hS (.cons rfl (.cons rfl (.cons rfl (.cons rfl .nil)))) cf39 rfl (rSet_P b13 usd x.1 rows v x.2.1 x.2.2 hrl _ (hS.get (X := refA b13 usd rows v true) (by repeat constructor))) (fun x => (by repeat constructor)) rfl ?_); clear hS a; (try clear w); intro x57 a w hS
      refine Z_and hS (sub_cons (by repeat constructor) sub_nil) ?_
      refine Z_done (by kernel_rfl) ?_
      refine n_block ?_
      refine n_then ?_
      refine c_region ?_
      refine L_op (s_e hS (e_move rfl) rfl ?_); clear hS a; intro a hS
      first | (refine L_op (s_e hS (e_binN rfl rfl rfl (by omega)) rfl ?_); clear hS a; intro a hS) | (refine L_op (s_e hS (e_bin rfl rfl rfl) rfl ?_); clear hS a; intro a hS)
      refine L_op (s_e hS (e_assign rfl) rfl ?_); clear hS a; intro a hS
      refine L_nil ?_
      have ht : l.take (k + 1) = l.take k ++ [x] := by rw [List.take_add_one, hx]; rfl
      refine ⟨(k + 1, x40.1, x57.1), by simp only; omega, hS.slots (by repeat (first | exact trivial | refine ⟨rfl, ?_⟩)), by simp only; omega, ?_, ?_, step_len x57.2 hrl⟩
      · refine x40.2.trans ?_
        unfold madeF; simp only; rw [ht, List.foldl_append]
        show _ = stepS usd (madeF usd (l.take k)) x
        rw [← hm]; rfl
      · simp only; rw [ht]; exact RefsOf.snoc hr x57.2
    ·
      refine wp_exit ?_
      refine x_then (x_then (x_hit ?_))
      refine n_then ?_
      refine c_seq ?_
      refine c_region ?_
      refine L_op (s_e hS (e_move rfl) rfl ?_); clear hS a; intro a hS
      refine L_op (s_e hS (e_move rfl) rfl ?_); clear hS a; intro a hS
      refine L_op (s_e hS (e_assign rfl) rfl ?_); clear hS a; intro a hS
      refine L_op (s_e hS (e_assign rfl) rfl ?_); clear hS a; intro a hS
      refine L_nil ?_
      refine n_then ?_
      refine wp_ret ?_
      refine c_retN hS Try.results17 (.cons (.tmp rfl) (.cons (.tmp rfl) .nil)) rfl ?_
      obtain rfl : k = l.length := by omega
      rw [List.take_length] at hm hr
      refine ⟨⟨⟨x9.1, x9.2, b13, es, n, rows, v⟩, hm, hr⟩, rfl, hS.chg, both_ok (y := ⟨x9.1, x9.2, b13, es, n, rows, v⟩) (hS.ok (ratesA x9.1 x9.2 usd es n true) (by repeat constructor)) (hS.ok (refA b13 usd rows v true) (by repeat constructor)), fun b hb => ?_⟩
      rcases hb with hb | hb
      · exact (hS.mine (ratesA x9.1 x9.2 usd es n true) (by repeat constructor) rfl b hb).resolve_right (fun h => h)
      · exact (hS.mine (refA b13 usd rows v true) (by repeat constructor) rfl b hb).resolve_right (fun h => h)
end Go.Proofs.Ytheofhegdjjfgaa

namespace Go.Proofs.Ytheofhegdjjfgaa.Open
set_option maxRecDepth 100000
open Go.ChangeShapes Go.WideShapes Go.Deep
section
variable {H : Type} {enc : TypeId × Value → H} {P : Program} {w : World} {base : Nat} {spare : Nat → Bool} {held : Bool}
theorem open_slice_fields {t e : TypeId} {fs : Array Field} {fuel : Nat} {cs : List Value} {x : DataW H × List MemPlace} (ht : P.underlying t = some (.slice e)) (he : P.underlying e = some (.struct fs))
    (hone : oneCellFields P fs = true) (hC : P.cellsOf e = fs.size) (h : DataW.trod enc P w base spare held fuel t cs = some x) :
    (cs = [.slice none 0 0] ∧ x = (.nil, [])) ∨
    ∃ (a : Addr) (len cap m : Nat) (D : Nat → DataW H) (Pl : Nat → List MemPlace), cs = [.slice (some a) len cap] ∧ base ≤ a.block ∧ len ≤ cap ∧ cap ≤ maxLen ∧ m = (if spare a.block then cap else len) ∧
      x = (.slice ((List.range len).map D) ((List.range (m - len)).map fun j => D (len + j)), MemPlace.row a (m * fs.size) ++ (List.range m).flatMap Pl) ∧
      ∀ i, i < m → ∃ (ys : List (DataW H × List MemPlace)) (n : Nat), D i = .agg (ys.map (·.1)) ∧ Pl i = ys.flatMap (·.2) ∧ ys.length = fs.size ∧
        ∀ (j : Nat) (f : Field), fs[j]? = some f → ∃ (v : Value) (y : DataW H × List MemPlace), w.cell? (a.add (i * fs.size + j)) = some v ∧ ys[j]? = some y ∧ DataW.trod enc P w base spare held n f.type [v] = some y := by
  rcases open_slice ht h with h0 | ⟨a, len, cap, m, n, D, Pl, hcs, hb, hl, hm, hmm, hx, hi⟩
  · exact .inl h0
  · refine .inr ⟨a, len, cap, m, D, Pl, hcs, hb, hl, hm, hmm, by rw [hC] at hx; exact hx, fun i him => ?_⟩
    obtain ⟨cs', hc, ht'⟩ := hi i him
    rw [hC] at hc
    obtain ⟨ys, n', hn', hy, hlen, hyl, hf⟩ := DataW.trod_struct he ht'
    obtain ⟨_, hcl, hat⟩ := World.cells?_some hc
    simp only [Prod.mk.injEq] at hy
    refine ⟨ys, n', hy.1, hy.2, hyl, fun j f hj => ?_⟩
    obtain ⟨ho, hk⟩ := hone_of hone j f hj
    have hjl : j < fs.size := (Array.getElem?_eq_some_iff.1 hj).1
    have hcell := hat j hjl
    have hv : cs'[j]? = some (cs'[j]'(by omega)) := List.getElem?_eq_getElem (by omega)
    have h1 := hf j f hj
    rw [ho, hk] at h1
    have hone' : (cs'.drop j).take 1 = [cs'[j]'(by omega)] := by
      rw [List.drop_eq_getElem_cons (by omega)]
      rfl
    rw [hone'] at h1
    have hys : ys[j]? = some (ys[j]'(by omega)) := List.getElem?_eq_getElem (by omega)
    refine ⟨_, _, ?_, hys, h1.trans hys⟩
    rw [← Go.Deep.add_add, hcell, hv]
end

section
variable {H : Type} {enc : TypeId × Value → H}
theorem weights_all {P : Program} {e : TypeId} {d : DataW H} {n : Nat} (hn : n ∈ d.weights P e) : ∀ {l : List (DataW H)}, d ∈ l → n ∈ DataW.weightsAll P e l
  | x :: r, h => by
    simp only [DataW.weightsAll, List.mem_append]
    rcases List.mem_cons.1 h with rfl | h
    · exact .inl hn
    · exact .inr (weights_all hn h)

theorem shape_lt {w : World} {b : Nat} {x : TypeId × Nat} (h : w.shape? b = some x) : b < w.heap.size := by
  unfold World.shape? at h
  by_cases hb : b < w.heap.size
  · exact hb
  · rw [Array.getElem?_eq_none (by omega)] at h; cases h

theorem add_spot {a : Addr} (h : a.spot = none) (n : Nat) : a.add n = ⟨a.block, a.off + n, none⟩ := by
  unfold Addr.add
  split
  · next h0 => subst h0; cases a; simp_all
  · rfl


theorem bytesSet : Try.prog.bytesOf 24 = 32 := by kernel_rfl
/-- a slice's outer form, as it came in. -/
theorem slice_has {W : World} {base : Nat} {t e : TypeId} {a : Addr} {len cap : Nat} (hu : Try.prog.underlying t = some (.slice e)) (h : Value.okWide Try.prog W .any base t (.slice (some a) len cap)) : a.spot = none ∧ a.block < W.heap.size := by
  unfold Value.okWide at h
  rw [hu] at h
  simp only at h
  unfold Cell.okWide at h
  rw [hu] at h
  simp only at h
  unfold Cell.ok at h
  rw [hu] at h
  simp only at h
  obtain ⟨_, _, _, hs, row, cells, hsh, _⟩ := h
  exact ⟨hs, shape_lt hsh⟩

theorem open_sets {W : World} {base : Nat} {v : Value} {d : DataW H} {pl : List MemPlace} (hval : Value.okWide Try.prog W .any base 22 v) (h : DataW.Trod enc Try.prog W 0 (fun _ => true) true 22 v d pl) (hw : ∀ n ∈ d.weights Try.prog 22, n ≤ reachBytes) :
    ∃ (p : Option (Nat × Nat)) (l : List RR) (c : Nat), v = sliceV p l.length c ∧ (p = none → c = 0) ∧ (∀ x ∈ l, rrFits x) ∧ l.length ≤ 4611686018427387904 ∧ RowP p 3 (l.map encR) W ∧ ∀ r, p = some r → r.1 < W.heap.size := by
  obtain ⟨fuel, hf⟩ := h
  have hu := Try.underlying22
  have hsl : ∃ a len cap, v = .slice a len cap := okWide_slice hu hval
  obtain ⟨a0, len0, cap0, rfl⟩ := hsl
  rcases open_slice_fields hu Try.underlying24 (by kernel_rfl) (by kernel_rfl) hf with ⟨hc, _⟩ | ⟨a, len, cap, m, D, Pl, hc, _, hl, hm, hmm, hx, hi⟩
  · simp only [Value.cells, List.cons.injEq, and_true] at hc
    rw [hc]
    exact ⟨none, [], 0, rfl, fun _ => rfl, by simp, by simp, rfl, by simp⟩
  · simp only [Value.cells, List.cons.injEq, and_true] at hc
    rw [hc] at hval ⊢
    obtain ⟨hsp, hlt⟩ := slice_has hu hval
    simp only [Prod.mk.injEq] at hx
    simp only [if_true] at hmm
    rw [hmm] at hx hi
    have each : ∀ i, i < len → ∃ x : RR, rrFits x ∧ ∀ j u, (encR x)[j]? = some u → W.cell? (a.add (i * 3 + j)) = some u := by
      intro i hil
      obtain ⟨ys, n, hD, _, hys, hfl⟩ := hi i (by omega)
      obtain ⟨v0, y0, c0, g0, t0⟩ := hfl 0 _ rfl
      obtain ⟨v1, y1, c1, g1, t1⟩ := hfl 1 _ rfl
      obtain ⟨v2, y2, c2, g2, t2⟩ := hfl 2 _ rfl
      obtain ⟨s, e0, z0, w0⟩ := DataW.trod_string Try.underlying9 t0
      obtain ⟨n1, e1, z1, w1⟩ := DataW.trod_int Try.underlying3 t1
      obtain ⟨n2, e2, z2, w2⟩ := DataW.trod_int Try.underlying3 t2
      simp only [List.cons.injEq, and_true] at e0 e1 e2
      subst e0 e1 e2
      have hs : s.size ≤ reachBytes := by
        refine hw _ ?_
        rw [hx.1]
        have h1 : s.size ∈ (D i).weights Try.prog 24 := by
          rw [hD]
          simp only [DataW.weights, Try.underlying24]
          refine DataW.weights_mem_each (j := 0) rfl (d := .lit (.string s.data.toList)) (by rw [List.getElem?_map, g0, z0]; rfl) _ ?_
          simp only [DataW.weights, List.mem_singleton]
          rfl
        have h2 := weights_all h1 (l := (List.range len).map D) (List.mem_map.2 ⟨i, List.mem_range.2 hil, rfl⟩)
        simp only [DataW.weights, hu, List.mem_cons, List.mem_append]
        exact .inr (.inl h2)
      have b1 := bounds_i64 w1
      have b2 := bounds_i64 w2
      refine ⟨⟨s, n1, n2⟩, ⟨Nat.le_trans hs (by decide), b1, b2⟩, fun j u hj => ?_⟩
      match j, hj with
      | 0, hj => cases hj; exact c0
      | 1, hj => cases hj; exact c1
      | 2, hj => cases hj; exact c2
      | (k + 3), hj => simp [encR] at hj
    have hlen : (len + (cap - len)) * 32 ≤ reachBytes := by
      have := hw ((len + (cap - len)) * Try.prog.bytesOf 24) (by rw [hx.1]; simp [DataW.weights, hu])
      rwa [bytesSet] at this
    simp only [reachBytes] at hlen
    haveI : Inhabited RR := ⟨⟨ByteArray.empty, 0, 0⟩⟩
    obtain ⟨f, hfn⟩ := choose_lt each
    refine ⟨some (a.block, a.off), (List.range len).map f, cap, ?_, by simp, ?_, by simp only [List.length_map, List.length_range]; omega, ?_, ?_⟩
    · unfold sliceV
      cases a
      simp only at hsp
      subst hsp
      simp
    · intro x hx
      obtain ⟨i, hi', rfl⟩ := List.mem_map.1 hx
      exact (hfn i (List.mem_range.1 hi')).1
    · intro i x hx j u hj
      simp only [List.getElem?_map, Option.map_eq_some_iff] at hx
      obtain ⟨y, ⟨k, hk, rfl⟩, rfl⟩ := hx
      obtain ⟨hk1, hk2⟩ := List.getElem?_eq_some_iff.1 hk
      simp only [List.length_range] at hk1
      simp only [List.getElem_range] at hk2
      subst hk2
      have := (hfn i hk1).2 j u hj
      rw [add_spot hsp] at this
      rw [← this]
      simp only [Nat.add_assoc]
    · rintro r hr
      cases hr
      exact hlt

theorem open_set {W : World} {base : Nat} {v : Value} {d : DataW H} {pl : List MemPlace} (hval : Value.okWide Try.prog W .any base 24 v) (h : DataW.Trod enc Try.prog W 0 (fun _ => true) true 24 v d pl) (hw : ∀ n ∈ d.weights Try.prog 24, n ≤ reachBytes) :
    ∃ x : RR, v = .agg (encR x).toArray ∧ rrFits x := by
  obtain ⟨v0, v1, v2, y0, y1, y2, n, rfl, hd, _, t0, t1, t2⟩ := Go.Joins.open_agg3 Try.underlying24 (by kernel_rfl) (by kernel_rfl) hval h
  obtain ⟨s, e0, z0, w0⟩ := DataW.trod_string Try.underlying9 t0
  obtain ⟨n1, e1, z1, w1⟩ := DataW.trod_int Try.underlying3 t1
  obtain ⟨n2, e2, z2, w2⟩ := DataW.trod_int Try.underlying3 t2
  simp only [List.cons.injEq, and_true] at e0 e1 e2
  subst e0 e1 e2
  have hs : s.size ≤ reachBytes := by
    refine hw _ ?_
    rw [hd]
    simp only [DataW.weights, Try.underlying24]
    refine DataW.weights_mem_each (j := 0) rfl (d := .lit (.string s.data.toList)) (by rw [z0]; rfl) _ ?_
    simp only [DataW.weights, List.mem_singleton]
    rfl
  exact ⟨⟨s, n1, n2⟩, rfl, Nat.le_trans hs (by decide), bounds_i64 w1, bounds_i64 w2⟩
end
end Go.Proofs.Ytheofhegdjjfgaa.Open

namespace Go.Proofs.Ytheofhegdjjfgaa.Open
set_option maxRecDepth 100000
open Go.ChangeShapes Go.WideShapes Go.Deep
section
variable {H : Type} {enc : TypeId × Value → H}
theorem bytesPst : Try.prog.bytesOf 63 = 32 := by kernel_rfl
theorem bytesLO : Try.prog.bytesOf 72 = 104 := by kernel_rfl
theorem one3 : Try.prog.cellsOf 3 = 1 := by kernel_rfl
theorem one9 : Try.prog.cellsOf 9 = 1 := by kernel_rfl
theorem one4 : Try.prog.cellsOf 4 = 1 := by kernel_rfl
theorem one56 : Try.prog.cellsOf 56 = 1 := by kernel_rfl
theorem four68 : Try.prog.cellsOf 68 = 4 := by kernel_rfl
theorem eight72 : Try.prog.cellsOf 72 = 8 := by kernel_rfl
theorem list8 {α : Type} {l : List α} (h : l.length = 8) : ∃ a b c d e f g i, l = [a, b, c, d, e, f, g, i] := by
  match l, h with
  | [a, b, c, d, e, f, g, i], _ => exact ⟨a, b, c, d, e, f, g, i, rfl⟩

theorem open_psts_raw {W : World} {n0 : Nat} {v : Value} {y : DataW H × List MemPlace} (h : DataW.trod enc Try.prog W 0 (fun _ => true) true n0 56 [v] = some y) (hw : ∀ n ∈ y.1.weights Try.prog 56, n ≤ reachBytes) :
    ∃ l : List Pst, PsAt v l W ∧ (∀ x ∈ l, x.fits) ∧ l.length ≤ 4611686018427387904 := by
  have hu := Try.underlying56
  rcases open_slice_fields hu Try.underlying63 (by kernel_rfl) (by kernel_rfl) h with ⟨hc, _⟩ | ⟨a, len, cap, m, D, Pl, hc, _, hl, hm, hmm, hx, hi⟩
  · simp only [List.cons.injEq, and_true] at hc
    subst hc
    exact ⟨[], .inl ⟨rfl, _, _, rfl⟩, by simp, by simp⟩
  · simp only [List.cons.injEq, and_true] at hc
    subst hc
    have hx : y.1 = _ := congrArg (·.1) hx
    simp only at hx
    simp only [if_true] at hmm
    rw [hmm] at hx hi
    have each : ∀ i, i < len → ∃ x : Pst, x.fits ∧ ∀ j u, (encP x)[j]? = some u → W.cell? (a.add (i * 3 + j)) = some u := by
      intro i hil
      obtain ⟨ys, n, hD, _, hys, hfl⟩ := hi i (by omega)
      obtain ⟨v0, y0, c0, g0, t0⟩ := hfl 0 _ rfl
      obtain ⟨v1, y1, c1, g1, t1⟩ := hfl 1 _ rfl
      obtain ⟨v2, y2, c2, g2, t2⟩ := hfl 2 _ rfl
      obtain ⟨s, e0, z0, w0⟩ := DataW.trod_string Try.underlying9 t0
      obtain ⟨n1, e1, z1, w1⟩ := DataW.trod_int Try.underlying3 t1
      obtain ⟨n2, e2, z2, w2⟩ := DataW.trod_int Try.underlying3 t2
      simp only [List.cons.injEq, and_true] at e0 e1 e2
      subst e0 e1 e2
      have hs : s.size ≤ reachBytes := by
        refine hw _ ?_
        rw [hx]
        have h1 : s.size ∈ (D i).weights Try.prog 63 := by
          rw [hD]
          simp only [DataW.weights, Try.underlying63]
          refine DataW.weights_mem_each (j := 0) rfl (d := .lit (.string s.data.toList)) (by rw [List.getElem?_map, g0, z0]; rfl) _ ?_
          simp only [DataW.weights, List.mem_singleton]
          rfl
        have h2 := weights_all h1 (l := (List.range len).map D) (List.mem_map.2 ⟨i, List.mem_range.2 hil, rfl⟩)
        simp only [DataW.weights, hu, List.mem_cons, List.mem_append]
        exact .inr (.inl h2)
      have b1 := bounds_i64 w1
      have b2 := bounds_i64 w2
      refine ⟨⟨s, n1, n2⟩, ⟨Nat.le_trans hs (by decide), b1, b2⟩, fun j u hj => ?_⟩
      match j, hj with
      | 0, hj => cases hj; exact c0
      | 1, hj => cases hj; exact c1
      | 2, hj => cases hj; exact c2
      | (k + 3), hj => simp [encP] at hj
    have hlen : (len + (cap - len)) * 32 ≤ reachBytes := by
      have := hw ((len + (cap - len)) * Try.prog.bytesOf 63) (by rw [hx]; simp [DataW.weights, hu])
      rwa [bytesPst] at this
    simp only [reachBytes] at hlen
    haveI : Inhabited Pst := ⟨⟨ByteArray.empty, 0, 0⟩⟩
    obtain ⟨f, hfn⟩ := choose_lt each
    refine ⟨(List.range len).map f, ?_, ?_, by simp only [List.length_map, List.length_range]; omega⟩
    · by_cases h0 : len = 0
      · subst h0; exact .inl ⟨rfl, _, _, rfl⟩
      · have hc0 := (hfn 0 (by omega)).2 0 _ rfl
        obtain ⟨_, _, hsh, _, hsp⟩ := World.shape?_of_cell? hc0
        have hsp : a.spot = none := by
          have e : a.add (0 * 3 + 0) = a := by unfold Addr.add; rw [if_pos (by omega)]
          rw [e] at hsp; exact hsp
        have hlt : a.block < W.heap.size := by
          have e : a.add (0 * 3 + 0) = a := by unfold Addr.add; rw [if_pos (by omega)]
          rw [e] at hsh; exact shape_lt hsh
        refine .inr ⟨a.block, a.off, cap, ?_, ?_, ?_, hlt⟩
        · intro e
          have := congrArg List.length e
          simp at this; omega
        · unfold sliceV
          cases a
          simp only at hsp
          subst hsp
          simp
        · intro i x hx j u hj
          simp only [List.getElem?_map, Option.map_eq_some_iff] at hx
          obtain ⟨y, ⟨k, hk, rfl⟩, rfl⟩ := hx
          obtain ⟨hk1, hk2⟩ := List.getElem?_eq_some_iff.1 hk
          simp only [List.length_range] at hk1
          simp only [List.getElem_range] at hk2
          subst hk2
          have := (hfn i hk1).2 j u hj
          rw [add_spot hsp] at this
          rw [← this]
          simp only [Nat.add_assoc]
    · intro x hx
      obtain ⟨i, hi', rfl⟩ := List.mem_map.1 hx
      exact (hfn i (List.mem_range.1 hi')).1

theorem open_psts {W : World} {base : Nat} {v : Value} {d : DataW H} {pl : List MemPlace} (hval : Value.okWide Try.prog W .any base 56 v) (h : DataW.Trod enc Try.prog W 0 (fun _ => true) true 56 v d pl) (hw : ∀ n ∈ d.weights Try.prog 56, n ≤ reachBytes) :
    ∃ (p : Option (Nat × Nat)) (l : List Pst) (c : Nat), v = sliceV p l.length c ∧ (∀ x ∈ l, x.fits) ∧ l.length ≤ 4611686018427387904 ∧ RowP p 3 (l.map encP) W ∧ ∀ r, p = some r → r.1 < W.heap.size := by
  obtain ⟨fuel, hf⟩ := h
  have hu := Try.underlying56
  obtain ⟨a, len, cap, rfl⟩ : ∃ a len cap, v = .slice a len cap := okWide_slice hu hval
  obtain ⟨l, hp, hfit, hl⟩ := open_psts_raw hf hw
  rcases hp with ⟨rfl, a', c', e⟩ | ⟨b, off, c, hne, e, hr, hb⟩
  · cases a with
    | none =>
      injection e with e1 e2 e3; subst e2
      exact ⟨none, [], cap, rfl, by simp, by simp, rfl, by simp⟩
    | some ad =>
      obtain ⟨hsp, hlt⟩ := slice_has hu hval
      injection e with e1 e2 e3; subst e2
      refine ⟨some (ad.block, ad.off), [], cap, ?_, by simp, by simp, fun i x hx => (by simp at hx), fun r hr => by cases hr; exact hlt⟩
      unfold sliceV
      cases ad
      simp only at hsp
      subst hsp
      rfl
  · exact ⟨some (b, off), l, c, e, hfit, hl, hr, fun r hr => by cases hr; exact hb⟩

theorem open_los {W : World} {base : Nat} {v : Value} {d : DataW H} {pl : List MemPlace} (hval : Value.okWide Try.prog W .any base 50 v) (h : DataW.Trod enc Try.prog W 0 (fun _ => true) true 50 v d pl) (hw : ∀ n ∈ d.weights Try.prog 50, n ≤ reachBytes) :
    ∃ (p : Option (Nat × Nat)) (l : List LO) (c : Nat), v = sliceV p l.length c ∧ (∀ x ∈ l, x.fits) ∧ l.length ≤ 4611686018427387904 ∧ losφ p l W ∧ ∀ r, p = some r → r.1 < W.heap.size := by
  obtain ⟨fuel, hf⟩ := h
  have hu := Try.underlying50
  have hsl : ∃ a len cap, v = .slice a len cap := okWide_slice hu hval
  obtain ⟨a0, len0, cap0, rfl⟩ := hsl
  rcases open_slice hu hf with ⟨hc, _⟩ | ⟨a, len, cap, m, n, D, Pl, hc, _, hl, hm, hmm, hx, hi⟩
  · simp only [Value.cells, List.cons.injEq, and_true] at hc
    rw [hc]
    exact ⟨none, [], 0, rfl, by simp, by simp, ⟨rfl, by simp⟩, by simp⟩
  · simp only [Value.cells, List.cons.injEq, and_true] at hc
    rw [hc] at hval ⊢
    obtain ⟨hsp, hlt⟩ := slice_has hu hval
    have hx : d = _ := congrArg (·.1) hx
    simp only at hx
    simp only [if_true] at hmm
    rw [hmm] at hx hi
    have each : ∀ i, i < len → ∃ x : LO, x.fits ∧ PsAt x.pv x.ps W ∧ ∀ j u, (encLO x)[j]? = some u → W.cell? (a.add (i * 8 + j)) = some u := by
      intro i hil
      obtain ⟨cs', hcs, htr⟩ := hi i (by omega)
      rw [eight72] at hcs
      obtain ⟨_, hcl, hat⟩ := World.cells?_some hcs
      obtain ⟨v0, v1, v2, v3, v4, v5, v6, v7, rfl⟩ := list8 hcl
      obtain ⟨ys, n', hn', hD, _, hys, hfl⟩ := DataW.trod_struct Try.underlying72 htr
      have hD : D i = .agg (ys.map (·.1)) := congrArg (·.1) hD
      have hys : ys.length = 5 := hys
      have t0 := hfl 0 ⟨ "Kind", 3, 0, false, "", "", 0⟩ rfl
      simp only at t0
      have t1 := hfl 1 ⟨ "At", 3, 1, false, "", "", 8⟩ rfl
      simp only at t1
      have t2 := hfl 2 ⟨ "A", 68, 2, false, "", "", 16⟩ rfl
      simp only at t2
      have t3 := hfl 3 ⟨ "Memo", 9, 6, false, "", "", 64⟩ rfl
      simp only at t3
      have t4 := hfl 4 ⟨ "P", 56, 7, false, "", "", 80⟩ rfl
      simp only at t4
      rw [show Try.prog.cellsOf 3 = 1 from one3] at t0
      rw [show Try.prog.cellsOf 3 = 1 from one3] at t1
      rw [show Try.prog.cellsOf 68 = 4 from four68] at t2
      rw [show Try.prog.cellsOf 9 = 1 from one9] at t3
      rw [show Try.prog.cellsOf 56 = 1 from one56] at t4
      have g0 : ys[0]? = some ys[0] := List.getElem?_eq_getElem (by omega)
      have g1 : ys[1]? = some ys[1] := List.getElem?_eq_getElem (by omega)
      have g2 : ys[2]? = some ys[2] := List.getElem?_eq_getElem (by omega)
      have g3 : ys[3]? = some ys[3] := List.getElem?_eq_getElem (by omega)
      have g4 : ys[4]? = some ys[4] := List.getElem?_eq_getElem (by omega)
      rw [g0] at t0
      rw [g1] at t1
      rw [g2] at t2
      rw [g3] at t3
      rw [g4] at t4
      change DataW.trod enc Try.prog W 0 (fun _ => true) true n' 3 [v0] = _ at t0
      change DataW.trod enc Try.prog W 0 (fun _ => true) true n' 3 [v1] = _ at t1
      change DataW.trod enc Try.prog W 0 (fun _ => true) true n' 68 [v2, v3, v4, v5] = _ at t2
      change DataW.trod enc Try.prog W 0 (fun _ => true) true n' 9 [v6] = _ at t3
      change DataW.trod enc Try.prog W 0 (fun _ => true) true n' 56 [v7] = _ at t4
      obtain ⟨zs, n2, hn2, hA, _, hzs, hfa⟩ := DataW.trod_struct Try.underlying68 t2
      have hA : ys[2].1 = .agg (zs.map (·.1)) := congrArg (·.1) hA
      have hzs : zs.length = 4 := hzs
      have u0 := hfa 0 ⟨ "Code", 9, 0, false, "", "", 0⟩ rfl
      simp only at u0
      have u1 := hfa 1 ⟨ "Cur", 9, 1, false, "", "", 16⟩ rfl
      simp only at u1
      have u2 := hfa 2 ⟨ "Kind", 3, 2, false, "", "", 32⟩ rfl
      simp only at u2
      have u3 := hfa 3 ⟨ "Monetary", 4, 3, false, "", "", 40⟩ rfl
      simp only at u3
      rw [show Try.prog.cellsOf 9 = 1 from one9] at u0
      rw [show Try.prog.cellsOf 9 = 1 from one9] at u1
      rw [show Try.prog.cellsOf 3 = 1 from one3] at u2
      rw [show Try.prog.cellsOf 4 = 1 from one4] at u3
      have k0 : zs[0]? = some zs[0] := List.getElem?_eq_getElem (by omega)
      have k1 : zs[1]? = some zs[1] := List.getElem?_eq_getElem (by omega)
      have k2 : zs[2]? = some zs[2] := List.getElem?_eq_getElem (by omega)
      have k3 : zs[3]? = some zs[3] := List.getElem?_eq_getElem (by omega)
      rw [k0] at u0
      rw [k1] at u1
      rw [k2] at u2
      rw [k3] at u3
      change DataW.trod enc Try.prog W 0 (fun _ => true) true n2 9 [v2] = _ at u0
      change DataW.trod enc Try.prog W 0 (fun _ => true) true n2 9 [v3] = _ at u1
      change DataW.trod enc Try.prog W 0 (fun _ => true) true n2 3 [v4] = _ at u2
      change DataW.trod enc Try.prog W 0 (fun _ => true) true n2 4 [v5] = _ at u3
      obtain ⟨n0, e0, z0, w0⟩ := DataW.trod_int Try.underlying3 t0
      obtain ⟨n1, e1, z1, w1⟩ := DataW.trod_int Try.underlying3 t1
      obtain ⟨s6, e6, z6, w6⟩ := DataW.trod_string Try.underlying9 t3
      obtain ⟨s2, e2, z2, w2⟩ := DataW.trod_string Try.underlying9 u0
      obtain ⟨s3, e3, z3, w3⟩ := DataW.trod_string Try.underlying9 u1
      obtain ⟨n4, e4, z4, w4⟩ := DataW.trod_int Try.underlying3 u2
      obtain ⟨b5, e5, z5⟩ := DataW.trod_bool Try.underlying4 u3
      simp only [List.cons.injEq, and_true] at e0 e1 e2 e3 e4 e5 e6
      subst e0 e1 e2 e3 e4 e5 e6
      have lift : ∀ (k : Nat), k ∈ (D i).weights Try.prog 72 → k ≤ reachBytes := fun k h1 => by
        refine hw _ ?_
        rw [hx]
        have h2 := weights_all h1 (l := (List.range len).map D) (List.mem_map.2 ⟨i, List.mem_range.2 hil, rfl⟩)
        simp only [DataW.weights, hu, List.mem_cons, List.mem_append]
        exact .inr (.inl h2)
      have liftA : ∀ (k : Nat), k ∈ (ys[2].1).weights Try.prog 68 → k ≤ reachBytes := fun k h1 => lift k (by
        rw [hD]
        simp only [DataW.weights, Try.underlying72]
        exact DataW.weights_mem_each (j := 2) rfl (d := ys[2].1) (by rw [List.getElem?_map, g2]; rfl) _ h1)
      have hs6 : s6.size ≤ reachBytes := lift _ (by
        rw [hD]
        simp only [DataW.weights, Try.underlying72]
        refine DataW.weights_mem_each (j := 3) rfl (d := .lit (.string s6.data.toList)) (by rw [List.getElem?_map, g3, z6]; rfl) _ ?_
        simp only [DataW.weights, List.mem_singleton]
        rfl)
      have hs2 : s2.size ≤ reachBytes := liftA _ (by
        rw [hA]
        simp only [DataW.weights, Try.underlying68]
        refine DataW.weights_mem_each (j := 0) rfl (d := .lit (.string s2.data.toList)) (by rw [List.getElem?_map, k0, z2]; rfl) _ ?_
        simp only [DataW.weights, List.mem_singleton]
        rfl)
      have hs3 : s3.size ≤ reachBytes := liftA _ (by
        rw [hA]
        simp only [DataW.weights, Try.underlying68]
        refine DataW.weights_mem_each (j := 1) rfl (d := .lit (.string s3.data.toList)) (by rw [List.getElem?_map, k1, z3]; rfl) _ ?_
        simp only [DataW.weights, List.mem_singleton]
        rfl)
      obtain ⟨l7, a7, b7, m7⟩ := open_psts_raw t4 (fun k hk => lift k (by
        rw [hD]
        simp only [DataW.weights, Try.underlying72]
        exact DataW.weights_mem_each (j := 4) rfl (d := ys[4].1) (by rw [List.getElem?_map, g4]; rfl) _ hk))
      refine ⟨⟨n0, n1, ⟨s2, s3, n4, b5⟩, s6, l7, v7⟩, ⟨bounds_i64 w1, Nat.le_trans hs2 (by decide), Nat.le_trans hs3 (by decide), Nat.le_trans hs6 (by decide), ⟨b7, m7⟩⟩, a7, fun j u hj => ?_⟩
      have hjl : j < 8 := (List.getElem?_eq_some_iff.1 hj).1
      rw [← add_add, hat j hjl]
      exact hj
    have hlen : (len + (cap - len)) * 104 ≤ reachBytes := by
      have := hw ((len + (cap - len)) * Try.prog.bytesOf 72) (by rw [hx]; simp [DataW.weights, hu])
      rwa [bytesLO] at this
    simp only [reachBytes] at hlen
    haveI : Inhabited LO := ⟨⟨0, 0, noAcc, ByteArray.empty, [], .nilFunc⟩⟩
    obtain ⟨f, hfn⟩ := choose_lt each
    refine ⟨some (a.block, a.off), (List.range len).map f, cap, ?_, ?_, by simp only [List.length_map, List.length_range]; omega, ⟨?_, ?_⟩, ?_⟩
    · unfold sliceV
      cases a
      simp only at hsp
      subst hsp
      simp
    · intro x hx
      obtain ⟨i, hi', rfl⟩ := List.mem_map.1 hx
      exact (hfn i (List.mem_range.1 hi')).1
    · intro i x hx j u hj
      simp only [List.getElem?_map, Option.map_eq_some_iff] at hx
      obtain ⟨y, ⟨k, hk, rfl⟩, rfl⟩ := hx
      obtain ⟨hk1, hk2⟩ := List.getElem?_eq_some_iff.1 hk
      simp only [List.length_range] at hk1
      simp only [List.getElem_range] at hk2
      subst hk2
      have := (hfn i hk1).2.2 j u hj
      rw [add_spot hsp] at this
      rw [← this]
      simp only [Nat.add_assoc]
    · intro x hx
      obtain ⟨i, hi', rfl⟩ := List.mem_map.1 hx
      exact (hfn i (List.mem_range.1 hi')).2.1
    · rintro r hr
      cases hr
      exact hlt
end
end Go.Proofs.Ytheofhegdjjfgaa.Open

namespace Go.Proofs.Ytheofhegdjjfgaa.ledgerSums
open Go.ChangeShapes Go.WideShapes Go.ChangeAt Go.RowKit Go.Joins
open Go.ChangeMaps (open_string shut_string)

theorem own : ownKnob Try.prog.godebug = none := by kernel_rfl
theorem laidOut : laidOutB Try.prog = true := by kernel_rfl

set_option maxRecDepth 100000 in
theorem lifted (os : Os) (started : os.Started) (H : Type) (enc : TypeId × Value → H) :
    ReturnsInHanded {} Try.checked os 7 .any (Rows.ledgerSumsSpec.pre6 enc Try.prog Try.f7 Rows.ledgerSumsRow.domain false) (Rows.ledgerSumsSpec.post enc Try.prog Try.f7 false true false false) := by
  refine returnsInHanded_of_change_sized (C := Try.checked) own started (by kernel_rfl) Try.func7
    (ChangeSpec.witness6 (enc := enc) (C := Try.checked) false ⟨#[], #[.slice none 0 0, .int .i64 0], []⟩ 8 (by kernel_rfl) (by kernel_rfl) (by kernel_rfl) (by kernel_rfl)) ?_
  intro W base args ds gs before hval0 hW hcnd hsz0 _
  have hval : ∀ (j : Nat) t v, Try.f7.params[j]? = some t → args[j]? = some v → Value.okWide Try.prog W .any base t v := hval0
  have hW' := hW
  obtain ⟨p, q, hA0, hV, rfl, hfz, hnd⟩ := hW
  have hsz : (DataW.weightsEach Try.prog (Try.f7.params.toList ++ Rows.ledgerSumsSpec.plain.varTypes Try.prog) (ds ++ gs)).all (· ≤ reachBytes) = true := hsz0
  have hA : DataW.TrodAll enc Try.prog W 0 (fun _ => true) true Try.f7.params.toList args.toList ds p := hA0
  rw [Try.params7] at hA hval hsz
  obtain ⟨v0, vs0, d0, ds0, p0, q0, hargs, rfl, rfl, h0, r0⟩ := trodAll_cons hA
  obtain ⟨v1, vs1, d1, ds1, p1, q1, rfl, rfl, rfl, h1, r1⟩ := trodAll_cons r0
  obtain ⟨rfl, rfl, rfl⟩ := trodAll_nil r1
  obtain rfl : args = #[v0, v1] := by cases args; simp_all
  obtain ⟨rfl, rfl⟩ := trodVars_none hV
  have k0 := h0
  have lt0 : ∀ x ∈ p0, x.block < W.heap.size := by obtain ⟨m, hm⟩ := k0; exact DataW.trod_lt m _ _ _ hm
  have z0 : ∀ n ∈ d0.weights Try.prog 50, n ≤ reachBytes := fun n hn => by simpa using List.all_eq_true.1 hsz n (DataW.weights_mem_each (j := 0) (t := 50) (d := d0) rfl rfl n hn)
  obtain ⟨s0, l0, c0, rfl, f0, m0, e0, g0⟩ := Open.open_los (hval 0 50 v0 rfl rfl) h0 z0
  have k1 := h1
  have lt1 : ∀ x ∈ p1, x.block < W.heap.size := by obtain ⟨m, hm⟩ := k1; exact DataW.trod_lt m _ _ _ hm
  obtain ⟨a1, rfl, rfl, rfl, w1⟩ := open_int Try.underlying3 (hval 1 3 v1 rfl rfl) h1
  have b1 := bounds_i64 w1
  have hw := LedgerSums_P s0 c0 l0 m0 f0 a1 W e0 g0
  clear hA0 hval0
  refine hw.mono fun e W' ⟨he, hchg⟩ => ?_
  have bel := hchg.below
  subst he
  exact ⟨_, rfl, _, _, _, [], _, [], hW', trodAll_mk1 (shut_bool Try.underlying4 _), (trodAll_cons_mk (Below.trod laidOut (by kernel_rfl) (of_decide_eq_true (by kernel_rfl)) k0 bel lt0) (trodAll_cons_mk (Below.trod laidOut (by kernel_rfl) (of_decide_eq_true (by kernel_rfl)) k1 bel lt1) trodAll_mk0)), rfl, bel.frame _, fun h => by cases h⟩

theorem over : Rows.ledgerSumsRow.holds Try.pinned (OpenSpec.ofChange Rows.ledgerSumsSpec) :=
  OpenClaim.holds_of_wide 7 Try.f7 rfl rfl rfl rfl rfl rfl rfl ⟨rfl, rfl, rfl, rfl, rfl⟩ rfl rfl rfl rfl rfl (by kernel_rfl) Try.func7 (by kernel_rfl)
    (of_decide_eq_true (by kernel_rfl)) (by unfold Func.isWrapper; first | (rw [if_pos (by decide +kernel)]; kernel_rfl) | (rw [if_neg (by decide +kernel)]; exact ⟨rfl, rfl⟩))
    (fun os started H enc _ => lifted os started H enc)

theorem proved : Rows.LedgerSumsSaid := over
end Go.Proofs.Ytheofhegdjjfgaa.ledgerSums
