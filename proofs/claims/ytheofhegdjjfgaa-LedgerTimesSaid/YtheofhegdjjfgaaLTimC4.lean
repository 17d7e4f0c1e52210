/- LedgerTimes: for every argument the law returns true, and each argument reads afterwards as it read before. No conditions. (text 4 of 6) -/
import Derived.Test.YtheofhegdjjfgaaLTimC3
import Derived.ChangeKeysEq
namespace Go.Proofs.Ytheofhegdjjfgaa
open Go.RowKit

theorem get_at {α : Type} {A X R zs : List α} {p t : Nat} {x : α} (hz : zs = A ++ (X ++ R)) (hp : p = A.length) (hx : X[t]? = some x) : zs[p + t]? = some x := by
  have ht := (List.getElem?_eq_some_iff.1 hx).1
  rw [hz, hp, List.getElem?_append_right (by omega), Nat.add_sub_cancel_left, List.getElem?_append_left ht]; exact hx
/-- where the two pieces are looked at. -/
def cutR (P Q md lo hi : Nat) : Prop := (md < P ∧ lo = md - Q ∧ hi = md) ∨ (P ≤ md ∧ lo = 0 ∧ hi = P)
theorem cut_ok {X Y : List EA} (hX : X.Pairwise ltE) (hY : Y.Pairwise ltE) {md lo hi u : Nat} (hmd : md = (X.length + Y.length) / 2) (hlh : cutR X.length Y.length md lo hi) (h1 : lo ≤ u) (h2 : u ≤ hi)
    (hL : ∀ t x y, lo ≤ t → t < u → X[t]? = some x → Y[md - 1 - t]? = some y → ¬ y.v.at_ < x.v.at_) (hH : ∀ t x y, u ≤ t → t < hi → X[t]? = some x → Y[md - 1 - t]? = some y → y.v.at_ < x.v.at_) : CutOk X Y u (md - u) := by
  unfold cutR at hlh
  refine ⟨by omega, by omega, fun x hx y hy => ?_, fun x hx y hy => ?_⟩
  · obtain ⟨i, hi1, hgx⟩ := mem_take_get hx
    obtain ⟨j, hj1, hgy⟩ := mem_drop_get hy
    have hjl := (List.getElem?_eq_some_iff.1 hgy).1
    have hx' : X[u - 1]? = some (X[u - 1]'(by omega)) := List.getElem?_eq_getElem (by omega)
    have hy' : Y[md - 1 - (u - 1)]? = some (Y[md - 1 - (u - 1)]'(by omega)) := List.getElem?_eq_getElem (by omega)
    have q1 := hL (u - 1) _ _ (by omega) (by omega) hx' hy'
    have q2 := srt_le hX hgx hx' (by omega)
    have q3 := srt_le hY hy' hgy (by omega)
    omega
  · obtain ⟨i, hi1, hgx⟩ := mem_drop_get hx
    obtain ⟨j, hj1, hgy⟩ := mem_take_get hy
    have hil := (List.getElem?_eq_some_iff.1 hgx).1
    have hx' : X[u]? = some (X[u]'(by omega)) := List.getElem?_eq_getElem (by omega)
    have hy' : Y[md - 1 - u]? = some (Y[md - 1 - u]'(by omega)) := List.getElem?_eq_getElem (by omega)
    have q1 := hH u _ _ (by omega) (by omega) hx' hy'
    have q2 := srt_le hX hx' hgx (by omega)
    have q3 := srt_le hY hgy hy' (by omega)
    omega

/-- merging in place, of at most so many. -/
def SymmAt (g n c N : Nat) : Prop := ∀ (p m e : Nat) (A X Y B zs : List EA), zs = A ++ (X ++ (Y ++ B)) → X.length ≠ 0 → Y.length ≠ 0 → X.Pairwise ltE → Y.Pairwise ltE → Cross X Y → p = A.length → m = p + X.length → e = m + Y.length → X.length + Y.length ≤ N → zs.length = n → ∀ w0, (ownA 58 4 (.slice (some ⟨g, 0, none⟩) n c) n ((zs).flatMap encE)).ok w0 →
    MutC Try.prog 114 [.slice (some ⟨g, 0, none⟩) n c, .int .i64 (p : Int), .int .i64 (m : Int), .int .i64 (e : Int), cmpV] w0 (ownA 58 4 (.slice (some ⟨g, 0, none⟩) n c) n ((zs).flatMap encE)) (fun _ : { S // IsS (X ++ Y) S } => .tuple #[]) (fun S => (ownA 58 4 (.slice (some ⟨g, 0, none⟩) n c) n ((A ++ (S.1 ++ B)).flatMap encE)))

set_option maxHeartbeats 4000000 in
set_option maxRecDepth 100000 in
theorem symm_step (g n c N : Nat) (hN : n ≤ 1000000) (ih : SymmAt g n c N) : SymmAt g n c (N + 1) := by
  intro p m e A X Y B zs hz hX0 hY0 hX hY hc hp hm he hNl hn w0 h
  have hnn : p + X.length + Y.length + B.length = n := by rw [← hn, hz]; simp only [List.length_append]; omega
  have hzY : zs = (A ++ X) ++ (Y ++ B) := by rw [hz, List.append_assoc]
  have hAX : m = (A ++ X).length := by rw [List.length_append]; omega
  obtain ⟨md, hmd⟩ : ∃ md, md = (X.length + Y.length) / 2 := ⟨_, rfl⟩
  refine c_enter [(0, .slice (some ⟨g, 0, none⟩) n c), (1, .int .i64 (p : Int)), (2, .int .i64 (m : Int)), (3, .int .i64 (e : Int)), (4, cmpV)] [(ownA 58 4 (.slice (some ⟨g, 0, none⟩) n c) n ((zs).flatMap encE))] (ownA 58 4 (.slice (some ⟨g, 0, none⟩) n c) n ((zs).flatMap encE)).F Try.func114 rfl Try.ntmps114 ⟨rfl, rfl, rfl, rfl, rfl, trivial⟩ rfl (okC h okN) dis1 (mineO (fun _ hb => hb) mineN) ?_
  intro a hS
  refine c_seq ?_
  refine c_seq ?_
  refine c_region ?_
  refine L_op (s_e hS (e_move rfl) rfl ?_); clear hS a; intro a hS
  refine L_op (s_e hS (e_move rfl) rfl ?_); clear hS a; intro a hS
  first | (refine L_op (s_e hS (e_binN rfl rfl rfl (by omega)) rfl ?_); clear hS a; intro a hS) | (refine L_op (s_e hS (e_bin rfl rfl rfl) rfl ?_); clear hS a; intro a hS)
  rw [show (m : Int) - (p : Int) = (X.length : Int) from by omega] at hS
  refine L_op (s_e hS (e_bin rfl rfl rfl) rfl ?_); clear hS a; intro a hS
  refine L_nil ?_
  refine n_then ?_
  first | refine c_ifD hS rfl (fun hc28 => ?_) (fun hc28 => ?_) | refine c_if hS rfl (fun hc28 => ?_) (fun hc28 => ?_)
  ·
    have hX1 : X.length = 1 := by omega
    obtain ⟨x, rfl⟩ : ∃ x, X = [x] := by
      match X, hX1 with
      | [x], _ => exact ⟨x, rfl⟩
    have hm1 : m = p + 1 := hm
    refine c_seq ?_
    refine c_region ?_
    refine L_op (s_e hS (e_move rfl) rfl ?_); clear hS a; intro a hS
    refine L_op (s_e hS (e_assign rfl) rfl ?_); clear hS a; intro a hS
    refine L_nil ?_
    refine n_then ?_
    refine c_seq ?_
    refine c_region ?_
    refine L_op (s_e hS (e_move rfl) rfl ?_); clear hS a; intro a hS
    refine L_op (s_e hS (e_assign rfl) rfl ?_); clear hS a; intro a hS
    refine L_nil ?_
    refine n_then ?_
    refine c_seq ?_
    refine wp_block ?_
    skip
    refine c_loop (γ := Nat × Nat) (fun G a w => St 220 (ownA 58 4 (.slice (some ⟨g, 0, none⟩) n c) n ((zs).flatMap encE)).F w0 a w [(10, .int .i64 ((m + G.1 : Nat) : Int)), (11, .int .i64 ((m + G.2 : Nat) : Int)), (0, .slice (some ⟨g, 0, none⟩) n c), (1, .int .i64 (p : Int)), (4, cmpV)] [(ownA 58 4 (.slice (some ⟨g, 0, none⟩) n c) n ((zs).flatMap encE))] ∧ (G.1 ≤ G.2 ∧ G.2 ≤ Y.length) ∧ (∀ j y, j < G.1 → Y[j]? = some y → y.v.at_ < x.v.at_) ∧ ∀ j y, G.2 ≤ j → Y[j]? = some y → ¬ y.v.at_ < x.v.at_) (fun G => G.2 - G.1) (0, Y.length) ⟨by simp only; rw [Nat.add_zero, ← he]; exact (hS.slots (by repeat (first | exact trivial | refine ⟨rfl, ?_⟩))).pick (by repeat (first | exact Pick.nil | (refine Pick.cons (by repeat (first | exact Rem.head | apply Rem.tail)) ?_))), ⟨Nat.zero_le _, Nat.le_refl _⟩, fun j y hj => absurd hj (Nat.not_lt_zero j), fun j y hj hy => absurd (List.getElem?_eq_some_iff.1 hy).1 (by simp only at hj; omega)⟩ ?_
    clear hS a; (try clear w); intro G a w hI
    obtain ⟨k, l⟩ := G
    obtain ⟨hS, ⟨hkl, hlY⟩, q1, q2⟩ := hI
    simp only at hS hkl hlY q1 q2
    refine c_seq ?_
    refine c_seq ?_
    refine c_region ?_
    refine L_op (s_e hS (e_move rfl) rfl ?_); clear hS a; intro a hS
    refine L_op (s_e hS (e_move rfl) rfl ?_); clear hS a; intro a hS
    refine L_op (s_e hS (e_bin rfl rfl rfl) rfl ?_); clear hS a; intro a hS
    refine L_nil ?_
    refine n_then ?_
    first | refine c_ifD hS rfl (fun hc33 => ?_) (fun hc33 => ?_) | refine c_if hS rfl (fun hc33 => ?_) (fun hc33 => ?_)
    ·
      have hk2 : k < l := by omega
      obtain ⟨r, hr⟩ : ∃ r, r = (k + l) / 2 := ⟨_, rfl⟩
      obtain ⟨yr, hyr⟩ : ∃ y, Y[r]? = some y := ⟨Y[r]'(by omega), List.getElem?_eq_getElem (by omega)⟩
      have g1 := get_at (zs := zs) hzY hAX hyr
      have g2 : zs[p]? = some x := get_at (t := 0) (zs := zs) hz hp rfl
      refine wp_skip ?_
      refine n_then ?_
      refine wp_block ?_
      refine c_seq ?_
      refine c_region ?_
      refine L_op (s_e hS (e_move rfl) rfl ?_); clear hS a; intro a hS
      refine L_op (s_e hS (e_move rfl) rfl ?_); clear hS a; intro a hS
      first | (refine L_op (s_e hS (e_binN rfl rfl rfl (by omega)) rfl ?_); clear hS a; intro a hS) | (refine L_op (s_e hS (e_bin rfl rfl rfl) rfl ?_); clear hS a; intro a hS)
      rw [show ((m + k : Nat) : Int) + ((m + l : Nat) : Int) = ((m + k + (m + l) : Nat) : Int) from by omega] at hS
      first | (refine L_op (s_e hS (e_convN rfl ty_u3 ty_u182 (by omega)) rfl ?_); clear hS a; intro a hS) | (refine L_op (s_e hS (e_conv rfl ty_u3 ty_u182) rfl ?_); clear hS a; intro a hS)
      rw [IntWalk.u64_in _ (by omega)] at hS
      refine L_op (s_e hS (e_shr (j := 1) rfl (by decide)) rfl ?_); clear hS a; intro a hS
      rw [show ((m + k + (m + l) : Nat) : Int) / 2 ^ 1 = ((m + r : Nat) : Int) from by omega] at hS
      first | (refine L_op (s_e hS (e_convN rfl ty_u182 ty_u3 (by omega)) rfl ?_); clear hS a; intro a hS) | (refine L_op (s_e hS (e_conv rfl ty_u182 ty_u3) rfl ?_); clear hS a; intro a hS)
      refine L_op (s_e hS (e_assign rfl) rfl ?_); clear hS a; intro a hS
      refine L_nil ?_
      refine n_then ?_
      refine c_seq ?_
      refine c_drawS [] (by kernel_rfl) hS (sub_cons (X := (ownA 58 4 (.slice (some ⟨g, 0, none⟩) n c) n ((zs).flatMap encE))) (by repeat constructor) sub_nil) ?_; clear hS; (try clear w); intro w hS
      simp only [List.length_cons, List.length_nil, Nat.zero_add, Nat.reduceAdd, List.replicate]
      refine Z_take0 (i := 0) hS rfl want_none (e_move rfl) (listed' := [true, false, false, false, false, false, false, false, false, false, false]) rfl (by kernel_rfl) (by kernel_rfl) (by kernel_rfl) (fun _ _ _ h => h) rfl ?_; clear hS a; intro a hS
      refine Z_take0 (i := 1) hS rfl want_none (e_move rfl) (listed' := [true, true, false, false, false, false, false, false, false, false, false]) rfl (by kernel_rfl) (by kernel_rfl) (by kernel_rfl) (fun _ _ _ h => h) rfl ?_; clear hS a; intro a hS
      refine Z_take0 (i := 2) hS rfl want_none (e_move rfl) (listed' := [true, true, true, false, false, false, false, false, false, false, false]) rfl (by kernel_rfl) (by kernel_rfl) (by kernel_rfl) (fun _ _ _ h => h) rfl ?_; clear hS a; intro a hS
      refine Z_take0 (i := 3) hS rfl want_none (e_ixN rfl rfl ty_sl54 ty_sz58 (by omega)) (listed' := [true, true, true, true, false, false, false, false, false, false, false]) rfl (by kernel_rfl) (by kernel_rfl) (by kernel_rfl) (fun _ _ _ h => h) rfl ?_; clear hS a; intro a hS
      refine Z_take (i := 4) hS rfl want_none (e_loadAC (l := encE yr) rfl ty_st58 ty_sz58 (own_getL (enc := encE) (s := 4) (fun _ => rfl) (by repeat constructor) g1)) (listed' := [true, true, true, true, true, false, false, false, false, false, false]) rfl (by kernel_rfl) (by kernel_rfl) (by kernel_rfl) (by kernel_rfl) (by kernel_rfl) (sub_cons (by repeat constructor) sub_nil) (fun _ _ _ h => h) rfl ?_; clear hS a; intro a hS
      refine Z_take0 (i := 5) hS rfl want_none (e_move rfl) (listed' := [true, true, true, true, true, true, false, false, false, false, false]) rfl (by kernel_rfl) (by kernel_rfl) (by kernel_rfl) (fun _ _ _ h => h) rfl ?_; clear hS a; intro a hS
      refine Z_take0 (i := 6) hS rfl want_none (e_move rfl) (listed' := [true, true, true, true, true, true, true, false, false, false, false]) rfl (by kernel_rfl) (by kernel_rfl) (by kernel_rfl) (fun _ _ _ h => h) rfl ?_; clear hS a; intro a hS
      refine Z_take0 (i := 7) hS rfl want_none (e_ixN rfl rfl ty_sl54 ty_sz58 (by omega)) (listed' := [true, true, true, true, true, true, true, true, false, false, false]) rfl (by kernel_rfl) (by kernel_rfl) (by kernel_rfl) (fun _ _ _ h => h) rfl ?_; clear hS a; intro a hS
      refine Z_take (i := 8) hS rfl want_none (e_loadAC (l := encE x) rfl ty_st58 ty_sz58 (own_getL (enc := encE) (s := 4) (fun _ => rfl) (by repeat constructor) g2)) (listed' := [true, true, true, true, true, true, true, true, true, false, false]) rfl (by kernel_rfl) (by kernel_rfl) (by kernel_rfl) (by kernel_rfl) (by kernel_rfl) (sub_cons (by repeat constructor) sub_nil) (fun _ _ _ h => h) rfl ?_; clear hS a; intro a hS
      refine Z_one (i := 9) rfl (want_none a hS.sl) (listed' := [true, true, true, true, true, true, true, true, true, true, false]) rfl (by kernel_rfl) (s_callvP (cs := []) hS rfl (.cons rfl (.cons rfl .nil)) cf65 rfl (lE1_P yr x _) ?_); clear hS a; (try clear w); intro a w hS
      refine Z_and hS (sub_cons (by repeat constructor) sub_nil) ?_
      refine Z_take0 (i := 10) hS rfl want_none (e_bin rfl rfl rfl) (listed' := [true, true, true, true, true, true, true, true, true, true, true]) rfl (by kernel_rfl) (by kernel_rfl) (by kernel_rfl) (fun _ _ _ h => h) rfl ?_; clear hS a; intro a hS
      refine Z_done (by kernel_rfl) ?_
      refine n_then ?_
      first | refine c_ifD hS rfl (fun hc50 => ?_) (fun hc50 => ?_) | refine c_if hS rfl (fun hc50 => ?_) (fun hc50 => ?_)
      ·
        refine c_region ?_
        refine L_op (s_e hS (e_move rfl) rfl ?_); clear hS a; intro a hS
        first | (refine L_op (s_e hS (e_binN rfl rfl rfl (by omega)) rfl ?_); clear hS a; intro a hS) | (refine L_op (s_e hS (e_bin rfl rfl rfl) rfl ?_); clear hS a; intro a hS)
        refine L_op (s_e hS (e_assign rfl) rfl ?_); clear hS a; intro a hS
        refine L_nil ?_
        refine n_block ?_
        first
        | (have hlt : yr.v.at_ < x.v.at_ := cmpI_neg.1 hc50
           refine ⟨(r + 1, l), by simp only; omega, ?_, ⟨by simp only; omega, hlY⟩, fun j y hj hy => ?_, q2⟩
           · simp only
             rw [show ((m + (r + 1) : Nat) : Int) = ((m + r : Nat) : Int) + 1 from by omega]
             exact (hS.slots (by repeat (first | exact trivial | refine ⟨rfl, ?_⟩))).pick (by repeat (first | exact Pick.nil | (refine Pick.cons (by repeat (first | exact Rem.head | apply Rem.tail)) ?_)))
           · have := srt_le hY hy hyr (by simp only at hj; omega); omega)
        | (have hlt : ¬ yr.v.at_ < x.v.at_ := fun e => hc50 (cmpI_neg.2 e)
           refine ⟨(k, r), by simp only; omega, (hS.slots (by repeat (first | exact trivial | refine ⟨rfl, ?_⟩))).pick (by repeat (first | exact Pick.nil | (refine Pick.cons (by repeat (first | exact Rem.head | apply Rem.tail)) ?_))), ⟨by simp only; omega, by simp only; omega⟩, q1, fun j y hj hy => ?_⟩
           have := srt_le hY hyr hy (by simp only at hj; omega); omega)
      ·
        refine c_region ?_
        refine L_op (s_e hS (e_move rfl) rfl ?_); clear hS a; intro a hS
        refine L_op (s_e hS (e_assign rfl) rfl ?_); clear hS a; intro a hS
        refine L_nil ?_
        refine n_block ?_
        first
        | (have hlt : yr.v.at_ < x.v.at_ := cmpI_neg.1 hc50
           refine ⟨(r + 1, l), by simp only; omega, ?_, ⟨by simp only; omega, hlY⟩, fun j y hj hy => ?_, q2⟩
           · simp only
             rw [show ((m + (r + 1) : Nat) : Int) = ((m + r : Nat) : Int) + 1 from by omega]
             exact (hS.slots (by repeat (first | exact trivial | refine ⟨rfl, ?_⟩))).pick (by repeat (first | exact Pick.nil | (refine Pick.cons (by repeat (first | exact Rem.head | apply Rem.tail)) ?_)))
           · have := srt_le hY hy hyr (by simp only at hj; omega); omega)
        | (have hlt : ¬ yr.v.at_ < x.v.at_ := fun e => hc50 (cmpI_neg.2 e)
           refine ⟨(k, r), by simp only; omega, (hS.slots (by repeat (first | exact trivial | refine ⟨rfl, ?_⟩))).pick (by repeat (first | exact Pick.nil | (refine Pick.cons (by repeat (first | exact Rem.head | apply Rem.tail)) ?_))), ⟨by simp only; omega, by simp only; omega⟩, q1, fun j y hj hy => ?_⟩
           have := srt_le hY hyr hy (by simp only at hj; omega); omega)
    ·
      obtain rfl : k = l := by omega
      refine wp_exit ?_
      refine x_then (x_then (x_hit ?_))
      refine n_then ?_
      refine c_seq ?_
      refine c_seq ?_
      refine c_region ?_
      refine L_op (s_e hS (e_move rfl) rfl ?_); clear hS a; intro a hS
      refine L_op (s_e hS (e_assign rfl) rfl ?_); clear hS a; intro a hS
      refine L_nil ?_
      refine n_then ?_
      refine wp_block ?_
      skip
      refine c_loop (γ := Nat) (fun t a w => St 220 (ownA 58 4 (.slice (some ⟨g, 0, none⟩) n c) n ((zs).flatMap encE)).F w0 a w [(13, .int .i64 ((p + t : Nat) : Int)), (10, .int .i64 ((m + k : Nat) : Int)), (0, .slice (some ⟨g, 0, none⟩) n c)] [(ownA 58 4 (.slice (some ⟨g, 0, none⟩) n c) n (((A ++ Y.take t) ++ x :: (Y.drop t ++ B)).flatMap encE))] ∧ t ≤ k) (fun t => k - t) 0 ⟨by rw [show (A ++ Y.take 0) ++ x :: (Y.drop 0 ++ B) = zs from by rw [hz]; simp]; exact (hS.slots (by repeat (first | exact trivial | refine ⟨rfl, ?_⟩))).pick (by repeat (first | exact Pick.nil | (refine Pick.cons (by repeat (first | exact Rem.head | apply Rem.tail)) ?_))), Nat.zero_le _⟩ ?_
      clear hS a; (try clear w); intro t a w hI
      obtain ⟨hS, ht⟩ := hI
      refine c_seq ?_
      refine c_seq ?_
      refine c_region ?_
      refine L_op (s_e hS (e_move rfl) rfl ?_); clear hS a; intro a hS
      refine L_op (s_e hS (e_move rfl) rfl ?_); clear hS a; intro a hS
      first | (refine L_op (s_e hS (e_binN rfl rfl rfl (by omega)) rfl ?_); clear hS a; intro a hS) | (refine L_op (s_e hS (e_bin rfl rfl rfl) rfl ?_); clear hS a; intro a hS)
      rw [show ((m + k : Nat) : Int) - 1 = ((p + k : Nat) : Int) from by omega] at hS
      refine L_op (s_e hS (e_bin rfl rfl rfl) rfl ?_); clear hS a; intro a hS
      refine L_nil ?_
      refine n_then ?_
      first | refine c_ifD hS rfl (fun hc58 => ?_) (fun hc58 => ?_) | refine c_if hS rfl (fun hc58 => ?_) (fun hc58 => ?_)
      ·
        have htk : t < k := by omega
        obtain ⟨y, hy⟩ : ∃ y, Y[t]? = some y := ⟨Y[t]'(by omega), List.getElem?_eq_getElem (by omega)⟩
        have dy : Y.drop t = y :: Y.drop (t + 1) := by obtain ⟨_, h4⟩ := List.getElem?_eq_some_iff.1 hy; rw [← h4, List.getElem_cons_drop]
        have ty : Y.take (t + 1) = Y.take t ++ [y] := by rw [List.take_add_one, hy]; rfl
        have hAt : (A ++ Y.take t).length = p + t := by rw [List.length_append, List.length_take]; omega
        have hsw := swap_mid (A ++ Y.take t) [] (Y.drop (t + 1) ++ B) x y _ rfl
        rw [hAt] at hsw
        simp only [List.length_nil, Nat.add_zero] at hsw
        rw [show (A ++ Y.take t) ++ x :: (Y.drop t ++ B) = (A ++ Y.take t) ++ x :: ([] ++ y :: (Y.drop (t + 1) ++ B)) from by rw [dy]; rfl] at hS
        have hll : ((A ++ Y.take t) ++ x :: ([] ++ y :: (Y.drop (t + 1) ++ B))).length = n := by simp only [List.length_append, List.length_cons, List.length_nil, List.length_take, List.length_drop]; simp only [List.length_cons, List.length_nil] at hnn; omega
        generalize hL : (A ++ Y.take t) ++ x :: ([] ++ y :: (Y.drop (t + 1) ++ B)) = L at hS hsw hll
        obtain ⟨s1, s2, s3⟩ := hsw
        have s4 : (L.set (p + t) y)[p + t + 1]? = some y := by rw [List.getElem?_set_ne (by omega)]; exact s2
        refine wp_skip ?_
        refine n_then ?_
        refine c_seq ?_
        refine wp_block ?_
        refine c_drawS [15, 17] (by kernel_rfl) hS (sub_cons (X := (ownA 58 4 (.slice (some ⟨g, 0, none⟩) n c) n ((L).flatMap encE))) (by repeat constructor) sub_nil) ?_; clear hS; (try clear w); intro w hS
        simp only [List.length_cons, List.length_nil, Nat.zero_add, Nat.reduceAdd, List.replicate]
        refine Z_take0 (i := 0) hS rfl want_none (e_move rfl) (listed' := [true, false, false, false, false, false, false, false, false, false, false, false, false, false, false, false, false, false]) rfl (by kernel_rfl) (by kernel_rfl) (by kernel_rfl) (fun _ _ _ h => h) rfl ?_; clear hS a; intro a hS
        refine Z_take0 (i := 1) hS rfl want_none (e_move rfl) (listed' := [true, true, false, false, false, false, false, false, false, false, false, false, false, false, false, false, false, false]) rfl (by kernel_rfl) (by kernel_rfl) (by kernel_rfl) (fun _ _ _ h => h) rfl ?_; clear hS a; intro a hS
        refine Z_take0 (i := 2) hS rfl want_none (e_move rfl) (listed' := [true, true, true, false, false, false, false, false, false, false, false, false, false, false, false, false, false, false]) rfl (by kernel_rfl) (by kernel_rfl) (by kernel_rfl) (fun _ _ _ h => h) rfl ?_; clear hS a; intro a hS
        refine Z_take0 (i := 3) hS rfl want_none (e_move rfl) (listed' := [true, true, true, true, false, false, false, false, false, false, false, false, false, false, false, false, false, false]) rfl (by kernel_rfl) (by kernel_rfl) (by kernel_rfl) (fun _ _ _ h => h) rfl ?_; clear hS a; intro a hS
        first | (refine Z_take0 (i := 4) hS rfl want_none (e_binN rfl rfl rfl (by omega)) (listed' := [true, true, true, true, true, false, false, false, false, false, false, false, false, false, false, false, false, false]) rfl (by kernel_rfl) (by kernel_rfl) (by kernel_rfl) (fun _ _ _ h => h) rfl ?_; clear hS a; intro a hS) | (refine Z_take0 (i := 4) hS rfl want_none (e_bin rfl rfl rfl) (listed' := [true, true, true, true, true, false, false, false, false, false, false, false, false, false, false, false, false, false]) rfl (by kernel_rfl) (by kernel_rfl) (by kernel_rfl) (fun _ _ _ h => h) rfl ?_; clear hS a; intro a hS)
        rw [show ((p + t : Nat) : Int) + 1 = ((p + t + 1 : Nat) : Int) from by omega] at hS
        refine Z_take0 (i := 5) hS rfl want_none (e_move rfl) (listed' := [true, true, true, true, true, true, false, false, false, false, false, false, false, false, false, false, false, false]) rfl (by kernel_rfl) (by kernel_rfl) (by kernel_rfl) (fun _ _ _ h => h) rfl ?_; clear hS a; intro a hS
        refine Z_take0 (i := 6) hS rfl want_none (e_move rfl) (listed' := [true, true, true, true, true, true, true, false, false, false, false, false, false, false, false, false, false, false]) rfl (by kernel_rfl) (by kernel_rfl) (by kernel_rfl) (fun _ _ _ h => h) rfl ?_; clear hS a; intro a hS
        first | (refine Z_take0 (i := 7) hS rfl want_none (e_binN rfl rfl rfl (by omega)) (listed' := [true, true, true, true, true, true, true, true, false, false, false, false, false, false, false, false, false, false]) rfl (by kernel_rfl) (by kernel_rfl) (by kernel_rfl) (fun _ _ _ h => h) rfl ?_; clear hS a; intro a hS) | (refine Z_take0 (i := 7) hS rfl want_none (e_bin rfl rfl rfl) (listed' := [true, true, true, true, true, true, true, true, false, false, false, false, false, false, false, false, false, false]) rfl (by kernel_rfl) (by kernel_rfl) (by kernel_rfl) (fun _ _ _ h => h) rfl ?_; clear hS a; intro a hS)
        rw [show ((p + t : Nat) : Int) + 1 = ((p + t + 1 : Nat) : Int) from by omega] at hS
        refine Z_take0 (i := 8) hS rfl want_none (e_ixN rfl rfl ty_sl54 ty_sz58 (by omega)) (listed' := [true, true, true, true, true, true, true, true, true, false, false, false, false, false, false, false, false, false]) rfl (by kernel_rfl) (by kernel_rfl) (by kernel_rfl) (fun _ _ _ h => h) rfl ?_; clear hS a; intro a hS
        refine Z_take (i := 9) hS rfl want_none (e_loadAC (l := encE y) rfl ty_st58 ty_sz58 (own_getL (enc := encE) (s := 4) (fun _ => rfl) (by repeat constructor) s2)) (listed' := [true, true, true, true, true, true, true, true, true, true, false, false, false, false, false, false, false, false]) rfl (by kernel_rfl) (by kernel_rfl) (by kernel_rfl) (by kernel_rfl) (by kernel_rfl) (sub_cons (by repeat constructor) sub_nil) (fun _ _ _ h => h) rfl ?_; clear hS a; intro a hS
        refine Z_take0 (i := 10) hS rfl want_none (e_move rfl) (listed' := [true, true, true, true, true, true, true, true, true, true, true, false, false, false, false, false, false, false]) rfl (by kernel_rfl) (by kernel_rfl) (by kernel_rfl) (fun _ _ _ h => h) rfl ?_; clear hS a; intro a hS
        refine Z_take0 (i := 11) hS rfl want_none (e_move rfl) (listed' := [true, true, true, true, true, true, true, true, true, true, true, true, false, false, false, false, false, false]) rfl (by kernel_rfl) (by kernel_rfl) (by kernel_rfl) (fun _ _ _ h => h) rfl ?_; clear hS a; intro a hS
        refine Z_take0 (i := 12) hS rfl want_none (e_ixN rfl rfl ty_sl54 ty_sz58 (by omega)) (listed' := [true, true, true, true, true, true, true, true, true, true, true, true, true, false, false, false, false, false]) rfl (by kernel_rfl) (by kernel_rfl) (by kernel_rfl) (fun _ _ _ h => h) rfl ?_; clear hS a; intro a hS
        refine Z_take (i := 13) hS rfl want_none (e_loadAC (l := encE x) rfl ty_st58 ty_sz58 (own_getL (enc := encE) (s := 4) (fun _ => rfl) (by repeat constructor) s1)) (listed' := [true, true, true, true, true, true, true, true, true, true, true, true, true, true, false, false, false, false]) rfl (by kernel_rfl) (by kernel_rfl) (by kernel_rfl) (by kernel_rfl) (by kernel_rfl) (sub_cons (by repeat constructor) sub_nil) (fun _ _ _ h => h) rfl ?_; clear hS a; intro a hS
        refine Z_take0 (i := 14) hS rfl want_none (e_ixN rfl rfl ty_sl54 ty_sz58 (by omega)) (listed' := [true, true, true, true, true, true, true, true, true, true, true, true, true, true, true, false, false, false]) rfl (by kernel_rfl) (by kernel_rfl) (by kernel_rfl) (fun _ _ _ h => h) rfl ?_; clear hS a; intro a hS
        refine Z_one (i := 15) rfl (want_none a hS.sl) (listed' := [true, true, true, true, true, true, true, true, true, true, true, true, true, true, true, true, false, false]) rfl (by kernel_rfl) (s_storeOA (enc := encE) (s := 4) (m := n) (c := c) (v := y) (u := x) hS rfl rfl (fun _ => rfl) rfl ty_sz58 s1 hll (by repeat constructor) ?_); clear hS; (try clear w); intro w hS
        refine Z_last (by simp) ?_
        refine Z_take0 (i := 16) hS rfl want_none (e_ixN rfl rfl ty_sl54 ty_sz58 (by omega)) (listed' := [true, true, true, true, true, true, true, true, true, true, true, true, true, true, true, true, true, false]) rfl (by kernel_rfl) (by kernel_rfl) (by kernel_rfl) (fun _ _ _ h => h) rfl ?_; clear hS a; intro a hS
        refine Z_one (i := 17) rfl (want_none a hS.sl) (listed' := [true, true, true, true, true, true, true, true, true, true, true, true, true, true, true, true, true, true]) rfl (by kernel_rfl) (s_storeOA (enc := encE) (s := 4) (m := n) (c := c) (v := x) (u := y) hS rfl rfl (fun _ => rfl) rfl ty_sz58 s4 (by rw [List.length_set]; exact hll) (by repeat constructor) ?_); clear hS; (try clear w); intro w hS
        refine Z_last (by simp) ?_
        refine Z_done (by kernel_rfl) ?_
        refine n_block ?_
        refine n_then ?_
        refine c_region ?_
        refine L_op (s_e hS (e_move rfl) rfl ?_); clear hS a; intro a hS
        first | (refine L_op (s_e hS (e_binN rfl rfl rfl (by omega)) rfl ?_); clear hS a; intro a hS) | (refine L_op (s_e hS (e_bin rfl rfl rfl) rfl ?_); clear hS a; intro a hS)
        refine L_op (s_e hS (e_assign rfl) rfl ?_); clear hS a; intro a hS
        refine L_nil ?_
        rw [s3] at hS
        refine ⟨t + 1, by omega, ?_, by omega⟩
        rw [show (A ++ Y.take (t + 1)) ++ x :: (Y.drop (t + 1) ++ B) = (A ++ Y.take t) ++ y :: ([] ++ x :: (Y.drop (t + 1) ++ B)) from by rw [ty]; simp, show ((p + (t + 1) : Nat) : Int) = ((p + t : Nat) : Int) + 1 from by omega]
        exact (hS.slots (by repeat (first | exact trivial | refine ⟨rfl, ?_⟩))).pick (by repeat (first | exact Pick.nil | (refine Pick.cons (by repeat (first | exact Rem.head | apply Rem.tail)) ?_)))
      ·
        obtain rfl : t = k := by omega
        rw [show (A ++ Y.take t) ++ x :: (Y.drop t ++ B) = A ++ ((Y.take t ++ x :: Y.drop t) ++ B) from by simp] at hS
        refine wp_exit ?_
        refine x_then (x_then (x_hit ?_))
        refine n_then ?_
        refine wp_ret ?_
        refine r_then ?_
        refine c_retN hS Try.results114 .nil rfl ?_
        exact ⟨⟨Y.take t ++ x :: Y.drop t, one_left hY hc (by omega) q1 q2⟩, rfl, hS.chg, hS.ok (ownA 58 4 (.slice (some ⟨g, 0, none⟩) n c) n ((A ++ ((Y.take t ++ x :: Y.drop t) ++ B)).flatMap encE)) (by repeat constructor), fun b hb => (hS.mine (ownA 58 4 (.slice (some ⟨g, 0, none⟩) n c) n ((A ++ ((Y.take t ++ x :: Y.drop t) ++ B)).flatMap encE)) (by repeat constructor) rfl b hb).symm⟩
  ·
    have hX2 : 2 ≤ X.length := by omega
    refine wp_skip ?_
    refine n_then ?_
    refine c_seq ?_
    refine c_seq ?_
    refine c_region ?_
    refine L_op (s_e hS (e_move rfl) rfl ?_); clear hS a; intro a hS
    refine L_op (s_e hS (e_move rfl) rfl ?_); clear hS a; intro a hS
    first | (refine L_op (s_e hS (e_binN rfl rfl rfl (by omega)) rfl ?_); clear hS a; intro a hS) | (refine L_op (s_e hS (e_bin rfl rfl rfl) rfl ?_); clear hS a; intro a hS)
    rw [show (e : Int) - (m : Int) = (Y.length : Int) from by omega] at hS
    refine L_op (s_e hS (e_bin rfl rfl rfl) rfl ?_); clear hS a; intro a hS
    refine L_nil ?_
    refine n_then ?_
    first | refine c_ifD hS rfl (fun hc80 => ?_) (fun hc80 => ?_) | refine c_if hS rfl (fun hc80 => ?_) (fun hc80 => ?_)
    ·
      have hY1 : Y.length = 1 := by omega
      obtain ⟨y, rfl⟩ : ∃ y, Y = [y] := by
        match Y, hY1 with
        | [y], _ => exact ⟨y, rfl⟩
      refine c_seq ?_
      refine c_region ?_
      refine L_op (s_e hS (e_move rfl) rfl ?_); clear hS a; intro a hS
      refine L_op (s_e hS (e_assign rfl) rfl ?_); clear hS a; intro a hS
      refine L_nil ?_
      refine n_then ?_
      refine c_seq ?_
      refine c_region ?_
      refine L_op (s_e hS (e_move rfl) rfl ?_); clear hS a; intro a hS
      refine L_op (s_e hS (e_assign rfl) rfl ?_); clear hS a; intro a hS
      refine L_nil ?_
      refine n_then ?_
      refine c_seq ?_
      refine wp_block ?_
      skip
      refine c_loop (γ := Nat × Nat) (fun G a w => St 220 (ownA 58 4 (.slice (some ⟨g, 0, none⟩) n c) n ((zs).flatMap encE)).F w0 a w [(14, .int .i64 ((p + G.1 : Nat) : Int)), (15, .int .i64 ((p + G.2 : Nat) : Int)), (0, .slice (some ⟨g, 0, none⟩) n c), (2, .int .i64 (m : Int)), (4, cmpV)] [(ownA 58 4 (.slice (some ⟨g, 0, none⟩) n c) n ((zs).flatMap encE))] ∧ (G.1 ≤ G.2 ∧ G.2 ≤ X.length) ∧ (∀ j x, j < G.1 → X[j]? = some x → ¬ y.v.at_ < x.v.at_) ∧ ∀ j x, G.2 ≤ j → X[j]? = some x → y.v.at_ < x.v.at_) (fun G => G.2 - G.1) (0, X.length) ⟨by simp only; rw [Nat.add_zero, ← hm]; exact (hS.slots (by repeat (first | exact trivial | refine ⟨rfl, ?_⟩))).pick (by repeat (first | exact Pick.nil | (refine Pick.cons (by repeat (first | exact Rem.head | apply Rem.tail)) ?_))), ⟨Nat.zero_le _, Nat.le_refl _⟩, fun j x hj => absurd hj (Nat.not_lt_zero j), fun j x hj hx => absurd (List.getElem?_eq_some_iff.1 hx).1 (by simp only at hj; omega)⟩ ?_
      clear hS a; (try clear w); intro G a w hI
      obtain ⟨k, l⟩ := G
      obtain ⟨hS, ⟨hkl, hlX⟩, q1, q2⟩ := hI
      simp only at hS hkl hlX q1 q2
      refine c_seq ?_
      refine c_seq ?_
      refine c_region ?_
      refine L_op (s_e hS (e_move rfl) rfl ?_); clear hS a; intro a hS
      refine L_op (s_e hS (e_move rfl) rfl ?_); clear hS a; intro a hS
      refine L_op (s_e hS (e_bin rfl rfl rfl) rfl ?_); clear hS a; intro a hS
      refine L_nil ?_
      refine n_then ?_
      first | refine c_ifD hS rfl (fun hc85 => ?_) (fun hc85 => ?_) | refine c_if hS rfl (fun hc85 => ?_) (fun hc85 => ?_)
      ·
        have hk2 : k < l := by omega
        obtain ⟨r, hr⟩ : ∃ r, r = (k + l) / 2 := ⟨_, rfl⟩
        obtain ⟨xr, hxr⟩ : ∃ x, X[r]? = some x := ⟨X[r]'(by omega), List.getElem?_eq_getElem (by omega)⟩
        have g1 := get_at (zs := zs) hz hp hxr
        have g2 : zs[m]? = some y := get_at (t := 0) (zs := zs) hzY hAX rfl
        refine wp_skip ?_
        refine n_then ?_
        refine wp_block ?_
        refine c_seq ?_
        refine c_region ?_
        refine L_op (s_e hS (e_move rfl) rfl ?_); clear hS a; intro a hS
        refine L_op (s_e hS (e_move rfl) rfl ?_); clear hS a; intro a hS
        first | (refine L_op (s_e hS (e_binN rfl rfl rfl (by omega)) rfl ?_); clear hS a; intro a hS) | (refine L_op (s_e hS (e_bin rfl rfl rfl) rfl ?_); clear hS a; intro a hS)
        rw [show ((p + k : Nat) : Int) + ((p + l : Nat) : Int) = ((p + k + (p + l) : Nat) : Int) from by omega] at hS
        first | (refine L_op (s_e hS (e_convN rfl ty_u3 ty_u182 (by omega)) rfl ?_); clear hS a; intro a hS) | (refine L_op (s_e hS (e_conv rfl ty_u3 ty_u182) rfl ?_); clear hS a; intro a hS)
        rw [IntWalk.u64_in _ (by omega)] at hS
        refine L_op (s_e hS (e_shr (j := 1) rfl (by decide)) rfl ?_); clear hS a; intro a hS
        rw [show ((p + k + (p + l) : Nat) : Int) / 2 ^ 1 = ((p + r : Nat) : Int) from by omega] at hS
        first | (refine L_op (s_e hS (e_convN rfl ty_u182 ty_u3 (by omega)) rfl ?_); clear hS a; intro a hS) | (refine L_op (s_e hS (e_conv rfl ty_u182 ty_u3) rfl ?_); clear hS a; intro a hS)
        refine L_op (s_e hS (e_assign rfl) rfl ?_); clear hS a; intro a hS
        refine L_nil ?_
        refine n_then ?_
        refine c_seq ?_
        refine c_drawS [] (by kernel_rfl) hS (sub_cons (X := (ownA 58 4 (.slice (some ⟨g, 0, none⟩) n c) n ((zs).flatMap encE))) (by repeat constructor) sub_nil) ?_; clear hS; (try clear w); intro w hS
        simp only [List.length_cons, List.length_nil, Nat.zero_add, Nat.reduceAdd, List.replicate]
        refine Z_take0 (i := 0) hS rfl want_none (e_move rfl) (listed' := [true, false, false, false, false, false, false, false, false, false, false, false]) rfl (by kernel_rfl) (by kernel_rfl) (by kernel_rfl) (fun _ _ _ h => h) rfl ?_; clear hS a; intro a hS
        refine Z_take0 (i := 1) hS rfl want_none (e_move rfl) (listed' := [true, true, false, false, false, false, false, false, false, false, false, false]) rfl (by kernel_rfl) (by kernel_rfl) (by kernel_rfl) (fun _ _ _ h => h) rfl ?_; clear hS a; intro a hS
        refine Z_take0 (i := 2) hS rfl want_none (e_move rfl) (listed' := [true, true, true, false, false, false, false, false, false, false, false, false]) rfl (by kernel_rfl) (by kernel_rfl) (by kernel_rfl) (fun _ _ _ h => h) rfl ?_; clear hS a; intro a hS
        refine Z_take0 (i := 3) hS rfl want_none (e_ixN rfl rfl ty_sl54 ty_sz58 (by omega)) (listed' := [true, true, true, true, false, false, false, false, false, false, false, false]) rfl (by kernel_rfl) (by kernel_rfl) (by kernel_rfl) (fun _ _ _ h => h) rfl ?_; clear hS a; intro a hS
        refine Z_take (i := 4) hS rfl want_none (e_loadAC (l := encE y) rfl ty_st58 ty_sz58 (own_getL (enc := encE) (s := 4) (fun _ => rfl) (by repeat constructor) g2)) (listed' := [true, true, true, true, true, false, false, false, false, false, false, false]) rfl (by kernel_rfl) (by kernel_rfl) (by kernel_rfl) (by kernel_rfl) (by kernel_rfl) (sub_cons (by repeat constructor) sub_nil) (fun _ _ _ h => h) rfl ?_; clear hS a; intro a hS
        refine Z_take0 (i := 5) hS rfl want_none (e_move rfl) (listed' := [true, true, true, true, true, true, false, false, false, false, false, false]) rfl (by kernel_rfl) (by kernel_rfl) (by kernel_rfl) (fun _ _ _ h => h) rfl ?_; clear hS a; intro a hS
        refine Z_take0 (i := 6) hS rfl want_none (e_move rfl) (listed' := [true, true, true, true, true, true, true, false, false, false, false, false]) rfl (by kernel_rfl) (by kernel_rfl) (by kernel_rfl) (fun _ _ _ h => h) rfl ?_; clear hS a; intro a hS
        refine Z_take0 (i := 7) hS rfl want_none (e_ixN rfl rfl ty_sl54 ty_sz58 (by omega)) (listed' := [true, true, true, true, true, true, true, true, false, false, false, false]) rfl (by kernel_rfl) (by kernel_rfl) (by kernel_rfl) (fun _ _ _ h => h) rfl ?_; clear hS a; intro a hS
        refine Z_take (i := 8) hS rfl want_none (e_loadAC (l := encE xr) rfl ty_st58 ty_sz58 (own_getL (enc := encE) (s := 4) (fun _ => rfl) (by repeat constructor) g1)) (listed' := [true, true, true, true, true, true, true, true, true, false, false, false]) rfl (by kernel_rfl) (by kernel_rfl) (by kernel_rfl) (by kernel_rfl) (by kernel_rfl) (sub_cons (by repeat constructor) sub_nil) (fun _ _ _ h => h) rfl ?_; clear hS a; intro a hS
        refine Z_one (i := 9) rfl (want_none a hS.sl) (listed' := [true, true, true, true, true, true, true, true, true, true, false, false]) rfl (by kernel_rfl) (s_callvP (cs := []) hS rfl (.cons rfl (.cons rfl .nil)) cf65 rfl (lE1_P y xr _) ?_); clear hS a; (try clear w); intro a w hS
        refine Z_and hS (sub_cons (by repeat constructor) sub_nil) ?_
        refine Z_take0 (i := 10) hS rfl want_none (e_bin rfl rfl rfl) (listed' := [true, true, true, true, true, true, true, true, true, true, true, false]) rfl (by kernel_rfl) (by kernel_rfl) (by kernel_rfl) (fun _ _ _ h => h) rfl ?_; clear hS a; intro a hS
        refine Z_take0 (i := 11) hS rfl want_none (e_not rfl) (listed' := [true, true, true, true, true, true, true, true, true, true, true, true]) rfl (by kernel_rfl) (by kernel_rfl) (by kernel_rfl) (fun _ _ _ h => h) rfl ?_; clear hS a; intro a hS
        refine Z_done (by kernel_rfl) ?_
        refine n_then ?_
        first | refine c_ifD hS rfl (fun hc103 => ?_) (fun hc103 => ?_) | refine c_if hS rfl (fun hc103 => ?_) (fun hc103 => ?_)
        ·
          have hge : ¬ y.v.at_ < xr.v.at_ := fun e => by
            rw [decide_eq_true (cmpI_neg.2 e)] at hc103; cases hc103
          refine c_region ?_
          refine L_op (s_e hS (e_move rfl) rfl ?_); clear hS a; intro a hS
          first | (refine L_op (s_e hS (e_binN rfl rfl rfl (by omega)) rfl ?_); clear hS a; intro a hS) | (refine L_op (s_e hS (e_bin rfl rfl rfl) rfl ?_); clear hS a; intro a hS)
          refine L_op (s_e hS (e_assign rfl) rfl ?_); clear hS a; intro a hS
          refine L_nil ?_
          refine n_block ?_
          first
          | (have hlt := hge
             refine ⟨(r + 1, l), by simp only; omega, ?_, ⟨by simp only; omega, hlX⟩, fun j x hj hx => ?_, q2⟩
             · simp only
               rw [show ((p + (r + 1) : Nat) : Int) = ((p + r : Nat) : Int) + 1 from by omega]
               exact (hS.slots (by repeat (first | exact trivial | refine ⟨rfl, ?_⟩))).pick (by repeat (first | exact Pick.nil | (refine Pick.cons (by repeat (first | exact Rem.head | apply Rem.tail)) ?_)))
             · have := srt_le hX hx hxr (by simp only at hj; omega); omega)
          | (have hl2 := hlt
             refine ⟨(k, r), by simp only; omega, (hS.slots (by repeat (first | exact trivial | refine ⟨rfl, ?_⟩))).pick (by repeat (first | exact Pick.nil | (refine Pick.cons (by repeat (first | exact Rem.head | apply Rem.tail)) ?_))), ⟨by simp only; omega, by simp only; omega⟩, q1, fun j x hj hx => ?_⟩
             have := srt_le hX hxr hx (by simp only at hj; omega); omega)
        ·
          have hlt : y.v.at_ < xr.v.at_ := cmpI_neg.1 (by simpa using hc103)
          refine c_region ?_
          refine L_op (s_e hS (e_move rfl) rfl ?_); clear hS a; intro a hS
          refine L_op (s_e hS (e_assign rfl) rfl ?_); clear hS a; intro a hS
          refine L_nil ?_
          refine n_block ?_
          first
          | (have hlt := hge
             refine ⟨(r + 1, l), by simp only; omega, ?_, ⟨by simp only; omega, hlX⟩, fun j x hj hx => ?_, q2⟩
             · simp only
               rw [show ((p + (r + 1) : Nat) : Int) = ((p + r : Nat) : Int) + 1 from by omega]
               exact (hS.slots (by repeat (first | exact trivial | refine ⟨rfl, ?_⟩))).pick (by repeat (first | exact Pick.nil | (refine Pick.cons (by repeat (first | exact Rem.head | apply Rem.tail)) ?_)))
             · have := srt_le hX hx hxr (by simp only at hj; omega); omega)
          | (have hl2 := hlt
             refine ⟨(k, r), by simp only; omega, (hS.slots (by repeat (first | exact trivial | refine ⟨rfl, ?_⟩))).pick (by repeat (first | exact Pick.nil | (refine Pick.cons (by repeat (first | exact Rem.head | apply Rem.tail)) ?_))), ⟨by simp only; omega, by simp only; omega⟩, q1, fun j x hj hx => ?_⟩
             have := srt_le hX hxr hx (by simp only at hj; omega); omega)
      ·
        obtain rfl : k = l := by omega
        refine wp_exit ?_
        refine x_then (x_then (x_hit ?_))
        refine n_then ?_
        refine c_seq ?_
        refine c_seq ?_
        refine c_region ?_
        refine L_op (s_e hS (e_move rfl) rfl ?_); clear hS a; intro a hS
        refine L_op (s_e hS (e_assign rfl) rfl ?_); clear hS a; intro a hS
        refine L_nil ?_
        refine n_then ?_
        refine wp_block ?_
        skip
        refine c_loop (γ := Nat) (fun t a w => St 220 (ownA 58 4 (.slice (some ⟨g, 0, none⟩) n c) n ((zs).flatMap encE)).F w0 a w [(17, .int .i64 ((p + t : Nat) : Int)), (14, .int .i64 ((p + k : Nat) : Int)), (0, .slice (some ⟨g, 0, none⟩) n c)] [(ownA 58 4 (.slice (some ⟨g, 0, none⟩) n c) n (((A ++ X.take t) ++ y :: (X.drop t ++ B)).flatMap encE))] ∧ k ≤ t ∧ t ≤ X.length) (fun t => t - k) X.length ⟨by rw [show (A ++ X.take X.length) ++ y :: (X.drop X.length ++ B) = zs from by rw [hz]; simp, ← hm]; exact (hS.slots (by repeat (first | exact trivial | refine ⟨rfl, ?_⟩))).pick (by repeat (first | exact Pick.nil | (refine Pick.cons (by repeat (first | exact Rem.head | apply Rem.tail)) ?_))), hlX, Nat.le_refl _⟩ ?_
        clear hS a; (try clear w); intro t a w hI
        obtain ⟨hS, ht, ht2⟩ := hI
        refine c_seq ?_
        refine c_seq ?_
        refine c_region ?_
        refine L_op (s_e hS (e_move rfl) rfl ?_); clear hS a; intro a hS
        refine L_op (s_e hS (e_move rfl) rfl ?_); clear hS a; intro a hS
        refine L_op (s_e hS (e_bin rfl rfl rfl) rfl ?_); clear hS a; intro a hS
        refine L_nil ?_
        refine n_then ?_
        first | refine c_ifD hS rfl (fun hc110 => ?_) (fun hc110 => ?_) | refine c_if hS rfl (fun hc110 => ?_) (fun hc110 => ?_)
        ·
          obtain ⟨j, rfl⟩ : ∃ j, t = j + 1 := ⟨t - 1, by omega⟩
          obtain ⟨x, hx⟩ : ∃ x, X[j]? = some x := ⟨X[j]'(by omega), List.getElem?_eq_getElem (by omega)⟩
          have dx : X.drop j = x :: X.drop (j + 1) := by obtain ⟨_, h4⟩ := List.getElem?_eq_some_iff.1 hx; rw [← h4, List.getElem_cons_drop]
          have tx : X.take (j + 1) = X.take j ++ [x] := by rw [List.take_add_one, hx]; rfl
          have hAt : (A ++ X.take j).length = p + j := by rw [List.length_append, List.length_take]; omega
          have hsw := swap_mid2 (A ++ X.take j) [] (X.drop (j + 1) ++ B) x y _ rfl
          have hsg := swap_mid (A ++ X.take j) [] (X.drop (j + 1) ++ B) x y _ rfl
          rw [hAt] at hsw hsg
          simp only [List.length_nil, Nat.add_zero] at hsw hsg
          rw [show (A ++ X.take (j + 1)) ++ y :: (X.drop (j + 1) ++ B) = (A ++ X.take j) ++ x :: ([] ++ y :: (X.drop (j + 1) ++ B)) from by rw [tx]; simp] at hS
          have hll : ((A ++ X.take j) ++ x :: ([] ++ y :: (X.drop (j + 1) ++ B))).length = n := by simp only [List.length_append, List.length_cons, List.length_nil, List.length_take, List.length_drop]; simp only [List.length_cons, List.length_nil] at hnn; omega
          generalize hL : (A ++ X.take j) ++ x :: ([] ++ y :: (X.drop (j + 1) ++ B)) = L at hS hsw hsg hll
          obtain ⟨s1, s2, _⟩ := hsg
          have s4 : (L.set (p + j + 1) x)[p + j]? = some x := by rw [List.getElem?_set_ne (by omega)]; exact s1
          rw [show ((p + (j + 1) : Nat) : Int) = ((p + j + 1 : Nat) : Int) from by omega] at hS
          refine wp_skip ?_
          refine n_then ?_
          refine c_seq ?_
          refine wp_block ?_
          refine c_drawS [15, 17] (by kernel_rfl) hS (sub_cons (X := (ownA 58 4 (.slice (some ⟨g, 0, none⟩) n c) n ((L).flatMap encE))) (by repeat constructor) sub_nil) ?_; clear hS; (try clear w); intro w hS
          simp only [List.length_cons, List.length_nil, Nat.zero_add, Nat.reduceAdd, List.replicate]
          refine Z_take0 (i := 0) hS rfl want_none (e_move rfl) (listed' := [true, false, false, false, false, false, false, false, false, false, false, false, false, false, false, false, false, false]) rfl (by kernel_rfl) (by kernel_rfl) (by kernel_rfl) (fun _ _ _ h => h) rfl ?_; clear hS a; intro a hS
          refine Z_take0 (i := 1) hS rfl want_none (e_move rfl) (listed' := [true, true, false, false, false, false, false, false, false, false, false, false, false, false, false, false, false, false]) rfl (by kernel_rfl) (by kernel_rfl) (by kernel_rfl) (fun _ _ _ h => h) rfl ?_; clear hS a; intro a hS
          refine Z_take0 (i := 2) hS rfl want_none (e_move rfl) (listed' := [true, true, true, false, false, false, false, false, false, false, false, false, false, false, false, false, false, false]) rfl (by kernel_rfl) (by kernel_rfl) (by kernel_rfl) (fun _ _ _ h => h) rfl ?_; clear hS a; intro a hS
          refine Z_take0 (i := 3) hS rfl want_none (e_move rfl) (listed' := [true, true, true, true, false, false, false, false, false, false, false, false, false, false, false, false, false, false]) rfl (by kernel_rfl) (by kernel_rfl) (by kernel_rfl) (fun _ _ _ h => h) rfl ?_; clear hS a; intro a hS
          first | (refine Z_take0 (i := 4) hS rfl want_none (e_binN rfl rfl rfl (by omega)) (listed' := [true, true, true, true, true, false, false, false, false, false, false, false, false, false, false, false, false, false]) rfl (by kernel_rfl) (by kernel_rfl) (by kernel_rfl) (fun _ _ _ h => h) rfl ?_; clear hS a; intro a hS) | (refine Z_take0 (i := 4) hS rfl want_none (e_bin rfl rfl rfl) (listed' := [true, true, true, true, true, false, false, false, false, false, false, false, false, false, false, false, false, false]) rfl (by kernel_rfl) (by kernel_rfl) (by kernel_rfl) (fun _ _ _ h => h) rfl ?_; clear hS a; intro a hS)
          rw [show ((p + j + 1 : Nat) : Int) - 1 = ((p + j : Nat) : Int) from by omega] at hS
          refine Z_take0 (i := 5) hS rfl want_none (e_move rfl) (listed' := [true, true, true, true, true, true, false, false, false, false, false, false, false, false, false, false, false, false]) rfl (by kernel_rfl) (by kernel_rfl) (by kernel_rfl) (fun _ _ _ h => h) rfl ?_; clear hS a; intro a hS
          refine Z_take0 (i := 6) hS rfl want_none (e_move rfl) (listed' := [true, true, true, true, true, true, true, false, false, false, false, false, false, false, false, false, false, false]) rfl (by kernel_rfl) (by kernel_rfl) (by kernel_rfl) (fun _ _ _ h => h) rfl ?_; clear hS a; intro a hS
          first | (refine Z_take0 (i := 7) hS rfl want_none (e_binN rfl rfl rfl (by omega)) (listed' := [true, true, true, true, true, true, true, true, false, false, false, false, false, false, false, false, false, false]) rfl (by kernel_rfl) (by kernel_rfl) (by kernel_rfl) (fun _ _ _ h => h) rfl ?_; clear hS a; intro a hS) | (refine Z_take0 (i := 7) hS rfl want_none (e_bin rfl rfl rfl) (listed' := [true, true, true, true, true, true, true, true, false, false, false, false, false, false, false, false, false, false]) rfl (by kernel_rfl) (by kernel_rfl) (by kernel_rfl) (fun _ _ _ h => h) rfl ?_; clear hS a; intro a hS)
          rw [show ((p + j + 1 : Nat) : Int) - 1 = ((p + j : Nat) : Int) from by omega] at hS
          refine Z_take0 (i := 8) hS rfl want_none (e_ixN rfl rfl ty_sl54 ty_sz58 (by omega)) (listed' := [true, true, true, true, true, true, true, true, true, false, false, false, false, false, false, false, false, false]) rfl (by kernel_rfl) (by kernel_rfl) (by kernel_rfl) (fun _ _ _ h => h) rfl ?_; clear hS a; intro a hS
          refine Z_take (i := 9) hS rfl want_none (e_loadAC (l := encE x) rfl ty_st58 ty_sz58 (own_getL (enc := encE) (s := 4) (fun _ => rfl) (by repeat constructor) s1)) (listed' := [true, true, true, true, true, true, true, true, true, true, false, false, false, false, false, false, false, false]) rfl (by kernel_rfl) (by kernel_rfl) (by kernel_rfl) (by kernel_rfl) (by kernel_rfl) (sub_cons (by repeat constructor) sub_nil) (fun _ _ _ h => h) rfl ?_; clear hS a; intro a hS
          refine Z_take0 (i := 10) hS rfl want_none (e_move rfl) (listed' := [true, true, true, true, true, true, true, true, true, true, true, false, false, false, false, false, false, false]) rfl (by kernel_rfl) (by kernel_rfl) (by kernel_rfl) (fun _ _ _ h => h) rfl ?_; clear hS a; intro a hS
          refine Z_take0 (i := 11) hS rfl want_none (e_move rfl) (listed' := [true, true, true, true, true, true, true, true, true, true, true, true, false, false, false, false, false, false]) rfl (by kernel_rfl) (by kernel_rfl) (by kernel_rfl) (fun _ _ _ h => h) rfl ?_; clear hS a; intro a hS
          refine Z_take0 (i := 12) hS rfl want_none (e_ixN rfl rfl ty_sl54 ty_sz58 (by omega)) (listed' := [true, true, true, true, true, true, true, true, true, true, true, true, true, false, false, false, false, false]) rfl (by kernel_rfl) (by kernel_rfl) (by kernel_rfl) (fun _ _ _ h => h) rfl ?_; clear hS a; intro a hS
          refine Z_take (i := 13) hS rfl want_none (e_loadAC (l := encE y) rfl ty_st58 ty_sz58 (own_getL (enc := encE) (s := 4) (fun _ => rfl) (by repeat constructor) s2)) (listed' := [true, true, true, true, true, true, true, true, true, true, true, true, true, true, false, false, false, false]) rfl (by kernel_rfl) (by kernel_rfl) (by kernel_rfl) (by kernel_rfl) (by kernel_rfl) (sub_cons (by repeat constructor) sub_nil) (fun _ _ _ h => h) rfl ?_; clear hS a; intro a hS
          refine Z_take0 (i := 14) hS rfl want_none (e_ixN rfl rfl ty_sl54 ty_sz58 (by omega)) (listed' := [true, true, true, true, true, true, true, true, true, true, true, true, true, true, true, false, false, false]) rfl (by kernel_rfl) (by kernel_rfl) (by kernel_rfl) (fun _ _ _ h => h) rfl ?_; clear hS a; intro a hS
          refine Z_one (i := 15) rfl (want_none a hS.sl) (listed' := [true, true, true, true, true, true, true, true, true, true, true, true, true, true, true, true, false, false]) rfl (by kernel_rfl) (s_storeOA (enc := encE) (s := 4) (m := n) (c := c) (v := x) (u := y) hS rfl rfl (fun _ => rfl) rfl ty_sz58 s2 hll (by repeat constructor) ?_); clear hS; (try clear w); intro w hS
          refine Z_last (by simp) ?_
          refine Z_take0 (i := 16) hS rfl want_none (e_ixN rfl rfl ty_sl54 ty_sz58 (by omega)) (listed' := [true, true, true, true, true, true, true, true, true, true, true, true, true, true, true, true, true, false]) rfl (by kernel_rfl) (by kernel_rfl) (by kernel_rfl) (fun _ _ _ h => h) rfl ?_; clear hS a; intro a hS
          refine Z_one (i := 17) rfl (want_none a hS.sl) (listed' := [true, true, true, true, true, true, true, true, true, true, true, true, true, true, true, true, true, true]) rfl (by kernel_rfl) (s_storeOA (enc := encE) (s := 4) (m := n) (c := c) (v := y) (u := x) hS rfl rfl (fun _ => rfl) rfl ty_sz58 s4 (by rw [List.length_set]; exact hll) (by repeat constructor) ?_); clear hS; (try clear w); intro w hS
          refine Z_last (by simp) ?_
          refine Z_done (by kernel_rfl) ?_
          refine n_block ?_
          refine n_then ?_
          refine c_region ?_
          refine L_op (s_e hS (e_move rfl) rfl ?_); clear hS a; intro a hS
          first | (refine L_op (s_e hS (e_binN rfl rfl rfl (by omega)) rfl ?_); clear hS a; intro a hS) | (refine L_op (s_e hS (e_bin rfl rfl rfl) rfl ?_); clear hS a; intro a hS)
          rw [show ((p + j + 1 : Nat) : Int) - 1 = ((p + j : Nat) : Int) from by omega] at hS
          refine L_op (s_e hS (e_assign rfl) rfl ?_); clear hS a; intro a hS
          refine L_nil ?_
          rw [hsw] at hS
          refine ⟨j, by omega, ?_, by omega, by omega⟩
          rw [show (A ++ X.take j) ++ y :: (X.drop j ++ B) = (A ++ X.take j) ++ y :: ([] ++ x :: (X.drop (j + 1) ++ B)) from by rw [dx]; simp]
          exact (hS.slots (by repeat (first | exact trivial | refine ⟨rfl, ?_⟩))).pick (by repeat (first | exact Pick.nil | (refine Pick.cons (by repeat (first | exact Rem.head | apply Rem.tail)) ?_)))
        ·
          obtain rfl : t = k := by omega
          rw [show (A ++ X.take t) ++ y :: (X.drop t ++ B) = A ++ ((X.take t ++ y :: X.drop t) ++ B) from by simp] at hS
          refine wp_exit ?_
          refine x_then (x_then (x_hit ?_))
          refine n_then ?_
          refine wp_ret ?_
          refine r_then ?_
          refine c_retN hS Try.results114 .nil rfl ?_
          exact ⟨⟨X.take t ++ y :: X.drop t, one_right hX hc (by omega) q1 q2⟩, rfl, hS.chg, hS.ok (ownA 58 4 (.slice (some ⟨g, 0, none⟩) n c) n ((A ++ ((X.take t ++ y :: X.drop t) ++ B)).flatMap encE)) (by repeat constructor), fun b hb => (hS.mine (ownA 58 4 (.slice (some ⟨g, 0, none⟩) n c) n ((A ++ ((X.take t ++ y :: X.drop t) ++ B)).flatMap encE)) (by repeat constructor) rfl b hb).symm⟩
    ·
      have hY2 : 2 ≤ Y.length := by omega
      refine wp_skip ?_
      refine n_then ?_
      refine c_seq ?_
      refine c_region ?_
      refine L_op (s_e hS (e_move rfl) rfl ?_); clear hS a; intro a hS
      refine L_op (s_e hS (e_move rfl) rfl ?_); clear hS a; intro a hS
      first | (refine L_op (s_e hS (e_binN rfl rfl rfl (by omega)) rfl ?_); clear hS a; intro a hS) | (refine L_op (s_e hS (e_bin rfl rfl rfl) rfl ?_); clear hS a; intro a hS)
      rw [show (p : Int) + (e : Int) = ((p + e : Nat) : Int) from by omega] at hS
      first | (refine L_op (s_e hS (e_convN rfl ty_u3 ty_u182 (by omega)) rfl ?_); clear hS a; intro a hS) | (refine L_op (s_e hS (e_conv rfl ty_u3 ty_u182) rfl ?_); clear hS a; intro a hS)
      rw [IntWalk.u64_in _ (by omega)] at hS
      refine L_op (s_e hS (e_shr (j := 1) rfl (by decide)) rfl ?_); clear hS a; intro a hS
      rw [show ((p + e : Nat) : Int) / 2 ^ 1 = ((p + md : Nat) : Int) from by omega] at hS
      first | (refine L_op (s_e hS (e_convN rfl ty_u182 ty_u3 (by omega)) rfl ?_); clear hS a; intro a hS) | (refine L_op (s_e hS (e_conv rfl ty_u182 ty_u3) rfl ?_); clear hS a; intro a hS)
      refine L_op (s_e hS (e_assign rfl) rfl ?_); clear hS a; intro a hS
      refine L_nil ?_
      refine n_then ?_
      refine c_seq ?_
      refine c_region ?_
      refine L_op (s_e hS (e_move rfl) rfl ?_); clear hS a; intro a hS
      refine L_op (s_e hS (e_move rfl) rfl ?_); clear hS a; intro a hS
      first | (refine L_op (s_e hS (e_binN rfl rfl rfl (by omega)) rfl ?_); clear hS a; intro a hS) | (refine L_op (s_e hS (e_bin rfl rfl rfl) rfl ?_); clear hS a; intro a hS)
      rw [show ((p + md : Nat) : Int) + (m : Int) = ((p + md + m : Nat) : Int) from by omega] at hS
      refine L_op (s_e hS (e_assign rfl) rfl ?_); clear hS a; intro a hS
      refine L_nil ?_
      refine n_then ?_
      refine c_seq ?_
      refine c_region ?_
      refine L_op (s_e hS (e_assign rfl) rfl ?_); clear hS a; intro a hS
      refine L_op (s_e hS (e_assign rfl) rfl ?_); clear hS a; intro a hS
      refine L_nil ?_
      refine n_then ?_
      refine c_cut (fun a w => ∃ lo hi : Nat, St 220 (ownA 58 4 (.slice (some ⟨g, 0, none⟩) n c) n ((zs).flatMap encE)).F w0 a w [(20, .int .i64 ((p + lo : Nat) : Int)), (21, .int .i64 ((p + hi : Nat) : Int)), (18, .int .i64 ((p + md : Nat) : Int)), (19, .int .i64 ((p + md + m : Nat) : Int)), (0, .slice (some ⟨g, 0, none⟩) n c), (1, .int .i64 (p : Int)), (2, .int .i64 (m : Int)), (3, .int .i64 (e : Int)), (4, cmpV)] [(ownA 58 4 (.slice (some ⟨g, 0, none⟩) n c) n ((zs).flatMap encE))] ∧ cutR X.length Y.length md lo hi) ?_ ?_
      ·
        refine c_seq ?_
        refine c_region ?_
        refine L_op (s_e hS (e_move rfl) rfl ?_); clear hS a; intro a hS
        refine L_op (s_e hS (e_move rfl) rfl ?_); clear hS a; intro a hS
        refine L_op (s_e hS (e_bin rfl rfl rfl) rfl ?_); clear hS a; intro a hS
        refine L_nil ?_
        refine n_then ?_
        first | refine c_ifD hS rfl (fun hc140 => ?_) (fun hc140 => ?_) | refine c_if hS rfl (fun hc140 => ?_) (fun hc140 => ?_)
        ·
          refine c_seq ?_
          refine c_region ?_
          refine L_op (s_e hS (e_move rfl) rfl ?_); clear hS a; intro a hS
          refine L_op (s_e hS (e_move rfl) rfl ?_); clear hS a; intro a hS
          first | (refine L_op (s_e hS (e_binN rfl rfl rfl (by omega)) rfl ?_); clear hS a; intro a hS) | (refine L_op (s_e hS (e_bin rfl rfl rfl) rfl ?_); clear hS a; intro a hS)
          rw [show ((p + md + m : Nat) : Int) - (e : Int) = ((p + (md - Y.length) : Nat) : Int) from by omega] at hS
          refine L_op (s_e hS (e_assign rfl) rfl ?_); clear hS a; intro a hS
          refine L_nil ?_
          refine n_then ?_
          refine c_region ?_
          refine L_op (s_e hS (e_move rfl) rfl ?_); clear hS a; intro a hS
          refine L_op (s_e hS (e_assign rfl) rfl ?_); clear hS a; intro a hS
          refine L_nil ?_
          first
          | exact ⟨md - Y.length, md, (hS.slots (by repeat (first | exact trivial | refine ⟨rfl, ?_⟩))).pick (by repeat (first | exact Pick.nil | (refine Pick.cons (by repeat (first | exact Rem.head | apply Rem.tail)) ?_))), .inl ⟨by omega, rfl, rfl⟩⟩
          | exact ⟨0, X.length, by rw [Nat.add_zero, ← hm]; exact (hS.slots (by repeat (first | exact trivial | refine ⟨rfl, ?_⟩))).pick (by repeat (first | exact Pick.nil | (refine Pick.cons (by repeat (first | exact Rem.head | apply Rem.tail)) ?_))), .inr ⟨by omega, rfl, rfl⟩⟩
        ·
          refine c_seq ?_
          refine c_region ?_
          refine L_op (s_e hS (e_move rfl) rfl ?_); clear hS a; intro a hS
          refine L_op (s_e hS (e_assign rfl) rfl ?_); clear hS a; intro a hS
          refine L_nil ?_
          refine n_then ?_
          refine c_region ?_
          refine L_op (s_e hS (e_move rfl) rfl ?_); clear hS a; intro a hS
          refine L_op (s_e hS (e_assign rfl) rfl ?_); clear hS a; intro a hS
          refine L_nil ?_
          first
          | exact ⟨md - Y.length, md, (hS.slots (by repeat (first | exact trivial | refine ⟨rfl, ?_⟩))).pick (by repeat (first | exact Pick.nil | (refine Pick.cons (by repeat (first | exact Rem.head | apply Rem.tail)) ?_))), .inl ⟨by omega, rfl, rfl⟩⟩
          | exact ⟨0, X.length, by rw [Nat.add_zero, ← hm]; exact (hS.slots (by repeat (first | exact trivial | refine ⟨rfl, ?_⟩))).pick (by repeat (first | exact Pick.nil | (refine Pick.cons (by repeat (first | exact Rem.head | apply Rem.tail)) ?_))), .inr ⟨by omega, rfl, rfl⟩⟩
      ·
        clear hS a; (try clear w); intro a w hS
        obtain ⟨lo, hi, hS, hlh⟩ := hS
        have hlh' := hlh
        unfold cutR at hlh'
        have hlohi : lo ≤ hi := by omega
        refine c_seq ?_
        refine c_region ?_
        refine L_op (s_e hS (e_move rfl) rfl ?_); clear hS a; intro a hS
        first | (refine L_op (s_e hS (e_binN rfl rfl rfl (by omega)) rfl ?_); clear hS a; intro a hS) | (refine L_op (s_e hS (e_bin rfl rfl rfl) rfl ?_); clear hS a; intro a hS)
        rw [show ((p + md + m : Nat) : Int) - 1 = ((p + md + m - 1 : Nat) : Int) from by omega] at hS
        refine L_op (s_e hS (e_assign rfl) rfl ?_); clear hS a; intro a hS
        refine L_nil ?_
        refine n_then ?_
        refine c_seq ?_
        refine wp_block ?_
        skip
        refine c_loop (γ := Nat × Nat) (fun G a w => St 220 (ownA 58 4 (.slice (some ⟨g, 0, none⟩) n c) n ((zs).flatMap encE)).F w0 a w [(20, .int .i64 ((p + G.1 : Nat) : Int)), (21, .int .i64 ((p + G.2 : Nat) : Int)), (22, .int .i64 ((p + md + m - 1 : Nat) : Int)), (18, .int .i64 ((p + md : Nat) : Int)), (19, .int .i64 ((p + md + m : Nat) : Int)), (0, .slice (some ⟨g, 0, none⟩) n c), (1, .int .i64 (p : Int)), (2, .int .i64 (m : Int)), (3, .int .i64 (e : Int)), (4, cmpV)] [(ownA 58 4 (.slice (some ⟨g, 0, none⟩) n c) n ((zs).flatMap encE))] ∧ (lo ≤ G.1 ∧ G.1 ≤ G.2 ∧ G.2 ≤ hi) ∧ (∀ t x y, lo ≤ t → t < G.1 → X[t]? = some x → Y[md - 1 - t]? = some y → ¬ y.v.at_ < x.v.at_) ∧ ∀ t x y, G.2 ≤ t → t < hi → X[t]? = some x → Y[md - 1 - t]? = some y → y.v.at_ < x.v.at_) (fun G => G.2 - G.1) (lo, hi) ⟨(hS.slots (by repeat (first | exact trivial | refine ⟨rfl, ?_⟩))).pick (by repeat (first | exact Pick.nil | (refine Pick.cons (by repeat (first | exact Rem.head | apply Rem.tail)) ?_))), ⟨Nat.le_refl _, hlohi, Nat.le_refl _⟩, fun t x y h1 h2 => absurd h2 (by simp only; omega), fun t x y h1 h2 => absurd h2 (by simp only at h1; omega)⟩ ?_
        clear hS a; (try clear w); intro G a w hI
        obtain ⟨k, l⟩ := G
        obtain ⟨hS, ⟨hk1, hk2, hk3⟩, q1, q2⟩ := hI
        simp only at hS hk1 hk2 hk3 q1 q2
        refine c_seq ?_
        refine c_seq ?_
        refine c_region ?_
        refine L_op (s_e hS (e_move rfl) rfl ?_); clear hS a; intro a hS
        refine L_op (s_e hS (e_move rfl) rfl ?_); clear hS a; intro a hS
        refine L_op (s_e hS (e_bin rfl rfl rfl) rfl ?_); clear hS a; intro a hS
        refine L_nil ?_
        refine n_then ?_
        first | refine c_ifD hS rfl (fun hc151 => ?_) (fun hc151 => ?_) | refine c_if hS rfl (fun hc151 => ?_) (fun hc151 => ?_)
        ·
          have hkl : k < l := by omega
          obtain ⟨r, hr⟩ : ∃ r, r = (k + l) / 2 := ⟨_, rfl⟩
          obtain ⟨xr, hxr⟩ : ∃ x, X[r]? = some x := ⟨X[r]'(by omega), List.getElem?_eq_getElem (by omega)⟩
          obtain ⟨yr, hyr⟩ : ∃ y, Y[md - 1 - r]? = some y := ⟨Y[md - 1 - r]'(by omega), List.getElem?_eq_getElem (by omega)⟩
          have g1 := get_at (zs := zs) hz hp hxr
          have g2 := get_at (zs := zs) hzY hAX hyr
          refine wp_skip ?_
          refine n_then ?_
          refine wp_block ?_
          refine c_seq ?_
          refine c_region ?_
          refine L_op (s_e hS (e_move rfl) rfl ?_); clear hS a; intro a hS
          refine L_op (s_e hS (e_move rfl) rfl ?_); clear hS a; intro a hS
          first | (refine L_op (s_e hS (e_binN rfl rfl rfl (by omega)) rfl ?_); clear hS a; intro a hS) | (refine L_op (s_e hS (e_bin rfl rfl rfl) rfl ?_); clear hS a; intro a hS)
          rw [show ((p + k : Nat) : Int) + ((p + l : Nat) : Int) = ((p + k + (p + l) : Nat) : Int) from by omega] at hS
          first | (refine L_op (s_e hS (e_convN rfl ty_u3 ty_u182 (by omega)) rfl ?_); clear hS a; intro a hS) | (refine L_op (s_e hS (e_conv rfl ty_u3 ty_u182) rfl ?_); clear hS a; intro a hS)
          rw [IntWalk.u64_in _ (by omega)] at hS
          refine L_op (s_e hS (e_shr (j := 1) rfl (by decide)) rfl ?_); clear hS a; intro a hS
          rw [show ((p + k + (p + l) : Nat) : Int) / 2 ^ 1 = ((p + r : Nat) : Int) from by omega] at hS
          first | (refine L_op (s_e hS (e_convN rfl ty_u182 ty_u3 (by omega)) rfl ?_); clear hS a; intro a hS) | (refine L_op (s_e hS (e_conv rfl ty_u182 ty_u3) rfl ?_); clear hS a; intro a hS)
          refine L_op (s_e hS (e_assign rfl) rfl ?_); clear hS a; intro a hS
          refine L_nil ?_
          refine n_then ?_
          refine c_seq ?_
          refine c_drawS [] (by kernel_rfl) hS (sub_cons (X := (ownA 58 4 (.slice (some ⟨g, 0, none⟩) n c) n ((zs).flatMap encE))) (by repeat constructor) sub_nil) ?_; clear hS; (try clear w); intro w hS
          simp only [List.length_cons, List.length_nil, Nat.zero_add, Nat.reduceAdd, List.replicate]
          refine Z_take0 (i := 0) hS rfl want_none (e_move rfl) (listed' := [true, false, false, false, false, false, false, false, false, false, false, false, false, false]) rfl (by kernel_rfl) (by kernel_rfl) (by kernel_rfl) (fun _ _ _ h => h) rfl ?_; clear hS a; intro a hS
          refine Z_take0 (i := 1) hS rfl want_none (e_move rfl) (listed' := [true, true, false, false, false, false, false, false, false, false, false, false, false, false]) rfl (by kernel_rfl) (by kernel_rfl) (by kernel_rfl) (fun _ _ _ h => h) rfl ?_; clear hS a; intro a hS
          refine Z_take0 (i := 2) hS rfl want_none (e_move rfl) (listed' := [true, true, true, false, false, false, false, false, false, false, false, false, false, false]) rfl (by kernel_rfl) (by kernel_rfl) (by kernel_rfl) (fun _ _ _ h => h) rfl ?_; clear hS a; intro a hS
          refine Z_take0 (i := 3) hS rfl want_none (e_move rfl) (listed' := [true, true, true, true, false, false, false, false, false, false, false, false, false, false]) rfl (by kernel_rfl) (by kernel_rfl) (by kernel_rfl) (fun _ _ _ h => h) rfl ?_; clear hS a; intro a hS
          first | (refine Z_take0 (i := 4) hS rfl want_none (e_binN rfl rfl rfl (by omega)) (listed' := [true, true, true, true, true, false, false, false, false, false, false, false, false, false]) rfl (by kernel_rfl) (by kernel_rfl) (by kernel_rfl) (fun _ _ _ h => h) rfl ?_; clear hS a; intro a hS) | (refine Z_take0 (i := 4) hS rfl want_none (e_bin rfl rfl rfl) (listed' := [true, true, true, true, true, false, false, false, false, false, false, false, false, false]) rfl (by kernel_rfl) (by kernel_rfl) (by kernel_rfl) (fun _ _ _ h => h) rfl ?_; clear hS a; intro a hS)
          rw [show ((p + md + m - 1 : Nat) : Int) - ((p + r : Nat) : Int) = ((m + (md - 1 - r) : Nat) : Int) from by omega] at hS
          refine Z_take0 (i := 5) hS rfl want_none (e_ixN rfl rfl ty_sl54 ty_sz58 (by omega)) (listed' := [true, true, true, true, true, true, false, false, false, false, false, false, false, false]) rfl (by kernel_rfl) (by kernel_rfl) (by kernel_rfl) (fun _ _ _ h => h) rfl ?_; clear hS a; intro a hS
          refine Z_take (i := 6) hS rfl want_none (e_loadAC (l := encE yr) rfl ty_st58 ty_sz58 (own_getL (enc := encE) (s := 4) (fun _ => rfl) (by repeat constructor) g2)) (listed' := [true, true, true, true, true, true, true, false, false, false, false, false, false, false]) rfl (by kernel_rfl) (by kernel_rfl) (by kernel_rfl) (by kernel_rfl) (by kernel_rfl) (sub_cons (by repeat constructor) sub_nil) (fun _ _ _ h => h) rfl ?_; clear hS a; intro a hS
          refine Z_take0 (i := 7) hS rfl want_none (e_move rfl) (listed' := [true, true, true, true, true, true, true, true, false, false, false, false, false, false]) rfl (by kernel_rfl) (by kernel_rfl) (by kernel_rfl) (fun _ _ _ h => h) rfl ?_; clear hS a; intro a hS
          refine Z_take0 (i := 8) hS rfl want_none (e_move rfl) (listed' := [true, true, true, true, true, true, true, true, true, false, false, false, false, false]) rfl (by kernel_rfl) (by kernel_rfl) (by kernel_rfl) (fun _ _ _ h => h) rfl ?_; clear hS a; intro a hS
          refine Z_take0 (i := 9) hS rfl want_none (e_ixN rfl rfl ty_sl54 ty_sz58 (by omega)) (listed' := [true, true, true, true, true, true, true, true, true, true, false, false, false, false]) rfl (by kernel_rfl) (by kernel_rfl) (by kernel_rfl) (fun _ _ _ h => h) rfl ?_; clear hS a; intro a hS
          refine Z_take (i := 10) hS rfl want_none (e_loadAC (l := encE xr) rfl ty_st58 ty_sz58 (own_getL (enc := encE) (s := 4) (fun _ => rfl) (by repeat constructor) g1)) (listed' := [true, true, true, true, true, true, true, true, true, true, true, false, false, false]) rfl (by kernel_rfl) (by kernel_rfl) (by kernel_rfl) (by kernel_rfl) (by kernel_rfl) (sub_cons (by repeat constructor) sub_nil) (fun _ _ _ h => h) rfl ?_; clear hS a; intro a hS
          refine Z_one (i := 11) rfl (want_none a hS.sl) (listed' := [true, true, true, true, true, true, true, true, true, true, true, true, false, false]) rfl (by kernel_rfl) (s_callvP (cs := []) hS rfl (.cons rfl (.cons rfl .nil)) cf65 rfl (lE1_P yr xr _) ?_); clear hS a; (try clear w); intro a w hS
          refine Z_and hS (sub_cons (by repeat constructor) sub_nil) ?_
          refine Z_take0 (i := 12) hS rfl want_none (e_bin rfl rfl rfl) (listed' := [true, true, true, true, true, true, true, true, true, true, true, true, true, false]) rfl (by kernel_rfl) (by kernel_rfl) (by kernel_rfl) (fun _ _ _ h => h) rfl ?_; clear hS a; intro a hS
          refine Z_take0 (i := 13) hS rfl want_none (e_not rfl) (listed' := [true, true, true, true, true, true, true, true, true, true, true, true, true, true]) rfl (by kernel_rfl) (by kernel_rfl) (by kernel_rfl) (fun _ _ _ h => h) rfl ?_; clear hS a; intro a hS
          refine Z_done (by kernel_rfl) ?_
          refine n_then ?_
          first | refine c_ifD hS rfl (fun hc171 => ?_) (fun hc171 => ?_) | refine c_if hS rfl (fun hc171 => ?_) (fun hc171 => ?_)
          ·
            have hge : ¬ yr.v.at_ < xr.v.at_ := fun e => by
              rw [decide_eq_true (cmpI_neg.2 e)] at hc171; cases hc171
            refine c_region ?_
            refine L_op (s_e hS (e_move rfl) rfl ?_); clear hS a; intro a hS
            first | (refine L_op (s_e hS (e_binN rfl rfl rfl (by omega)) rfl ?_); clear hS a; intro a hS) | (refine L_op (s_e hS (e_bin rfl rfl rfl) rfl ?_); clear hS a; intro a hS)
            refine L_op (s_e hS (e_assign rfl) rfl ?_); clear hS a; intro a hS
            refine L_nil ?_
            refine n_block ?_
            first
            | (have hlt := hge
               refine ⟨(r + 1, l), by simp only; omega, ?_, ⟨by simp only; omega, by simp only; omega, hk3⟩, fun t x y h1 h2 hx hy => ?_, q2⟩
               · simp only
                 rw [show ((p + (r + 1) : Nat) : Int) = ((p + r : Nat) : Int) + 1 from by omega]
                 exact (hS.slots (by repeat (first | exact trivial | refine ⟨rfl, ?_⟩))).pick (by repeat (first | exact Pick.nil | (refine Pick.cons (by repeat (first | exact Rem.head | apply Rem.tail)) ?_)))
               · simp only at h2
                 have z1 := srt_le hX hx hxr (by omega)
                 have z2 := srt_le hY hyr hy (by omega)
                 omega)
            | (have hl2 := hlt
               refine ⟨(k, r), by simp only; omega, (hS.slots (by repeat (first | exact trivial | refine ⟨rfl, ?_⟩))).pick (by repeat (first | exact Pick.nil | (refine Pick.cons (by repeat (first | exact Rem.head | apply Rem.tail)) ?_))), ⟨hk1, by simp only; omega, by simp only; omega⟩, q1, fun t x y h1 h2 hx hy => ?_⟩
               simp only at h1
               have z1 := srt_le hX hxr hx (by omega)
               have z2 := srt_le hY hy hyr (by omega)
               omega)
          ·
            have hlt : yr.v.at_ < xr.v.at_ := cmpI_neg.1 (by simpa using hc171)
            refine c_region ?_
            refine L_op (s_e hS (e_move rfl) rfl ?_); clear hS a; intro a hS
            refine L_op (s_e hS (e_assign rfl) rfl ?_); clear hS a; intro a hS
            refine L_nil ?_
            refine n_block ?_
            first
            | (have hlt := hge
               refine ⟨(r + 1, l), by simp only; omega, ?_, ⟨by simp only; omega, by simp only; omega, hk3⟩, fun t x y h1 h2 hx hy => ?_, q2⟩
               · simp only
                 rw [show ((p + (r + 1) : Nat) : Int) = ((p + r : Nat) : Int) + 1 from by omega]
                 exact (hS.slots (by repeat (first | exact trivial | refine ⟨rfl, ?_⟩))).pick (by repeat (first | exact Pick.nil | (refine Pick.cons (by repeat (first | exact Rem.head | apply Rem.tail)) ?_)))
               · simp only at h2
                 have z1 := srt_le hX hx hxr (by omega)
                 have z2 := srt_le hY hyr hy (by omega)
                 omega)
            | (have hl2 := hlt
               refine ⟨(k, r), by simp only; omega, (hS.slots (by repeat (first | exact trivial | refine ⟨rfl, ?_⟩))).pick (by repeat (first | exact Pick.nil | (refine Pick.cons (by repeat (first | exact Rem.head | apply Rem.tail)) ?_))), ⟨hk1, by simp only; omega, by simp only; omega⟩, q1, fun t x y h1 h2 hx hy => ?_⟩
               simp only at h1
               have z1 := srt_le hX hxr hx (by omega)
               have z2 := srt_le hY hy hyr (by omega)
               omega)
        ·
          obtain rfl : k = l := by omega
          have hcut := cut_ok hX hY hmd hlh hk1 hk3 q1 q2
          have hcu := hcut.hu
          have hcv := hcut.hv
          have hkm : k ≤ md := by omega
          have hz1 : zs = (A ++ X.take k) ++ (X.drop k ++ (Y.take (md - k) ++ (Y.drop (md - k) ++ B))) := by
            rw [List.append_assoc, ← List.append_assoc (X.take k), List.take_append_drop, ← List.append_assoc (Y.take (md - k)), List.take_append_drop]; exact hz
          refine wp_exit ?_
          refine x_then (x_then (x_hit ?_))
          refine n_then ?_
          refine c_seq ?_
          refine c_region ?_
          refine L_op (s_e hS (e_move rfl) rfl ?_); clear hS a; intro a hS
          refine L_op (s_e hS (e_move rfl) rfl ?_); clear hS a; intro a hS
          first | (refine L_op (s_e hS (e_binN rfl rfl rfl (by omega)) rfl ?_); clear hS a; intro a hS) | (refine L_op (s_e hS (e_bin rfl rfl rfl) rfl ?_); clear hS a; intro a hS)
          rw [show ((p + md + m : Nat) : Int) - ((p + k : Nat) : Int) = ((m + (md - k) : Nat) : Int) from by omega] at hS
          refine L_op (s_e hS (e_assign rfl) rfl ?_); clear hS a; intro a hS
          refine L_nil ?_
          refine n_then ?_
          refine c_cut (fun a w => St 220 (ownA 58 4 (.slice (some ⟨g, 0, none⟩) n c) n ((zs).flatMap encE)).F w0 a w [(20, .int .i64 ((p + k : Nat) : Int)), (24, .int .i64 ((m + (md - k) : Nat) : Int)), (18, .int .i64 ((p + md : Nat) : Int)), (0, .slice (some ⟨g, 0, none⟩) n c), (1, .int .i64 (p : Int)), (2, .int .i64 (m : Int)), (3, .int .i64 (e : Int)), (4, cmpV)] [(ownA 58 4 (.slice (some ⟨g, 0, none⟩) n c) n ((A ++ ((X.take k ++ Y.take (md - k)) ++ ((X.drop k ++ Y.drop (md - k)) ++ B))).flatMap encE))]) ?_ ?_
          ·
            refine c_seq ?_
            refine c_region ?_
            refine L_op (s_e hS (e_move rfl) rfl ?_); clear hS a; intro a hS
            refine L_op (s_e hS (e_move rfl) rfl ?_); clear hS a; intro a hS
            refine L_op (s_e hS (e_bin rfl rfl rfl) rfl ?_); clear hS a; intro a hS
            refine L_op (s_e hS (e_move rfl) rfl ?_); clear hS a; intro a hS
            refine L_merge 4 185 (.bool (decide (k < X.length ∧ k < md))) hS ?_ ?_
            · intro hcM185
              (first | refine g_splitD (t := 181) hS rfl ?_ ?_ | refine g_split (t := 181) hS rfl ?_ ?_) <;> (clear hS; intro hg181 hS)
              ·
                refine L_go hS rfl rfl (s_e hS (e_move rfl) rfl ?_); clear hS a; intro a hS
                refine L_go hS rfl rfl (s_e hS (e_move rfl) rfl ?_); clear hS a; intro a hS
                refine L_go hS rfl rfl (s_e hS (e_bin rfl rfl rfl) rfl ?_); clear hS a; intro a hS
                first | (refine L_op (s_e hS (e_pick_t rfl rfl) rfl ?_); clear hS a; intro a hS) | (refine L_op (s_e hS (e_pick_f rfl rfl) rfl ?_); clear hS a; intro a hS)
                exact hcM185 _ _ (hS.ends 5 185 181 rfl (congrArg Value.bool (by rw [decide_eq_decide]; omega)) rfl rfl (by first | exact congrArg Value.bool (decide_eq_true hg181).symm | exact congrArg Value.bool hg181.symm | simp [hg181]) rfl)
              ·
                refine L_skip_t hS rfl rfl rfl ?_; clear hS a; intro a hS
                refine L_skip_t hS rfl rfl rfl ?_; clear hS a; intro a hS
                refine L_skip_t hS rfl rfl rfl ?_; clear hS a; intro a hS
                first | (refine L_op (s_e hS (e_pick_t rfl rfl) rfl ?_); clear hS a; intro a hS) | (refine L_op (s_e hS (e_pick_f rfl rfl) rfl ?_); clear hS a; intro a hS)
                exact hcM185 _ _ (hS.ends 5 185 181 rfl (congrArg Value.bool (by exact (decide_eq_false (by omega)).symm)) rfl rfl (by first | exact congrArg Value.bool (decide_eq_false hg181).symm | exact congrArg Value.bool hg181.symm | simp [hg181]) rfl)
            · clear hS a; (try clear w); intro a w hS
              simp only [List.drop_succ_cons, List.drop_zero]
              refine L_nil ?_
              refine n_then ?_
              first | refine c_ifD hS rfl (fun hc185 => ?_) (fun hc185 => ?_) | refine c_if hS rfl (fun hc185 => ?_) (fun hc185 => ?_)
              ·
                refine c_region ?_
                refine L_op (s_e hS (e_move rfl) rfl ?_); clear hS a; intro a hS
                refine L_op (s_e hS (e_move rfl) rfl ?_); clear hS a; intro a hS
                refine L_op (s_e hS (e_move rfl) rfl ?_); clear hS a; intro a hS
                refine L_op (s_e hS (e_move rfl) rfl ?_); clear hS a; intro a hS
                refine L_op (s_e hS (e_move rfl) rfl ?_); clear hS a; intro a hS
                refine L_op (s_callM hS (.cons rfl (.cons rfl (.cons rfl (.cons rfl (.cons rfl .nil))))) cf122 rfl (rotate_P g n c (p + k) m (m + (md - k)) (A ++ X.take k) (X.drop k) (Y.take (md - k)) (Y.drop (md - k) ++ B) zs (A ++ ((X.take k ++ Y.take (md - k)) ++ ((X.drop k ++ Y.drop (md - k)) ++ B))) hz1 (by simp) (by rw [List.length_append, List.length_take]; omega) (by rw [List.length_drop]; omega) (by rw [List.length_take]; omega) (by rw [List.length_drop]; omega) (by rw [List.length_take]; omega) hn hN _ (hS.ok (ownA 58 4 (.slice (some ⟨g, 0, none⟩) n c) n ((zs).flatMap encE)) (by repeat constructor))) (fun x => (by repeat constructor)) rfl ?_); clear hS a; (try clear w); intro x191 a w hS
                refine L_nil ?_
                first
                | (have hx := x191
                   exact (hS.slots (by repeat (first | exact trivial | refine ⟨rfl, ?_⟩))).pick (by repeat (first | exact Pick.nil | (refine Pick.cons (by repeat (first | exact Rem.head | apply Rem.tail)) ?_))))
                | (have ez : zs = A ++ ((X.take k ++ Y.take (md - k)) ++ ((X.drop k ++ Y.drop (md - k)) ++ B)) := by
                     rw [hz1]
                     by_cases e1 : k < X.length
                     · rw [show md - k = 0 from by omega, List.take_zero, List.drop_zero]; simp
                     · rw [List.drop_of_length_le (show X.length ≤ k by omega)]; simp
                   rw [← ez]
                   exact (hS.slots (by repeat (first | exact trivial | refine ⟨rfl, ?_⟩))).pick (by repeat (first | exact Pick.nil | (refine Pick.cons (by repeat (first | exact Rem.head | apply Rem.tail)) ?_))))
              ·
                refine wp_skip ?_
                first
                | (have hx := x191
                   exact (hS.slots (by repeat (first | exact trivial | refine ⟨rfl, ?_⟩))).pick (by repeat (first | exact Pick.nil | (refine Pick.cons (by repeat (first | exact Rem.head | apply Rem.tail)) ?_))))
                | (have ez : zs = A ++ ((X.take k ++ Y.take (md - k)) ++ ((X.drop k ++ Y.drop (md - k)) ++ B)) := by
                     rw [hz1]
                     by_cases e1 : k < X.length
                     · rw [show md - k = 0 from by omega, List.take_zero, List.drop_zero]; simp
                     · rw [List.drop_of_length_le (show X.length ≤ k by omega)]; simp
                   rw [← ez]
                   exact (hS.slots (by repeat (first | exact trivial | refine ⟨rfl, ?_⟩))).pick (by repeat (first | exact Pick.nil | (refine Pick.cons (by repeat (first | exact Rem.head | apply Rem.tail)) ?_))))
          ·
            clear hS a; (try clear w); intro a w hS
            have lX1 : (X.take k).length = k := by rw [List.length_take]; omega
            have lY1 : (Y.take (md - k)).length = md - k := by rw [List.length_take]; omega
            have lX2 : (X.drop k).length = X.length - k := List.length_drop
            have lY2 : (Y.drop (md - k)).length = Y.length - (md - k) := List.length_drop
            have pX := hX
            have pY := hY
            rw [← List.take_append_drop k X] at pX
            rw [← List.take_append_drop (md - k) Y] at pY
            obtain ⟨pX1, pX2, _⟩ := List.pairwise_append.1 pX
            obtain ⟨pY1, pY2, _⟩ := List.pairwise_append.1 pY
            have lz2 : (A ++ ((X.take k ++ Y.take (md - k)) ++ ((X.drop k ++ Y.drop (md - k)) ++ B))).length = n := by simp only [List.length_append]; omega
            refine c_cut (fun a w => ∃ S1 : List EA, St 220 (ownA 58 4 (.slice (some ⟨g, 0, none⟩) n c) n ((zs).flatMap encE)).F w0 a w [(24, .int .i64 ((m + (md - k) : Nat) : Int)), (18, .int .i64 ((p + md : Nat) : Int)), (0, .slice (some ⟨g, 0, none⟩) n c), (3, .int .i64 (e : Int)), (4, cmpV)] [(ownA 58 4 (.slice (some ⟨g, 0, none⟩) n c) n ((A ++ (S1 ++ ((X.drop k ++ Y.drop (md - k)) ++ B))).flatMap encE))] ∧ IsS (X.take k ++ Y.take (md - k)) S1) ?_ ?_
            ·
              refine c_seq ?_
              refine c_region ?_
              refine L_op (s_e hS (e_move rfl) rfl ?_); clear hS a; intro a hS
              refine L_op (s_e hS (e_move rfl) rfl ?_); clear hS a; intro a hS
              refine L_op (s_e hS (e_bin rfl rfl rfl) rfl ?_); clear hS a; intro a hS
              refine L_op (s_e hS (e_move rfl) rfl ?_); clear hS a; intro a hS
              refine L_merge 4 199 (.bool (decide (0 < k ∧ k < md))) hS ?_ ?_
              · intro hcM199
                (first | refine g_splitD (t := 195) hS rfl ?_ ?_ | refine g_split (t := 195) hS rfl ?_ ?_) <;> (clear hS; intro hg195 hS)
                ·
                  refine L_go hS rfl rfl (s_e hS (e_move rfl) rfl ?_); clear hS a; intro a hS
                  refine L_go hS rfl rfl (s_e hS (e_move rfl) rfl ?_); clear hS a; intro a hS
                  refine L_go hS rfl rfl (s_e hS (e_bin rfl rfl rfl) rfl ?_); clear hS a; intro a hS
                  first | (refine L_op (s_e hS (e_pick_t rfl rfl) rfl ?_); clear hS a; intro a hS) | (refine L_op (s_e hS (e_pick_f rfl rfl) rfl ?_); clear hS a; intro a hS)
                  exact hcM199 _ _ (hS.ends 5 199 195 rfl (congrArg Value.bool (by rw [decide_eq_decide]; omega)) rfl rfl (by first | exact congrArg Value.bool (decide_eq_true hg195).symm | exact congrArg Value.bool hg195.symm | simp [hg195]) rfl)
                ·
                  refine L_skip_t hS rfl rfl rfl ?_; clear hS a; intro a hS
                  refine L_skip_t hS rfl rfl rfl ?_; clear hS a; intro a hS
                  refine L_skip_t hS rfl rfl rfl ?_; clear hS a; intro a hS
                  first | (refine L_op (s_e hS (e_pick_t rfl rfl) rfl ?_); clear hS a; intro a hS) | (refine L_op (s_e hS (e_pick_f rfl rfl) rfl ?_); clear hS a; intro a hS)
                  exact hcM199 _ _ (hS.ends 5 199 195 rfl (congrArg Value.bool (by exact (decide_eq_false (by omega)).symm)) rfl rfl (by first | exact congrArg Value.bool (decide_eq_false hg195).symm | exact congrArg Value.bool hg195.symm | simp [hg195]) rfl)
              · clear hS a; (try clear w); intro a w hS
                simp only [List.drop_succ_cons, List.drop_zero]
                refine L_nil ?_
                refine n_then ?_
                first | refine c_ifD hS rfl (fun hc199 => ?_) (fun hc199 => ?_) | refine c_if hS rfl (fun hc199 => ?_) (fun hc199 => ?_)
                ·
                  refine c_region ?_
                  refine L_op (s_e hS (e_move rfl) rfl ?_); clear hS a; intro a hS
                  refine L_op (s_e hS (e_move rfl) rfl ?_); clear hS a; intro a hS
                  refine L_op (s_e hS (e_move rfl) rfl ?_); clear hS a; intro a hS
                  refine L_op (s_e hS (e_move rfl) rfl ?_); clear hS a; intro a hS
                  refine L_op (s_e hS (e_move rfl) rfl ?_); clear hS a; intro a hS
                  refine L_op (s_callM hS (.cons rfl (.cons rfl (.cons rfl (.cons rfl (.cons rfl .nil))))) cf114 rfl (ih p (p + k) (p + md) A (X.take k) (Y.take (md - k)) ((X.drop k ++ Y.drop (md - k)) ++ B) _ (by simp) (by omega) (by omega) pX1 pY1 (hc.sub (fun _ h => List.mem_of_mem_take h) (fun _ h => List.mem_of_mem_take h)) hp (by omega) (by omega) (by omega) lz2 _ (hS.ok (ownA 58 4 (.slice (some ⟨g, 0, none⟩) n c) n ((A ++ ((X.take k ++ Y.take (md - k)) ++ ((X.drop k ++ Y.drop (md - k)) ++ B))).flatMap encE)) (by repeat constructor))) (fun x => (by repeat constructor)) rfl ?_); clear hS a; (try clear w); intro x205 a w hS
                  refine L_nil ?_
                  first
                  | exact ⟨x205.1, (hS.slots (by repeat (first | exact trivial | refine ⟨rfl, ?_⟩))).pick (by repeat (first | exact Pick.nil | (refine Pick.cons (by repeat (first | exact Rem.head | apply Rem.tail)) ?_))), x205.2⟩
                  | (refine ⟨X.take k ++ Y.take (md - k), (hS.slots (by repeat (first | exact trivial | refine ⟨rfl, ?_⟩))).pick (by repeat (first | exact Pick.nil | (refine Pick.cons (by repeat (first | exact Rem.head | apply Rem.tail)) ?_))), .refl _, ?_⟩
                     by_cases e1 : 0 < k
                     · rw [show md - k = 0 from by omega, List.take_zero, List.append_nil]; exact pX1
                     · rw [show k = 0 from by omega, List.take_zero, List.nil_append]
                       rw [show k = 0 from by omega] at pY1; exact pY1)
                ·
                  refine wp_skip ?_
                  first
                  | exact ⟨x205.1, (hS.slots (by repeat (first | exact trivial | refine ⟨rfl, ?_⟩))).pick (by repeat (first | exact Pick.nil | (refine Pick.cons (by repeat (first | exact Rem.head | apply Rem.tail)) ?_))), x205.2⟩
                  | (refine ⟨X.take k ++ Y.take (md - k), (hS.slots (by repeat (first | exact trivial | refine ⟨rfl, ?_⟩))).pick (by repeat (first | exact Pick.nil | (refine Pick.cons (by repeat (first | exact Rem.head | apply Rem.tail)) ?_))), .refl _, ?_⟩
                     by_cases e1 : 0 < k
                     · rw [show md - k = 0 from by omega, List.take_zero, List.append_nil]; exact pX1
                     · rw [show k = 0 from by omega, List.take_zero, List.nil_append]
                       rw [show k = 0 from by omega] at pY1; exact pY1)
            ·
              clear hS a; (try clear w); intro a w hS
              obtain ⟨S1, hS, hS1⟩ := hS
              have lS1 := hS1.len
              rw [List.length_append, lX1, lY1] at lS1
              refine c_seq ?_
              refine c_region ?_
              refine L_op (s_e hS (e_move rfl) rfl ?_); clear hS a; intro a hS
              refine L_op (s_e hS (e_move rfl) rfl ?_); clear hS a; intro a hS
              refine L_op (s_e hS (e_bin rfl rfl rfl) rfl ?_); clear hS a; intro a hS
              refine L_op (s_e hS (e_move rfl) rfl ?_); clear hS a; intro a hS
              refine L_merge 4 213 (.bool (decide (k < X.length ∧ md - k < Y.length))) hS ?_ ?_
              · intro hcM213
                (first | refine g_splitD (t := 209) hS rfl ?_ ?_ | refine g_split (t := 209) hS rfl ?_ ?_) <;> (clear hS; intro hg209 hS)
                ·
                  refine L_go hS rfl rfl (s_e hS (e_move rfl) rfl ?_); clear hS a; intro a hS
                  refine L_go hS rfl rfl (s_e hS (e_move rfl) rfl ?_); clear hS a; intro a hS
                  refine L_go hS rfl rfl (s_e hS (e_bin rfl rfl rfl) rfl ?_); clear hS a; intro a hS
                  first | (refine L_op (s_e hS (e_pick_t rfl rfl) rfl ?_); clear hS a; intro a hS) | (refine L_op (s_e hS (e_pick_f rfl rfl) rfl ?_); clear hS a; intro a hS)
                  exact hcM213 _ _ (hS.ends 5 213 209 rfl (congrArg Value.bool (by rw [decide_eq_decide]; omega)) rfl rfl (by first | exact congrArg Value.bool (decide_eq_true hg209).symm | exact congrArg Value.bool hg209.symm | simp [hg209]) rfl)
                ·
                  refine L_skip_t hS rfl rfl rfl ?_; clear hS a; intro a hS
                  refine L_skip_t hS rfl rfl rfl ?_; clear hS a; intro a hS
                  refine L_skip_t hS rfl rfl rfl ?_; clear hS a; intro a hS
                  first | (refine L_op (s_e hS (e_pick_t rfl rfl) rfl ?_); clear hS a; intro a hS) | (refine L_op (s_e hS (e_pick_f rfl rfl) rfl ?_); clear hS a; intro a hS)
                  exact hcM213 _ _ (hS.ends 5 213 209 rfl (congrArg Value.bool (by exact (decide_eq_false (by omega)).symm)) rfl rfl (by first | exact congrArg Value.bool (decide_eq_false hg209).symm | exact congrArg Value.bool hg209.symm | simp [hg209]) rfl)
              · clear hS a; (try clear w); intro a w hS
                simp only [List.drop_succ_cons, List.drop_zero]
                refine L_nil ?_
                refine n_then ?_
                first | refine c_ifD hS rfl (fun hc213 => ?_) (fun hc213 => ?_) | refine c_if hS rfl (fun hc213 => ?_) (fun hc213 => ?_)
                ·
                  refine c_region ?_
                  refine L_op (s_e hS (e_move rfl) rfl ?_); clear hS a; intro a hS
                  refine L_op (s_e hS (e_move rfl) rfl ?_); clear hS a; intro a hS
                  refine L_op (s_e hS (e_move rfl) rfl ?_); clear hS a; intro a hS
                  refine L_op (s_e hS (e_move rfl) rfl ?_); clear hS a; intro a hS
                  refine L_op (s_e hS (e_move rfl) rfl ?_); clear hS a; intro a hS
                  refine L_op (s_callM hS (.cons rfl (.cons rfl (.cons rfl (.cons rfl (.cons rfl .nil))))) cf114 rfl (ih (p + md) (m + (md - k)) e (A ++ S1) (X.drop k) (Y.drop (md - k)) B (A ++ (S1 ++ ((X.drop k ++ Y.drop (md - k)) ++ B))) (by simp) (by omega) (by omega) pX2 pY2 (hc.sub (fun _ h => List.mem_of_mem_drop h) (fun _ h => List.mem_of_mem_drop h)) (by rw [List.length_append]; omega) (by omega) (by omega) (by omega) (by simp only [List.length_append]; omega) _ (hS.ok (ownA 58 4 (.slice (some ⟨g, 0, none⟩) n c) n ((A ++ (S1 ++ ((X.drop k ++ Y.drop (md - k)) ++ B))).flatMap encE)) (by repeat constructor))) (fun x => (by repeat constructor)) rfl ?_); clear hS a; (try clear w); intro x219 a w hS
                  refine L_nil ?_
                  refine r_norm ?_
                  refine c_retN hS Try.results114 .nil rfl ?_
                  first
                  | (have hM := merge_halves hX hY hc hcut hS1 x219.2
                     have hrow := hS.ok (ownA 58 4 (.slice (some ⟨g, 0, none⟩) n c) n (((A ++ S1) ++ (x219.1 ++ B)).flatMap encE)) (by repeat constructor)
                     have hmine := hS.mine (ownA 58 4 (.slice (some ⟨g, 0, none⟩) n c) n (((A ++ S1) ++ (x219.1 ++ B)).flatMap encE)) (by repeat constructor) rfl
                     rw [show (A ++ S1) ++ (x219.1 ++ B) = A ++ ((S1 ++ x219.1) ++ B) from by simp] at hrow hmine
                     exact ⟨⟨S1 ++ x219.1, hM⟩, rfl, hS.chg, hrow, fun b hb => (hmine b hb).symm⟩)
                  | (have hS2 : IsS (X.drop k ++ Y.drop (md - k)) (X.drop k ++ Y.drop (md - k)) := by
                       refine ⟨.refl _, ?_⟩
                       by_cases e1 : k < X.length
                       · rw [List.drop_of_length_le (show Y.length ≤ md - k by omega), List.append_nil]; exact pX2
                       · rw [List.drop_of_length_le (show X.length ≤ k by omega), List.nil_append]; exact pY2
                     have hM := merge_halves hX hY hc hcut hS1 hS2
                     have hrow := hS.ok (ownA 58 4 (.slice (some ⟨g, 0, none⟩) n c) n ((A ++ (S1 ++ ((X.drop k ++ Y.drop (md - k)) ++ B))).flatMap encE)) (by repeat constructor)
                     have hmine := hS.mine (ownA 58 4 (.slice (some ⟨g, 0, none⟩) n c) n ((A ++ (S1 ++ ((X.drop k ++ Y.drop (md - k)) ++ B))).flatMap encE)) (by repeat constructor) rfl
                     rw [show A ++ (S1 ++ ((X.drop k ++ Y.drop (md - k)) ++ B)) = A ++ ((S1 ++ (X.drop k ++ Y.drop (md - k))) ++ B) from by simp] at hrow hmine
                     exact ⟨⟨S1 ++ (X.drop k ++ Y.drop (md - k)), hM⟩, rfl, hS.chg, hrow, fun b hb => (hmine b hb).symm⟩)
                ·
                  refine wp_skip ?_
                  refine r_norm ?_
                  refine c_retN hS Try.results114 .nil rfl ?_
                  first
                  | (have hM := merge_halves hX hY hc hcut hS1 x219.2
                     have hrow := hS.ok (ownA 58 4 (.slice (some ⟨g, 0, none⟩) n c) n (((A ++ S1) ++ (x219.1 ++ B)).flatMap encE)) (by repeat constructor)
                     have hmine := hS.mine (ownA 58 4 (.slice (some ⟨g, 0, none⟩) n c) n (((A ++ S1) ++ (x219.1 ++ B)).flatMap encE)) (by repeat constructor) rfl
                     rw [show (A ++ S1) ++ (x219.1 ++ B) = A ++ ((S1 ++ x219.1) ++ B) from by simp] at hrow hmine
                     exact ⟨⟨S1 ++ x219.1, hM⟩, rfl, hS.chg, hrow, fun b hb => (hmine b hb).symm⟩)
                  | (have hS2 : IsS (X.drop k ++ Y.drop (md - k)) (X.drop k ++ Y.drop (md - k)) := by
                       refine ⟨.refl _, ?_⟩
                       by_cases e1 : k < X.length
                       · rw [List.drop_of_length_le (show Y.length ≤ md - k by omega), List.append_nil]; exact pX2
                       · rw [List.drop_of_length_le (show X.length ≤ k by omega), List.nil_append]; exact pY2
                     have hM := merge_halves hX hY hc hcut hS1 hS2
                     have hrow := hS.ok (ownA 58 4 (.slice (some ⟨g, 0, none⟩) n c) n ((A ++ (S1 ++ ((X.drop k ++ Y.drop (md - k)) ++ B))).flatMap encE)) (by repeat constructor)
                     have hmine := hS.mine (ownA 58 4 (.slice (some ⟨g, 0, none⟩) n c) n ((A ++ (S1 ++ ((X.drop k ++ Y.drop (md - k)) ++ B))).flatMap encE)) (by repeat constructor) rfl
                     rw [show A ++ (S1 ++ ((X.drop k ++ Y.drop (md - k)) ++ B)) = A ++ ((S1 ++ (X.drop k ++ Y.drop (md - k))) ++ B) from by simp] at hrow hmine
                     exact ⟨⟨S1 ++ (X.drop k ++ Y.drop (md - k)), hM⟩, rfl, hS.chg, hrow, fun b hb => (hmine b hb).symm⟩)
theorem symm_P (g n c : Nat) (hN : n ≤ 1000000) : ∀ N, SymmAt g n c N
  | 0 => fun p m e A X Y B zs _ h1 _ _ _ _ _ _ _ h2 => absurd h2 (by omega)
  | N + 1 => symm_step g n c N hN (symm_P g n c hN N)
end Go.Proofs.Ytheofhegdjjfgaa

namespace Go.Proofs.Ytheofhegdjjfgaa
open Go.RowKit

/-- a slice value that holds those postings; an empty one may stand anywhere. -/
def PsAt (v : Value) (l : List Pst) (w : World) : Prop :=
  (l = [] ∧ ∃ a c, v = .slice a 0 c) ∨ ∃ b off c, l ≠ [] ∧ v = sliceV (some (b, off)) l.length c ∧ RowAt b off 3 (l.map encP) w ∧ b < w.heap.size
structure LO where
  kind : Int
  at_ : Int
  a : Acc
  memo : ByteArray
  ps : List Pst
  pv : Value
def encLO (x : LO) : List Value := [.int .i64 x.kind, .int .i64 x.at_, .string x.a.code, .string x.a.cur, .int .i64 x.a.kind, .bool x.a.mon, .string x.memo, x.pv]
structure LO.fits (x : LO) : Prop where
  at_ : -9223372036854775808 ≤ x.at_ ∧ x.at_ ≤ 9223372036854775807
  code : x.a.code.size ≤ 4611686018427387904
  cur : x.a.cur.size ≤ 4611686018427387904
  memo : x.memo.size ≤ 4611686018427387904
  ps : (∀ y ∈ x.ps, y.fits) ∧ x.ps.length ≤ 4611686018427387904
def losφ (p : Option (Nat × Nat)) (l : List LO) (w : World) : Prop := RowP p 8 (l.map encLO) w ∧ ∀ x ∈ l, PsAt x.pv x.ps w
def losF (p : Option (Nat × Nat)) (l : List LO) (k : Nat) : Prop := (∃ off, p = some (k, off)) ∨ ∃ x ∈ l, x.ps ≠ [] ∧ x.pv.ownBlock = some k
def losA (p : Option (Nat × Nat)) (l : List LO) : Asn := .any (losF p l) (losφ p l) false
theorem heap_lt_ofL {w w' : World} {b : Nat} (h : b < w.heap.size) (hw : w'.heap[b]? = w.heap[b]?) : b < w'.heap.size := by
  rw [Array.getElem?_eq_getElem h] at hw
  exact (Array.getElem?_eq_some_iff.1 hw).1
theorem PsAt.keep {v : Value} {l : List Pst} {w w' : World} (h : PsAt v l w) (hw : ∀ k, l ≠ [] → v.ownBlock = some k → w'.heap[k]? = w.heap[k]?) : PsAt v l w' := by
  rcases h with h | ⟨b, off, c, h1, rfl, h2, h3⟩
  · exact .inl h
  · exact .inr ⟨b, off, c, h1, rfl, h2.keep (hw b h1 rfl), heap_lt_ofL h3 (hw b h1 rfl)⟩
theorem los_ok {p : Option (Nat × Nat)} {l : List LO} {w : World} (h : losφ p l w) (hb : ∀ q, p = some q → q.1 < w.heap.size) : (losA p l).ok w := by
  refine ⟨fun k hk => ?_, fun w' hw => ⟨(ok_rowP h.1 hb).hold w' (fun k hk => hw k (.inl hk)), fun x hx => (h.2 x hx).keep (fun k hk hk2 => hw k (.inr ⟨x, hx, hk, hk2⟩))⟩⟩
  rcases hk with ⟨off, e⟩ | ⟨x, hx, hne, e⟩
  · exact hb _ e
  · rcases h.2 x hx with ⟨h0, _⟩ | ⟨b, off, c, _, ev, _, h3⟩
    · exact absurd h0 hne
    · rw [ev] at e; cases e; exact h3
theorem PsAt.shape {v : Value} {l : List Pst} {w : World} (h : PsAt v l w) : ∃ a c, v = .slice a l.length c := by
  rcases h with ⟨rfl, a, c, rfl⟩ | ⟨b, off, c, _, rfl, _, _⟩
  · exact ⟨a, c, rfl⟩
  · exact ⟨_, c, rfl⟩
theorem PsAt.some {v : Value} {l : List Pst} {w : World} (h : PsAt v l w) (hne : l ≠ []) : ∃ b off c, v = sliceV (some (b, off)) l.length c ∧ RowAt b off 3 (l.map encP) w ∧ b < w.heap.size := by
  rcases h with ⟨h0, _⟩ | ⟨b, off, c, _, h1, h2, h3⟩
  · exact absurd h0 hne
  · exact ⟨b, off, c, h1, h2, h3⟩
theorem los_get {Γ : List Asn} {b off : Nat} {l : List LO} (hm : losA (some (b, off)) l ∈ Γ) {i : Nat} {x : LO} (hx : l[i]? = some x) : ∀ w, Hd Γ w → ∀ j v, (encLO x)[j]? = some v → w.cell? ⟨b, off + i * 8 + j, none⟩ = some v :=
  fun _ hh j v hj => (hh _ hm).1 i (encLO x) (by simp [hx]) j v hj
theorem los_pos {p : Option (Nat × Nat)} {l : List LO} {w : World} (h : losφ p l w) {i : Nat} {x : LO} (hx : l[i]? = some x) : ∃ b off, p = some (b, off) :=
  rowP_some h.1 (i := i) (x := encLO x) (by simp [hx])
def fewLO (o : LO) : Prop := o.a.code.size ≤ 300 ∧ o.a.cur.size ≤ 300 ∧ o.memo.size ≤ 300 ∧ o.ps.length ≤ 60 ∧ ∀ y ∈ o.ps, y.acc.size ≤ 300
instance (o : LO) : Decidable (fewLO o) := by unfold fewLO; infer_instance
def fewLs (l : List LO) : Prop := l.length ≤ 60 ∧ ∀ o ∈ l, fewLO o
instance (l : List LO) : Decidable (fewLs l) := by unfold fewLs; infer_instance
theorem not_fewL {l : List LO} {i : Nat} {x : LO} (hx : l[i]? = some x) (h : ¬ fewLO x) : decide (fewLs l) = false := decide_eq_false (fun hh => h (hh.2 x (List.mem_of_getElem? hx)))

set_option maxRecDepth 100000 in
theorem lFew_P (p : Option (Nat × Nat)) (c : Nat) (l : List LO) (hlen : l.length ≤ 4611686018427387904) (hfit : ∀ x ∈ l, x.fits) (w0 : World) (h : losφ p l w0) (hb : ∀ q, p = some q → q.1 < w0.heap.size) :
     PureC Try.prog 26 [sliceV p l.length c] w0 (.bool (decide (fewLs l))) := by
   refine c_enter [(0, sliceV p l.length c)] [losA p l] noB Try.func26 rfl Try.ntmps26 ⟨rfl, trivial⟩ rfl (okC (los_ok h hb) okN) dis1 (mineC (by rfl) mineN) ?_
   intro a hS
   refine c_seq ?_
   refine c_region ?_
   refine L_op (s_e hS (e_assign rfl) rfl ?_); clear hS a; intro a hS
   refine L_nil ?_
   refine n_then ?_
   refine c_seq ?_
   refine c_seq ?_
   refine c_region ?_
   refine L_op (s_e hS (e_assign rfl) rfl ?_); clear hS a; intro a hS
   refine L_nil ?_
   refine n_then ?_
   refine wp_block ?_
   skip
   refine c_loop (γ := Nat) (fun k a w => St 75 noB w0 a w [(3, .int .i64 (k : Int)), (0, sliceV p l.length c)] [losA p l] ∧ k ≤ l.length ∧ ∀ j, j < k → ∀ y, l[j]? = some y → fewLO y) (fun k => l.length - k) 0 ⟨hS.slots (by repeat (first | exact trivial | refine ⟨rfl, ?_⟩)), Nat.zero_le _, fun j hj => by omega⟩ ?_
   clear hS a; (try clear w); intro k a w hI
   obtain ⟨hS, hk, hno⟩ := hI
   refine c_seq ?_
   refine c_seq ?_
   refine c_region ?_
   refine L_op (s_e hS (e_move rfl) rfl ?_); clear hS a; intro a hS
   refine L_op (s_e hS (e_move rfl) rfl ?_); clear hS a; intro a hS
   refine L_op (s_e hS (e_len rfl rfl ty_sl50) rfl ?_); clear hS a; intro a hS
   refine L_op (s_e hS (e_bin rfl rfl rfl) rfl ?_); clear hS a; intro a hS
   refine L_op (s_e hS (e_move rfl) rfl ?_); clear hS a; intro a hS
   refine L_merge 3 12 (.bool (decide (k < l.length ∧ k ≤ 60))) hS ?_ ?_
   · intro hcM12
     (first | refine g_splitD (t := 9) hS rfl ?_ ?_ | refine g_split (t := 9) hS rfl ?_ ?_) <;> (clear hS; intro hg9 hS)
     ·
       refine L_go hS rfl rfl (s_e hS (e_move rfl) rfl ?_); clear hS a; intro a hS
       refine L_go hS rfl rfl (s_e hS (e_bin rfl rfl rfl) rfl ?_); clear hS a; intro a hS
       first | (refine L_op (s_e hS (e_pick_t rfl rfl) rfl ?_); clear hS a; intro a hS) | (refine L_op (s_e hS (e_pick_f rfl rfl) rfl ?_); clear hS a; intro a hS)
       exact hcM12 _ _ (hS.ends 4 12 9 rfl (congrArg Value.bool (by rw [decide_eq_decide]; omega)) rfl rfl (by first | exact congrArg Value.bool (decide_eq_true hg9).symm | exact congrArg Value.bool hg9.symm | simp [hg9]) rfl)
     ·
       refine L_skip_t hS rfl rfl rfl ?_; clear hS a; intro a hS
       refine L_skip_t hS rfl rfl rfl ?_; clear hS a; intro a hS
       first | (refine L_op (s_e hS (e_pick_t rfl rfl) rfl ?_); clear hS a; intro a hS) | (refine L_op (s_e hS (e_pick_f rfl rfl) rfl ?_); clear hS a; intro a hS)
       exact hcM12 _ _ (hS.ends 4 12 9 rfl (congrArg Value.bool (by exact (decide_eq_false (by omega)).symm)) rfl rfl (by first | exact congrArg Value.bool (decide_eq_false hg9).symm | exact congrArg Value.bool hg9.symm | simp [hg9]) rfl)
   · clear hS a; (try clear w); intro a w hS
     simp only [List.drop_succ_cons, List.drop_zero]
     refine L_nil ?_
     refine n_then ?_
     first | refine c_ifD hS rfl (fun hc12 => ?_) (fun hc12 => ?_) | refine c_if hS rfl (fun hc12 => ?_) (fun hc12 => ?_)
     ·
       obtain ⟨x, hx⟩ : ∃ x, l[k]? = some x := ⟨l[k]'(by omega), List.getElem?_eq_getElem (by omega)⟩
       obtain ⟨b, off, rfl⟩ := los_pos (hS.get (X := losA p l) (by repeat constructor)) hx
       have hxm := List.mem_of_getElem? hx
       obtain ⟨la, lc, hlv⟩ := PsAt.shape ((hS.get (X := losA (some (b, off)) l) (by repeat constructor)).2 x hxm)
       have hxf := hfit x hxm
       have hxl := hxf.ps.2
       refine wp_skip ?_
       refine n_then ?_
       refine c_seq ?_
       refine wp_block ?_
       refine c_seq ?_
       refine c_seq ?_
       refine c_region ?_
       refine L_op (s_e hS (e_move rfl) rfl ?_); clear hS a; intro a hS
       refine L_op (s_e hS (e_move rfl) rfl ?_); clear hS a; intro a hS
       refine L_op (s_e hS (e_ixN rfl rfl ty_sl50 ty_sz72 (by omega)) rfl ?_); clear hS a; intro a hS
       first | (refine L_op (s_e hS (e_fa0 rfl ty_fo72_2) rfl ?_); clear hS a; intro a hS) | (refine L_op (s_e hS (e_faK rfl ty_fo72_2) rfl ?_); clear hS a; intro a hS)
       first | (refine L_op (s_e hS (e_fa0 rfl ty_fo68_0) rfl ?_); clear hS a; intro a hS) | (refine L_op (s_e hS (e_faK rfl ty_fo68_0) rfl ?_); clear hS a; intro a hS)
       refine L_op (s_e hS (e_loadC rfl ty_sc9 (fun w hh => los_get (by repeat constructor) hx w hh 2 (.string x.a.code) rfl)) rfl ?_); clear hS a; intro a hS
       refine L_op (s_e hS (e_lenS rfl rfl ty_u9) rfl ?_); clear hS a; intro a hS
       refine L_op (s_e hS (e_bin rfl rfl rfl) rfl ?_); clear hS a; intro a hS
       refine L_op (s_e hS (e_move rfl) rfl ?_); clear hS a; intro a hS
       (first | refine g_splitD (t := 23) hS rfl ?_ ?_ | refine g_split (t := 23) hS rfl ?_ ?_) <;> (clear hS; intro hg23 hS)
       ·
         refine L_skip_f hS rfl rfl rfl ?_; clear hS a; intro a hS
         refine L_skip_f hS rfl rfl rfl ?_; clear hS a; intro a hS
         refine L_skip_f hS rfl rfl rfl ?_; clear hS a; intro a hS
         refine L_skip_f hS rfl rfl rfl ?_; clear hS a; intro a hS
         refine L_skip_f hS rfl rfl rfl ?_; clear hS a; intro a hS
         refine L_skip_f hS rfl rfl rfl ?_; clear hS a; intro a hS
         refine L_skip_f hS rfl rfl rfl ?_; clear hS a; intro a hS
         refine L_skip_f hS rfl rfl rfl ?_; clear hS a; intro a hS
         first | (refine L_op (s_e hS (e_pick_t rfl rfl) rfl ?_); clear hS a; intro a hS) | (refine L_op (s_e hS (e_pick_f rfl rfl) rfl ?_); clear hS a; intro a hS)
         refine L_op (s_e hS (e_move rfl) rfl ?_); clear hS a; intro a hS
         refine L_skip_f hS rfl rfl rfl ?_; clear hS a; intro a hS
         refine L_skip_f hS rfl rfl rfl ?_; clear hS a; intro a hS
         refine L_skip_f hS rfl rfl rfl ?_; clear hS a; intro a hS
         refine L_skip_f hS rfl rfl rfl ?_; clear hS a; intro a hS
         refine L_skip_f hS rfl rfl rfl ?_; clear hS a; intro a hS
         refine L_skip_f hS rfl rfl rfl ?_; clear hS a; intro a hS
         refine L_skip_f hS rfl rfl rfl ?_; clear hS a; intro a hS
         first | (refine L_op (s_e hS (e_pick_t rfl rfl) rfl ?_); clear hS a; intro a hS) | (refine L_op (s_e hS (e_pick_f rfl rfl) rfl ?_); clear hS a; intro a hS)
         refine L_op (s_e hS (e_move rfl) rfl ?_); clear hS a; intro a hS
         refine L_skip_f hS rfl rfl rfl ?_; clear hS a; intro a hS
         refine L_skip_f hS rfl rfl rfl ?_; clear hS a; intro a hS
         refine L_skip_f hS rfl rfl rfl ?_; clear hS a; intro a hS
         refine L_skip_f hS rfl rfl rfl ?_; clear hS a; intro a hS
         refine L_skip_f hS rfl rfl rfl ?_; clear hS a; intro a hS
         refine L_skip_f hS rfl rfl rfl ?_; clear hS a; intro a hS
         refine L_skip_f hS rfl rfl rfl ?_; clear hS a; intro a hS
         first | (refine L_op (s_e hS (e_pick_t rfl rfl) rfl ?_); clear hS a; intro a hS) | (refine L_op (s_e hS (e_pick_f rfl rfl) rfl ?_); clear hS a; intro a hS)
         refine L_nil ?_
         refine n_then ?_
         refine c_if_t hS rfl ?_
         refine c_seq ?_
         refine c_region ?_
         refine L_op (s_e hS (e_assign rfl) rfl ?_); clear hS a; intro a hS
         refine L_nil ?_
         refine n_then ?_
         refine wp_ret ?_
         refine r_then (r_block (r_then (r_then (r_block (r_then ?_)))))
         refine c_ret1 hS Try.results26 (.tmp rfl) ?_
         exact ⟨by rw [not_fewL hx (by unfold fewLO; omega)], hS.chg⟩
       ·
         refine L_go hS rfl rfl (s_e hS (e_move rfl) rfl ?_); clear hS a; intro a hS
         refine L_go hS rfl rfl (s_e hS (e_move rfl) rfl ?_); clear hS a; intro a hS
         refine L_go hS rfl rfl (s_e hS (e_ixN rfl rfl ty_sl50 ty_sz72 (by omega)) rfl ?_); clear hS a; intro a hS
         first | (refine L_go hS rfl rfl (s_e hS (e_fa0 rfl ty_fo72_2) rfl ?_); clear hS a; intro a hS) | (refine L_go hS rfl rfl (s_e hS (e_faK rfl ty_fo72_2) rfl ?_); clear hS a; intro a hS)
         first | (refine L_go hS rfl rfl (s_e hS (e_fa0 rfl ty_fo68_1) rfl ?_); clear hS a; intro a hS) | (refine L_go hS rfl rfl (s_e hS (e_faK rfl ty_fo68_1) rfl ?_); clear hS a; intro a hS)
         refine L_go hS rfl rfl (s_e hS (e_loadC rfl ty_sc9 (fun w hh => los_get (by repeat constructor) hx w hh 3 (.string x.a.cur) rfl)) rfl ?_); clear hS a; intro a hS
         refine L_go hS rfl rfl (s_e hS (e_lenS rfl rfl ty_u9) rfl ?_); clear hS a; intro a hS
         refine L_go hS rfl rfl (s_e hS (e_bin rfl rfl rfl) rfl ?_); clear hS a; intro a hS
         first | (refine L_op (s_e hS (e_pick_t rfl rfl) rfl ?_); clear hS a; intro a hS) | (refine L_op (s_e hS (e_pick_f rfl rfl) rfl ?_); clear hS a; intro a hS)
         refine L_op (s_e hS (e_move rfl) rfl ?_); clear hS a; intro a hS
         (first | refine g_splitD (t := 33) hS rfl ?_ ?_ | refine g_split (t := 33) hS rfl ?_ ?_) <;> (clear hS; intro hg33 hS)
         ·
           refine L_skip_f hS rfl rfl rfl ?_; clear hS a; intro a hS
           refine L_skip_f hS rfl rfl rfl ?_; clear hS a; intro a hS
           refine L_skip_f hS rfl rfl rfl ?_; clear hS a; intro a hS
           refine L_skip_f hS rfl rfl rfl ?_; clear hS a; intro a hS
           refine L_skip_f hS rfl rfl rfl ?_; clear hS a; intro a hS
           refine L_skip_f hS rfl rfl rfl ?_; clear hS a; intro a hS
           refine L_skip_f hS rfl rfl rfl ?_; clear hS a; intro a hS
           first | (refine L_op (s_e hS (e_pick_t rfl rfl) rfl ?_); clear hS a; intro a hS) | (refine L_op (s_e hS (e_pick_f rfl rfl) rfl ?_); clear hS a; intro a hS)
           refine L_op (s_e hS (e_move rfl) rfl ?_); clear hS a; intro a hS
           refine L_skip_f hS rfl rfl rfl ?_; clear hS a; intro a hS
           refine L_skip_f hS rfl rfl rfl ?_; clear hS a; intro a hS
           refine L_skip_f hS rfl rfl rfl ?_; clear hS a; intro a hS
           refine L_skip_f hS rfl rfl rfl ?_; clear hS a; intro a hS
           refine L_skip_f hS rfl rfl rfl ?_; clear hS a; intro a hS
           refine L_skip_f hS rfl rfl rfl ?_; clear hS a; intro a hS
           refine L_skip_f hS rfl rfl rfl ?_; clear hS a; intro a hS
           first | (refine L_op (s_e hS (e_pick_t rfl rfl) rfl ?_); clear hS a; intro a hS) | (refine L_op (s_e hS (e_pick_f rfl rfl) rfl ?_); clear hS a; intro a hS)
           refine L_nil ?_
           refine n_then ?_
           refine c_if_t hS rfl ?_
           refine c_seq ?_
           refine c_region ?_
           refine L_op (s_e hS (e_assign rfl) rfl ?_); clear hS a; intro a hS
           refine L_nil ?_
           refine n_then ?_
           refine wp_ret ?_
           refine r_then (r_block (r_then (r_then (r_block (r_then ?_)))))
           refine c_ret1 hS Try.results26 (.tmp rfl) ?_
           exact ⟨by rw [not_fewL hx (by unfold fewLO; omega)], hS.chg⟩
         ·
           refine L_go hS rfl rfl (s_e hS (e_move rfl) rfl ?_); clear hS a; intro a hS
           refine L_go hS rfl rfl (s_e hS (e_move rfl) rfl ?_); clear hS a; intro a hS
           refine L_go hS rfl rfl (s_e hS (e_ixN rfl rfl ty_sl50 ty_sz72 (by omega)) rfl ?_); clear hS a; intro a hS
           first | (refine L_go hS rfl rfl (s_e hS (e_fa0 rfl ty_fo72_3) rfl ?_); clear hS a; intro a hS) | (refine L_go hS rfl rfl (s_e hS (e_faK rfl ty_fo72_3) rfl ?_); clear hS a; intro a hS)
           refine L_go hS rfl rfl (s_e hS (e_loadC rfl ty_sc9 (fun w hh => los_get (by repeat constructor) hx w hh 6 (.string x.memo) rfl)) rfl ?_); clear hS a; intro a hS
           refine L_go hS rfl rfl (s_e hS (e_lenS rfl rfl ty_u9) rfl ?_); clear hS a; intro a hS
           refine L_go hS rfl rfl (s_e hS (e_bin rfl rfl rfl) rfl ?_); clear hS a; intro a hS
           first | (refine L_op (s_e hS (e_pick_t rfl rfl) rfl ?_); clear hS a; intro a hS) | (refine L_op (s_e hS (e_pick_f rfl rfl) rfl ?_); clear hS a; intro a hS)
           refine L_op (s_e hS (e_move rfl) rfl ?_); clear hS a; intro a hS
           (first | refine g_splitD (t := 42) hS rfl ?_ ?_ | refine g_split (t := 42) hS rfl ?_ ?_) <;> (clear hS; intro hg42 hS)
           ·
             refine L_skip_f hS rfl rfl rfl ?_; clear hS a; intro a hS
             refine L_skip_f hS rfl rfl rfl ?_; clear hS a; intro a hS
             refine L_skip_f hS rfl rfl rfl ?_; clear hS a; intro a hS
             refine L_skip_f hS rfl rfl rfl ?_; clear hS a; intro a hS
             refine L_skip_f hS rfl rfl rfl ?_; clear hS a; intro a hS
             refine L_skip_f hS rfl rfl rfl ?_; clear hS a; intro a hS
             refine L_skip_f hS rfl rfl rfl ?_; clear hS a; intro a hS
             first | (refine L_op (s_e hS (e_pick_t rfl rfl) rfl ?_); clear hS a; intro a hS) | (refine L_op (s_e hS (e_pick_f rfl rfl) rfl ?_); clear hS a; intro a hS)
             refine L_nil ?_
             refine n_then ?_
             refine c_if_t hS rfl ?_
             refine c_seq ?_
             refine c_region ?_
             refine L_op (s_e hS (e_assign rfl) rfl ?_); clear hS a; intro a hS
             refine L_nil ?_
             refine n_then ?_
             refine wp_ret ?_
             refine r_then (r_block (r_then (r_then (r_block (r_then ?_)))))
             refine c_ret1 hS Try.results26 (.tmp rfl) ?_
             exact ⟨by rw [not_fewL hx (by unfold fewLO; omega)], hS.chg⟩
           ·
             refine L_go hS rfl rfl (s_e hS (e_move rfl) rfl ?_); clear hS a; intro a hS
             refine L_go hS rfl rfl (s_e hS (e_move rfl) rfl ?_); clear hS a; intro a hS
             refine L_go hS rfl rfl (s_e hS (e_ixN rfl rfl ty_sl50 ty_sz72 (by omega)) rfl ?_); clear hS a; intro a hS
             first | (refine L_go hS rfl rfl (s_e hS (e_fa0 rfl ty_fo72_4) rfl ?_); clear hS a; intro a hS) | (refine L_go hS rfl rfl (s_e hS (e_faK rfl ty_fo72_4) rfl ?_); clear hS a; intro a hS)
             refine L_go hS rfl rfl (s_e hS (e_loadC rfl ty_sc56 (fun w hh => los_get (by repeat constructor) hx w hh 7 x.pv rfl)) rfl ?_); clear hS a; intro a hS
             rw [hlv] at hS
             refine L_go hS rfl rfl (s_e hS (e_len rfl rfl ty_sl56) rfl ?_); clear hS a; intro a hS
             refine L_go hS rfl rfl (s_e hS (e_bin rfl rfl rfl) rfl ?_); clear hS a; intro a hS
             first | (refine L_op (s_e hS (e_pick_t rfl rfl) rfl ?_); clear hS a; intro a hS) | (refine L_op (s_e hS (e_pick_f rfl rfl) rfl ?_); clear hS a; intro a hS)
             refine L_nil ?_
             refine n_then ?_
             first | refine c_ifD hS rfl (fun hc50 => ?_) (fun hc50 => ?_) | refine c_if hS rfl (fun hc50 => ?_) (fun hc50 => ?_)
             ·
               refine c_seq ?_
               refine c_region ?_
               refine L_op (s_e hS (e_assign rfl) rfl ?_); clear hS a; intro a hS
               refine L_nil ?_
               refine n_then ?_
               refine wp_ret ?_
               refine r_then (r_block (r_then (r_then (r_block (r_then ?_)))))
               refine c_ret1 hS Try.results26 (.tmp rfl) ?_
               exact ⟨by rw [not_fewL hx (by unfold fewLO; omega)], hS.chg⟩
             ·
               refine wp_skip ?_
               refine n_then ?_
               refine c_seq ?_
               refine c_region ?_
               refine L_op (s_e hS (e_assign rfl) rfl ?_); clear hS a; intro a hS
               refine L_nil ?_
               refine n_then ?_
               refine wp_block ?_
               skip
               refine c_loop (γ := Nat) (fun j a w => St 75 noB w0 a w [(4, .int .i64 (j : Int)), (3, .int .i64 (k : Int)), (0, sliceV (some (b, off)) l.length c)] [losA (some (b, off)) l] ∧ j ≤ x.ps.length ∧ ∀ i, i < j → ∀ y, x.ps[i]? = some y → y.acc.size ≤ 300) (fun j => x.ps.length - j) 0 ⟨(hS.slots (by repeat (first | exact trivial | refine ⟨rfl, ?_⟩))).pick (by repeat (first | exact Pick.nil | (refine Pick.cons (by repeat (first | exact Rem.head | apply Rem.tail)) ?_))), Nat.zero_le _, fun i hi => by omega⟩ ?_
               clear hS a; (try clear w); intro j a w hI
               obtain ⟨hS, hj, hok⟩ := hI
               refine c_seq ?_
               refine c_seq ?_
               refine c_region ?_
               refine L_op (s_e hS (e_move rfl) rfl ?_); clear hS a; intro a hS
               refine L_op (s_e hS (e_move rfl) rfl ?_); clear hS a; intro a hS
               refine L_op (s_e hS (e_move rfl) rfl ?_); clear hS a; intro a hS
               refine L_op (s_e hS (e_ixN rfl rfl ty_sl50 ty_sz72 (by omega)) rfl ?_); clear hS a; intro a hS
               first | (refine L_op (s_e hS (e_fa0 rfl ty_fo72_4) rfl ?_); clear hS a; intro a hS) | (refine L_op (s_e hS (e_faK rfl ty_fo72_4) rfl ?_); clear hS a; intro a hS)
               refine L_op (s_e hS (e_loadC rfl ty_sc56 (fun w hh => los_get (by repeat constructor) hx w hh 7 x.pv rfl)) rfl ?_); clear hS a; intro a hS
               rw [hlv] at hS
               refine L_op (s_e hS (e_len rfl rfl ty_sl56) rfl ?_); clear hS a; intro a hS
               refine L_op (s_e hS (e_bin rfl rfl rfl) rfl ?_); clear hS a; intro a hS
               refine L_nil ?_
               refine n_then ?_
               first | refine c_ifD hS rfl (fun hc58 => ?_) (fun hc58 => ?_) | refine c_if hS rfl (fun hc58 => ?_) (fun hc58 => ?_)
               ·
                 have hjl : j < x.ps.length := by omega
                 obtain ⟨y, hy⟩ : ∃ y, x.ps[j]? = some y := ⟨x.ps[j], List.getElem?_eq_getElem hjl⟩
                 have hne : x.ps ≠ [] := fun e => by rw [e] at hjl; simp at hjl
                 obtain ⟨b2, off2, c2, hlv2, _, _⟩ := PsAt.some ((hS.get (X := losA (some (b, off)) l) (by repeat constructor)).2 x hxm) hne
                 refine wp_skip ?_
                 refine n_then ?_
                 refine c_seq ?_
                 refine wp_block ?_
                 refine c_seq ?_
                 refine c_region ?_
                 refine L_op (s_e hS (e_move rfl) rfl ?_); clear hS a; intro a hS
                 refine L_op (s_e hS (e_move rfl) rfl ?_); clear hS a; intro a hS
                 refine L_op (s_e hS (e_ixN rfl rfl ty_sl50 ty_sz72 (by omega)) rfl ?_); clear hS a; intro a hS
                 first | (refine L_op (s_e hS (e_fa0 rfl ty_fo72_4) rfl ?_); clear hS a; intro a hS) | (refine L_op (s_e hS (e_faK rfl ty_fo72_4) rfl ?_); clear hS a; intro a hS)
                 refine L_op (s_e hS (e_loadC rfl ty_sc56 (fun w hh => los_get (by repeat constructor) hx w hh 7 x.pv rfl)) rfl ?_); clear hS a; intro a hS
                 rw [hlv2] at hS
                 refine L_op (s_e hS (e_move rfl) rfl ?_); clear hS a; intro a hS
                 refine L_op (s_e hS (e_ixN rfl rfl ty_sl56 ty_sz63 (by omega)) rfl ?_); clear hS a; intro a hS
                 first | (refine L_op (s_e hS (e_fa0 rfl ty_fo63_0) rfl ?_); clear hS a; intro a hS) | (refine L_op (s_e hS (e_faK rfl ty_fo63_0) rfl ?_); clear hS a; intro a hS)
                 refine L_op (s_e hS (e_loadC rfl ty_sc9 (fun w hh => by
 obtain ⟨b3, off3, c3, hlv3, hr3, _⟩ := PsAt.some ((hh (losA (some (b, off)) l) (by repeat constructor)).2 x hxm) hne
 rw [hlv2] at hlv3
 obtain ⟨e1, e2⟩ : b2 = b3 ∧ off2 = off3 := by simp [sliceV] at hlv3; exact ⟨hlv3.1.1, hlv3.1.2⟩
 subst e1 e2
 exact hr3 j (encP y) (by simp [hy]) 0 (.string y.acc) rfl)) rfl ?_); clear hS a; intro a hS
                 refine L_op (s_e hS (e_lenS rfl rfl ty_u9) rfl ?_); clear hS a; intro a hS
                 refine L_op (s_e hS (e_bin rfl rfl rfl) rfl ?_); clear hS a; intro a hS
                 refine L_nil ?_
                 refine n_then ?_
                 first | refine c_ifD hS rfl (fun hc71 => ?_) (fun hc71 => ?_) | refine c_if hS rfl (fun hc71 => ?_) (fun hc71 => ?_)
                 ·
                   refine c_seq ?_
                   refine c_region ?_
                   refine L_op (s_e hS (e_assign rfl) rfl ?_); clear hS a; intro a hS
                   refine L_nil ?_
                   refine n_then ?_
                   refine wp_ret ?_
                   refine r_block (r_then (r_then (r_block (r_block (r_then (r_then (r_block (r_then ?_))))))))
                   refine c_ret1 hS Try.results26 (.tmp rfl) ?_
                   exact ⟨by rw [not_fewL hx (fun hf => by have := hf.2.2.2.2 y (List.mem_of_getElem? hy); omega)], hS.chg⟩
                 ·
                   refine wp_skip ?_
                   refine n_block ?_
                   refine n_then ?_
                   refine c_region ?_
                   refine L_op (s_e hS (e_move rfl) rfl ?_); clear hS a; intro a hS
                   first | (refine L_op (s_e hS (e_binN rfl rfl rfl (by omega)) rfl ?_); clear hS a; intro a hS) | (refine L_op (s_e hS (e_bin rfl rfl rfl) rfl ?_); clear hS a; intro a hS)
                   refine L_op (s_e hS (e_assign rfl) rfl ?_); clear hS a; intro a hS
                   refine L_nil ?_
                   exact ⟨j + 1, by omega, hS.slots (by repeat (first | exact trivial | refine ⟨rfl, ?_⟩)), by omega, fun i hi z hz => by
                   by_cases e : i = j
                   · subst e; rw [hy] at hz; cases hz; omega
                   · exact hok i (by omega) z hz⟩
               ·
                 refine wp_exit ?_
                 refine x_then (x_then (x_hit ?_))
                 refine n_block ?_
                 refine n_then ?_
                 refine c_region ?_
                 refine L_op (s_e hS (e_move rfl) rfl ?_); clear hS a; intro a hS
                 first | (refine L_op (s_e hS (e_binN rfl rfl rfl (by omega)) rfl ?_); clear hS a; intro a hS) | (refine L_op (s_e hS (e_bin rfl rfl rfl) rfl ?_); clear hS a; intro a hS)
                 refine L_op (s_e hS (e_assign rfl) rfl ?_); clear hS a; intro a hS
                 refine L_nil ?_
                 have hfx : fewLO x := ⟨by omega, by omega, by omega, by omega, fun z hz => by
                   obtain ⟨i, hi, rfl⟩ := List.mem_iff_getElem.1 hz
                   exact hok i (by omega) _ (List.getElem?_eq_getElem hi)⟩
                 exact ⟨k + 1, by omega, hS.slots (by repeat (first | exact trivial | refine ⟨rfl, ?_⟩)), by omega, fun i hi z hz => by
                   by_cases e : i = k
                   · subst e; rw [hx] at hz; cases hz; exact hfx
                   · exact hno i (by omega) z hz⟩
     ·
       refine wp_exit ?_
       refine x_then (x_then (x_hit ?_))
       refine n_then ?_
       refine c_seq ?_
       refine c_region ?_
       refine L_op (s_e hS (e_move rfl) rfl ?_); clear hS a; intro a hS
       refine L_op (s_e hS (e_len rfl rfl ty_sl50) rfl ?_); clear hS a; intro a hS
       refine L_op (s_e hS (e_bin rfl rfl rfl) rfl ?_); clear hS a; intro a hS
       refine L_op (s_e hS (e_assign rfl) rfl ?_); clear hS a; intro a hS
       refine L_nil ?_
       refine n_then ?_
       refine wp_ret ?_
       refine c_ret1 hS Try.results26 (.tmp rfl) ?_
       have hR : (decide ((l.length : Int) ≤ 60)) = decide (fewLs l) := by
         rw [decide_eq_decide]
         constructor
         · intro h1
           refine ⟨by omega, fun o ho => ?_⟩
           obtain ⟨i, hi, rfl⟩ := List.mem_iff_getElem.1 ho
           exact hno i (by omega) _ (List.getElem?_eq_getElem hi)
         · intro h1; have := h1.1; omega
       exact ⟨by rw [hR], hS.chg⟩

/-! ### no postings at all -/
theorem check_nil (P : PL) (at_ : Int) (memo : ByteArray) : checkE P at_ memo [] ≠ 0 := by
  unfold checkE
  split
  · decide
  · split
    · decide
    · split
      · decide
      · rw [if_pos (.inl (.inl (by decide)))]; decide
set_option maxRecDepth 100000 in
theorem lCheck0_P (B : LB) (s : LS) (q : Option Addr) (c : Nat) (at_ : Int) (memo : ByteArray) (w0 : World) (h : ledφ B s w0) :
    PureC Try.prog 33 [.pointer (some ⟨B.lb, 0, none⟩), .int .i64 at_, .string memo, .slice q 0 c] w0 (.int .i64 (checkE (pl s) at_ memo [])) := by
  refine c_enter [(0, .pointer (some ⟨B.lb, 0, none⟩)), (1, .int .i64 at_), (2, .string memo), (3, .slice q 0 c)] [ledA B s false] noB Try.func33 rfl Try.ntmps33 ⟨rfl, rfl, rfl, rfl, trivial⟩ rfl (okC (led_ok false h) okN) dis1 (mineC (by rfl) mineN) ?_
  intro a hS
  refine c_seq ?_
  refine c_region ?_
  refine L_op (s_e hS (e_assign rfl) rfl ?_); clear hS a; intro a hS
  refine L_nil ?_
  refine n_then ?_
  refine c_seq ?_
  refine wp_block ?_
  refine c_seq ?_
  refine c_region ?_
  refine L_op (s_e hS (e_move rfl) rfl ?_); clear hS a; intro a hS
  refine L_op (s_callP hS (.cons rfl .nil) cf67 rfl (linst_P at_ _) ?_); clear hS a; (try clear w); intro a w hS
  refine L_op (s_e hS (e_not rfl) rfl ?_); clear hS a; intro a hS
  refine L_op (s_e hS (e_assign rfl) rfl ?_); clear hS a; intro a hS
  refine L_nil ?_
  refine n_then ?_
  first | refine c_ifD hS rfl (fun hc14 => ?_) (fun hc14 => ?_) | refine c_if hS rfl (fun hc14 => ?_) (fun hc14 => ?_)
  ·
    refine c_seq ?_
    refine c_region ?_
    refine L_op (s_e hS (e_assign rfl) rfl ?_); clear hS a; intro a hS
    refine L_nil ?_
    refine n_then ?_
    refine wp_ret ?_
    refine r_block (r_then ?_)
    refine c_ret1 hS Try.results33 (.tmp rfl) ?_
    exact ⟨by rw [show checkE (pl s) at_ memo [] = 6 from if_pos (by simpa using hc14)], hS.chg⟩
  ·
    have h1 : ¬ ¬ inst at_ := by simpa using hc14
    refine c_seq ?_
    refine c_region ?_
    refine L_op (s_e hS (e_move rfl) rfl ?_); clear hS a; intro a hS
    refine L_op (s_e hS (e_move rfl) rfl ?_); clear hS a; intro a hS
    refine L_op (s_e hS (e_nilCheck rfl) rfl ?_); clear hS a; intro a hS
    first | (refine L_op (s_e hS (e_fa0 rfl ty_fo129_4) rfl ?_); clear hS a; intro a hS) | (refine L_op (s_e hS (e_faK rfl ty_fo129_4) rfl ?_); clear hS a; intro a hS)
    refine L_op (s_e hS (e_loadC rfl ty_sc3 (led_cell (k := 4) (by repeat constructor) rfl)) rfl ?_); clear hS a; intro a hS
    refine L_op (s_e hS (e_bin rfl rfl rfl) rfl ?_); clear hS a; intro a hS
    refine L_op (s_e hS (e_assign rfl) rfl ?_); clear hS a; intro a hS
    refine L_nil ?_
    refine n_then ?_
    first | refine c_ifD hS rfl (fun hc18 => ?_) (fun hc18 => ?_) | refine c_if hS rfl (fun hc18 => ?_) (fun hc18 => ?_)
    ·
      refine c_seq ?_
      refine c_region ?_
      refine L_op (s_e hS (e_assign rfl) rfl ?_); clear hS a; intro a hS
      refine L_nil ?_
      refine n_then ?_
      refine wp_ret ?_
      refine r_block (r_then ?_)
      refine c_ret1 hS Try.results33 (.tmp rfl) ?_
      exact ⟨by rw [show checkE (pl s) at_ memo [] = 27 by unfold checkE; rw [if_neg h1, if_pos (show at_ ≤ (pl s).closed from hc18)]], hS.chg⟩
    ·
      have h2 : ¬ at_ ≤ (pl s).closed := hc18
      refine c_seq ?_
      refine c_region ?_
      refine L_op (s_e hS (e_move rfl) rfl ?_); clear hS a; intro a hS
      refine L_op (s_e hS (e_lenS rfl rfl ty_u9) rfl ?_); clear hS a; intro a hS
      refine L_op (s_e hS (e_bin rfl rfl rfl) rfl ?_); clear hS a; intro a hS
      refine L_op (s_e hS (e_assign rfl) rfl ?_); clear hS a; intro a hS
      refine L_nil ?_
      refine n_then ?_
      first | refine c_ifD hS rfl (fun hc25 => ?_) (fun hc25 => ?_) | refine c_if hS rfl (fun hc25 => ?_) (fun hc25 => ?_)
      ·
        refine c_seq ?_
        refine c_region ?_
        refine L_op (s_e hS (e_assign rfl) rfl ?_); clear hS a; intro a hS
        refine L_nil ?_
        refine n_then ?_
        refine wp_ret ?_
        refine r_block (r_then ?_)
        refine c_ret1 hS Try.results33 (.tmp rfl) ?_
        exact ⟨by rw [show checkE (pl s) at_ memo [] = 8 by unfold checkE; rw [if_neg h1, if_neg h2, if_pos (by omega)]], hS.chg⟩
      ·
        have h3 : ¬ 100 < memo.size := by omega
        refine c_seq ?_
        refine c_region ?_
        refine L_op (s_e hS (e_move rfl) rfl ?_); clear hS a; intro a hS
        refine L_op (s_e hS (e_len rfl rfl ty_sl56) rfl ?_); clear hS a; intro a hS
        refine L_op (s_e hS (e_bin rfl rfl rfl) rfl ?_); clear hS a; intro a hS
        refine L_op (s_e hS (e_move rfl) rfl ?_); clear hS a; intro a hS
        replace hS := hS.is (t := 33) (c := true) rfl ((by decide))
        refine L_skip_f hS rfl rfl rfl ?_; clear hS a; intro a hS
        refine L_skip_f hS rfl rfl rfl ?_; clear hS a; intro a hS
        refine L_skip_f hS rfl rfl rfl ?_; clear hS a; intro a hS
        first | (refine L_op (s_e hS (e_pick_t rfl rfl) rfl ?_); clear hS a; intro a hS) | (refine L_op (s_e hS (e_pick_f rfl rfl) rfl ?_); clear hS a; intro a hS)
        refine L_op (s_e hS (e_move rfl) rfl ?_); clear hS a; intro a hS
        refine L_skip_f hS rfl rfl rfl ?_; clear hS a; intro a hS
        refine L_skip_f hS rfl rfl rfl ?_; clear hS a; intro a hS
        refine L_skip_f hS rfl rfl rfl ?_; clear hS a; intro a hS
        refine L_skip_f hS rfl rfl rfl ?_; clear hS a; intro a hS
        refine L_skip_f hS rfl rfl rfl ?_; clear hS a; intro a hS
        refine L_skip_f hS rfl rfl rfl ?_; clear hS a; intro a hS
        first | (refine L_op (s_e hS (e_pick_t rfl rfl) rfl ?_); clear hS a; intro a hS) | (refine L_op (s_e hS (e_pick_f rfl rfl) rfl ?_); clear hS a; intro a hS)
        refine L_op (s_e hS (e_assign rfl) rfl ?_); clear hS a; intro a hS
        refine L_nil ?_
        refine n_then ?_
        refine c_if_t hS rfl ?_
        refine c_seq ?_
        refine c_region ?_
        refine L_op (s_e hS (e_assign rfl) rfl ?_); clear hS a; intro a hS
        refine L_nil ?_
        refine n_then ?_
        refine wp_ret ?_
        refine r_block (r_then ?_)
        refine c_ret1 hS Try.results33 (.tmp rfl) ?_
        exact ⟨by rw [show checkE (pl s) at_ memo [] = 9 by unfold checkE; rw [if_neg h1, if_neg h2, if_neg h3, if_pos (.inl (.inl (by decide)))]], hS.chg⟩
set_option maxRecDepth 100000 in
theorem lPost0_P (B : LB) (s : LS) (q : Option Addr) (c : Nat) (at_ : Int) (memo : ByteArray) (w0 : World) (h : ledφ B s w0) :
    PureC Try.prog 32 [.pointer (some ⟨B.lb, 0, none⟩), .int .i64 at_, .string memo, .slice q 0 c] w0 (.tuple [.int .i64 (postI (pl s) at_ memo []), .int .i64 (checkE (pl s) at_ memo [])].toArray) := by
  have hn := check_nil (pl s) at_ memo
  have hI : postI (pl s) at_ memo [] = 0 := if_neg hn
  refine c_enter [(0, .pointer (some ⟨B.lb, 0, none⟩)), (1, .int .i64 at_), (2, .string memo), (3, .slice q 0 c)] [ledA B s false] noB Try.func32 rfl Try.ntmps32 ⟨rfl, rfl, rfl, rfl, trivial⟩ rfl (okC (led_ok false h) okN) dis1 (mineC (by rfl) mineN) ?_
  intro a hS
  refine c_seq ?_
  refine c_region ?_
  refine L_op (s_e hS (e_assign rfl) rfl ?_); clear hS a; intro a hS
  refine L_op (s_e hS (e_assign rfl) rfl ?_); clear hS a; intro a hS
  refine L_nil ?_
  refine n_then ?_
  refine c_seq ?_
  refine c_seq ?_
  refine c_region ?_
  refine L_op (s_e hS (e_move rfl) rfl ?_); clear hS a; intro a hS
  refine L_op (s_e hS (e_move rfl) rfl ?_); clear hS a; intro a hS
  refine L_op (s_e hS (e_move rfl) rfl ?_); clear hS a; intro a hS
  refine L_op (s_e hS (e_move rfl) rfl ?_); clear hS a; intro a hS
  refine L_op (s_callP hS (.cons rfl (.cons rfl (.cons rfl (.cons rfl .nil)))) cf33 rfl (lCheck0_P B s q c at_ memo _ (hS.get (X := ledA B s false) (by repeat constructor))) ?_); clear hS a; (try clear w); intro a w hS
  refine L_op (s_e hS (e_assign rfl) rfl ?_); clear hS a; intro a hS
  refine L_nil ?_
  refine n_then ?_
  refine c_seq ?_
  refine c_region ?_
  refine L_op (s_e hS (e_move rfl) rfl ?_); clear hS a; intro a hS
  refine L_op (s_e hS (e_bin rfl rfl rfl) rfl ?_); clear hS a; intro a hS
  refine L_nil ?_
  refine n_then ?_
  replace hS := hS.is (t := 20) (c := true) rfl ((decide_eq_true hn))
  refine c_if_t hS rfl ?_
  refine c_seq ?_
  refine c_region ?_
  refine L_op (s_e hS (e_move rfl) rfl ?_); clear hS a; intro a hS
  refine L_op (s_e hS (e_assign rfl) rfl ?_); clear hS a; intro a hS
  refine L_op (s_e hS (e_assign rfl) rfl ?_); clear hS a; intro a hS
  refine L_nil ?_
  refine n_then ?_
  refine wp_ret ?_
  refine r_then ?_
  refine c_retN hS Try.results32 (.cons (.tmp rfl) (.cons (.tmp rfl) .nil)) rfl ?_
  exact ⟨by rw [hI], hS.chg⟩
end Go.Proofs.Ytheofhegdjjfgaa

namespace Go.Proofs.Ytheofhegdjjfgaa

/-! ### postings that may be posted -/
theorem postE_zero {acs : List Acc} : ∀ (ps : List Pst) (seen : List ByteArray), postE acs ps seen = 0 → (∀ p ∈ ps, (findA acs p.acc).isSome = true ∧ ¬ p.acc ∈ seen ∧ inU p.u ∧ inU p.f) ∧ ps.Pairwise fun p q => p.acc ≠ q.acc
  | [], _, _ => ⟨fun p hp => (by cases hp), .nil⟩
  | x :: r, seen, h => by
    rw [postE_cons] at h
    split at h
    · cases h
    · rename_i h1
      split at h
      · cases h
      · rename_i h2
        split at h
        · cases h
        · rename_i h3
          obtain ⟨i1, i2⟩ := postE_zero r _ h
          have h1' : (findA acs x.acc).isSome = true := by
            cases e : (findA acs x.acc).isSome with
            | true => rfl
            | false => exact absurd e h1
          refine ⟨fun p hp => ?_, List.pairwise_cons.2 ⟨fun q hq e => (i1 q hq).2.1 (by rw [← e]; simp), i2⟩⟩
          rcases List.mem_cons.1 hp with rfl | hp
          · exact ⟨h1', h2, Classical.byContradiction fun e => h3 (.inl e), Classical.byContradiction fun e => h3 (.inr e)⟩
          · obtain ⟨a1, a2, a3⟩ := i1 p hp
            exact ⟨a1, fun e => a2 (List.mem_append.2 (.inl e)), a3⟩
theorem postE_of {acs : List Acc} : ∀ (ps : List Pst) (seen : List ByteArray), (∀ p ∈ ps, (findA acs p.acc).isSome = true ∧ ¬ p.acc ∈ seen ∧ inU p.u ∧ inU p.f) → (ps.Pairwise fun p q => p.acc ≠ q.acc) → postE acs ps seen = 0
  | [], _, _, _ => rfl
  | x :: r, seen, h, hp => by
    obtain ⟨h1, h2, h3, h4⟩ := h x (.head _)
    have hp2 := List.pairwise_cons.1 hp
    rw [postE_cons, if_neg (by rw [h1]; decide), if_neg h2, if_neg (fun e => e.elim (fun e => e h3) (fun e => e h4))]
    refine postE_of r _ (fun p hp => ?_) hp2.2
    obtain ⟨a1, a2, a3⟩ := h p (.tail _ hp)
    refine ⟨a1, fun e => ?_, a3⟩
    rcases List.mem_append.1 e with e | e
    · exact a2 e
    · exact hp2.1 p hp (List.mem_singleton.1 e).symm
/-- the units of a currency. -/
def curSum (acs : List Acc) (c : ByteArray) (ps : List Pst) : Int := ps.foldl (fun g p => if curOf acs p.acc = c then g + p.u else g) 0
theorem cur_fold (acs : List Acc) (c : ByteArray) (ps : List Pst) : ∀ g : Int, ps.foldl (fun g p => if curOf acs p.acc = c then g + p.u else g) g = g + curSum acs c ps := by
  unfold curSum
  induction ps with
  | nil => intro g; simp
  | cons p r ih =>
    intro g
    rw [List.foldl_cons, List.foldl_cons, ih, ih (if curOf acs p.acc = c then 0 + p.u else 0)]
    split <;> omega
theorem curSum_cons (acs : List Acc) (c : ByteArray) (p : Pst) (r : List Pst) : curSum acs c (p :: r) = (if curOf acs p.acc = c then p.u else 0) + curSum acs c r := by
  have h := cur_fold acs c r (if curOf acs p.acc = c then 0 + p.u else 0)
  unfold curSum at h ⊢
  rw [List.foldl_cons, h]
  split <;> omega
theorem by_cur (acs : List Acc) (c : ByteArray) (ps : List Pst) : ∀ t, (totOf (ps.foldl (byStep acs) t) c).1 = (totOf t c).1 + curSum acs c ps := by
  induction ps with
  | nil => intro t; simp [curSum]
  | cons p r ih =>
    intro t
    rw [List.foldl_cons, ih, curSum_cons]
    unfold byStep
    rw [totOf_put]
    by_cases e : curOf acs p.acc = c
    · rw [if_pos e, if_pos e, e]; unfold addS; simp only; omega
    · rw [if_neg e, if_neg e]; omega
theorem putT_keys (c : ByteArray) (s : SM) : ∀ t : List (ByteArray × SM), (t.map (·.1)).Nodup → ((putT t c s).map (·.1)).Nodup ∧ ∀ k, k ∈ (putT t c s).map (·.1) → k = c ∨ k ∈ t.map (·.1)
  | [], _ => ⟨by simp [putT], fun k hk => .inl (by simpa [putT] using hk)⟩
  | (k0, u) :: l, h => by
    have h2 := List.nodup_cons.1 h
    obtain ⟨i1, i2⟩ := putT_keys c s l h2.2
    unfold putT
    by_cases e : k0 = c
    · rw [if_pos e]
      refine ⟨by rw [List.map_cons, ← e]; exact h, fun k hk => ?_⟩
      rw [List.map_cons] at hk
      rcases List.mem_cons.1 hk with hk | hk
      · exact .inl hk
      · exact .inr (.tail _ hk)
    · rw [if_neg e]
      refine ⟨List.nodup_cons.2 ⟨fun hm => ?_, i1⟩, fun k hk => ?_⟩
      · rcases i2 k0 hm with q | q
        · exact e q
        · exact h2.1 q
      · rw [List.map_cons] at hk
        rcases List.mem_cons.1 hk with hk | hk
        · exact .inr (by rw [hk]; exact .head _)
        · rcases i2 k hk with q | q
          · exact .inl q
          · exact .inr (.tail _ q)
theorem by_keys (acs : List Acc) (ps : List Pst) : ∀ t : List (ByteArray × SM), (t.map (·.1)).Nodup → ((ps.foldl (byStep acs) t).map (·.1)).Nodup := by
  induction ps with
  | nil => intro t h; exact h
  | cons p r ih => intro t h; exact ih _ (putT_keys _ _ t h).1
theorem totOf_entry {t : List (ByteArray × SM)} (h : (t.map (·.1)).Nodup) {e : ByteArray × SM} (he : e ∈ t) : totOf t e.1 = e.2 := by
  induction t with
  | nil => cases he
  | cons a r ih =>
    have h2 := List.nodup_cons.1 h
    unfold totOf
    rw [List.find?_cons]
    rcases List.mem_cons.1 he with rfl | he
    · simp
    · have hne : ¬ a.1 = e.1 := fun e2 => h2.1 (by show a.1 ∈ _; rw [e2]; exact List.mem_map.2 ⟨e, he, rfl⟩)
      simp only [hne, decide_false]
      exact ih h2.2 he
/-- postings sum up to zero: each currency does, and the functional one. -/
theorem even_iff (acs : List Acc) (ps : List Pst) : evenF acs ps ↔ (∀ c, curSum acs c ps = 0) ∧ sumFn ps = 0 := by
  unfold evenF
  constructor
  · rintro ⟨h1, h2⟩
    refine ⟨fun c => ?_, h2⟩
    have h3 := by_cur acs c ps []
    have h4 : (totOf (byF acs ps) c).1 = 0 := by
      rcases totOf_mem (byF acs ps) c with e | ⟨e, he, _, e2⟩
      · rw [e]
      · rw [← e2]; exact h1 e he
    have h5 : (totOf ([] : List (ByteArray × SM)) c).1 = 0 := rfl
    unfold byF at h4
    omega
  · rintro ⟨h1, h2⟩
    refine ⟨fun e he => ?_, h2⟩
    have h3 := by_cur acs e.1 ps []
    have h4 := totOf_entry (by_keys acs ps [] .nil) (show e ∈ ps.foldl (byStep acs) [] from he)
    have h5 : (totOf ([] : List (ByteArray × SM)) e.1).1 = 0 := rfl
    have h6 := h1 e.1
    rw [h4] at h3
    omega

/-! ### ledgers -/
structure goodE (acs : List Acc) (ps : List Pst) : Prop where
  each : ∀ p ∈ ps, (findA acs p.acc).isSome = true ∧ inU p.u ∧ inU p.f
  apart : ps.Pairwise fun p q => p.acc ≠ q.acc
  even : (∀ c, curSum acs c ps = 0) ∧ sumFn ps = 0
structure wfP (P : PL) (n : Nat) : Prop where
  fit : ∀ x ∈ P.es, ∀ p ∈ x.ps, p.fits
  le : P.es.length ≤ n
  ps : ∀ x ∈ P.es, x.ps.length ≤ 50
  bal : balT P.tot
  la : P.acs.length ≤ n + 4
  at_ : ∀ x ∈ P.es, inst x.at_
  nod : (codesA P.acs).Nodup
  sum : ∀ c, totOf P.tot c = (P.es.flatMap (·.ps)).foldl (balStep c) (0, 0)
  evn : ∀ x ∈ P.es, goodE P.acs x.ps
theorem wfP.fitL {P : PL} {n : Nat} (h : wfP P n) (hn : n ≤ 100000) : fitL P := ⟨h.fit, by have := h.le; omega, h.ps⟩
def openEP (P : PL) (a : Acc) : Int :=
  if ¬ ValidN a.code.data.toList then 1 else if (scaleR a.cur).2 ≠ 0 then 18 else if a.kind < 1 ∨ 5 < a.kind then 7 else if (findA P.acs a.code).isSome = true then 3 else if 200 ≤ P.acs.length then 9 else 0
def openP (P : PL) (a : Acc) : PL := if openEP P a = 0 then { P with acs := P.acs ++ [a] } else P
def closeEP (P : PL) (at_ : Int) : Int := if ¬ inst at_ then 6 else if at_ ≤ P.closed then 34 else 0
def closeP (P : PL) (at_ : Int) : PL := if closeEP P at_ = 0 then { P with closed := at_ } else P
theorem pl_open (s : LS) (a : Acc) : pl (openL s a) = openP (pl s) a := by
  show pl (if openE s a = 0 then _ else _) = if openEP (pl s) a = 0 then _ else _
  have e : openE s a = openEP (pl s) a := rfl
  rw [e]
  split <;> rfl
theorem pl_close (s : LS) (at_ : Int) : pl (closeL s at_) = closeP (pl s) at_ := by
  show pl (if closeE s at_ = 0 then _ else _) = if closeEP (pl s) at_ = 0 then _ else _
  have e : closeE s at_ = closeEP (pl s) at_ := rfl
  rw [e]
  split <;> rfl
def stepP (P : PL) (o : LO) : PL := if o.kind = 0 then openP P o.a else if o.kind = 1 then postP P o.at_ o.memo o.ps else if o.kind = 2 then closeP P o.at_ else P
theorem find_grow {acs : List Acc} {a : Acc} {c : ByteArray} (h : (findA acs c).isSome = true) : findA (acs ++ [a]) c = findA acs c := by
  unfold findA at *
  rw [List.find?_append]
  obtain ⟨x, hx⟩ := Option.isSome_iff_exists.1 h
  rw [hx]; rfl
theorem cur_grow {acs : List Acc} {a : Acc} {ps : List Pst} (h : ∀ p ∈ ps, (findA acs p.acc).isSome = true) (c : ByteArray) : curSum (acs ++ [a]) c ps = curSum acs c ps := by
  induction ps with
  | nil => rfl
  | cons p r ih =>
    rw [curSum_cons, curSum_cons, ih (fun q hq => h q (.tail _ hq))]
    have e : curOf (acs ++ [a]) p.acc = curOf acs p.acc := by unfold curOf accOf; rw [find_grow (h p (.head _))]
    rw [e]
theorem goodE.grow {acs : List Acc} {a : Acc} {ps : List Pst} (h : goodE acs ps) : goodE (acs ++ [a]) ps :=
  ⟨fun p hp => ⟨by rw [find_grow (h.each p hp).1]; exact (h.each p hp).1, (h.each p hp).2⟩, h.apart, fun c => by rw [cur_grow (fun p hp => (h.each p hp).1)]; exact h.even.1 c, h.even.2⟩
theorem wf_open {P : PL} {n : Nat} (h : wfP P n) (a : Acc) : wfP (openP P a) (n + 1) := by
  unfold openP
  split
  · rename_i hE
    have hnf : (findA P.acs a.code).isSome = false := by
      unfold openEP at hE
      split at hE
      · cases hE
      · split at hE
        · cases hE
        · split at hE
          · cases hE
          · split at hE
            · cases hE
            · rename_i h4
              cases e : (findA P.acs a.code).isSome with
              | false => rfl
              | true => exact absurd e h4
    refine ⟨h.fit, Nat.le_succ_of_le h.le, h.ps, h.bal, by have := h.la; simp; omega, h.at_, ?_, h.sum, fun x hx => (h.evn x hx).grow⟩
    unfold codesA
    rw [List.map_append]
    refine List.nodup_append.2 ⟨h.nod, by simp, fun c hc d hd e => ?_⟩
    obtain rfl : d = a.code := by simpa using hd
    obtain ⟨y, hy, hyc⟩ := List.mem_map.1 hc
    unfold findA at hnf
    rw [Option.isSome_eq_false_iff, Option.isNone_iff_eq_none] at hnf
    have := List.find?_eq_none.1 hnf y hy
    exact this (by simp; rw [hyc, e])
  · exact ⟨h.fit, Nat.le_succ_of_le h.le, h.ps, h.bal, by have := h.la; omega, h.at_, h.nod, h.sum, h.evn⟩
theorem wf_close {P : PL} {n : Nat} (h : wfP P n) (at_ : Int) : wfP (closeP P at_) (n + 1) := by
  unfold closeP
  split
  · exact ⟨h.fit, Nat.le_succ_of_le h.le, h.ps, h.bal, by have := h.la; simp only; omega, h.at_, h.nod, h.sum, h.evn⟩
  · exact ⟨h.fit, Nat.le_succ_of_le h.le, h.ps, h.bal, by have := h.la; omega, h.at_, h.nod, h.sum, h.evn⟩
theorem bal_post {ps : List Pst} : ∀ {t : List (ByteArray × SM)}, balT t → (ps.Pairwise fun p q => p.acc ≠ q.acc) → (∀ p ∈ ps, okS (addS (totOf t p.acc) p)) → balT (totS t ps) := by
  induction ps with
  | nil => intro t h _ _; exact h
  | cons p r ih =>
    intro t h hp hk
    have hp2 := List.pairwise_cons.1 hp
    refine ih (t := putT t p.acc (addS (totOf t p.acc) p)) (fun e he => ?_) hp2.2 (fun q hq => ?_)
    · rcases putT_mem he with rfl | he
      · exact hk p (.head _)
      · exact h e he
    · rw [totOf_put, if_neg (hp2.1 q hq)]; exact hk q (.tail _ hq)
structure checkOk (P : PL) (at_ : Int) (memo : ByteArray) (ps : List Pst) : Prop where
  inst : inst at_
  open_ : P.closed < at_
  memo : memo.size ≤ 100
  few : 2 ≤ ps.length ∧ ps.length ≤ 50
  es : P.es.length < 2000
  post : postE P.acs ps [] = 0
  even : evenF P.acs ps
  bal : ∀ x ∈ ps, okS (addS (totOf P.tot x.acc) x)
theorem check_iff (P : PL) (at_ : Int) (memo : ByteArray) (ps : List Pst) : checkE P at_ memo ps = 0 ↔ checkOk P at_ memo ps := by
  constructor
  · intro h
    unfold checkE at h
    split at h
    · cases h
    · rename_i h1
      split at h
      · cases h
      · rename_i h2
        split at h
        · cases h
        · rename_i h3
          split at h
          · cases h
          · rename_i h4
            split at h
            · rename_i h5; exact absurd h h5
            · rename_i h5
              split at h
              · cases h
              · rename_i h6
                split at h
                · cases h
                · rename_i h7
                  exact ⟨Classical.not_not.1 h1, by omega, by omega, by omega, by omega, Classical.not_not.1 h5, Classical.not_not.1 h6, fun x hx => Classical.byContradiction fun e => h7 ⟨x, hx, e⟩⟩
  · intro h
    obtain ⟨a1, a2, a3, a4, a5, a6, a7, a8⟩ := h
    unfold checkE
    rw [if_neg (fun e => e a1), if_neg (by omega), if_neg (by omega), if_neg (by omega), if_neg (fun e => e a6), if_neg (fun e => e a7), if_neg (fun ⟨x, hx, e⟩ => e (a8 x hx))]
theorem totS_tri (t : List (ByteArray × SM)) (ps : List Pst) : totS t ps = ps.foldl triStep t := rfl
theorem wf_post {P : PL} {n : Nat} (h : wfP P n) (at_ : Int) (memo : ByteArray) (ps : List Pst) (hf : ∀ p ∈ ps, p.fits) : wfP (postP P at_ memo ps) (n + 1) := by
  unfold postP
  split
  · rename_i hE
    have hc := (check_iff P at_ memo ps).1 hE
    obtain ⟨g1, g2⟩ := postE_zero ps [] hc.post
    have hg : goodE P.acs ps := ⟨fun p hp => ⟨(g1 p hp).1, (g1 p hp).2.2⟩, g2, (even_iff P.acs ps).1 hc.even⟩
    refine ⟨fun x hx => ?_, by have := h.le; simp; omega, fun x hx => ?_, bal_post h.bal g2 hc.bal, by have := h.la; simp only; omega, fun x hx => ?_, h.nod, fun c => ?_, fun x hx => ?_⟩
    · rcases List.mem_append.1 hx with hx | hx
      · exact h.fit x hx
      · obtain rfl := List.mem_singleton.1 hx; exact hf
    · rcases List.mem_append.1 hx with hx | hx
      · exact h.ps x hx
      · obtain rfl := List.mem_singleton.1 hx; exact hc.few.2
    · rcases List.mem_append.1 hx with hx | hx
      · exact h.at_ x hx
      · obtain rfl := List.mem_singleton.1 hx; exact hc.inst
    · simp only
      rw [totS_tri, tri_sum, h.sum c, List.flatMap_append, List.foldl_append]
      simp
    · rcases List.mem_append.1 hx with hx | hx
      · exact h.evn x hx
      · obtain rfl := List.mem_singleton.1 hx; exact hg
  · exact ⟨h.fit, Nat.le_succ_of_le h.le, h.ps, h.bal, by have := h.la; omega, h.at_, h.nod, h.sum, h.evn⟩
theorem wf_step {P : PL} {n : Nat} (h : wfP P n) (o : LO) (ho : o.fits) : wfP (stepP P o) (n + 1) := by
  unfold stepP
  split
  · exact wf_open h o.a
  · split
    · exact wf_post h o.at_ o.memo o.ps ho.ps.1
    · split
      · exact wf_close h o.at_
      · exact ⟨h.fit, Nat.le_succ_of_le h.le, h.ps, h.bal, by have := h.la; omega, h.at_, h.nod, h.sum, h.evn⟩
end Go.Proofs.Ytheofhegdjjfgaa

namespace Go.Proofs.Ytheofhegdjjfgaa
open Go.RowKit

def usdL : ByteArray := ⟨#[85, 83, 68]⟩
def eurL : ByteArray := ⟨#[69, 85, 82]⟩
def aBank : Acc := ⟨⟨#[98, 97, 110, 107]⟩, usdL, 1, true⟩
def aSales : Acc := ⟨⟨#[115, 97, 108, 101, 115]⟩, usdL, 4, false⟩
def aTill : Acc := ⟨⟨#[116, 105, 108, 108]⟩, eurL, 1, true⟩
def aFees : Acc := ⟨⟨#[102, 101, 101, 115]⟩, eurL, 4, false⟩
def chartL : List Acc := [aBank, aSales, aTill, aFees]
set_option maxRecDepth 100000 in
theorem lChart_P (w0 : World) : NewC Try.prog 62 [] w0 (fun b : Nat => .slice (some ⟨b, 0, none⟩) 4 4) (fun b => .blk b (chartL.flatMap encAc) 68) := by
  refine c_enter [] [] noB Try.func62 rfl Try.ntmps62 trivial rfl (by simp) (by simp) (by simp) ?_
  intro a hS
  refine c_seq ?_
  refine c_region ?_
  refine L_op (s_e hS (e_assign rfl) rfl ?_); clear hS a; intro a hS
  refine L_nil ?_
  refine n_then ?_
  refine c_seq ?_
  refine c_region ?_
  refine L_op (s_e hS (e_build ty_z68 ty_pl68 (.one rfl rfl rfl (by repeat constructor) (.one rfl rfl rfl (by repeat constructor) (.one rfl rfl rfl (by repeat constructor) (.one rfl rfl rfl (by repeat constructor) .nil))))) rfl ?_); clear hS a; intro a hS
  refine L_op (s_e hS (e_build ty_z68 ty_pl68 (.one rfl rfl rfl (by repeat constructor) (.one rfl rfl rfl (by repeat constructor) (.one rfl rfl rfl (by repeat constructor) .nil)))) rfl ?_); clear hS a; intro a hS
  refine L_op (s_e hS (e_build ty_z68 ty_pl68 (.one rfl rfl rfl (by repeat constructor) (.one rfl rfl rfl (by repeat constructor) (.one rfl rfl rfl (by repeat constructor) (.one rfl rfl rfl (by repeat constructor) .nil))))) rfl ?_); clear hS a; intro a hS
  refine L_op (s_e hS (e_build ty_z68 ty_pl68 (.one rfl rfl rfl (by repeat constructor) (.one rfl rfl rfl (by repeat constructor) (.one rfl rfl rfl (by repeat constructor) .nil)))) rfl ?_); clear hS a; intro a hS
  refine L_op (s_bslice hS ty_sl65 ty_sz68 ty_z68 rfl rfl rfl rfl (.agg rfl rfl (.agg rfl rfl (.agg rfl rfl (.agg rfl rfl .nil)))) rfl ?_); clear hS a; (try clear w); intro a w b5 hS
  refine L_op (s_e hS (e_assign rfl) rfl ?_); clear hS a; intro a hS
  refine L_nil ?_
  refine n_then ?_
  refine wp_ret ?_
  refine c_ret1 hS Try.results62 (.tmp rfl) ?_
  exact ⟨b5, rfl, hS.chg, hS.new (.head _) rfl⟩
theorem blkrow_getL {Γ : List Asn} {α : Type} {enc : α → List Value} {s E b : Nat} {xs : List α} (hm : Asn.blk b (xs.flatMap enc) E ∈ Γ) (hl : ∀ x, (enc x).length = s) {i : Nat} {x : α} (hx : xs[i]? = some x) : ∀ w, Hd Γ w → ∀ j v, (enc x)[j]? = some v → w.cell? ⟨b, 0 + i * s + j, none⟩ = some v := fun w hh j v hj =>
  cell_of_blk (E := E) (hh _ hm) (by rw [Nat.zero_add]; exact flat_get enc s hl xs i x hx j v hj)
def P0 : PL := ⟨usdL, [], [], [], -1⟩
def P4 : PL := ⟨usdL, chartL, [], [], -1⟩
theorem chart_made : chartL.foldl openP P0 = P4 := by
  have e1 : openEP P0 aBank = 0 := by decide +kernel
  have e2 : openEP ⟨usdL, [aBank], [], [], -1⟩ aSales = 0 := by decide +kernel
  have e3 : openEP ⟨usdL, [aBank, aSales], [], [], -1⟩ aTill = 0 := by decide +kernel
  have e4 : openEP ⟨usdL, [aBank, aSales, aTill], [], [], -1⟩ aFees = 0 := by decide +kernel
  have s1 : openP P0 aBank = ⟨usdL, [aBank], [], [], -1⟩ := if_pos e1
  have s2 : openP ⟨usdL, [aBank], [], [], -1⟩ aSales = ⟨usdL, [aBank, aSales], [], [], -1⟩ := if_pos e2
  have s3 : openP ⟨usdL, [aBank, aSales], [], [], -1⟩ aTill = ⟨usdL, [aBank, aSales, aTill], [], [], -1⟩ := if_pos e3
  have s4 : openP ⟨usdL, [aBank, aSales, aTill], [], [], -1⟩ aFees = P4 := if_pos e4
  show openP (openP (openP (openP P0 aBank) aSales) aTill) aFees = P4
  rw [s1, s2, s3, s4]
theorem wf4 : wfP P4 0 := ⟨fun x hx => (by cases hx), Nat.le_refl _, fun x hx => (by cases hx), fun e he => (by cases he), by decide, fun x hx => (by cases hx), by decide +kernel, fun c => rfl, fun x hx => (by cases hx)⟩
def madeP (l : List LO) : PL := l.foldl stepP P4
theorem madeP_take {l : List LO} {i : Nat} {o : LO} (h : l[i]? = some o) : madeP (l.take (i + 1)) = stepP (madeP (l.take i)) o := by
  unfold madeP; rw [List.take_add_one, h, List.foldl_append]; rfl
theorem wf_made {l : List LO} (hf : ∀ o ∈ l, o.fits) : ∀ i, i ≤ l.length → wfP (madeP (l.take i)) i
  | 0, _ => wf4
  | i + 1, h => by
    have hx : l[i]? = some l[i] := List.getElem?_eq_getElem (by omega)
    rw [madeP_take hx]
    exact wf_step (wf_made hf i (by omega)) _ (hf _ (List.getElem_mem _))

theorem pure_mutL {γ : Type} {P : Program} {f : FuncId} {args : List Value} {w : World} {v : Value} {X : Asn} {V : γ → Value} {Y : γ → Asn} (h : PureC P f args w v) (hX : X.ok w) (g : γ) (hv : V g = v) (hY : Y g = X) : MutC P f args w X V Y :=
  h.mono fun e w' ⟨he, hc⟩ => ⟨g, by rw [hv]; exact he, hc.mono (fun _ hf => hf.elim), by rw [hY]; exact hX.keep hc (fun _ _ hf => hf), fun b hb => .inl (by rw [hY] at hb; exact hb)⟩
/-- Post, whatever slice holds the postings. -/
theorem postAny_P (B : LB) (s : LS) (pv : Value) (at_ : Int) (memo : ByteArray) (ps : List Pst) (hlen : ps.length ≤ 4611686018427387904) (hfit : ∀ x ∈ ps, x.fits) (hbt : balT s.tot) (hes : s.es.length ≤ 100000) (w0 : World) (h : ledφ B s w0) (hp : PsAt pv ps w0) (hd : ∀ k, ps ≠ [] → pv.ownBlock = some k → ¬ ledF B s k) :
    MutC Try.prog 32 [.pointer (some ⟨B.lb, 0, none⟩), .int .i64 at_, .string memo, pv] w0 (ledA B s true) (fun _ : { y : LS // pl y = postP (pl s) at_ memo ps } => .tuple [.int .i64 (postI (pl s) at_ memo ps), .int .i64 (checkE (pl s) at_ memo ps)].toArray) (fun y => ledA B y.1 true) := by
  by_cases hne : ps = []
  · subst hne
    obtain ⟨a, c, rfl⟩ := hp.shape
    exact pure_mutL (lPost0_P B s a c at_ memo w0 h) (led_ok true h) ⟨s, (if_neg (check_nil (pl s) at_ memo)).symm⟩ rfl rfl
  · obtain ⟨b, off, c, rfl, hr, hb⟩ := hp.some hne
    exact lPost_P B s (some (b, off)) c at_ memo ps hlen hfit hbt hes w0 h hr (fun q hq => by cases hq; exact hb) (fun q hq => by cases hq; exact hd b hne rfl)

set_option maxHeartbeats 1000000 in
set_option maxRecDepth 100000 in
theorem lMade_P (p : Option (Nat × Nat)) (c : Nat) (l : List LO) (hlen : l.length ≤ 60) (hfit : ∀ x ∈ l, x.fits) (w0 : World) (h : losφ p l w0) (hb : ∀ q, p = some q → q.1 < w0.heap.size) :
     NewC Try.prog 27 [sliceV p l.length c] w0 (fun y : { y : LB × LS // pl y.2 = madeP l } => .pointer (some ⟨y.1.1.lb, 0, none⟩)) (fun y => ledA y.1.1 y.1.2 true) := by
   refine c_enter [(0, sliceV p l.length c)] [losA p l] noB Try.func27 rfl Try.ntmps27 ⟨rfl, trivial⟩ rfl (okC (los_ok h hb) okN) dis1 (mineC (by rfl) mineN) ?_
   intro a hS
   refine c_seq ?_
   refine c_region ?_
   refine L_op (s_e hS (e_assign rfl) rfl ?_); clear hS a; intro a hS
   refine L_nil ?_
   refine n_then ?_
   refine c_seq ?_
   refine c_region ?_
   refine L_op (s_callN hS (.cons rfl .nil) cf61 rfl (lNew_P usdL _ (by decide +kernel)) ?_); clear hS a; (try clear w); intro x9 a w hS
   refine L_op (s_e hS (e_move rfl) rfl ?_); clear hS a; intro a hS
   refine L_op (s_e hS (e_extract rfl rfl) rfl ?_); clear hS a; intro a hS
   refine L_op (s_e hS (e_extract rfl rfl) rfl ?_); clear hS a; intro a hS
   refine L_op (s_e hS (e_assign rfl) rfl ?_); clear hS a; intro a hS
   refine L_op (s_e hS (e_assign rfl) rfl ?_); clear hS a; intro a hS
   refine L_nil ?_
   refine n_then ?_
   refine c_seq ?_
   refine c_region ?_
   refine L_op (s_callN hS .nil cf62 rfl (lChart_P _) ?_); clear hS a; (try clear w); intro x12 a w hS
   refine L_op (s_e hS (e_assign rfl) rfl ?_); clear hS a; intro a hS
   refine L_nil ?_
   refine n_then ?_
   refine c_seq ?_
   refine c_seq ?_
   refine c_region ?_
   refine L_op (s_e hS (e_assign rfl) rfl ?_); clear hS a; intro a hS
   refine L_nil ?_
   refine n_then ?_
   refine wp_block ?_
   skip
   refine c_loop (γ := Nat × LS) (fun G a w => St 82 noB w0 a w [(6, .int .i64 (G.1 : Int)), (5, .slice (some ⟨x12, 0, none⟩) 4 4), (3, .pointer (some ⟨x9.lb, 0, none⟩)), (0, sliceV p l.length c)] [.blk x12 (chartL.flatMap encAc) 68, ledA x9 G.2 true, losA p l] ∧ G.1 ≤ 4 ∧ pl G.2 = (chartL.take G.1).foldl openP P0) (fun G => 4 - G.1) (0, newL usdL) ⟨(hS.slots (by repeat (first | exact trivial | refine ⟨rfl, ?_⟩))).pick (by repeat (first | exact Pick.nil | (refine Pick.cons (by repeat (first | exact Rem.head | apply Rem.tail)) ?_))), Nat.zero_le _, rfl⟩ ?_
   clear hS a; (try clear w); intro G a w hI
   obtain ⟨i, s⟩ := G
   obtain ⟨hS, hi, hpl⟩ := hI
   simp only at hS hi hpl
   refine c_seq ?_
   refine c_seq ?_
   refine c_region ?_
   refine L_op (s_e hS (e_move rfl) rfl ?_); clear hS a; intro a hS
   refine L_op (s_e hS (e_move rfl) rfl ?_); clear hS a; intro a hS
   refine L_op (s_e hS (e_len rfl rfl ty_sl65) rfl ?_); clear hS a; intro a hS
   refine L_op (s_e hS (e_bin rfl rfl rfl) rfl ?_); clear hS a; intro a hS
   refine L_op (s_e hS (e_move rfl) rfl ?_); clear hS a; intro a hS
   refine L_merge 3 20 (.bool (decide (i < 4))) hS ?_ ?_
   · intro hcM20
     (first | refine g_splitD (t := 17) hS rfl ?_ ?_ | refine g_split (t := 17) hS rfl ?_ ?_) <;> (clear hS; intro hg17 hS)
     ·
       refine L_go hS rfl rfl (s_e hS (e_move rfl) rfl ?_); clear hS a; intro a hS
       refine L_go hS rfl rfl (s_e hS (e_nnil rfl ty_u52) rfl ?_); clear hS a; intro a hS
       first | (refine L_op (s_e hS (e_pick_t rfl rfl) rfl ?_); clear hS a; intro a hS) | (refine L_op (s_e hS (e_pick_f rfl rfl) rfl ?_); clear hS a; intro a hS)
       exact hcM20 _ _ (hS.ends 4 20 17 rfl (congrArg Value.bool (by rw [decide_eq_true (by omega)]; rfl)) rfl rfl (by first | exact congrArg Value.bool (decide_eq_true hg17).symm | exact congrArg Value.bool hg17.symm | simp [hg17]) rfl)
     ·
       refine L_skip_t hS rfl rfl rfl ?_; clear hS a; intro a hS
       refine L_skip_t hS rfl rfl rfl ?_; clear hS a; intro a hS
       first | (refine L_op (s_e hS (e_pick_t rfl rfl) rfl ?_); clear hS a; intro a hS) | (refine L_op (s_e hS (e_pick_f rfl rfl) rfl ?_); clear hS a; intro a hS)
       exact hcM20 _ _ (hS.ends 4 20 17 rfl (congrArg Value.bool (by exact (decide_eq_false (by omega)).symm)) rfl rfl (by first | exact congrArg Value.bool (decide_eq_false hg17).symm | exact congrArg Value.bool hg17.symm | simp [hg17]) rfl)
   · clear hS a; (try clear w); intro a w hS
     simp only [List.drop_succ_cons, List.drop_zero]
     refine L_nil ?_
     refine n_then ?_
     first | refine c_ifD hS rfl (fun hc20 => ?_) (fun hc20 => ?_) | refine c_if hS rfl (fun hc20 => ?_) (fun hc20 => ?_)
     ·
       obtain ⟨x, hx⟩ : ∃ x, chartL[i]? = some x := ⟨chartL[i]'(by show i < 4; omega), List.getElem?_eq_getElem (by show i < 4; omega)⟩
       have hxs : x.code.size ≤ 4611686018427387904 := by
         have := List.mem_of_getElem? hx
         simp [chartL] at this
         rcases this with rfl | rfl | rfl | rfl <;> decide
       have htk : chartL.take (i + 1) = chartL.take i ++ [x] := by rw [List.take_add_one, hx]; rfl
       refine wp_skip ?_
       refine n_then ?_
       refine c_seq ?_
       refine wp_block ?_
       refine c_region ?_
       refine L_op (s_e hS (e_move rfl) rfl ?_); clear hS a; intro a hS
       refine L_op (s_e hS (e_move rfl) rfl ?_); clear hS a; intro a hS
       refine L_op (s_e hS (e_move rfl) rfl ?_); clear hS a; intro a hS
       refine L_op (s_e hS (e_ixN rfl rfl ty_sl65 ty_sz68 (by omega)) rfl ?_); clear hS a; intro a hS
       refine L_op (s_e hS (e_loadAC (l := encAc x) rfl ty_st68 ty_sz68 (blkrow_getL (enc := encAc) (s := 4) (by repeat constructor) (fun _ => rfl) hx)) rfl ?_); clear hS a; intro a hS
       refine L_op (s_callM hS (.cons rfl (.cons rfl .nil)) cf44 rfl (lOpen_P x9 s x hxs _ (hS.get (X := ledA x9 s true) (by repeat constructor))) (fun x => (by repeat constructor)) rfl ?_); clear hS a; (try clear w); intro x28 a w hS
       refine L_nil ?_
       refine n_block ?_
       refine n_then ?_
       refine c_region ?_
       refine L_op (s_e hS (e_move rfl) rfl ?_); clear hS a; intro a hS
       first | (refine L_op (s_e hS (e_binN rfl rfl rfl (by omega)) rfl ?_); clear hS a; intro a hS) | (refine L_op (s_e hS (e_bin rfl rfl rfl) rfl ?_); clear hS a; intro a hS)
       refine L_op (s_e hS (e_assign rfl) rfl ?_); clear hS a; intro a hS
       refine L_nil ?_
       exact ⟨(i + 1, openL s x), by simp only; omega, (hS.slots (by repeat (first | exact trivial | refine ⟨rfl, ?_⟩))).pick (by repeat (first | exact Pick.nil | (refine Pick.cons (by repeat (first | exact Rem.head | apply Rem.tail)) ?_))), by simp only; omega, by simp only; rw [pl_open, hpl, htk, List.foldl_append]; rfl⟩
     ·
       obtain rfl : i = 4 := by omega
       rw [show (chartL.take 4).foldl openP P0 = P4 from chart_made] at hpl
       refine wp_exit ?_
       refine x_then (x_then (x_hit ?_))
       refine n_then ?_
       refine c_seq ?_
       refine c_seq ?_
       refine c_region ?_
       refine L_op (s_e hS (e_assign rfl) rfl ?_); clear hS a; intro a hS
       refine L_nil ?_
       refine n_then ?_
       refine wp_block ?_
       skip
       refine c_loop (γ := Nat × LS) (fun G a w => St 82 noB w0 a w [(7, .int .i64 (G.1 : Int)), (3, .pointer (some ⟨x9.lb, 0, none⟩)), (0, sliceV p l.length c)] [ledA x9 G.2 true, losA p l] ∧ G.1 ≤ l.length ∧ pl G.2 = madeP (l.take G.1)) (fun G => l.length - G.1) (0, s) ⟨(hS.slots (by repeat (first | exact trivial | refine ⟨rfl, ?_⟩))).pick (by repeat (first | exact Pick.nil | (refine Pick.cons (by repeat (first | exact Rem.head | apply Rem.tail)) ?_))), Nat.zero_le _, hpl⟩ ?_
       clear hS a; (try clear w); intro G a w hI
       obtain ⟨i, s⟩ := G
       obtain ⟨hS, hi, hpl⟩ := hI
       simp only at hS hi hpl
       refine c_seq ?_
       refine c_seq ?_
       refine c_region ?_
       refine L_op (s_e hS (e_move rfl) rfl ?_); clear hS a; intro a hS
       refine L_op (s_e hS (e_move rfl) rfl ?_); clear hS a; intro a hS
       refine L_op (s_e hS (e_len rfl rfl ty_sl50) rfl ?_); clear hS a; intro a hS
       refine L_op (s_e hS (e_bin rfl rfl rfl) rfl ?_); clear hS a; intro a hS
       refine L_op (s_e hS (e_move rfl) rfl ?_); clear hS a; intro a hS
       refine L_merge 3 36 (.bool (decide (i < l.length))) hS ?_ ?_
       · intro hcM36
         (first | refine g_splitD (t := 33) hS rfl ?_ ?_ | refine g_split (t := 33) hS rfl ?_ ?_) <;> (clear hS; intro hg33 hS)
         ·
           refine L_go hS rfl rfl (s_e hS (e_move rfl) rfl ?_); clear hS a; intro a hS
           refine L_go hS rfl rfl (s_e hS (e_nnil rfl ty_u52) rfl ?_); clear hS a; intro a hS
           first | (refine L_op (s_e hS (e_pick_t rfl rfl) rfl ?_); clear hS a; intro a hS) | (refine L_op (s_e hS (e_pick_f rfl rfl) rfl ?_); clear hS a; intro a hS)
           exact hcM36 _ _ (hS.ends 4 36 33 rfl (congrArg Value.bool (by rw [decide_eq_true (by omega)]; rfl)) rfl rfl (by first | exact congrArg Value.bool (decide_eq_true hg33).symm | exact congrArg Value.bool hg33.symm | simp [hg33]) rfl)
         ·
           refine L_skip_t hS rfl rfl rfl ?_; clear hS a; intro a hS
           refine L_skip_t hS rfl rfl rfl ?_; clear hS a; intro a hS
           first | (refine L_op (s_e hS (e_pick_t rfl rfl) rfl ?_); clear hS a; intro a hS) | (refine L_op (s_e hS (e_pick_f rfl rfl) rfl ?_); clear hS a; intro a hS)
           exact hcM36 _ _ (hS.ends 4 36 33 rfl (congrArg Value.bool (by exact (decide_eq_false (by omega)).symm)) rfl rfl (by first | exact congrArg Value.bool (decide_eq_false hg33).symm | exact congrArg Value.bool hg33.symm | simp [hg33]) rfl)
       · clear hS a; (try clear w); intro a w hS
         simp only [List.drop_succ_cons, List.drop_zero]
         refine L_nil ?_
         refine n_then ?_
         first | refine c_ifD hS rfl (fun hc36 => ?_) (fun hc36 => ?_) | refine c_if hS rfl (fun hc36 => ?_) (fun hc36 => ?_)
         ·
           obtain ⟨o, ho⟩ : ∃ o, l[i]? = some o := ⟨l[i]'(by omega), List.getElem?_eq_getElem (by omega)⟩
           have hom := List.mem_of_getElem? ho
           have hof := hfit o hom
           obtain ⟨b, off, rfl⟩ := los_pos (hS.get (X := losA p l) (by repeat constructor)) ho
           have hmt := madeP_take ho
           have hwf := wf_made hfit i (by omega)
           rw [← hpl] at hwf
           have hst : pl s = madeP (l.take i) := hpl
           have hes : s.es.length ≤ 100000 := by have h1 := hwf.le; simp [pl] at h1; omega
           refine wp_skip ?_
           refine n_then ?_
           refine c_cut (fun a w => ∃ s2 : LS, St 82 noB w0 a w [(7, .int .i64 (i : Int)), (3, .pointer (some ⟨x9.lb, 0, none⟩)), (0, sliceV (some (b, off)) l.length c)] [ledA x9 s2 true, losA (some (b, off)) l] ∧ pl s2 = madeP (l.take (i + 1))) ?_ ?_
           ·
             refine wp_block ?_
             refine c_seq ?_
             refine c_region ?_
             refine L_op (s_e hS (e_move rfl) rfl ?_); clear hS a; intro a hS
             refine L_op (s_e hS (e_move rfl) rfl ?_); clear hS a; intro a hS
             refine L_op (s_e hS (e_ixN rfl rfl ty_sl50 ty_sz72 (by omega)) rfl ?_); clear hS a; intro a hS
             first | (refine L_op (s_e hS (e_fa0 rfl ty_fo72_0) rfl ?_); clear hS a; intro a hS) | (refine L_op (s_e hS (e_faK rfl ty_fo72_0) rfl ?_); clear hS a; intro a hS)
             refine L_op (s_e hS (e_loadC rfl ty_sc3 (fun w hh => los_get (by repeat constructor) ho w hh 0 (.int .i64 o.kind) rfl)) rfl ?_); clear hS a; intro a hS
             refine L_nil ?_
             refine n_then ?_
             refine wp_block ?_
             refine c_seq ?_
             refine c_region ?_
             refine L_op (s_e hS (e_bin rfl rfl rfl) rfl ?_); clear hS a; intro a hS
             refine L_op (s_e hS (e_assign rfl) rfl ?_); clear hS a; intro a hS
             refine L_nil ?_
             refine n_then ?_
             first | refine c_ifD hS rfl (fun hc44 => ?_) (fun hc44 => ?_) | refine c_if hS rfl (fun hc44 => ?_) (fun hc44 => ?_)
             ·
               refine c_region ?_
               refine L_op (s_e hS (e_move rfl) rfl ?_); clear hS a; intro a hS
               refine L_op (s_e hS (e_move rfl) rfl ?_); clear hS a; intro a hS
               refine L_op (s_e hS (e_move rfl) rfl ?_); clear hS a; intro a hS
               refine L_op (s_e hS (e_ixN rfl rfl ty_sl50 ty_sz72 (by omega)) rfl ?_); clear hS a; intro a hS
               first | (refine L_op (s_e hS (e_fa0 rfl ty_fo72_2) rfl ?_); clear hS a; intro a hS) | (refine L_op (s_e hS (e_faK rfl ty_fo72_2) rfl ?_); clear hS a; intro a hS)
               refine L_op (s_e hS (e_loadAC (l := encAc o.a) rfl ty_st68 ty_sz68 (fun w hh j v hj => by
 rw [Nat.add_assoc]
 refine los_get (by repeat constructor) ho w hh (2 + j) v ?_
 have hjl := (List.getElem?_eq_some_iff.1 hj).1
 match j, hj with
 | 0, hj => exact hj
 | 1, hj => exact hj
 | 2, hj => exact hj
 | 3, hj => exact hj
 | (k + 4), hj => simp [encAc] at hj)) rfl ?_); clear hS a; intro a hS
               refine L_op (s_callM hS (.cons rfl (.cons rfl .nil)) cf44 rfl (lOpen_P x9 s o.a hof.code _ (hS.get (X := ledA x9 s true) (by repeat constructor))) (fun x => (by repeat constructor)) rfl ?_); clear hS a; (try clear w); intro x52 a w hS
               refine L_nil ?_
               refine n_block ?_
               refine n_block ?_
               rw [hmt, ← hst]
               first
               | exact ⟨openL s o.a, (hS.slots (by repeat (first | exact trivial | refine ⟨rfl, ?_⟩))).pick (by repeat (first | exact Pick.nil | (refine Pick.cons (by repeat (first | exact Rem.head | apply Rem.tail)) ?_))), by rw [pl_open]; exact (if_pos hc44).symm⟩
               | exact ⟨x71.1, (hS.slots (by repeat (first | exact trivial | refine ⟨rfl, ?_⟩))).pick (by repeat (first | exact Pick.nil | (refine Pick.cons (by repeat (first | exact Rem.head | apply Rem.tail)) ?_))), by rw [x71.2]; unfold stepP; rw [if_neg hc44, if_pos hc53]⟩
               | exact ⟨closeL s o.at_, (hS.slots (by repeat (first | exact trivial | refine ⟨rfl, ?_⟩))).pick (by repeat (first | exact Pick.nil | (refine Pick.cons (by repeat (first | exact Rem.head | apply Rem.tail)) ?_))), by rw [pl_close]; unfold stepP; rw [if_neg hc44, if_neg hc53, if_pos hc72]⟩
               | exact ⟨s, (hS.slots (by repeat (first | exact trivial | refine ⟨rfl, ?_⟩))).pick (by repeat (first | exact Pick.nil | (refine Pick.cons (by repeat (first | exact Rem.head | apply Rem.tail)) ?_))), by unfold stepP; rw [if_neg hc44, if_neg hc53, if_neg hc72]⟩
             ·
               refine c_seq ?_
               refine c_region ?_
               refine L_op (s_e hS (e_bin rfl rfl rfl) rfl ?_); clear hS a; intro a hS
               refine L_op (s_e hS (e_assign rfl) rfl ?_); clear hS a; intro a hS
               refine L_nil ?_
               refine n_then ?_
               first | refine c_ifD hS rfl (fun hc53 => ?_) (fun hc53 => ?_) | refine c_if hS rfl (fun hc53 => ?_) (fun hc53 => ?_)
               ·
                 refine c_drawS [] (by kernel_rfl) hS (sub_cons (X := losA (some (b, off)) l) (by repeat constructor) sub_nil) ?_; clear hS; (try clear w); intro w hS
                 simp only [List.length_cons, List.length_nil, Nat.zero_add, Nat.reduceAdd, List.replicate]
                 refine Z_take0 (i := 0) hS rfl want_none (e_move rfl) (listed' := [true, false, false, false, false, false, false, false, false, false, false, false, false, false, false, false, false]) rfl (by kernel_rfl) (by kernel_rfl) (by kernel_rfl) (fun _ _ _ h => h) rfl ?_; clear hS a; intro a hS
                 refine Z_take0 (i := 1) hS rfl want_none (e_move rfl) (listed' := [true, true, false, false, false, false, false, false, false, false, false, false, false, false, false, false, false]) rfl (by kernel_rfl) (by kernel_rfl) (by kernel_rfl) (fun _ _ _ h => h) rfl ?_; clear hS a; intro a hS
                 refine Z_take0 (i := 2) hS rfl want_none (e_move rfl) (listed' := [true, true, true, false, false, false, false, false, false, false, false, false, false, false, false, false, false]) rfl (by kernel_rfl) (by kernel_rfl) (by kernel_rfl) (fun _ _ _ h => h) rfl ?_; clear hS a; intro a hS
                 refine Z_take0 (i := 3) hS rfl want_none (e_ixN rfl rfl ty_sl50 ty_sz72 (by omega)) (listed' := [true, true, true, true, false, false, false, false, false, false, false, false, false, false, false, false, false]) rfl (by kernel_rfl) (by kernel_rfl) (by kernel_rfl) (fun _ _ _ h => h) rfl ?_; clear hS a; intro a hS
                 first | (refine Z_take0 (i := 4) hS rfl want_none (e_fa0 rfl ty_fo72_1) (listed' := [true, true, true, true, true, false, false, false, false, false, false, false, false, false, false, false, false]) rfl (by kernel_rfl) (by kernel_rfl) (by kernel_rfl) (fun _ _ _ h => h) rfl ?_; clear hS a; intro a hS) | (refine Z_take0 (i := 4) hS rfl want_none (e_faK rfl ty_fo72_1) (listed' := [true, true, true, true, true, false, false, false, false, false, false, false, false, false, false, false, false]) rfl (by kernel_rfl) (by kernel_rfl) (by kernel_rfl) (fun _ _ _ h => h) rfl ?_; clear hS a; intro a hS)
                 refine Z_take (i := 5) hS rfl want_none (e_loadC rfl ty_sc3 (fun w hh => los_get (by repeat constructor) ho w hh 1 (.int .i64 o.at_) rfl)) (listed' := [true, true, true, true, true, true, false, false, false, false, false, false, false, false, false, false, false]) rfl (by kernel_rfl) (by kernel_rfl) (by kernel_rfl) (by kernel_rfl) (by kernel_rfl) (sub_cons (by repeat constructor) sub_nil) (fun _ _ _ h => h) rfl ?_; clear hS a; intro a hS
                 refine Z_take0 (i := 6) hS rfl want_none (e_move rfl) (listed' := [true, true, true, true, true, true, true, false, false, false, false, false, false, false, false, false, false]) rfl (by kernel_rfl) (by kernel_rfl) (by kernel_rfl) (fun _ _ _ h => h) rfl ?_; clear hS a; intro a hS
                 refine Z_take0 (i := 7) hS rfl want_none (e_move rfl) (listed' := [true, true, true, true, true, true, true, true, false, false, false, false, false, false, false, false, false]) rfl (by kernel_rfl) (by kernel_rfl) (by kernel_rfl) (fun _ _ _ h => h) rfl ?_; clear hS a; intro a hS
                 refine Z_take0 (i := 8) hS rfl want_none (e_ixN rfl rfl ty_sl50 ty_sz72 (by omega)) (listed' := [true, true, true, true, true, true, true, true, true, false, false, false, false, false, false, false, false]) rfl (by kernel_rfl) (by kernel_rfl) (by kernel_rfl) (fun _ _ _ h => h) rfl ?_; clear hS a; intro a hS
                 first | (refine Z_take0 (i := 9) hS rfl want_none (e_fa0 rfl ty_fo72_3) (listed' := [true, true, true, true, true, true, true, true, true, true, false, false, false, false, false, false, false]) rfl (by kernel_rfl) (by kernel_rfl) (by kernel_rfl) (fun _ _ _ h => h) rfl ?_; clear hS a; intro a hS) | (refine Z_take0 (i := 9) hS rfl want_none (e_faK rfl ty_fo72_3) (listed' := [true, true, true, true, true, true, true, true, true, true, false, false, false, false, false, false, false]) rfl (by kernel_rfl) (by kernel_rfl) (by kernel_rfl) (fun _ _ _ h => h) rfl ?_; clear hS a; intro a hS)
                 refine Z_take (i := 10) hS rfl want_none (e_loadC rfl ty_sc9 (fun w hh => los_get (by repeat constructor) ho w hh 6 (.string o.memo) rfl)) (listed' := [true, true, true, true, true, true, true, true, true, true, true, false, false, false, false, false, false]) rfl (by kernel_rfl) (by kernel_rfl) (by kernel_rfl) (by kernel_rfl) (by kernel_rfl) (sub_cons (by repeat constructor) sub_nil) (fun _ _ _ h => h) rfl ?_; clear hS a; intro a hS
                 refine Z_take0 (i := 11) hS rfl want_none (e_move rfl) (listed' := [true, true, true, true, true, true, true, true, true, true, true, true, false, false, false, false, false]) rfl (by kernel_rfl) (by kernel_rfl) (by kernel_rfl) (fun _ _ _ h => h) rfl ?_; clear hS a; intro a hS
                 refine Z_take0 (i := 12) hS rfl want_none (e_move rfl) (listed' := [true, true, true, true, true, true, true, true, true, true, true, true, true, false, false, false, false]) rfl (by kernel_rfl) (by kernel_rfl) (by kernel_rfl) (fun _ _ _ h => h) rfl ?_; clear hS a; intro a hS
                 refine Z_take0 (i := 13) hS rfl want_none (e_ixN rfl rfl ty_sl50 ty_sz72 (by omega)) (listed' := [true, true, true, true, true, true, true, true, true, true, true, true, true, true, false, false, false]) rfl (by kernel_rfl) (by kernel_rfl) (by kernel_rfl) (fun _ _ _ h => h) rfl ?_; clear hS a; intro a hS
                 first | (refine Z_take0 (i := 14) hS rfl want_none (e_fa0 rfl ty_fo72_4) (listed' := [true, true, true, true, true, true, true, true, true, true, true, true, true, true, true, false, false]) rfl (by kernel_rfl) (by kernel_rfl) (by kernel_rfl) (fun _ _ _ h => h) rfl ?_; clear hS a; intro a hS) | (refine Z_take0 (i := 14) hS rfl want_none (e_faK rfl ty_fo72_4) (listed' := [true, true, true, true, true, true, true, true, true, true, true, true, true, true, true, false, false]) rfl (by kernel_rfl) (by kernel_rfl) (by kernel_rfl) (fun _ _ _ h => h) rfl ?_; clear hS a; intro a hS)
                 refine Z_take (i := 15) hS rfl want_none (e_loadC rfl ty_sc56 (fun w hh => los_get (by repeat constructor) ho w hh 7 o.pv rfl)) (listed' := [true, true, true, true, true, true, true, true, true, true, true, true, true, true, true, true, false]) rfl (by kernel_rfl) (by kernel_rfl) (by kernel_rfl) (by kernel_rfl) (by kernel_rfl) (sub_cons (by repeat constructor) sub_nil) (fun _ _ _ h => h) rfl ?_; clear hS a; intro a hS
                 refine Z_one (i := 16) rfl (want_none a hS.sl) (listed' := [true, true, true, true, true, true, true, true, true, true, true, true, true, true, true, true, true]) rfl (by kernel_rfl) (s_callM hS (.cons rfl (.cons rfl (.cons rfl (.cons rfl .nil)))) cf32 rfl (postAny_P x9 s o.pv o.at_ o.memo o.ps hof.ps.2 hof.ps.1 hwf.bal hes _ (hS.get (X := ledA x9 s true) (by repeat constructor)) ((hS.get (X := losA (some (b, off)) l) (by repeat constructor)).2 o hom) (fun k hne hk hl => hS.sep (X := ledA x9 s true) (Y := losA (some (b, off)) l) (by repeat (first | exact Rem.head | apply Rem.tail)) (by repeat constructor) k hl (.inr ⟨o, hom, hne, hk⟩))) (fun x => (by repeat constructor)) rfl ?_); clear hS a; (try clear w); intro x71 a w hS
                 refine Z_and hS (sub_cons (by repeat constructor) sub_nil) ?_
                 refine Z_done (by kernel_rfl) ?_
                 refine n_block ?_
                 refine n_block ?_
                 rw [hmt, ← hst]
                 first
                 | exact ⟨openL s o.a, (hS.slots (by repeat (first | exact trivial | refine ⟨rfl, ?_⟩))).pick (by repeat (first | exact Pick.nil | (refine Pick.cons (by repeat (first | exact Rem.head | apply Rem.tail)) ?_))), by rw [pl_open]; exact (if_pos hc44).symm⟩
                 | exact ⟨x71.1, (hS.slots (by repeat (first | exact trivial | refine ⟨rfl, ?_⟩))).pick (by repeat (first | exact Pick.nil | (refine Pick.cons (by repeat (first | exact Rem.head | apply Rem.tail)) ?_))), by rw [x71.2]; unfold stepP; rw [if_neg hc44, if_pos hc53]⟩
                 | exact ⟨closeL s o.at_, (hS.slots (by repeat (first | exact trivial | refine ⟨rfl, ?_⟩))).pick (by repeat (first | exact Pick.nil | (refine Pick.cons (by repeat (first | exact Rem.head | apply Rem.tail)) ?_))), by rw [pl_close]; unfold stepP; rw [if_neg hc44, if_neg hc53, if_pos hc72]⟩
                 | exact ⟨s, (hS.slots (by repeat (first | exact trivial | refine ⟨rfl, ?_⟩))).pick (by repeat (first | exact Pick.nil | (refine Pick.cons (by repeat (first | exact Rem.head | apply Rem.tail)) ?_))), by unfold stepP; rw [if_neg hc44, if_neg hc53, if_neg hc72]⟩
               ·
                 refine c_seq ?_
                 refine c_region ?_
                 refine L_op (s_e hS (e_bin rfl rfl rfl) rfl ?_); clear hS a; intro a hS
                 refine L_op (s_e hS (e_assign rfl) rfl ?_); clear hS a; intro a hS
                 refine L_nil ?_
                 refine n_then ?_
                 first | refine c_ifD hS rfl (fun hc72 => ?_) (fun hc72 => ?_) | refine c_if hS rfl (fun hc72 => ?_) (fun hc72 => ?_)
                 ·
                   refine c_region ?_
                   refine L_op (s_e hS (e_move rfl) rfl ?_); clear hS a; intro a hS
                   refine L_op (s_e hS (e_move rfl) rfl ?_); clear hS a; intro a hS
                   refine L_op (s_e hS (e_move rfl) rfl ?_); clear hS a; intro a hS
                   refine L_op (s_e hS (e_ixN rfl rfl ty_sl50 ty_sz72 (by omega)) rfl ?_); clear hS a; intro a hS
                   first | (refine L_op (s_e hS (e_fa0 rfl ty_fo72_1) rfl ?_); clear hS a; intro a hS) | (refine L_op (s_e hS (e_faK rfl ty_fo72_1) rfl ?_); clear hS a; intro a hS)
                   refine L_op (s_e hS (e_loadC rfl ty_sc3 (fun w hh => los_get (by repeat constructor) ho w hh 1 (.int .i64 o.at_) rfl)) rfl ?_); clear hS a; intro a hS
                   refine L_op (s_callM hS (.cons rfl (.cons rfl .nil)) cf45 rfl (lClose_P x9 s o.at_ _ (hS.get (X := ledA x9 s true) (by repeat constructor))) (fun x => (by repeat constructor)) rfl ?_); clear hS a; (try clear w); intro x80 a w hS
                   refine L_nil ?_
                   refine n_block ?_
                   refine n_block ?_
                   rw [hmt, ← hst]
                   first
                   | exact ⟨openL s o.a, (hS.slots (by repeat (first | exact trivial | refine ⟨rfl, ?_⟩))).pick (by repeat (first | exact Pick.nil | (refine Pick.cons (by repeat (first | exact Rem.head | apply Rem.tail)) ?_))), by rw [pl_open]; exact (if_pos hc44).symm⟩
                   | exact ⟨x71.1, (hS.slots (by repeat (first | exact trivial | refine ⟨rfl, ?_⟩))).pick (by repeat (first | exact Pick.nil | (refine Pick.cons (by repeat (first | exact Rem.head | apply Rem.tail)) ?_))), by rw [x71.2]; unfold stepP; rw [if_neg hc44, if_pos hc53]⟩
                   | exact ⟨closeL s o.at_, (hS.slots (by repeat (first | exact trivial | refine ⟨rfl, ?_⟩))).pick (by repeat (first | exact Pick.nil | (refine Pick.cons (by repeat (first | exact Rem.head | apply Rem.tail)) ?_))), by rw [pl_close]; unfold stepP; rw [if_neg hc44, if_neg hc53, if_pos hc72]⟩
                   | exact ⟨s, (hS.slots (by repeat (first | exact trivial | refine ⟨rfl, ?_⟩))).pick (by repeat (first | exact Pick.nil | (refine Pick.cons (by repeat (first | exact Rem.head | apply Rem.tail)) ?_))), by unfold stepP; rw [if_neg hc44, if_neg hc53, if_neg hc72]⟩
                 ·
                   refine wp_skip ?_
                   refine n_block ?_
                   refine n_block ?_
                   rw [hmt, ← hst]
                   first
                   | exact ⟨openL s o.a, (hS.slots (by repeat (first | exact trivial | refine ⟨rfl, ?_⟩))).pick (by repeat (first | exact Pick.nil | (refine Pick.cons (by repeat (first | exact Rem.head | apply Rem.tail)) ?_))), by rw [pl_open]; exact (if_pos hc44).symm⟩
                   | exact ⟨x71.1, (hS.slots (by repeat (first | exact trivial | refine ⟨rfl, ?_⟩))).pick (by repeat (first | exact Pick.nil | (refine Pick.cons (by repeat (first | exact Rem.head | apply Rem.tail)) ?_))), by rw [x71.2]; unfold stepP; rw [if_neg hc44, if_pos hc53]⟩
                   | exact ⟨closeL s o.at_, (hS.slots (by repeat (first | exact trivial | refine ⟨rfl, ?_⟩))).pick (by repeat (first | exact Pick.nil | (refine Pick.cons (by repeat (first | exact Rem.head | apply Rem.tail)) ?_))), by rw [pl_close]; unfold stepP; rw [if_neg hc44, if_neg hc53, if_pos hc72]⟩
                   | exact ⟨s, (hS.slots (by repeat (first | exact trivial | refine ⟨rfl, ?_⟩))).pick (by repeat (first | exact Pick.nil | (refine Pick.cons (by repeat (first | exact Rem.head | apply Rem.tail)) ?_))), by unfold stepP; rw [if_neg hc44, if_neg hc53, if_neg hc72]⟩
           ·
             clear hS a; (try clear w); intro a w hS
             obtain ⟨s2, hS, hp2⟩ := hS
             refine c_region ?_
             refine L_op (s_e hS (e_move rfl) rfl ?_); clear hS a; intro a hS
             first | (refine L_op (s_e hS (e_binN rfl rfl rfl (by omega)) rfl ?_); clear hS a; intro a hS) | (refine L_op (s_e hS (e_bin rfl rfl rfl) rfl ?_); clear hS a; intro a hS)
             refine L_op (s_e hS (e_assign rfl) rfl ?_); clear hS a; intro a hS
             refine L_nil ?_
             exact ⟨(i + 1, s2), by simp only; omega, hS.slots (by repeat (first | exact trivial | refine ⟨rfl, ?_⟩)), by simp only; omega, hp2⟩
         ·
           refine wp_exit ?_
           refine x_then (x_then (x_hit ?_))
           refine n_then ?_
           refine c_seq ?_
           refine c_region ?_
           refine L_op (s_e hS (e_move rfl) rfl ?_); clear hS a; intro a hS
           refine L_op (s_e hS (e_assign rfl) rfl ?_); clear hS a; intro a hS
           refine L_nil ?_
           refine n_then ?_
           refine wp_ret ?_
           refine c_ret1 hS Try.results27 (.tmp rfl) ?_
           obtain rfl : i = l.length := by omega
           rw [List.take_length] at hpl
           exact ⟨⟨(x9, s), hpl⟩, rfl, hS.chg, hS.new (X := ledA x9 s true) (by repeat constructor) rfl⟩
end Go.Proofs.Ytheofhegdjjfgaa

namespace Go.Proofs.Ytheofhegdjjfgaa
open Go.RowKit

theorem split3 {α : Type} (k s : Nat) (l : List α) : l = l.take k ++ ((l.drop k).take s ++ l.drop (k + s)) := by
  rw [← List.drop_drop, List.take_append_drop, List.take_append_drop]
theorem Ids.sub {l r : List EA} (h : Ids l) (hs : List.Sublist r l) : Ids r := List.Pairwise.sublist hs h
theorem blk_len (s t : Nat) (l : List EA) : (blkE s t l).length = min s (l.length - t * s) := by unfold blkE; rw [List.length_take, List.length_drop]

set_option maxHeartbeats 2000000 in
set_option maxRecDepth 100000 in
theorem stable_P (g n c : Nat) (orig : List EA) (hids : Ids orig) (hn : orig.length = n) (hN : n ≤ 1000000) (w0 : World) (h : (ownA 58 4 (.slice (some ⟨g, 0, none⟩) n c) n ((orig).flatMap encE)).ok w0) :
    MutC Try.prog 95 [.slice (some ⟨g, 0, none⟩) n c, .int .i64 (n : Int), cmpV] w0 (ownA 58 4 (.slice (some ⟨g, 0, none⟩) n c) n ((orig).flatMap encE)) (fun _ : { S // IsS orig S } => .tuple #[]) (fun S => (ownA 58 4 (.slice (some ⟨g, 0, none⟩) n c) n ((S.1).flatMap encE))) := by
  refine c_enter [(0, .slice (some ⟨g, 0, none⟩) n c), (1, .int .i64 (n : Int)), (2, cmpV)] [(ownA 58 4 (.slice (some ⟨g, 0, none⟩) n c) n ((orig).flatMap encE))] (ownA 58 4 (.slice (some ⟨g, 0, none⟩) n c) n ((orig).flatMap encE)).F Try.func95 rfl Try.ntmps95 ⟨rfl, rfl, rfl, trivial⟩ rfl (okC h okN) dis1 (mineO (fun _ hb => hb) mineN) ?_
  intro a hS
  refine c_seq ?_
  refine c_region ?_
  refine L_op (s_e hS (e_assign rfl) rfl ?_); clear hS a; intro a hS
  refine L_nil ?_
  refine n_then ?_
  refine c_seq ?_
  refine c_region ?_
  refine L_op (s_e hS (e_move rfl) rfl ?_); clear hS a; intro a hS
  refine L_op (s_e hS (e_assign rfl) rfl ?_); clear hS a; intro a hS
  refine L_op (s_e hS (e_assign rfl) rfl ?_); clear hS a; intro a hS
  refine L_nil ?_
  refine n_then ?_
  refine c_seq ?_
  refine wp_block ?_
  skip
  refine c_loop (γ := Nat × List EA) (fun G a w => St 63 (ownA 58 4 (.slice (some ⟨g, 0, none⟩) n c) n ((orig).flatMap encE)).F w0 a w [(7, .int .i64 ((G.1 * 20 : Nat) : Int)), (8, .int .i64 ((G.1 * 20 + 20 : Nat) : Int)), (6, .int .i64 20), (0, .slice (some ⟨g, 0, none⟩) n c), (1, .int .i64 (n : Int)), (2, cmpV)] [(ownA 58 4 (.slice (some ⟨g, 0, none⟩) n c) n ((G.2).flatMap encE))] ∧ Ins 20 G.1 orig G.2 ∧ G.1 * 20 ≤ n) (fun G => n - G.1 * 20) (0, orig) ⟨(hS.slots (by repeat (first | exact trivial | refine ⟨rfl, ?_⟩))).pick (by repeat (first | exact Pick.nil | (refine Pick.cons (by repeat (first | exact Rem.head | apply Rem.tail)) ?_))), ⟨rfl, fun t ht => absurd ht (Nat.not_lt_zero t), rfl⟩, by simp⟩ ?_
  clear hS a; (try clear w); intro G a w hI
  obtain ⟨T, zs⟩ := G
  obtain ⟨hS, hio, hT⟩ := hI
  simp only at hS hio hT
  have hzl : zs.length = n := hio.len.trans hn
  refine c_seq ?_
  refine c_seq ?_
  refine c_region ?_
  refine L_op (s_e hS (e_move rfl) rfl ?_); clear hS a; intro a hS
  refine L_op (s_e hS (e_move rfl) rfl ?_); clear hS a; intro a hS
  refine L_op (s_e hS (e_bin rfl rfl rfl) rfl ?_); clear hS a; intro a hS
  refine L_nil ?_
  refine n_then ?_
  first | refine c_ifD hS rfl (fun hc13 => ?_) (fun hc13 => ?_) | refine c_if hS rfl (fun hc13 => ?_) (fun hc13 => ?_)
  ·
    have hb : T * 20 + 20 ≤ n := by omega
    have hz := split3 (T * 20) 20 zs
    have hsg : Ids ((zs.drop (T * 20)).take 20) := by rw [hio.rest]; exact hids.sub ((List.take_sublist _ _).trans (List.drop_sublist _ _))
    have hlA : (zs.take (T * 20)).length = T * 20 := by rw [List.length_take]; omega
    have hlS : ((zs.drop (T * 20)).take 20).length = 20 := by rw [List.length_take, List.length_drop]; omega
    refine wp_skip ?_
    refine n_then ?_
    refine wp_block ?_
    refine c_seq ?_
    refine c_region ?_
    refine L_op (s_e hS (e_move rfl) rfl ?_); clear hS a; intro a hS
    refine L_op (s_e hS (e_move rfl) rfl ?_); clear hS a; intro a hS
    refine L_op (s_e hS (e_move rfl) rfl ?_); clear hS a; intro a hS
    refine L_op (s_e hS (e_move rfl) rfl ?_); clear hS a; intro a hS
    refine L_op (s_callM hS (.cons rfl (.cons rfl (.cons rfl (.cons rfl .nil)))) cf113 rfl (insort_P g n c (T * 20) (T * 20 + 20) (zs.take (T * 20)) ((zs.drop (T * 20)).take 20) (zs.drop (T * 20 + 20)) zs hz hsg hlA.symm (by rw [hlS]) hzl hN _ (hS.ok (ownA 58 4 (.slice (some ⟨g, 0, none⟩) n c) n ((zs).flatMap encE)) (by repeat constructor))) (fun x => (by repeat constructor)) rfl ?_); clear hS a; (try clear w); intro x18 a w hS
    refine L_nil ?_
    refine n_then ?_
    refine c_seq ?_
    refine c_region ?_
    refine L_op (s_e hS (e_move rfl) rfl ?_); clear hS a; intro a hS
    refine L_op (s_e hS (e_assign rfl) rfl ?_); clear hS a; intro a hS
    refine L_nil ?_
    refine n_then ?_
    refine c_region ?_
    refine L_op (s_e hS (e_move rfl) rfl ?_); clear hS a; intro a hS
    refine L_op (s_e hS (e_move rfl) rfl ?_); clear hS a; intro a hS
    first | (refine L_op (s_e hS (e_binN rfl rfl rfl (by omega)) rfl ?_); clear hS a; intro a hS) | (refine L_op (s_e hS (e_bin rfl rfl rfl) rfl ?_); clear hS a; intro a hS)
    refine L_op (s_e hS (e_assign rfl) rfl ?_); clear hS a; intro a hS
    refine L_nil ?_
    refine n_block ?_
    have hst := hio.step hlA hz (zs' := zs.take (T * 20) ++ (x18.1 ++ zs.drop (T * 20 + 20))) rfl (.inl hlS) x18.2
    refine ⟨(T + 1, zs.take (T * 20) ++ (x18.1 ++ zs.drop (T * 20 + 20))), by simp only; omega, ?_, hst, by simp only; omega⟩
    simp only
    rw [show (((T + 1) * 20 : Nat) : Int) = ((T * 20 + 20 : Nat) : Int) from by omega, show (((T + 1) * 20 + 20 : Nat) : Int) = ((T * 20 + 20 : Nat) : Int) + 20 from by omega]
    exact (hS.slots (by repeat (first | exact trivial | refine ⟨rfl, ?_⟩))).pick (by repeat (first | exact Pick.nil | (refine Pick.cons (by repeat (first | exact Rem.head | apply Rem.tail)) ?_)))
  ·
    have hb : n < T * 20 + 20 := by omega
    have hlA : (zs.take (T * 20)).length = T * 20 := by rw [List.length_take]; omega
    have hsg : Ids (zs.drop (T * 20)) := by rw [hio.rest]; exact hids.sub (List.drop_sublist _ _)
    have hlS : (zs.drop (T * 20)).length = n - T * 20 := by rw [List.length_drop]; omega
    have hz : zs = zs.take (T * 20) ++ (zs.drop (T * 20) ++ []) := by rw [List.append_nil, List.take_append_drop]
    refine wp_exit ?_
    refine x_then (x_then (x_hit ?_))
    refine n_then ?_
    refine c_seq ?_
    refine c_region ?_
    refine L_op (s_e hS (e_move rfl) rfl ?_); clear hS a; intro a hS
    refine L_op (s_e hS (e_move rfl) rfl ?_); clear hS a; intro a hS
    refine L_op (s_e hS (e_move rfl) rfl ?_); clear hS a; intro a hS
    refine L_op (s_e hS (e_move rfl) rfl ?_); clear hS a; intro a hS
    refine L_op (s_callM hS (.cons rfl (.cons rfl (.cons rfl (.cons rfl .nil)))) cf113 rfl (insort_P g n c (T * 20) n (zs.take (T * 20)) (zs.drop (T * 20)) [] zs hz hsg hlA.symm (by omega) hzl hN _ (hS.ok (ownA 58 4 (.slice (some ⟨g, 0, none⟩) n c) n ((zs).flatMap encE)) (by repeat constructor))) (fun x => (by repeat constructor)) rfl ?_); clear hS a; (try clear w); intro x27 a w hS
    have hst := hio.step hlA hz (zs' := zs.take (T * 20) ++ (x27.1 ++ [])) rfl (.inr ⟨rfl, by omega⟩) x27.2
    have hha := hst.all (by omega)
    generalize zs.take (T * 20) ++ (x27.1 ++ []) = z1 at hS hha
    refine L_nil ?_
    refine n_then ?_
    refine wp_block ?_
    skip
    refine c_loop (γ := Nat × List EA) (fun G a w => St 63 (ownA 58 4 (.slice (some ⟨g, 0, none⟩) n c) n ((orig).flatMap encE)).F w0 a w [(6, .int .i64 (G.1 : Int)), (0, .slice (some ⟨g, 0, none⟩) n c), (1, .int .i64 (n : Int)), (2, cmpV)] [(ownA 58 4 (.slice (some ⟨g, 0, none⟩) n c) n ((G.2).flatMap encE))] ∧ Half G.1 0 orig G.2 ∧ 0 < G.1 ∧ G.1 ≤ 2000040) (fun G => n - G.1) (20, z1) ⟨(hS.slots (by repeat (first | exact trivial | refine ⟨rfl, ?_⟩))).pick (by repeat (first | exact Pick.nil | (refine Pick.cons (by repeat (first | exact Rem.head | apply Rem.tail)) ?_))), hha, by simp, by simp⟩ ?_
    clear hS a; (try clear w); intro G a w hI
    obtain ⟨s, z2⟩ := G
    obtain ⟨hS, hh, hs0, hs1⟩ := hI
    simp only at hS hh hs0 hs1
    refine c_seq ?_
    refine c_seq ?_
    refine c_region ?_
    refine L_op (s_e hS (e_move rfl) rfl ?_); clear hS a; intro a hS
    refine L_op (s_e hS (e_move rfl) rfl ?_); clear hS a; intro a hS
    refine L_op (s_e hS (e_bin rfl rfl rfl) rfl ?_); clear hS a; intro a hS
    refine L_nil ?_
    refine n_then ?_
    first | refine c_ifD hS rfl (fun hc30 => ?_) (fun hc30 => ?_) | refine c_if hS rfl (fun hc30 => ?_) (fun hc30 => ?_)
    ·
      have hsn : s < n := by omega
      refine wp_skip ?_
      refine n_then ?_
      refine wp_block ?_
      refine c_seq ?_
      refine c_region ?_
      refine L_op (s_e hS (e_move rfl) rfl ?_); clear hS a; intro a hS
      first | (refine L_op (s_e hS (e_binN rfl rfl rfl (by omega)) rfl ?_); clear hS a; intro a hS) | (refine L_op (s_e hS (e_bin rfl rfl rfl) rfl ?_); clear hS a; intro a hS)
      rw [show (2 : Int) * (s : Int) = ((2 * s : Nat) : Int) from by omega] at hS
      refine L_op (s_e hS (e_assign rfl) rfl ?_); clear hS a; intro a hS
      refine L_op (s_e hS (e_assign rfl) rfl ?_); clear hS a; intro a hS
      refine L_nil ?_
      refine n_then ?_
      refine c_seq ?_
      refine wp_block ?_
      skip
      refine c_loop (γ := Nat × List EA) (fun G a w => St 63 (ownA 58 4 (.slice (some ⟨g, 0, none⟩) n c) n ((orig).flatMap encE)).F w0 a w [(7, .int .i64 ((G.1 * (2 * s) : Nat) : Int)), (8, .int .i64 ((G.1 * (2 * s) + 2 * s : Nat) : Int)), (6, .int .i64 (s : Int)), (0, .slice (some ⟨g, 0, none⟩) n c), (1, .int .i64 (n : Int)), (2, cmpV)] [(ownA 58 4 (.slice (some ⟨g, 0, none⟩) n c) n ((G.2).flatMap encE))] ∧ Half s G.1 orig G.2 ∧ G.1 * (2 * s) ≤ n) (fun G => n - G.1 * (2 * s)) (0, z2) ⟨by simp only; rw [Nat.zero_mul, Nat.zero_add]; exact (hS.slots (by repeat (first | exact trivial | refine ⟨rfl, ?_⟩))).pick (by repeat (first | exact Pick.nil | (refine Pick.cons (by repeat (first | exact Rem.head | apply Rem.tail)) ?_))), hh, by simp⟩ ?_
      clear hS a; (try clear w); intro G a w hI
      obtain ⟨T, z3⟩ := G
      obtain ⟨hS, hh3, hT⟩ := hI
      simp only at hS hh3 hT
      have hzl : z3.length = n := hh3.len.trans hn
      have hst2 : T * (2 * s) = 2 * T * s := by rw [Nat.mul_comm 2 T, Nat.mul_assoc]
      have hst3 : (2 * T + 1) * s = T * (2 * s) + s := by rw [Nat.add_mul, hst2]; omega
      have hT1 : (T + 1) * (2 * s) = T * (2 * s) + 2 * s := by rw [Nat.add_mul]; omega
      have hlA : (z3.take (T * (2 * s))).length = T * (2 * s) := by rw [List.length_take]; omega
      have hlX : (blkE s (2 * T) z3).length = min s (n - T * (2 * s)) := by rw [blk_len, hzl, hst2]
      have hlY : (blkE s (2 * T + 1) z3).length = min s (n - (T * (2 * s) + s)) := by rw [blk_len, hzl, hst3]
      have hcr := blk_cross hids hh3
      have hsX := (hh3.one (2 * T) (Nat.le_refl _)).srt
      have hsY := (hh3.one (2 * T + 1) (by omega)).srt
      have hzz : z3 = z3.take (T * (2 * s)) ++ (blkE (2 * s) T z3 ++ z3.drop (T * (2 * s) + 2 * s)) := split3 (T * (2 * s)) (2 * s) z3
      have hz4 : z3 = z3.take (T * (2 * s)) ++ (blkE s (2 * T) z3 ++ (blkE s (2 * T + 1) z3 ++ z3.drop (T * (2 * s) + 2 * s))) := by
        rw [← List.append_assoc (blkE s (2 * T) z3), ← blk_split]; exact hzz
      generalize haN : T * (2 * s) = aN at *
      refine c_seq ?_
      refine c_seq ?_
      refine c_region ?_
      refine L_op (s_e hS (e_move rfl) rfl ?_); clear hS a; intro a hS
      refine L_op (s_e hS (e_move rfl) rfl ?_); clear hS a; intro a hS
      refine L_op (s_e hS (e_bin rfl rfl rfl) rfl ?_); clear hS a; intro a hS
      refine L_nil ?_
      refine n_then ?_
      first | refine c_ifD hS rfl (fun hc35 => ?_) (fun hc35 => ?_) | refine c_if hS rfl (fun hc35 => ?_) (fun hc35 => ?_)
      ·
        have hb : aN + 2 * s ≤ n := by omega
        refine wp_skip ?_
        refine n_then ?_
        refine wp_block ?_
        refine c_seq ?_
        refine c_region ?_
        refine L_op (s_e hS (e_move rfl) rfl ?_); clear hS a; intro a hS
        refine L_op (s_e hS (e_move rfl) rfl ?_); clear hS a; intro a hS
        refine L_op (s_e hS (e_move rfl) rfl ?_); clear hS a; intro a hS
        refine L_op (s_e hS (e_move rfl) rfl ?_); clear hS a; intro a hS
        first | (refine L_op (s_e hS (e_binN rfl rfl rfl (by omega)) rfl ?_); clear hS a; intro a hS) | (refine L_op (s_e hS (e_bin rfl rfl rfl) rfl ?_); clear hS a; intro a hS)
        rw [show (aN : Int) + (s : Int) = ((aN + s : Nat) : Int) from by omega] at hS
        refine L_op (s_e hS (e_move rfl) rfl ?_); clear hS a; intro a hS
        refine L_op (s_e hS (e_move rfl) rfl ?_); clear hS a; intro a hS
        refine L_op (s_callM hS (.cons rfl (.cons rfl (.cons rfl (.cons rfl (.cons rfl .nil))))) cf114 rfl (symm_P g n c hN (2 * s) aN (aN + s) (aN + 2 * s) (z3.take aN) (blkE s (2 * T) z3) (blkE s (2 * T + 1) z3) (z3.drop (aN + 2 * s)) z3 hz4 (by omega) (by omega) hsX hsY hcr hlA.symm (by omega) (by omega) (by omega) hzl _ (hS.ok (ownA 58 4 (.slice (some ⟨g, 0, none⟩) n c) n ((z3).flatMap encE)) (by repeat constructor))) (fun x => (by repeat constructor)) rfl ?_); clear hS a; (try clear w); intro x43 a w hS
        refine L_nil ?_
        refine n_then ?_
        refine c_seq ?_
        refine c_region ?_
        refine L_op (s_e hS (e_move rfl) rfl ?_); clear hS a; intro a hS
        refine L_op (s_e hS (e_assign rfl) rfl ?_); clear hS a; intro a hS
        refine L_nil ?_
        refine n_then ?_
        refine c_region ?_
        refine L_op (s_e hS (e_move rfl) rfl ?_); clear hS a; intro a hS
        refine L_op (s_e hS (e_move rfl) rfl ?_); clear hS a; intro a hS
        first | (refine L_op (s_e hS (e_binN rfl rfl rfl (by omega)) rfl ?_); clear hS a; intro a hS) | (refine L_op (s_e hS (e_bin rfl rfl rfl) rfl ?_); clear hS a; intro a hS)
        rw [show (2 : Int) * (s : Int) = ((2 * s : Nat) : Int) from by omega] at hS
        first | (refine L_op (s_e hS (e_binN rfl rfl rfl (by omega)) rfl ?_); clear hS a; intro a hS) | (refine L_op (s_e hS (e_bin rfl rfl rfl) rfl ?_); clear hS a; intro a hS)
        refine L_op (s_e hS (e_assign rfl) rfl ?_); clear hS a; intro a hS
        refine L_nil ?_
        refine n_block ?_
        have hS1 : IsS (blkE (2 * s) T z3) x43.1 := by rw [blk_split]; exact x43.2
        have hbl : (blkE (2 * s) T z3).length = 2 * s := by rw [blk_len, haN]; omega
        have hstp := hh3.step (A := z3.take aN) (S := x43.1) (B := z3.drop (aN + 2 * s)) (by rw [hlA, haN]) hzz (zs' := z3.take aN ++ (x43.1 ++ z3.drop (aN + 2 * s))) rfl (.inr hbl) hS1
        refine ⟨(T + 1, z3.take aN ++ (x43.1 ++ z3.drop (aN + 2 * s))), by simp only; omega, ?_, hstp, by simp only; omega⟩
        simp only
        rw [hT1, show ((aN + 2 * s + 2 * s : Nat) : Int) = ((aN + 2 * s : Nat) : Int) + ((2 * s : Nat) : Int) from by omega]
        exact (hS.slots (by repeat (first | exact trivial | refine ⟨rfl, ?_⟩))).pick (by repeat (first | exact Pick.nil | (refine Pick.cons (by repeat (first | exact Rem.head | apply Rem.tail)) ?_)))
      ·
        have hb : n < aN + 2 * s := by omega
        refine wp_exit ?_
        refine x_then (x_then (x_hit ?_))
        refine n_then ?_
        refine c_cut (fun a w => ∃ z5 : List EA, St 63 (ownA 58 4 (.slice (some ⟨g, 0, none⟩) n c) n ((orig).flatMap encE)).F w0 a w [(6, .int .i64 (s : Int)), (0, .slice (some ⟨g, 0, none⟩) n c), (1, .int .i64 (n : Int)), (2, cmpV)] [(ownA 58 4 (.slice (some ⟨g, 0, none⟩) n c) n ((z5).flatMap encE))] ∧ Half s (T + 1) orig z5) ?_ ?_
        ·
          refine c_seq ?_
          refine c_region ?_
          refine L_op (s_e hS (e_move rfl) rfl ?_); clear hS a; intro a hS
          refine L_op (s_e hS (e_move rfl) rfl ?_); clear hS a; intro a hS
          first | (refine L_op (s_e hS (e_binN rfl rfl rfl (by omega)) rfl ?_); clear hS a; intro a hS) | (refine L_op (s_e hS (e_bin rfl rfl rfl) rfl ?_); clear hS a; intro a hS)
          rw [show (aN : Int) + (s : Int) = ((aN + s : Nat) : Int) from by omega] at hS
          refine L_op (s_e hS (e_assign rfl) rfl ?_); clear hS a; intro a hS
          refine L_nil ?_
          refine n_then ?_
          refine c_seq ?_
          refine c_region ?_
          refine L_op (s_e hS (e_move rfl) rfl ?_); clear hS a; intro a hS
          refine L_op (s_e hS (e_move rfl) rfl ?_); clear hS a; intro a hS
          refine L_op (s_e hS (e_bin rfl rfl rfl) rfl ?_); clear hS a; intro a hS
          refine L_nil ?_
          refine n_then ?_
          first | refine c_ifD hS rfl (fun hc54 => ?_) (fun hc54 => ?_) | refine c_if hS rfl (fun hc54 => ?_) (fun hc54 => ?_)
          ·
            have hmn : aN + s < n := by omega
            have hdn : z3.drop (aN + 2 * s) = [] := List.drop_of_length_le (by omega)
            rw [hdn] at hz4 hzz
            refine c_region ?_
            refine L_op (s_e hS (e_move rfl) rfl ?_); clear hS a; intro a hS
            refine L_op (s_e hS (e_move rfl) rfl ?_); clear hS a; intro a hS
            refine L_op (s_e hS (e_move rfl) rfl ?_); clear hS a; intro a hS
            refine L_op (s_e hS (e_move rfl) rfl ?_); clear hS a; intro a hS
            refine L_op (s_e hS (e_move rfl) rfl ?_); clear hS a; intro a hS
            refine L_op (s_callM hS (.cons rfl (.cons rfl (.cons rfl (.cons rfl (.cons rfl .nil))))) cf114 rfl (symm_P g n c hN (2 * s) aN (aN + s) n (z3.take aN) (blkE s (2 * T) z3) (blkE s (2 * T + 1) z3) [] z3 hz4 (by omega) (by omega) hsX hsY hcr hlA.symm (by omega) (by omega) (by omega) hzl _ (hS.ok (ownA 58 4 (.slice (some ⟨g, 0, none⟩) n c) n ((z3).flatMap encE)) (by repeat constructor))) (fun x => (by repeat constructor)) rfl ?_); clear hS a; (try clear w); intro x60 a w hS
            refine L_nil ?_
            first
            | (have hx := x60
               have hS1 : IsS (blkE (2 * s) T z3) x60.1 := by rw [blk_split]; exact x60.2
               exact ⟨_, (hS.slots (by repeat (first | exact trivial | refine ⟨rfl, ?_⟩))).pick (by repeat (first | exact Pick.nil | (refine Pick.cons (by repeat (first | exact Rem.head | apply Rem.tail)) ?_))), hh3.step (A := z3.take aN) (S := x60.1) (B := []) (by rw [hlA, haN]) hzz rfl (.inl rfl) hS1⟩)
            | exact ⟨z3, (hS.slots (by repeat (first | exact trivial | refine ⟨rfl, ?_⟩))).pick (by repeat (first | exact Pick.nil | (refine Pick.cons (by repeat (first | exact Rem.head | apply Rem.tail)) ?_))), hh3.short (by rw [haN]; omega)⟩
          ·
            refine wp_skip ?_
            first
            | (have hx := x60
               have hS1 : IsS (blkE (2 * s) T z3) x60.1 := by rw [blk_split]; exact x60.2
               exact ⟨_, (hS.slots (by repeat (first | exact trivial | refine ⟨rfl, ?_⟩))).pick (by repeat (first | exact Pick.nil | (refine Pick.cons (by repeat (first | exact Rem.head | apply Rem.tail)) ?_))), hh3.step (A := z3.take aN) (S := x60.1) (B := []) (by rw [hlA, haN]) hzz rfl (.inl rfl) hS1⟩)
            | exact ⟨z3, (hS.slots (by repeat (first | exact trivial | refine ⟨rfl, ?_⟩))).pick (by repeat (first | exact Pick.nil | (refine Pick.cons (by repeat (first | exact Rem.head | apply Rem.tail)) ?_))), hh3.short (by rw [haN]; omega)⟩
        ·
          clear hS a; (try clear w); intro a w hS
          obtain ⟨z5, hS, hh5⟩ := hS
          refine c_region ?_
          refine L_op (s_e hS (e_move rfl) rfl ?_); clear hS a; intro a hS
          first | (refine L_op (s_e hS (e_binN rfl rfl rfl (by omega)) rfl ?_); clear hS a; intro a hS) | (refine L_op (s_e hS (e_bin rfl rfl rfl) rfl ?_); clear hS a; intro a hS)
          refine L_op (s_e hS (e_assign rfl) rfl ?_); clear hS a; intro a hS
          refine L_nil ?_
          refine n_block ?_
          refine ⟨(2 * s, z5), by simp only; omega, ?_, hh5.next (by rw [hT1]; omega), by simp only; omega, by simp only; omega⟩
          simp only
          rw [show ((2 * s : Nat) : Int) = (s : Int) * 2 from by omega]
          exact (hS.slots (by repeat (first | exact trivial | refine ⟨rfl, ?_⟩))).pick (by repeat (first | exact Pick.nil | (refine Pick.cons (by repeat (first | exact Rem.head | apply Rem.tail)) ?_)))
    ·
      refine wp_exit ?_
      refine x_then (x_then (x_hit ?_))
      refine r_norm ?_
      refine c_retN hS Try.results95 .nil rfl ?_
      exact ⟨⟨z2, hh.all (by omega)⟩, rfl, hS.chg, hS.ok (ownA 58 4 (.slice (some ⟨g, 0, none⟩) n c) n ((z2).flatMap encE)) (by repeat constructor), fun b hb => (hS.mine (ownA 58 4 (.slice (some ⟨g, 0, none⟩) n c) n ((z2).flatMap encE)) (by repeat constructor) rfl b hb).symm⟩
set_option maxRecDepth 100000 in
theorem insort0_P (q : Option Addr) (c : Nat) (w0 : World) : PureC Try.prog 113 [.slice q 0 c, .int .i64 0, .int .i64 0, cmpV] w0 (.tuple #[]) := by
  refine c_enter [(0, .slice q 0 c), (1, .int .i64 0), (2, .int .i64 0), (3, cmpV)] [] noB Try.func113 rfl Try.ntmps113 ⟨rfl, rfl, rfl, rfl, trivial⟩ rfl (by simp) (by simp) (by simp) ?_
  intro a hS
  refine c_seq ?_
  refine c_region ?_
  refine L_op (s_e hS (e_move rfl) rfl ?_); clear hS a; intro a hS
  first | (refine L_op (s_e hS (e_binN rfl rfl rfl (by omega)) rfl ?_); clear hS a; intro a hS) | (refine L_op (s_e hS (e_bin rfl rfl rfl) rfl ?_); clear hS a; intro a hS)
  refine L_op (s_e hS (e_assign rfl) rfl ?_); clear hS a; intro a hS
  refine L_nil ?_
  refine n_then ?_
  refine wp_block ?_
  skip
  refine c_loop (γ := Unit) (fun G a w => St 53 noB w0 a w [(8, .int .i64 1), (2, .int .i64 0)] []) (fun G => 0) () (hS.slots (by repeat (first | exact trivial | refine ⟨rfl, ?_⟩))) ?_
  clear hS a; (try clear w); intro G a w hI
  rename St _ _ _ _ _ _ _ => hS
  refine c_seq ?_
  refine c_seq ?_
  refine c_region ?_
  refine L_op (s_e hS (e_move rfl) rfl ?_); clear hS a; intro a hS
  refine L_op (s_e hS (e_move rfl) rfl ?_); clear hS a; intro a hS
  refine L_op (s_e hS (e_bin rfl rfl rfl) rfl ?_); clear hS a; intro a hS
  refine L_nil ?_
  refine n_then ?_
  replace hS := hS.is (t := 14) (c := false) rfl (rfl)
  refine c_if_f hS rfl ?_
  refine wp_exit ?_
  refine x_then (x_then (x_hit ?_))
  refine r_norm ?_
  refine c_retN hS Try.results113 .nil rfl ?_
  exact ⟨rfl, hS.chg⟩
set_option maxRecDepth 100000 in
theorem stable0_P (q : Option Addr) (c : Nat) (w0 : World) : PureC Try.prog 95 [.slice q 0 c, .int .i64 0, cmpV] w0 (.tuple #[]) := by
  refine c_enter [(0, .slice q 0 c), (1, .int .i64 0), (2, cmpV)] [] noB Try.func95 rfl Try.ntmps95 ⟨rfl, rfl, rfl, trivial⟩ rfl (by simp) (by simp) (by simp) ?_
  intro a hS
  refine c_seq ?_
  refine c_region ?_
  refine L_op (s_e hS (e_assign rfl) rfl ?_); clear hS a; intro a hS
  refine L_nil ?_
  refine n_then ?_
  refine c_seq ?_
  refine c_region ?_
  refine L_op (s_e hS (e_move rfl) rfl ?_); clear hS a; intro a hS
  refine L_op (s_e hS (e_assign rfl) rfl ?_); clear hS a; intro a hS
  refine L_op (s_e hS (e_assign rfl) rfl ?_); clear hS a; intro a hS
  refine L_nil ?_
  refine n_then ?_
  refine c_seq ?_
  refine wp_block ?_
  skip
  refine c_loop (γ := Unit) (fun G a w => St 63 noB w0 a w [(7, .int .i64 0), (8, .int .i64 20), (6, .int .i64 20), (0, .slice q 0 c), (1, .int .i64 0), (2, cmpV)] []) (fun G => 0) () (hS.slots (by repeat (first | exact trivial | refine ⟨rfl, ?_⟩))) ?_
  clear hS a; (try clear w); intro G a w hI
  rename St _ _ _ _ _ _ _ => hS
  refine c_seq ?_
  refine c_seq ?_
  refine c_region ?_
  refine L_op (s_e hS (e_move rfl) rfl ?_); clear hS a; intro a hS
  refine L_op (s_e hS (e_move rfl) rfl ?_); clear hS a; intro a hS
  refine L_op (s_e hS (e_bin rfl rfl rfl) rfl ?_); clear hS a; intro a hS
  refine L_nil ?_
  refine n_then ?_
  replace hS := hS.is (t := 13) (c := false) rfl (rfl)
  refine c_if_f hS rfl ?_
  refine wp_exit ?_
  refine x_then (x_then (x_hit ?_))
  refine n_then ?_
  refine c_seq ?_
  refine c_region ?_
  refine L_op (s_e hS (e_move rfl) rfl ?_); clear hS a; intro a hS
  refine L_op (s_e hS (e_move rfl) rfl ?_); clear hS a; intro a hS
  refine L_op (s_e hS (e_move rfl) rfl ?_); clear hS a; intro a hS
  refine L_op (s_e hS (e_move rfl) rfl ?_); clear hS a; intro a hS
  refine L_op (s_callP hS (.cons rfl (.cons rfl (.cons rfl (.cons rfl .nil)))) cf113 rfl (insort0_P q c _) ?_); clear hS a; (try clear w); intro a w hS
  refine L_nil ?_
  refine n_then ?_
  refine wp_block ?_
  skip
  refine c_loop (γ := Unit) (fun G a w => St 63 noB w0 a w [(6, .int .i64 20), (1, .int .i64 0)] []) (fun G => 0) () (hS.slots (by repeat (first | exact trivial | refine ⟨rfl, ?_⟩))) ?_
  clear hS a; (try clear w); intro G a w hI
  rename St _ _ _ _ _ _ _ => hS
  refine c_seq ?_
  refine c_seq ?_
  refine c_region ?_
  refine L_op (s_e hS (e_move rfl) rfl ?_); clear hS a; intro a hS
  refine L_op (s_e hS (e_move rfl) rfl ?_); clear hS a; intro a hS
  refine L_op (s_e hS (e_bin rfl rfl rfl) rfl ?_); clear hS a; intro a hS
  refine L_nil ?_
  refine n_then ?_
  replace hS := hS.is (t := 30) (c := false) rfl (rfl)
  refine c_if_f hS rfl ?_
  refine wp_exit ?_
  refine x_then (x_then (x_hit ?_))
  refine r_norm ?_
  refine c_retN hS Try.results95 .nil rfl ?_
  exact ⟨rfl, hS.chg⟩
set_option maxRecDepth 100000 in
theorem sort0_P (q : Option Addr) (c : Nat) (w0 : World) : PureC Try.prog 64 [.slice q 0 c, cmpV] w0 (.tuple #[]) := by
  refine c_enter [(0, .slice q 0 c), (1, cmpV)] [] noB Try.func64 rfl Try.ntmps64 ⟨rfl, rfl, trivial⟩ rfl (by simp) (by simp) (by simp) ?_
  intro a hS
  refine c_region ?_
  refine L_op (s_e hS (e_move rfl) rfl ?_); clear hS a; intro a hS
  refine L_op (s_e hS (e_move rfl) rfl ?_); clear hS a; intro a hS
  refine L_op (s_e hS (e_len rfl rfl ty_sl54) rfl ?_); clear hS a; intro a hS
  refine L_op (s_e hS (e_move rfl) rfl ?_); clear hS a; intro a hS
  refine L_op (s_callP hS (.cons rfl (.cons rfl (.cons rfl .nil))) cf95 rfl (stable0_P q c _) ?_); clear hS a; (try clear w); intro a w hS
  refine L_nil ?_
  refine r_norm ?_
  refine c_retN hS Try.results64 .nil rfl ?_
  exact ⟨rfl, hS.chg⟩
set_option maxRecDepth 100000 in
theorem sort1_P (g n c : Nat) (orig : List EA) (hids : Ids orig) (hn : orig.length = n) (hN : n ≤ 1000000) (w0 : World) (h : (ownA 58 4 (.slice (some ⟨g, 0, none⟩) n c) n ((orig).flatMap encE)).ok w0) :
    MutC Try.prog 64 [.slice (some ⟨g, 0, none⟩) n c, cmpV] w0 (ownA 58 4 (.slice (some ⟨g, 0, none⟩) n c) n ((orig).flatMap encE)) (fun _ : { S // IsS orig S } => .tuple #[]) (fun S => (ownA 58 4 (.slice (some ⟨g, 0, none⟩) n c) n ((S.1).flatMap encE))) := by
  refine c_enter [(0, .slice (some ⟨g, 0, none⟩) n c), (1, cmpV)] [(ownA 58 4 (.slice (some ⟨g, 0, none⟩) n c) n ((orig).flatMap encE))] (ownA 58 4 (.slice (some ⟨g, 0, none⟩) n c) n ((orig).flatMap encE)).F Try.func64 rfl Try.ntmps64 ⟨rfl, rfl, trivial⟩ rfl (okC h okN) dis1 (mineO (fun _ hb => hb) mineN) ?_
  intro a hS
  refine c_region ?_
  refine L_op (s_e hS (e_move rfl) rfl ?_); clear hS a; intro a hS
  refine L_op (s_e hS (e_move rfl) rfl ?_); clear hS a; intro a hS
  refine L_op (s_e hS (e_len rfl rfl ty_sl54) rfl ?_); clear hS a; intro a hS
  refine L_op (s_e hS (e_move rfl) rfl ?_); clear hS a; intro a hS
  refine L_op (s_callM hS (.cons rfl (.cons rfl (.cons rfl .nil))) cf95 rfl (stable_P g n c orig hids hn hN _ (hS.ok (ownA 58 4 (.slice (some ⟨g, 0, none⟩) n c) n ((orig).flatMap encE)) (by repeat constructor))) (fun x => (by repeat constructor)) rfl ?_); clear hS a; (try clear w); intro x8 a w hS
  refine L_nil ?_
  refine r_norm ?_
  refine c_retN hS Try.results64 .nil rfl ?_
  exact ⟨x8, rfl, hS.chg, hS.ok (ownA 58 4 (.slice (some ⟨g, 0, none⟩) n c) n ((x8.1).flatMap encE)) (by repeat constructor), fun b hb => (hS.mine (ownA 58 4 (.slice (some ⟨g, 0, none⟩) n c) n ((x8.1).flatMap encE)) (by repeat constructor) rfl b hb).symm⟩
/-- a row of entries, sorted where it lies. -/
theorem sort_P (v : Value) (L : List EA) (hids : Ids L) (hN : L.length ≤ 1000000) (w0 : World) (h : (ownA 58 4 v L.length (L.flatMap encE)).ok w0) :
    MutC Try.prog 64 [v, cmpV] w0 (ownA 58 4 v L.length (L.flatMap encE)) (fun _ : { S // IsS L S } => .tuple #[]) (fun S => ownA 58 4 v L.length (S.1.flatMap encE)) := by
  have h0 : w0.ownsRow 0 58 4 v L.length (L.flatMap encE) := h.now
  rcases h0.2 with ⟨e1, e2⟩ | ⟨g, cap, cur, e1, _⟩
  · obtain rfl := List.eq_nil_of_length_eq_zero e2
    subst e1
    exact pure_mutL (sort0_P none 0 w0) h ⟨[], .refl _, .nil⟩ rfl rfl
  · subst e1
    exact sort1_P g L.length cap L hids rfl hN w0 h
end Go.Proofs.Ytheofhegdjjfgaa

namespace Go.Proofs.Ytheofhegdjjfgaa
open Go.RowKit

def ltV (x y : Ent) : Prop := x.at_ < y.at_ ∨ (x.at_ = y.at_ ∧ x.id < y.id)
/-- entries of a time, by instant and number. -/
structure EntsOf (es : List Ent) (from_ to_ : Int) (vs : List Ent) : Prop where
  perm : vs.Perm (es.filter fun e => decide (from_ ≤ e.at_ ∧ e.at_ < to_))
  srt : vs.Pairwise ltV
/-- entries of one's own, each with postings of its own. -/
structure entsφ (v : Value) (L : List EA) (w : World) : Prop where
  row : w.ownsRow 0 58 4 v L.length (L.flatMap encE)
  ps : ∀ x ∈ L, psOk x w
  apart : L.Pairwise fun x y => x.b ≠ y.b
  out : ∀ x ∈ L, v.ownBlock ≠ some x.b
def entsF (v : Value) (L : List EA) (k : Nat) : Prop := v.ownBlock = some k ∨ ∃ x ∈ L, k = x.b
def entsA (v : Value) (L : List EA) : Asn := .any (entsF v L) (entsφ v L) true
theorem ents_ok {v : Value} {L : List EA} {w : World} (h : entsφ v L w) : (entsA v L).ok w := by
  refine ⟨fun k hk => ?_, fun w' hw => ⟨?_, fun x hx => ?_, h.apart, h.out⟩⟩
  · rcases hk with hk | ⟨x, hx, rfl⟩
    · exact (World.ownsRow.lt h.row k hk).2
    · exact (h.ps x hx).own
  · exact owns_keepL h.row (fun b hb => hw b (.inl hb))
  · exact (h.ps x hx).keep (hw x.b (.inr ⟨x, hx, rfl⟩))
theorem psx_ok {x : EA} {w : World} (h : psOk x w) : (Asn.any (fun k => k = x.b) (psOk x) false).ok w :=
  ⟨fun k hk => by rw [hk]; exact h.own, fun w' hw => h.keep (hw x.b rfl)⟩
set_option maxRecDepth 100000 in
theorem lown_P (x : EA) (hlen : x.v.ps.length ≤ 1000000) (w0 : World) (h : psOk x w0) :
    NewC Try.prog 63 [.agg (encE x).toArray] w0 (fun y : Nat × Nat => .agg (encE ⟨x.v, y.1, y.2⟩).toArray) (fun y => ownA 63 3 (psO x.v.ps y) x.v.ps.length (x.v.ps.flatMap encP)) := by
  refine c_enter [(0, .agg (encE x).toArray)] [Asn.any (fun k => k = x.b) (psOk x) false] noB Try.func63 rfl Try.ntmps63 ⟨rfl, trivial⟩ rfl (okC (psx_ok h) okN) dis1 (mineC (by rfl) mineN) ?_
  intro a hS
  refine c_seq ?_
  refine c_region ?_
  refine L_op (s_boxA hS rfl rfl ?_); clear hS a; (try clear w); intro a w b1 hS
  refine L_op (s_alloc hS ty_z58 rfl ?_); clear hS a; (try clear w); intro a w b2 hS
  refine L_nil ?_
  refine n_then ?_
  refine c_seq ?_
  refine c_region ?_
  first | (refine L_op (s_e hS (e_fa0 rfl ty_fo58_3) rfl ?_); clear hS a; intro a hS) | (refine L_op (s_e hS (e_faK rfl ty_fo58_3) rfl ?_); clear hS a; intro a hS)
  refine L_op (s_e hS (e_load rfl (by repeat constructor) ty_sc56 (by rfl)) rfl ?_); clear hS a; intro a hS
  refine L_op (s_callN hS (.cons rfl .nil) cf74 rfl (lfresh_P (some (x.b, 0)) x.c x.v.ps hlen _ (row_of_own (enc := encP) (s := 3) (fun _ => rfl) (hS.get (X := Asn.any (fun k => k = x.b) (psOk x) false) (by repeat constructor))) (fun q hq => by cases hq; exact (hS.get (X := Asn.any (fun k => k = x.b) (psOk x) false) (by repeat constructor)).own)) ?_); clear hS a; (try clear w); intro x5 a w hS
  first | (refine L_op (s_e hS (e_fa0 rfl ty_fo58_3) rfl ?_); clear hS a; intro a hS) | (refine L_op (s_e hS (e_faK rfl ty_fo58_3) rfl ?_); clear hS a; intro a hS)
  refine L_op (s_store hS rfl rfl rfl ty_sz56 (by repeat constructor) (by repeat constructor) ?_); clear hS; (try clear w); intro w hS
  refine L_nil ?_
  refine n_then ?_
  refine c_seq ?_
  refine c_region ?_
  refine L_op (s_e hS (e_loadA rfl (by repeat constructor) ty_st58 ty_sz58 (by rfl)) rfl ?_); clear hS a; intro a hS
  refine L_op (s_storeA hS rfl rfl ty_sz58 (by repeat constructor) (by rfl) (by rfl) (by rfl) ?_); clear hS; (try clear w); intro w hS
  refine L_nil ?_
  refine n_then ?_
  refine wp_ret ?_
  refine c_ret1 hS Try.results63 (.cellA rfl (by repeat constructor) ty_st58 ty_sz58 (by rfl)) ?_
  exact ⟨x5, rfl, hS.chg, hS.new (X := ownA 63 3 (psO x.v.ps x5) x.v.ps.length (x.v.ps.flatMap encP)) (by repeat constructor) rfl⟩
def inT (from_ to_ : Int) (e : Ent) : Prop := from_ ≤ e.at_ ∧ e.at_ < to_
instance (from_ to_ : Int) (e : Ent) : Decidable (inT from_ to_ e) := by unfold inT; infer_instance
def inTs (from_ to_ : Int) (es : List Ent) : List Ent := es.filter fun e => decide (inT from_ to_ e)
theorem inTs_take {from_ to_ : Int} {es : List Ent} {i : Nat} {x : Ent} (hx : es[i]? = some x) : inTs from_ to_ (es.take (i + 1)) = inTs from_ to_ (es.take i) ++ if inT from_ to_ x then [x] else [] := by
  unfold inTs
  rw [List.take_add_one, hx, List.filter_append]
  by_cases h : inT from_ to_ x
  · simp [h]
  · simp [h]
/-- numbers of entries grow. -/
def idsP (es : List Ent) : Prop := es.Pairwise fun x y => x.id < y.id
theorem ids_of {L : List EA} (h : idsP (L.map (·.v))) : Ids L := by unfold idsP at h; rw [List.pairwise_map] at h; exact h

set_option maxHeartbeats 1000000 in
set_option maxRecDepth 100000 in
theorem lEntries_P (B : LB) (s : LS) (from_ to_ : Int) (hids : idsP (pl s).es) (hes : s.es.length ≤ 100000) (hps : ∀ x ∈ s.es, x.v.ps.length ≤ 50) (w0 : World) (h : ledφ B s w0) :
    NewC Try.prog 28 [.pointer (some ⟨B.lb, 0, none⟩), .int .i64 from_, .int .i64 to_] w0 (fun y : { y : Value × List EA // EntsOf (pl s).es from_ to_ (y.2.map (·.v)) } => y.1.1) (fun y => entsA y.1.1 y.1.2) := by
  obtain ⟨qs, cs, hsv⟩ := own_slice h.row
  have hsh : s.es.length = 0 ∨ ∃ g, qs = some ⟨g, 0, none⟩ := by
    have h1 := h.row
    rw [hsv] at h1
    rcases h1.2 with ⟨e1, e2⟩ | ⟨g, cap, cur, e1, _⟩
    · exact .inl e2
    · injection e1 with e3; exact .inr ⟨g, e3⟩
  have hel : (pl s).es.length = s.es.length := by simp [pl]
  refine c_enter [(0, .pointer (some ⟨B.lb, 0, none⟩)), (1, .int .i64 from_), (2, .int .i64 to_)] [ledA B s false] noB Try.func28 rfl Try.ntmps28 ⟨rfl, rfl, rfl, trivial⟩ rfl (okC (led_ok false h) okN) dis1 (mineC (by rfl) mineN) ?_
  intro a hS
  refine c_seq ?_
  refine c_region ?_
  refine L_op (s_e hS (e_assign rfl) rfl ?_); clear hS a; intro a hS
  refine L_nil ?_
  refine n_then ?_
  refine c_seq ?_
  refine c_region ?_
  refine L_op (s_e hS (e_assign rfl) rfl ?_); clear hS a; intro a hS
  refine L_nil ?_
  refine n_then ?_
  refine c_seq ?_
  refine c_seq ?_
  refine c_region ?_
  refine L_op (s_e hS (e_move rfl) rfl ?_); clear hS a; intro a hS
  refine L_op (s_e hS (e_nilCheck rfl) rfl ?_); clear hS a; intro a hS
  first | (refine L_op (s_e hS (e_fa0 rfl ty_fo129_2) rfl ?_); clear hS a; intro a hS) | (refine L_op (s_e hS (e_faK rfl ty_fo129_2) rfl ?_); clear hS a; intro a hS)
  refine L_op (s_e hS (e_loadC rfl ty_sc54 (led_cell (k := 2) (by repeat constructor) rfl)) rfl ?_); clear hS a; intro a hS
  rw [hsv] at hS
  refine L_op (s_e hS (e_len rfl rfl ty_sl54) rfl ?_); clear hS a; intro a hS
  refine L_op (s_e hS (e_move rfl) rfl ?_); clear hS a; intro a hS
  refine L_nil ?_
  refine n_then ?_
  refine wp_block ?_
  replace hS := hS.own_nil 58 4
  replace hS := hS.more (Y := psAll []) (ps_ok (fun x hx => by cases hx)) (fun b hb => by obtain ⟨x, hx, _⟩ := hb; cases hx)
  refine c_loop (γ := Nat × (Value × List EA)) (fun G a w => St 38 noB w0 a w [(15, .int .i64 (G.1 : Int)), (14, .int .i64 (s.es.length : Int)), (13, .slice qs s.es.length cs), (7, G.2.1), (1, .int .i64 from_), (2, .int .i64 to_)] [psAll G.2.2, ownA 58 4 G.2.1 G.2.2.length (G.2.2.flatMap encE), ledA B s false] ∧ G.1 ≤ s.es.length ∧ G.2.2.map (·.v) = inTs from_ to_ ((pl s).es.take G.1) ∧ (G.2.2.Pairwise fun x y => x.b ≠ y.b)) (fun G => s.es.length - G.1) (0, (.slice none 0 0, [])) ⟨(hS.slots (by repeat (first | exact trivial | refine ⟨rfl, ?_⟩))).pick (by repeat (first | exact Pick.nil | (refine Pick.cons (by repeat (first | exact Rem.head | apply Rem.tail)) ?_))), Nat.zero_le _, rfl, .nil⟩ ?_
  clear hS a; (try clear w); intro G a w hI
  obtain ⟨i, ov, L⟩ := G
  obtain ⟨hS, hi, hL, hap⟩ := hI
  simp only at hS hi hL hap
  have hLl : L.length ≤ i := by
    have h1 := congrArg List.length hL
    rw [List.length_map] at h1
    have h2 := List.length_filter_le (fun e => decide (inT from_ to_ e)) ((pl s).es.take i)
    rw [List.length_take] at h2
    unfold inTs at h1
    omega
  refine c_seq ?_
  refine c_region ?_
  refine L_op (s_e hS (e_bin rfl rfl rfl) rfl ?_); clear hS a; intro a hS
  refine L_nil ?_
  refine n_then ?_
  refine c_seq ?_
  first | refine c_ifD hS rfl (fun hc16 => ?_) (fun hc16 => ?_) | refine c_if hS rfl (fun hc16 => ?_) (fun hc16 => ?_)
  ·
    have hil : i < s.es.length := by omega
    obtain ⟨x, hx⟩ : ∃ x, s.es[i]? = some x := ⟨s.es[i], List.getElem?_eq_getElem hil⟩
    have hxm := List.mem_of_getElem? hx
    have hxp : (pl s).es[i]? = some x.v := by unfold pl; simp [hx]
    obtain ⟨gs, rfl⟩ : ∃ g, qs = some ⟨g, 0, none⟩ := hsh.resolve_left (by omega)
    have htk := inTs_take (from_ := from_) (to_ := to_) hxp
    have hpl := hps x hxm
    refine wp_skip ?_
    refine n_then ?_
    refine c_seq ?_
    refine wp_block ?_
    refine c_seq ?_
    refine c_region ?_
    refine L_op (s_e hS (e_ixN rfl rfl ty_sl54 ty_sz58 (by omega)) rfl ?_); clear hS a; intro a hS
    refine L_op (s_e hS (e_loadAC (l := encE x) rfl ty_st58 ty_sz58 (row_getE hsv (by repeat constructor) hx)) rfl ?_); clear hS a; intro a hS
    refine L_op (s_alloc hS ty_z58 rfl ?_); clear hS a; (try clear w); intro a w b9 hS
    refine L_op (s_storeA hS rfl rfl ty_sz58 (by repeat constructor) (by rfl) (by rfl) (by rfl) ?_); clear hS; (try clear w); intro w hS
    refine L_nil ?_
    refine n_then ?_
    refine c_seq ?_
    refine c_region ?_
    first | (refine L_op (s_e hS (e_fa0 rfl ty_fo58_1) rfl ?_); clear hS a; intro a hS) | (refine L_op (s_e hS (e_faK rfl ty_fo58_1) rfl ?_); clear hS a; intro a hS)
    refine L_op (s_e hS (e_load rfl (by repeat constructor) ty_sc3 (by rfl)) rfl ?_); clear hS a; intro a hS
    refine L_op (s_e hS (e_move rfl) rfl ?_); clear hS a; intro a hS
    refine L_op (s_e hS (e_bin rfl rfl rfl) rfl ?_); clear hS a; intro a hS
    refine L_op (s_e hS (e_move rfl) rfl ?_); clear hS a; intro a hS
    refine L_merge 5 28 (.bool (decide (inT from_ to_ x.v))) hS ?_ ?_
    · intro hcM28
      (first | refine g_splitD (t := 23) hS rfl ?_ ?_ | refine g_split (t := 23) hS rfl ?_ ?_) <;> (clear hS; intro hg23 hS)
      ·
        first | (refine L_go hS rfl rfl (s_e hS (e_fa0 rfl ty_fo58_1) rfl ?_); clear hS a; intro a hS) | (refine L_go hS rfl rfl (s_e hS (e_faK rfl ty_fo58_1) rfl ?_); clear hS a; intro a hS)
        refine L_go hS rfl rfl (s_e hS (e_load rfl (by repeat constructor) ty_sc3 (by rfl)) rfl ?_); clear hS a; intro a hS
        refine L_go hS rfl rfl (s_e hS (e_move rfl) rfl ?_); clear hS a; intro a hS
        refine L_go hS rfl rfl (s_e hS (e_bin rfl rfl rfl) rfl ?_); clear hS a; intro a hS
        first | (refine L_op (s_e hS (e_pick_t rfl rfl) rfl ?_); clear hS a; intro a hS) | (refine L_op (s_e hS (e_pick_f rfl rfl) rfl ?_); clear hS a; intro a hS)
        exact hcM28 _ _ (hS.ends 6 28 23 rfl (congrArg Value.bool (by rw [decide_eq_decide]; exact ⟨fun h2 => ⟨hg23, h2⟩, fun h2 => h2.2⟩)) rfl rfl (by first | exact congrArg Value.bool (decide_eq_true hg23).symm | exact congrArg Value.bool hg23.symm | simp [hg23]) rfl)
      ·
        refine L_skip_t hS rfl rfl rfl ?_; clear hS a; intro a hS
        refine L_skip_t hS rfl rfl rfl ?_; clear hS a; intro a hS
        refine L_skip_t hS rfl rfl rfl ?_; clear hS a; intro a hS
        refine L_skip_t hS rfl rfl rfl ?_; clear hS a; intro a hS
        first | (refine L_op (s_e hS (e_pick_t rfl rfl) rfl ?_); clear hS a; intro a hS) | (refine L_op (s_e hS (e_pick_f rfl rfl) rfl ?_); clear hS a; intro a hS)
        exact hcM28 _ _ (hS.ends 6 28 23 rfl (congrArg Value.bool (by exact (decide_eq_false (fun h2 => hg23 h2.1)).symm)) rfl rfl (by first | exact congrArg Value.bool (decide_eq_false hg23).symm | exact congrArg Value.bool hg23.symm | simp [hg23]) rfl)
    · clear hS a; (try clear w); intro a w hS
      simp only [List.drop_succ_cons, List.drop_zero]
      refine L_nil ?_
      refine n_then ?_
      first | refine c_ifD hS rfl (fun hc28 => ?_) (fun hc28 => ?_) | refine c_if hS rfl (fun hc28 => ?_) (fun hc28 => ?_)
      ·
        refine c_region ?_
        refine L_op (s_e hS (e_move rfl) rfl ?_); clear hS a; intro a hS
        refine L_op (s_e hS (e_loadA rfl (by repeat constructor) ty_st58 ty_sz58 (by rfl)) rfl ?_); clear hS a; intro a hS
        refine L_op (s_callN hS (.cons rfl .nil) cf63 rfl (lown_P x (by omega) _ ((hS.get (X := ledA B s false) (by repeat constructor)).ps x hxm)) ?_); clear hS a; (try clear w); intro x31 a w hS
        have hfr : ∀ y ∈ L, y.b ≠ x31.1 := fun y hy e => hS.sep (X := ownA 63 3 (psO x.v.ps x31) x.v.ps.length (x.v.ps.flatMap encP)) (Y := psAll L) (by repeat (first | exact Rem.head | apply Rem.tail)) (by repeat constructor) x31.1 rfl ⟨y, hy, e.symm⟩
        have hp1 : psOk ⟨x.v, x31.1, x31.2⟩ w := hS.get (X := ownA 63 3 (psO x.v.ps x31) x.v.ps.length (x.v.ps.flatMap encP)) (by repeat constructor)
        have hp2 : ∀ y ∈ L, psOk y w := hS.get (X := psAll L) (by repeat constructor)
        replace hS := hS.join (Y := psAll L) (Z := psAll (L ++ [⟨x.v, x31.1, x31.2⟩])) (by repeat constructor) (ps_ok (fun y hy => by
          rcases List.mem_append.1 hy with hy | hy
          · exact hp2 y hy
          · obtain rfl := List.mem_singleton.1 hy; exact hp1)) (fun b hb => by
          obtain ⟨y, hy, e⟩ := hb
          rcases List.mem_append.1 hy with hy | hy
          · exact .inr ⟨y, hy, e⟩
          · obtain rfl := List.mem_singleton.1 hy; exact .inl (by rw [e]; rfl)) (fun _ => ⟨rfl, rfl⟩)
        refine L_op (s_bslice hS ty_sl54 ty_sz58 ty_z58 rfl rfl rfl rfl (.agg rfl rfl .nil) rfl ?_); clear hS a; (try clear w); intro a w b32 hS
        refine L_op (s_append1 hS rfl rfl ty_sl54 ty_sz58 ty_by58 ty_z58 rfl rfl rfl (by repeat constructor) (by repeat constructor) (by rfl) (by rfl) (fun _ => (by repeat constructor)) (by omega) ?_); clear hS a; (try clear w); intro v33 a w hv33 hS
        refine L_op (s_e hS (e_assign rfl) rfl ?_); clear hS a; intro a hS
        refine L_nil ?_
        refine n_block ?_
        refine n_then ?_
        refine c_region ?_
        first | (refine L_op (s_e hS (e_binN rfl rfl rfl (by omega)) rfl ?_); clear hS a; intro a hS) | (refine L_op (s_e hS (e_bin rfl rfl rfl) rfl ?_); clear hS a; intro a hS)
        refine L_op (s_e hS (e_move rfl) rfl ?_); clear hS a; intro a hS
        refine L_nil ?_
        first
        | (have hy := x31
           rw [if_pos hc28] at htk
           refine ⟨(i + 1, (v33, L ++ [⟨x.v, x31.1, x31.2⟩])), by simp only; omega, ?_, by simp only; omega, by simp only; rw [htk, List.map_append, hL]; rfl, ?_⟩
           · simp only
             rw [List.length_append, List.flatMap_append]
             exact (hS.slots (by repeat (first | exact trivial | refine ⟨rfl, ?_⟩))).pick (by repeat (first | exact Pick.nil | (refine Pick.cons (by repeat (first | exact Rem.head | apply Rem.tail)) ?_)))
           · exact List.pairwise_append.2 ⟨hap, List.pairwise_singleton _ _, fun y hy z hz => by obtain rfl := List.mem_singleton.1 hz; exact hfr y hy⟩)
        | (rw [if_neg hc28, List.append_nil] at htk
           exact ⟨(i + 1, (ov, L)), by simp only; omega, (hS.slots (by repeat (first | exact trivial | refine ⟨rfl, ?_⟩))).pick (by repeat (first | exact Pick.nil | (refine Pick.cons (by repeat (first | exact Rem.head | apply Rem.tail)) ?_))), by simp only; omega, by simp only; rw [htk]; exact hL, hap⟩)
      ·
        refine wp_skip ?_
        refine n_block ?_
        refine n_then ?_
        refine c_region ?_
        first | (refine L_op (s_e hS (e_binN rfl rfl rfl (by omega)) rfl ?_); clear hS a; intro a hS) | (refine L_op (s_e hS (e_bin rfl rfl rfl) rfl ?_); clear hS a; intro a hS)
        refine L_op (s_e hS (e_move rfl) rfl ?_); clear hS a; intro a hS
        refine L_nil ?_
        first
        | (have hy := x31
           rw [if_pos hc28] at htk
           refine ⟨(i + 1, (v33, L ++ [⟨x.v, x31.1, x31.2⟩])), by simp only; omega, ?_, by simp only; omega, by simp only; rw [htk, List.map_append, hL]; rfl, ?_⟩
           · simp only
             rw [List.length_append, List.flatMap_append]
             exact (hS.slots (by repeat (first | exact trivial | refine ⟨rfl, ?_⟩))).pick (by repeat (first | exact Pick.nil | (refine Pick.cons (by repeat (first | exact Rem.head | apply Rem.tail)) ?_)))
           · exact List.pairwise_append.2 ⟨hap, List.pairwise_singleton _ _, fun y hy z hz => by obtain rfl := List.mem_singleton.1 hz; exact hfr y hy⟩)
        | (rw [if_neg hc28, List.append_nil] at htk
           exact ⟨(i + 1, (ov, L)), by simp only; omega, (hS.slots (by repeat (first | exact trivial | refine ⟨rfl, ?_⟩))).pick (by repeat (first | exact Pick.nil | (refine Pick.cons (by repeat (first | exact Rem.head | apply Rem.tail)) ?_))), by simp only; omega, by simp only; rw [htk]; exact hL, hap⟩)
  ·
    obtain rfl : i = s.es.length := by omega
    rw [← hel, List.take_length] at hL
    have hLi : Ids L := ids_of (by rw [hL]; exact List.Pairwise.sublist List.filter_sublist hids)
    refine wp_exit ?_
    refine x_then (x_then (x_hit ?_))
    refine n_then ?_
    refine c_seq ?_
    refine c_region ?_
    refine L_op (s_e hS (e_move rfl) rfl ?_); clear hS a; intro a hS
    refine L_op (s_callM hS (.cons rfl (.cons rfl .nil)) cf64 rfl (sort_P ov L hLi (by omega) _ (hS.ok (ownA 58 4 ov L.length (L.flatMap encE)) (by repeat constructor))) (fun x => (by repeat constructor)) rfl ?_); clear hS a; (try clear w); intro x36 a w hS
    refine L_nil ?_
    refine n_then ?_
    refine c_seq ?_
    refine c_region ?_
    refine L_op (s_e hS (e_move rfl) rfl ?_); clear hS a; intro a hS
    refine L_op (s_e hS (e_assign rfl) rfl ?_); clear hS a; intro a hS
    refine L_nil ?_
    refine n_then ?_
    refine wp_ret ?_
    refine c_ret1 hS Try.results28 (.tmp rfl) ?_
    obtain ⟨S, hSS⟩ := x36
    simp only at hS
    have hsl := hSS.len
    have hrow : w.ownsRow 0 58 4 ov L.length (S.flatMap encE) := hS.get (X := ownA 58 4 ov L.length (S.flatMap encE)) (by repeat constructor)
    rw [← hsl] at hrow
    have hpa : ∀ y ∈ L, psOk y w := hS.get (X := psAll L) (by repeat constructor)
    have hmem : ∀ y, y ∈ S ↔ y ∈ L := fun y => hSS.perm.mem_iff
    have hE : EntsOf (pl s).es from_ to_ (S.map (·.v)) := by
      refine ⟨?_, ?_⟩
      · refine (hSS.perm.map _).trans ?_
        rw [hL]; exact .refl _
      · rw [List.pairwise_map]; exact hSS.srt
    refine ⟨⟨(ov, S), hE⟩, rfl, hS.chg, ents_ok ⟨hrow, fun y hy => hpa y ((hmem y).1 hy), ?_, fun y hy e => ?_⟩, fun b hb => ?_⟩
    · exact (hSS.perm.pairwise_iff (fun h2 e => h2 e.symm)).2 hap
    · exact hS.sep (X := psAll L) (Y := ownA 58 4 ov L.length (S.flatMap encE)) (by repeat (first | exact Rem.head | apply Rem.tail)) (by repeat constructor) y.b ⟨y, (hmem y).1 hy, rfl⟩ e
    · rcases hb with hb | ⟨y, hy, e⟩
      · exact (hS.mine (ownA 58 4 ov L.length (S.flatMap encE)) (by repeat constructor) rfl b hb).resolve_right (fun h2 => h2)
      · exact (hS.mine (psAll L) (by repeat constructor) rfl b ⟨y, (hmem y).1 hy, e⟩).resolve_right (fun h2 => h2)
end Go.Proofs.Ytheofhegdjjfgaa

namespace Go.Proofs.Ytheofhegdjjfgaa
open Go.RowKit

def ps1 : List Pst := [⟨aBank.code, 100, 100⟩, ⟨aSales.code, -100, -100⟩]
def ps2 : List Pst := [⟨aBank.code, 100, 100⟩, ⟨aFees.code, -100, -100⟩]
def ps3 : List Pst := [⟨aTill.code, 100, 110⟩, ⟨aFees.code, -100, -110⟩]
def PA : PL := ⟨usdL, chartL, [⟨1, 5, ⟨#[97]⟩, ps1⟩], [(aBank.code, (100, 100)), (aSales.code, (-100, -100))], -1⟩
def PC : PL := ⟨usdL, chartL, [⟨1, 5, ⟨#[97]⟩, ps1⟩, ⟨2, 7, ⟨#[99]⟩, ps3⟩], [(aBank.code, (100, 100)), (aSales.code, (-100, -100)), (aTill.code, (100, 110)), (aFees.code, (-100, -110))], -1⟩
theorem c_a : checkE P4 5 ⟨#[97]⟩ ps1 = 0 := by decide +kernel
theorem c_b : checkE PA 5 ⟨#[98]⟩ ps2 = 26 := by decide +kernel
theorem c_c : checkE PA 7 ⟨#[99]⟩ ps3 = 0 := by decide +kernel
theorem p_a : postP P4 5 ⟨#[97]⟩ ps1 = PA := if_pos c_a
theorem i_a : postI P4 5 ⟨#[97]⟩ ps1 = 1 := if_pos c_a
theorem p_b : postP PA 5 ⟨#[98]⟩ ps2 = PA := if_neg (by rw [c_b]; decide)
theorem i_b : postI PA 5 ⟨#[98]⟩ ps2 = 0 := if_neg (by rw [c_b]; decide)
theorem p_c : postP PA 7 ⟨#[99]⟩ ps3 = PC := (if_pos c_c).trans (by
  have e : totS PA.tot ps3 = PC.tot := by
    simp only [totS, ps3, PA, PC, List.foldl]
    decide +kernel
  show PL.mk _ _ _ _ _ = _
  rw [e]; rfl)
theorem i_c : postI PA 7 ⟨#[99]⟩ ps3 = 2 := if_pos c_c
theorem b_till : balF PC aTill.code 7 = ((aTill.code, 100, 110), 0) := by decide +kernel
theorem chart_open {i : Nat} {x : Acc} (hx : chartL[i]? = some x) : openEP ((chartL.take i).foldl openP P0) x = 0 := by
  have e1 : openEP P0 aBank = 0 := by decide +kernel
  have e2 : openEP ⟨usdL, [aBank], [], [], -1⟩ aSales = 0 := by decide +kernel
  have e3 : openEP ⟨usdL, [aBank, aSales], [], [], -1⟩ aTill = 0 := by decide +kernel
  have e4 : openEP ⟨usdL, [aBank, aSales, aTill], [], [], -1⟩ aFees = 0 := by decide +kernel
  have s1 : openP P0 aBank = ⟨usdL, [aBank], [], [], -1⟩ := if_pos e1
  have s2 : openP ⟨usdL, [aBank], [], [], -1⟩ aSales = ⟨usdL, [aBank, aSales], [], [], -1⟩ := if_pos e2
  have s3 : openP ⟨usdL, [aBank, aSales], [], [], -1⟩ aTill = ⟨usdL, [aBank, aSales, aTill], [], [], -1⟩ := if_pos e3
  match i, hx with
  | 0, hx => cases hx; exact e1
  | 1, hx => cases hx; show openEP (openP P0 aBank) aSales = 0; rw [s1]; exact e2
  | 2, hx => cases hx; show openEP (openP (openP P0 aBank) aSales) aTill = 0; rw [s1, s2]; exact e3
  | 3, hx => cases hx; show openEP (openP (openP (openP P0 aBank) aSales) aTill) aFees = 0; rw [s1, s2, s3]; exact e4
  | (k + 4), hx => cases hx
theorem blk_rowP {b E : Nat} {ps : List Pst} {w : World} (h : w.heap[b]? = some (.cells (ps.flatMap encP).toArray E (0, 0))) : RowAt b 0 3 (ps.map encP) w := by
  intro i x hx j v hj
  rw [List.getElem?_map] at hx
  cases hp : ps[i]? with
  | none => rw [hp] at hx; cases hx
  | some p =>
    rw [hp] at hx; injection hx with hx; subst hx
    exact cell_of_blk (cs := ps.flatMap encP) (E := E) h (by rw [Nat.zero_add]; exact flat_get encP 3 (fun _ => rfl) ps i p hp j v hj)
theorem fits_small {ps : List Pst} (h : ∀ p ∈ ps, p.acc.size ≤ 300 ∧ (-1000 ≤ p.u ∧ p.u ≤ 1000) ∧ (-1000 ≤ p.f ∧ p.f ≤ 1000)) : ∀ p ∈ ps, p.fits := fun p hp => by
  obtain ⟨h1, h2, h3⟩ := h p hp
  exact ⟨by omega, by omega, by omega⟩

theorem post_row {B : LB} {s : LS} {P P' : PL} {i e at_ : Int} {memo : ByteArray} {ps : List Pst} {b : Nat} (hpl : pl s = P) (hP : postP P at_ memo ps = P') (hI : postI P at_ memo ps = i) (hE : checkE P at_ memo ps = e) (hbt : balT P.tot) (hn : P.es.length ≤ 100) (hfit : ∀ p ∈ ps, p.fits) (hlen : ps.length ≤ 60) (w : World) (h : ledφ B s w)
    (hr : w.heap[b]? = some (.cells (ps.flatMap encP).toArray 63 (0, 0))) (hd : ¬ ledF B s b) :
    MutC Try.prog 32 [.pointer (some ⟨B.lb, 0, none⟩), .int .i64 at_, .string memo, .slice (some ⟨b, 0, none⟩) ps.length ps.length] w (ledA B s true) (fun _ : { y : LS // pl y = P' } => .tuple [.int .i64 i, .int .i64 e].toArray) (fun y => ledA B y.1 true) := by
  have hes : s.es.length ≤ 100000 := by
    have h1 : (pl s).es.length = s.es.length := by simp [pl]
    rw [hpl] at h1; omega
  have h2 := lPost_P B s (some (b, 0)) ps.length at_ memo ps (by omega) hfit (by have : (pl s).tot = s.tot := rfl
                                                                                 rw [← this, hpl]; exact hbt) hes w h (blk_rowP hr) (fun q hq => by cases hq; exact (Array.getElem?_eq_some_iff.1 hr).1) (fun q hq => by cases hq; exact hd)
  rw [hpl, hP, hI, hE] at h2
  exact h2
set_option maxHeartbeats 1000000 in
set_option maxRecDepth 100000 in
theorem lfirst_P (w0 : World) : PureC Try.prog 25 [] w0 (.bool true) := by
   refine c_enter [] [] noB Try.func25 rfl Try.ntmps25 trivial rfl (by simp) (by simp) (by simp) ?_
   intro a hS
   refine c_seq ?_
   refine c_region ?_
   refine L_op (s_e hS (e_assign rfl) rfl ?_); clear hS a; intro a hS
   refine L_nil ?_
   refine n_then ?_
   refine c_seq ?_
   refine c_region ?_
   refine L_op (s_callN hS (.cons rfl .nil) cf61 rfl (lNew_P usdL _ (by decide +kernel)) ?_); clear hS a; (try clear w); intro x14 a w hS
   refine L_op (s_e hS (e_move rfl) rfl ?_); clear hS a; intro a hS
   refine L_op (s_e hS (e_extract rfl rfl) rfl ?_); clear hS a; intro a hS
   refine L_op (s_e hS (e_extract rfl rfl) rfl ?_); clear hS a; intro a hS
   refine L_op (s_e hS (e_assign rfl) rfl ?_); clear hS a; intro a hS
   refine L_op (s_e hS (e_assign rfl) rfl ?_); clear hS a; intro a hS
   refine L_nil ?_
   refine n_then ?_
   refine c_seq ?_
   refine c_seq ?_
   refine c_region ?_
   refine L_op (s_e hS (e_move rfl) rfl ?_); clear hS a; intro a hS
   refine L_op (s_e hS (e_nil rfl ty_u52) rfl ?_); clear hS a; intro a hS
   refine L_op (s_e hS (e_move rfl) rfl ?_); clear hS a; intro a hS
   replace hS := hS.is (t := 19) (c := false) rfl (rfl)
   refine L_go hS rfl rfl (s_e hS (e_move rfl) rfl ?_); clear hS a; intro a hS
   refine L_go hS rfl rfl (s_callP hS (.cons rfl .nil) cf16 rfl (Num_w _ _) ?_); clear hS a; (try clear w); intro a w hS
   refine L_go hS rfl rfl (s_e hS (e_bin rfl rfl rfl) rfl ?_); clear hS a; intro a hS
   first | (refine L_op (s_e hS (e_pick_t rfl rfl) rfl ?_); clear hS a; intro a hS) | (refine L_op (s_e hS (e_pick_f rfl rfl) rfl ?_); clear hS a; intro a hS)
   refine L_nil ?_
   refine n_then ?_
   replace hS := hS.is (t := 23) (c := false) rfl ((by decide))
   refine c_if_f hS rfl ?_
   refine wp_skip ?_
   refine n_then ?_
   refine c_seq ?_
   refine c_region ?_
   refine L_op (s_callN hS .nil cf62 rfl (lChart_P _) ?_); clear hS a; (try clear w); intro x24 a w hS
   refine L_op (s_e hS (e_assign rfl) rfl ?_); clear hS a; intro a hS
   refine L_nil ?_
   refine n_then ?_
   refine c_seq ?_
   refine c_seq ?_
   refine c_region ?_
   refine L_op (s_e hS (e_assign rfl) rfl ?_); clear hS a; intro a hS
   refine L_nil ?_
   refine n_then ?_
   refine wp_block ?_
   skip
   refine c_loop (γ := Nat × LS) (fun G a w => St 109 noB w0 a w [(4, .int .i64 (G.1 : Int)), (3, .slice (some ⟨x24, 0, none⟩) 4 4), (1, .pointer (some ⟨x14.lb, 0, none⟩))] [.blk x24 (chartL.flatMap encAc) 68, ledA x14 G.2 true] ∧ G.1 ≤ 4 ∧ pl G.2 = (chartL.take G.1).foldl openP P0) (fun G => 4 - G.1) (0, newL usdL) ⟨(hS.slots (by repeat (first | exact trivial | refine ⟨rfl, ?_⟩))).pick (by repeat (first | exact Pick.nil | (refine Pick.cons (by repeat (first | exact Rem.head | apply Rem.tail)) ?_))), Nat.zero_le _, rfl⟩ ?_
   clear hS a; (try clear w); intro G a w hI
   obtain ⟨i, s⟩ := G
   obtain ⟨hS, hi, hpl⟩ := hI
   simp only at hS hi hpl
   refine c_seq ?_
   refine c_seq ?_
   refine c_region ?_
   refine L_op (s_e hS (e_move rfl) rfl ?_); clear hS a; intro a hS
   refine L_op (s_e hS (e_move rfl) rfl ?_); clear hS a; intro a hS
   refine L_op (s_e hS (e_len rfl rfl ty_sl65) rfl ?_); clear hS a; intro a hS
   refine L_op (s_e hS (e_bin rfl rfl rfl) rfl ?_); clear hS a; intro a hS
   refine L_nil ?_
   refine n_then ?_
   first | refine c_ifD hS rfl (fun hc28 => ?_) (fun hc28 => ?_) | refine c_if hS rfl (fun hc28 => ?_) (fun hc28 => ?_)
   ·
     obtain ⟨x, hx⟩ : ∃ x, chartL[i]? = some x := ⟨chartL[i]'(by show i < 4; omega), List.getElem?_eq_getElem (by show i < 4; omega)⟩
     have hxs : x.code.size ≤ 4611686018427387904 := by
       have := List.mem_of_getElem? hx
       simp [chartL] at this
       rcases this with rfl | rfl | rfl | rfl <;> decide
     have htk : chartL.take (i + 1) = chartL.take i ++ [x] := by rw [List.take_add_one, hx]; rfl
     have hop : openE s x = 0 := by rw [show openE s x = openEP (pl s) x from rfl, hpl]; exact chart_open hx
     refine wp_skip ?_
     refine n_then ?_
     refine c_seq ?_
     refine wp_block ?_
     refine c_seq ?_
     refine c_region ?_
     refine L_op (s_e hS (e_move rfl) rfl ?_); clear hS a; intro a hS
     refine L_op (s_e hS (e_move rfl) rfl ?_); clear hS a; intro a hS
     refine L_op (s_e hS (e_move rfl) rfl ?_); clear hS a; intro a hS
     refine L_op (s_e hS (e_ixN rfl rfl ty_sl65 ty_sz68 (by omega)) rfl ?_); clear hS a; intro a hS
     refine L_op (s_e hS (e_loadAC (l := encAc x) rfl ty_st68 ty_sz68 (blkrow_getL (enc := encAc) (s := 4) (by repeat constructor) (fun _ => rfl) hx)) rfl ?_); clear hS a; intro a hS
     refine L_op (s_callM hS (.cons rfl (.cons rfl .nil)) cf44 rfl (lOpen_P x14 s x hxs _ (hS.get (X := ledA x14 s true) (by repeat constructor))) (fun x => (by repeat constructor)) rfl ?_); clear hS a; (try clear w); intro x36 a w hS
     refine L_op (s_callP hS (.cons rfl .nil) cf16 rfl (Num_w _ _) ?_); clear hS a; (try clear w); intro a w hS
     refine L_op (s_e hS (e_bin rfl rfl rfl) rfl ?_); clear hS a; intro a hS
     refine L_nil ?_
     refine n_then ?_
     replace hS := hS.is (t := 38) (c := false) rfl ((decide_eq_false (fun e => e hop)))
     refine c_if_f hS rfl ?_
     refine wp_skip ?_
     refine n_block ?_
     refine n_then ?_
     refine c_region ?_
     refine L_op (s_e hS (e_move rfl) rfl ?_); clear hS a; intro a hS
     first | (refine L_op (s_e hS (e_binN rfl rfl rfl (by omega)) rfl ?_); clear hS a; intro a hS) | (refine L_op (s_e hS (e_bin rfl rfl rfl) rfl ?_); clear hS a; intro a hS)
     refine L_op (s_e hS (e_assign rfl) rfl ?_); clear hS a; intro a hS
     refine L_nil ?_
     exact ⟨(i + 1, openL s x), by simp only; omega, (hS.slots (by repeat (first | exact trivial | refine ⟨rfl, ?_⟩))).pick (by repeat (first | exact Pick.nil | (refine Pick.cons (by repeat (first | exact Rem.head | apply Rem.tail)) ?_))), by simp only; omega, by simp only; rw [pl_open, hpl, htk, List.foldl_append]; rfl⟩
   ·
     obtain rfl : i = 4 := by omega
     rw [show (chartL.take 4).foldl openP P0 = P4 from chart_made] at hpl
     refine wp_exit ?_
     refine x_then (x_then (x_hit ?_))
     refine n_then ?_
     refine c_seq ?_
     refine c_region ?_
     refine L_op (s_e hS (e_move rfl) rfl ?_); clear hS a; intro a hS
     refine L_op (s_e hS (e_build ty_z63 ty_pl63 (.one rfl rfl rfl (by repeat constructor) (.one rfl rfl rfl (by repeat constructor) (.one rfl rfl rfl (by repeat constructor) .nil)))) rfl ?_); clear hS a; intro a hS
     refine L_op (s_e hS (e_build ty_z63 ty_pl63 (.one rfl rfl rfl (by repeat constructor) (.one rfl rfl rfl (by repeat constructor) (.one rfl rfl rfl (by repeat constructor) .nil)))) rfl ?_); clear hS a; intro a hS
     refine L_op (s_bslice hS ty_sl56 ty_sz63 ty_z63 rfl rfl rfl rfl (.agg rfl rfl (.agg rfl rfl .nil)) rfl ?_); clear hS a; (try clear w); intro a w b43 hS
     refine L_op (s_callM hS (.cons rfl (.cons rfl (.cons rfl (.cons rfl .nil)))) cf32 rfl (post_row (B := x14) (s := s) (P := P4) (P' := PA) (ps := ps1) hpl p_a i_a c_a (by intro e he; revert e; decide +kernel) (by decide) (fits_small (by decide +kernel)) (by decide) _ (hS.get (X := ledA x14 s true) (by repeat constructor)) (hS.get (X := .blk b43 (ps1.flatMap encP) 63) (by repeat constructor)) (hS.sep (X := .blk b43 (ps1.flatMap encP) 63) (Y := ledA x14 s true) (by repeat (first | exact Rem.head | apply Rem.tail)) (by repeat constructor) b43 rfl)) (fun x => (by repeat constructor)) rfl ?_); clear hS a; (try clear w); intro x44 a w hS
     obtain ⟨s1, hp1⟩ := x44
     simp only at hS
     refine L_op (s_e hS (e_move rfl) rfl ?_); clear hS a; intro a hS
     refine L_op (s_e hS (e_extract rfl rfl) rfl ?_); clear hS a; intro a hS
     refine L_op (s_e hS (e_extract rfl rfl) rfl ?_); clear hS a; intro a hS
     refine L_op (s_e hS (e_assign rfl) rfl ?_); clear hS a; intro a hS
     refine L_op (s_e hS (e_assign rfl) rfl ?_); clear hS a; intro a hS
     refine L_nil ?_
     refine n_then ?_
     refine c_seq ?_
     refine c_region ?_
     refine L_op (s_e hS (e_move rfl) rfl ?_); clear hS a; intro a hS
     refine L_op (s_e hS (e_build ty_z63 ty_pl63 (.one rfl rfl rfl (by repeat constructor) (.one rfl rfl rfl (by repeat constructor) (.one rfl rfl rfl (by repeat constructor) .nil)))) rfl ?_); clear hS a; intro a hS
     refine L_op (s_e hS (e_build ty_z63 ty_pl63 (.one rfl rfl rfl (by repeat constructor) (.one rfl rfl rfl (by repeat constructor) (.one rfl rfl rfl (by repeat constructor) .nil)))) rfl ?_); clear hS a; intro a hS
     refine L_op (s_bslice hS ty_sl56 ty_sz63 ty_z63 rfl rfl rfl rfl (.agg rfl rfl (.agg rfl rfl .nil)) rfl ?_); clear hS a; (try clear w); intro a w b51 hS
     refine L_op (s_callM hS (.cons rfl (.cons rfl (.cons rfl (.cons rfl .nil)))) cf32 rfl (post_row (B := x14) (s := s1) (P := PA) (P' := PA) (ps := ps2) hp1 p_b i_b c_b (by intro e he; revert e; decide +kernel) (by decide) (fits_small (by decide +kernel)) (by decide) _ (hS.get (X := ledA x14 s1 true) (by repeat constructor)) (hS.get (X := .blk b51 (ps2.flatMap encP) 63) (by repeat constructor)) (hS.sep (X := .blk b51 (ps2.flatMap encP) 63) (Y := ledA x14 s1 true) (by repeat (first | exact Rem.head | apply Rem.tail)) (by repeat constructor) b51 rfl)) (fun x => (by repeat constructor)) rfl ?_); clear hS a; (try clear w); intro x52 a w hS
     obtain ⟨s2, hp2⟩ := x52
     simp only at hS
     refine L_op (s_e hS (e_move rfl) rfl ?_); clear hS a; intro a hS
     refine L_op (s_e hS (e_extract rfl rfl) rfl ?_); clear hS a; intro a hS
     refine L_op (s_e hS (e_extract rfl rfl) rfl ?_); clear hS a; intro a hS
     refine L_op (s_e hS (e_assign rfl) rfl ?_); clear hS a; intro a hS
     refine L_op (s_e hS (e_assign rfl) rfl ?_); clear hS a; intro a hS
     refine L_nil ?_
     refine n_then ?_
     refine c_seq ?_
     refine c_region ?_
     refine L_op (s_e hS (e_move rfl) rfl ?_); clear hS a; intro a hS
     refine L_op (s_e hS (e_build ty_z63 ty_pl63 (.one rfl rfl rfl (by repeat constructor) (.one rfl rfl rfl (by repeat constructor) (.one rfl rfl rfl (by repeat constructor) .nil)))) rfl ?_); clear hS a; intro a hS
     refine L_op (s_e hS (e_build ty_z63 ty_pl63 (.one rfl rfl rfl (by repeat constructor) (.one rfl rfl rfl (by repeat constructor) (.one rfl rfl rfl (by repeat constructor) .nil)))) rfl ?_); clear hS a; intro a hS
     refine L_op (s_bslice hS ty_sl56 ty_sz63 ty_z63 rfl rfl rfl rfl (.agg rfl rfl (.agg rfl rfl .nil)) rfl ?_); clear hS a; (try clear w); intro a w b59 hS
     refine L_op (s_callM hS (.cons rfl (.cons rfl (.cons rfl (.cons rfl .nil)))) cf32 rfl (post_row (B := x14) (s := s2) (P := PA) (P' := PC) (ps := ps3) hp2 p_c i_c c_c (by intro e he; revert e; decide +kernel) (by decide) (fits_small (by decide +kernel)) (by decide) _ (hS.get (X := ledA x14 s2 true) (by repeat constructor)) (hS.get (X := .blk b59 (ps3.flatMap encP) 63) (by repeat constructor)) (hS.sep (X := .blk b59 (ps3.flatMap encP) 63) (Y := ledA x14 s2 true) (by repeat (first | exact Rem.head | apply Rem.tail)) (by repeat constructor) b59 rfl)) (fun x => (by repeat constructor)) rfl ?_); clear hS a; (try clear w); intro x60 a w hS
     obtain ⟨s3, hp3⟩ := x60
     simp only at hS
     refine L_op (s_e hS (e_move rfl) rfl ?_); clear hS a; intro a hS
     refine L_op (s_e hS (e_extract rfl rfl) rfl ?_); clear hS a; intro a hS
     refine L_op (s_e hS (e_extract rfl rfl) rfl ?_); clear hS a; intro a hS
     refine L_op (s_e hS (e_assign rfl) rfl ?_); clear hS a; intro a hS
     refine L_op (s_e hS (e_assign rfl) rfl ?_); clear hS a; intro a hS
     refine L_nil ?_
     refine n_then ?_
     refine c_seq ?_
     refine c_region ?_
     refine L_op (s_e hS (e_move rfl) rfl ?_); clear hS a; intro a hS
     refine L_op (s_callP hS (.cons rfl (.cons rfl (.cons rfl .nil))) cf29 rfl (lBal_P x14 s3 aTill.code 7 (by rw [hp3]; exact ⟨fun x hx p hp => by
 have h1 : x = ⟨1, 5, ⟨#[97]⟩, ps1⟩ ∨ x = ⟨2, 7, ⟨#[99]⟩, ps3⟩ := by simpa [PC] using hx
 rcases h1 with rfl | rfl
 · exact fits_small (ps := ps1) (by decide +kernel) p hp
 · exact fits_small (ps := ps3) (by decide +kernel) p hp, by decide, fun x hx => by
 have h1 : x = ⟨1, 5, ⟨#[97]⟩, ps1⟩ ∨ x = ⟨2, 7, ⟨#[99]⟩, ps3⟩ := by simpa [PC] using hx
 rcases h1 with rfl | rfl <;> decide⟩) _ (hS.get (X := ledA x14 s3 true) (by repeat constructor))) ?_); clear hS a; (try clear w); intro a w hS
     rw [hp3, b_till] at hS
     refine L_op (s_e hS (e_move rfl) rfl ?_); clear hS a; intro a hS
     refine L_op (s_e hS (e_extract rfl rfl) rfl ?_); clear hS a; intro a hS
     refine L_op (s_e hS (e_extract rfl rfl) rfl ?_); clear hS a; intro a hS
     refine L_op (s_alloc hS ty_z60 rfl ?_); clear hS a; (try clear w); intro a w b11 hS
     refine L_op (s_storeA hS rfl rfl ty_sz60 (by repeat constructor) (by rfl) (by rfl) (by rfl) ?_); clear hS; (try clear w); intro w hS
     refine L_op (s_e hS (e_assign rfl) rfl ?_); clear hS a; intro a hS
     refine L_nil ?_
     refine n_then ?_
     refine c_seq ?_
     refine c_region ?_
     refine L_op (s_e hS (e_move rfl) rfl ?_); clear hS a; intro a hS
     refine L_op (s_e hS (e_bin rfl rfl rfl) rfl ?_); clear hS a; intro a hS
     refine L_op (s_e hS (e_move rfl) rfl ?_); clear hS a; intro a hS
     replace hS := hS.is (t := 70) (c := true) rfl (rfl)
     refine L_go hS rfl rfl (s_e hS (e_move rfl) rfl ?_); clear hS a; intro a hS
     refine L_go hS rfl rfl (s_callP hS (.cons rfl .nil) cf16 rfl (Num_w _ _) ?_); clear hS a; (try clear w); intro a w hS
     refine L_go hS rfl rfl (s_e hS (e_bin rfl rfl rfl) rfl ?_); clear hS a; intro a hS
     first | (refine L_op (s_e hS (e_pick_t rfl rfl) rfl ?_); clear hS a; intro a hS) | (refine L_op (s_e hS (e_pick_f rfl rfl) rfl ?_); clear hS a; intro a hS)
     refine L_op (s_e hS (e_move rfl) rfl ?_); clear hS a; intro a hS
     replace hS := hS.is (t := 75) (c := true) rfl (rfl)
     refine L_go hS rfl rfl (s_e hS (e_move rfl) rfl ?_); clear hS a; intro a hS
     refine L_go hS rfl rfl (s_callP hS (.cons rfl .nil) cf16 rfl (Num_w _ _) ?_); clear hS a; (try clear w); intro a w hS
     refine L_go hS rfl rfl (s_e hS (e_bin rfl rfl rfl) rfl ?_); clear hS a; intro a hS
     first | (refine L_op (s_e hS (e_pick_t rfl rfl) rfl ?_); clear hS a; intro a hS) | (refine L_op (s_e hS (e_pick_f rfl rfl) rfl ?_); clear hS a; intro a hS)
     refine L_op (s_e hS (e_move rfl) rfl ?_); clear hS a; intro a hS
     replace hS := hS.is (t := 80) (c := true) rfl (rfl)
     refine L_go hS rfl rfl (s_e hS (e_move rfl) rfl ?_); clear hS a; intro a hS
     refine L_go hS rfl rfl (s_e hS (e_bin rfl rfl rfl) rfl ?_); clear hS a; intro a hS
     first | (refine L_op (s_e hS (e_pick_t rfl rfl) rfl ?_); clear hS a; intro a hS) | (refine L_op (s_e hS (e_pick_f rfl rfl) rfl ?_); clear hS a; intro a hS)
     refine L_op (s_e hS (e_move rfl) rfl ?_); clear hS a; intro a hS
     replace hS := hS.is (t := 84) (c := true) rfl (rfl)
     refine L_go hS rfl rfl (s_e hS (e_move rfl) rfl ?_); clear hS a; intro a hS
     refine L_go hS rfl rfl (s_callP hS (.cons rfl .nil) cf16 rfl (Num_w _ _) ?_); clear hS a; (try clear w); intro a w hS
     refine L_go hS rfl rfl (s_e hS (e_bin rfl rfl rfl) rfl ?_); clear hS a; intro a hS
     first | (refine L_op (s_e hS (e_pick_t rfl rfl) rfl ?_); clear hS a; intro a hS) | (refine L_op (s_e hS (e_pick_f rfl rfl) rfl ?_); clear hS a; intro a hS)
     refine L_op (s_e hS (e_move rfl) rfl ?_); clear hS a; intro a hS
     replace hS := hS.is (t := 89) (c := true) rfl (rfl)
     first | (refine L_go hS rfl rfl (s_e hS (e_fa0 rfl ty_fo60_1) rfl ?_); clear hS a; intro a hS) | (refine L_go hS rfl rfl (s_e hS (e_faK rfl ty_fo60_1) rfl ?_); clear hS a; intro a hS)
     refine L_go hS rfl rfl (s_e hS (e_load rfl (by repeat constructor) ty_sc3 (by rfl)) rfl ?_); clear hS a; intro a hS
     refine L_go hS rfl rfl (s_e hS (e_bin rfl rfl rfl) rfl ?_); clear hS a; intro a hS
     first | (refine L_op (s_e hS (e_pick_t rfl rfl) rfl ?_); clear hS a; intro a hS) | (refine L_op (s_e hS (e_pick_f rfl rfl) rfl ?_); clear hS a; intro a hS)
     refine L_op (s_e hS (e_move rfl) rfl ?_); clear hS a; intro a hS
     replace hS := hS.is (t := 94) (c := true) rfl (rfl)
     first | (refine L_go hS rfl rfl (s_e hS (e_fa0 rfl ty_fo60_2) rfl ?_); clear hS a; intro a hS) | (refine L_go hS rfl rfl (s_e hS (e_faK rfl ty_fo60_2) rfl ?_); clear hS a; intro a hS)
     refine L_go hS rfl rfl (s_e hS (e_load rfl (by repeat constructor) ty_sc3 (by rfl)) rfl ?_); clear hS a; intro a hS
     refine L_go hS rfl rfl (s_e hS (e_bin rfl rfl rfl) rfl ?_); clear hS a; intro a hS
     first | (refine L_op (s_e hS (e_pick_t rfl rfl) rfl ?_); clear hS a; intro a hS) | (refine L_op (s_e hS (e_pick_f rfl rfl) rfl ?_); clear hS a; intro a hS)
     refine L_op (s_e hS (e_move rfl) rfl ?_); clear hS a; intro a hS
     replace hS := hS.is (t := 99) (c := true) rfl (rfl)
     refine L_go hS rfl rfl (s_e hS (e_move rfl) rfl ?_); clear hS a; intro a hS
     refine L_go hS rfl rfl (s_callP hS (.cons rfl .nil) cf16 rfl (Num_w _ _) ?_); clear hS a; (try clear w); intro a w hS
     refine L_go hS rfl rfl (s_e hS (e_bin rfl rfl rfl) rfl ?_); clear hS a; intro a hS
     first | (refine L_op (s_e hS (e_pick_t rfl rfl) rfl ?_); clear hS a; intro a hS) | (refine L_op (s_e hS (e_pick_f rfl rfl) rfl ?_); clear hS a; intro a hS)
     refine L_op (s_e hS (e_move rfl) rfl ?_); clear hS a; intro a hS
     replace hS := hS.is (t := 104) (c := true) rfl (rfl)
     refine L_go hS rfl rfl (s_e hS (e_move rfl) rfl ?_); clear hS a; intro a hS
     refine L_go hS rfl rfl (s_callP hS (.cons rfl .nil) cf43 rfl (lClosed_P x14 s3 _ (hS.get (X := ledA x14 s3 true) (by repeat constructor))) ?_); clear hS a; (try clear w); intro a w hS
     rw [show s3.closed = -1 from congrArg PL.closed hp3] at hS
     refine L_go hS rfl rfl (s_e hS (e_bin rfl rfl rfl) rfl ?_); clear hS a; intro a hS
     first | (refine L_op (s_e hS (e_pick_t rfl rfl) rfl ?_); clear hS a; intro a hS) | (refine L_op (s_e hS (e_pick_f rfl rfl) rfl ?_); clear hS a; intro a hS)
     refine L_op (s_e hS (e_assign rfl) rfl ?_); clear hS a; intro a hS
     refine L_nil ?_
     refine n_then ?_
     refine wp_ret ?_
     refine c_ret1 hS Try.results25 (.tmp rfl) ?_
     exact ⟨rfl, hS.chg⟩
end Go.Proofs.Ytheofhegdjjfgaa

namespace Go.Proofs.Ytheofhegdjjfgaa
open Go.RowKit

/-! ### two equal balances -/
set_option maxRecDepth 100000 in
theorem eq_bal (b : BL) (w : World) : (Op.equalIn (9999 + 1) 60 (.agg (encBl b).toArray) (.agg (encBl b).toArray)).run Try.prog w = .ok true w := by
  have hk : Try.prog.plainKey 3 = true := by kernel_rfl
  have hs : Try.prog.plainKey 9 = true := by kernel_rfl
  have p0 : ∀ w, (part 9 #[.string b.1, .int .i64 b.2.1, .int .i64 b.2.2] 0).run Try.prog w = .ok (.string b.1) w := fun w => run_part_plain w hs rfl
  have p1 : ∀ w, (part 3 #[.string b.1, .int .i64 b.2.1, .int .i64 b.2.2] 1).run Try.prog w = .ok (.int .i64 b.2.1) w := fun w => run_part_plain w hk rfl
  have p2 : ∀ w, (part 3 #[.string b.1, .int .i64 b.2.1, .int .i64 b.2.2] 2).run Try.prog w = .ok (.int .i64 b.2.2) w := fun w => run_part_plain w hk rfl
  have q : ∀ a c w, (Op.equalIn 9999 3 (.int .i64 a) (.int .i64 c)).run Try.prog w = .ok (a == c) w := fun a c w => run_equalIn_int w 9998 3 .i64 .i64 a c Try.underlying3
  have qs : ∀ a c w, (Op.equalIn 9999 9 (.string a) (.string c)).run Try.prog w = .ok (a.toList == c.toList) w := fun a c w => run_equalIn_string w 9998 9 a c Try.underlying9
  unfold encBl
  rw [run_equalIn_agg w 9999 60 _ _ (by kernel_rfl) (by kernel_rfl)]
  have hf : (Try.prog.fieldsOf 60) = #[⟨ "Account", 9, 0, false, "", "", 0⟩, ⟨ "Units", 3, 1, false, "", "", 16⟩, ⟨ "Func", 3, 2, false, "", "", 24⟩] := by kernel_rfl
  rw [hf]
  simp only [Op.eqFields, Sem.run_bind, p0, p1, p2, q, qs, Result.andThen_ok, Sem.run_ite, Sem.run_pure]
  simp
section
variable {n : Nat} {F0 : Nat → Prop} {w0 w : World} {a : Act} {L : List (Nat × Value)} {Γ : List Asn} {dst : Option Nat} {ty t' : Nat} {pos : String} {af : Array Edge} {g : Option (Nat × Bool)} {x y : Operand}
theorem guard_bal : Try.prog.eqGuardType Try.prog.depth 60 = false := by kernel_rfl
theorem e_neBal {b : BL} (hx : ev L x = some (.agg (encBl b).toArray)) (hy : ev L y = some (.agg (encBl b).toArray)) : Ex Try.prog n a L Γ ⟨dst, .binOp .neq 60 x y t', ty, pos, af, g⟩ (.bool false) := fun hs w _ => by
  have h := run_neq_struct (P := Try.prog) w 60 (encBl b).toArray (encBl b).toArray
  rw [eq_bal] at h
  simp [execOp, hs.ev hx, hs.ev hy, run_eqGuard_agg w .neq 60 x y _ _ guard_bal, h, Result.andThen]
end

/-! ### postings turned over -/
def turnP (p : Pst) : Pst := ⟨p.acc, -p.u, -p.f⟩
def balD (c : ByteArray) (ps : List Pst) : SM := ps.foldl (balStep c) (0, 0)
theorem bal_from (c : ByteArray) : ∀ (ps : List Pst) (g : SM), ps.foldl (balStep c) g = (g.1 + (balD c ps).1, g.2 + (balD c ps).2)
  | [], g => by simp [balD]
  | p :: r, g => by
    have h1 := bal_from c r (balStep c g p)
    have h2 := bal_from c r (balStep c (0, 0) p)
    unfold balD at h1 h2 ⊢
    rw [List.foldl_cons, List.foldl_cons, h1, h2]
    unfold balStep addS
    split <;> (refine Prod.ext ?_ ?_ <;> simp only <;> omega)
theorem balD_cons (c : ByteArray) (p : Pst) (r : List Pst) : balD c (p :: r) = ((balStep c (0, 0) p).1 + (balD c r).1, (balStep c (0, 0) p).2 + (balD c r).2) := by
  show r.foldl (balStep c) (balStep c (0, 0) p) = _
  rw [bal_from]
theorem balD_append (c : ByteArray) (l r : List Pst) : balD c (l ++ r) = ((balD c l).1 + (balD c r).1, (balD c l).2 + (balD c r).2) := by
  unfold balD
  rw [List.foldl_append, bal_from]
  rfl
theorem balD_turn (c : ByteArray) : ∀ ps : List Pst, balD c (ps.map turnP) = (-(balD c ps).1, -(balD c ps).2)
  | [] => rfl
  | p :: r => by
    rw [List.map_cons, balD_cons, balD_cons, balD_turn c r]
    unfold balStep addS turnP
    by_cases e : p.acc = c
    · simp only [if_pos e]; refine Prod.ext ?_ ?_ <;> simp only <;> omega
    · simp only [if_neg e]; refine Prod.ext ?_ ?_ <;> simp only <;> omega
/-- where no account stands twice. -/
theorem balD_none (c : ByteArray) : ∀ ps : List Pst, (∀ p ∈ ps, p.acc ≠ c) → balD c ps = (0, 0)
  | [], _ => rfl
  | p :: r, h => by
    rw [balD_cons, balD_none c r (fun q hq => h q (.tail _ hq))]
    unfold balStep
    rw [if_neg (h p (.head _))]; rfl
theorem balD_one : ∀ ps : List Pst, (ps.Pairwise fun p q => p.acc ≠ q.acc) → ∀ p ∈ ps, balD p.acc ps = (p.u, p.f)
  | x :: r, hp, p, hm => by
    have hp2 := List.pairwise_cons.1 hp
    rw [balD_cons]
    rcases List.mem_cons.1 hm with rfl | hm
    · rw [balD_none p.acc r (fun q hq e => hp2.1 q hq e.symm)]
      unfold balStep addS
      rw [if_pos rfl]; refine Prod.ext ?_ ?_ <;> simp only <;> omega
    · rw [balD_one r hp2.2 p hm]
      unfold balStep
      rw [if_neg (hp2.1 p hm)]; refine Prod.ext ?_ ?_ <;> simp only <;> omega
theorem curSum_turn (acs : List Acc) (c : ByteArray) : ∀ ps : List Pst, curSum acs c (ps.map turnP) = -curSum acs c ps
  | [] => by simp [curSum]
  | p :: r => by
    rw [List.map_cons, curSum_cons, curSum_cons, curSum_turn acs c r]
    show (if curOf acs p.acc = c then -p.u else 0) + _ = _
    split <;> omega
theorem sumFn_cons (p : Pst) (r : List Pst) : sumFn (p :: r) = p.f + sumFn r := by
  have h : ∀ (l : List Pst) (g : Int), l.foldl (fun a p => a + p.f) g = g + l.foldl (fun a p => a + p.f) 0 := by
    intro l
    induction l with
    | nil => intro g; simp
    | cons q s ih => intro g; rw [List.foldl_cons, List.foldl_cons, ih, ih (0 + q.f)]; omega
  unfold sumFn
  rw [List.foldl_cons, h]; omega
theorem sumFn_turn : ∀ ps : List Pst, sumFn (ps.map turnP) = -sumFn ps
  | [] => by simp [sumFn]
  | p :: r => by
    rw [List.map_cons, sumFn_cons, sumFn_cons, sumFn_turn r]
    show -p.f + _ = _
    omega
theorem inU_neg {n : Int} (h : inU n) : inU (-n) := by unfold inU at *; omega
/-- what was posted may be posted turned over. -/
theorem turn_ok {P : PL} {n : Nat} (h : wfP P n) (hn : n ≤ 1000) {at_ : Int} {memo : ByteArray} {ps : List Pst} (hE : checkE P at_ memo ps = 0) : checkE (postP P at_ memo ps) at_ memo (ps.map turnP) = 0 := by
  have hc := (check_iff P at_ memo ps).1 hE
  obtain ⟨g1, g2⟩ := postE_zero ps [] hc.post
  have he := (even_iff P.acs ps).1 hc.even
  have hle := h.le
  rw [show postP P at_ memo ps = _ from if_pos hE]
  refine (check_iff _ _ _ _).2 ⟨hc.inst, hc.open_, hc.memo, by rw [List.length_map]; exact hc.few, ?_, ?_, ?_, fun x hx => ?_⟩
  · simp; omega
  · refine postE_of _ _ (fun p hp => ?_) ?_
    · obtain ⟨q, hq, rfl⟩ := List.mem_map.1 hp
      obtain ⟨a1, a2, a3, a4⟩ := g1 q hq
      exact ⟨a1, a2, inU_neg a3, inU_neg a4⟩
    · rw [List.pairwise_map]; exact g2
  · refine (even_iff _ _).2 ⟨fun c => ?_, ?_⟩
    · rw [curSum_turn, he.1 c]; rfl
    · rw [sumFn_turn, he.2]; rfl
  · obtain ⟨q, hq, rfl⟩ := List.mem_map.1 hx
    have h1 := tri_sum q.acc ps P.tot
    rw [bal_from, balD_one ps g2 q hq] at h1
    show okS (addS (totOf (totS P.tot ps) q.acc) (turnP q))
    rw [totS_tri, h1]
    have h2 := balT_of h.bal q.acc
    have e : addS ((totOf P.tot q.acc).1 + q.u, (totOf P.tot q.acc).2 + q.f) (turnP q) = totOf P.tot q.acc := by
      unfold addS turnP; refine Prod.ext ?_ ?_ <;> simp only <;> omega
    rw [e]; exact h2
theorem triT_of (P : PL) (at_ : Int) (c : ByteArray) : totOf (triT P at_) c = if inst at_ then balD c (postsAt P.es at_) else (0, 0) := by
  unfold triT
  split
  · rw [tri_sum]; rfl
  · rfl
theorem postsAt_snoc (es : List Ent) (x : Ent) (at_ : Int) : postsAt (es ++ [x]) at_ = postsAt es at_ ++ if x.at_ ≤ at_ then x.ps else [] := by
  have h := upTo_take (es := es ++ [x]) (at_ := at_) (i := es.length) (x := x) (by simp)
  rw [List.take_of_length_le (by simp), List.take_left'] at h
  · exact h
  · rfl
theorem trial_same {P P' : PL} {at_ : Int} (ha : P'.acs = P.acs) (hb : ∀ c, balD c (postsAt P'.es at_) = balD c (postsAt P.es at_)) : trialF P' at_ = trialF P at_ := by
  unfold trialF
  rw [ha]
  refine List.map_congr_left fun a _ => ?_
  unfold triB
  rw [triT_of, triT_of, hb]
/-- an entry and the same turned over change no balance. -/
theorem trial_turn {P : PL} {at_ t : Int} {memo : ByteArray} {ps : List Pst} (hE : checkE P at_ memo ps = 0) (hE2 : checkE (postP P at_ memo ps) at_ memo (ps.map turnP) = 0) : trialF (postP (postP P at_ memo ps) at_ memo (ps.map turnP)) t = trialF P t := by
  have e1 : postP P at_ memo ps = { P with es := P.es ++ [⟨(P.es.length : Int) + 1, at_, memo, ps⟩], tot := totS P.tot ps } := if_pos hE
  have e2 : ∀ Q : PL, checkE Q at_ memo (ps.map turnP) = 0 → postP Q at_ memo (ps.map turnP) = { Q with es := Q.es ++ [⟨(Q.es.length : Int) + 1, at_, memo, ps.map turnP⟩], tot := totS Q.tot (ps.map turnP) } := fun Q h => if_pos h
  rw [e2 _ hE2, e1]
  refine trial_same rfl (fun c => ?_)
  simp only
  rw [postsAt_snoc, postsAt_snoc, balD_append, balD_append]
  simp only
  by_cases e : at_ ≤ t
  · rw [if_pos e, if_pos e, balD_turn]; refine Prod.ext ?_ ?_ <;> simp only <;> omega
  · rw [if_neg e, if_neg e]; refine Prod.ext ?_ ?_ <;> simp [balD]
theorem turn_fits {ps : List Pst} (h : ∀ p ∈ ps, p.fits) (hu : ∀ p ∈ ps, inU p.u ∧ inU p.f) : ∀ p ∈ ps.map turnP, p.fits := fun p hp => by
  obtain ⟨q, hq, rfl⟩ := List.mem_map.1 hp
  have h1 := h q hq
  have h2 := hu q hq
  unfold inU at h2
  exact ⟨h1.acc, by show -9223372036854775808 ≤ -q.u ∧ -q.u ≤ _; omega, by show -9223372036854775808 ≤ -q.f ∧ -q.f ≤ _; omega⟩
end Go.Proofs.Ytheofhegdjjfgaa

namespace Go.Proofs.Ytheofhegdjjfgaa
open Go.RowKit

/-! ### balances do not see the order of entries -/
def postsQ (L : List (Int × List Pst)) (at_ : Int) : List Pst := (L.filter fun x => decide (x.1 ≤ at_)).flatMap (·.2)
theorem postsAt_q (es : List Ent) (at_ : Int) : postsAt es at_ = postsQ (es.map fun e => (e.at_, e.ps)) at_ := by
  unfold postsAt upTo postsQ
  induction es with
  | nil => rfl
  | cons e r ih =>
    rw [List.map_cons, List.filter_cons, List.filter_cons]
    by_cases h : e.at_ ≤ at_
    · rw [if_pos (by simpa using h), if_pos (by simpa using h), List.flatMap_cons, List.flatMap_cons, ih]
    · rw [if_neg (by simpa using h), if_neg (by simpa using h), ih]
theorem postsQ_append (L M : List (Int × List Pst)) (at_ : Int) : postsQ (L ++ M) at_ = postsQ L at_ ++ postsQ M at_ := by
  unfold postsQ; rw [List.filter_append, List.flatMap_append]
theorem balD_rev (c : ByteArray) (at_ : Int) : ∀ L : List (Int × List Pst), balD c (postsQ L.reverse at_) = balD c (postsQ L at_)
  | [] => rfl
  | x :: r => by
    rw [List.reverse_cons, postsQ_append, balD_append, balD_rev c at_ r, show x :: r = [x] ++ r from rfl, postsQ_append, balD_append]
    refine Prod.ext ?_ ?_ <;> simp only <;> omega

/-! ### only posting, from the chapter's chart -/
def runStep (P : PL) (o : LO) : PL := if o.kind = 1 then postP P o.at_ o.memo o.ps else P
def runP (l : List LO) : PL := l.foldl runStep P4
def freshOk (o : LO) : Prop := o.kind = 1 ∧ checkE P4 o.at_ o.memo o.ps = 0
instance (o : LO) : Decidable (freshOk o) := by unfold freshOk; infer_instance
def freshs (l : List LO) : List LO := l.filter fun o => decide (freshOk o)
theorem runP_take {l : List LO} {i : Nat} {o : LO} (h : l[i]? = some o) : runP (l.take (i + 1)) = runStep (runP (l.take i)) o := by
  unfold runP; rw [List.take_add_one, h, List.foldl_append]; rfl
theorem freshs_take {l : List LO} {i : Nat} {o : LO} (h : l[i]? = some o) : freshs (l.take (i + 1)) = freshs (l.take i) ++ if freshOk o then [o] else [] := by
  unfold freshs
  rw [List.take_add_one, h, List.filter_append]
  by_cases e : freshOk o
  · simp [e]
  · simp [e]
theorem wf_run {l : List LO} (hf : ∀ o ∈ l, o.fits) : ∀ i, i ≤ l.length → wfP (runP (l.take i)) i
  | 0, _ => wf4
  | i + 1, h => by
    have hx : l[i]? = some l[i] := List.getElem?_eq_getElem (by omega)
    rw [runP_take hx]
    have h1 := wf_run hf i (by omega)
    unfold runStep
    split
    · exact wf_post h1 _ _ _ (hf _ (List.getElem_mem _)).ps.1
    · exact ⟨h1.fit, Nat.le_succ_of_le h1.le, h1.ps, h1.bal, by have := h1.la; omega, h1.at_, h1.nod, h1.sum, h1.evn⟩
/-- what it may be posted to, it may be posted to the empty ledger. -/
theorem check_fresh {P : PL} (ha : P.acs = chartL) (hc : P.closed = -1) {at_ : Int} {memo : ByteArray} {ps : List Pst} (h : checkE P at_ memo ps = 0) : checkE P4 at_ memo ps = 0 := by
  have h1 := (check_iff P at_ memo ps).1 h
  obtain ⟨g1, _⟩ := postE_zero ps [] h1.post
  refine (check_iff _ _ _ _).2 ⟨h1.inst, by have := h1.open_; rw [hc] at this; exact this, h1.memo, h1.few, by decide, by have := h1.post; rw [ha] at this; exact this, by have := h1.even; rw [ha] at this; exact this, fun x hx => ?_⟩
  have h2 := (g1 x hx).2.2
  show okS (0 + x.u, 0 + x.f)
  unfold okS
  rw [Int.zero_add, Int.zero_add]
  exact h2
structure runOk (l : List LO) (i : Nat) : Prop where
  acs : (runP (l.take i)).acs = chartL
  closed : (runP (l.take i)).closed = -1
  le : (runP (l.take i)).es.length ≤ (freshs (l.take i)).length
  same : (runP (l.take i)).es.length = (freshs (l.take i)).length → ((runP (l.take i)).es.map fun e => (e.at_, e.ps)) = (freshs (l.take i)).map fun o => (o.at_, o.ps)
theorem run_ok (l : List LO) : ∀ i, i ≤ l.length → runOk l i
  | 0, _ => ⟨rfl, rfl, Nat.le_refl _, fun _ => rfl⟩
  | i + 1, h => by
    have hx : l[i]? = some l[i] := List.getElem?_eq_getElem (by omega)
    obtain ⟨h1, h2, h3, h4⟩ := run_ok l i (by omega)
    generalize l[i] = o at hx
    have er := runP_take hx
    have ef := freshs_take hx
    by_cases hp : o.kind = 1 ∧ checkE (runP (l.take i)) o.at_ o.memo o.ps = 0
    · have hfr : freshOk o := ⟨hp.1, check_fresh h1 h2 hp.2⟩
      have e1 : runStep (runP (l.take i)) o = { runP (l.take i) with es := (runP (l.take i)).es ++ [⟨((runP (l.take i)).es.length : Int) + 1, o.at_, o.memo, o.ps⟩], tot := totS (runP (l.take i)).tot o.ps } := by
        unfold runStep; rw [if_pos hp.1]; exact if_pos hp.2
      rw [if_pos hfr] at ef
      rw [e1] at er
      refine ⟨by rw [er]; exact h1, by rw [er]; exact h2, ?_, fun he => ?_⟩
      · rw [er, ef]; simp; exact h3
      · rw [er, ef] at he ⊢
        simp only [List.length_append, List.length_cons, List.length_nil] at he
        rw [List.map_append, List.map_append, h4 (by omega)]; rfl
    · have e1 : runStep (runP (l.take i)) o = runP (l.take i) := by
        unfold runStep
        by_cases k : o.kind = 1
        · rw [if_pos k]; exact if_neg (fun e => hp ⟨k, e⟩)
        · rw [if_neg k]
      rw [e1] at er
      refine ⟨by rw [er]; exact h1, by rw [er]; exact h2, ?_, fun he => ?_⟩
      · rw [er, ef, List.length_append]; omega
      · rw [er, ef, List.length_append] at he
        by_cases hfr : freshOk o
        · rw [if_pos hfr] at he; simp at he; omega
        · rw [if_neg hfr] at he ef
          rw [er, ef, List.append_nil]; exact h4 (by simpa using he)
/-- posted in either order, all taken: the balances are the same. -/
theorem order_same (l : List LO) (at_ : Int) (h1 : (runP l).es.length = (freshs l).length) (h2 : (runP l.reverse).es.length = (freshs l).length) : trialF (runP l.reverse) at_ = trialF (runP l) at_ := by
  have a := run_ok l l.length (Nat.le_refl _)
  have b := run_ok l.reverse l.reverse.length (Nat.le_refl _)
  obtain ⟨a1, _, _, a4⟩ := a
  obtain ⟨b1, _, _, b4⟩ := b
  rw [List.take_length] at a1 a4 b1 b4
  have ef : freshs l.reverse = (freshs l).reverse := by unfold freshs; rw [List.filter_reverse]
  rw [ef, List.length_reverse] at b4
  have e1 := a4 h1
  have e2 := b4 h2
  refine trial_same (by rw [a1, b1]) (fun c => ?_)
  rw [postsAt_q, postsAt_q, e1, e2, List.map_reverse, balD_rev]
end Go.Proofs.Ytheofhegdjjfgaa

namespace Go.Proofs.Ytheofhegdjjfgaa
open Go.RowKit
/-- Check, whatever slice holds the postings. -/
theorem checkAny_P (B : LB) (s : LS) (pv : Value) (at_ : Int) (memo : ByteArray) (ps : List Pst) (hlen : ps.length ≤ 4611686018427387904) (hfit : ∀ x ∈ ps, x.fits) (hbt : balT s.tot) (w0 : World) (h : ledφ B s w0) (hp : PsAt pv ps w0) (hd : ∀ k, ps ≠ [] → pv.ownBlock = some k → ¬ ledF B s k) :
    PureC Try.prog 33 [.pointer (some ⟨B.lb, 0, none⟩), .int .i64 at_, .string memo, pv] w0 (.int .i64 (checkE (pl s) at_ memo ps)) := by
  by_cases hne : ps = []
  · subst hne
    obtain ⟨a, c, rfl⟩ := hp.shape
    exact lCheck0_P B s a c at_ memo w0 h
  · obtain ⟨b, off, c, rfl, hr, hb⟩ := hp.some hne
    exact lCheck_P B s (some (b, off)) c at_ memo ps hlen hfit hbt w0 h hr (fun q hq => by cases hq; exact hb) (fun q hq => by cases hq; exact hd b hne rfl)
theorem psAt_row {q : Option (Nat × Nat)} {c : Nat} {ps : List Pst} {w : World} (h : RowP q 3 (ps.map encP) w) (hb : ∀ r, q = some r → r.1 < w.heap.size) : PsAt (sliceV q ps.length c) ps w := by
  by_cases e : ps = []
  · subst e; exact .inl ⟨rfl, _, _, rfl⟩
  · cases q with
    | none => exact absurd (List.map_eq_nil_iff.1 h) e
    | some r => exact .inr ⟨r.1, r.2, c, e, rfl, h, hb _ rfl⟩
theorem psAt_own {v : Value} {E : Nat} {ps : List Pst} {w : World} (h : w.ownsRow 0 E 3 v ps.length (ps.flatMap encP)) : PsAt v ps w := by
  by_cases e : ps = []
  · subst e
    obtain ⟨a, c, hv⟩ := own_slice h
    exact .inl ⟨rfl, a, c, hv⟩
  · rcases h.2 with ⟨_, e2⟩ | ⟨g, cap, cur, rfl, h1, h2, h3⟩
    · exact absurd (List.length_eq_zero_iff.1 e2) e
    · exact .inr ⟨g, 0, cap, e, rfl, row_of_own (enc := encP) (s := 3) (fun _ => rfl) h, (World.ownsRow.lt h g rfl).2⟩
theorem own_at {w : World} {E s m c : Nat} {q : Option Addr} {xs : List Value} (h : w.ownsRow 0 E s (.slice q m c) m xs) (hm : m ≠ 0) : ∃ g, q = some ⟨g, 0, none⟩ := by
  rcases h.2 with ⟨_, e2⟩ | ⟨g, cap, cur, e1, _⟩
  · exact absurd e2 hm
  · injection e1 with e3; exact ⟨g, e3⟩
end Go.Proofs.Ytheofhegdjjfgaa

namespace Go.Proofs.Ytheofhegdjjfgaa
open Go.RowKit

theorem ltV_asymm {x y : Ent} (h1 : ltV x y) (h2 : ltV y x) : False := by unfold ltV at h1 h2; omega
theorem uniqV : ∀ {l r : List Ent}, l.Perm r → l.Pairwise ltV → r.Pairwise ltV → l = r
  | [], r, h, _, _ => by rw [List.nil_perm] at h; exact h.symm
  | x :: l, [], h, _, _ => by have := h.length_eq; simp at this
  | x :: l, y :: r, h, h1, h2 => by
    have a1 := List.pairwise_cons.1 h1
    have a2 := List.pairwise_cons.1 h2
    have hxy : x = y := by
      rcases List.mem_cons.1 (h.mem_iff.1 (List.mem_cons_self)) with e | hx
      · exact e
      · rcases List.mem_cons.1 (h.mem_iff.2 (List.mem_cons_self)) with e | hy
        · exact e.symm
        · exact (ltV_asymm (a1.1 y hy) (a2.1 x hx)).elim
    subst hxy
    rw [uniqV (List.Perm.cons_inv h) a1.2 a2.2]
theorem EntsOf.uniq {es : List Ent} {f t : Int} {l r : List Ent} (h1 : EntsOf es f t l) (h2 : EntsOf es f t r) : l = r := uniqV (h1.perm.trans h2.perm.symm) h1.srt h2.srt
theorem filter_parts (es : List Ent) (p q r : Ent → Bool) (h : ∀ e, p e = (q e || r e)) (hd : ∀ e, ¬ (q e = true ∧ r e = true)) : (es.filter p).Perm (es.filter q ++ es.filter r) := by
  induction es with
  | nil => exact .refl _
  | cons e l ih =>
    rw [List.filter_cons, List.filter_cons, List.filter_cons, h e]
    cases hq : q e <;> cases hr : r e
    · simpa using ih
    · simp only [Bool.false_or, if_true, if_false, Bool.false_eq_true]
      exact (List.Perm.cons e ih).trans List.perm_middle.symm
    · simp only [Bool.or_false, if_true, if_false, Bool.false_eq_true, List.cons_append]
      exact List.Perm.cons e ih
    · exact absurd ⟨hq, hr⟩ (hd e)
theorem EntsOf.join {es : List Ent} {f m t : Int} {l r : List Ent} (h1 : EntsOf es f m l) (h2 : EntsOf es m t r) (hfm : f ≤ m) (hmt : m ≤ t) : EntsOf es f t (l ++ r) := by
  constructor
  · refine (h1.perm.append h2.perm).trans (filter_parts es _ _ _ (fun e => ?_) (fun e he => ?_)).symm
    · rw [← Bool.decide_or, decide_eq_decide]; omega
    · have a := of_decide_eq_true he.1
      have b := of_decide_eq_true he.2
      omega
  · refine List.pairwise_append.2 ⟨h1.srt, h2.srt, fun x hx y hy => ?_⟩
    have a := (List.mem_filter.1 (h1.perm.mem_iff.1 hx)).2
    have b := (List.mem_filter.1 (h2.perm.mem_iff.1 hy)).2
    have a := of_decide_eq_true a
    have b := of_decide_eq_true b
    exact .inl (by omega)
theorem EntsOf.mem {es : List Ent} {f t : Int} {l : List Ent} (h : EntsOf es f t l) {x : Ent} (hx : x ∈ l) : x ∈ es ∧ f ≤ x.at_ ∧ x.at_ < t := by
  have a := List.mem_filter.1 (h.perm.mem_iff.1 hx)
  exact ⟨a.1, of_decide_eq_true a.2⟩
theorem EntsOf.len {es : List Ent} {f t : Int} {l : List Ent} (h : EntsOf es f t l) : l.length ≤ es.length := by
  rw [h.perm.length_eq]; exact List.length_filter_le _ _

/-! ### what the entries between two instants say -/
theorem balD_perm (c : ByteArray) {L M : List Ent} (h : L.Perm M) : balD c (L.flatMap (·.ps)) = balD c (M.flatMap (·.ps)) := by
  induction h with
  | nil => rfl
  | cons x _ ih => rw [List.flatMap_cons, List.flatMap_cons, balD_append, balD_append, ih]
  | swap x y l =>
    simp only [List.flatMap_cons, balD_append]
    refine Prod.ext ?_ ?_ <;> simp only <;> omega
  | trans _ _ h1 h2 => exact h1.trans h2
theorem bal_between {es : List Ent} {m t : Int} {l : List Ent} (h : EntsOf es (m + 1) (t + 1) l) (hmt : m ≤ t) (c : ByteArray) : balD c (postsAt es t) = ((balD c (postsAt es m)).1 + (balD c (l.flatMap (·.ps))).1, (balD c (postsAt es m)).2 + (balD c (l.flatMap (·.ps))).2) := by
  rw [balD_perm c h.perm]
  unfold postsAt upTo
  rw [balD_perm c (filter_parts es (fun x => decide (x.at_ ≤ t)) (fun x => decide (x.at_ ≤ m)) (fun e => decide (m + 1 ≤ e.at_ ∧ e.at_ < t + 1)) (fun e => by rw [← Bool.decide_or, decide_eq_decide]; omega) (fun e he => by
    have a := of_decide_eq_true he.1
    have b := of_decide_eq_true he.2
    omega)), List.flatMap_append, balD_append]
theorem bal_ok {P : PL} {c : ByteArray} {t : Int} (h : (balF P c t).2 = 0) : (balF P c t).1 = (c, (balD c (postsAt P.es t)).1, (balD c (postsAt P.es t)).2) := by
  unfold balF at h ⊢
  split at h
  · cases h
  · rename_i h1
    split at h
    · cases h
    · rename_i h2
      split at h
      · rename_i h3
        rw [if_neg h1, if_neg h2, if_pos h3]; rfl
      · cases h

/-! ### numbers of entries -/
def idN (P : PL) : Prop := ∀ (i : Nat) (x : Ent), P.es[i]? = some x → x.id = (i : Int) + 1
theorem idN_step {P : PL} (h : idN P) (o : LO) : idN (stepP P o) := by
  unfold stepP
  split
  · unfold openP; split <;> exact h
  · split
    · unfold postP
      split
      · intro i x hx
        simp only at hx
        by_cases e : i < P.es.length
        · rw [List.getElem?_append_left e] at hx; exact h i x hx
        · rw [List.getElem?_append_right (by omega)] at hx
          have hi : i - P.es.length = 0 := by
            have := (List.getElem?_eq_some_iff.1 hx).1
            simp at this; omega
          rw [hi] at hx
          cases hx
          simp only; omega
      · exact h
    · split
      · unfold closeP; split <;> exact h
      · exact h
theorem idN_made (l : List LO) : idN (madeP l) := by
  unfold madeP
  have h4 : idN P4 := fun i x hx => by cases hx
  generalize P4 = P at h4
  induction l generalizing P with
  | nil => exact h4
  | cons o r ih => exact ih _ (idN_step h4 o)
theorem idN.ids {P : PL} (h : idN P) : idsP P.es := List.pairwise_iff_getElem.2 fun i j hi hj hij => by
  have a := h i _ (List.getElem?_eq_getElem hi)
  have b := h j _ (List.getElem?_eq_getElem hj)
  omega
theorem oneE (l : List EA) : ∀ u ∈ l.flatMap encE, isOne u = true := fun u hu => by
  obtain ⟨x, _, hx⟩ := List.mem_flatMap.1 hu
  simp only [encE, List.mem_cons, List.not_mem_nil, or_false] at hx
  rcases hx with rfl | rfl | rfl | rfl <;> rfl
theorem lenE (l : List EA) : (l.flatMap encE).length = l.length * 4 := flat_len encE 4 (fun _ => rfl) l
end Go.Proofs.Ytheofhegdjjfgaa

namespace Go.Proofs.Ytheofhegdjjfgaa

def encD (n : Int) : List Value := [.int .i64 n]
/-- the number of a list of digits. -/
def nv : List Int → Int
  | [] => 0
  | d :: r => d + 10000 * nv r
def inR (l : List Int) : Prop := ∀ d ∈ l, 0 ≤ d ∧ d ≤ 9999
/-- a number's digits. -/
def dgs (n : Nat) : List Int := if n = 0 then [] else ((n % 10000 : Nat) : Int) :: dgs (n / 10000)
 termination_by n
 decreasing_by omega

theorem dgs_zero : dgs 0 = [] := by rw [dgs]; simp
theorem dgs_pos {n : Nat} (h : n ≠ 0) : dgs n = ((n % 10000 : Nat) : Int) :: dgs (n / 10000) := by rw [dgs, if_neg h]
theorem nv_dgs (n : Nat) : nv (dgs n) = n := by
  induction n using Nat.strongRecOn with
  | ind n ih =>
    by_cases h : n = 0
    · subst h; rw [dgs_zero]; rfl
    · rw [dgs_pos h, nv, ih (n / 10000) (by omega)]; omega
theorem inR_dgs (n : Nat) : inR (dgs n) := by
  induction n using Nat.strongRecOn with
  | ind n ih =>
    by_cases h : n = 0
    · subst h; rw [dgs_zero]; intro d hd; cases hd
    · rw [dgs_pos h]
      intro d hd
      rcases List.mem_cons.1 hd with rfl | hd
      · omega
      · exact ih (n / 10000) (by omega) d hd
theorem nv_nonneg {l : List Int} (h : inR l) : 0 ≤ nv l := by
  induction l with
  | nil => exact Int.le_refl _
  | cons d r ih =>
    have h1 := h d (.head _)
    have h2 := ih (fun x hx => h x (.tail _ hx))
    rw [nv]; omega
theorem inR_tail {d : Int} {r : List Int} (h : inR (d :: r)) : inR r := fun x hx => h x (.tail _ hx)
theorem inR_take {l : List Int} (h : inR l) (n : Nat) : inR (l.take n) := fun x hx => h x (List.mem_of_mem_take hx)
theorem inR_snoc {l : List Int} (h : inR l) {d : Int} (hd : 0 ≤ d ∧ d ≤ 9999) : inR (l ++ [d]) := by
  intro x hx
  rcases List.mem_append.1 hx with hx | hx
  · exact h x hx
  · obtain rfl := List.mem_singleton.1 hx; exact hd
theorem nv_append (l r : List Int) : nv (l ++ r) = nv l + 10000 ^ l.length * nv r := by
  induction l with
  | nil => simp [nv]
  | cons d l ih => simp only [List.cons_append, nv, ih, List.length_cons, Int.pow_succ]; rw [Int.mul_add, Int.mul_comm (10000 ^ l.length) 10000, Int.mul_assoc]; omega
theorem nv_snoc (l : List Int) (d : Int) : nv (l ++ [d]) = nv l + 10000 ^ l.length * d := by
  rw [nv_append]; simp [nv]
/-- no 0 at the top: the digits. -/
theorem dgs_of {l : List Int} (h : inR l) (ht : ∀ r d, l = r ++ [d] → d ≠ 0) : l = dgs (nv l).toNat := by
  induction l with
  | nil => simp [nv, dgs_zero]
  | cons d r ih =>
    have h1 := h d (.head _)
    have h2 := nv_nonneg (inR_tail h)
    have ih' := ih (inR_tail h) (fun r' d' e => ht (d :: r') d' (by rw [e]; rfl))
    have hn : (nv (d :: r)).toNat ≠ 0 := by
      rw [nv]
      cases r with
      | nil =>
        have := ht [] d rfl
        simp only [nv]; omega
      | cons d' r' =>
        intro e
        have e1 : nv (d' :: r') = 0 := by omega
        rw [e1] at ih'
        rw [show (0 : Int).toNat = 0 from rfl, dgs_zero] at ih'
        cases ih'
    rw [dgs_pos hn]
    have e1 : ((nv (d :: r)).toNat % 10000 : Nat) = d := by rw [nv]; omega
    have e2 : (nv (d :: r)).toNat / 10000 = (nv r).toNat := by rw [nv]; omega
    rw [e1, e2, ← ih']
/-- zeros at the top make no difference. -/
theorem trim_step {l : List Int} {n : Nat} (hd : l[n]? = some 0) : nv (l.take (n + 1)) = nv (l.take n) := by
  rw [List.take_add_one, hd]
  simp only [Option.toList]
  rw [nv_snoc]; simp
theorem trim_end {l : List Int} (h : inR l) {n : Nat} (hn : n ≤ l.length) (hd : n = 0 ∨ ∃ d, l[n - 1]? = some d ∧ d ≠ 0) (hv : nv (l.take n) = nv l) : l.take n = dgs (nv l).toNat := by
  rw [← hv]
  refine dgs_of (inR_take h n) (fun r d e => ?_)
  rcases hd with rfl | ⟨d', hd', hne⟩
  · simp at e
  · have hl : (l.take n).length = n := by rw [List.length_take]; omega
    have hr : r.length = n - 1 := by
      have := congrArg List.length e
      rw [hl] at this
      simp at this; omega
    have h1 : (l.take n)[n - 1]? = some d := by rw [e, List.getElem?_append_right (by omega), hr]; simp
    rw [List.getElem?_take] at h1
    split at h1
    · rw [hd'] at h1; cases h1; exact hne
    · cases h1
theorem dgs_length_le {n k : Nat} (h : n < 10000 ^ k) : (dgs n).length ≤ k := by
  induction k generalizing n with
  | zero =>
    obtain rfl : n = 0 := by simpa using h
    rw [dgs_zero]; simp
  | succ k ih =>
    by_cases h0 : n = 0
    · subst h0; rw [dgs_zero]; simp
    · rw [dgs_pos h0, List.length_cons]
      have : n / 10000 < 10000 ^ k := by rw [Nat.pow_succ] at h; omega
      have := ih this
      omega
theorem nv_lt {l : List Int} (h : inR l) : nv l < 10000 ^ l.length := by
  induction l with
  | nil => simp [nv]
  | cons d r ih =>
    have h1 := h d (.head _)
    have h2 := ih (inR_tail h)
    rw [nv, List.length_cons, Int.pow_succ]; omega
/-- the comparison from the top. -/
theorem cmp_top {l r : List Int} {d e : Int} {s : List Int} (hl : inR l) (hlen : l.length = r.length) (h : d < e) (hr : inR r) : nv (l ++ d :: s) < nv (r ++ e :: s) := by
  rw [nv_append, nv_append, nv, nv, hlen]
  have h1 := nv_lt hl
  have h2 := nv_nonneg hr
  rw [hlen] at h1
  have h3 : (10000 : Int) ^ r.length * (e + 10000 * nv s) = 10000 ^ r.length * (d + 10000 * nv s) + 10000 ^ r.length * (e - d) := by rw [← Int.mul_add]; congr 1; omega
  have h4 : (10000 : Int) ^ r.length * 1 ≤ 10000 ^ r.length * (e - d) := Int.mul_le_mul_of_nonneg_left (by omega) (Int.le_of_lt (Int.pow_pos (by decide)))
  omega
theorem dgs_pow {n : Nat} (h : n ≠ 0) : (10000 : Int) ^ ((dgs n).length - 1) ≤ n := by
  induction n using Nat.strongRecOn with
  | ind n ih =>
    rw [dgs_pos h, List.length_cons]
    by_cases h0 : n / 10000 = 0
    · rw [h0, dgs_zero]; simp; omega
    · have := ih (n / 10000) (by omega) h0
      have hp : 0 < (dgs (n / 10000)).length := by rw [dgs_pos h0]; simp
      rw [show (dgs (n / 10000)).length + 1 - 1 = ((dgs (n / 10000)).length - 1) + 1 by omega, Int.pow_succ]
      omega
theorem pow_mono {a b : Nat} (h : a ≤ b) : (10000 : Int) ^ a ≤ 10000 ^ b := by
  obtain ⟨k, rfl⟩ := Nat.exists_eq_add_of_le h
  rw [Int.pow_add]
  have h1 : 0 < (10000 : Int) ^ a := Int.pow_pos (by decide)
  have h2 : 1 ≤ (10000 : Int) ^ k := by have : 0 < (10000 : Int) ^ k := Int.pow_pos (by decide); omega
  have := Int.mul_le_mul_of_nonneg_left h2 (Int.le_of_lt h1)
  omega
/-- fewer digits: a lesser number. -/
theorem dgs_lt {m n : Nat} (h : (dgs m).length < (dgs n).length) : m < n := by
  have h1 := nv_lt (inR_dgs m)
  rw [nv_dgs] at h1
  have hn : n ≠ 0 := by rintro rfl; rw [dgs_zero] at h; simp at h
  have h2 := dgs_pow hn
  have h3 := pow_mono (show (dgs m).length ≤ (dgs n).length - 1 by omega)
  omega
theorem dgs_inj {m n : Nat} (h : dgs m = dgs n) : m = n := by
  have h1 := nv_dgs m
  have h2 := nv_dgs n
  rw [h] at h1; omega
theorem dgs_len_mono {m n : Nat} (h : m ≤ n) : (dgs m).length ≤ (dgs n).length := by
  by_cases hh : (dgs n).length < (dgs m).length
  · have := dgs_lt hh; omega
  · omega
theorem dgs_ne {n : Nat} : dgs n ≠ [] ↔ 0 < n := by
  by_cases h : n = 0
  · subst h; simp [dgs_zero]
  · rw [dgs_pos h]; simp; omega
def cmpN (m n : Nat) : Int := if m < n then -1 else if n < m then 1 else 0
end Go.Proofs.Ytheofhegdjjfgaa


