/- Numbers by digits in base 10000 (exref), walked: BigCmp, add, sub, BigAdd, BigNeg, BigSub. -/
import Derived.Test.YtheofhegdjjfgaaBig2
namespace Go.Proofs.Ytheofhegdjjfgaa
open Go.RowKit

def cmpZ (x y : Int) : Int := if x < y then -1 else if y < x then 1 else 0
theorem cmpN_Z {m n : Nat} : (m < n → cmpN m n = -1) ∧ (n < m → cmpN m n = 1) ∧ (m = n → cmpN m n = 0) := by
  unfold cmpN
  refine ⟨fun h => by rw [if_pos h], fun h => by rw [if_neg (by omega), if_pos h], fun h => by rw [if_neg (by omega), if_neg (by omega)]⟩
theorem cmpZ_a {x y : Int} (h : decide (x < 0) ≠ decide (y < 0)) (hx : x < 0) : cmpZ x y = -1 := by
  have : ¬ y < 0 := fun hy => h (by simp [hx, hy])
  rw [cmpZ, if_pos (by omega)]
theorem cmpZ_b {x y : Int} (h : decide (x < 0) ≠ decide (y < 0)) (hx : ¬ x < 0) : cmpZ x y = 1 := by
  have : y < 0 := Decidable.byContradiction fun hy => h (by simp [hx, hy])
  rw [cmpZ, if_neg (by omega), if_pos (by omega)]
theorem same_sgn {x y : Int} (h : ¬ decide (x < 0) ≠ decide (y < 0)) : x < 0 ↔ y < 0 := by
  have := Decidable.not_not.1 h
  simpa using this
theorem cmpZ_c {x y : Int} (h : ¬ decide (x < 0) ≠ decide (y < 0)) (hx : x < 0) : IntKind.i64.wrap (0 - cmpN x.natAbs y.natAbs) = cmpZ x y := by
  have h1 := same_sgn h
  unfold cmpN cmpZ
  rw [wrap_fit (by split <;> (try split) <;> omega)]
  split <;> split <;> (try split) <;> (try split) <;> omega
theorem cmpZ_d {x y : Int} (h : ¬ decide (x < 0) ≠ decide (y < 0)) (hx : ¬ x < 0) : cmpN x.natAbs y.natAbs = cmpZ x y := by
  have h1 := same_sgn h
  unfold cmpN cmpZ
  split <;> split <;> (try split) <;> (try split) <;> omega
set_option maxRecDepth 100000 in
theorem BigCmp_P (p q : Option (Nat × Nat)) (c1 c2 : Nat) (x y : Int) (hx : (dgs x.natAbs).length ≤ 1000000) (w0 : World) (h : (twoA p q (dgs x.natAbs) (dgs y.natAbs)).ok w0) :
    PureC Try.prog 24 [bigV x p c1, bigV y q c2] w0 (.int .i64 (cmpZ x y)) := by
  refine c_enter [(0, bigV x p c1), (1, bigV y q c2)] [twoA p q (dgs x.natAbs) (dgs y.natAbs)] noB Try.func24 rfl Try.ntmps24 ⟨rfl, rfl, trivial⟩ rfl (by intro X hX; obtain rfl := List.mem_singleton.1 hX; exact h) (by simp) (by intro X hX hm; obtain rfl := List.mem_singleton.1 hX; cases hm) ?_
  intro a hS
  refine c_seq ?_
  refine c_region ?_
  refine L_op (s_boxA hS rfl rfl ?_); clear hS a; (try clear w); intro a w b2 hS
  refine L_op (s_boxA hS rfl rfl ?_); clear hS a; (try clear w); intro a w b3 hS
  refine L_op (s_e hS (e_assign rfl) rfl ?_); clear hS a; intro a hS
  refine L_nil ?_
  refine n_then ?_
  refine c_seq ?_
  refine c_seq ?_
  refine c_region ?_
  first | (refine L_op (s_e hS (e_fa0 rfl ty_fo44_0) rfl ?_); clear hS a; intro a hS) | (refine L_op (s_e hS (e_faK rfl ty_fo44_0) rfl ?_); clear hS a; intro a hS)
  refine L_op (s_e hS (e_load rfl (by repeat constructor) ty_sc4 (by rfl)) rfl ?_); clear hS a; intro a hS
  first | (refine L_op (s_e hS (e_fa0 rfl ty_fo44_0) rfl ?_); clear hS a; intro a hS) | (refine L_op (s_e hS (e_faK rfl ty_fo44_0) rfl ?_); clear hS a; intro a hS)
  refine L_op (s_e hS (e_load rfl (by repeat constructor) ty_sc4 (by rfl)) rfl ?_); clear hS a; intro a hS
  refine L_op (s_e hS (e_binBn rfl rfl ty_u4) rfl ?_); clear hS a; intro a hS
  refine L_nil ?_
  refine n_then ?_
  first | refine c_ifD hS rfl (fun hc10 => ?_) (fun hc10 => ?_) | refine c_if hS rfl (fun hc10 => ?_) (fun hc10 => ?_)
  ·
    refine c_seq ?_
    refine c_seq ?_
    refine c_region ?_
    first | (refine L_op (s_e hS (e_fa0 rfl ty_fo44_0) rfl ?_); clear hS a; intro a hS) | (refine L_op (s_e hS (e_faK rfl ty_fo44_0) rfl ?_); clear hS a; intro a hS)
    refine L_op (s_e hS (e_load rfl (by repeat constructor) ty_sc4 (by rfl)) rfl ?_); clear hS a; intro a hS
    refine L_nil ?_
    refine n_then ?_
    first | refine c_ifD hS rfl (fun hc12 => ?_) (fun hc12 => ?_) | refine c_if hS rfl (fun hc12 => ?_) (fun hc12 => ?_)
    ·
      refine c_seq ?_
      refine c_region ?_
      refine L_op (s_e hS (e_assign rfl) rfl ?_); clear hS a; intro a hS
      refine L_nil ?_
      refine n_then ?_
      refine wp_ret ?_
      refine r_then (r_then ?_)
      refine c_ret1 hS Try.results24 (.tmp rfl) ?_
      exact ⟨by rw [cmpZ_a hc10 hc12], hS.chg⟩
    ·
      refine wp_skip ?_
      refine n_then ?_
      refine c_seq ?_
      refine c_region ?_
      refine L_op (s_e hS (e_assign rfl) rfl ?_); clear hS a; intro a hS
      refine L_nil ?_
      refine n_then ?_
      refine wp_ret ?_
      refine r_then ?_
      refine c_ret1 hS Try.results24 (.tmp rfl) ?_
      exact ⟨by rw [cmpZ_b hc10 hc12], hS.chg⟩
  ·
    refine wp_skip ?_
    refine n_then ?_
    refine c_seq ?_
    refine c_region ?_
    first | (refine L_op (s_e hS (e_fa0 rfl ty_fo44_1) rfl ?_); clear hS a; intro a hS) | (refine L_op (s_e hS (e_faK rfl ty_fo44_1) rfl ?_); clear hS a; intro a hS)
    refine L_op (s_e hS (e_load rfl (by repeat constructor) ty_sc42 (by rfl)) rfl ?_); clear hS a; intro a hS
    first | (refine L_op (s_e hS (e_fa0 rfl ty_fo44_1) rfl ?_); clear hS a; intro a hS) | (refine L_op (s_e hS (e_faK rfl ty_fo44_1) rfl ?_); clear hS a; intro a hS)
    refine L_op (s_e hS (e_load rfl (by repeat constructor) ty_sc42 (by rfl)) rfl ?_); clear hS a; intro a hS
    refine L_op (s_callP hS (.cons rfl (.cons rfl .nil)) cf59 rfl (cmp_P p q c1 c2 x.natAbs y.natAbs hx _ (hS.ok _ (by repeat (first | exact .head _ | refine .tail _ ?_)))) ?_); clear hS a; (try clear w); intro a w hS
    refine L_op (s_e hS (e_assign rfl) rfl ?_); clear hS a; intro a hS
    refine L_nil ?_
    refine n_then ?_
    refine c_seq ?_
    refine c_seq ?_
    refine c_region ?_
    first | (refine L_op (s_e hS (e_fa0 rfl ty_fo44_0) rfl ?_); clear hS a; intro a hS) | (refine L_op (s_e hS (e_faK rfl ty_fo44_0) rfl ?_); clear hS a; intro a hS)
    refine L_op (s_e hS (e_load rfl (by repeat constructor) ty_sc4 (by rfl)) rfl ?_); clear hS a; intro a hS
    refine L_nil ?_
    refine n_then ?_
    first | refine c_ifD hS rfl (fun hc19 => ?_) (fun hc19 => ?_) | refine c_if hS rfl (fun hc19 => ?_) (fun hc19 => ?_)
    ·
      refine c_seq ?_
      refine c_region ?_
      refine L_op (s_e hS (e_move rfl) rfl ?_); clear hS a; intro a hS
      refine L_op (s_e hS (e_neg rfl) rfl ?_); clear hS a; intro a hS
      refine L_op (s_e hS (e_assign rfl) rfl ?_); clear hS a; intro a hS
      refine L_nil ?_
      refine n_then ?_
      refine wp_ret ?_
      refine r_then ?_
      refine c_ret1 hS Try.results24 (.tmp rfl) ?_
      exact ⟨by rw [← cmpZ_c hc10 hc19], hS.chg⟩
    ·
      refine wp_skip ?_
      refine n_then ?_
      refine c_seq ?_
      refine c_region ?_
      refine L_op (s_e hS (e_move rfl) rfl ?_); clear hS a; intro a hS
      refine L_op (s_e hS (e_assign rfl) rfl ?_); clear hS a; intro a hS
      refine L_nil ?_
      refine n_then ?_
      refine wp_ret ?_
      refine c_ret1 hS Try.results24 (.tmp rfl) ?_
      exact ⟨by rw [← cmpZ_d hc10 hc19], hS.chg⟩

def gd (xs : List Int) (i : Nat) : Int := (xs[i]?).getD 0
theorem gd_in {xs : List Int} (h : inR xs) (i : Nat) : 0 ≤ gd xs i ∧ gd xs i ≤ 9999 := by
  unfold gd
  cases hx : xs[i]? with
  | none => simp
  | some d => exact h d (List.mem_of_getElem? hx)
theorem nv_drop (xs : List Int) (i : Nat) : nv (xs.drop i) = gd xs i + 10000 * nv (xs.drop (i + 1)) := by
  unfold gd
  cases hx : xs[i]? with
  | none =>
    have := List.getElem?_eq_none_iff.1 hx
    rw [List.drop_eq_nil_of_le this, List.drop_eq_nil_of_le (by omega)]; simp [nv]
  | some d => rw [drop_at hx]; rfl
theorem add_step {S P o c A B a b A' B' x : Int} (h : S = o + P * (c + A + B)) (hA : A = a + 10000 * A') (hB : B = b + 10000 * B') (hx : x = c + a + b) : S = (o + P * (x % 10000)) + P * 10000 * (x / 10000 + A' + B') := by
  have e : c + A + B = x % 10000 + 10000 * (x / 10000 + A' + B') := by omega
  rw [h, e, Int.mul_add, Int.mul_assoc]; omega
/-- digits of the walk's own. -/
abbrev Digs := List Int × Value
def digA (r : Digs) : Asn := ownA 3 1 r.2 r.1.length (r.1.flatMap encD)

set_option maxRecDepth 100000 in
theorem add_P (p q : Option (Nat × Nat)) (c1 c2 : Nat) (xs ys : List Int) (hx : inR xs) (hy : inR ys) (N : Nat) (hN : N ≤ 1000000) (hlx : xs.length ≤ N) (hly : ys.length ≤ N) (w0 : World) (h : (twoA p q xs ys).ok w0) :
    NewC Try.prog 58 [sliceV p xs.length c1, sliceV q ys.length c2] w0 (fun r : { r : Digs // inR r.1 ∧ nv r.1 = nv xs + nv ys ∧ r.1.length ≤ N + 1 } => r.1.2) (fun r => digA r.1) := by
  have hp := h.now.1
  have hq := h.now.2
  refine c_enter [(0, sliceV p xs.length c1), (1, sliceV q ys.length c2)] [twoA p q xs ys] noB Try.func58 rfl Try.ntmps58 ⟨rfl, rfl, trivial⟩ rfl (by intro X hX; obtain rfl := List.mem_singleton.1 hX; exact h) (by simp) (by intro X hX hm; obtain rfl := List.mem_singleton.1 hX; cases hm) ?_
  intro a hS
  refine c_seq ?_
  refine c_region ?_
  refine L_op (s_e hS (e_assign rfl) rfl ?_); clear hS a; intro a hS
  refine L_nil ?_
  refine n_then ?_
  refine c_seq ?_
  refine c_region ?_
  refine L_op (s_e hS (e_assign rfl) rfl ?_); clear hS a; intro a hS
  refine L_nil ?_
  refine n_then ?_
  refine c_seq ?_
  refine c_region ?_
  refine L_op (s_e hS (e_assign rfl) rfl ?_); clear hS a; intro a hS
  refine L_nil ?_
  refine n_then ?_
  refine c_seq ?_
  refine c_seq ?_
  refine c_region ?_
  refine L_op (s_e hS (e_assign rfl) rfl ?_); clear hS a; intro a hS
  refine L_nil ?_
  refine n_then ?_
  refine wp_block ?_
  skip
  refine c_loop (γ := (Int × List Int × Value)) (fun G a w => St 54 noB w0 a w [(0, sliceV p xs.length c1), (1, sliceV q ys.length c2), (5, G.2.2), (6, .int .i64 G.1), (7, .int .i64 (G.2.1.length : Int))] [ownA 3 1 G.2.2 G.2.1.length (G.2.1.flatMap encD), twoA p q xs ys] ∧ inR G.2.1 ∧ 0 ≤ G.1 ∧ G.1 ≤ 1 ∧ G.2.1.length ≤ N + 1 ∧ (G.2.1.length = N + 1 → G.1 = 0) ∧ nv xs + nv ys = nv G.2.1 + 10000 ^ G.2.1.length * (G.1 + nv (xs.drop G.2.1.length) + nv (ys.drop G.2.1.length))) (fun G => N + 2 - G.2.1.length) (0, [], .slice none 0 0) ⟨(hS.own_nil 3 1).slots ⟨rfl, rfl, rfl, rfl, rfl, trivial⟩, (by intro d hd; cases hd), by decide, by decide, Nat.zero_le _, fun _ => rfl, by simp [nv]⟩ ?_
  clear hS a; (try clear w); intro G a w hI
  obtain ⟨cy, l, sv⟩ := G
  obtain ⟨hS, hin, hc0, hc1, hll, hlN, hsum⟩ := hI
  simp only at hS hin hc0 hc1 hll hlN hsum
  have ga := gd_in hx l.length
  have gb := gd_in hy l.length
  have da := nv_drop xs l.length
  have db := nv_drop ys l.length
  refine c_seq ?_
  refine c_seq ?_
  refine c_region ?_
  refine L_op (s_e hS (e_move rfl) rfl ?_); clear hS a; intro a hS
  refine L_op (s_e hS (e_move rfl) rfl ?_); clear hS a; intro a hS
  refine L_op (s_e hS (e_len rfl rfl ty_sl42) rfl ?_); clear hS a; intro a hS
  refine L_op (s_e hS (e_bin rfl rfl rfl) rfl ?_); clear hS a; intro a hS
  refine L_op (s_e hS (e_move rfl) rfl ?_); clear hS a; intro a hS
  (first | refine g_splitD (t := 13) hS rfl ?_ ?_ | refine g_split (t := 13) hS rfl ?_ ?_) <;> (clear hS; intro hg13 hS)
  ·
    refine L_skip_f hS rfl rfl rfl ?_; clear hS a; intro a hS
    refine L_skip_f hS rfl rfl rfl ?_; clear hS a; intro a hS
    refine L_skip_f hS rfl rfl rfl ?_; clear hS a; intro a hS
    refine L_skip_f hS rfl rfl rfl ?_; clear hS a; intro a hS
    first | (refine L_op (s_e hS (e_pick_t rfl rfl) rfl ?_); clear hS a; intro a hS) | (refine L_op (s_e hS (e_pick_f rfl rfl) rfl ?_); clear hS a; intro a hS)
    refine L_op (s_e hS (e_move rfl) rfl ?_); clear hS a; intro a hS
    refine L_skip_f hS rfl rfl rfl ?_; clear hS a; intro a hS
    refine L_skip_f hS rfl rfl rfl ?_; clear hS a; intro a hS
    first | (refine L_op (s_e hS (e_pick_t rfl rfl) rfl ?_); clear hS a; intro a hS) | (refine L_op (s_e hS (e_pick_f rfl rfl) rfl ?_); clear hS a; intro a hS)
    refine L_nil ?_
    refine n_then ?_
    refine c_if_t hS rfl ?_
    refine wp_skip ?_
    refine n_then ?_
    refine c_seq ?_
    refine wp_block ?_
    refine c_seq ?_
    refine c_region ?_
    refine L_op (s_e hS (e_move rfl) rfl ?_); clear hS a; intro a hS
    refine L_op (s_e hS (e_assign rfl) rfl ?_); clear hS a; intro a hS
    refine L_nil ?_
    refine n_then ?_
    refine c_cut (fun a w => ∃ d1 : Int, St 54 noB w0 a w [(8, .int .i64 d1), (0, sliceV p xs.length c1), (1, sliceV q ys.length c2), (5, sv), (6, .int .i64 cy), (7, .int .i64 (l.length : Int))] [ownA 3 1 sv l.length (l.flatMap encD), twoA p q xs ys] ∧ d1 = cy + gd xs l.length) ?_ ?_
    ·
      refine c_seq ?_
      refine c_region ?_
      refine L_op (s_e hS (e_move rfl) rfl ?_); clear hS a; intro a hS
      refine L_op (s_e hS (e_move rfl) rfl ?_); clear hS a; intro a hS
      refine L_op (s_e hS (e_len rfl rfl ty_sl42) rfl ?_); clear hS a; intro a hS
      refine L_op (s_e hS (e_bin rfl rfl rfl) rfl ?_); clear hS a; intro a hS
      refine L_nil ?_
      refine n_then ?_
      first | refine c_ifD hS rfl (fun hc29 => ?_) (fun hc29 => ?_) | refine c_if hS rfl (fun hc29 => ?_) (fun hc29 => ?_)
      ·
        obtain ⟨d, hd⟩ : ∃ d, xs[l.length]? = some d := ⟨xs[l.length]'(by omega), List.getElem?_eq_getElem (by omega)⟩
        obtain ⟨b1, o1, rfl⟩ := two_pos hp (fun e => by rw [e] at hd; cases hd)
        have hgd : gd xs l.length = d := by unfold gd; rw [hd]; rfl
        refine c_region ?_
        refine L_op (s_e hS (e_move rfl) rfl ?_); clear hS a; intro a hS
        refine L_op (s_e hS (e_move rfl) rfl ?_); clear hS a; intro a hS
        refine L_op (s_e hS (e_move rfl) rfl ?_); clear hS a; intro a hS
        refine L_op (s_e hS (e_ixN rfl rfl ty_sl42 ty_sz3 (by omega)) rfl ?_); clear hS a; intro a hS
        refine L_op (s_e hS (e_loadC rfl ty_sc3 (two_l (by repeat (first | exact .head _ | refine .tail _ ?_)) hd)) rfl ?_); clear hS a; intro a hS
        first | (refine L_op (s_e hS (e_binN rfl rfl rfl (by omega)) rfl ?_); clear hS a; intro a hS) | (refine L_op (s_e hS (e_bin rfl rfl rfl) rfl ?_); clear hS a; intro a hS)
        refine L_op (s_e hS (e_assign rfl) rfl ?_); clear hS a; intro a hS
        refine L_nil ?_
        exact ⟨_, hS.slots (by exact ⟨rfl, rfl, rfl, rfl, rfl, rfl, trivial⟩), by omega⟩
      ·
        have hgd : gd xs l.length = 0 := by unfold gd; rw [List.getElem?_eq_none (by omega)]; rfl
        refine wp_skip ?_
        exact ⟨_, hS.slots (by exact ⟨rfl, rfl, rfl, rfl, rfl, rfl, trivial⟩), by omega⟩
    ·
      clear hS a; (try clear w); intro a w hS
      obtain ⟨d1, hS, hd1⟩ := hS
      refine c_cut (fun a w => ∃ d2 : Int, St 54 noB w0 a w [(8, .int .i64 d2), (0, sliceV p xs.length c1), (1, sliceV q ys.length c2), (5, sv), (6, .int .i64 cy), (7, .int .i64 (l.length : Int))] [ownA 3 1 sv l.length (l.flatMap encD), twoA p q xs ys] ∧ d2 = cy + gd xs l.length + gd ys l.length) ?_ ?_
      ·
        refine c_seq ?_
        refine c_region ?_
        refine L_op (s_e hS (e_move rfl) rfl ?_); clear hS a; intro a hS
        refine L_op (s_e hS (e_move rfl) rfl ?_); clear hS a; intro a hS
        refine L_op (s_e hS (e_len rfl rfl ty_sl42) rfl ?_); clear hS a; intro a hS
        refine L_op (s_e hS (e_bin rfl rfl rfl) rfl ?_); clear hS a; intro a hS
        refine L_nil ?_
        refine n_then ?_
        first | refine c_ifD hS rfl (fun hc39 => ?_) (fun hc39 => ?_) | refine c_if hS rfl (fun hc39 => ?_) (fun hc39 => ?_)
        ·
          obtain ⟨d, hd⟩ : ∃ d, ys[l.length]? = some d := ⟨ys[l.length]'(by omega), List.getElem?_eq_getElem (by omega)⟩
          obtain ⟨b2, o2, rfl⟩ := two_pos hq (fun e => by rw [e] at hd; cases hd)
          have hgd : gd ys l.length = d := by unfold gd; rw [hd]; rfl
          refine c_region ?_
          refine L_op (s_e hS (e_move rfl) rfl ?_); clear hS a; intro a hS
          refine L_op (s_e hS (e_move rfl) rfl ?_); clear hS a; intro a hS
          refine L_op (s_e hS (e_move rfl) rfl ?_); clear hS a; intro a hS
          refine L_op (s_e hS (e_ixN rfl rfl ty_sl42 ty_sz3 (by omega)) rfl ?_); clear hS a; intro a hS
          refine L_op (s_e hS (e_loadC rfl ty_sc3 (two_r (by repeat (first | exact .head _ | refine .tail _ ?_)) hd)) rfl ?_); clear hS a; intro a hS
          first | (refine L_op (s_e hS (e_binN rfl rfl rfl (by omega)) rfl ?_); clear hS a; intro a hS) | (refine L_op (s_e hS (e_bin rfl rfl rfl) rfl ?_); clear hS a; intro a hS)
          refine L_op (s_e hS (e_assign rfl) rfl ?_); clear hS a; intro a hS
          refine L_nil ?_
          exact ⟨_, hS.slots (by exact ⟨rfl, rfl, rfl, rfl, rfl, rfl, trivial⟩), by omega⟩
        ·
          have hgd : gd ys l.length = 0 := by unfold gd; rw [List.getElem?_eq_none (by omega)]; rfl
          refine wp_skip ?_
          exact ⟨_, hS.slots (by exact ⟨rfl, rfl, rfl, rfl, rfl, rfl, trivial⟩), by omega⟩
      ·
        clear hS a; (try clear w); intro a w hS
        obtain ⟨d2, hS, hd2⟩ := hS
        have e1 : (l ++ [d2 % 10000]).flatMap encD = l.flatMap encD ++ [.int .i64 (d2 % 10000)] := by simp [encD]
        have hs2 := add_step hsum da db hd2
        refine c_seq ?_
        refine c_region ?_
        refine L_op (s_e hS (e_move rfl) rfl ?_); clear hS a; intro a hS
        refine L_op (s_e hS (e_move rfl) rfl ?_); clear hS a; intro a hS
        first | (refine L_op (s_e hS (e_remN rfl rfl (by omega)) rfl ?_); clear hS a; intro a hS) | (refine L_op (s_e hS (e_rem rfl rfl (by omega)) rfl ?_); clear hS a; intro a hS)
        refine L_op (s_bslice hS ty_sl42 ty_sz3 ty_z3 rfl rfl rfl rfl (.one rfl rfl rfl .nil) rfl ?_); clear hS a; (try clear w); intro a w b49 hS
        refine L_op (s_append1 hS rfl rfl ty_sl42 ty_sz3 ty_by3 ty_z3 rfl rfl rfl (by repeat constructor) (by repeat constructor) (by rfl) (by rfl) (fun _ => (by repeat constructor)) (by omega) ?_); clear hS a; (try clear w); intro v50 a w hv50 hS
        refine L_op (s_e hS (e_assign rfl) rfl ?_); clear hS a; intro a hS
        refine L_nil ?_
        refine n_then ?_
        refine c_region ?_
        refine L_op (s_e hS (e_move rfl) rfl ?_); clear hS a; intro a hS
        first | (refine L_op (s_e hS (e_quoN rfl rfl (by omega)) rfl ?_); clear hS a; intro a hS) | (refine L_op (s_e hS (e_quo rfl rfl (by omega)) rfl ?_); clear hS a; intro a hS)
        refine L_op (s_e hS (e_assign rfl) rfl ?_); clear hS a; intro a hS
        refine L_nil ?_
        refine n_block ?_
        refine n_then ?_
        refine c_region ?_
        refine L_op (s_e hS (e_move rfl) rfl ?_); clear hS a; intro a hS
        first | (refine L_op (s_e hS (e_binN rfl rfl rfl (by omega)) rfl ?_); clear hS a; intro a hS) | (refine L_op (s_e hS (e_bin rfl rfl rfl) rfl ?_); clear hS a; intro a hS)
        refine L_op (s_e hS (e_assign rfl) rfl ?_); clear hS a; intro a hS
        refine L_nil ?_
        have hlN2 : l.length ≤ N := by
          rcases Nat.lt_or_ge l.length (N + 1) with h1 | h1
          · omega
          · have := hlN (by omega)
            omega
        refine ⟨(d2 / 10000, l ++ [d2 % 10000], v50), by simp only [List.length_append, List.length_cons, List.length_nil]; omega, ?_, inR_snoc hin (by omega), by simp only; omega, by simp only; omega, by simp only [List.length_append, List.length_cons, List.length_nil]; omega, ?_, ?_⟩
        · simp only [List.length_append, List.length_cons, List.length_nil, Nat.zero_add, e1]
          exact (hS.drop (by repeat (first | exact List.Sublist.refl _ | apply List.Sublist.cons_cons | apply List.Sublist.cons))).slots (by exact ⟨rfl, rfl, rfl, rfl, rfl, trivial⟩)
        · simp only [List.length_append, List.length_cons, List.length_nil, Nat.zero_add]
          intro h1
          have za : gd xs l.length = 0 := by unfold gd; rw [List.getElem?_eq_none (by omega)]; rfl
          have zb : gd ys l.length = 0 := by unfold gd; rw [List.getElem?_eq_none (by omega)]; rfl
          omega
        · simp only [List.length_append, List.length_cons, List.length_nil, Nat.zero_add]
          rw [nv_snoc, hs2, Int.pow_succ]
  ·
    refine L_go hS rfl rfl (s_e hS (e_move rfl) rfl ?_); clear hS a; intro a hS
    refine L_go hS rfl rfl (s_e hS (e_move rfl) rfl ?_); clear hS a; intro a hS
    refine L_go hS rfl rfl (s_e hS (e_len rfl rfl ty_sl42) rfl ?_); clear hS a; intro a hS
    refine L_go hS rfl rfl (s_e hS (e_bin rfl rfl rfl) rfl ?_); clear hS a; intro a hS
    first | (refine L_op (s_e hS (e_pick_t rfl rfl) rfl ?_); clear hS a; intro a hS) | (refine L_op (s_e hS (e_pick_f rfl rfl) rfl ?_); clear hS a; intro a hS)
    refine L_op (s_e hS (e_move rfl) rfl ?_); clear hS a; intro a hS
    (first | refine g_splitD (t := 19) hS rfl ?_ ?_ | refine g_split (t := 19) hS rfl ?_ ?_) <;> (clear hS; intro hg19 hS)
    ·
      refine L_skip_f hS rfl rfl rfl ?_; clear hS a; intro a hS
      refine L_skip_f hS rfl rfl rfl ?_; clear hS a; intro a hS
      first | (refine L_op (s_e hS (e_pick_t rfl rfl) rfl ?_); clear hS a; intro a hS) | (refine L_op (s_e hS (e_pick_f rfl rfl) rfl ?_); clear hS a; intro a hS)
      refine L_nil ?_
      refine n_then ?_
      refine c_if_t hS rfl ?_
      refine wp_skip ?_
      refine n_then ?_
      refine c_seq ?_
      refine wp_block ?_
      refine c_seq ?_
      refine c_region ?_
      refine L_op (s_e hS (e_move rfl) rfl ?_); clear hS a; intro a hS
      refine L_op (s_e hS (e_assign rfl) rfl ?_); clear hS a; intro a hS
      refine L_nil ?_
      refine n_then ?_
      refine c_cut (fun a w => ∃ d1 : Int, St 54 noB w0 a w [(8, .int .i64 d1), (0, sliceV p xs.length c1), (1, sliceV q ys.length c2), (5, sv), (6, .int .i64 cy), (7, .int .i64 (l.length : Int))] [ownA 3 1 sv l.length (l.flatMap encD), twoA p q xs ys] ∧ d1 = cy + gd xs l.length) ?_ ?_
      ·
        refine c_seq ?_
        refine c_region ?_
        refine L_op (s_e hS (e_move rfl) rfl ?_); clear hS a; intro a hS
        refine L_op (s_e hS (e_move rfl) rfl ?_); clear hS a; intro a hS
        refine L_op (s_e hS (e_len rfl rfl ty_sl42) rfl ?_); clear hS a; intro a hS
        refine L_op (s_e hS (e_bin rfl rfl rfl) rfl ?_); clear hS a; intro a hS
        refine L_nil ?_
        refine n_then ?_
        first | refine c_ifD hS rfl (fun hc29 => ?_) (fun hc29 => ?_) | refine c_if hS rfl (fun hc29 => ?_) (fun hc29 => ?_)
        ·
          obtain ⟨d, hd⟩ : ∃ d, xs[l.length]? = some d := ⟨xs[l.length]'(by omega), List.getElem?_eq_getElem (by omega)⟩
          obtain ⟨b1, o1, rfl⟩ := two_pos hp (fun e => by rw [e] at hd; cases hd)
          have hgd : gd xs l.length = d := by unfold gd; rw [hd]; rfl
          refine c_region ?_
          refine L_op (s_e hS (e_move rfl) rfl ?_); clear hS a; intro a hS
          refine L_op (s_e hS (e_move rfl) rfl ?_); clear hS a; intro a hS
          refine L_op (s_e hS (e_move rfl) rfl ?_); clear hS a; intro a hS
          refine L_op (s_e hS (e_ixN rfl rfl ty_sl42 ty_sz3 (by omega)) rfl ?_); clear hS a; intro a hS
          refine L_op (s_e hS (e_loadC rfl ty_sc3 (two_l (by repeat (first | exact .head _ | refine .tail _ ?_)) hd)) rfl ?_); clear hS a; intro a hS
          first | (refine L_op (s_e hS (e_binN rfl rfl rfl (by omega)) rfl ?_); clear hS a; intro a hS) | (refine L_op (s_e hS (e_bin rfl rfl rfl) rfl ?_); clear hS a; intro a hS)
          refine L_op (s_e hS (e_assign rfl) rfl ?_); clear hS a; intro a hS
          refine L_nil ?_
          exact ⟨_, hS.slots (by exact ⟨rfl, rfl, rfl, rfl, rfl, rfl, trivial⟩), by omega⟩
        ·
          have hgd : gd xs l.length = 0 := by unfold gd; rw [List.getElem?_eq_none (by omega)]; rfl
          refine wp_skip ?_
          exact ⟨_, hS.slots (by exact ⟨rfl, rfl, rfl, rfl, rfl, rfl, trivial⟩), by omega⟩
      ·
        clear hS a; (try clear w); intro a w hS
        obtain ⟨d1, hS, hd1⟩ := hS
        refine c_cut (fun a w => ∃ d2 : Int, St 54 noB w0 a w [(8, .int .i64 d2), (0, sliceV p xs.length c1), (1, sliceV q ys.length c2), (5, sv), (6, .int .i64 cy), (7, .int .i64 (l.length : Int))] [ownA 3 1 sv l.length (l.flatMap encD), twoA p q xs ys] ∧ d2 = cy + gd xs l.length + gd ys l.length) ?_ ?_
        ·
          refine c_seq ?_
          refine c_region ?_
          refine L_op (s_e hS (e_move rfl) rfl ?_); clear hS a; intro a hS
          refine L_op (s_e hS (e_move rfl) rfl ?_); clear hS a; intro a hS
          refine L_op (s_e hS (e_len rfl rfl ty_sl42) rfl ?_); clear hS a; intro a hS
          refine L_op (s_e hS (e_bin rfl rfl rfl) rfl ?_); clear hS a; intro a hS
          refine L_nil ?_
          refine n_then ?_
          first | refine c_ifD hS rfl (fun hc39 => ?_) (fun hc39 => ?_) | refine c_if hS rfl (fun hc39 => ?_) (fun hc39 => ?_)
          ·
            obtain ⟨d, hd⟩ : ∃ d, ys[l.length]? = some d := ⟨ys[l.length]'(by omega), List.getElem?_eq_getElem (by omega)⟩
            obtain ⟨b2, o2, rfl⟩ := two_pos hq (fun e => by rw [e] at hd; cases hd)
            have hgd : gd ys l.length = d := by unfold gd; rw [hd]; rfl
            refine c_region ?_
            refine L_op (s_e hS (e_move rfl) rfl ?_); clear hS a; intro a hS
            refine L_op (s_e hS (e_move rfl) rfl ?_); clear hS a; intro a hS
            refine L_op (s_e hS (e_move rfl) rfl ?_); clear hS a; intro a hS
            refine L_op (s_e hS (e_ixN rfl rfl ty_sl42 ty_sz3 (by omega)) rfl ?_); clear hS a; intro a hS
            refine L_op (s_e hS (e_loadC rfl ty_sc3 (two_r (by repeat (first | exact .head _ | refine .tail _ ?_)) hd)) rfl ?_); clear hS a; intro a hS
            first | (refine L_op (s_e hS (e_binN rfl rfl rfl (by omega)) rfl ?_); clear hS a; intro a hS) | (refine L_op (s_e hS (e_bin rfl rfl rfl) rfl ?_); clear hS a; intro a hS)
            refine L_op (s_e hS (e_assign rfl) rfl ?_); clear hS a; intro a hS
            refine L_nil ?_
            exact ⟨_, hS.slots (by exact ⟨rfl, rfl, rfl, rfl, rfl, rfl, trivial⟩), by omega⟩
          ·
            have hgd : gd ys l.length = 0 := by unfold gd; rw [List.getElem?_eq_none (by omega)]; rfl
            refine wp_skip ?_
            exact ⟨_, hS.slots (by exact ⟨rfl, rfl, rfl, rfl, rfl, rfl, trivial⟩), by omega⟩
        ·
          clear hS a; (try clear w); intro a w hS
          obtain ⟨d2, hS, hd2⟩ := hS
          have e1 : (l ++ [d2 % 10000]).flatMap encD = l.flatMap encD ++ [.int .i64 (d2 % 10000)] := by simp [encD]
          have hs2 := add_step hsum da db hd2
          refine c_seq ?_
          refine c_region ?_
          refine L_op (s_e hS (e_move rfl) rfl ?_); clear hS a; intro a hS
          refine L_op (s_e hS (e_move rfl) rfl ?_); clear hS a; intro a hS
          first | (refine L_op (s_e hS (e_remN rfl rfl (by omega)) rfl ?_); clear hS a; intro a hS) | (refine L_op (s_e hS (e_rem rfl rfl (by omega)) rfl ?_); clear hS a; intro a hS)
          refine L_op (s_bslice hS ty_sl42 ty_sz3 ty_z3 rfl rfl rfl rfl (.one rfl rfl rfl .nil) rfl ?_); clear hS a; (try clear w); intro a w b49 hS
          refine L_op (s_append1 hS rfl rfl ty_sl42 ty_sz3 ty_by3 ty_z3 rfl rfl rfl (by repeat constructor) (by repeat constructor) (by rfl) (by rfl) (fun _ => (by repeat constructor)) (by omega) ?_); clear hS a; (try clear w); intro v50 a w hv50 hS
          refine L_op (s_e hS (e_assign rfl) rfl ?_); clear hS a; intro a hS
          refine L_nil ?_
          refine n_then ?_
          refine c_region ?_
          refine L_op (s_e hS (e_move rfl) rfl ?_); clear hS a; intro a hS
          first | (refine L_op (s_e hS (e_quoN rfl rfl (by omega)) rfl ?_); clear hS a; intro a hS) | (refine L_op (s_e hS (e_quo rfl rfl (by omega)) rfl ?_); clear hS a; intro a hS)
          refine L_op (s_e hS (e_assign rfl) rfl ?_); clear hS a; intro a hS
          refine L_nil ?_
          refine n_block ?_
          refine n_then ?_
          refine c_region ?_
          refine L_op (s_e hS (e_move rfl) rfl ?_); clear hS a; intro a hS
          first | (refine L_op (s_e hS (e_binN rfl rfl rfl (by omega)) rfl ?_); clear hS a; intro a hS) | (refine L_op (s_e hS (e_bin rfl rfl rfl) rfl ?_); clear hS a; intro a hS)
          refine L_op (s_e hS (e_assign rfl) rfl ?_); clear hS a; intro a hS
          refine L_nil ?_
          have hlN2 : l.length ≤ N := by
            rcases Nat.lt_or_ge l.length (N + 1) with h1 | h1
            · omega
            · have := hlN (by omega)
              omega
          refine ⟨(d2 / 10000, l ++ [d2 % 10000], v50), by simp only [List.length_append, List.length_cons, List.length_nil]; omega, ?_, inR_snoc hin (by omega), by simp only; omega, by simp only; omega, by simp only [List.length_append, List.length_cons, List.length_nil]; omega, ?_, ?_⟩
          · simp only [List.length_append, List.length_cons, List.length_nil, Nat.zero_add, e1]
            exact (hS.drop (by repeat (first | exact List.Sublist.refl _ | apply List.Sublist.cons_cons | apply List.Sublist.cons))).slots (by exact ⟨rfl, rfl, rfl, rfl, rfl, trivial⟩)
          · simp only [List.length_append, List.length_cons, List.length_nil, Nat.zero_add]
            intro h1
            have za : gd xs l.length = 0 := by unfold gd; rw [List.getElem?_eq_none (by omega)]; rfl
            have zb : gd ys l.length = 0 := by unfold gd; rw [List.getElem?_eq_none (by omega)]; rfl
            omega
          · simp only [List.length_append, List.length_cons, List.length_nil, Nat.zero_add]
            rw [nv_snoc, hs2, Int.pow_succ]
    ·
      refine L_go hS rfl rfl (s_e hS (e_move rfl) rfl ?_); clear hS a; intro a hS
      refine L_go hS rfl rfl (s_e hS (e_bin rfl rfl rfl) rfl ?_); clear hS a; intro a hS
      first | (refine L_op (s_e hS (e_pick_t rfl rfl) rfl ?_); clear hS a; intro a hS) | (refine L_op (s_e hS (e_pick_f rfl rfl) rfl ?_); clear hS a; intro a hS)
      refine L_nil ?_
      refine n_then ?_
      first | refine c_ifD hS rfl (fun hc22 => ?_) (fun hc22 => ?_) | refine c_if hS rfl (fun hc22 => ?_) (fun hc22 => ?_)
      ·
        refine wp_skip ?_
        refine n_then ?_
        refine c_seq ?_
        refine wp_block ?_
        refine c_seq ?_
        refine c_region ?_
        refine L_op (s_e hS (e_move rfl) rfl ?_); clear hS a; intro a hS
        refine L_op (s_e hS (e_assign rfl) rfl ?_); clear hS a; intro a hS
        refine L_nil ?_
        refine n_then ?_
        refine c_cut (fun a w => ∃ d1 : Int, St 54 noB w0 a w [(8, .int .i64 d1), (0, sliceV p xs.length c1), (1, sliceV q ys.length c2), (5, sv), (6, .int .i64 cy), (7, .int .i64 (l.length : Int))] [ownA 3 1 sv l.length (l.flatMap encD), twoA p q xs ys] ∧ d1 = cy + gd xs l.length) ?_ ?_
        ·
          refine c_seq ?_
          refine c_region ?_
          refine L_op (s_e hS (e_move rfl) rfl ?_); clear hS a; intro a hS
          refine L_op (s_e hS (e_move rfl) rfl ?_); clear hS a; intro a hS
          refine L_op (s_e hS (e_len rfl rfl ty_sl42) rfl ?_); clear hS a; intro a hS
          refine L_op (s_e hS (e_bin rfl rfl rfl) rfl ?_); clear hS a; intro a hS
          refine L_nil ?_
          refine n_then ?_
          first | refine c_ifD hS rfl (fun hc29 => ?_) (fun hc29 => ?_) | refine c_if hS rfl (fun hc29 => ?_) (fun hc29 => ?_)
          ·
            obtain ⟨d, hd⟩ : ∃ d, xs[l.length]? = some d := ⟨xs[l.length]'(by omega), List.getElem?_eq_getElem (by omega)⟩
            obtain ⟨b1, o1, rfl⟩ := two_pos hp (fun e => by rw [e] at hd; cases hd)
            have hgd : gd xs l.length = d := by unfold gd; rw [hd]; rfl
            refine c_region ?_
            refine L_op (s_e hS (e_move rfl) rfl ?_); clear hS a; intro a hS
            refine L_op (s_e hS (e_move rfl) rfl ?_); clear hS a; intro a hS
            refine L_op (s_e hS (e_move rfl) rfl ?_); clear hS a; intro a hS
            refine L_op (s_e hS (e_ixN rfl rfl ty_sl42 ty_sz3 (by omega)) rfl ?_); clear hS a; intro a hS
            refine L_op (s_e hS (e_loadC rfl ty_sc3 (two_l (by repeat (first | exact .head _ | refine .tail _ ?_)) hd)) rfl ?_); clear hS a; intro a hS
            first | (refine L_op (s_e hS (e_binN rfl rfl rfl (by omega)) rfl ?_); clear hS a; intro a hS) | (refine L_op (s_e hS (e_bin rfl rfl rfl) rfl ?_); clear hS a; intro a hS)
            refine L_op (s_e hS (e_assign rfl) rfl ?_); clear hS a; intro a hS
            refine L_nil ?_
            exact ⟨_, hS.slots (by exact ⟨rfl, rfl, rfl, rfl, rfl, rfl, trivial⟩), by omega⟩
          ·
            have hgd : gd xs l.length = 0 := by unfold gd; rw [List.getElem?_eq_none (by omega)]; rfl
            refine wp_skip ?_
            exact ⟨_, hS.slots (by exact ⟨rfl, rfl, rfl, rfl, rfl, rfl, trivial⟩), by omega⟩
        ·
          clear hS a; (try clear w); intro a w hS
          obtain ⟨d1, hS, hd1⟩ := hS
          refine c_cut (fun a w => ∃ d2 : Int, St 54 noB w0 a w [(8, .int .i64 d2), (0, sliceV p xs.length c1), (1, sliceV q ys.length c2), (5, sv), (6, .int .i64 cy), (7, .int .i64 (l.length : Int))] [ownA 3 1 sv l.length (l.flatMap encD), twoA p q xs ys] ∧ d2 = cy + gd xs l.length + gd ys l.length) ?_ ?_
          ·
            refine c_seq ?_
            refine c_region ?_
            refine L_op (s_e hS (e_move rfl) rfl ?_); clear hS a; intro a hS
            refine L_op (s_e hS (e_move rfl) rfl ?_); clear hS a; intro a hS
            refine L_op (s_e hS (e_len rfl rfl ty_sl42) rfl ?_); clear hS a; intro a hS
            refine L_op (s_e hS (e_bin rfl rfl rfl) rfl ?_); clear hS a; intro a hS
            refine L_nil ?_
            refine n_then ?_
            first | refine c_ifD hS rfl (fun hc39 => ?_) (fun hc39 => ?_) | refine c_if hS rfl (fun hc39 => ?_) (fun hc39 => ?_)
            ·
              obtain ⟨d, hd⟩ : ∃ d, ys[l.length]? = some d := ⟨ys[l.length]'(by omega), List.getElem?_eq_getElem (by omega)⟩
              obtain ⟨b2, o2, rfl⟩ := two_pos hq (fun e => by rw [e] at hd; cases hd)
              have hgd : gd ys l.length = d := by unfold gd; rw [hd]; rfl
              refine c_region ?_
              refine L_op (s_e hS (e_move rfl) rfl ?_); clear hS a; intro a hS
              refine L_op (s_e hS (e_move rfl) rfl ?_); clear hS a; intro a hS
              refine L_op (s_e hS (e_move rfl) rfl ?_); clear hS a; intro a hS
              refine L_op (s_e hS (e_ixN rfl rfl ty_sl42 ty_sz3 (by omega)) rfl ?_); clear hS a; intro a hS
              refine L_op (s_e hS (e_loadC rfl ty_sc3 (two_r (by repeat (first | exact .head _ | refine .tail _ ?_)) hd)) rfl ?_); clear hS a; intro a hS
              first | (refine L_op (s_e hS (e_binN rfl rfl rfl (by omega)) rfl ?_); clear hS a; intro a hS) | (refine L_op (s_e hS (e_bin rfl rfl rfl) rfl ?_); clear hS a; intro a hS)
              refine L_op (s_e hS (e_assign rfl) rfl ?_); clear hS a; intro a hS
              refine L_nil ?_
              exact ⟨_, hS.slots (by exact ⟨rfl, rfl, rfl, rfl, rfl, rfl, trivial⟩), by omega⟩
            ·
              have hgd : gd ys l.length = 0 := by unfold gd; rw [List.getElem?_eq_none (by omega)]; rfl
              refine wp_skip ?_
              exact ⟨_, hS.slots (by exact ⟨rfl, rfl, rfl, rfl, rfl, rfl, trivial⟩), by omega⟩
          ·
            clear hS a; (try clear w); intro a w hS
            obtain ⟨d2, hS, hd2⟩ := hS
            have e1 : (l ++ [d2 % 10000]).flatMap encD = l.flatMap encD ++ [.int .i64 (d2 % 10000)] := by simp [encD]
            have hs2 := add_step hsum da db hd2
            refine c_seq ?_
            refine c_region ?_
            refine L_op (s_e hS (e_move rfl) rfl ?_); clear hS a; intro a hS
            refine L_op (s_e hS (e_move rfl) rfl ?_); clear hS a; intro a hS
            first | (refine L_op (s_e hS (e_remN rfl rfl (by omega)) rfl ?_); clear hS a; intro a hS) | (refine L_op (s_e hS (e_rem rfl rfl (by omega)) rfl ?_); clear hS a; intro a hS)
            refine L_op (s_bslice hS ty_sl42 ty_sz3 ty_z3 rfl rfl rfl rfl (.one rfl rfl rfl .nil) rfl ?_); clear hS a; (try clear w); intro a w b49 hS
            refine L_op (s_append1 hS rfl rfl ty_sl42 ty_sz3 ty_by3 ty_z3 rfl rfl rfl (by repeat constructor) (by repeat constructor) (by rfl) (by rfl) (fun _ => (by repeat constructor)) (by omega) ?_); clear hS a; (try clear w); intro v50 a w hv50 hS
            refine L_op (s_e hS (e_assign rfl) rfl ?_); clear hS a; intro a hS
            refine L_nil ?_
            refine n_then ?_
            refine c_region ?_
            refine L_op (s_e hS (e_move rfl) rfl ?_); clear hS a; intro a hS
            first | (refine L_op (s_e hS (e_quoN rfl rfl (by omega)) rfl ?_); clear hS a; intro a hS) | (refine L_op (s_e hS (e_quo rfl rfl (by omega)) rfl ?_); clear hS a; intro a hS)
            refine L_op (s_e hS (e_assign rfl) rfl ?_); clear hS a; intro a hS
            refine L_nil ?_
            refine n_block ?_
            refine n_then ?_
            refine c_region ?_
            refine L_op (s_e hS (e_move rfl) rfl ?_); clear hS a; intro a hS
            first | (refine L_op (s_e hS (e_binN rfl rfl rfl (by omega)) rfl ?_); clear hS a; intro a hS) | (refine L_op (s_e hS (e_bin rfl rfl rfl) rfl ?_); clear hS a; intro a hS)
            refine L_op (s_e hS (e_assign rfl) rfl ?_); clear hS a; intro a hS
            refine L_nil ?_
            have hlN2 : l.length ≤ N := by
              rcases Nat.lt_or_ge l.length (N + 1) with h1 | h1
              · omega
              · have := hlN (by omega)
                omega
            refine ⟨(d2 / 10000, l ++ [d2 % 10000], v50), by simp only [List.length_append, List.length_cons, List.length_nil]; omega, ?_, inR_snoc hin (by omega), by simp only; omega, by simp only; omega, by simp only [List.length_append, List.length_cons, List.length_nil]; omega, ?_, ?_⟩
            · simp only [List.length_append, List.length_cons, List.length_nil, Nat.zero_add, e1]
              exact (hS.drop (by repeat (first | exact List.Sublist.refl _ | apply List.Sublist.cons_cons | apply List.Sublist.cons))).slots (by exact ⟨rfl, rfl, rfl, rfl, rfl, trivial⟩)
            · simp only [List.length_append, List.length_cons, List.length_nil, Nat.zero_add]
              intro h1
              have za : gd xs l.length = 0 := by unfold gd; rw [List.getElem?_eq_none (by omega)]; rfl
              have zb : gd ys l.length = 0 := by unfold gd; rw [List.getElem?_eq_none (by omega)]; rfl
              omega
            · simp only [List.length_append, List.length_cons, List.length_nil, Nat.zero_add]
              rw [nv_snoc, hs2, Int.pow_succ]
      ·
        refine wp_exit ?_
        refine x_then (x_then (x_hit ?_))
        refine n_then ?_
        refine c_seq ?_
        refine c_region ?_
        refine L_op (s_e hS (e_move rfl) rfl ?_); clear hS a; intro a hS
        refine L_op (s_e hS (e_assign rfl) rfl ?_); clear hS a; intro a hS
        refine L_nil ?_
        refine n_then ?_
        refine wp_ret ?_
        refine c_ret1 hS Try.results58 (.tmp rfl) ?_
        refine ⟨⟨(l, sv), hin, ?_, hll⟩, rfl, hS.chg, hS.new (X := ownA 3 1 sv l.length (l.flatMap encD)) (by repeat (first | exact .head _ | refine .tail _ ?_)) rfl⟩
        rw [hsum, List.drop_eq_nil_of_le (by omega), List.drop_eq_nil_of_le (by omega), show cy = 0 by omega]
        simp [nv]

theorem sub_step {S P o c A B a b A' B' x c' : Int} (h : S = o + P * (A - B - c)) (hA : A = a + 10000 * A') (hB : B = b + 10000 * B') (hx : x = a - c - b + 10000 * c') : S = (o + P * x) + P * 10000 * (A' - B' - c') := by
  have e : A - B - c = x + 10000 * (A' - B' - c') := by omega
  rw [h, e, Int.mul_add, Int.mul_assoc]; omega
set_option maxRecDepth 100000 in
theorem sub_P (p q : Option (Nat × Nat)) (c1 c2 : Nat) (xs ys : List Int) (hx : inR xs) (hy : inR ys) (hN : xs.length ≤ 1000000) (hly : ys.length ≤ xs.length) (hle : nv ys ≤ nv xs) (w0 : World) (h : (twoA p q xs ys).ok w0) :
    NewC Try.prog 60 [sliceV p xs.length c1, sliceV q ys.length c2] w0 (fun r : { r : Digs // inR r.1 ∧ nv r.1 = nv xs - nv ys ∧ r.1.length ≤ xs.length } => r.1.2) (fun r => digA r.1) := by
  have hp := h.now.1
  have hq := h.now.2
  refine c_enter [(0, sliceV p xs.length c1), (1, sliceV q ys.length c2)] [twoA p q xs ys] noB Try.func60 rfl Try.ntmps60 ⟨rfl, rfl, trivial⟩ rfl (by intro X hX; obtain rfl := List.mem_singleton.1 hX; exact h) (by simp) (by intro X hX hm; obtain rfl := List.mem_singleton.1 hX; cases hm) ?_
  intro a hS
  refine c_seq ?_
  refine c_region ?_
  refine L_op (s_e hS (e_assign rfl) rfl ?_); clear hS a; intro a hS
  refine L_nil ?_
  refine n_then ?_
  refine c_seq ?_
  refine c_region ?_
  refine L_op (s_e hS (e_assign rfl) rfl ?_); clear hS a; intro a hS
  refine L_nil ?_
  refine n_then ?_
  refine c_seq ?_
  refine c_region ?_
  refine L_op (s_e hS (e_assign rfl) rfl ?_); clear hS a; intro a hS
  refine L_nil ?_
  refine n_then ?_
  refine c_seq ?_
  refine c_seq ?_
  refine c_region ?_
  refine L_op (s_e hS (e_assign rfl) rfl ?_); clear hS a; intro a hS
  refine L_nil ?_
  refine n_then ?_
  refine wp_block ?_
  skip
  refine c_loop (γ := (Int × List Int × Value)) (fun G a w => St 40 noB w0 a w [(0, sliceV p xs.length c1), (1, sliceV q ys.length c2), (5, G.2.2), (6, .int .i64 G.1), (7, .int .i64 (G.2.1.length : Int))] [ownA 3 1 G.2.2 G.2.1.length (G.2.1.flatMap encD), twoA p q xs ys] ∧ inR G.2.1 ∧ 0 ≤ G.1 ∧ G.1 ≤ 1 ∧ G.2.1.length ≤ xs.length ∧ nv xs - nv ys = nv G.2.1 + 10000 ^ G.2.1.length * (nv (xs.drop G.2.1.length) - nv (ys.drop G.2.1.length) - G.1)) (fun G => xs.length - G.2.1.length) (0, [], .slice none 0 0) ⟨(hS.own_nil 3 1).slots ⟨rfl, rfl, rfl, rfl, rfl, trivial⟩, (by intro d hd; cases hd), by decide, by decide, Nat.zero_le _, by simp [nv]⟩ ?_
  clear hS a; (try clear w); intro G a w hI
  obtain ⟨cy, l, sv⟩ := G
  obtain ⟨hS, hin, hc0, hc1, hll, hsum⟩ := hI
  simp only at hS hin hc0 hc1 hll hsum
  have ga := gd_in hx l.length
  have gb := gd_in hy l.length
  have da := nv_drop xs l.length
  have db := nv_drop ys l.length
  refine c_seq ?_
  refine c_seq ?_
  refine c_region ?_
  refine L_op (s_e hS (e_move rfl) rfl ?_); clear hS a; intro a hS
  refine L_op (s_e hS (e_move rfl) rfl ?_); clear hS a; intro a hS
  refine L_op (s_e hS (e_len rfl rfl ty_sl42) rfl ?_); clear hS a; intro a hS
  refine L_op (s_e hS (e_bin rfl rfl rfl) rfl ?_); clear hS a; intro a hS
  refine L_nil ?_
  refine n_then ?_
  first | refine c_ifD hS rfl (fun hc12 => ?_) (fun hc12 => ?_) | refine c_if hS rfl (fun hc12 => ?_) (fun hc12 => ?_)
  ·
    obtain ⟨d, hd⟩ : ∃ d, xs[l.length]? = some d := ⟨xs[l.length]'(by omega), List.getElem?_eq_getElem (by omega)⟩
    obtain ⟨b1, o1, rfl⟩ := two_pos hp (fun e => by rw [e] at hd; cases hd)
    have hga : gd xs l.length = d := by unfold gd; rw [hd]; rfl
    refine wp_skip ?_
    refine n_then ?_
    refine c_seq ?_
    refine wp_block ?_
    refine c_seq ?_
    refine c_region ?_
    refine L_op (s_e hS (e_move rfl) rfl ?_); clear hS a; intro a hS
    refine L_op (s_e hS (e_move rfl) rfl ?_); clear hS a; intro a hS
    refine L_op (s_e hS (e_ixN rfl rfl ty_sl42 ty_sz3 (by omega)) rfl ?_); clear hS a; intro a hS
    refine L_op (s_e hS (e_loadC rfl ty_sc3 (two_l (by repeat (first | exact .head _ | refine .tail _ ?_)) hd)) rfl ?_); clear hS a; intro a hS
    refine L_op (s_e hS (e_move rfl) rfl ?_); clear hS a; intro a hS
    first | (refine L_op (s_e hS (e_binN rfl rfl rfl (by omega)) rfl ?_); clear hS a; intro a hS) | (refine L_op (s_e hS (e_bin rfl rfl rfl) rfl ?_); clear hS a; intro a hS)
    refine L_op (s_e hS (e_assign rfl) rfl ?_); clear hS a; intro a hS
    refine L_nil ?_
    refine n_then ?_
    refine c_cut (fun a w => ∃ d1 : Int, St 40 noB w0 a w [(8, .int .i64 d1), (0, sliceV (some (b1, o1)) xs.length c1), (1, sliceV q ys.length c2), (5, sv), (6, .int .i64 cy), (7, .int .i64 (l.length : Int))] [ownA 3 1 sv l.length (l.flatMap encD), twoA (some (b1, o1)) q xs ys] ∧ d1 = gd xs l.length - cy - gd ys l.length) ?_ ?_
    ·
      refine c_seq ?_
      refine c_region ?_
      refine L_op (s_e hS (e_move rfl) rfl ?_); clear hS a; intro a hS
      refine L_op (s_e hS (e_move rfl) rfl ?_); clear hS a; intro a hS
      refine L_op (s_e hS (e_len rfl rfl ty_sl42) rfl ?_); clear hS a; intro a hS
      refine L_op (s_e hS (e_bin rfl rfl rfl) rfl ?_); clear hS a; intro a hS
      refine L_nil ?_
      refine n_then ?_
      first | refine c_ifD hS rfl (fun hc24 => ?_) (fun hc24 => ?_) | refine c_if hS rfl (fun hc24 => ?_) (fun hc24 => ?_)
      ·
        obtain ⟨e, he⟩ : ∃ d, ys[l.length]? = some d := ⟨ys[l.length]'(by omega), List.getElem?_eq_getElem (by omega)⟩
        obtain ⟨b2, o2, rfl⟩ := two_pos hq (fun e => by rw [e] at he; cases he)
        have hgd : gd ys l.length = e := by unfold gd; rw [he]; rfl
        refine c_region ?_
        refine L_op (s_e hS (e_move rfl) rfl ?_); clear hS a; intro a hS
        refine L_op (s_e hS (e_move rfl) rfl ?_); clear hS a; intro a hS
        refine L_op (s_e hS (e_move rfl) rfl ?_); clear hS a; intro a hS
        refine L_op (s_e hS (e_ixN rfl rfl ty_sl42 ty_sz3 (by omega)) rfl ?_); clear hS a; intro a hS
        refine L_op (s_e hS (e_loadC rfl ty_sc3 (two_r (by repeat (first | exact .head _ | refine .tail _ ?_)) he)) rfl ?_); clear hS a; intro a hS
        first | (refine L_op (s_e hS (e_binN rfl rfl rfl (by omega)) rfl ?_); clear hS a; intro a hS) | (refine L_op (s_e hS (e_bin rfl rfl rfl) rfl ?_); clear hS a; intro a hS)
        refine L_op (s_e hS (e_assign rfl) rfl ?_); clear hS a; intro a hS
        refine L_nil ?_
        exact ⟨_, hS.slots (by exact ⟨rfl, rfl, rfl, rfl, rfl, rfl, trivial⟩), by omega⟩
      ·
        have hgd : gd ys l.length = 0 := by unfold gd; rw [List.getElem?_eq_none (by omega)]; rfl
        refine wp_skip ?_
        exact ⟨_, hS.slots (by exact ⟨rfl, rfl, rfl, rfl, rfl, rfl, trivial⟩), by omega⟩
    ·
      clear hS a; (try clear w); intro a w hS
      obtain ⟨d1, hS, hd1⟩ := hS
      refine c_seq ?_
      refine c_region ?_
      refine L_op (s_e hS (e_assign rfl) rfl ?_); clear hS a; intro a hS
      refine L_nil ?_
      refine n_then ?_
      refine c_cut (fun a w => ∃ d2 c' : Int, St 40 noB w0 a w [(8, .int .i64 d2), (0, sliceV (some (b1, o1)) xs.length c1), (1, sliceV q ys.length c2), (5, sv), (6, .int .i64 c'), (7, .int .i64 (l.length : Int))] [ownA 3 1 sv l.length (l.flatMap encD), twoA (some (b1, o1)) q xs ys] ∧ (0 ≤ d2 ∧ d2 ≤ 9999) ∧ (0 ≤ c' ∧ c' ≤ 1) ∧ d2 = gd xs l.length - cy - gd ys l.length + 10000 * c') ?_ ?_
      ·
        refine c_seq ?_
        refine c_region ?_
        refine L_op (s_e hS (e_move rfl) rfl ?_); clear hS a; intro a hS
        refine L_op (s_e hS (e_bin rfl rfl rfl) rfl ?_); clear hS a; intro a hS
        refine L_nil ?_
        refine n_then ?_
        first | refine c_ifD hS rfl (fun hc32 => ?_) (fun hc32 => ?_) | refine c_if hS rfl (fun hc32 => ?_) (fun hc32 => ?_)
        ·
          refine c_seq ?_
          refine c_region ?_
          refine L_op (s_e hS (e_move rfl) rfl ?_); clear hS a; intro a hS
          first | (refine L_op (s_e hS (e_binN rfl rfl rfl (by omega)) rfl ?_); clear hS a; intro a hS) | (refine L_op (s_e hS (e_bin rfl rfl rfl) rfl ?_); clear hS a; intro a hS)
          refine L_op (s_e hS (e_assign rfl) rfl ?_); clear hS a; intro a hS
          refine L_nil ?_
          refine n_then ?_
          refine c_region ?_
          refine L_op (s_e hS (e_assign rfl) rfl ?_); clear hS a; intro a hS
          refine L_nil ?_
          exact ⟨_, _, hS.slots (by exact ⟨rfl, rfl, rfl, rfl, rfl, rfl, trivial⟩), by omega, by decide, by omega⟩
        ·
          refine wp_skip ?_
          exact ⟨_, _, hS.slots (by exact ⟨rfl, rfl, rfl, rfl, rfl, rfl, trivial⟩), by omega, by decide, by omega⟩
      ·
        clear hS a; (try clear w); intro a w hS
        obtain ⟨d2, c', hS, hb2, hbc, hd2⟩ := hS
        have e1 : (l ++ [d2]).flatMap encD = l.flatMap encD ++ [.int .i64 d2] := by simp [encD]
        have hs2 := sub_step hsum da db hd2
        refine c_region ?_
        refine L_op (s_e hS (e_move rfl) rfl ?_); clear hS a; intro a hS
        refine L_op (s_e hS (e_move rfl) rfl ?_); clear hS a; intro a hS
        refine L_op (s_bslice hS ty_sl42 ty_sz3 ty_z3 rfl rfl rfl rfl (.one rfl rfl rfl .nil) rfl ?_); clear hS a; (try clear w); intro a w b37 hS
        refine L_op (s_append1 hS rfl rfl ty_sl42 ty_sz3 ty_by3 ty_z3 rfl rfl rfl (by repeat constructor) (by repeat constructor) (by rfl) (by rfl) (fun _ => (by repeat constructor)) (by omega) ?_); clear hS a; (try clear w); intro v38 a w hv38 hS
        refine L_op (s_e hS (e_assign rfl) rfl ?_); clear hS a; intro a hS
        refine L_nil ?_
        refine n_block ?_
        refine n_then ?_
        refine c_region ?_
        refine L_op (s_e hS (e_move rfl) rfl ?_); clear hS a; intro a hS
        first | (refine L_op (s_e hS (e_binN rfl rfl rfl (by omega)) rfl ?_); clear hS a; intro a hS) | (refine L_op (s_e hS (e_bin rfl rfl rfl) rfl ?_); clear hS a; intro a hS)
        refine L_op (s_e hS (e_assign rfl) rfl ?_); clear hS a; intro a hS
        refine L_nil ?_
        refine ⟨(c', l ++ [d2], v38), by simp only [List.length_append, List.length_cons, List.length_nil]; omega, ?_, inR_snoc hin hb2, hbc.1, hbc.2, by simp only [List.length_append, List.length_cons, List.length_nil]; omega, ?_⟩
        · simp only [List.length_append, List.length_cons, List.length_nil, Nat.zero_add, e1]
          exact (hS.drop (by repeat (first | exact List.Sublist.refl _ | apply List.Sublist.cons_cons | apply List.Sublist.cons))).slots (by exact ⟨rfl, rfl, rfl, rfl, rfl, trivial⟩)
        · simp only [List.length_append, List.length_cons, List.length_nil, Nat.zero_add]
          rw [nv_snoc, hs2, Int.pow_succ]
  ·
    refine wp_exit ?_
    refine x_then (x_then (x_hit ?_))
    refine n_then ?_
    refine c_seq ?_
    refine c_region ?_
    refine L_op (s_e hS (e_move rfl) rfl ?_); clear hS a; intro a hS
    refine L_op (s_e hS (e_assign rfl) rfl ?_); clear hS a; intro a hS
    refine L_nil ?_
    refine n_then ?_
    refine wp_ret ?_
    refine c_ret1 hS Try.results60 (.tmp rfl) ?_
    refine ⟨⟨(l, sv), hin, ?_, hll⟩, rfl, hS.chg, hS.new (X := ownA 3 1 sv l.length (l.flatMap encD)) (by repeat (first | exact .head _ | refine .tail _ ?_)) rfl⟩
    rw [List.drop_eq_nil_of_le (show xs.length ≤ l.length by omega), List.drop_eq_nil_of_le (show ys.length ≤ l.length by omega)] at hsum
    have h1 := nv_lt hin
    simp only [nv, Int.sub_self, Int.zero_sub] at hsum
    have h2 : cy = 0 := by
      rcases (show cy = 0 ∨ cy = 1 by omega) with h2 | rfl
      · exact h2
      · rw [Int.mul_neg, Int.mul_one] at hsum; omega
    subst h2
    simp only [Int.neg_zero, Int.mul_zero, Int.add_zero] at hsum
    exact hsum.symm
end Go.Proofs.Ytheofhegdjjfgaa
