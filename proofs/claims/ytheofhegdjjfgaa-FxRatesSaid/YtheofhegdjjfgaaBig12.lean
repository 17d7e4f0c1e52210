/- Numbers by digits in base 10000, walked: sums without 0 at the top, BigEven. -/
import Derived.Test.YtheofhegdjjfgaaBig11
import Derived.Test.YtheofhegdjjfgaaSe8
import Derived.Test.YtheofhegdjjfgaaWdQ
namespace Go.Proofs.Ytheofhegdjjfgaa
open Go.RowKit

theorem nv_inj {l r : List Int} (hl : inR l) (hr : inR r) (hlen : l.length = r.length) (h : nv l = nv r) : l = r := by
  induction l generalizing r with
  | nil => cases r with
    | nil => rfl
    | cons d r => simp at hlen
  | cons d l ih => cases r with
    | nil => simp at hlen
    | cons e r =>
      have h1 := hl d (.head _)
      have h2 := hr e (.head _)
      rw [nv, nv] at h
      have e1 : d = e := by omega
      have e2 : nv l = nv r := by omega
      rw [e1, ih (inR_tail hl) (inR_tail hr) (by simpa using hlen) e2]
set_option maxRecDepth 100000 in
theorem addN_P (p q : Option (Nat × Nat)) (c1 c2 : Nat) (xs ys : List Int) (hx : inR xs) (hy : inR ys) (N : Nat) (hN : N ≤ 1000000) (hlx : xs.length ≤ N) (hly : ys.length ≤ N) (w0 : World) (h : (twoA p q xs ys).ok w0) :
    NewC Try.prog 58 [sliceV p xs.length c1, sliceV q ys.length c2] w0 (fun r : { r : Digs // inR r.1 ∧ nv r.1 = nv xs + nv ys ∧ r.1.length ≤ N + 1 ∧ (r.1.length ≤ N ∨ ∃ s d, r.1 = s ++ [d] ∧ d ≠ 0) } => r.1.2) (fun r => digA r.1) := by
  have hp := h.now.1
  have hq := h.now.2
  refine c_enter [(0, sliceV p xs.length c1), (1, sliceV q ys.length c2)] [twoA p q xs ys] noB Try.func58 rfl Try.ntmps58 ⟨rfl, rfl, trivial⟩ rfl (by intro X hX; obtain rfl := List.mem_singleton.1 hX; exact h) (by simp) (by intro X hX hm; obtain rfl := List.mem_singleton.1 hX; cases hm) ?_
  intro a hS
  refine c_seq ?_
  refine c_region ?_
  refine L_op (s_e hS (e_assign rfl) rfl ?_); clear hS a; intro a hS
  refine L_nil ?_
  refine n_then ?_
  refine c_seq ?_
  refine c_region ?_
  refine L_op (s_e hS (e_assign rfl) rfl ?_); clear hS a; intro a hS
  refine L_nil ?_
  refine n_then ?_
  refine c_seq ?_
  refine c_region ?_
  refine L_op (s_e hS (e_assign rfl) rfl ?_); clear hS a; intro a hS
  refine L_nil ?_
  refine n_then ?_
  refine c_seq ?_
  refine c_seq ?_
  refine c_region ?_
  refine L_op (s_e hS (e_assign rfl) rfl ?_); clear hS a; intro a hS
  refine L_nil ?_
  refine n_then ?_
  refine wp_block ?_
  skip
  refine c_loop (γ := (Int × List Int × Value)) (fun G a w => St 54 noB w0 a w [(0, sliceV p xs.length c1), (1, sliceV q ys.length c2), (5, G.2.2), (6, .int .i64 G.1), (7, .int .i64 (G.2.1.length : Int))] [ownA 3 1 G.2.2 G.2.1.length (G.2.1.flatMap encD), twoA p q xs ys] ∧ inR G.2.1 ∧ 0 ≤ G.1 ∧ G.1 ≤ 1 ∧ G.2.1.length ≤ N + 1 ∧ (G.2.1.length = N + 1 → G.1 = 0) ∧ (G.2.1.length ≤ N ∨ ∃ s d, G.2.1 = s ++ [d] ∧ d ≠ 0) ∧ nv xs + nv ys = nv G.2.1 + 10000 ^ G.2.1.length * (G.1 + nv (xs.drop G.2.1.length) + nv (ys.drop G.2.1.length))) (fun G => N + 2 - G.2.1.length) (0, [], .slice none 0 0) ⟨(hS.own_nil 3 1).slots ⟨rfl, rfl, rfl, rfl, rfl, trivial⟩, (by intro d hd; cases hd), by decide, by decide, Nat.zero_le _, fun _ => rfl, .inl (Nat.zero_le _), by simp [nv]⟩ ?_
  clear hS a; (try clear w); intro G a w hI
  obtain ⟨cy, l, sv⟩ := G
  obtain ⟨hS, hin, hc0, hc1, hll, hlN, htop, hsum⟩ := hI
  simp only at hS hin hc0 hc1 hll hlN hsum
  have ga := gd_in hx l.length
  have gb := gd_in hy l.length
  have da := nv_drop xs l.length
  have db := nv_drop ys l.length
  refine c_seq ?_
  refine c_seq ?_
  refine c_region ?_
  refine L_op (s_e hS (e_move rfl) rfl ?_); clear hS a; intro a hS
  refine L_op (s_e hS (e_move rfl) rfl ?_); clear hS a; intro a hS
  refine L_op (s_e hS (e_len rfl rfl ty_sl42) rfl ?_); clear hS a; intro a hS
  refine L_op (s_e hS (e_bin rfl rfl rfl) rfl ?_); clear hS a; intro a hS
  refine L_op (s_e hS (e_move rfl) rfl ?_); clear hS a; intro a hS
  (first | refine g_splitD (t := 13) hS rfl ?_ ?_ | refine g_split (t := 13) hS rfl ?_ ?_) <;> (clear hS; intro hg13 hS)
  ·
    refine L_skip_f hS rfl rfl rfl ?_; clear hS a; intro a hS
    refine L_skip_f hS rfl rfl rfl ?_; clear hS a; intro a hS
    refine L_skip_f hS rfl rfl rfl ?_; clear hS a; intro a hS
    refine L_skip_f hS rfl rfl rfl ?_; clear hS a; intro a hS
    first | (refine L_op (s_e hS (e_pick_t rfl rfl) rfl ?_); clear hS a; intro a hS) | (refine L_op (s_e hS (e_pick_f rfl rfl) rfl ?_); clear hS a; intro a hS)
    refine L_op (s_e hS (e_move rfl) rfl ?_); clear hS a; intro a hS
    refine L_skip_f hS rfl rfl rfl ?_; clear hS a; intro a hS
    refine L_skip_f hS rfl rfl rfl ?_; clear hS a; intro a hS
    first | (refine L_op (s_e hS (e_pick_t rfl rfl) rfl ?_); clear hS a; intro a hS) | (refine L_op (s_e hS (e_pick_f rfl rfl) rfl ?_); clear hS a; intro a hS)
    refine L_nil ?_
    refine n_then ?_
    refine c_if_t hS rfl ?_
    refine wp_skip ?_
    refine n_then ?_
    refine c_seq ?_
    refine wp_block ?_
    refine c_seq ?_
    refine c_region ?_
    refine L_op (s_e hS (e_move rfl) rfl ?_); clear hS a; intro a hS
    refine L_op (s_e hS (e_assign rfl) rfl ?_); clear hS a; intro a hS
    refine L_nil ?_
    refine n_then ?_
    refine c_cut (fun a w => ∃ d1 : Int, St 54 noB w0 a w [(8, .int .i64 d1), (0, sliceV p xs.length c1), (1, sliceV q ys.length c2), (5, sv), (6, .int .i64 cy), (7, .int .i64 (l.length : Int))] [ownA 3 1 sv l.length (l.flatMap encD), twoA p q xs ys] ∧ d1 = cy + gd xs l.length) ?_ ?_
    ·
      refine c_seq ?_
      refine c_region ?_
      refine L_op (s_e hS (e_move rfl) rfl ?_); clear hS a; intro a hS
      refine L_op (s_e hS (e_move rfl) rfl ?_); clear hS a; intro a hS
      refine L_op (s_e hS (e_len rfl rfl ty_sl42) rfl ?_); clear hS a; intro a hS
      refine L_op (s_e hS (e_bin rfl rfl rfl) rfl ?_); clear hS a; intro a hS
      refine L_nil ?_
      refine n_then ?_
      first | refine c_ifD hS rfl (fun hc29 => ?_) (fun hc29 => ?_) | refine c_if hS rfl (fun hc29 => ?_) (fun hc29 => ?_)
      ·
        obtain ⟨d, hd⟩ : ∃ d, xs[l.length]? = some d := ⟨xs[l.length]'(by omega), List.getElem?_eq_getElem (by omega)⟩
        obtain ⟨b1, o1, rfl⟩ := two_pos hp (fun e => by rw [e] at hd; cases hd)
        have hgd : gd xs l.length = d := by unfold gd; rw [hd]; rfl
        refine c_region ?_
        refine L_op (s_e hS (e_move rfl) rfl ?_); clear hS a; intro a hS
        refine L_op (s_e hS (e_move rfl) rfl ?_); clear hS a; intro a hS
        refine L_op (s_e hS (e_move rfl) rfl ?_); clear hS a; intro a hS
        refine L_op (s_e hS (e_ixN rfl rfl ty_sl42 ty_sz3 (by omega)) rfl ?_); clear hS a; intro a hS
        refine L_op (s_e hS (e_loadC rfl ty_sc3 (two_l (by repeat (first | exact .head _ | refine .tail _ ?_)) hd)) rfl ?_); clear hS a; intro a hS
        first | (refine L_op (s_e hS (e_binN rfl rfl rfl (by omega)) rfl ?_); clear hS a; intro a hS) | (refine L_op (s_e hS (e_bin rfl rfl rfl) rfl ?_); clear hS a; intro a hS)
        refine L_op (s_e hS (e_assign rfl) rfl ?_); clear hS a; intro a hS
        refine L_nil ?_
        exact ⟨_, hS.slots (by exact ⟨rfl, rfl, rfl, rfl, rfl, rfl, trivial⟩), by omega⟩
      ·
        have hgd : gd xs l.length = 0 := by unfold gd; rw [List.getElem?_eq_none (by omega)]; rfl
        refine wp_skip ?_
        exact ⟨_, hS.slots (by exact ⟨rfl, rfl, rfl, rfl, rfl, rfl, trivial⟩), by omega⟩
    ·
      clear hS a; (try clear w); intro a w hS
      obtain ⟨d1, hS, hd1⟩ := hS
      refine c_cut (fun a w => ∃ d2 : Int, St 54 noB w0 a w [(8, .int .i64 d2), (0, sliceV p xs.length c1), (1, sliceV q ys.length c2), (5, sv), (6, .int .i64 cy), (7, .int .i64 (l.length : Int))] [ownA 3 1 sv l.length (l.flatMap encD), twoA p q xs ys] ∧ d2 = cy + gd xs l.length + gd ys l.length) ?_ ?_
      ·
        refine c_seq ?_
        refine c_region ?_
        refine L_op (s_e hS (e_move rfl) rfl ?_); clear hS a; intro a hS
        refine L_op (s_e hS (e_move rfl) rfl ?_); clear hS a; intro a hS
        refine L_op (s_e hS (e_len rfl rfl ty_sl42) rfl ?_); clear hS a; intro a hS
        refine L_op (s_e hS (e_bin rfl rfl rfl) rfl ?_); clear hS a; intro a hS
        refine L_nil ?_
        refine n_then ?_
        first | refine c_ifD hS rfl (fun hc39 => ?_) (fun hc39 => ?_) | refine c_if hS rfl (fun hc39 => ?_) (fun hc39 => ?_)
        ·
          obtain ⟨d, hd⟩ : ∃ d, ys[l.length]? = some d := ⟨ys[l.length]'(by omega), List.getElem?_eq_getElem (by omega)⟩
          obtain ⟨b2, o2, rfl⟩ := two_pos hq (fun e => by rw [e] at hd; cases hd)
          have hgd : gd ys l.length = d := by unfold gd; rw [hd]; rfl
          refine c_region ?_
          refine L_op (s_e hS (e_move rfl) rfl ?_); clear hS a; intro a hS
          refine L_op (s_e hS (e_move rfl) rfl ?_); clear hS a; intro a hS
          refine L_op (s_e hS (e_move rfl) rfl ?_); clear hS a; intro a hS
          refine L_op (s_e hS (e_ixN rfl rfl ty_sl42 ty_sz3 (by omega)) rfl ?_); clear hS a; intro a hS
          refine L_op (s_e hS (e_loadC rfl ty_sc3 (two_r (by repeat (first | exact .head _ | refine .tail _ ?_)) hd)) rfl ?_); clear hS a; intro a hS
          first | (refine L_op (s_e hS (e_binN rfl rfl rfl (by omega)) rfl ?_); clear hS a; intro a hS) | (refine L_op (s_e hS (e_bin rfl rfl rfl) rfl ?_); clear hS a; intro a hS)
          refine L_op (s_e hS (e_assign rfl) rfl ?_); clear hS a; intro a hS
          refine L_nil ?_
          exact ⟨_, hS.slots (by exact ⟨rfl, rfl, rfl, rfl, rfl, rfl, trivial⟩), by omega⟩
        ·
          have hgd : gd ys l.length = 0 := by unfold gd; rw [List.getElem?_eq_none (by omega)]; rfl
          refine wp_skip ?_
          exact ⟨_, hS.slots (by exact ⟨rfl, rfl, rfl, rfl, rfl, rfl, trivial⟩), by omega⟩
      ·
        clear hS a; (try clear w); intro a w hS
        obtain ⟨d2, hS, hd2⟩ := hS
        have e1 : (l ++ [d2 % 10000]).flatMap encD = l.flatMap encD ++ [.int .i64 (d2 % 10000)] := by simp [encD]
        have hs2 := add_step hsum da db hd2
        refine c_seq ?_
        refine c_region ?_
        refine L_op (s_e hS (e_move rfl) rfl ?_); clear hS a; intro a hS
        refine L_op (s_e hS (e_move rfl) rfl ?_); clear hS a; intro a hS
        first | (refine L_op (s_e hS (e_remN rfl rfl (by omega)) rfl ?_); clear hS a; intro a hS) | (refine L_op (s_e hS (e_rem rfl rfl (by omega)) rfl ?_); clear hS a; intro a hS)
        refine L_op (s_bslice hS ty_sl42 ty_sz3 ty_z3 rfl rfl rfl rfl (.one rfl rfl rfl .nil) rfl ?_); clear hS a; (try clear w); intro a w b49 hS
        refine L_op (s_append1 hS rfl rfl ty_sl42 ty_sz3 ty_by3 ty_z3 rfl rfl rfl (by repeat constructor) (by repeat constructor) (by rfl) (by rfl) (fun _ => (by repeat constructor)) (by omega) ?_); clear hS a; (try clear w); intro v50 a w hv50 hS
        refine L_op (s_e hS (e_assign rfl) rfl ?_); clear hS a; intro a hS
        refine L_nil ?_
        refine n_then ?_
        refine c_region ?_
        refine L_op (s_e hS (e_move rfl) rfl ?_); clear hS a; intro a hS
        first | (refine L_op (s_e hS (e_quoN rfl rfl (by omega)) rfl ?_); clear hS a; intro a hS) | (refine L_op (s_e hS (e_quo rfl rfl (by omega)) rfl ?_); clear hS a; intro a hS)
        refine L_op (s_e hS (e_assign rfl) rfl ?_); clear hS a; intro a hS
        refine L_nil ?_
        refine n_block ?_
        refine n_then ?_
        refine c_region ?_
        refine L_op (s_e hS (e_move rfl) rfl ?_); clear hS a; intro a hS
        first | (refine L_op (s_e hS (e_binN rfl rfl rfl (by omega)) rfl ?_); clear hS a; intro a hS) | (refine L_op (s_e hS (e_bin rfl rfl rfl) rfl ?_); clear hS a; intro a hS)
        refine L_op (s_e hS (e_assign rfl) rfl ?_); clear hS a; intro a hS
        refine L_nil ?_
        have hlN2 : l.length ≤ N := by
          rcases Nat.lt_or_ge l.length (N + 1) with h1 | h1
          · omega
          · have := hlN (by omega)
            omega
        refine ⟨(d2 / 10000, l ++ [d2 % 10000], v50), by simp only [List.length_append, List.length_cons, List.length_nil]; omega, ?_, inR_snoc hin (by omega), by simp only; omega, by simp only; omega, by simp only [List.length_append, List.length_cons, List.length_nil]; omega, ?_, ?_, ?_⟩
        · simp only [List.length_append, List.length_cons, List.length_nil, Nat.zero_add, e1]
          exact (hS.drop (by repeat (first | exact List.Sublist.refl _ | apply List.Sublist.cons_cons | apply List.Sublist.cons))).slots (by exact ⟨rfl, rfl, rfl, rfl, rfl, trivial⟩)
        · simp only [List.length_append, List.length_cons, List.length_nil, Nat.zero_add]
          intro h1
          have za : gd xs l.length = 0 := by unfold gd; rw [List.getElem?_eq_none (by omega)]; rfl
          have zb : gd ys l.length = 0 := by unfold gd; rw [List.getElem?_eq_none (by omega)]; rfl
          omega
        · simp only [List.length_append, List.length_cons, List.length_nil, Nat.zero_add]
          by_cases h1 : l.length < N
          · exact .inl h1
          · refine .inr ⟨l, _, rfl, ?_⟩
            have za : gd xs l.length = 0 := by unfold gd; rw [List.getElem?_eq_none (by omega)]; rfl
            have zb : gd ys l.length = 0 := by unfold gd; rw [List.getElem?_eq_none (by omega)]; rfl
            omega
        · simp only [List.length_append, List.length_cons, List.length_nil, Nat.zero_add]
          rw [nv_snoc, hs2, Int.pow_succ]
  ·
    refine L_go hS rfl rfl (s_e hS (e_move rfl) rfl ?_); clear hS a; intro a hS
    refine L_go hS rfl rfl (s_e hS (e_move rfl) rfl ?_); clear hS a; intro a hS
    refine L_go hS rfl rfl (s_e hS (e_len rfl rfl ty_sl42) rfl ?_); clear hS a; intro a hS
    refine L_go hS rfl rfl (s_e hS (e_bin rfl rfl rfl) rfl ?_); clear hS a; intro a hS
    first | (refine L_op (s_e hS (e_pick_t rfl rfl) rfl ?_); clear hS a; intro a hS) | (refine L_op (s_e hS (e_pick_f rfl rfl) rfl ?_); clear hS a; intro a hS)
    refine L_op (s_e hS (e_move rfl) rfl ?_); clear hS a; intro a hS
    (first | refine g_splitD (t := 19) hS rfl ?_ ?_ | refine g_split (t := 19) hS rfl ?_ ?_) <;> (clear hS; intro hg19 hS)
    ·
      refine L_skip_f hS rfl rfl rfl ?_; clear hS a; intro a hS
      refine L_skip_f hS rfl rfl rfl ?_; clear hS a; intro a hS
      first | (refine L_op (s_e hS (e_pick_t rfl rfl) rfl ?_); clear hS a; intro a hS) | (refine L_op (s_e hS (e_pick_f rfl rfl) rfl ?_); clear hS a; intro a hS)
      refine L_nil ?_
      refine n_then ?_
      refine c_if_t hS rfl ?_
      refine wp_skip ?_
      refine n_then ?_
      refine c_seq ?_
      refine wp_block ?_
      refine c_seq ?_
      refine c_region ?_
      refine L_op (s_e hS (e_move rfl) rfl ?_); clear hS a; intro a hS
      refine L_op (s_e hS (e_assign rfl) rfl ?_); clear hS a; intro a hS
      refine L_nil ?_
      refine n_then ?_
      refine c_cut (fun a w => ∃ d1 : Int, St 54 noB w0 a w [(8, .int .i64 d1), (0, sliceV p xs.length c1), (1, sliceV q ys.length c2), (5, sv), (6, .int .i64 cy), (7, .int .i64 (l.length : Int))] [ownA 3 1 sv l.length (l.flatMap encD), twoA p q xs ys] ∧ d1 = cy + gd xs l.length) ?_ ?_
      ·
        refine c_seq ?_
        refine c_region ?_
        refine L_op (s_e hS (e_move rfl) rfl ?_); clear hS a; intro a hS
        refine L_op (s_e hS (e_move rfl) rfl ?_); clear hS a; intro a hS
        refine L_op (s_e hS (e_len rfl rfl ty_sl42) rfl ?_); clear hS a; intro a hS
        refine L_op (s_e hS (e_bin rfl rfl rfl) rfl ?_); clear hS a; intro a hS
        refine L_nil ?_
        refine n_then ?_
        first | refine c_ifD hS rfl (fun hc29 => ?_) (fun hc29 => ?_) | refine c_if hS rfl (fun hc29 => ?_) (fun hc29 => ?_)
        ·
          obtain ⟨d, hd⟩ : ∃ d, xs[l.length]? = some d := ⟨xs[l.length]'(by omega), List.getElem?_eq_getElem (by omega)⟩
          obtain ⟨b1, o1, rfl⟩ := two_pos hp (fun e => by rw [e] at hd; cases hd)
          have hgd : gd xs l.length = d := by unfold gd; rw [hd]; rfl
          refine c_region ?_
          refine L_op (s_e hS (e_move rfl) rfl ?_); clear hS a; intro a hS
          refine L_op (s_e hS (e_move rfl) rfl ?_); clear hS a; intro a hS
          refine L_op (s_e hS (e_move rfl) rfl ?_); clear hS a; intro a hS
          refine L_op (s_e hS (e_ixN rfl rfl ty_sl42 ty_sz3 (by omega)) rfl ?_); clear hS a; intro a hS
          refine L_op (s_e hS (e_loadC rfl ty_sc3 (two_l (by repeat (first | exact .head _ | refine .tail _ ?_)) hd)) rfl ?_); clear hS a; intro a hS
          first | (refine L_op (s_e hS (e_binN rfl rfl rfl (by omega)) rfl ?_); clear hS a; intro a hS) | (refine L_op (s_e hS (e_bin rfl rfl rfl) rfl ?_); clear hS a; intro a hS)
          refine L_op (s_e hS (e_assign rfl) rfl ?_); clear hS a; intro a hS
          refine L_nil ?_
          exact ⟨_, hS.slots (by exact ⟨rfl, rfl, rfl, rfl, rfl, rfl, trivial⟩), by omega⟩
        ·
          have hgd : gd xs l.length = 0 := by unfold gd; rw [List.getElem?_eq_none (by omega)]; rfl
          refine wp_skip ?_
          exact ⟨_, hS.slots (by exact ⟨rfl, rfl, rfl, rfl, rfl, rfl, trivial⟩), by omega⟩
      ·
        clear hS a; (try clear w); intro a w hS
        obtain ⟨d1, hS, hd1⟩ := hS
        refine c_cut (fun a w => ∃ d2 : Int, St 54 noB w0 a w [(8, .int .i64 d2), (0, sliceV p xs.length c1), (1, sliceV q ys.length c2), (5, sv), (6, .int .i64 cy), (7, .int .i64 (l.length : Int))] [ownA 3 1 sv l.length (l.flatMap encD), twoA p q xs ys] ∧ d2 = cy + gd xs l.length + gd ys l.length) ?_ ?_
        ·
          refine c_seq ?_
          refine c_region ?_
          refine L_op (s_e hS (e_move rfl) rfl ?_); clear hS a; intro a hS
          refine L_op (s_e hS (e_move rfl) rfl ?_); clear hS a; intro a hS
          refine L_op (s_e hS (e_len rfl rfl ty_sl42) rfl ?_); clear hS a; intro a hS
          refine L_op (s_e hS (e_bin rfl rfl rfl) rfl ?_); clear hS a; intro a hS
          refine L_nil ?_
          refine n_then ?_
          first | refine c_ifD hS rfl (fun hc39 => ?_) (fun hc39 => ?_) | refine c_if hS rfl (fun hc39 => ?_) (fun hc39 => ?_)
          ·
            obtain ⟨d, hd⟩ : ∃ d, ys[l.length]? = some d := ⟨ys[l.length]'(by omega), List.getElem?_eq_getElem (by omega)⟩
            obtain ⟨b2, o2, rfl⟩ := two_pos hq (fun e => by rw [e] at hd; cases hd)
            have hgd : gd ys l.length = d := by unfold gd; rw [hd]; rfl
            refine c_region ?_
            refine L_op (s_e hS (e_move rfl) rfl ?_); clear hS a; intro a hS
            refine L_op (s_e hS (e_move rfl) rfl ?_); clear hS a; intro a hS
            refine L_op (s_e hS (e_move rfl) rfl ?_); clear hS a; intro a hS
            refine L_op (s_e hS (e_ixN rfl rfl ty_sl42 ty_sz3 (by omega)) rfl ?_); clear hS a; intro a hS
            refine L_op (s_e hS (e_loadC rfl ty_sc3 (two_r (by repeat (first | exact .head _ | refine .tail _ ?_)) hd)) rfl ?_); clear hS a; intro a hS
            first | (refine L_op (s_e hS (e_binN rfl rfl rfl (by omega)) rfl ?_); clear hS a; intro a hS) | (refine L_op (s_e hS (e_bin rfl rfl rfl) rfl ?_); clear hS a; intro a hS)
            refine L_op (s_e hS (e_assign rfl) rfl ?_); clear hS a; intro a hS
            refine L_nil ?_
            exact ⟨_, hS.slots (by exact ⟨rfl, rfl, rfl, rfl, rfl, rfl, trivial⟩), by omega⟩
          ·
            have hgd : gd ys l.length = 0 := by unfold gd; rw [List.getElem?_eq_none (by omega)]; rfl
            refine wp_skip ?_
            exact ⟨_, hS.slots (by exact ⟨rfl, rfl, rfl, rfl, rfl, rfl, trivial⟩), by omega⟩
        ·
          clear hS a; (try clear w); intro a w hS
          obtain ⟨d2, hS, hd2⟩ := hS
          have e1 : (l ++ [d2 % 10000]).flatMap encD = l.flatMap encD ++ [.int .i64 (d2 % 10000)] := by simp [encD]
          have hs2 := add_step hsum da db hd2
          refine c_seq ?_
          refine c_region ?_
          refine L_op (s_e hS (e_move rfl) rfl ?_); clear hS a; intro a hS
          refine L_op (s_e hS (e_move rfl) rfl ?_); clear hS a; intro a hS
          first | (refine L_op (s_e hS (e_remN rfl rfl (by omega)) rfl ?_); clear hS a; intro a hS) | (refine L_op (s_e hS (e_rem rfl rfl (by omega)) rfl ?_); clear hS a; intro a hS)
          refine L_op (s_bslice hS ty_sl42 ty_sz3 ty_z3 rfl rfl rfl rfl (.one rfl rfl rfl .nil) rfl ?_); clear hS a; (try clear w); intro a w b49 hS
          refine L_op (s_append1 hS rfl rfl ty_sl42 ty_sz3 ty_by3 ty_z3 rfl rfl rfl (by repeat constructor) (by repeat constructor) (by rfl) (by rfl) (fun _ => (by repeat constructor)) (by omega) ?_); clear hS a; (try clear w); intro v50 a w hv50 hS
          refine L_op (s_e hS (e_assign rfl) rfl ?_); clear hS a; intro a hS
          refine L_nil ?_
          refine n_then ?_
          refine c_region ?_
          refine L_op (s_e hS (e_move rfl) rfl ?_); clear hS a; intro a hS
          first | (refine L_op (s_e hS (e_quoN rfl rfl (by omega)) rfl ?_); clear hS a; intro a hS) | (refine L_op (s_e hS (e_quo rfl rfl (by omega)) rfl ?_); clear hS a; intro a hS)
          refine L_op (s_e hS (e_assign rfl) rfl ?_); clear hS a; intro a hS
          refine L_nil ?_
          refine n_block ?_
          refine n_then ?_
          refine c_region ?_
          refine L_op (s_e hS (e_move rfl) rfl ?_); clear hS a; intro a hS
          first | (refine L_op (s_e hS (e_binN rfl rfl rfl (by omega)) rfl ?_); clear hS a; intro a hS) | (refine L_op (s_e hS (e_bin rfl rfl rfl) rfl ?_); clear hS a; intro a hS)
          refine L_op (s_e hS (e_assign rfl) rfl ?_); clear hS a; intro a hS
          refine L_nil ?_
          have hlN2 : l.length ≤ N := by
            rcases Nat.lt_or_ge l.length (N + 1) with h1 | h1
            · omega
            · have := hlN (by omega)
              omega
          refine ⟨(d2 / 10000, l ++ [d2 % 10000], v50), by simp only [List.length_append, List.length_cons, List.length_nil]; omega, ?_, inR_snoc hin (by omega), by simp only; omega, by simp only; omega, by simp only [List.length_append, List.length_cons, List.length_nil]; omega, ?_, ?_, ?_⟩
          · simp only [List.length_append, List.length_cons, List.length_nil, Nat.zero_add, e1]
            exact (hS.drop (by repeat (first | exact List.Sublist.refl _ | apply List.Sublist.cons_cons | apply List.Sublist.cons))).slots (by exact ⟨rfl, rfl, rfl, rfl, rfl, trivial⟩)
          · simp only [List.length_append, List.length_cons, List.length_nil, Nat.zero_add]
            intro h1
            have za : gd xs l.length = 0 := by unfold gd; rw [List.getElem?_eq_none (by omega)]; rfl
            have zb : gd ys l.length = 0 := by unfold gd; rw [List.getElem?_eq_none (by omega)]; rfl
            omega
          · simp only [List.length_append, List.length_cons, List.length_nil, Nat.zero_add]
            by_cases h1 : l.length < N
            · exact .inl h1
            · refine .inr ⟨l, _, rfl, ?_⟩
              have za : gd xs l.length = 0 := by unfold gd; rw [List.getElem?_eq_none (by omega)]; rfl
              have zb : gd ys l.length = 0 := by unfold gd; rw [List.getElem?_eq_none (by omega)]; rfl
              omega
          · simp only [List.length_append, List.length_cons, List.length_nil, Nat.zero_add]
            rw [nv_snoc, hs2, Int.pow_succ]
    ·
      refine L_go hS rfl rfl (s_e hS (e_move rfl) rfl ?_); clear hS a; intro a hS
      refine L_go hS rfl rfl (s_e hS (e_bin rfl rfl rfl) rfl ?_); clear hS a; intro a hS
      first | (refine L_op (s_e hS (e_pick_t rfl rfl) rfl ?_); clear hS a; intro a hS) | (refine L_op (s_e hS (e_pick_f rfl rfl) rfl ?_); clear hS a; intro a hS)
      refine L_nil ?_
      refine n_then ?_
      first | refine c_ifD hS rfl (fun hc22 => ?_) (fun hc22 => ?_) | refine c_if hS rfl (fun hc22 => ?_) (fun hc22 => ?_)
      ·
        refine wp_skip ?_
        refine n_then ?_
        refine c_seq ?_
        refine wp_block ?_
        refine c_seq ?_
        refine c_region ?_
        refine L_op (s_e hS (e_move rfl) rfl ?_); clear hS a; intro a hS
        refine L_op (s_e hS (e_assign rfl) rfl ?_); clear hS a; intro a hS
        refine L_nil ?_
        refine n_then ?_
        refine c_cut (fun a w => ∃ d1 : Int, St 54 noB w0 a w [(8, .int .i64 d1), (0, sliceV p xs.length c1), (1, sliceV q ys.length c2), (5, sv), (6, .int .i64 cy), (7, .int .i64 (l.length : Int))] [ownA 3 1 sv l.length (l.flatMap encD), twoA p q xs ys] ∧ d1 = cy + gd xs l.length) ?_ ?_
        ·
          refine c_seq ?_
          refine c_region ?_
          refine L_op (s_e hS (e_move rfl) rfl ?_); clear hS a; intro a hS
          refine L_op (s_e hS (e_move rfl) rfl ?_); clear hS a; intro a hS
          refine L_op (s_e hS (e_len rfl rfl ty_sl42) rfl ?_); clear hS a; intro a hS
          refine L_op (s_e hS (e_bin rfl rfl rfl) rfl ?_); clear hS a; intro a hS
          refine L_nil ?_
          refine n_then ?_
          first | refine c_ifD hS rfl (fun hc29 => ?_) (fun hc29 => ?_) | refine c_if hS rfl (fun hc29 => ?_) (fun hc29 => ?_)
          ·
            obtain ⟨d, hd⟩ : ∃ d, xs[l.length]? = some d := ⟨xs[l.length]'(by omega), List.getElem?_eq_getElem (by omega)⟩
            obtain ⟨b1, o1, rfl⟩ := two_pos hp (fun e => by rw [e] at hd; cases hd)
            have hgd : gd xs l.length = d := by unfold gd; rw [hd]; rfl
            refine c_region ?_
            refine L_op (s_e hS (e_move rfl) rfl ?_); clear hS a; intro a hS
            refine L_op (s_e hS (e_move rfl) rfl ?_); clear hS a; intro a hS
            refine L_op (s_e hS (e_move rfl) rfl ?_); clear hS a; intro a hS
            refine L_op (s_e hS (e_ixN rfl rfl ty_sl42 ty_sz3 (by omega)) rfl ?_); clear hS a; intro a hS
            refine L_op (s_e hS (e_loadC rfl ty_sc3 (two_l (by repeat (first | exact .head _ | refine .tail _ ?_)) hd)) rfl ?_); clear hS a; intro a hS
            first | (refine L_op (s_e hS (e_binN rfl rfl rfl (by omega)) rfl ?_); clear hS a; intro a hS) | (refine L_op (s_e hS (e_bin rfl rfl rfl) rfl ?_); clear hS a; intro a hS)
            refine L_op (s_e hS (e_assign rfl) rfl ?_); clear hS a; intro a hS
            refine L_nil ?_
            exact ⟨_, hS.slots (by exact ⟨rfl, rfl, rfl, rfl, rfl, rfl, trivial⟩), by omega⟩
          ·
            have hgd : gd xs l.length = 0 := by unfold gd; rw [List.getElem?_eq_none (by omega)]; rfl
            refine wp_skip ?_
            exact ⟨_, hS.slots (by exact ⟨rfl, rfl, rfl, rfl, rfl, rfl, trivial⟩), by omega⟩
        ·
          clear hS a; (try clear w); intro a w hS
          obtain ⟨d1, hS, hd1⟩ := hS
          refine c_cut (fun a w => ∃ d2 : Int, St 54 noB w0 a w [(8, .int .i64 d2), (0, sliceV p xs.length c1), (1, sliceV q ys.length c2), (5, sv), (6, .int .i64 cy), (7, .int .i64 (l.length : Int))] [ownA 3 1 sv l.length (l.flatMap encD), twoA p q xs ys] ∧ d2 = cy + gd xs l.length + gd ys l.length) ?_ ?_
          ·
            refine c_seq ?_
            refine c_region ?_
            refine L_op (s_e hS (e_move rfl) rfl ?_); clear hS a; intro a hS
            refine L_op (s_e hS (e_move rfl) rfl ?_); clear hS a; intro a hS
            refine L_op (s_e hS (e_len rfl rfl ty_sl42) rfl ?_); clear hS a; intro a hS
            refine L_op (s_e hS (e_bin rfl rfl rfl) rfl ?_); clear hS a; intro a hS
            refine L_nil ?_
            refine n_then ?_
            first | refine c_ifD hS rfl (fun hc39 => ?_) (fun hc39 => ?_) | refine c_if hS rfl (fun hc39 => ?_) (fun hc39 => ?_)
            ·
              obtain ⟨d, hd⟩ : ∃ d, ys[l.length]? = some d := ⟨ys[l.length]'(by omega), List.getElem?_eq_getElem (by omega)⟩
              obtain ⟨b2, o2, rfl⟩ := two_pos hq (fun e => by rw [e] at hd; cases hd)
              have hgd : gd ys l.length = d := by unfold gd; rw [hd]; rfl
              refine c_region ?_
              refine L_op (s_e hS (e_move rfl) rfl ?_); clear hS a; intro a hS
              refine L_op (s_e hS (e_move rfl) rfl ?_); clear hS a; intro a hS
              refine L_op (s_e hS (e_move rfl) rfl ?_); clear hS a; intro a hS
              refine L_op (s_e hS (e_ixN rfl rfl ty_sl42 ty_sz3 (by omega)) rfl ?_); clear hS a; intro a hS
              refine L_op (s_e hS (e_loadC rfl ty_sc3 (two_r (by repeat (first | exact .head _ | refine .tail _ ?_)) hd)) rfl ?_); clear hS a; intro a hS
              first | (refine L_op (s_e hS (e_binN rfl rfl rfl (by omega)) rfl ?_); clear hS a; intro a hS) | (refine L_op (s_e hS (e_bin rfl rfl rfl) rfl ?_); clear hS a; intro a hS)
              refine L_op (s_e hS (e_assign rfl) rfl ?_); clear hS a; intro a hS
              refine L_nil ?_
              exact ⟨_, hS.slots (by exact ⟨rfl, rfl, rfl, rfl, rfl, rfl, trivial⟩), by omega⟩
            ·
              have hgd : gd ys l.length = 0 := by unfold gd; rw [List.getElem?_eq_none (by omega)]; rfl
              refine wp_skip ?_
              exact ⟨_, hS.slots (by exact ⟨rfl, rfl, rfl, rfl, rfl, rfl, trivial⟩), by omega⟩
          ·
            clear hS a; (try clear w); intro a w hS
            obtain ⟨d2, hS, hd2⟩ := hS
            have e1 : (l ++ [d2 % 10000]).flatMap encD = l.flatMap encD ++ [.int .i64 (d2 % 10000)] := by simp [encD]
            have hs2 := add_step hsum da db hd2
            refine c_seq ?_
            refine c_region ?_
            refine L_op (s_e hS (e_move rfl) rfl ?_); clear hS a; intro a hS
            refine L_op (s_e hS (e_move rfl) rfl ?_); clear hS a; intro a hS
            first | (refine L_op (s_e hS (e_remN rfl rfl (by omega)) rfl ?_); clear hS a; intro a hS) | (refine L_op (s_e hS (e_rem rfl rfl (by omega)) rfl ?_); clear hS a; intro a hS)
            refine L_op (s_bslice hS ty_sl42 ty_sz3 ty_z3 rfl rfl rfl rfl (.one rfl rfl rfl .nil) rfl ?_); clear hS a; (try clear w); intro a w b49 hS
            refine L_op (s_append1 hS rfl rfl ty_sl42 ty_sz3 ty_by3 ty_z3 rfl rfl rfl (by repeat constructor) (by repeat constructor) (by rfl) (by rfl) (fun _ => (by repeat constructor)) (by omega) ?_); clear hS a; (try clear w); intro v50 a w hv50 hS
            refine L_op (s_e hS (e_assign rfl) rfl ?_); clear hS a; intro a hS
            refine L_nil ?_
            refine n_then ?_
            refine c_region ?_
            refine L_op (s_e hS (e_move rfl) rfl ?_); clear hS a; intro a hS
            first | (refine L_op (s_e hS (e_quoN rfl rfl (by omega)) rfl ?_); clear hS a; intro a hS) | (refine L_op (s_e hS (e_quo rfl rfl (by omega)) rfl ?_); clear hS a; intro a hS)
            refine L_op (s_e hS (e_assign rfl) rfl ?_); clear hS a; intro a hS
            refine L_nil ?_
            refine n_block ?_
            refine n_then ?_
            refine c_region ?_
            refine L_op (s_e hS (e_move rfl) rfl ?_); clear hS a; intro a hS
            first | (refine L_op (s_e hS (e_binN rfl rfl rfl (by omega)) rfl ?_); clear hS a; intro a hS) | (refine L_op (s_e hS (e_bin rfl rfl rfl) rfl ?_); clear hS a; intro a hS)
            refine L_op (s_e hS (e_assign rfl) rfl ?_); clear hS a; intro a hS
            refine L_nil ?_
            have hlN2 : l.length ≤ N := by
              rcases Nat.lt_or_ge l.length (N + 1) with h1 | h1
              · omega
              · have := hlN (by omega)
                omega
            refine ⟨(d2 / 10000, l ++ [d2 % 10000], v50), by simp only [List.length_append, List.length_cons, List.length_nil]; omega, ?_, inR_snoc hin (by omega), by simp only; omega, by simp only; omega, by simp only [List.length_append, List.length_cons, List.length_nil]; omega, ?_, ?_, ?_⟩
            · simp only [List.length_append, List.length_cons, List.length_nil, Nat.zero_add, e1]
              exact (hS.drop (by repeat (first | exact List.Sublist.refl _ | apply List.Sublist.cons_cons | apply List.Sublist.cons))).slots (by exact ⟨rfl, rfl, rfl, rfl, rfl, trivial⟩)
            · simp only [List.length_append, List.length_cons, List.length_nil, Nat.zero_add]
              intro h1
              have za : gd xs l.length = 0 := by unfold gd; rw [List.getElem?_eq_none (by omega)]; rfl
              have zb : gd ys l.length = 0 := by unfold gd; rw [List.getElem?_eq_none (by omega)]; rfl
              omega
            · simp only [List.length_append, List.length_cons, List.length_nil, Nat.zero_add]
              by_cases h1 : l.length < N
              · exact .inl h1
              · refine .inr ⟨l, _, rfl, ?_⟩
                have za : gd xs l.length = 0 := by unfold gd; rw [List.getElem?_eq_none (by omega)]; rfl
                have zb : gd ys l.length = 0 := by unfold gd; rw [List.getElem?_eq_none (by omega)]; rfl
                omega
            · simp only [List.length_append, List.length_cons, List.length_nil, Nat.zero_add]
              rw [nv_snoc, hs2, Int.pow_succ]
      ·
        refine wp_exit ?_
        refine x_then (x_then (x_hit ?_))
        refine n_then ?_
        refine c_seq ?_
        refine c_region ?_
        refine L_op (s_e hS (e_move rfl) rfl ?_); clear hS a; intro a hS
        refine L_op (s_e hS (e_assign rfl) rfl ?_); clear hS a; intro a hS
        refine L_nil ?_
        refine n_then ?_
        refine wp_ret ?_
        refine c_ret1 hS Try.results58 (.tmp rfl) ?_
        refine ⟨⟨(l, sv), hin, ?_, hll, htop⟩, rfl, hS.chg, hS.new (X := ownA 3 1 sv l.length (l.flatMap encD)) (by repeat (first | exact .head _ | refine .tail _ ?_)) rfl⟩
        rw [hsum, List.drop_eq_nil_of_le (by omega), List.drop_eq_nil_of_le (by omega), show cy = 0 by omega]
        simp [nv]


/-- the sum's digits are the sum's. -/
theorem add_can {l : List Int} {m n N : Nat} (hin : inR l) (hv : nv l = (m : Int) + n) (hN : (dgs m).length = N ∨ (dgs n).length = N) (ht : l.length ≤ N ∨ ∃ s d, l = s ++ [d] ∧ d ≠ 0) : l = dgs (m + n) := by
  have e1 : (nv l).toNat = m + n := by omega
  rcases ht with ht | ⟨s, d, hd, hne⟩
  · have h1 := nv_lt hin
    have h2 : (dgs (m + n)).length ≤ l.length := dgs_length_le (by
      have : ((m + n : Nat) : Int) < ((10000 ^ l.length : Nat) : Int) := by rw [Int.natCast_pow]; simp only [Int.natCast_add]; rw [← hv]; exact h1
      omega)
    have h3 : N ≤ (dgs (m + n)).length := by
      rcases hN with h | h
      · rw [← h]; exact dgs_len_mono (by omega)
      · rw [← h]; exact dgs_len_mono (by omega)
    exact nv_inj hin (inR_dgs _) (by omega) (by rw [hv, nv_dgs]; omega)
  · rw [← e1]
    refine dgs_of hin (fun r d' e => ?_)
    rw [hd] at e
    have := List.append_inj_right' e rfl
    simp only [List.cons.injEq, and_true] at this
    rw [← this]; exact hne
theorem addD_P (p q : Option (Nat × Nat)) (c1 c2 : Nat) (m n : Nat) (hN : (dgs m).length ≤ 100000 ∧ (dgs n).length ≤ 100000) (w0 : World) (h : (twoA p q (dgs m) (dgs n)).ok w0) :
    NewC Try.prog 58 [sliceV p (dgs m).length c1, sliceV q (dgs n).length c2] w0 (fun r : { r : Digs // r.1 = dgs (m + n) } => r.1.2) (fun r => digA r.1) := by
  rcases Nat.le_total (dgs m).length (dgs n).length with hle | hle
  · exact (addN_P p q c1 c2 (dgs m) (dgs n) (inR_dgs m) (inR_dgs n) (dgs n).length (by omega) hle (Nat.le_refl _) w0 h).mono fun e w' ⟨⟨r, h1, h2, h3, h4⟩, he, hc, hY, hF⟩ => ⟨⟨r, add_can h1 (by rw [h2, nv_dgs, nv_dgs]) (.inr rfl) h4⟩, he, hc, hY, hF⟩
  · exact (addN_P p q c1 c2 (dgs m) (dgs n) (inR_dgs m) (inR_dgs n) (dgs m).length (by omega) (Nat.le_refl _) hle w0 h).mono fun e w' ⟨⟨r, h1, h2, h3, h4⟩, he, hc, hY, hF⟩ => ⟨⟨r, add_can h1 (by rw [h2, nv_dgs, nv_dgs]) (.inl rfl) h4⟩, he, hc, hY, hF⟩

theorem ab_abs (v : Int) : Wd.ab v = v.natAbs := by unfold Wd.ab; split <;> omega
/-- the nearest quotient by the quotient and the rest. -/
def upD (x y : Int) : Prop := y.natAbs < 2 * (x.tmod y).natAbs ∨ 2 * (x.tmod y).natAbs = y.natAbs ∧ (x.tdiv y).natAbs % 2 = 1
instance (x y : Int) : Decidable (upD x y) := by unfold upD; infer_instance
theorem dv_up (x y : Int) : Wd.dv x y = if upD x y then x.tdiv y + (if decide (x < 0) ≠ decide (y < 0) then -1 else 1) else x.tdiv y := by
  have h1 : (x.tdiv y).natAbs = x.natAbs / y.natAbs := Int.natAbs_tdiv x y
  have h2 : (x.tmod y).natAbs = x.natAbs % y.natAbs := Int.natAbs_tmod x y
  have h3 := Wd.tq_of x y
  have hu : upD x y ↔ (y.natAbs < 2 * (x.natAbs % y.natAbs) ∨ 2 * (x.natAbs % y.natAbs) = y.natAbs ∧ x.natAbs / y.natAbs % 2 = 1) := by unfold upD; rw [h1, h2]
  unfold Wd.dv Wd.ev
  rw [ab_abs, ab_abs] at *
  have e1 : ((x.natAbs : Int) % (y.natAbs : Int)) = ((x.natAbs % y.natAbs : Nat) : Int) := rfl
  have e2 : ((x.natAbs : Int) / (y.natAbs : Int)) = ((x.natAbs / y.natAbs : Nat) : Int) := rfl
  rw [e2] at h3
  rw [e1, e2]
  generalize x.natAbs / y.natAbs = Q at *
  generalize x.natAbs % y.natAbs = R at *
  have hc : ((y.natAbs : Int) < 2 * (R : Int) ∨ 2 * (R : Int) = (y.natAbs : Int) ∧ (Q : Int) % 2 = 1) ↔ upD x y := by rw [hu]; omega
  rw [← h3]
  unfold Wd.sv
  by_cases hd : upD x y
  · rw [if_pos hd, if_pos (hc.2 hd)]
    cases decide (x < 0) <;> cases decide (y < 0) <;> simp <;> omega
  · rw [if_neg hd, if_neg (fun e => hd (hc.1 e))]
theorem odd_dg {z : Int} {d : Int} (h : (dgs z.natAbs)[0]? = some d) : (d % 2 = 1 ↔ z.natAbs % 2 = 1) := by
  by_cases h0 : z.natAbs = 0
  · rw [h0, dgs_zero] at h; simp at h
  · rw [dgs_pos h0] at h; simp at h; omega

set_option maxHeartbeats 1000000 in
set_option maxRecDepth 100000 in
theorem BigEven_P (p q : Option (Nat × Nat)) (c1 c2 : Nat) (x y : Int) (hy0 : y ≠ 0) (hx : (dgs x.natAbs).length ≤ 1000) (hy : (dgs y.natAbs).length ≤ 1000) (w0 : World) (h : (twoA p q (dgs x.natAbs) (dgs y.natAbs)).ok w0) :
    NewC Try.prog 104 [bigV x p c1, bigV y q c2] w0 (fun r : At (Wd.dv x y) => bigV (Wd.dv x y) (some (r.1.1, 0)) r.1.2) (fun r => bigA (Wd.dv x y) r.1.1) := by
  have hq := h.now.2
  have hql : (dgs (x.tdiv y).natAbs).length ≤ 1000 := Nat.le_trans (dgs_len_mono (by rw [Int.natAbs_tdiv]; exact Nat.div_le_self _ _)) hx
  have hrl : (dgs (x.tmod y).natAbs).length ≤ 1000 := Nat.le_trans (dgs_len_mono (by rw [Int.natAbs_tmod]; exact Nat.mod_le _ _)) hx
  have h2l : (dgs ((x.tmod y).natAbs + (x.tmod y).natAbs)).length ≤ 1001 := by
    have := len_mul (Y := (x.tmod y).natAbs) (m := 2) (by omega)
    rw [show (x.tmod y).natAbs * 2 = (x.tmod y).natAbs + (x.tmod y).natAbs by omega] at this; omega
  have hup := dv_up x y
  refine c_enter [(0, bigV x p c1), (1, bigV y q c2)] [twoA p q (dgs x.natAbs) (dgs y.natAbs)] noB Try.func104 rfl Try.ntmps104 ⟨rfl, rfl, trivial⟩ rfl (okC (h) okN) dis1 (mineC (by rfl) mineN) ?_
  intro a hS
  refine c_seq ?_
  refine c_region ?_
  refine L_op (s_boxA hS rfl rfl ?_); clear hS a; (try clear w); intro a w b2 hS
  refine L_op (s_boxA hS rfl rfl ?_); clear hS a; (try clear w); intro a w b3 hS
  refine L_op (s_alloc hS ty_z44 rfl ?_); clear hS a; (try clear w); intro a w b4 hS
  refine L_nil ?_
  refine n_then ?_
  refine c_seq ?_
  refine c_region ?_
  refine L_op (s_e hS (e_loadA rfl (by repeat constructor) ty_st44 ty_sz44 (by rfl)) rfl ?_); clear hS a; intro a hS
  refine L_op (s_e hS (e_loadA rfl (by repeat constructor) ty_st44 ty_sz44 (by rfl)) rfl ?_); clear hS a; intro a hS
  refine L_op (s_callN hS (.cons rfl (.cons rfl .nil)) cf119 rfl (BigQuo_P p q c1 c2 x y hy0 hx hy _ (hS.ok _ (by repeat constructor))) ?_); clear hS a; (try clear w); intro x13 a w hS
  refine L_op (s_e hS (e_move rfl) rfl ?_); clear hS a; intro a hS
  refine L_op (s_e hS (e_extract rfl rfl) rfl ?_); clear hS a; intro a hS
  refine L_op (s_e hS (e_extract rfl rfl) rfl ?_); clear hS a; intro a hS
  refine L_op (s_alloc hS ty_z44 rfl ?_); clear hS a; (try clear w); intro a w b5 hS
  refine L_op (s_alloc hS ty_z44 rfl ?_); clear hS a; (try clear w); intro a w b6 hS
  refine L_op (s_storeA hS rfl rfl ty_sz44 (by repeat constructor) (by rfl) (by rfl) (by rfl) ?_); clear hS; (try clear w); intro w hS
  refine L_op (s_storeA hS rfl rfl ty_sz44 (by repeat constructor) (by rfl) (by rfl) (by rfl) ?_); clear hS; (try clear w); intro w hS
  refine L_nil ?_
  refine n_then ?_
  refine c_seq ?_
  refine c_drawS [] (by kernel_rfl) hS (sub_cons (X := .blk b6 _ _) (by repeat constructor) (sub_cons (X := .blk b3 _ _) (by repeat constructor) sub_nil)) ?_; clear hS; (try clear w); intro w hS
  simp only [List.length_cons, List.length_nil, Nat.zero_add, Nat.reduceAdd, List.replicate]
  first | (refine Z_take0 (i := 0) hS rfl want_none (e_fa0 rfl ty_fo44_1) (listed' := [true, false, false, false, false, false, false, false, false]) rfl (by kernel_rfl) (by kernel_rfl) (by kernel_rfl) (fun _ _ _ h => h) rfl ?_; clear hS a; intro a hS) | (refine Z_take0 (i := 0) hS rfl want_none (e_faK rfl ty_fo44_1) (listed' := [true, false, false, false, false, false, false, false, false]) rfl (by kernel_rfl) (by kernel_rfl) (by kernel_rfl) (fun _ _ _ h => h) rfl ?_; clear hS a; intro a hS)
  refine Z_take (i := 1) hS rfl want_none (e_load rfl (by repeat constructor) ty_sc42 (by rfl)) (listed' := [true, true, false, false, false, false, false, false, false]) rfl (by kernel_rfl) (by kernel_rfl) (by kernel_rfl) (by kernel_rfl) (by kernel_rfl) (sub_cons (by repeat constructor) (sub_cons (by repeat constructor) sub_nil)) (fun _ _ _ h => h) rfl ?_; clear hS a; intro a hS
  first | (refine Z_take0 (i := 2) hS rfl want_none (e_fa0 rfl ty_fo44_1) (listed' := [true, true, true, false, false, false, false, false, false]) rfl (by kernel_rfl) (by kernel_rfl) (by kernel_rfl) (fun _ _ _ h => h) rfl ?_; clear hS a; intro a hS) | (refine Z_take0 (i := 2) hS rfl want_none (e_faK rfl ty_fo44_1) (listed' := [true, true, true, false, false, false, false, false, false]) rfl (by kernel_rfl) (by kernel_rfl) (by kernel_rfl) (fun _ _ _ h => h) rfl ?_; clear hS a; intro a hS)
  refine Z_take (i := 3) hS rfl want_none (e_load rfl (by repeat constructor) ty_sc42 (by rfl)) (listed' := [true, true, true, true, false, false, false, false, false]) rfl (by kernel_rfl) (by kernel_rfl) (by kernel_rfl) (by kernel_rfl) (by kernel_rfl) (sub_cons (by repeat constructor) (sub_cons (by repeat constructor) sub_nil)) (fun _ _ _ h => h) rfl ?_; clear hS a; intro a hS
  first | (refine Z_take0 (i := 5) hS rfl want_none (e_fa0 rfl ty_fo44_1) (listed' := [true, true, true, true, false, true, false, false, false]) rfl (by kernel_rfl) (by kernel_rfl) (by kernel_rfl) (fun _ _ _ h => h) rfl ?_; clear hS a; intro a hS) | (refine Z_take0 (i := 5) hS rfl want_none (e_faK rfl ty_fo44_1) (listed' := [true, true, true, true, false, true, false, false, false]) rfl (by kernel_rfl) (by kernel_rfl) (by kernel_rfl) (fun _ _ _ h => h) rfl ?_; clear hS a; intro a hS)
  refine Z_take (i := 6) hS rfl want_none (e_load rfl (by repeat constructor) ty_sc42 (by rfl)) (listed' := [true, true, true, true, false, true, true, false, false]) rfl (by kernel_rfl) (by kernel_rfl) (by kernel_rfl) (by kernel_rfl) (by kernel_rfl) (sub_cons (by repeat constructor) (sub_cons (by repeat constructor) sub_nil)) (fun _ _ _ h => h) rfl ?_; clear hS a; intro a hS
  have hpr := hS.get (X := pairA (x.tdiv y) x13.1.1.1 (x.tmod y) x13.2.1.1) (by repeat constructor)
  have hplt : x13.2.1.1 < w.heap.size := (hS.ok (pairA (x.tdiv y) x13.1.1.1 (x.tmod y) x13.2.1.1) (by repeat constructor)).lt _ (.inr rfl)
  refine Z_one (i := 4) rfl (want_none a hS.sl) (listed' := [true, true, true, true, true, true, true, false, false]) rfl (by kernel_rfl) (s_callN hS (.cons rfl (.cons rfl .nil)) cf58 rfl (addD_P (some (x13.2.1.1, 0)) (some (x13.2.1.1, 0)) x13.2.1.2 x13.2.1.2 (x.tmod y).natAbs (x.tmod y).natAbs ⟨by omega, by omega⟩ _ (two_ok hpr.2 hpr.2 (fun r e => by cases e; exact hplt) (fun r e => by cases e; exact hplt))) ?_); clear hS a; (try clear w); intro x20 a w hS
  obtain ⟨⟨l20, v20⟩, e20⟩ := x20
  have e20 : l20 = dgs ((x.tmod y).natAbs + (x.tmod y).natAbs) := e20
  subst e20
  obtain ⟨p20, c20, e20, _, _, _, _⟩ := own_digs (hS.get (X := digA (dgs ((x.tmod y).natAbs + (x.tmod y).natAbs), v20)) (by repeat constructor))
  have e20 : v20 = sliceV p20 (dgs ((x.tmod y).natAbs + (x.tmod y).natAbs)).length c20 := e20
  subst e20
  refine Z_and hS (sub_cons (by repeat constructor) (sub_cons (by repeat constructor) sub_nil)) ?_
  have hrw := own_rowP (hS.get (X := digA (dgs ((x.tmod y).natAbs + (x.tmod y).natAbs), sliceV p20 (dgs ((x.tmod y).natAbs + (x.tmod y).natAbs)).length c20)) (by repeat constructor))
  have htw := hS.ok (twoA p q (dgs x.natAbs) (dgs y.natAbs)) (by repeat constructor)
  refine Z_one (i := 7) rfl (want_none a hS.sl) (listed' := [true, true, true, true, true, true, true, true, false]) rfl (by kernel_rfl) (s_callP hS (.cons rfl (.cons rfl .nil)) cf59 rfl (cmp_P p20 q c20 c2 ((x.tmod y).natAbs + (x.tmod y).natAbs) y.natAbs (by omega) _ (two_ok hrw.1 (htw.now.2) hrw.2 (fun r e => htw.lt r.1 (.inr ⟨r.2, e⟩)))) ?_); clear hS a; (try clear w); intro a w hS
  refine Z_and hS (sub_cons (by repeat constructor) (sub_cons (by repeat constructor) sub_nil)) ?_
  refine Z_take0 (i := 8) hS rfl want_none (e_assign rfl) (listed' := [true, true, true, true, true, true, true, true, true]) rfl (by kernel_rfl) (by kernel_rfl) (by kernel_rfl) (fun _ _ _ h => h) rfl ?_; clear hS a; intro a hS
  refine Z_done (by kernel_rfl) ?_
  refine n_then ?_
  refine c_seq ?_
  refine c_region ?_
  have hcN : ((x.tmod y).natAbs + (x.tmod y).natAbs < y.natAbs ∧ cmpN ((x.tmod y).natAbs + (x.tmod y).natAbs) y.natAbs = -1) ∨ ((x.tmod y).natAbs + (x.tmod y).natAbs = y.natAbs ∧ cmpN ((x.tmod y).natAbs + (x.tmod y).natAbs) y.natAbs = 0) ∨ (y.natAbs < (x.tmod y).natAbs + (x.tmod y).natAbs ∧ cmpN ((x.tmod y).natAbs + (x.tmod y).natAbs) y.natAbs = 1) := by
    obtain ⟨z1, z2, z3⟩ := @cmpN_Z ((x.tmod y).natAbs + (x.tmod y).natAbs) y.natAbs
    rcases Nat.lt_trichotomy ((x.tmod y).natAbs + (x.tmod y).natAbs) y.natAbs with h1 | h1 | h1
    · exact .inl ⟨h1, z1 h1⟩
    · exact .inr (.inl ⟨h1, z3 h1⟩)
    · exact .inr (.inr ⟨h1, z2 h1⟩)
  first | (refine L_op (s_e hS (e_fa0 rfl ty_fo44_1) rfl ?_); clear hS a; intro a hS) | (refine L_op (s_e hS (e_faK rfl ty_fo44_1) rfl ?_); clear hS a; intro a hS)
  refine L_op (s_e hS (e_load rfl (by repeat constructor) ty_sc42 (by rfl)) rfl ?_); clear hS a; intro a hS
  refine L_op (s_e hS (e_len rfl rfl ty_sl42) rfl ?_); clear hS a; intro a hS
  refine L_op (s_e hS (e_bin rfl rfl rfl) rfl ?_); clear hS a; intro a hS
  refine L_op (s_e hS (e_move rfl) rfl ?_); clear hS a; intro a hS
  refine L_merge 7 35 (.bool (decide ((x.tdiv y).natAbs % 2 = 1))) hS ?_ ?_
  · intro hcM35
    (first | refine g_splitD (t := 28) hS rfl ?_ ?_ | refine g_split (t := 28) hS rfl ?_ ?_) <;> (clear hS; intro hg28 hS)
    ·
      obtain ⟨d, hd⟩ : ∃ d, (dgs (x.tdiv y).natAbs)[0]? = some d := ⟨(dgs (x.tdiv y).natAbs)[0]'(by omega), List.getElem?_eq_getElem (by omega)⟩
      have hdr := inR_dgs _ d (List.mem_of_getElem? hd)
      have hod := odd_dg hd
      first | (refine L_go hS rfl rfl (s_e hS (e_fa0 rfl ty_fo44_1) rfl ?_); clear hS a; intro a hS) | (refine L_go hS rfl rfl (s_e hS (e_faK rfl ty_fo44_1) rfl ?_); clear hS a; intro a hS)
      refine L_go hS rfl rfl (s_e hS (e_load rfl (by repeat constructor) ty_sc42 (by rfl)) rfl ?_); clear hS a; intro a hS
      refine L_go hS rfl rfl (s_e hS (e_ix0 rfl rfl ty_sl42 ty_sz3 (by omega)) rfl ?_); clear hS a; intro a hS
      refine L_go hS rfl rfl (s_e hS (e_loadC rfl ty_sc3 (fun w hh => (hh (pairA (x.tdiv y) x13.1.1.1 (x.tmod y) x13.2.1.1) (by repeat constructor)).1 0 (encD d) (by rw [List.getElem?_map, hd]; rfl) 0 (.int .i64 d) rfl)) rfl ?_); clear hS a; intro a hS
      first | (refine L_go hS rfl rfl (s_e hS (e_remN rfl rfl (by omega)) rfl ?_); clear hS a; intro a hS) | (refine L_go hS rfl rfl (s_e hS (e_rem rfl rfl (by omega)) rfl ?_); clear hS a; intro a hS)
      refine L_go hS rfl rfl (s_e hS (e_bin rfl rfl rfl) rfl ?_); clear hS a; intro a hS
      first | (refine L_op (s_e hS (e_pick_t rfl rfl) rfl ?_); clear hS a; intro a hS) | (refine L_op (s_e hS (e_pick_f rfl rfl) rfl ?_); clear hS a; intro a hS)
      exact hcM35 _ _ (hS.ends 8 35 28 rfl (congrArg Value.bool (by rw [decide_eq_decide]; exact hod)) rfl rfl (by first | exact congrArg Value.bool (decide_eq_true hg28).symm | exact congrArg Value.bool hg28.symm | simp [hg28]) rfl)
    ·
      have hq0 : (x.tdiv y).natAbs = 0 := by
        have h1 := @dgs_ne (x.tdiv y).natAbs
        rw [← List.length_pos_iff] at h1; omega
      refine L_skip_t hS rfl rfl rfl ?_; clear hS a; intro a hS
      refine L_skip_t hS rfl rfl rfl ?_; clear hS a; intro a hS
      refine L_skip_t hS rfl rfl rfl ?_; clear hS a; intro a hS
      refine L_skip_t hS rfl rfl rfl ?_; clear hS a; intro a hS
      refine L_skip_t hS rfl rfl rfl ?_; clear hS a; intro a hS
      refine L_skip_t hS rfl rfl rfl ?_; clear hS a; intro a hS
      first | (refine L_op (s_e hS (e_pick_t rfl rfl) rfl ?_); clear hS a; intro a hS) | (refine L_op (s_e hS (e_pick_f rfl rfl) rfl ?_); clear hS a; intro a hS)
      exact hcM35 _ _ (hS.ends 8 35 28 rfl (congrArg Value.bool (by rw [hq0]; rfl)) rfl rfl (by first | exact congrArg Value.bool (decide_eq_false hg28).symm | exact congrArg Value.bool hg28.symm | simp [hg28]) rfl)
  · clear hS a; (try clear w); intro a w hS
    simp only [List.drop_succ_cons, List.drop_zero]
    refine L_op (s_e hS (e_assign rfl) rfl ?_); clear hS a; intro a hS
    refine L_nil ?_
    refine n_then ?_
    refine c_seq ?_
    refine c_seq ?_
    refine c_region ?_
    refine L_op (s_e hS (e_move rfl) rfl ?_); clear hS a; intro a hS
    refine L_op (s_e hS (e_bin rfl rfl rfl) rfl ?_); clear hS a; intro a hS
    refine L_op (s_e hS (e_move rfl) rfl ?_); clear hS a; intro a hS
    refine L_merge 6 44 (.bool (decide (upD x y))) hS ?_ ?_
    · intro hcM44
      (first | refine g_splitD (t := 38) hS rfl ?_ ?_ | refine g_split (t := 38) hS rfl ?_ ?_) <;> (clear hS; intro hg38 hS)
      ·
        refine L_skip_f hS rfl rfl rfl ?_; clear hS a; intro a hS
        refine L_skip_f hS rfl rfl rfl ?_; clear hS a; intro a hS
        refine L_skip_f hS rfl rfl rfl ?_; clear hS a; intro a hS
        refine L_skip_u hS rfl rfl rfl ?_; clear hS a; intro a hS
        refine L_skip_f hS rfl rfl rfl ?_; clear hS a; intro a hS
        first | (refine L_op (s_e hS (e_pick_t rfl rfl) rfl ?_); clear hS a; intro a hS) | (refine L_op (s_e hS (e_pick_f rfl rfl) rfl ?_); clear hS a; intro a hS)
        exact hcM44 _ _ (hS.ends 7 44 38 rfl (congrArg Value.bool (by exact (decide_eq_true (by unfold upD; omega)).symm)) rfl rfl (by first | exact congrArg Value.bool (decide_eq_true hg38).symm | exact congrArg Value.bool hg38.symm | simp [hg38]) rfl)
      ·
        refine L_go hS rfl rfl (s_e hS (e_move rfl) rfl ?_); clear hS a; intro a hS
        refine L_go hS rfl rfl (s_e hS (e_bin rfl rfl rfl) rfl ?_); clear hS a; intro a hS
        refine L_go hS rfl rfl (s_e hS (e_move rfl) rfl ?_); clear hS a; intro a hS
        refine L_merge 2 43 (.bool (decide (cmpN ((x.tmod y).natAbs + (x.tmod y).natAbs) y.natAbs = 0 ∧ (x.tdiv y).natAbs % 2 = 1))) hS ?_ ?_
        · intro hcM43
          (first | refine g_splitD (t := 41) hS rfl ?_ ?_ | refine g_split (t := 41) hS rfl ?_ ?_) <;> (clear hS; intro hg41 hS)
          ·
            refine L_go hS rfl rfl (s_e hS (e_move rfl) rfl ?_); clear hS a; intro a hS
            first | (refine L_go hS rfl rfl (s_e hS (e_pick_t rfl rfl) rfl ?_); clear hS a; intro a hS) | (refine L_go hS rfl rfl (s_e hS (e_pick_f rfl rfl) rfl ?_); clear hS a; intro a hS)
            exact hcM43 _ _ (hS.ends 3 43 41 rfl (congrArg Value.bool (by first | rfl | (simp [hg41]; done) | (simp [hg41]; omega) | grind)) rfl rfl (by first | exact congrArg Value.bool (decide_eq_true hg41).symm | exact congrArg Value.bool hg41.symm | simp [hg41]) rfl)
          ·
            refine L_skip_t hS rfl rfl rfl ?_; clear hS a; intro a hS
            first | (refine L_go hS rfl rfl (s_e hS (e_pick_t rfl rfl) rfl ?_); clear hS a; intro a hS) | (refine L_go hS rfl rfl (s_e hS (e_pick_f rfl rfl) rfl ?_); clear hS a; intro a hS)
            exact hcM43 _ _ (hS.ends 3 43 41 rfl (congrArg Value.bool (by first | rfl | (simp [hg41]; done) | (simp [hg41]; omega) | grind)) rfl rfl (by first | exact congrArg Value.bool (decide_eq_false hg41).symm | exact congrArg Value.bool hg41.symm | simp [hg41]) rfl)
        · clear hS a; (try clear w); intro a w hS
          simp only [List.drop_succ_cons, List.drop_zero]
          first | (refine L_op (s_e hS (e_pick_t rfl rfl) rfl ?_); clear hS a; intro a hS) | (refine L_op (s_e hS (e_pick_f rfl rfl) rfl ?_); clear hS a; intro a hS)
          exact hcM44 _ _ (hS.ends 6 44 38 rfl (congrArg Value.bool (by rw [decide_eq_decide]; unfold upD; omega)) rfl rfl (by first | exact congrArg Value.bool (decide_eq_false hg38).symm | exact congrArg Value.bool hg38.symm | simp [hg38]) rfl)
    · clear hS a; (try clear w); intro a w hS
      simp only [List.drop_succ_cons, List.drop_zero]
      refine L_nil ?_
      refine n_then ?_
      first | refine c_ifD hS rfl (fun hc44 => ?_) (fun hc44 => ?_) | refine c_if hS rfl (fun hc44 => ?_) (fun hc44 => ?_)
      ·
        refine c_seq ?_
        refine c_region ?_
        refine L_op (s_callN hS (.cons rfl .nil) cf22 rfl (BigOf_P 1 (by decide) _) ?_); clear hS a; (try clear w); intro x45 a w hS
        refine L_op (s_alloc hS ty_z44 rfl ?_); clear hS a; (try clear w); intro a w b9 hS
        refine L_op (s_storeA hS rfl rfl ty_sz44 (by repeat constructor) (by rfl) (by rfl) (by rfl) ?_); clear hS; (try clear w); intro w hS
        refine L_nil ?_
        refine n_then ?_
        refine c_cut (fun a w => ∃ (s : Int) (nb nc : Nat), St 56 noB w0 a w [(9, .pointer (some ⟨b9, 0, none⟩)), (4, .pointer (some ⟨b4, 0, none⟩)), (5, .pointer (some ⟨b5, 0, none⟩))] [.blk b9 [.bool (decide (s < 0)), sliceV (some (nb, 0)) (dgs s.natAbs).length nc] 44, bigA s nb, pairA (x.tdiv y) x13.1.1.1 (x.tmod y) x13.2.1.1, .blk b5 [.bool (decide (x.tdiv y < 0)), sliceV (some (x13.1.1.1, 0)) (dgs (x.tdiv y).natAbs).length x13.1.1.2] 44, .blk b4 [.bool false, .slice none 0 0] 44] ∧ s = if decide (x < 0) ≠ decide (y < 0) then -1 else 1) ?_ ?_
        ·
          refine c_seq ?_
          refine c_region ?_
          first | (refine L_op (s_e hS (e_fa0 rfl ty_fo44_0) rfl ?_); clear hS a; intro a hS) | (refine L_op (s_e hS (e_faK rfl ty_fo44_0) rfl ?_); clear hS a; intro a hS)
          refine L_op (s_e hS (e_load rfl (by repeat constructor) ty_sc4 (by rfl)) rfl ?_); clear hS a; intro a hS
          first | (refine L_op (s_e hS (e_fa0 rfl ty_fo44_0) rfl ?_); clear hS a; intro a hS) | (refine L_op (s_e hS (e_faK rfl ty_fo44_0) rfl ?_); clear hS a; intro a hS)
          refine L_op (s_e hS (e_load rfl (by repeat constructor) ty_sc4 (by rfl)) rfl ?_); clear hS a; intro a hS
          refine L_op (s_e hS (e_binBn rfl rfl ty_u4) rfl ?_); clear hS a; intro a hS
          refine L_nil ?_
          refine n_then ?_
          first | refine c_ifD hS rfl (fun hc50 => ?_) (fun hc50 => ?_) | refine c_if hS rfl (fun hc50 => ?_) (fun hc50 => ?_)
          ·
            refine c_region ?_
            refine L_op (s_callN hS (.cons rfl .nil) cf22 rfl (BigOf_P (-1) (by decide) _) ?_); clear hS a; (try clear w); intro x51 a w hS
            refine L_op (s_storeA hS rfl rfl ty_sz44 (by repeat constructor) (by rfl) (by rfl) (by rfl) ?_); clear hS; (try clear w); intro w hS
            refine L_nil ?_
            first
            | exact ⟨-1, x51.1.1, x51.1.2, (hS.pick (by repeat (first | exact Pick.nil | (refine Pick.cons (by repeat (first | exact Rem.head | apply Rem.tail)) ?_)))).slots (by repeat (first | exact trivial | refine ⟨rfl, ?_⟩)), by rw [if_pos hc50]⟩
            | exact ⟨1, x45.1.1, x45.1.2, (hS.pick (by repeat (first | exact Pick.nil | (refine Pick.cons (by repeat (first | exact Rem.head | apply Rem.tail)) ?_)))).slots (by repeat (first | exact trivial | refine ⟨rfl, ?_⟩)), by rw [if_neg hc50]⟩
          ·
            refine wp_skip ?_
            first
            | exact ⟨-1, x51.1.1, x51.1.2, (hS.pick (by repeat (first | exact Pick.nil | (refine Pick.cons (by repeat (first | exact Rem.head | apply Rem.tail)) ?_)))).slots (by repeat (first | exact trivial | refine ⟨rfl, ?_⟩)), by rw [if_pos hc50]⟩
            | exact ⟨1, x45.1.1, x45.1.2, (hS.pick (by repeat (first | exact Pick.nil | (refine Pick.cons (by repeat (first | exact Rem.head | apply Rem.tail)) ?_)))).slots (by repeat (first | exact trivial | refine ⟨rfl, ?_⟩)), by rw [if_neg hc50]⟩
        ·
          clear hS a; (try clear w); intro a w hS
          obtain ⟨s, nb, nc, hS, hs⟩ := hS
          have hs1 : s.natAbs = 1 := by rw [hs]; split <;> rfl
          have hpl : x13.1.1.1 < w.heap.size := (hS.ok (pairA (x.tdiv y) x13.1.1.1 (x.tmod y) x13.2.1.1) (by repeat constructor)).lt _ (.inl rfl)
          have hAd := BigAdd_P (some (x13.1.1.1, 0)) (some (nb, 0)) x13.1.1.2 nc (x.tdiv y) s 1000 (by decide) hql (by rw [hs1]; have := len20 (z := 1) (by decide); exact Nat.le_trans this (by decide)) w (two_ok (hS.get (X := pairA (x.tdiv y) x13.1.1.1 (x.tmod y) x13.2.1.1) (by repeat constructor)).1 (hS.get (X := bigA s nb) (by repeat constructor)) (fun r e => by cases e; exact hpl) (fun r e => by cases e; exact (hS.ok (bigA s nb) (by repeat constructor)).lt _ rfl))
          rw [if_pos hc44, ← hs] at hup
          rw [← hup] at hAd
          refine c_seq ?_
          refine c_region ?_
          refine L_op (s_e hS (e_loadA rfl (by repeat constructor) ty_st44 ty_sz44 (by rfl)) rfl ?_); clear hS a; intro a hS
          refine L_op (s_e hS (e_loadA rfl (by repeat constructor) ty_st44 ty_sz44 (by rfl)) rfl ?_); clear hS a; intro a hS
          refine L_op (s_callN hS (.cons rfl (.cons rfl .nil)) cf23 rfl (hAd) ?_); clear hS a; (try clear w); intro x54 a w hS
          refine L_op (s_storeA hS rfl rfl ty_sz44 (by repeat constructor) (by rfl) (by rfl) (by rfl) ?_); clear hS; (try clear w); intro w hS
          refine L_nil ?_
          refine n_then ?_
          refine wp_ret ?_
          refine r_then ?_
          refine c_ret1 hS Try.results104 (.cellA rfl (by repeat constructor) ty_st44 ty_sz44 (by rfl)) ?_
          exact ⟨x54, rfl, hS.chg, hS.new (X := bigA (Wd.dv x y) x54.1.1) (by repeat constructor) rfl⟩
      ·
        refine wp_skip ?_
        refine n_then ?_
        refine c_seq ?_
        refine c_region ?_
        refine L_op (s_e hS (e_loadA rfl (by repeat constructor) ty_st44 ty_sz44 (by rfl)) rfl ?_); clear hS a; intro a hS
        refine L_op (s_storeA hS rfl rfl ty_sz44 (by repeat constructor) (by rfl) (by rfl) (by rfl) ?_); clear hS; (try clear w); intro w hS
        refine L_nil ?_
        refine n_then ?_
        refine wp_ret ?_
        refine c_ret1 hS Try.results104 (.cellA rfl (by repeat constructor) ty_st44 ty_sz44 (by rfl)) ?_
        rw [if_neg hc44] at hup
        have hcap : (dgs (Wd.dv x y).natAbs).length ≤ x13.1.1.2 := by rw [hup]; exact x13.1.2
        have hA := hS.ok (pairA (x.tdiv y) x13.1.1.1 (x.tmod y) x13.2.1.1) (by repeat constructor)
        have hB := hS.new (X := pairA (x.tdiv y) x13.1.1.1 (x.tmod y) x13.2.1.1) (by repeat constructor) rfl
        refine ⟨⟨(x13.1.1.1, x13.1.1.2), hcap⟩, ?_, hS.chg, ⟨fun k hk => hA.lt k (.inl hk), fun w' hw => ?_⟩, fun b hb => hB.2 b (.inl hb)⟩
        · simp only [hup]; rfl
        · show RowP (some (x13.1.1.1, 0)) 1 ((dgs (Wd.dv x y).natAbs).map encD) w'
          rw [hup]
          exact RowAt.keep hA.now.1 (hw _ rfl)
end Go.Proofs.Ytheofhegdjjfgaa

