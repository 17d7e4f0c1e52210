/- Numbers by digits in base 10000 (exref), walked: BigMul. -/
import Derived.Test.YtheofhegdjjfgaaBig5
namespace Go.Proofs.Ytheofhegdjjfgaa
open Go.RowKit

theorem nv_set {l : List Int} {i : Nat} {d : Int} (v : Int) (h : l[i]? = some d) : nv (l.set i v) = nv l + 10000 ^ i * (v - d) := by
  induction l generalizing i with
  | nil => cases h
  | cons e r ih =>
    cases i with
    | zero => cases h; simp only [List.set_cons_zero, nv, Int.pow_zero]; omega
    | succ i =>
      have := ih (i := i) (by simpa using h)
      simp only [List.set_cons_succ, nv, this, Int.pow_succ]
      rw [Int.mul_add, Int.mul_comm (10000 ^ i) 10000, Int.mul_assoc]; omega
theorem inR_set {l : List Int} (h : inR l) {i : Nat} {v : Int} (hv : 0 ≤ v ∧ v ≤ 9999) : inR (l.set i v) := by
  intro d hd
  rcases List.mem_or_eq_of_mem_set hd with hd | rfl
  · exact h d hd
  · exact hv
theorem gd_set {l : List Int} {i j : Nat} {v : Int} (h : j ≠ i) : gd (l.set i v) j = gd l j := by
  unfold gd; rw [List.getElem?_set_ne (by omega)]
theorem gd_zeros (n j : Nat) : gd (List.replicate n 0) j = 0 := by
  unfold gd; rw [List.getElem?_replicate]; split <;> rfl
theorem nv_zeros (n : Nat) : nv (List.replicate n 0) = 0 := by
  induction n with
  | zero => rfl
  | succ n ih => rw [List.replicate_succ, nv, ih]; rfl
theorem inR_zeros (n : Nat) : inR (List.replicate n 0) := by
  intro d hd
  obtain rfl := (List.mem_replicate.1 hd).2
  decide
theorem zeros_flat (n : Nat) : List.replicate n (Value.int .i64 0) = (List.replicate n (0 : Int)).flatMap encD := by
  induction n with
  | zero => rfl
  | succ n ih => rw [List.replicate_succ, List.replicate_succ, List.flatMap_cons, ← ih]; rfl
theorem nv_take_succ (ys : List Int) (k : Nat) : nv (ys.take (k + 1)) = nv (ys.take k) + 10000 ^ k * gd ys k := by
  unfold gd
  rw [List.take_add_one]
  cases h : ys[k]? with
  | none => simp
  | some d =>
    have := (List.getElem?_eq_some_iff.1 h).1
    simp only [Option.toList, Option.getD]
    rw [nv_snoc, List.length_take, Nat.min_eq_left (by omega)]
theorem mul_bd {a b : Int} (ha : 0 ≤ a ∧ a ≤ 9999) (hb : 0 ≤ b ∧ b ≤ 9999) : 0 ≤ a * b ∧ a * b ≤ 99980001 :=
  ⟨Int.mul_nonneg ha.1 hb.1, Int.mul_le_mul ha.2 hb.2 hb.1 (by decide)⟩
theorem mul_step {nD V0 a b c d x Q R T : Int} (h : nD + Q * R * c = V0 + a * Q * T) (hx : x = d + c + a * b) : (nD + Q * R * (x % 10000 - d)) + Q * R * 10000 * (x / 10000) = V0 + a * Q * (T + R * b) := by
  have e : x % 10000 = x - 10000 * (x / 10000) := by omega
  rw [e]
  generalize x / 10000 = q
  subst hx
  grind
theorem mul_end {nD V0 a Q T S : Int} (h : nD + S * 0 = V0 + a * Q * T) {A : Int} (hV : V0 = A * T) : nD = (A + Q * a) * T := by
  grind
theorem sgn_mul (x y : Int) : sgn (decide (decide (x < 0) ≠ decide (y < 0))) ((x.natAbs : Int) * y.natAbs) = x * y := by
  have hx : (x.natAbs : Int) = if x < 0 then -x else x := by split <;> omega
  have hy : (y.natAbs : Int) = if y < 0 then -y else y := by split <;> omega
  rw [hx, hy]
  unfold sgn
  by_cases h1 : x < 0 <;> by_cases h2 : y < 0 <;> simp [h1, h2, Int.neg_mul, Int.mul_neg]
theorem dig_set {D : List Int} {i : Nat} {d v : Int} (hd : D[i]? = some d) : (D.flatMap encD).set (0 + i * 1) (.int .i64 v) = (D.set i v).flatMap encD := by
  rw [Nat.zero_add]
  exact flat_set encD 1 (fun _ => rfl) D i d v 0 (.int .i64 v) hd (by decide) rfl
theorem own_dig {Γ : List Asn} {g c n : Nat} {l : List Int} (hm : ownA 3 1 (.slice (some ⟨g, 0, none⟩) n c) n (l.flatMap encD) ∈ Γ) {i : Nat} {d : Int} (hd : l[i]? = some d) : ∀ w, Hd Γ w → w.cell? ⟨g, 0 + i * 1, none⟩ = some (.int .i64 d) := by
  intro w hh
  have h : w.ownsRow 0 3 1 (.slice (some ⟨g, 0, none⟩) n c) n (l.flatMap encD) := hh _ hm
  have := row_of_own (enc := encD) (fun _ => rfl) h i (encD d) (by simp [hd]) 0 (.int .i64 d) rfl
  simpa using this

set_option maxHeartbeats 1000000 in
set_option maxRecDepth 100000 in
theorem BigMul_P (p q : Option (Nat × Nat)) (c1 c2 : Nat) (x y : Int) (hx : (dgs x.natAbs).length ≤ 100000) (hy : (dgs y.natAbs).length ≤ 100000) (w0 : World) (h : (twoA p q (dgs x.natAbs) (dgs y.natAbs)).ok w0) :
    NewC Try.prog 105 [bigV x p c1, bigV y q c2] w0 (fun r : At (x * y) => bigV (x * y) (some (r.1.1, 0)) r.1.2) (fun r => bigA (x * y) r.1.1) := by
  have hp := h.now.1
  have hq := h.now.2
  have inx := inR_dgs x.natAbs
  have iny := inR_dgs y.natAbs
  refine c_enter [(0, bigV x p c1), (1, bigV y q c2)] [twoA p q (dgs x.natAbs) (dgs y.natAbs)] noB Try.func105 rfl Try.ntmps105 ⟨rfl, rfl, trivial⟩ rfl (by intro X hX; obtain rfl := List.mem_singleton.1 hX; exact h) (by simp) (by intro X hX hm; obtain rfl := List.mem_singleton.1 hX; cases hm) ?_
  intro a hS
  refine c_seq ?_
  refine c_region ?_
  refine L_op (s_boxA hS rfl rfl ?_); clear hS a; (try clear w); intro a w b2 hS
  refine L_op (s_boxA hS rfl rfl ?_); clear hS a; (try clear w); intro a w b3 hS
  refine L_op (s_alloc hS ty_z44 rfl ?_); clear hS a; (try clear w); intro a w b4 hS
  refine L_nil ?_
  refine n_then ?_
  refine c_seq ?_
  refine c_region ?_
  first | (refine L_op (s_e hS (e_fa0 rfl ty_fo44_1) rfl ?_); clear hS a; intro a hS) | (refine L_op (s_e hS (e_faK rfl ty_fo44_1) rfl ?_); clear hS a; intro a hS)
  refine L_op (s_e hS (e_load rfl (by repeat constructor) ty_sc42 (by rfl)) rfl ?_); clear hS a; intro a hS
  refine L_op (s_e hS (e_len rfl rfl ty_sl42) rfl ?_); clear hS a; intro a hS
  first | (refine L_op (s_e hS (e_fa0 rfl ty_fo44_1) rfl ?_); clear hS a; intro a hS) | (refine L_op (s_e hS (e_faK rfl ty_fo44_1) rfl ?_); clear hS a; intro a hS)
  refine L_op (s_e hS (e_load rfl (by repeat constructor) ty_sc42 (by rfl)) rfl ?_); clear hS a; intro a hS
  refine L_op (s_e hS (e_len rfl rfl ty_sl42) rfl ?_); clear hS a; intro a hS
  first | (refine L_op (s_e hS (e_binN rfl rfl rfl (by omega)) rfl ?_); clear hS a; intro a hS) | (refine L_op (s_e hS (e_bin rfl rfl rfl) rfl ?_); clear hS a; intro a hS)
  first | (refine L_op (s_e hS (e_binN rfl rfl rfl (by omega)) rfl ?_); clear hS a; intro a hS) | (refine L_op (s_e hS (e_bin rfl rfl rfl) rfl ?_); clear hS a; intro a hS)
  refine L_op (s_makeN1 (c := (dgs x.natAbs).length + (dgs y.natAbs).length + 1) hS rfl rfl ty_sl42 ty_sz3 ty_by3 ty_z3 rfl (by omega) ?_); clear hS a; (try clear w); intro b18 a w hS; rw [zeros_flat] at hS
  refine L_op (s_e hS (e_assign rfl) rfl ?_); clear hS a; intro a hS
  refine L_nil ?_
  refine n_then ?_
  refine c_seq ?_
  refine c_seq ?_
  refine c_region ?_
  refine L_op (s_e hS (e_assign rfl) rfl ?_); clear hS a; intro a hS
  refine L_nil ?_
  refine n_then ?_
  refine wp_block ?_
  skip
  refine c_loop (γ := (Nat × List Int)) (fun G a w => St 79 noB w0 a w [(6, .int .i64 (G.1 : Int)), (5, .slice (some ⟨b18, 0, none⟩) ((dgs x.natAbs).length + (dgs y.natAbs).length + 1) ((dgs x.natAbs).length + (dgs y.natAbs).length + 1)), (2, .pointer (some ⟨b2, 0, none⟩)), (3, .pointer (some ⟨b3, 0, none⟩)), (4, .pointer (some ⟨b4, 0, none⟩))] [ownA 3 1 (.slice (some ⟨b18, 0, none⟩) ((dgs x.natAbs).length + (dgs y.natAbs).length + 1) ((dgs x.natAbs).length + (dgs y.natAbs).length + 1)) ((dgs x.natAbs).length + (dgs y.natAbs).length + 1) (G.2.flatMap encD), .blk b4 [.bool false, .slice none 0 0] 44, .blk b3 [.bool (decide (y < 0)), sliceV q (dgs y.natAbs).length c2] 44, .blk b2 [.bool (decide (x < 0)), sliceV p (dgs x.natAbs).length c1] 44, twoA p q (dgs x.natAbs) (dgs y.natAbs)] ∧ G.1 ≤ (dgs x.natAbs).length ∧ G.2.length = (dgs x.natAbs).length + (dgs y.natAbs).length + 1 ∧ inR G.2 ∧ (∀ j, G.1 + (dgs y.natAbs).length ≤ j → gd G.2 j = 0) ∧ nv G.2 = nv ((dgs x.natAbs).take G.1) * nv (dgs y.natAbs)) (fun G => (dgs x.natAbs).length - G.1) (0, List.replicate ((dgs x.natAbs).length + (dgs y.natAbs).length + 1) 0) ⟨hS.slots ⟨rfl, rfl, rfl, rfl, rfl, trivial⟩, Nat.zero_le _, by simp, inR_zeros _, fun j _ => gd_zeros _ _, by rw [nv_zeros, List.take_zero]; simp [nv]⟩ ?_
  clear hS a; (try clear w); intro G a w hI
  obtain ⟨i, D0⟩ := G
  obtain ⟨hS, hi, hlD0, hinD0, hzD0, hvD0⟩ := hI
  simp only at hS hi hlD0 hinD0 hzD0 hvD0
  refine c_seq ?_
  refine c_seq ?_
  refine c_region ?_
  refine L_op (s_e hS (e_move rfl) rfl ?_); clear hS a; intro a hS
  first | (refine L_op (s_e hS (e_fa0 rfl ty_fo44_1) rfl ?_); clear hS a; intro a hS) | (refine L_op (s_e hS (e_faK rfl ty_fo44_1) rfl ?_); clear hS a; intro a hS)
  refine L_op (s_e hS (e_load rfl (by repeat constructor) ty_sc42 (by rfl)) rfl ?_); clear hS a; intro a hS
  refine L_op (s_e hS (e_len rfl rfl ty_sl42) rfl ?_); clear hS a; intro a hS
  refine L_op (s_e hS (e_bin rfl rfl rfl) rfl ?_); clear hS a; intro a hS
  refine L_nil ?_
  refine n_then ?_
  first | refine c_ifD hS rfl (fun hc23 => ?_) (fun hc23 => ?_) | refine c_if hS rfl (fun hc23 => ?_) (fun hc23 => ?_)
  ·
    obtain ⟨ax, hax⟩ : ∃ d, (dgs x.natAbs)[i]? = some d := ⟨(dgs x.natAbs)[i]'(by omega), List.getElem?_eq_getElem (by omega)⟩
    obtain ⟨bp, op, rfl⟩ := two_pos hp (fun e => by rw [e] at hax; cases hax)
    have hab := inx ax (List.mem_of_getElem? hax)
    refine wp_skip ?_
    refine n_then ?_
    refine c_seq ?_
    refine wp_block ?_
    refine c_seq ?_
    refine c_region ?_
    refine L_op (s_e hS (e_assign rfl) rfl ?_); clear hS a; intro a hS
    refine L_nil ?_
    refine n_then ?_
    refine c_seq ?_
    refine c_region ?_
    refine L_op (s_e hS (e_assign rfl) rfl ?_); clear hS a; intro a hS
    refine L_nil ?_
    refine n_then ?_
    refine wp_block ?_
    skip
    refine c_loop (γ := (Nat × Int × List Int)) (fun G a w => St 79 noB w0 a w [(8, .int .i64 (G.1 : Int)), (7, .int .i64 G.2.1), (6, .int .i64 (i : Int)), (5, .slice (some ⟨b18, 0, none⟩) ((dgs x.natAbs).length + (dgs y.natAbs).length + 1) ((dgs x.natAbs).length + (dgs y.natAbs).length + 1)), (2, .pointer (some ⟨b2, 0, none⟩)), (3, .pointer (some ⟨b3, 0, none⟩)), (4, .pointer (some ⟨b4, 0, none⟩))] [ownA 3 1 (.slice (some ⟨b18, 0, none⟩) ((dgs x.natAbs).length + (dgs y.natAbs).length + 1) ((dgs x.natAbs).length + (dgs y.natAbs).length + 1)) ((dgs x.natAbs).length + (dgs y.natAbs).length + 1) (G.2.2.flatMap encD), .blk b4 [.bool false, .slice none 0 0] 44, .blk b3 [.bool (decide (y < 0)), sliceV q (dgs y.natAbs).length c2] 44, .blk b2 [.bool (decide (x < 0)), sliceV (some (bp, op)) (dgs x.natAbs).length c1] 44, twoA (some (bp, op)) q (dgs x.natAbs) (dgs y.natAbs)] ∧ G.1 ≤ (dgs y.natAbs).length + 1 ∧ (0 ≤ G.2.1 ∧ G.2.1 ≤ 9999) ∧ (G.1 = (dgs y.natAbs).length + 1 → G.2.1 = 0) ∧ G.2.2.length = (dgs x.natAbs).length + (dgs y.natAbs).length + 1 ∧ inR G.2.2 ∧ (∀ j, i + (dgs y.natAbs).length ≤ j → i + G.1 ≤ j → gd G.2.2 j = 0) ∧ nv G.2.2 + 10000 ^ i * 10000 ^ G.1 * G.2.1 = nv D0 + ax * 10000 ^ i * nv ((dgs y.natAbs).take G.1)) (fun G => (dgs y.natAbs).length + 2 - G.1) (0, 0, D0) ⟨hS.slots ⟨rfl, rfl, rfl, rfl, rfl, rfl, rfl, trivial⟩, Nat.zero_le _, (by simp), fun _ => rfl, hlD0, hinD0, fun j h1 _ => hzD0 j h1, by simp [nv]⟩ ?_
    clear hS a; (try clear w); intro G a w hI
    obtain ⟨k, cy, D⟩ := G
    obtain ⟨hS, hk, hcy, hkc, hlD, hinD, hzD, hvD⟩ := hI
    simp only at hS hk hcy hkc hlD hinD hzD hvD
    refine c_seq ?_
    refine c_seq ?_
    refine c_region ?_
    refine L_op (s_e hS (e_move rfl) rfl ?_); clear hS a; intro a hS
    first | (refine L_op (s_e hS (e_fa0 rfl ty_fo44_1) rfl ?_); clear hS a; intro a hS) | (refine L_op (s_e hS (e_faK rfl ty_fo44_1) rfl ?_); clear hS a; intro a hS)
    refine L_op (s_e hS (e_load rfl (by repeat constructor) ty_sc42 (by rfl)) rfl ?_); clear hS a; intro a hS
    refine L_op (s_e hS (e_len rfl rfl ty_sl42) rfl ?_); clear hS a; intro a hS
    refine L_op (s_e hS (e_bin rfl rfl rfl) rfl ?_); clear hS a; intro a hS
    refine L_op (s_e hS (e_move rfl) rfl ?_); clear hS a; intro a hS
    (first | refine g_splitD (t := 31) hS rfl ?_ ?_ | refine g_split (t := 31) hS rfl ?_ ?_) <;> (clear hS; intro hg31 hS)
    ·
      refine L_skip_f hS rfl rfl rfl ?_; clear hS a; intro a hS
      refine L_skip_f hS rfl rfl rfl ?_; clear hS a; intro a hS
      first | (refine L_op (s_e hS (e_pick_t rfl rfl) rfl ?_); clear hS a; intro a hS) | (refine L_op (s_e hS (e_pick_f rfl rfl) rfl ?_); clear hS a; intro a hS)
      refine L_nil ?_
      refine n_then ?_
      refine c_if_t hS rfl ?_
      refine wp_skip ?_
      refine n_then ?_
      refine c_seq ?_
      refine wp_block ?_
      refine c_seq ?_
      refine c_region ?_
      have hk2 : k ≤ (dgs y.natAbs).length := by
        rcases Nat.lt_or_ge k ((dgs y.natAbs).length + 1) with h1 | h1
        · omega
        · have := hkc (by omega); omega
      have hkn : ((i : Int) + (k : Int)).toNat = i + k := by omega
      obtain ⟨d, hd⟩ : ∃ d, D[i + k]? = some d := ⟨D[i + k]'(by omega), List.getElem?_eq_getElem (by omega)⟩
      have hdb := hinD d (List.mem_of_getElem? hd)
      have hyb := gd_in iny k
      have hm := mul_bd hab hyb
      refine L_op (s_e hS (e_move rfl) rfl ?_); clear hS a; intro a hS
      refine L_op (s_e hS (e_move rfl) rfl ?_); clear hS a; intro a hS
      refine L_op (s_e hS (e_move rfl) rfl ?_); clear hS a; intro a hS
      first | (refine L_op (s_e hS (e_binN rfl rfl rfl (by omega)) rfl ?_); clear hS a; intro a hS) | (refine L_op (s_e hS (e_bin rfl rfl rfl) rfl ?_); clear hS a; intro a hS)
      refine L_op (s_e hS (e_ix rfl rfl ty_sl42 ty_sz3 (by omega)) rfl ?_); clear hS a; intro a hS
      refine L_op (s_e hS (e_loadC rfl ty_sc3 (fun w hh => by rw [hkn]; exact own_dig (by repeat (first | exact .head _ | refine .tail _ ?_)) hd w hh)) rfl ?_); clear hS a; intro a hS
      refine L_op (s_e hS (e_move rfl) rfl ?_); clear hS a; intro a hS
      first | (refine L_op (s_e hS (e_binN rfl rfl rfl (by omega)) rfl ?_); clear hS a; intro a hS) | (refine L_op (s_e hS (e_bin rfl rfl rfl) rfl ?_); clear hS a; intro a hS)
      refine L_op (s_e hS (e_assign rfl) rfl ?_); clear hS a; intro a hS
      refine L_nil ?_
      refine n_then ?_
      refine c_cut (fun a w => ∃ xx : Int, St 79 noB w0 a w [(9, .int .i64 xx), (8, .int .i64 (k : Int)), (7, .int .i64 cy), (6, .int .i64 (i : Int)), (5, .slice (some ⟨b18, 0, none⟩) ((dgs x.natAbs).length + (dgs y.natAbs).length + 1) ((dgs x.natAbs).length + (dgs y.natAbs).length + 1)), (2, .pointer (some ⟨b2, 0, none⟩)), (3, .pointer (some ⟨b3, 0, none⟩)), (4, .pointer (some ⟨b4, 0, none⟩))] [ownA 3 1 (.slice (some ⟨b18, 0, none⟩) ((dgs x.natAbs).length + (dgs y.natAbs).length + 1) ((dgs x.natAbs).length + (dgs y.natAbs).length + 1)) ((dgs x.natAbs).length + (dgs y.natAbs).length + 1) (D.flatMap encD), .blk b4 [.bool false, .slice none 0 0] 44, .blk b3 [.bool (decide (y < 0)), sliceV q (dgs y.natAbs).length c2] 44, .blk b2 [.bool (decide (x < 0)), sliceV (some (bp, op)) (dgs x.natAbs).length c1] 44, twoA (some (bp, op)) q (dgs x.natAbs) (dgs y.natAbs)] ∧ xx = d + cy + ax * gd (dgs y.natAbs) k) ?_ ?_
      ·
        refine c_seq ?_
        refine c_region ?_
        refine L_op (s_e hS (e_move rfl) rfl ?_); clear hS a; intro a hS
        first | (refine L_op (s_e hS (e_fa0 rfl ty_fo44_1) rfl ?_); clear hS a; intro a hS) | (refine L_op (s_e hS (e_faK rfl ty_fo44_1) rfl ?_); clear hS a; intro a hS)
        refine L_op (s_e hS (e_load rfl (by repeat constructor) ty_sc42 (by rfl)) rfl ?_); clear hS a; intro a hS
        refine L_op (s_e hS (e_len rfl rfl ty_sl42) rfl ?_); clear hS a; intro a hS
        refine L_op (s_e hS (e_bin rfl rfl rfl) rfl ?_); clear hS a; intro a hS
        refine L_nil ?_
        refine n_then ?_
        first | refine c_ifD hS rfl (fun hc49 => ?_) (fun hc49 => ?_) | refine c_if hS rfl (fun hc49 => ?_) (fun hc49 => ?_)
        ·
          obtain ⟨e, he⟩ : ∃ d, (dgs y.natAbs)[k]? = some d := ⟨(dgs y.natAbs)[k]'(by omega), List.getElem?_eq_getElem (by omega)⟩
          obtain ⟨bq, oq, rfl⟩ := two_pos hq (fun e => by rw [e] at he; cases he)
          have hgd : gd (dgs y.natAbs) k = e := by unfold gd; rw [he]; rfl
          rw [hgd] at hm hyb
          refine c_draw1 [] (by kernel_rfl) hS ?_; clear hS; (try clear w); intro w hS
          simp only [List.length_cons, List.length_nil, Nat.zero_add, Nat.reduceAdd, List.replicate]
          refine Z_take0 (i := 0) hS rfl want_none (e_move rfl) (listed' := [true, false, false, false, false, false, false, false, false, false, false, false, false, false]) rfl (by kernel_rfl) (by kernel_rfl) (by kernel_rfl) (fun _ _ _ h => h) rfl ?_; clear hS a; intro a hS
          first | (refine Z_take0 (i := 1) hS rfl want_none (e_fa0 rfl ty_fo44_1) (listed' := [true, true, false, false, false, false, false, false, false, false, false, false, false, false]) rfl (by kernel_rfl) (by kernel_rfl) (by kernel_rfl) (fun _ _ _ h => h) rfl ?_; clear hS a; intro a hS) | (refine Z_take0 (i := 1) hS rfl want_none (e_faK rfl ty_fo44_1) (listed' := [true, true, false, false, false, false, false, false, false, false, false, false, false, false]) rfl (by kernel_rfl) (by kernel_rfl) (by kernel_rfl) (fun _ _ _ h => h) rfl ?_; clear hS a; intro a hS)
          refine Z_take (i := 2) hS rfl want_none (e_load rfl (by repeat constructor) ty_sc42 (by rfl)) (listed' := [true, true, true, false, false, false, false, false, false, false, false, false, false, false]) rfl (by kernel_rfl) (by kernel_rfl) (by kernel_rfl) (by kernel_rfl) (by kernel_rfl) (by intro X hX; repeat (first | exact hX | apply List.Mem.tail)) (fun _ _ _ h => h) rfl ?_; clear hS a; intro a hS
          refine Z_take0 (i := 3) hS rfl want_none (e_move rfl) (listed' := [true, true, true, true, false, false, false, false, false, false, false, false, false, false]) rfl (by kernel_rfl) (by kernel_rfl) (by kernel_rfl) (fun _ _ _ h => h) rfl ?_; clear hS a; intro a hS
          refine Z_take0 (i := 4) hS rfl want_none (e_ixN rfl rfl ty_sl42 ty_sz3 (by omega)) (listed' := [true, true, true, true, true, false, false, false, false, false, false, false, false, false]) rfl (by kernel_rfl) (by kernel_rfl) (by kernel_rfl) (fun _ _ _ h => h) rfl ?_; clear hS a; intro a hS
          refine Z_take (i := 5) hS rfl want_none (e_loadC rfl ty_sc3 (two_l (by repeat (first | exact .head _ | refine .tail _ ?_)) hax)) (listed' := [true, true, true, true, true, true, false, false, false, false, false, false, false, false]) rfl (by kernel_rfl) (by kernel_rfl) (by kernel_rfl) (by kernel_rfl) (by kernel_rfl) (by intro X hX; repeat (first | exact hX | apply List.Mem.tail)) (fun _ _ _ h => h) rfl ?_; clear hS a; intro a hS
          first | (refine Z_take0 (i := 6) hS rfl want_none (e_fa0 rfl ty_fo44_1) (listed' := [true, true, true, true, true, true, true, false, false, false, false, false, false, false]) rfl (by kernel_rfl) (by kernel_rfl) (by kernel_rfl) (fun _ _ _ h => h) rfl ?_; clear hS a; intro a hS) | (refine Z_take0 (i := 6) hS rfl want_none (e_faK rfl ty_fo44_1) (listed' := [true, true, true, true, true, true, true, false, false, false, false, false, false, false]) rfl (by kernel_rfl) (by kernel_rfl) (by kernel_rfl) (fun _ _ _ h => h) rfl ?_; clear hS a; intro a hS)
          refine Z_take (i := 7) hS rfl want_none (e_load rfl (by repeat constructor) ty_sc42 (by rfl)) (listed' := [true, true, true, true, true, true, true, true, false, false, false, false, false, false]) rfl (by kernel_rfl) (by kernel_rfl) (by kernel_rfl) (by kernel_rfl) (by kernel_rfl) (by intro X hX; repeat (first | exact hX | apply List.Mem.tail)) (fun _ _ _ h => h) rfl ?_; clear hS a; intro a hS
          refine Z_take0 (i := 8) hS rfl want_none (e_move rfl) (listed' := [true, true, true, true, true, true, true, true, true, false, false, false, false, false]) rfl (by kernel_rfl) (by kernel_rfl) (by kernel_rfl) (fun _ _ _ h => h) rfl ?_; clear hS a; intro a hS
          refine Z_take0 (i := 9) hS rfl want_none (e_ixN rfl rfl ty_sl42 ty_sz3 (by omega)) (listed' := [true, true, true, true, true, true, true, true, true, true, false, false, false, false]) rfl (by kernel_rfl) (by kernel_rfl) (by kernel_rfl) (fun _ _ _ h => h) rfl ?_; clear hS a; intro a hS
          refine Z_take (i := 10) hS rfl want_none (e_loadC rfl ty_sc3 (two_r (by repeat (first | exact .head _ | refine .tail _ ?_)) he)) (listed' := [true, true, true, true, true, true, true, true, true, true, true, false, false, false]) rfl (by kernel_rfl) (by kernel_rfl) (by kernel_rfl) (by kernel_rfl) (by kernel_rfl) (by intro X hX; repeat (first | exact hX | apply List.Mem.tail)) (fun _ _ _ h => h) rfl ?_; clear hS a; intro a hS
          first | (refine Z_take0 (i := 11) hS rfl want_none (e_binN rfl rfl rfl (by omega)) (listed' := [true, true, true, true, true, true, true, true, true, true, true, true, false, false]) rfl (by kernel_rfl) (by kernel_rfl) (by kernel_rfl) (fun _ _ _ h => h) rfl ?_; clear hS a; intro a hS) | (refine Z_take0 (i := 11) hS rfl want_none (e_bin rfl rfl rfl) (listed' := [true, true, true, true, true, true, true, true, true, true, true, true, false, false]) rfl (by kernel_rfl) (by kernel_rfl) (by kernel_rfl) (fun _ _ _ h => h) rfl ?_; clear hS a; intro a hS)
          first | (refine Z_take0 (i := 12) hS rfl want_none (e_binN rfl rfl rfl (by omega)) (listed' := [true, true, true, true, true, true, true, true, true, true, true, true, true, false]) rfl (by kernel_rfl) (by kernel_rfl) (by kernel_rfl) (fun _ _ _ h => h) rfl ?_; clear hS a; intro a hS) | (refine Z_take0 (i := 12) hS rfl want_none (e_bin rfl rfl rfl) (listed' := [true, true, true, true, true, true, true, true, true, true, true, true, true, false]) rfl (by kernel_rfl) (by kernel_rfl) (by kernel_rfl) (fun _ _ _ h => h) rfl ?_; clear hS a; intro a hS)
          refine Z_take0 (i := 13) hS rfl want_none (e_assign rfl) (listed' := [true, true, true, true, true, true, true, true, true, true, true, true, true, true]) rfl (by kernel_rfl) (by kernel_rfl) (by kernel_rfl) (fun _ _ _ h => h) rfl ?_; clear hS a; intro a hS
          refine Z_done (by kernel_rfl) ?_
          exact ⟨_, hS.slots (by exact ⟨rfl, rfl, rfl, rfl, rfl, rfl, rfl, rfl, trivial⟩), by rw [hgd]; try omega⟩
        ·
          have hgd : gd (dgs y.natAbs) k = 0 := by unfold gd; rw [List.getElem?_eq_none (by omega)]; rfl
          refine wp_skip ?_
          exact ⟨_, hS.slots (by exact ⟨rfl, rfl, rfl, rfl, rfl, rfl, rfl, rfl, trivial⟩), by rw [hgd]; try omega⟩
      ·
        clear hS a; (try clear w); intro a w hS
        obtain ⟨xx, hS, hxx⟩ := hS
        have hs2 := mul_step hvD hxx
        refine c_seq ?_
        refine c_region ?_
        refine L_op (s_e hS (e_move rfl) rfl ?_); clear hS a; intro a hS
        refine L_op (s_e hS (e_move rfl) rfl ?_); clear hS a; intro a hS
        refine L_op (s_e hS (e_move rfl) rfl ?_); clear hS a; intro a hS
        first | (refine L_op (s_e hS (e_binN rfl rfl rfl (by omega)) rfl ?_); clear hS a; intro a hS) | (refine L_op (s_e hS (e_bin rfl rfl rfl) rfl ?_); clear hS a; intro a hS)
        refine L_op (s_e hS (e_move rfl) rfl ?_); clear hS a; intro a hS
        first | (refine L_op (s_e hS (e_remN rfl rfl (by omega)) rfl ?_); clear hS a; intro a hS) | (refine L_op (s_e hS (e_rem rfl rfl (by omega)) rfl ?_); clear hS a; intro a hS)
        refine L_op (s_e hS (e_ix rfl rfl ty_sl42 ty_sz3 (by omega)) rfl ?_); clear hS a; intro a hS
        refine L_op (s_storeO hS rfl rfl rfl ty_sz3 (by repeat (first | apply Rep.head | apply Rep.tail)) (by omega) ?_); clear hS; (try clear w); intro w hS; rw [hkn, dig_set hd] at hS
        refine L_nil ?_
        refine n_then ?_
        refine c_region ?_
        refine L_op (s_e hS (e_move rfl) rfl ?_); clear hS a; intro a hS
        first | (refine L_op (s_e hS (e_quoN rfl rfl (by omega)) rfl ?_); clear hS a; intro a hS) | (refine L_op (s_e hS (e_quo rfl rfl (by omega)) rfl ?_); clear hS a; intro a hS)
        refine L_op (s_e hS (e_assign rfl) rfl ?_); clear hS a; intro a hS
        refine L_nil ?_
        refine n_block ?_
        refine n_then ?_
        refine c_region ?_
        refine L_op (s_e hS (e_move rfl) rfl ?_); clear hS a; intro a hS
        first | (refine L_op (s_e hS (e_binN rfl rfl rfl (by omega)) rfl ?_); clear hS a; intro a hS) | (refine L_op (s_e hS (e_bin rfl rfl rfl) rfl ?_); clear hS a; intro a hS)
        refine L_op (s_e hS (e_assign rfl) rfl ?_); clear hS a; intro a hS
        refine L_nil ?_
        refine ⟨(k + 1, xx / 10000, D.set (i + k) (xx % 10000)), by simp only; omega, hS.slots (by exact ⟨rfl, rfl, rfl, rfl, rfl, rfl, rfl, trivial⟩), by simp only; omega, by simp only; omega, fun h1 => ?_, by simp only [List.length_set]; exact hlD, inR_set hinD (by omega), fun j h1 h2 => ?_, ?_⟩
        · simp only at h1 ⊢
          have hz0 := hzD (i + k) (by omega) (Nat.le_refl _)
          have hd0 : d = 0 := by rw [gd, hd] at hz0; exact hz0
          have hg0 : gd (dgs y.natAbs) k = 0 := by unfold gd; rw [List.getElem?_eq_none (by omega)]; rfl
          rw [hg0, Int.mul_zero] at hxx
          omega
        · simp only at h1 h2 ⊢
          rw [gd_set (by omega)]
          exact hzD j h1 (by omega)
        · simp only
          rw [nv_set _ hd, nv_take_succ, Int.pow_add, Int.pow_succ, ← hs2, ← Int.mul_assoc]
    ·
      refine L_go hS rfl rfl (s_e hS (e_move rfl) rfl ?_); clear hS a; intro a hS
      refine L_go hS rfl rfl (s_e hS (e_bin rfl rfl rfl) rfl ?_); clear hS a; intro a hS
      first | (refine L_op (s_e hS (e_pick_t rfl rfl) rfl ?_); clear hS a; intro a hS) | (refine L_op (s_e hS (e_pick_f rfl rfl) rfl ?_); clear hS a; intro a hS)
      refine L_nil ?_
      refine n_then ?_
      first | refine c_ifD hS rfl (fun hc34 => ?_) (fun hc34 => ?_) | refine c_if hS rfl (fun hc34 => ?_) (fun hc34 => ?_)
      ·
        refine wp_skip ?_
        refine n_then ?_
        refine c_seq ?_
        refine wp_block ?_
        refine c_seq ?_
        refine c_region ?_
        have hk2 : k ≤ (dgs y.natAbs).length := by
          rcases Nat.lt_or_ge k ((dgs y.natAbs).length + 1) with h1 | h1
          · omega
          · have := hkc (by omega); omega
        have hkn : ((i : Int) + (k : Int)).toNat = i + k := by omega
        obtain ⟨d, hd⟩ : ∃ d, D[i + k]? = some d := ⟨D[i + k]'(by omega), List.getElem?_eq_getElem (by omega)⟩
        have hdb := hinD d (List.mem_of_getElem? hd)
        have hyb := gd_in iny k
        have hm := mul_bd hab hyb
        refine L_op (s_e hS (e_move rfl) rfl ?_); clear hS a; intro a hS
        refine L_op (s_e hS (e_move rfl) rfl ?_); clear hS a; intro a hS
        refine L_op (s_e hS (e_move rfl) rfl ?_); clear hS a; intro a hS
        first | (refine L_op (s_e hS (e_binN rfl rfl rfl (by omega)) rfl ?_); clear hS a; intro a hS) | (refine L_op (s_e hS (e_bin rfl rfl rfl) rfl ?_); clear hS a; intro a hS)
        refine L_op (s_e hS (e_ix rfl rfl ty_sl42 ty_sz3 (by omega)) rfl ?_); clear hS a; intro a hS
        refine L_op (s_e hS (e_loadC rfl ty_sc3 (fun w hh => by rw [hkn]; exact own_dig (by repeat (first | exact .head _ | refine .tail _ ?_)) hd w hh)) rfl ?_); clear hS a; intro a hS
        refine L_op (s_e hS (e_move rfl) rfl ?_); clear hS a; intro a hS
        first | (refine L_op (s_e hS (e_binN rfl rfl rfl (by omega)) rfl ?_); clear hS a; intro a hS) | (refine L_op (s_e hS (e_bin rfl rfl rfl) rfl ?_); clear hS a; intro a hS)
        refine L_op (s_e hS (e_assign rfl) rfl ?_); clear hS a; intro a hS
        refine L_nil ?_
        refine n_then ?_
        refine c_cut (fun a w => ∃ xx : Int, St 79 noB w0 a w [(9, .int .i64 xx), (8, .int .i64 (k : Int)), (7, .int .i64 cy), (6, .int .i64 (i : Int)), (5, .slice (some ⟨b18, 0, none⟩) ((dgs x.natAbs).length + (dgs y.natAbs).length + 1) ((dgs x.natAbs).length + (dgs y.natAbs).length + 1)), (2, .pointer (some ⟨b2, 0, none⟩)), (3, .pointer (some ⟨b3, 0, none⟩)), (4, .pointer (some ⟨b4, 0, none⟩))] [ownA 3 1 (.slice (some ⟨b18, 0, none⟩) ((dgs x.natAbs).length + (dgs y.natAbs).length + 1) ((dgs x.natAbs).length + (dgs y.natAbs).length + 1)) ((dgs x.natAbs).length + (dgs y.natAbs).length + 1) (D.flatMap encD), .blk b4 [.bool false, .slice none 0 0] 44, .blk b3 [.bool (decide (y < 0)), sliceV q (dgs y.natAbs).length c2] 44, .blk b2 [.bool (decide (x < 0)), sliceV (some (bp, op)) (dgs x.natAbs).length c1] 44, twoA (some (bp, op)) q (dgs x.natAbs) (dgs y.natAbs)] ∧ xx = d + cy + ax * gd (dgs y.natAbs) k) ?_ ?_
        ·
          refine c_seq ?_
          refine c_region ?_
          refine L_op (s_e hS (e_move rfl) rfl ?_); clear hS a; intro a hS
          first | (refine L_op (s_e hS (e_fa0 rfl ty_fo44_1) rfl ?_); clear hS a; intro a hS) | (refine L_op (s_e hS (e_faK rfl ty_fo44_1) rfl ?_); clear hS a; intro a hS)
          refine L_op (s_e hS (e_load rfl (by repeat constructor) ty_sc42 (by rfl)) rfl ?_); clear hS a; intro a hS
          refine L_op (s_e hS (e_len rfl rfl ty_sl42) rfl ?_); clear hS a; intro a hS
          refine L_op (s_e hS (e_bin rfl rfl rfl) rfl ?_); clear hS a; intro a hS
          refine L_nil ?_
          refine n_then ?_
          first | refine c_ifD hS rfl (fun hc49 => ?_) (fun hc49 => ?_) | refine c_if hS rfl (fun hc49 => ?_) (fun hc49 => ?_)
          ·
            obtain ⟨e, he⟩ : ∃ d, (dgs y.natAbs)[k]? = some d := ⟨(dgs y.natAbs)[k]'(by omega), List.getElem?_eq_getElem (by omega)⟩
            obtain ⟨bq, oq, rfl⟩ := two_pos hq (fun e => by rw [e] at he; cases he)
            have hgd : gd (dgs y.natAbs) k = e := by unfold gd; rw [he]; rfl
            rw [hgd] at hm hyb
            refine c_draw1 [] (by kernel_rfl) hS ?_; clear hS; (try clear w); intro w hS
            simp only [List.length_cons, List.length_nil, Nat.zero_add, Nat.reduceAdd, List.replicate]
            refine Z_take0 (i := 0) hS rfl want_none (e_move rfl) (listed' := [true, false, false, false, false, false, false, false, false, false, false, false, false, false]) rfl (by kernel_rfl) (by kernel_rfl) (by kernel_rfl) (fun _ _ _ h => h) rfl ?_; clear hS a; intro a hS
            first | (refine Z_take0 (i := 1) hS rfl want_none (e_fa0 rfl ty_fo44_1) (listed' := [true, true, false, false, false, false, false, false, false, false, false, false, false, false]) rfl (by kernel_rfl) (by kernel_rfl) (by kernel_rfl) (fun _ _ _ h => h) rfl ?_; clear hS a; intro a hS) | (refine Z_take0 (i := 1) hS rfl want_none (e_faK rfl ty_fo44_1) (listed' := [true, true, false, false, false, false, false, false, false, false, false, false, false, false]) rfl (by kernel_rfl) (by kernel_rfl) (by kernel_rfl) (fun _ _ _ h => h) rfl ?_; clear hS a; intro a hS)
            refine Z_take (i := 2) hS rfl want_none (e_load rfl (by repeat constructor) ty_sc42 (by rfl)) (listed' := [true, true, true, false, false, false, false, false, false, false, false, false, false, false]) rfl (by kernel_rfl) (by kernel_rfl) (by kernel_rfl) (by kernel_rfl) (by kernel_rfl) (by intro X hX; repeat (first | exact hX | apply List.Mem.tail)) (fun _ _ _ h => h) rfl ?_; clear hS a; intro a hS
            refine Z_take0 (i := 3) hS rfl want_none (e_move rfl) (listed' := [true, true, true, true, false, false, false, false, false, false, false, false, false, false]) rfl (by kernel_rfl) (by kernel_rfl) (by kernel_rfl) (fun _ _ _ h => h) rfl ?_; clear hS a; intro a hS
            refine Z_take0 (i := 4) hS rfl want_none (e_ixN rfl rfl ty_sl42 ty_sz3 (by omega)) (listed' := [true, true, true, true, true, false, false, false, false, false, false, false, false, false]) rfl (by kernel_rfl) (by kernel_rfl) (by kernel_rfl) (fun _ _ _ h => h) rfl ?_; clear hS a; intro a hS
            refine Z_take (i := 5) hS rfl want_none (e_loadC rfl ty_sc3 (two_l (by repeat (first | exact .head _ | refine .tail _ ?_)) hax)) (listed' := [true, true, true, true, true, true, false, false, false, false, false, false, false, false]) rfl (by kernel_rfl) (by kernel_rfl) (by kernel_rfl) (by kernel_rfl) (by kernel_rfl) (by intro X hX; repeat (first | exact hX | apply List.Mem.tail)) (fun _ _ _ h => h) rfl ?_; clear hS a; intro a hS
            first | (refine Z_take0 (i := 6) hS rfl want_none (e_fa0 rfl ty_fo44_1) (listed' := [true, true, true, true, true, true, true, false, false, false, false, false, false, false]) rfl (by kernel_rfl) (by kernel_rfl) (by kernel_rfl) (fun _ _ _ h => h) rfl ?_; clear hS a; intro a hS) | (refine Z_take0 (i := 6) hS rfl want_none (e_faK rfl ty_fo44_1) (listed' := [true, true, true, true, true, true, true, false, false, false, false, false, false, false]) rfl (by kernel_rfl) (by kernel_rfl) (by kernel_rfl) (fun _ _ _ h => h) rfl ?_; clear hS a; intro a hS)
            refine Z_take (i := 7) hS rfl want_none (e_load rfl (by repeat constructor) ty_sc42 (by rfl)) (listed' := [true, true, true, true, true, true, true, true, false, false, false, false, false, false]) rfl (by kernel_rfl) (by kernel_rfl) (by kernel_rfl) (by kernel_rfl) (by kernel_rfl) (by intro X hX; repeat (first | exact hX | apply List.Mem.tail)) (fun _ _ _ h => h) rfl ?_; clear hS a; intro a hS
            refine Z_take0 (i := 8) hS rfl want_none (e_move rfl) (listed' := [true, true, true, true, true, true, true, true, true, false, false, false, false, false]) rfl (by kernel_rfl) (by kernel_rfl) (by kernel_rfl) (fun _ _ _ h => h) rfl ?_; clear hS a; intro a hS
            refine Z_take0 (i := 9) hS rfl want_none (e_ixN rfl rfl ty_sl42 ty_sz3 (by omega)) (listed' := [true, true, true, true, true, true, true, true, true, true, false, false, false, false]) rfl (by kernel_rfl) (by kernel_rfl) (by kernel_rfl) (fun _ _ _ h => h) rfl ?_; clear hS a; intro a hS
            refine Z_take (i := 10) hS rfl want_none (e_loadC rfl ty_sc3 (two_r (by repeat (first | exact .head _ | refine .tail _ ?_)) he)) (listed' := [true, true, true, true, true, true, true, true, true, true, true, false, false, false]) rfl (by kernel_rfl) (by kernel_rfl) (by kernel_rfl) (by kernel_rfl) (by kernel_rfl) (by intro X hX; repeat (first | exact hX | apply List.Mem.tail)) (fun _ _ _ h => h) rfl ?_; clear hS a; intro a hS
            first | (refine Z_take0 (i := 11) hS rfl want_none (e_binN rfl rfl rfl (by omega)) (listed' := [true, true, true, true, true, true, true, true, true, true, true, true, false, false]) rfl (by kernel_rfl) (by kernel_rfl) (by kernel_rfl) (fun _ _ _ h => h) rfl ?_; clear hS a; intro a hS) | (refine Z_take0 (i := 11) hS rfl want_none (e_bin rfl rfl rfl) (listed' := [true, true, true, true, true, true, true, true, true, true, true, true, false, false]) rfl (by kernel_rfl) (by kernel_rfl) (by kernel_rfl) (fun _ _ _ h => h) rfl ?_; clear hS a; intro a hS)
            first | (refine Z_take0 (i := 12) hS rfl want_none (e_binN rfl rfl rfl (by omega)) (listed' := [true, true, true, true, true, true, true, true, true, true, true, true, true, false]) rfl (by kernel_rfl) (by kernel_rfl) (by kernel_rfl) (fun _ _ _ h => h) rfl ?_; clear hS a; intro a hS) | (refine Z_take0 (i := 12) hS rfl want_none (e_bin rfl rfl rfl) (listed' := [true, true, true, true, true, true, true, true, true, true, true, true, true, false]) rfl (by kernel_rfl) (by kernel_rfl) (by kernel_rfl) (fun _ _ _ h => h) rfl ?_; clear hS a; intro a hS)
            refine Z_take0 (i := 13) hS rfl want_none (e_assign rfl) (listed' := [true, true, true, true, true, true, true, true, true, true, true, true, true, true]) rfl (by kernel_rfl) (by kernel_rfl) (by kernel_rfl) (fun _ _ _ h => h) rfl ?_; clear hS a; intro a hS
            refine Z_done (by kernel_rfl) ?_
            exact ⟨_, hS.slots (by exact ⟨rfl, rfl, rfl, rfl, rfl, rfl, rfl, rfl, trivial⟩), by rw [hgd]; try omega⟩
          ·
            have hgd : gd (dgs y.natAbs) k = 0 := by unfold gd; rw [List.getElem?_eq_none (by omega)]; rfl
            refine wp_skip ?_
            exact ⟨_, hS.slots (by exact ⟨rfl, rfl, rfl, rfl, rfl, rfl, rfl, rfl, trivial⟩), by rw [hgd]; try omega⟩
        ·
          clear hS a; (try clear w); intro a w hS
          obtain ⟨xx, hS, hxx⟩ := hS
          have hs2 := mul_step hvD hxx
          refine c_seq ?_
          refine c_region ?_
          refine L_op (s_e hS (e_move rfl) rfl ?_); clear hS a; intro a hS
          refine L_op (s_e hS (e_move rfl) rfl ?_); clear hS a; intro a hS
          refine L_op (s_e hS (e_move rfl) rfl ?_); clear hS a; intro a hS
          first | (refine L_op (s_e hS (e_binN rfl rfl rfl (by omega)) rfl ?_); clear hS a; intro a hS) | (refine L_op (s_e hS (e_bin rfl rfl rfl) rfl ?_); clear hS a; intro a hS)
          refine L_op (s_e hS (e_move rfl) rfl ?_); clear hS a; intro a hS
          first | (refine L_op (s_e hS (e_remN rfl rfl (by omega)) rfl ?_); clear hS a; intro a hS) | (refine L_op (s_e hS (e_rem rfl rfl (by omega)) rfl ?_); clear hS a; intro a hS)
          refine L_op (s_e hS (e_ix rfl rfl ty_sl42 ty_sz3 (by omega)) rfl ?_); clear hS a; intro a hS
          refine L_op (s_storeO hS rfl rfl rfl ty_sz3 (by repeat (first | apply Rep.head | apply Rep.tail)) (by omega) ?_); clear hS; (try clear w); intro w hS; rw [hkn, dig_set hd] at hS
          refine L_nil ?_
          refine n_then ?_
          refine c_region ?_
          refine L_op (s_e hS (e_move rfl) rfl ?_); clear hS a; intro a hS
          first | (refine L_op (s_e hS (e_quoN rfl rfl (by omega)) rfl ?_); clear hS a; intro a hS) | (refine L_op (s_e hS (e_quo rfl rfl (by omega)) rfl ?_); clear hS a; intro a hS)
          refine L_op (s_e hS (e_assign rfl) rfl ?_); clear hS a; intro a hS
          refine L_nil ?_
          refine n_block ?_
          refine n_then ?_
          refine c_region ?_
          refine L_op (s_e hS (e_move rfl) rfl ?_); clear hS a; intro a hS
          first | (refine L_op (s_e hS (e_binN rfl rfl rfl (by omega)) rfl ?_); clear hS a; intro a hS) | (refine L_op (s_e hS (e_bin rfl rfl rfl) rfl ?_); clear hS a; intro a hS)
          refine L_op (s_e hS (e_assign rfl) rfl ?_); clear hS a; intro a hS
          refine L_nil ?_
          refine ⟨(k + 1, xx / 10000, D.set (i + k) (xx % 10000)), by simp only; omega, hS.slots (by exact ⟨rfl, rfl, rfl, rfl, rfl, rfl, rfl, trivial⟩), by simp only; omega, by simp only; omega, fun h1 => ?_, by simp only [List.length_set]; exact hlD, inR_set hinD (by omega), fun j h1 h2 => ?_, ?_⟩
          · simp only at h1 ⊢
            have hz0 := hzD (i + k) (by omega) (Nat.le_refl _)
            have hd0 : d = 0 := by rw [gd, hd] at hz0; exact hz0
            have hg0 : gd (dgs y.natAbs) k = 0 := by unfold gd; rw [List.getElem?_eq_none (by omega)]; rfl
            rw [hg0, Int.mul_zero] at hxx
            omega
          · simp only at h1 h2 ⊢
            rw [gd_set (by omega)]
            exact hzD j h1 (by omega)
          · simp only
            rw [nv_set _ hd, nv_take_succ, Int.pow_add, Int.pow_succ, ← hs2, ← Int.mul_assoc]
      ·
        refine wp_exit ?_
        refine x_then (x_then (x_hit ?_))
        refine n_block ?_
        refine n_then ?_
        refine c_region ?_
        refine L_op (s_e hS (e_move rfl) rfl ?_); clear hS a; intro a hS
        first | (refine L_op (s_e hS (e_binN rfl rfl rfl (by omega)) rfl ?_); clear hS a; intro a hS) | (refine L_op (s_e hS (e_bin rfl rfl rfl) rfl ?_); clear hS a; intro a hS)
        refine L_op (s_e hS (e_assign rfl) rfl ?_); clear hS a; intro a hS
        refine L_nil ?_
        have hcy0 : cy = 0 := by omega
        subst hcy0
        refine ⟨(i + 1, D), by simp only; omega, hS.slots (by exact ⟨rfl, rfl, rfl, rfl, rfl, trivial⟩), by simp only; omega, hlD, hinD, fun j h1 => hzD j (by simp only at h1; omega) (by simp only at h1; omega), ?_⟩
        simp only
        rw [List.take_of_length_le (show (dgs y.natAbs).length ≤ k by omega)] at hvD
        rw [nv_take_succ, show gd (dgs x.natAbs) i = ax by rw [gd, hax]; rfl]
        exact mul_end hvD hvD0
  ·
    obtain rfl : i = (dgs x.natAbs).length := by omega
    rw [List.take_length, nv_dgs, nv_dgs] at hvD0
    refine wp_exit ?_
    refine x_then (x_then (x_hit ?_))
    refine n_then ?_
    refine c_seq ?_
    refine c_region ?_
    first | (refine L_op (s_e hS (e_fa0 rfl ty_fo44_0) rfl ?_); clear hS a; intro a hS) | (refine L_op (s_e hS (e_faK rfl ty_fo44_0) rfl ?_); clear hS a; intro a hS)
    refine L_op (s_e hS (e_load rfl (by repeat constructor) ty_sc4 (by rfl)) rfl ?_); clear hS a; intro a hS
    first | (refine L_op (s_e hS (e_fa0 rfl ty_fo44_0) rfl ?_); clear hS a; intro a hS) | (refine L_op (s_e hS (e_faK rfl ty_fo44_0) rfl ?_); clear hS a; intro a hS)
    refine L_op (s_e hS (e_load rfl (by repeat constructor) ty_sc4 (by rfl)) rfl ?_); clear hS a; intro a hS
    refine L_op (s_e hS (e_binBn rfl rfl ty_u4) rfl ?_); clear hS a; intro a hS
    refine L_op (s_e hS (e_move rfl) rfl ?_); clear hS a; intro a hS
    have hD := hS.get (X := ownA 3 1 (.slice (some ⟨b18, 0, none⟩) ((dgs x.natAbs).length + (dgs y.natAbs).length + 1) ((dgs x.natAbs).length + (dgs y.natAbs).length + 1)) ((dgs x.natAbs).length + (dgs y.natAbs).length + 1) (D0.flatMap encD)) (by repeat (first | exact .head _ | refine .tail _ ?_))
    rw [← hlD0] at hS
    have hT := trim_P (decide (decide (x < 0) ≠ decide (y < 0))) (some (b18, 0)) D0.length (fun e => by cases e) D0 hinD0 (Nat.le_refl _) (by omega) w (row_of_own (enc := encD) (fun _ => rfl) hD) (fun r e => by cases e; exact (World.ownsRow.lt hD b18 rfl).2)
    rw [hvD0, sgn_mul] at hT
    refine L_op (s_callN hS (.cons rfl (.cons rfl .nil)) cf57 rfl (hT) ?_); clear hS a; (try clear w); intro x78 a w hS
    refine L_op (s_storeA hS rfl rfl ty_sz44 (by repeat constructor) (by rfl) (by rfl) (by rfl) ?_); clear hS; (try clear w); intro w hS
    refine L_nil ?_
    refine n_then ?_
    refine wp_ret ?_
    refine c_ret1 hS Try.results105 (.cellA rfl (by repeat constructor) ty_st44 ty_sz44 (by rfl)) ?_
    exact ⟨x78, rfl, hS.chg, hS.new (X := bigA (x * y) x78.1.1) (by repeat (first | exact .head _ | refine .tail _ ?_)) rfl⟩
end Go.Proofs.Ytheofhegdjjfgaa

