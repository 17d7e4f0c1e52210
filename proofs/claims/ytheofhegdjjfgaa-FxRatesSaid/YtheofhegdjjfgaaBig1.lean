/- Numbers by digits in base 10000 (exref), walked: trim. -/
import Derived.Test.YtheofhegdjjfgaaBigM
import Derived.Test.YtheofhegdjjfgaaSeTy
namespace Go.Proofs.Ytheofhegdjjfgaa
open Go.RowKit

/-- a number as the program holds it. -/
def bigV (z : Int) (p : Option (Nat × Nat)) (c : Nat) : Value := .agg [.bool (decide (z < 0)), sliceV p (dgs z.natAbs).length c].toArray
def bigA (z : Int) (b : Nat) : Asn := .any (fun k => k = b) (RowP (some (b, 0)) 1 ((dgs z.natAbs).map encD)) true
/-- a number of that sign and size. -/
def sgn (neg : Bool) (v : Int) : Int := if neg then -v else v
theorem sgn_abs {neg : Bool} {v : Int} (h : 0 ≤ v) : (sgn neg v).natAbs = v.toNat := by unfold sgn; split <;> omega
theorem trim_val {neg : Bool} {v : Int} (h : 0 ≤ v) {p : Option (Nat × Nat)} {c k : Nat} (hk : (dgs v.toNat).length = k) : bigV (sgn neg v) p c = .agg [.bool (neg && decide (0 < (k : Int))), sliceV p k c].toArray := by
  unfold bigV
  rw [sgn_abs h, hk]
  have h2 : 0 < k ↔ 0 < v := by
    have := dgs_ne (n := v.toNat)
    rw [← List.length_pos_iff, hk] at this
    rw [this]; omega
  have : decide (sgn neg v < 0) = (neg && decide (0 < (k : Int))) := by
    cases neg <;> simp [sgn] <;> omega
  rw [this]
theorem digOne (l : List Int) : ∀ u ∈ l.flatMap encD, isOne u = true := by
  intro u hu
  obtain ⟨x, _, hx⟩ := List.mem_flatMap.1 hu
  simp only [encD, List.mem_cons, List.not_mem_nil, or_false] at hx
  rw [hx]; rfl
theorem dig_flat {b off : Nat} {l : List Int} {w : World} (h : RowAt b off 1 (l.map encD) w) : ∀ j u, (l.flatMap encD)[j]? = some u → w.cell? ⟨b, off + j, none⟩ = some u := by
  intro j u hu
  have hlt := (List.getElem?_eq_some_iff.1 hu).1
  rw [flat_len encD 1 (fun _ => rfl)] at hlt
  have hx : (l.map encD)[j]? = some (encD l[j]) := by simp [show j < l.length by omega]
  have hj := flat_get encD 1 (fun _ => rfl) l j l[j] (by simp) 0 (.int .i64 l[j]) rfl
  rw [Nat.mul_one, Nat.add_zero, hu] at hj
  have := h j _ hx 0 u (by rw [hj]; rfl)
  simpa using this
theorem rowAt_take {b off s k : Nat} {xs : List (List Value)} {w : World} (h : RowAt b off s xs w) : RowAt b off s (xs.take k) w := by
  intro i x hx
  rw [List.getElem?_take] at hx
  split at hx
  · exact h i x hx
  · cases hx
theorem big_of_own {w : World} {b c m : Nat} {z : Int} {l : List Int} (hl : l = dgs z.natAbs) (h : w.ownsRow 0 3 1 (.slice (some ⟨b, 0, none⟩) m c) m (l.flatMap encD)) : (bigA z b).ok w := by
  subst hl
  exact ⟨fun k hk => by obtain rfl : k = b := hk; exact (World.ownsRow.lt h k rfl).2, fun w' hw => RowAt.keep (row_of_own (enc := encD) (fun _ => rfl) h) (hw b rfl)⟩

theorem big_zero (b c : Nat) : bigV 0 (some (b, 0)) c = .agg [.bool false, .slice (some ⟨b, 0, none⟩) 0 c].toArray := by
  unfold bigV
  rw [show (0 : Int).natAbs = 0 from rfl, dgs_zero]; rfl
theorem own_le {w : World} {E s b c m : Nat} {xs : List Value} (h : w.ownsRow 0 E s (.slice (some ⟨b, 0, none⟩) m c) m xs) : m ≤ c := by
  rcases h.2 with ⟨e, _⟩ | ⟨g, cap, cur, e, _, _, h1, _⟩
  · cases e
  · cases e; exact h1
/-- where a number's digits lie, and how far they may grow. -/
abbrev At (z : Int) := { y : Nat × Nat // (dgs z.natAbs).length ≤ y.2 }
set_option maxRecDepth 100000 in
theorem trim_none (neg : Bool) (w0 : World) : NewC Try.prog 57 [.bool neg, .slice none 0 0] w0 (fun y : At 0 => bigV 0 (some (y.1.1, 0)) y.1.2) (fun y => bigA 0 y.1.1) := by
  refine c_enter [(0, .bool neg), (1, .slice none 0 0)] [] noB Try.func57 rfl Try.ntmps57 ⟨rfl, rfl, trivial⟩ rfl (by simp) (by simp) (by simp) ?_
  intro a hS
  refine c_seq ?_
  refine c_region ?_
  refine L_op (s_alloc hS ty_z44 rfl ?_); clear hS a; (try clear w); intro a w b4 hS
  refine L_nil ?_
  refine n_then ?_
  refine c_seq ?_
  refine c_region ?_
  refine L_op (s_e hS (e_move rfl) rfl ?_); clear hS a; intro a hS
  refine L_op (s_e hS (e_len rfl rfl ty_sl42) rfl ?_); clear hS a; intro a hS
  refine L_op (s_e hS (e_assign rfl) rfl ?_); clear hS a; intro a hS
  refine L_nil ?_
  refine n_then ?_
  refine c_seq ?_
  refine wp_block ?_
  skip
  refine c_loop (γ := Nat) (fun k a w => St 31 noB w0 a w [(5, .int .i64 0), (4, .pointer (some ⟨b4, 0, none⟩)), (0, .bool neg), (1, .slice none 0 0)] [.blk b4 [.bool false, .slice none 0 0] 44] ∧ k = 0) (fun k => k) 0 ⟨hS.slots ⟨rfl, rfl, rfl, rfl, trivial⟩, rfl⟩ ?_
  clear hS a; (try clear w); intro k a w hI
  obtain ⟨hS, hk⟩ := hI
  refine c_seq ?_
  refine c_seq ?_
  refine c_region ?_
  refine L_op (s_e hS (e_move rfl) rfl ?_); clear hS a; intro a hS
  refine L_op (s_e hS (e_bin rfl rfl rfl) rfl ?_); clear hS a; intro a hS
  refine L_op (s_e hS (e_move rfl) rfl ?_); clear hS a; intro a hS
  replace hS := hS.is (t := 10) (c := false) rfl ((by decide))
  refine L_skip_t hS rfl rfl rfl ?_; clear hS a; intro a hS
  refine L_skip_t hS rfl rfl rfl ?_; clear hS a; intro a hS
  refine L_skip_t hS rfl rfl rfl ?_; clear hS a; intro a hS
  refine L_skip_t hS rfl rfl rfl ?_; clear hS a; intro a hS
  refine L_skip_t hS rfl rfl rfl ?_; clear hS a; intro a hS
  refine L_skip_t hS rfl rfl rfl ?_; clear hS a; intro a hS
  first | (refine L_op (s_e hS (e_pick_t rfl rfl) rfl ?_); clear hS a; intro a hS) | (refine L_op (s_e hS (e_pick_f rfl rfl) rfl ?_); clear hS a; intro a hS)
  refine L_nil ?_
  refine n_then ?_
  refine c_if_f hS rfl ?_
  refine wp_exit ?_
  refine x_then (x_then (x_hit ?_))
  refine n_then ?_
  refine c_seq ?_
  refine c_region ?_
  refine L_op (s_e hS (e_move rfl) rfl ?_); clear hS a; intro a hS
  refine L_op (s_e hS (e_move rfl) rfl ?_); clear hS a; intro a hS
  (first | refine g_splitD (t := 21) hS rfl ?_ ?_ | refine g_split (t := 21) hS rfl ?_ ?_) <;> (clear hS; intro hg21 hS)
  ·
    refine L_go hS rfl rfl (s_e hS (e_move rfl) rfl ?_); clear hS a; intro a hS
    refine L_go hS rfl rfl (s_e hS (e_bin rfl rfl rfl) rfl ?_); clear hS a; intro a hS
    first | (refine L_op (s_e hS (e_pick_t rfl rfl) rfl ?_); clear hS a; intro a hS) | (refine L_op (s_e hS (e_pick_f rfl rfl) rfl ?_); clear hS a; intro a hS)
    refine L_op (s_bslice hS ty_sl42 ty_sz3 ty_z3 rfl rfl rfl rfl .nil rfl ?_); clear hS a; (try clear w); intro a w b25 hS
    refine L_op (s_e hS (e_move rfl) rfl ?_); clear hS a; intro a hS
    refine L_op (s_e hS (e_move rfl) rfl ?_); clear hS a; intro a hS
    refine L_op (s_e hS (e_slH (j := 0) rfl rfl ty_sl42 ty_sz3 (Nat.le_refl _)) rfl ?_); clear hS a; intro a hS
    replace hS := hS.swap (X := .blk b25 [] 3) (Y := ownA 3 1 (.slice (some ⟨b25, 0, none⟩) 0 0) 0 []) (by repeat (first | apply Rep.head | apply Rep.tail)) (own_empty (hS.get (X := .blk b25 [] 3) (by repeat (first | exact .head _ | refine .tail _ ?_)))) (fun b hb => by simpa [ownA, Asn.F, Value.ownBlock, eq_comm] using hb) rfl
    refine L_op (s_e hS (e_append0 rfl rfl ty_sl42 ty_sz3 ty_by3 ty_z3 (by repeat (first | exact .head _ | refine .tail _ ?_))) rfl ?_); clear hS a; intro a hS
    refine L_op (s_e hS (e_build ty_z44 ty_pl44 (.one rfl rfl rfl (by repeat constructor) (.one rfl rfl rfl (by repeat constructor) .nil))) rfl ?_); clear hS a; intro a hS
    refine L_op (s_storeA hS rfl rfl ty_sz44 (by repeat constructor) (by rfl) (by rfl) (by rfl) ?_); clear hS; (try clear w); intro w hS
    refine L_nil ?_
    refine n_then ?_
    refine wp_ret ?_
    refine c_ret1 hS Try.results57 (.cellA rfl (by repeat constructor) ty_st44 ty_sz44 (by rfl)) ?_
    have hn := hS.new (X := ownA 3 1 (.slice (some ⟨b25, 0, none⟩) 0 0) 0 []) (by repeat (first | exact .head _ | refine .tail _ ?_)) rfl
    refine ⟨⟨(b25, 0), by rw [show (0 : Int).natAbs = 0 from rfl, dgs_zero]; exact Nat.le_refl _⟩, (congrArg Ending.returned (big_zero b25 0)).symm, hS.chg, big_of_own (c := 0) (m := 0) (l := []) (by rw [show (0 : Int).natAbs = 0 from rfl, dgs_zero]) hn.1.now, fun q hq => hn.2 q (by obtain rfl : q = b25 := hq; rfl)⟩
  ·
    refine L_skip_t hS rfl rfl rfl ?_; clear hS a; intro a hS
    refine L_skip_t hS rfl rfl rfl ?_; clear hS a; intro a hS
    first | (refine L_op (s_e hS (e_pick_t rfl rfl) rfl ?_); clear hS a; intro a hS) | (refine L_op (s_e hS (e_pick_f rfl rfl) rfl ?_); clear hS a; intro a hS)
    refine L_op (s_bslice hS ty_sl42 ty_sz3 ty_z3 rfl rfl rfl rfl .nil rfl ?_); clear hS a; (try clear w); intro a w b25 hS
    refine L_op (s_e hS (e_move rfl) rfl ?_); clear hS a; intro a hS
    refine L_op (s_e hS (e_move rfl) rfl ?_); clear hS a; intro a hS
    refine L_op (s_e hS (e_slH (j := 0) rfl rfl ty_sl42 ty_sz3 (Nat.le_refl _)) rfl ?_); clear hS a; intro a hS
    replace hS := hS.swap (X := .blk b25 [] 3) (Y := ownA 3 1 (.slice (some ⟨b25, 0, none⟩) 0 0) 0 []) (by repeat (first | apply Rep.head | apply Rep.tail)) (own_empty (hS.get (X := .blk b25 [] 3) (by repeat (first | exact .head _ | refine .tail _ ?_)))) (fun b hb => by simpa [ownA, Asn.F, Value.ownBlock, eq_comm] using hb) rfl
    refine L_op (s_e hS (e_append0 rfl rfl ty_sl42 ty_sz3 ty_by3 ty_z3 (by repeat (first | exact .head _ | refine .tail _ ?_))) rfl ?_); clear hS a; intro a hS
    refine L_op (s_e hS (e_build ty_z44 ty_pl44 (.one rfl rfl rfl (by repeat constructor) (.one rfl rfl rfl (by repeat constructor) .nil))) rfl ?_); clear hS a; intro a hS
    refine L_op (s_storeA hS rfl rfl ty_sz44 (by repeat constructor) (by rfl) (by rfl) (by rfl) ?_); clear hS; (try clear w); intro w hS
    refine L_nil ?_
    refine n_then ?_
    refine wp_ret ?_
    refine c_ret1 hS Try.results57 (.cellA rfl (by repeat constructor) ty_st44 ty_sz44 (by rfl)) ?_
    have hn := hS.new (X := ownA 3 1 (.slice (some ⟨b25, 0, none⟩) 0 0) 0 []) (by repeat (first | exact .head _ | refine .tail _ ?_)) rfl
    refine ⟨⟨(b25, 0), by rw [show (0 : Int).natAbs = 0 from rfl, dgs_zero]; exact Nat.le_refl _⟩, (congrArg Ending.returned (big_zero b25 0)).symm, hS.chg, big_of_own (c := 0) (m := 0) (l := []) (by rw [show (0 : Int).natAbs = 0 from rfl, dgs_zero]) hn.1.now, fun q hq => hn.2 q (by obtain rfl : q = b25 := hq; rfl)⟩

set_option maxRecDepth 100000 in
theorem trim_some (neg : Bool) (b off c : Nat) (ds : List Int) (hin : inR ds) (hc : ds.length ≤ c) (hlen : ds.length ≤ 1000000) (w0 : World) (hrow : RowAt b off 1 (ds.map encD) w0) (hb : b < w0.heap.size) :
    NewC Try.prog 57 [.bool neg, sliceV (some (b, off)) ds.length c] w0 (fun y : At (sgn neg (nv ds)) => bigV (sgn neg (nv ds)) (some (y.1.1, 0)) y.1.2) (fun y => bigA (sgn neg (nv ds)) y.1.1) := by
  refine c_enter [(0, .bool neg), (1, sliceV (some (b, off)) ds.length c)] [rowA b off 1 (ds.map encD)] noB Try.func57 rfl Try.ntmps57 ⟨rfl, rfl, trivial⟩ rfl (by intro X hX; obtain rfl := List.mem_singleton.1 hX; exact ok_row hrow hb) (by simp) (by intro X hX hm; obtain rfl := List.mem_singleton.1 hX; cases hm) ?_
  intro a hS
  refine c_seq ?_
  refine c_region ?_
  refine L_op (s_alloc hS ty_z44 rfl ?_); clear hS a; (try clear w); intro a w b4 hS
  refine L_nil ?_
  refine n_then ?_
  refine c_seq ?_
  refine c_region ?_
  refine L_op (s_e hS (e_move rfl) rfl ?_); clear hS a; intro a hS
  refine L_op (s_e hS (e_len rfl rfl ty_sl42) rfl ?_); clear hS a; intro a hS
  refine L_op (s_e hS (e_assign rfl) rfl ?_); clear hS a; intro a hS
  refine L_nil ?_
  refine n_then ?_
  refine c_seq ?_
  refine wp_block ?_
  skip
  refine c_loop (γ := Nat) (fun k a w => St 31 noB w0 a w [(5, .int .i64 (k : Int)), (4, .pointer (some ⟨b4, 0, none⟩)), (0, .bool neg), (1, sliceV (some (b, off)) ds.length c)] [.blk b4 [.bool false, .slice none 0 0] 44, rowA b off 1 (ds.map encD)] ∧ k ≤ ds.length ∧ nv (ds.take k) = nv ds) (fun k => k) ds.length ⟨hS.slots ⟨rfl, rfl, rfl, rfl, trivial⟩, Nat.le_refl _, by rw [List.take_length]⟩ ?_
  clear hS a; (try clear w); intro k a w hI
  obtain ⟨hS, hk, hv⟩ := hI
  refine c_seq ?_
  refine c_seq ?_
  refine c_region ?_
  refine L_op (s_e hS (e_move rfl) rfl ?_); clear hS a; intro a hS
  refine L_op (s_e hS (e_bin rfl rfl rfl) rfl ?_); clear hS a; intro a hS
  refine L_op (s_e hS (e_move rfl) rfl ?_); clear hS a; intro a hS
  try (
    have hk1 : 0 < k := by omega
    have hkn : ((k : Int) - 1).toNat = k - 1 := by omega
    obtain ⟨d, hd⟩ : ∃ d, ds[k - 1]? = some d := ⟨ds[k - 1]'(by omega), List.getElem?_eq_getElem (by omega)⟩
    have hd' : (ds.map encD)[k - 1]? = some (encD d) := by simp [hd])
  (first | refine g_splitD (t := 10) hS rfl ?_ ?_ | refine g_split (t := 10) hS rfl ?_ ?_) <;> (clear hS; intro hg10 hS)
  ·
    try (
      have hk1 : 0 < k := by omega
      have hkn : ((k : Int) - 1).toNat = k - 1 := by omega
      obtain ⟨d, hd⟩ : ∃ d, ds[k - 1]? = some d := ⟨ds[k - 1]'(by omega), List.getElem?_eq_getElem (by omega)⟩
      have hd' : (ds.map encD)[k - 1]? = some (encD d) := by simp [hd])
    refine L_go hS rfl rfl (s_e hS (e_move rfl) rfl ?_); clear hS a; intro a hS
    refine L_go hS rfl rfl (s_e hS (e_move rfl) rfl ?_); clear hS a; intro a hS
    first | (refine L_go hS rfl rfl (s_e hS (e_binN rfl rfl rfl (by omega)) rfl ?_); clear hS a; intro a hS) | (refine L_go hS rfl rfl (s_e hS (e_bin rfl rfl rfl) rfl ?_); clear hS a; intro a hS)
    refine L_go hS rfl rfl (s_e hS (e_ix rfl rfl ty_sl42 ty_sz3 (by omega)) rfl ?_); clear hS a; intro a hS
    refine L_go hS rfl rfl (s_e hS (e_loadC rfl ty_sc3 (fun w hh => by rw [hkn]; exact row_get (by repeat (first | exact .head _ | refine .tail _ ?_)) hd' w hh 0 (.int .i64 d) rfl)) rfl ?_); clear hS a; intro a hS
    refine L_go hS rfl rfl (s_e hS (e_bin rfl rfl rfl) rfl ?_); clear hS a; intro a hS
    first | (refine L_op (s_e hS (e_pick_t rfl rfl) rfl ?_); clear hS a; intro a hS) | (refine L_op (s_e hS (e_pick_f rfl rfl) rfl ?_); clear hS a; intro a hS)
    refine L_nil ?_
    refine n_then ?_
    first | refine c_ifD hS rfl (fun hc17 => ?_) (fun hc17 => ?_) | refine c_if hS rfl (fun hc17 => ?_) (fun hc17 => ?_)
    ·
      refine wp_skip ?_
      refine n_then ?_
      refine wp_block ?_
      refine c_region ?_
      refine L_op (s_e hS (e_move rfl) rfl ?_); clear hS a; intro a hS
      first | (refine L_op (s_e hS (e_binN rfl rfl rfl (by omega)) rfl ?_); clear hS a; intro a hS) | (refine L_op (s_e hS (e_bin rfl rfl rfl) rfl ?_); clear hS a; intro a hS)
      refine L_op (s_e hS (e_assign rfl) rfl ?_); clear hS a; intro a hS
      refine L_nil ?_
      refine n_block ?_
      exact ⟨k - 1, by omega, by rw [show ((k - 1 : Nat) : Int) = (k : Int) - 1 by omega]; exact hS.slots (by exact ⟨rfl, rfl, rfl, rfl, trivial⟩), by omega, by subst hc17; have := trim_step hd; rw [show k - 1 + 1 = k by omega] at this; rw [← this]; exact hv⟩
    ·
      refine wp_exit ?_
      refine x_then (x_then (x_hit ?_))
      refine n_then ?_
      refine c_seq ?_
      refine c_region ?_
      have hT : ds.take k = dgs (nv ds).toNat := trim_end hin hk (by first | exact .inl (by omega) | exact .inr ⟨d, hd, hc17⟩) hv
      refine L_op (s_e hS (e_move rfl) rfl ?_); clear hS a; intro a hS
      refine L_op (s_e hS (e_move rfl) rfl ?_); clear hS a; intro a hS
      (first | refine g_splitD (t := 21) hS rfl ?_ ?_ | refine g_split (t := 21) hS rfl ?_ ?_) <;> (clear hS; intro hg21 hS)
      ·
        refine L_go hS rfl rfl (s_e hS (e_move rfl) rfl ?_); clear hS a; intro a hS
        refine L_go hS rfl rfl (s_e hS (e_bin rfl rfl rfl) rfl ?_); clear hS a; intro a hS
        first | (refine L_op (s_e hS (e_pick_t rfl rfl) rfl ?_); clear hS a; intro a hS) | (refine L_op (s_e hS (e_pick_f rfl rfl) rfl ?_); clear hS a; intro a hS)
        refine L_op (s_bslice hS ty_sl42 ty_sz3 ty_z3 rfl rfl rfl rfl .nil rfl ?_); clear hS a; (try clear w); intro a w b25 hS
        refine L_op (s_e hS (e_move rfl) rfl ?_); clear hS a; intro a hS
        refine L_op (s_e hS (e_move rfl) rfl ?_); clear hS a; intro a hS
        refine L_op (s_e hS (e_slH rfl rfl ty_sl42 ty_sz3 (by omega)) rfl ?_); clear hS a; intro a hS
        replace hS := hS.swap (X := .blk b25 [] 3) (Y := ownA 3 1 (.slice (some ⟨b25, 0, none⟩) 0 0) 0 []) (by repeat (first | apply Rep.head | apply Rep.tail)) (own_empty (hS.get (X := .blk b25 [] 3) (by repeat (first | exact .head _ | refine .tail _ ?_)))) (fun b hb => by simpa [ownA, Asn.F, Value.ownBlock, eq_comm] using hb) rfl
        refine L_op (s_append hS rfl rfl ty_sl42 ty_sz3 ty_by3 ty_z3 rfl rfl rfl (by repeat (first | exact .head _ | refine .tail _ ?_)) (ys := (ds.take k).flatMap encD) (by rw [flat_len encD 1 (fun _ => rfl), List.length_take]; omega) (by have := dig_flat (l := ds.take k) (by rw [List.map_take]; exact rowAt_take (hS.get (X := rowA b off 1 (ds.map encD)) (by repeat (first | exact .head _ | refine .tail _ ?_)))); exact this) (digOne _) (by omega) (fun _ => (by repeat (first | apply Rep.head | apply Rep.tail))) ?_); clear hS a; (try clear w); intro v29 a w hv29 hS
        obtain ⟨lb, c', rfl⟩ := own_some (hS.get (.head _)) (fun e => by have := (hv29.1 e).1; cases this)
        rw [Nat.zero_add, List.nil_append] at hS
        clear hv29
        refine L_op (s_e hS (e_build ty_z44 ty_pl44 (.one rfl rfl rfl (by repeat constructor) (.one rfl rfl rfl (by repeat constructor) .nil))) rfl ?_); clear hS a; intro a hS
        refine L_op (s_storeA hS rfl rfl ty_sz44 (by repeat constructor) (by rfl) (by rfl) (by rfl) ?_); clear hS; (try clear w); intro w hS
        refine L_nil ?_
        refine n_then ?_
        refine wp_ret ?_
        refine c_ret1 hS Try.results57 (.cellA rfl (by repeat constructor) ty_st44 ty_sz44 (by rfl)) ?_
        have hlk : (dgs (nv ds).toNat).length = k := by rw [← hT, List.length_take]; omega
        have hn := hS.new (X := ownA 3 1 (.slice (some ⟨lb, 0, none⟩) k c') k ((ds.take k).flatMap encD)) (by repeat (first | exact .head _ | refine .tail _ ?_)) rfl
        refine ⟨⟨(lb, c'), by rw [sgn_abs (nv_nonneg hin), hlk]; exact own_le hn.1.now⟩, ?_, hS.chg, big_of_own (by rw [sgn_abs (nv_nonneg hin)]; exact hT) hn.1.now, fun q hq => hn.2 q (by obtain rfl : q = lb := hq; rfl)⟩
        show _ = Ending.returned (bigV (sgn neg (nv ds)) (some (lb, 0)) c')
        rw [trim_val (nv_nonneg hin) hlk, hg21]
        simp [sliceV]
      ·
        refine L_skip_t hS rfl rfl rfl ?_; clear hS a; intro a hS
        refine L_skip_t hS rfl rfl rfl ?_; clear hS a; intro a hS
        first | (refine L_op (s_e hS (e_pick_t rfl rfl) rfl ?_); clear hS a; intro a hS) | (refine L_op (s_e hS (e_pick_f rfl rfl) rfl ?_); clear hS a; intro a hS)
        refine L_op (s_bslice hS ty_sl42 ty_sz3 ty_z3 rfl rfl rfl rfl .nil rfl ?_); clear hS a; (try clear w); intro a w b25 hS
        refine L_op (s_e hS (e_move rfl) rfl ?_); clear hS a; intro a hS
        refine L_op (s_e hS (e_move rfl) rfl ?_); clear hS a; intro a hS
        refine L_op (s_e hS (e_slH rfl rfl ty_sl42 ty_sz3 (by omega)) rfl ?_); clear hS a; intro a hS
        replace hS := hS.swap (X := .blk b25 [] 3) (Y := ownA 3 1 (.slice (some ⟨b25, 0, none⟩) 0 0) 0 []) (by repeat (first | apply Rep.head | apply Rep.tail)) (own_empty (hS.get (X := .blk b25 [] 3) (by repeat (first | exact .head _ | refine .tail _ ?_)))) (fun b hb => by simpa [ownA, Asn.F, Value.ownBlock, eq_comm] using hb) rfl
        refine L_op (s_append hS rfl rfl ty_sl42 ty_sz3 ty_by3 ty_z3 rfl rfl rfl (by repeat (first | exact .head _ | refine .tail _ ?_)) (ys := (ds.take k).flatMap encD) (by rw [flat_len encD 1 (fun _ => rfl), List.length_take]; omega) (by have := dig_flat (l := ds.take k) (by rw [List.map_take]; exact rowAt_take (hS.get (X := rowA b off 1 (ds.map encD)) (by repeat (first | exact .head _ | refine .tail _ ?_)))); exact this) (digOne _) (by omega) (fun _ => (by repeat (first | apply Rep.head | apply Rep.tail))) ?_); clear hS a; (try clear w); intro v29 a w hv29 hS
        obtain ⟨lb, c', rfl⟩ := own_some (hS.get (.head _)) (fun e => by have := (hv29.1 e).1; cases this)
        rw [Nat.zero_add, List.nil_append] at hS
        clear hv29
        refine L_op (s_e hS (e_build ty_z44 ty_pl44 (.one rfl rfl rfl (by repeat constructor) (.one rfl rfl rfl (by repeat constructor) .nil))) rfl ?_); clear hS a; intro a hS
        refine L_op (s_storeA hS rfl rfl ty_sz44 (by repeat constructor) (by rfl) (by rfl) (by rfl) ?_); clear hS; (try clear w); intro w hS
        refine L_nil ?_
        refine n_then ?_
        refine wp_ret ?_
        refine c_ret1 hS Try.results57 (.cellA rfl (by repeat constructor) ty_st44 ty_sz44 (by rfl)) ?_
        have hlk : (dgs (nv ds).toNat).length = k := by rw [← hT, List.length_take]; omega
        have hn := hS.new (X := ownA 3 1 (.slice (some ⟨lb, 0, none⟩) k c') k ((ds.take k).flatMap encD)) (by repeat (first | exact .head _ | refine .tail _ ?_)) rfl
        refine ⟨⟨(lb, c'), by rw [sgn_abs (nv_nonneg hin), hlk]; exact own_le hn.1.now⟩, ?_, hS.chg, big_of_own (by rw [sgn_abs (nv_nonneg hin)]; exact hT) hn.1.now, fun q hq => hn.2 q (by obtain rfl : q = lb := hq; rfl)⟩
        show _ = Ending.returned (bigV (sgn neg (nv ds)) (some (lb, 0)) c')
        rw [trim_val (nv_nonneg hin) hlk, hg21]
        simp [sliceV]
  ·
    try (
      have hk1 : 0 < k := by omega
      have hkn : ((k : Int) - 1).toNat = k - 1 := by omega
      obtain ⟨d, hd⟩ : ∃ d, ds[k - 1]? = some d := ⟨ds[k - 1]'(by omega), List.getElem?_eq_getElem (by omega)⟩
      have hd' : (ds.map encD)[k - 1]? = some (encD d) := by simp [hd])
    refine L_skip_t hS rfl rfl rfl ?_; clear hS a; intro a hS
    refine L_skip_t hS rfl rfl rfl ?_; clear hS a; intro a hS
    refine L_skip_t hS rfl rfl rfl ?_; clear hS a; intro a hS
    refine L_skip_t hS rfl rfl rfl ?_; clear hS a; intro a hS
    refine L_skip_t hS rfl rfl rfl ?_; clear hS a; intro a hS
    refine L_skip_t hS rfl rfl rfl ?_; clear hS a; intro a hS
    first | (refine L_op (s_e hS (e_pick_t rfl rfl) rfl ?_); clear hS a; intro a hS) | (refine L_op (s_e hS (e_pick_f rfl rfl) rfl ?_); clear hS a; intro a hS)
    refine L_nil ?_
    refine n_then ?_
    refine c_if_f hS rfl ?_
    refine wp_exit ?_
    refine x_then (x_then (x_hit ?_))
    refine n_then ?_
    refine c_seq ?_
    refine c_region ?_
    have hT : ds.take k = dgs (nv ds).toNat := trim_end hin hk (by first | exact .inl (by omega) | exact .inr ⟨d, hd, hc17⟩) hv
    refine L_op (s_e hS (e_move rfl) rfl ?_); clear hS a; intro a hS
    refine L_op (s_e hS (e_move rfl) rfl ?_); clear hS a; intro a hS
    (first | refine g_splitD (t := 21) hS rfl ?_ ?_ | refine g_split (t := 21) hS rfl ?_ ?_) <;> (clear hS; intro hg21 hS)
    ·
      refine L_go hS rfl rfl (s_e hS (e_move rfl) rfl ?_); clear hS a; intro a hS
      refine L_go hS rfl rfl (s_e hS (e_bin rfl rfl rfl) rfl ?_); clear hS a; intro a hS
      first | (refine L_op (s_e hS (e_pick_t rfl rfl) rfl ?_); clear hS a; intro a hS) | (refine L_op (s_e hS (e_pick_f rfl rfl) rfl ?_); clear hS a; intro a hS)
      refine L_op (s_bslice hS ty_sl42 ty_sz3 ty_z3 rfl rfl rfl rfl .nil rfl ?_); clear hS a; (try clear w); intro a w b25 hS
      refine L_op (s_e hS (e_move rfl) rfl ?_); clear hS a; intro a hS
      refine L_op (s_e hS (e_move rfl) rfl ?_); clear hS a; intro a hS
      refine L_op (s_e hS (e_slH rfl rfl ty_sl42 ty_sz3 (by omega)) rfl ?_); clear hS a; intro a hS
      replace hS := hS.swap (X := .blk b25 [] 3) (Y := ownA 3 1 (.slice (some ⟨b25, 0, none⟩) 0 0) 0 []) (by repeat (first | apply Rep.head | apply Rep.tail)) (own_empty (hS.get (X := .blk b25 [] 3) (by repeat (first | exact .head _ | refine .tail _ ?_)))) (fun b hb => by simpa [ownA, Asn.F, Value.ownBlock, eq_comm] using hb) rfl
      refine L_op (s_append hS rfl rfl ty_sl42 ty_sz3 ty_by3 ty_z3 rfl rfl rfl (by repeat (first | exact .head _ | refine .tail _ ?_)) (ys := (ds.take k).flatMap encD) (by rw [flat_len encD 1 (fun _ => rfl), List.length_take]; omega) (by have := dig_flat (l := ds.take k) (by rw [List.map_take]; exact rowAt_take (hS.get (X := rowA b off 1 (ds.map encD)) (by repeat (first | exact .head _ | refine .tail _ ?_)))); exact this) (digOne _) (by omega) (fun _ => (by repeat (first | apply Rep.head | apply Rep.tail))) ?_); clear hS a; (try clear w); intro v29 a w hv29 hS
      obtain ⟨lb, c', rfl⟩ := own_some (hS.get (.head _)) (fun e => by have := (hv29.1 e).1; cases this)
      rw [Nat.zero_add, List.nil_append] at hS
      clear hv29
      refine L_op (s_e hS (e_build ty_z44 ty_pl44 (.one rfl rfl rfl (by repeat constructor) (.one rfl rfl rfl (by repeat constructor) .nil))) rfl ?_); clear hS a; intro a hS
      refine L_op (s_storeA hS rfl rfl ty_sz44 (by repeat constructor) (by rfl) (by rfl) (by rfl) ?_); clear hS; (try clear w); intro w hS
      refine L_nil ?_
      refine n_then ?_
      refine wp_ret ?_
      refine c_ret1 hS Try.results57 (.cellA rfl (by repeat constructor) ty_st44 ty_sz44 (by rfl)) ?_
      have hlk : (dgs (nv ds).toNat).length = k := by rw [← hT, List.length_take]; omega
      have hn := hS.new (X := ownA 3 1 (.slice (some ⟨lb, 0, none⟩) k c') k ((ds.take k).flatMap encD)) (by repeat (first | exact .head _ | refine .tail _ ?_)) rfl
      refine ⟨⟨(lb, c'), by rw [sgn_abs (nv_nonneg hin), hlk]; exact own_le hn.1.now⟩, ?_, hS.chg, big_of_own (by rw [sgn_abs (nv_nonneg hin)]; exact hT) hn.1.now, fun q hq => hn.2 q (by obtain rfl : q = lb := hq; rfl)⟩
      show _ = Ending.returned (bigV (sgn neg (nv ds)) (some (lb, 0)) c')
      rw [trim_val (nv_nonneg hin) hlk, hg21]
      simp [sliceV]
    ·
      refine L_skip_t hS rfl rfl rfl ?_; clear hS a; intro a hS
      refine L_skip_t hS rfl rfl rfl ?_; clear hS a; intro a hS
      first | (refine L_op (s_e hS (e_pick_t rfl rfl) rfl ?_); clear hS a; intro a hS) | (refine L_op (s_e hS (e_pick_f rfl rfl) rfl ?_); clear hS a; intro a hS)
      refine L_op (s_bslice hS ty_sl42 ty_sz3 ty_z3 rfl rfl rfl rfl .nil rfl ?_); clear hS a; (try clear w); intro a w b25 hS
      refine L_op (s_e hS (e_move rfl) rfl ?_); clear hS a; intro a hS
      refine L_op (s_e hS (e_move rfl) rfl ?_); clear hS a; intro a hS
      refine L_op (s_e hS (e_slH rfl rfl ty_sl42 ty_sz3 (by omega)) rfl ?_); clear hS a; intro a hS
      replace hS := hS.swap (X := .blk b25 [] 3) (Y := ownA 3 1 (.slice (some ⟨b25, 0, none⟩) 0 0) 0 []) (by repeat (first | apply Rep.head | apply Rep.tail)) (own_empty (hS.get (X := .blk b25 [] 3) (by repeat (first | exact .head _ | refine .tail _ ?_)))) (fun b hb => by simpa [ownA, Asn.F, Value.ownBlock, eq_comm] using hb) rfl
      refine L_op (s_append hS rfl rfl ty_sl42 ty_sz3 ty_by3 ty_z3 rfl rfl rfl (by repeat (first | exact .head _ | refine .tail _ ?_)) (ys := (ds.take k).flatMap encD) (by rw [flat_len encD 1 (fun _ => rfl), List.length_take]; omega) (by have := dig_flat (l := ds.take k) (by rw [List.map_take]; exact rowAt_take (hS.get (X := rowA b off 1 (ds.map encD)) (by repeat (first | exact .head _ | refine .tail _ ?_)))); exact this) (digOne _) (by omega) (fun _ => (by repeat (first | apply Rep.head | apply Rep.tail))) ?_); clear hS a; (try clear w); intro v29 a w hv29 hS
      obtain ⟨lb, c', rfl⟩ := own_some (hS.get (.head _)) (fun e => by have := (hv29.1 e).1; cases this)
      rw [Nat.zero_add, List.nil_append] at hS
      clear hv29
      refine L_op (s_e hS (e_build ty_z44 ty_pl44 (.one rfl rfl rfl (by repeat constructor) (.one rfl rfl rfl (by repeat constructor) .nil))) rfl ?_); clear hS a; intro a hS
      refine L_op (s_storeA hS rfl rfl ty_sz44 (by repeat constructor) (by rfl) (by rfl) (by rfl) ?_); clear hS; (try clear w); intro w hS
      refine L_nil ?_
      refine n_then ?_
      refine wp_ret ?_
      refine c_ret1 hS Try.results57 (.cellA rfl (by repeat constructor) ty_st44 ty_sz44 (by rfl)) ?_
      have hlk : (dgs (nv ds).toNat).length = k := by rw [← hT, List.length_take]; omega
      have hn := hS.new (X := ownA 3 1 (.slice (some ⟨lb, 0, none⟩) k c') k ((ds.take k).flatMap encD)) (by repeat (first | exact .head _ | refine .tail _ ?_)) rfl
      refine ⟨⟨(lb, c'), by rw [sgn_abs (nv_nonneg hin), hlk]; exact own_le hn.1.now⟩, ?_, hS.chg, big_of_own (by rw [sgn_abs (nv_nonneg hin)]; exact hT) hn.1.now, fun q hq => hn.2 q (by obtain rfl : q = lb := hq; rfl)⟩
      show _ = Ending.returned (bigV (sgn neg (nv ds)) (some (lb, 0)) c')
      rw [trim_val (nv_nonneg hin) hlk, hg21]
      simp [sliceV]
theorem trim_P (neg : Bool) (p : Option (Nat × Nat)) (c : Nat) (hp : p = none → c = 0) (ds : List Int) (hin : inR ds) (hc : ds.length ≤ c) (hlen : ds.length ≤ 1000000) (w0 : World) (hrow : RowP p 1 (ds.map encD) w0) (hb : ∀ q, p = some q → q.1 < w0.heap.size) :
    NewC Try.prog 57 [.bool neg, sliceV p ds.length c] w0 (fun y : At (sgn neg (nv ds)) => bigV (sgn neg (nv ds)) (some (y.1.1, 0)) y.1.2) (fun y => bigA (sgn neg (nv ds)) y.1.1) := by
  cases p with
  | none =>
    obtain rfl := hp rfl
    obtain rfl : ds = [] := by simpa [RowP] using hrow
    have e : sgn neg (nv []) = 0 := by cases neg <;> rfl
    rw [e]
    exact trim_none neg w0
  | some q => exact trim_some neg q.1 q.2 c ds hin hc hlen w0 hrow (hb q rfl)
/-- a row of digits of the walk's own, as a slice that is read. -/
theorem own_digs {w : World} {v : Value} {l : List Int} (h : w.ownsRow 0 3 1 v l.length (l.flatMap encD)) :
    ∃ p c, v = sliceV p l.length c ∧ (p = none → c = 0) ∧ l.length ≤ c ∧ RowP p 1 (l.map encD) w ∧ ∀ q, p = some q → q.1 < w.heap.size := by
  rcases h.2 with ⟨rfl, e⟩ | ⟨g, cap, cur, rfl, _, _, hc, _⟩
  · refine ⟨none, 0, by rw [e]; rfl, fun _ => rfl, by omega, ?_, by simp⟩
    rw [List.eq_nil_of_length_eq_zero e]; rfl
  · refine ⟨some (g, 0), cap, rfl, by simp, hc, row_of_own (enc := encD) (fun _ => rfl) h, fun q hq => ?_⟩
    cases hq
    exact (World.ownsRow.lt h g rfl).2
theorem sliceV_inj {p q : Option (Nat × Nat)} {m c d : Nat} (h : sliceV p m c = sliceV q m d) : p = q ∧ c = d := by
  unfold sliceV at h
  simp only [Value.slice.injEq, true_and] at h
  refine ⟨?_, h.2⟩
  cases p <;> cases q <;> simp_all
  exact Prod.ext h.1.1 h.1.2
theorem sgn_of {z v : Int} (h : v = z.natAbs) : sgn (decide (z < 0)) v = z := by
  unfold sgn
  by_cases h0 : z < 0 <;> simp [h0] <;> omega
end Go.Proofs.Ytheofhegdjjfgaa
