/- LedgerTimes: for every argument the law returns true, and each argument reads afterwards as it read before. No conditions. (text 5 of 6) -/
import Derived.Test.YtheofhegdjjfgaaLTimC4
import Derived.Deep.Slices
import Derived.Deep.Fields
import Derived.ChangeSame
import Derived.SizedLaws
import Derived.OpenShut
import Derived.Lib.SmallJoins
namespace Go.Proofs.Ytheofhegdjjfgaa
open Go.RowKit

/-- a number as the program holds it. -/
def bigV (z : Int) (p : Option (Nat × Nat)) (c : Nat) : Value := .agg [.bool (decide (z < 0)), sliceV p (dgs z.natAbs).length c].toArray
def bigA (z : Int) (b : Nat) : Asn := .any (fun k => k = b) (RowP (some (b, 0)) 1 ((dgs z.natAbs).map encD)) true
/-- a number of that sign and size. -/
def sgn (neg : Bool) (v : Int) : Int := if neg then -v else v
theorem sgn_abs {neg : Bool} {v : Int} (h : 0 ≤ v) : (sgn neg v).natAbs = v.toNat := by unfold sgn; split <;> omega
theorem trim_val {neg : Bool} {v : Int} (h : 0 ≤ v) {p : Option (Nat × Nat)} {c k : Nat} (hk : (dgs v.toNat).length = k) : bigV (sgn neg v) p c = .agg [.bool (neg && decide (0 < (k : Int))), sliceV p k c].toArray := by
  unfold bigV
  rw [sgn_abs h, hk]
  have h2 : 0 < k ↔ 0 < v := by
    have := dgs_ne (n := v.toNat)
    rw [← List.length_pos_iff, hk] at this
    rw [this]; omega
  have : decide (sgn neg v < 0) = (neg && decide (0 < (k : Int))) := by
    cases neg <;> simp [sgn] <;> omega
  rw [this]
theorem digOne (l : List Int) : ∀ u ∈ l.flatMap encD, isOne u = true := by
  intro u hu
  obtain ⟨x, _, hx⟩ := List.mem_flatMap.1 hu
  simp only [encD, List.mem_cons, List.not_mem_nil, or_false] at hx
  rw [hx]; rfl
theorem dig_flat {b off : Nat} {l : List Int} {w : World} (h : RowAt b off 1 (l.map encD) w) : ∀ j u, (l.flatMap encD)[j]? = some u → w.cell? ⟨b, off + j, none⟩ = some u := by
  intro j u hu
  have hlt := (List.getElem?_eq_some_iff.1 hu).1
  rw [flat_len encD 1 (fun _ => rfl)] at hlt
  have hx : (l.map encD)[j]? = some (encD l[j]) := by simp [show j < l.length by omega]
  have hj := flat_get encD 1 (fun _ => rfl) l j l[j] (by simp) 0 (.int .i64 l[j]) rfl
  rw [Nat.mul_one, Nat.add_zero, hu] at hj
  have := h j _ hx 0 u (by rw [hj]; rfl)
  simpa using this
theorem rowAt_take {b off s k : Nat} {xs : List (List Value)} {w : World} (h : RowAt b off s xs w) : RowAt b off s (xs.take k) w := by
  intro i x hx
  rw [List.getElem?_take] at hx
  split at hx
  · exact h i x hx
  · cases hx
theorem big_of_own {w : World} {b c m : Nat} {z : Int} {l : List Int} (hl : l = dgs z.natAbs) (h : w.ownsRow 0 3 1 (.slice (some ⟨b, 0, none⟩) m c) m (l.flatMap encD)) : (bigA z b).ok w := by
  subst hl
  exact ⟨fun k hk => by obtain rfl : k = b := hk; exact (World.ownsRow.lt h k rfl).2, fun w' hw => RowAt.keep (row_of_own (enc := encD) (fun _ => rfl) h) (hw b rfl)⟩

theorem big_zero (b c : Nat) : bigV 0 (some (b, 0)) c = .agg [.bool false, .slice (some ⟨b, 0, none⟩) 0 c].toArray := by
  unfold bigV
  rw [show (0 : Int).natAbs = 0 from rfl, dgs_zero]; rfl
theorem own_le {w : World} {E s b c m : Nat} {xs : List Value} (h : w.ownsRow 0 E s (.slice (some ⟨b, 0, none⟩) m c) m xs) : m ≤ c := by
  rcases h.2 with ⟨e, _⟩ | ⟨g, cap, cur, e, _, _, h1, _⟩
  · cases e
  · cases e; exact h1
/-- where a number's digits lie, and how far they may grow. -/
abbrev At (z : Int) := { y : Nat × Nat // (dgs z.natAbs).length ≤ y.2 }
set_option maxRecDepth 100000 in
theorem trim_none (neg : Bool) (w0 : World) : NewC Try.prog 57 [.bool neg, .slice none 0 0] w0 (fun y : At 0 => bigV 0 (some (y.1.1, 0)) y.1.2) (fun y => bigA 0 y.1.1) := by
  refine c_enter [(0, .bool neg), (1, .slice none 0 0)] [] noB Try.func57 rfl Try.ntmps57 ⟨rfl, rfl, trivial⟩ rfl (by simp) (by simp) (by simp) ?_
  intro a hS
  refine c_seq ?_
  refine c_region ?_
  refine L_op (s_alloc hS ty_z44 rfl ?_); clear hS a; (try clear w); intro a w b4 hS
  refine L_nil ?_
  refine n_then ?_
  refine c_seq ?_
  refine c_region ?_
  refine L_op (s_e hS (e_move rfl) rfl ?_); clear hS a; intro a hS
  refine L_op (s_e hS (e_len rfl rfl ty_sl42) rfl ?_); clear hS a; intro a hS
  refine L_op (s_e hS (e_assign rfl) rfl ?_); clear hS a; intro a hS
  refine L_nil ?_
  refine n_then ?_
  refine c_seq ?_
  refine wp_block ?_
  skip
  refine c_loop (γ := Nat) (fun k a w => St 31 noB w0 a w [(5, .int .i64 0), (4, .pointer (some ⟨b4, 0, none⟩)), (0, .bool neg), (1, .slice none 0 0)] [.blk b4 [.bool false, .slice none 0 0] 44] ∧ k = 0) (fun k => k) 0 ⟨hS.slots ⟨rfl, rfl, rfl, rfl, trivial⟩, rfl⟩ ?_
  clear hS a; (try clear w); intro k a w hI
  obtain ⟨hS, hk⟩ := hI
  refine c_seq ?_
  refine c_seq ?_
  refine c_region ?_
  refine L_op (s_e hS (e_move rfl) rfl ?_); clear hS a; intro a hS
  refine L_op (s_e hS (e_bin rfl rfl rfl) rfl ?_); clear hS a; intro a hS
  refine L_op (s_e hS (e_move rfl) rfl ?_); clear hS a; intro a hS
  replace hS := hS.is (t := 10) (c := false) rfl ((by decide))
  refine L_skip_t hS rfl rfl rfl ?_; clear hS a; intro a hS
  refine L_skip_t hS rfl rfl rfl ?_; clear hS a; intro a hS
  refine L_skip_t hS rfl rfl rfl ?_; clear hS a; intro a hS
  refine L_skip_t hS rfl rfl rfl ?_; clear hS a; intro a hS
  refine L_skip_t hS rfl rfl rfl ?_; clear hS a; intro a hS
  refine L_skip_t hS rfl rfl rfl ?_; clear hS a; intro a hS
  first | (refine L_op (s_e hS (e_pick_t rfl rfl) rfl ?_); clear hS a; intro a hS) | (refine L_op (s_e hS (e_pick_f rfl rfl) rfl ?_); clear hS a; intro a hS)
  refine L_nil ?_
  refine n_then ?_
  refine c_if_f hS rfl ?_
  refine wp_exit ?_
  refine x_then (x_then (x_hit ?_))
  refine n_then ?_
  refine c_seq ?_
  refine c_region ?_
  refine L_op (s_e hS (e_move rfl) rfl ?_); clear hS a; intro a hS
  refine L_op (s_e hS (e_move rfl) rfl ?_); clear hS a; intro a hS
  (first | refine g_splitD (t := 21) hS rfl ?_ ?_ | refine g_split (t := 21) hS rfl ?_ ?_) <;> (clear hS; intro hg21 hS)
  ·
    refine L_go hS rfl rfl (s_e hS (e_move rfl) rfl ?_); clear hS a; intro a hS
    refine L_go hS rfl rfl (s_e hS (e_bin rfl rfl rfl) rfl ?_); clear hS a; intro a hS
    first | (refine L_op (s_e hS (e_pick_t rfl rfl) rfl ?_); clear hS a; intro a hS) | (refine L_op (s_e hS (e_pick_f rfl rfl) rfl ?_); clear hS a; intro a hS)
    refine L_op (s_bslice hS ty_sl42 ty_sz3 ty_z3 rfl rfl rfl rfl .nil rfl ?_); clear hS a; (try clear w); intro a w b25 hS
    refine L_op (s_e hS (e_move rfl) rfl ?_); clear hS a; intro a hS
    refine L_op (s_e hS (e_move rfl) rfl ?_); clear hS a; intro a hS
    refine L_op (s_e hS (e_slH (j := 0) rfl rfl ty_sl42 ty_sz3 (Nat.le_refl _)) rfl ?_); clear hS a; intro a hS
    replace hS := hS.swap (X := .blk b25 [] 3) (Y := ownA 3 1 (.slice (some ⟨b25, 0, none⟩) 0 0) 0 []) (by repeat (first | apply Rep.head | apply Rep.tail)) (own_empty (hS.get (X := .blk b25 [] 3) (by repeat (first | exact .head _ | refine .tail _ ?_)))) (fun b hb => by simpa [ownA, Asn.F, Value.ownBlock, eq_comm] using hb) rfl
    refine L_op (s_e hS (e_append0 rfl rfl ty_sl42 ty_sz3 ty_by3 ty_z3 (by repeat (first | exact .head _ | refine .tail _ ?_))) rfl ?_); clear hS a; intro a hS
    refine L_op (s_e hS (e_build ty_z44 ty_pl44 (.one rfl rfl rfl (by repeat constructor) (.one rfl rfl rfl (by repeat constructor) .nil))) rfl ?_); clear hS a; intro a hS
    refine L_op (s_storeA hS rfl rfl ty_sz44 (by repeat constructor) (by rfl) (by rfl) (by rfl) ?_); clear hS; (try clear w); intro w hS
    refine L_nil ?_
    refine n_then ?_
    refine wp_ret ?_
    refine c_ret1 hS Try.results57 (.cellA rfl (by repeat constructor) ty_st44 ty_sz44 (by rfl)) ?_
    have hn := hS.new (X := ownA 3 1 (.slice (some ⟨b25, 0, none⟩) 0 0) 0 []) (by repeat (first | exact .head _ | refine .tail _ ?_)) rfl
    refine ⟨⟨(b25, 0), by rw [show (0 : Int).natAbs = 0 from rfl, dgs_zero]; exact Nat.le_refl _⟩, (congrArg Ending.returned (big_zero b25 0)).symm, hS.chg, big_of_own (c := 0) (m := 0) (l := []) (by rw [show (0 : Int).natAbs = 0 from rfl, dgs_zero]) hn.1.now, fun q hq => hn.2 q (by obtain rfl : q = b25 := hq; rfl)⟩
  ·
    refine L_skip_t hS rfl rfl rfl ?_; clear hS a; intro a hS
    refine L_skip_t hS rfl rfl rfl ?_; clear hS a; intro a hS
    first | (refine L_op (s_e hS (e_pick_t rfl rfl) rfl ?_); clear hS a; intro a hS) | (refine L_op (s_e hS (e_pick_f rfl rfl) rfl ?_); clear hS a; intro a hS)
    refine L_op (s_bslice hS ty_sl42 ty_sz3 ty_z3 rfl rfl rfl rfl .nil rfl ?_); clear hS a; (try clear w); intro a w b25 hS
    refine L_op (s_e hS (e_move rfl) rfl ?_); clear hS a; intro a hS
    refine L_op (s_e hS (e_move rfl) rfl ?_); clear hS a; intro a hS
    refine L_op (s_e hS (e_slH (j := 0) rfl rfl ty_sl42 ty_sz3 (Nat.le_refl _)) rfl ?_); clear hS a; intro a hS
    replace hS := hS.swap (X := .blk b25 [] 3) (Y := ownA 3 1 (.slice (some ⟨b25, 0, none⟩) 0 0) 0 []) (by repeat (first | apply Rep.head | apply Rep.tail)) (own_empty (hS.get (X := .blk b25 [] 3) (by repeat (first | exact .head _ | refine .tail _ ?_)))) (fun b hb => by simpa [ownA, Asn.F, Value.ownBlock, eq_comm] using hb) rfl
    refine L_op (s_e hS (e_append0 rfl rfl ty_sl42 ty_sz3 ty_by3 ty_z3 (by repeat (first | exact .head _ | refine .tail _ ?_))) rfl ?_); clear hS a; intro a hS
    refine L_op (s_e hS (e_build ty_z44 ty_pl44 (.one rfl rfl rfl (by repeat constructor) (.one rfl rfl rfl (by repeat constructor) .nil))) rfl ?_); clear hS a; intro a hS
    refine L_op (s_storeA hS rfl rfl ty_sz44 (by repeat constructor) (by rfl) (by rfl) (by rfl) ?_); clear hS; (try clear w); intro w hS
    refine L_nil ?_
    refine n_then ?_
    refine wp_ret ?_
    refine c_ret1 hS Try.results57 (.cellA rfl (by repeat constructor) ty_st44 ty_sz44 (by rfl)) ?_
    have hn := hS.new (X := ownA 3 1 (.slice (some ⟨b25, 0, none⟩) 0 0) 0 []) (by repeat (first | exact .head _ | refine .tail _ ?_)) rfl
    refine ⟨⟨(b25, 0), by rw [show (0 : Int).natAbs = 0 from rfl, dgs_zero]; exact Nat.le_refl _⟩, (congrArg Ending.returned (big_zero b25 0)).symm, hS.chg, big_of_own (c := 0) (m := 0) (l := []) (by rw [show (0 : Int).natAbs = 0 from rfl, dgs_zero]) hn.1.now, fun q hq => hn.2 q (by obtain rfl : q = b25 := hq; rfl)⟩

set_option maxRecDepth 100000 in
theorem trim_some (neg : Bool) (b off c : Nat) (ds : List Int) (hin : inR ds) (hc : ds.length ≤ c) (hlen : ds.length ≤ 1000000) (w0 : World) (hrow : RowAt b off 1 (ds.map encD) w0) (hb : b < w0.heap.size) :
    NewC Try.prog 57 [.bool neg, sliceV (some (b, off)) ds.length c] w0 (fun y : At (sgn neg (nv ds)) => bigV (sgn neg (nv ds)) (some (y.1.1, 0)) y.1.2) (fun y => bigA (sgn neg (nv ds)) y.1.1) := by
  refine c_enter [(0, .bool neg), (1, sliceV (some (b, off)) ds.length c)] [rowA b off 1 (ds.map encD)] noB Try.func57 rfl Try.ntmps57 ⟨rfl, rfl, trivial⟩ rfl (by intro X hX; obtain rfl := List.mem_singleton.1 hX; exact ok_row hrow hb) (by simp) (by intro X hX hm; obtain rfl := List.mem_singleton.1 hX; cases hm) ?_
  intro a hS
  refine c_seq ?_
  refine c_region ?_
  refine L_op (s_alloc hS ty_z44 rfl ?_); clear hS a; (try clear w); intro a w b4 hS
  refine L_nil ?_
  refine n_then ?_
  refine c_seq ?_
  refine c_region ?_
  refine L_op (s_e hS (e_move rfl) rfl ?_); clear hS a; intro a hS
  refine L_op (s_e hS (e_len rfl rfl ty_sl42) rfl ?_); clear hS a; intro a hS
  refine L_op (s_e hS (e_assign rfl) rfl ?_); clear hS a; intro a hS
  refine L_nil ?_
  refine n_then ?_
  refine c_seq ?_
  refine wp_block ?_
  skip
  refine c_loop (γ := Nat) (fun k a w => St 31 noB w0 a w [(5, .int .i64 (k : Int)), (4, .pointer (some ⟨b4, 0, none⟩)), (0, .bool neg), (1, sliceV (some (b, off)) ds.length c)] [.blk b4 [.bool false, .slice none 0 0] 44, rowA b off 1 (ds.map encD)] ∧ k ≤ ds.length ∧ nv (ds.take k) = nv ds) (fun k => k) ds.length ⟨hS.slots ⟨rfl, rfl, rfl, rfl, trivial⟩, Nat.le_refl _, by rw [List.take_length]⟩ ?_
  clear hS a; (try clear w); intro k a w hI
  obtain ⟨hS, hk, hv⟩ := hI
  refine c_seq ?_
  refine c_seq ?_
  refine c_region ?_
  refine L_op (s_e hS (e_move rfl) rfl ?_); clear hS a; intro a hS
  refine L_op (s_e hS (e_bin rfl rfl rfl) rfl ?_); clear hS a; intro a hS
  refine L_op (s_e hS (e_move rfl) rfl ?_); clear hS a; intro a hS
  try (
    have hk1 : 0 < k := by omega
    have hkn : ((k : Int) - 1).toNat = k - 1 := by omega
    obtain ⟨d, hd⟩ : ∃ d, ds[k - 1]? = some d := ⟨ds[k - 1]'(by omega), List.getElem?_eq_getElem (by omega)⟩
    have hd' : (ds.map encD)[k - 1]? = some (encD d) := by simp [hd])
  (first | refine g_splitD (t := 10) hS rfl ?_ ?_ | refine g_split (t := 10) hS rfl ?_ ?_) <;> (clear hS; intro hg10 hS)
  ·
    try (
      have hk1 : 0 < k := by omega
      have hkn : ((k : Int) - 1).toNat = k - 1 := by omega
      obtain ⟨d, hd⟩ : ∃ d, ds[k - 1]? = some d := ⟨ds[k - 1]'(by omega), List.getElem?_eq_getElem (by omega)⟩
      have hd' : (ds.map encD)[k - 1]? = some (encD d) := by simp [hd])
    refine L_go hS rfl rfl (s_e hS (e_move rfl) rfl ?_); clear hS a; intro a hS
    refine L_go hS rfl rfl (s_e hS (e_move rfl) rfl ?_); clear hS a; intro a hS
    first | (refine L_go hS rfl rfl (s_e hS (e_binN rfl rfl rfl (by omega)) rfl ?_); clear hS a; intro a hS) | (refine L_go hS rfl rfl (s_e hS (e_bin rfl rfl rfl) rfl ?_); clear hS a; intro a hS)
    refine L_go hS rfl rfl (s_e hS (e_ix rfl rfl ty_sl42 ty_sz3 (by omega)) rfl ?_); clear hS a; intro a hS
    refine L_go hS rfl rfl (s_e hS (e_loadC rfl ty_sc3 (fun w hh => by rw [hkn]; exact row_get (by repeat (first | exact .head _ | refine .tail _ ?_)) hd' w hh 0 (.int .i64 d) rfl)) rfl ?_); clear hS a; intro a hS
    refine L_go hS rfl rfl (s_e hS (e_bin rfl rfl rfl) rfl ?_); clear hS a; intro a hS
    first | (refine L_op (s_e hS (e_pick_t rfl rfl) rfl ?_); clear hS a; intro a hS) | (refine L_op (s_e hS (e_pick_f rfl rfl) rfl ?_); clear hS a; intro a hS)
    refine L_nil ?_
    refine n_then ?_
    first | refine c_ifD hS rfl (fun hc17 => ?_) (fun hc17 => ?_) | refine c_if hS rfl (fun hc17 => ?_) (fun hc17 => ?_)
    ·
      refine wp_skip ?_
      refine n_then ?_
      refine wp_block ?_
      refine c_region ?_
      refine L_op (s_e hS (e_move rfl) rfl ?_); clear hS a; intro a hS
      first | (refine L_op (s_e hS (e_binN rfl rfl rfl (by omega)) rfl ?_); clear hS a; intro a hS) | (refine L_op (s_e hS (e_bin rfl rfl rfl) rfl ?_); clear hS a; intro a hS)
      refine L_op (s_e hS (e_assign rfl) rfl ?_); clear hS a; intro a hS
      refine L_nil ?_
      refine n_block ?_
      exact ⟨k - 1, by omega, by rw [show ((k - 1 : Nat) : Int) = (k : Int) - 1 by omega]; exact hS.slots (by exact ⟨rfl, rfl, rfl, rfl, trivial⟩), by omega, by subst hc17; have := trim_step hd; rw [show k - 1 + 1 = k by omega] at this; rw [← this]; exact hv⟩
    ·
      refine wp_exit ?_
      refine x_then (x_then (x_hit ?_))
      refine n_then ?_
      refine c_seq ?_
      refine c_region ?_
      have hT : ds.take k = dgs (nv ds).toNat := trim_end hin hk (by first | exact .inl (by omega) | exact .inr ⟨d, hd, hc17⟩) hv
      refine L_op (s_e hS (e_move rfl) rfl ?_); clear hS a; intro a hS
      refine L_op (s_e hS (e_move rfl) rfl ?_); clear hS a; intro a hS
      (first | refine g_splitD (t := 21) hS rfl ?_ ?_ | refine g_split (t := 21) hS rfl ?_ ?_) <;> (clear hS; intro hg21 hS)
      ·
        refine L_go hS rfl rfl (s_e hS (e_move rfl) rfl ?_); clear hS a; intro a hS
        refine L_go hS rfl rfl (s_e hS (e_bin rfl rfl rfl) rfl ?_); clear hS a; intro a hS
        first | (refine L_op (s_e hS (e_pick_t rfl rfl) rfl ?_); clear hS a; intro a hS) | (refine L_op (s_e hS (e_pick_f rfl rfl) rfl ?_); clear hS a; intro a hS)
        refine L_op (s_bslice hS ty_sl42 ty_sz3 ty_z3 rfl rfl rfl rfl .nil rfl ?_); clear hS a; (try clear w); intro a w b25 hS
        refine L_op (s_e hS (e_move rfl) rfl ?_); clear hS a; intro a hS
        refine L_op (s_e hS (e_move rfl) rfl ?_); clear hS a; intro a hS
        refine L_op (s_e hS (e_slH rfl rfl ty_sl42 ty_sz3 (by omega)) rfl ?_); clear hS a; intro a hS
        replace hS := hS.swap (X := .blk b25 [] 3) (Y := ownA 3 1 (.slice (some ⟨b25, 0, none⟩) 0 0) 0 []) (by repeat (first | apply Rep.head | apply Rep.tail)) (own_empty (hS.get (X := .blk b25 [] 3) (by repeat (first | exact .head _ | refine .tail _ ?_)))) (fun b hb => by simpa [ownA, Asn.F, Value.ownBlock, eq_comm] using hb) rfl
        refine L_op (s_append hS rfl rfl ty_sl42 ty_sz3 ty_by3 ty_z3 rfl rfl rfl (by repeat (first | exact .head _ | refine .tail _ ?_)) (ys := (ds.take k).flatMap encD) (by rw [flat_len encD 1 (fun _ => rfl), List.length_take]; omega) (by have := dig_flat (l := ds.take k) (by rw [List.map_take]; exact rowAt_take (hS.get (X := rowA b off 1 (ds.map encD)) (by repeat (first | exact .head _ | refine .tail _ ?_)))); exact this) (digOne _) (by omega) (fun _ => (by repeat (first | apply Rep.head | apply Rep.tail))) ?_); clear hS a; (try clear w); intro v29 a w hv29 hS
        obtain ⟨lb, c', rfl⟩ := own_some (hS.get (.head _)) (fun e => by have := (hv29.1 e).1; cases this)
        rw [Nat.zero_add, List.nil_append] at hS
        clear hv29
        refine L_op (s_e hS (e_build ty_z44 ty_pl44 (.one rfl rfl rfl (by repeat constructor) (.one rfl rfl rfl (by repeat constructor) .nil))) rfl ?_); clear hS a; intro a hS
        refine L_op (s_storeA hS rfl rfl ty_sz44 (by repeat constructor) (by rfl) (by rfl) (by rfl) ?_); clear hS; (try clear w); intro w hS
        refine L_nil ?_
        refine n_then ?_
        refine wp_ret ?_
        refine c_ret1 hS Try.results57 (.cellA rfl (by repeat constructor) ty_st44 ty_sz44 (by rfl)) ?_
        have hlk : (dgs (nv ds).toNat).length = k := by rw [← hT, List.length_take]; omega
        have hn := hS.new (X := ownA 3 1 (.slice (some ⟨lb, 0, none⟩) k c') k ((ds.take k).flatMap encD)) (by repeat (first | exact .head _ | refine .tail _ ?_)) rfl
        refine ⟨⟨(lb, c'), by rw [sgn_abs (nv_nonneg hin), hlk]; exact own_le hn.1.now⟩, ?_, hS.chg, big_of_own (by rw [sgn_abs (nv_nonneg hin)]; exact hT) hn.1.now, fun q hq => hn.2 q (by obtain rfl : q = lb := hq; rfl)⟩
        show _ = Ending.returned (bigV (sgn neg (nv ds)) (some (lb, 0)) c')
        rw [trim_val (nv_nonneg hin) hlk, hg21]
        simp [sliceV]
      ·
        refine L_skip_t hS rfl rfl rfl ?_; clear hS a; intro a hS
        refine L_skip_t hS rfl rfl rfl ?_; clear hS a; intro a hS
        first | (refine L_op (s_e hS (e_pick_t rfl rfl) rfl ?_); clear hS a; intro a hS) | (refine L_op (s_e hS (e_pick_f rfl rfl) rfl ?_); clear hS a; intro a hS)
        refine L_op (s_bslice hS ty_sl42 ty_sz3 ty_z3 rfl rfl rfl rfl .nil rfl ?_); clear hS a; (try clear w); intro a w b25 hS
        refine L_op (s_e hS (e_move rfl) rfl ?_); clear hS a; intro a hS
        refine L_op (s_e hS (e_move rfl) rfl ?_); clear hS a; intro a hS
        refine L_op (s_e hS (e_slH rfl rfl ty_sl42 ty_sz3 (by omega)) rfl ?_); clear hS a; intro a hS
        replace hS := hS.swap (X := .blk b25 [] 3) (Y := ownA 3 1 (.slice (some ⟨b25, 0, none⟩) 0 0) 0 []) (by repeat (first | apply Rep.head | apply Rep.tail)) (own_empty (hS.get (X := .blk b25 [] 3) (by repeat (first | exact .head _ | refine .tail _ ?_)))) (fun b hb => by simpa [ownA, Asn.F, Value.ownBlock, eq_comm] using hb) rfl
        refine L_op (s_append hS rfl rfl ty_sl42 ty_sz3 ty_by3 ty_z3 rfl rfl rfl (by repeat (first | exact .head _ | refine .tail _ ?_)) (ys := (ds.take k).flatMap encD) (by rw [flat_len encD 1 (fun _ => rfl), List.length_take]; omega) (by have := dig_flat (l := ds.take k) (by rw [List.map_take]; exact rowAt_take (hS.get (X := rowA b off 1 (ds.map encD)) (by repeat (first | exact .head _ | refine .tail _ ?_)))); exact this) (digOne _) (by omega) (fun _ => (by repeat (first | apply Rep.head | apply Rep.tail))) ?_); clear hS a; (try clear w); intro v29 a w hv29 hS
        obtain ⟨lb, c', rfl⟩ := own_some (hS.get (.head _)) (fun e => by have := (hv29.1 e).1; cases this)
        rw [Nat.zero_add, List.nil_append] at hS
        clear hv29
        refine L_op (s_e hS (e_build ty_z44 ty_pl44 (.one rfl rfl rfl (by repeat constructor) (.one rfl rfl rfl (by repeat constructor) .nil))) rfl ?_); clear hS a; intro a hS
        refine L_op (s_storeA hS rfl rfl ty_sz44 (by repeat constructor) (by rfl) (by rfl) (by rfl) ?_); clear hS; (try clear w); intro w hS
        refine L_nil ?_
        refine n_then ?_
        refine wp_ret ?_
        refine c_ret1 hS Try.results57 (.cellA rfl (by repeat constructor) ty_st44 ty_sz44 (by rfl)) ?_
        have hlk : (dgs (nv ds).toNat).length = k := by rw [← hT, List.length_take]; omega
        have hn := hS.new (X := ownA 3 1 (.slice (some ⟨lb, 0, none⟩) k c') k ((ds.take k).flatMap encD)) (by repeat (first | exact .head _ | refine .tail _ ?_)) rfl
        refine ⟨⟨(lb, c'), by rw [sgn_abs (nv_nonneg hin), hlk]; exact own_le hn.1.now⟩, ?_, hS.chg, big_of_own (by rw [sgn_abs (nv_nonneg hin)]; exact hT) hn.1.now, fun q hq => hn.2 q (by obtain rfl : q = lb := hq; rfl)⟩
        show _ = Ending.returned (bigV (sgn neg (nv ds)) (some (lb, 0)) c')
        rw [trim_val (nv_nonneg hin) hlk, hg21]
        simp [sliceV]
  ·
    try (
      have hk1 : 0 < k := by omega
      have hkn : ((k : Int) - 1).toNat = k - 1 := by omega
      obtain ⟨d, hd⟩ : ∃ d, ds[k - 1]? = some d := ⟨ds[k - 1]'(by omega), List.getElem?_eq_getElem (by omega)⟩
      have hd' : (ds.map encD)[k - 1]? = some (encD d) := by simp [hd])
    refine L_skip_t hS rfl rfl rfl ?_; clear hS a; intro a hS
    refine L_skip_t hS rfl rfl rfl ?_; clear hS a; intro a hS
    refine L_skip_t hS rfl rfl rfl ?_; clear hS a; intro a hS
    refine L_skip_t hS rfl rfl rfl ?_; clear hS a; intro a hS
    refine L_skip_t hS rfl rfl rfl ?_; clear hS a; intro a hS
    refine L_skip_t hS rfl rfl rfl ?_; clear hS a; intro a hS
    first | (refine L_op (s_e hS (e_pick_t rfl rfl) rfl ?_); clear hS a; intro a hS) | (refine L_op (s_e hS (e_pick_f rfl rfl) rfl ?_); clear hS a; intro a hS)
    refine L_nil ?_
    refine n_then ?_
    refine c_if_f hS rfl ?_
    refine wp_exit ?_
    refine x_then (x_then (x_hit ?_))
    refine n_then ?_
    refine c_seq ?_
    refine c_region ?_
    have hT : ds.take k = dgs (nv ds).toNat := trim_end hin hk (by first | exact .inl (by omega) | exact .inr ⟨d, hd, hc17⟩) hv
    refine L_op (s_e hS (e_move rfl) rfl ?_); clear hS a; intro a hS
    refine L_op (s_e hS (e_move rfl) rfl ?_); clear hS a; intro a hS
    (first | refine g_splitD (t := 21) hS rfl ?_ ?_ | refine g_split (t := 21) hS rfl ?_ ?_) <;> (clear hS; intro hg21 hS)
    ·
      refine L_go hS rfl rfl (s_e hS (e_move rfl) rfl ?_); clear hS a; intro a hS
      refine L_go hS rfl rfl (s_e hS (e_bin rfl rfl rfl) rfl ?_); clear hS a; intro a hS
      first | (refine L_op (s_e hS (e_pick_t rfl rfl) rfl ?_); clear hS a; intro a hS) | (refine L_op (s_e hS (e_pick_f rfl rfl) rfl ?_); clear hS a; intro a hS)
      refine L_op (s_bslice hS ty_sl42 ty_sz3 ty_z3 rfl rfl rfl rfl .nil rfl ?_); clear hS a; (try clear w); intro a w b25 hS
      refine L_op (s_e hS (e_move rfl) rfl ?_); clear hS a; intro a hS
      refine L_op (s_e hS (e_move rfl) rfl ?_); clear hS a; intro a hS
      refine L_op (s_e hS (e_slH rfl rfl ty_sl42 ty_sz3 (by omega)) rfl ?_); clear hS a; intro a hS
      replace hS := hS.swap (X := .blk b25 [] 3) (Y := ownA 3 1 (.slice (some ⟨b25, 0, none⟩) 0 0) 0 []) (by repeat (first | apply Rep.head | apply Rep.tail)) (own_empty (hS.get (X := .blk b25 [] 3) (by repeat (first | exact .head _ | refine .tail _ ?_)))) (fun b hb => by simpa [ownA, Asn.F, Value.ownBlock, eq_comm] using hb) rfl
      refine L_op (s_append hS rfl rfl ty_sl42 ty_sz3 ty_by3 ty_z3 rfl rfl rfl (by repeat (first | exact .head _ | refine .tail _ ?_)) (ys := (ds.take k).flatMap encD) (by rw [flat_len encD 1 (fun _ => rfl), List.length_take]; omega) (by have := dig_flat (l := ds.take k) (by rw [List.map_take]; exact rowAt_take (hS.get (X := rowA b off 1 (ds.map encD)) (by repeat (first | exact .head _ | refine .tail _ ?_)))); exact this) (digOne _) (by omega) (fun _ => (by repeat (first | apply Rep.head | apply Rep.tail))) ?_); clear hS a; (try clear w); intro v29 a w hv29 hS
      obtain ⟨lb, c', rfl⟩ := own_some (hS.get (.head _)) (fun e => by have := (hv29.1 e).1; cases this)
      rw [Nat.zero_add, List.nil_append] at hS
      clear hv29
      refine L_op (s_e hS (e_build ty_z44 ty_pl44 (.one rfl rfl rfl (by repeat constructor) (.one rfl rfl rfl (by repeat constructor) .nil))) rfl ?_); clear hS a; intro a hS
      refine L_op (s_storeA hS rfl rfl ty_sz44 (by repeat constructor) (by rfl) (by rfl) (by rfl) ?_); clear hS; (try clear w); intro w hS
      refine L_nil ?_
      refine n_then ?_
      refine wp_ret ?_
      refine c_ret1 hS Try.results57 (.cellA rfl (by repeat constructor) ty_st44 ty_sz44 (by rfl)) ?_
      have hlk : (dgs (nv ds).toNat).length = k := by rw [← hT, List.length_take]; omega
      have hn := hS.new (X := ownA 3 1 (.slice (some ⟨lb, 0, none⟩) k c') k ((ds.take k).flatMap encD)) (by repeat (first | exact .head _ | refine .tail _ ?_)) rfl
      refine ⟨⟨(lb, c'), by rw [sgn_abs (nv_nonneg hin), hlk]; exact own_le hn.1.now⟩, ?_, hS.chg, big_of_own (by rw [sgn_abs (nv_nonneg hin)]; exact hT) hn.1.now, fun q hq => hn.2 q (by obtain rfl : q = lb := hq; rfl)⟩
      show _ = Ending.returned (bigV (sgn neg (nv ds)) (some (lb, 0)) c')
      rw [trim_val (nv_nonneg hin) hlk, hg21]
      simp [sliceV]
    ·
      refine L_skip_t hS rfl rfl rfl ?_; clear hS a; intro a hS
      refine L_skip_t hS rfl rfl rfl ?_; clear hS a; intro a hS
      first | (refine L_op (s_e hS (e_pick_t rfl rfl) rfl ?_); clear hS a; intro a hS) | (refine L_op (s_e hS (e_pick_f rfl rfl) rfl ?_); clear hS a; intro a hS)
      refine L_op (s_bslice hS ty_sl42 ty_sz3 ty_z3 rfl rfl rfl rfl .nil rfl ?_); clear hS a; (try clear w); intro a w b25 hS
      refine L_op (s_e hS (e_move rfl) rfl ?_); clear hS a; intro a hS
      refine L_op (s_e hS (e_move rfl) rfl ?_); clear hS a; intro a hS
      refine L_op (s_e hS (e_slH rfl rfl ty_sl42 ty_sz3 (by omega)) rfl ?_); clear hS a; intro a hS
      replace hS := hS.swap (X := .blk b25 [] 3) (Y := ownA 3 1 (.slice (some ⟨b25, 0, none⟩) 0 0) 0 []) (by repeat (first | apply Rep.head | apply Rep.tail)) (own_empty (hS.get (X := .blk b25 [] 3) (by repeat (first | exact .head _ | refine .tail _ ?_)))) (fun b hb => by simpa [ownA, Asn.F, Value.ownBlock, eq_comm] using hb) rfl
      refine L_op (s_append hS rfl rfl ty_sl42 ty_sz3 ty_by3 ty_z3 rfl rfl rfl (by repeat (first | exact .head _ | refine .tail _ ?_)) (ys := (ds.take k).flatMap encD) (by rw [flat_len encD 1 (fun _ => rfl), List.length_take]; omega) (by have := dig_flat (l := ds.take k) (by rw [List.map_take]; exact rowAt_take (hS.get (X := rowA b off 1 (ds.map encD)) (by repeat (first | exact .head _ | refine .tail _ ?_)))); exact this) (digOne _) (by omega) (fun _ => (by repeat (first | apply Rep.head | apply Rep.tail))) ?_); clear hS a; (try clear w); intro v29 a w hv29 hS
      obtain ⟨lb, c', rfl⟩ := own_some (hS.get (.head _)) (fun e => by have := (hv29.1 e).1; cases this)
      rw [Nat.zero_add, List.nil_append] at hS
      clear hv29
      refine L_op (s_e hS (e_build ty_z44 ty_pl44 (.one rfl rfl rfl (by repeat constructor) (.one rfl rfl rfl (by repeat constructor) .nil))) rfl ?_); clear hS a; intro a hS
      refine L_op (s_storeA hS rfl rfl ty_sz44 (by repeat constructor) (by rfl) (by rfl) (by rfl) ?_); clear hS; (try clear w); intro w hS
      refine L_nil ?_
      refine n_then ?_
      refine wp_ret ?_
      refine c_ret1 hS Try.results57 (.cellA rfl (by repeat constructor) ty_st44 ty_sz44 (by rfl)) ?_
      have hlk : (dgs (nv ds).toNat).length = k := by rw [← hT, List.length_take]; omega
      have hn := hS.new (X := ownA 3 1 (.slice (some ⟨lb, 0, none⟩) k c') k ((ds.take k).flatMap encD)) (by repeat (first | exact .head _ | refine .tail _ ?_)) rfl
      refine ⟨⟨(lb, c'), by rw [sgn_abs (nv_nonneg hin), hlk]; exact own_le hn.1.now⟩, ?_, hS.chg, big_of_own (by rw [sgn_abs (nv_nonneg hin)]; exact hT) hn.1.now, fun q hq => hn.2 q (by obtain rfl : q = lb := hq; rfl)⟩
      show _ = Ending.returned (bigV (sgn neg (nv ds)) (some (lb, 0)) c')
      rw [trim_val (nv_nonneg hin) hlk, hg21]
      simp [sliceV]
theorem trim_P (neg : Bool) (p : Option (Nat × Nat)) (c : Nat) (hp : p = none → c = 0) (ds : List Int) (hin : inR ds) (hc : ds.length ≤ c) (hlen : ds.length ≤ 1000000) (w0 : World) (hrow : RowP p 1 (ds.map encD) w0) (hb : ∀ q, p = some q → q.1 < w0.heap.size) :
    NewC Try.prog 57 [.bool neg, sliceV p ds.length c] w0 (fun y : At (sgn neg (nv ds)) => bigV (sgn neg (nv ds)) (some (y.1.1, 0)) y.1.2) (fun y => bigA (sgn neg (nv ds)) y.1.1) := by
  cases p with
  | none =>
    obtain rfl := hp rfl
    obtain rfl : ds = [] := by simpa [RowP] using hrow
    have e : sgn neg (nv []) = 0 := by cases neg <;> rfl
    rw [e]
    exact trim_none neg w0
  | some q => exact trim_some neg q.1 q.2 c ds hin hc hlen w0 hrow (hb q rfl)
/-- a row of digits of the walk's own, as a slice that is read. -/
theorem own_digs {w : World} {v : Value} {l : List Int} (h : w.ownsRow 0 3 1 v l.length (l.flatMap encD)) :
    ∃ p c, v = sliceV p l.length c ∧ (p = none → c = 0) ∧ l.length ≤ c ∧ RowP p 1 (l.map encD) w ∧ ∀ q, p = some q → q.1 < w.heap.size := by
  rcases h.2 with ⟨rfl, e⟩ | ⟨g, cap, cur, rfl, _, _, hc, _⟩
  · refine ⟨none, 0, by rw [e]; rfl, fun _ => rfl, by omega, ?_, by simp⟩
    rw [List.eq_nil_of_length_eq_zero e]; rfl
  · refine ⟨some (g, 0), cap, rfl, by simp, hc, row_of_own (enc := encD) (fun _ => rfl) h, fun q hq => ?_⟩
    cases hq
    exact (World.ownsRow.lt h g rfl).2
theorem sliceV_inj {p q : Option (Nat × Nat)} {m c d : Nat} (h : sliceV p m c = sliceV q m d) : p = q ∧ c = d := by
  unfold sliceV at h
  simp only [Value.slice.injEq, true_and] at h
  refine ⟨?_, h.2⟩
  cases p <;> cases q <;> simp_all
  exact Prod.ext h.1.1 h.1.2
theorem sgn_of {z v : Int} (h : v = z.natAbs) : sgn (decide (z < 0)) v = z := by
  unfold sgn
  by_cases h0 : z < 0 <;> simp [h0] <;> omega
end Go.Proofs.Ytheofhegdjjfgaa

namespace Go.Proofs.Ytheofhegdjjfgaa
open Go.RowKit

theorem wrap_fit {m : Int} (h : -9223372036854775808 ≤ m ∧ m ≤ 9223372036854775807) : IntKind.i64.wrap m = m := IntWalk.i64_in _ (by omega)
theorem quo_abs (n : Int) : (n.tdiv 10000).natAbs = n.natAbs / 10000 := Int.natAbs_tdiv n 10000
theorem rem_abs (n : Int) : (n.tmod 10000).natAbs = n.natAbs % 10000 := Int.natAbs_tmod n 10000

set_option maxRecDepth 100000 in
theorem BigOf_P (z : Int) (hz : -9223372036854775808 ≤ z ∧ z ≤ 9223372036854775807) (w0 : World) :
    NewC Try.prog 22 [.int .i64 z] w0 (fun y : At z => bigV z (some (y.1.1, 0)) y.1.2) (fun y => bigA z y.1.1) := by
  have hlz : (dgs z.natAbs).length ≤ 5 := dgs_length_le (by omega)
  refine c_enter [(0, .int .i64 z)] [] noB Try.func22 rfl Try.ntmps22 ⟨rfl, trivial⟩ rfl (by simp) (by simp) (by simp) ?_
  intro a hS
  refine c_seq ?_
  refine c_region ?_
  refine L_op (s_alloc hS ty_z44 rfl ?_); clear hS a; (try clear w); intro a w b2 hS
  refine L_nil ?_
  refine n_then ?_
  refine c_seq ?_
  refine c_region ?_
  refine L_op (s_e hS (e_move rfl) rfl ?_); clear hS a; intro a hS
  refine L_op (s_e hS (e_bin rfl rfl rfl) rfl ?_); clear hS a; intro a hS
  refine L_op (s_e hS (e_assign rfl) rfl ?_); clear hS a; intro a hS
  refine L_nil ?_
  refine n_then ?_
  refine c_seq ?_
  refine c_region ?_
  refine L_op (s_e hS (e_assign rfl) rfl ?_); clear hS a; intro a hS
  refine L_nil ?_
  refine n_then ?_
  refine c_seq ?_
  refine wp_block ?_
  skip
  refine c_loop (γ := (Int × List Int × Value)) (fun G a w => St 25 noB w0 a w [(0, .int .i64 G.1), (2, .pointer (some ⟨b2, 0, none⟩)), (3, .bool (decide (z < 0))), (4, G.2.2)] [ownA 3 1 G.2.2 G.2.1.length (G.2.1.flatMap encD), .blk b2 [.bool false, .slice none 0 0] 44] ∧ G.2.1 ++ dgs G.1.natAbs = dgs z.natAbs ∧ -9223372036854775808 ≤ G.1 ∧ G.1 ≤ 9223372036854775807) (fun G => G.1.natAbs) (z, [], .slice none 0 0) ⟨(hS.own_nil 3 1).slots ⟨rfl, rfl, rfl, rfl, trivial⟩, rfl, hz⟩ ?_
  clear hS a; (try clear w); intro G a w hI
  obtain ⟨n, l, sv⟩ := G
  obtain ⟨hS, hl, hn⟩ := hI
  simp only at hS hl hn
  refine c_seq ?_
  refine c_seq ?_
  refine c_region ?_
  refine L_op (s_e hS (e_move rfl) rfl ?_); clear hS a; intro a hS
  refine L_op (s_e hS (e_bin rfl rfl rfl) rfl ?_); clear hS a; intro a hS
  refine L_nil ?_
  refine n_then ?_
  first | refine c_ifD hS rfl (fun hc9 => ?_) (fun hc9 => ?_) | refine c_if hS rfl (fun hc9 => ?_) (fun hc9 => ?_)
  ·
    have hn0 : n.natAbs ≠ 0 := by omega
    have hll : l.length < 5 := by
      have := congrArg List.length hl
      rw [dgs_pos hn0, List.length_append, List.length_cons] at this
      omega
    have hq := quo_abs n
    have hr := rem_abs n
    refine wp_skip ?_
    refine n_then ?_
    refine wp_block ?_
    refine c_seq ?_
    refine c_region ?_
    refine L_op (s_e hS (e_move rfl) rfl ?_); clear hS a; intro a hS
    refine L_op (s_e hS (e_rem rfl rfl (by decide)) rfl ?_); clear hS a; intro a hS
    refine L_op (s_e hS (e_assign rfl) rfl ?_); clear hS a; intro a hS
    refine L_nil ?_
    refine n_then ?_
    refine c_cut (fun a w => ∃ d : Int, St 25 noB w0 a w [(5, .int .i64 d), (0, .int .i64 n), (2, .pointer (some ⟨b2, 0, none⟩)), (3, .bool (decide (z < 0))), (4, sv)] [ownA 3 1 sv l.length (l.flatMap encD), .blk b2 [.bool false, .slice none 0 0] 44] ∧ d = (n.natAbs % 10000 : Nat)) ?_ ?_
    ·
      refine c_seq ?_
      refine c_region ?_
      refine L_op (s_e hS (e_move rfl) rfl ?_); clear hS a; intro a hS
      refine L_op (s_e hS (e_bin rfl rfl rfl) rfl ?_); clear hS a; intro a hS
      refine L_nil ?_
      refine n_then ?_
      first | refine c_ifD hS rfl (fun hc13 => ?_) (fun hc13 => ?_) | refine c_if hS rfl (fun hc13 => ?_) (fun hc13 => ?_)
      ·
        refine c_region ?_
        refine L_op (s_e hS (e_move rfl) rfl ?_); clear hS a; intro a hS
        refine L_op (s_e hS (e_neg rfl) rfl ?_); clear hS a; intro a hS
        rw [wrap_fit (by omega)] at hS
        refine L_op (s_e hS (e_assign rfl) rfl ?_); clear hS a; intro a hS
        refine L_nil ?_
        exact ⟨_, hS.slots (by exact ⟨rfl, rfl, rfl, rfl, rfl, trivial⟩), by omega⟩
      ·
        refine wp_skip ?_
        exact ⟨_, hS.slots (by exact ⟨rfl, rfl, rfl, rfl, rfl, trivial⟩), by omega⟩
    ·
      clear hS a; (try clear w); intro a w hS
      obtain ⟨d, hS, hd⟩ := hS
      have e1 : (l ++ [d]).flatMap encD = l.flatMap encD ++ [.int .i64 d] := by simp [encD]
      refine c_seq ?_
      refine c_region ?_
      refine L_op (s_e hS (e_move rfl) rfl ?_); clear hS a; intro a hS
      refine L_op (s_e hS (e_move rfl) rfl ?_); clear hS a; intro a hS
      refine L_op (s_bslice hS ty_sl42 ty_sz3 ty_z3 rfl rfl rfl rfl (.one rfl rfl rfl .nil) rfl ?_); clear hS a; (try clear w); intro a w b18 hS
      refine L_op (s_append1 hS rfl rfl ty_sl42 ty_sz3 ty_by3 ty_z3 rfl rfl rfl (by repeat constructor) (by repeat constructor) (by rfl) (by rfl) (fun _ => (by repeat constructor)) (by omega) ?_); clear hS a; (try clear w); intro v19 a w hv19 hS
      refine L_op (s_e hS (e_assign rfl) rfl ?_); clear hS a; intro a hS
      refine L_nil ?_
      refine n_then ?_
      refine c_region ?_
      refine L_op (s_e hS (e_move rfl) rfl ?_); clear hS a; intro a hS
      refine L_op (s_e hS (e_quo rfl rfl (by decide)) rfl ?_); clear hS a; intro a hS
      rw [wrap_fit (by omega)] at hS
      refine L_op (s_e hS (e_assign rfl) rfl ?_); clear hS a; intro a hS
      refine L_nil ?_
      refine n_block ?_
      have hq1 : (n.tdiv 10000).natAbs < n.natAbs := by omega
      refine ⟨(n.tdiv 10000, l ++ [d], v19), hq1, ?_, ?_, ?_⟩
      · simp only [List.length_append, List.length_cons, List.length_nil, Nat.zero_add, e1]
        exact (hS.drop (by repeat (first | exact List.Sublist.refl _ | apply List.Sublist.cons_cons | apply List.Sublist.cons))).slots (by exact ⟨rfl, rfl, rfl, rfl, trivial⟩)
      · show l ++ [d] ++ dgs (n.tdiv 10000).natAbs = _
        rw [← hl, dgs_pos hn0, hq, hd]; simp
      · simp only; omega
  ·
    obtain rfl : n = 0 := by omega
    rw [show (0 : Int).natAbs = 0 from rfl, dgs_zero, List.append_nil] at hl
    obtain ⟨p4, c4, rfl, h4, h5, _, _⟩ := own_digs (hS.get (X := ownA 3 1 sv l.length (l.flatMap encD)) (by repeat (first | exact .head _ | refine .tail _ ?_)))
    refine wp_exit ?_
    refine x_then (x_then (x_hit ?_))
    refine n_then ?_
    refine c_seq ?_
    refine c_region ?_
    refine L_op (s_e hS (e_move rfl) rfl ?_); clear hS a; intro a hS
    refine L_op (s_e hS (e_move rfl) rfl ?_); clear hS a; intro a hS
    obtain ⟨p5, c5, e5, _, _, h6, h7⟩ := own_digs (hS.get (X := ownA 3 1 (sliceV p4 l.length c4) l.length (l.flatMap encD)) (by repeat (first | exact .head _ | refine .tail _ ?_)))
    obtain ⟨rfl, rfl⟩ := sliceV_inj e5
    have hT := trim_P (decide (z < 0)) p4 c4 h4 l (by rw [hl]; exact inR_dgs _) h5 (by rw [hl]; omega) w h6 h7
    rw [sgn_of (by rw [hl, nv_dgs])] at hT
    clear e5
    refine L_op (s_callN hS (.cons rfl (.cons rfl .nil)) cf57 rfl (hT) ?_); clear hS a; (try clear w); intro x24 a w hS
    refine L_op (s_storeA hS rfl rfl ty_sz44 (by repeat constructor) (by rfl) (by rfl) (by rfl) ?_); clear hS; (try clear w); intro w hS
    refine L_nil ?_
    refine n_then ?_
    refine wp_ret ?_
    refine c_ret1 hS Try.results22 (.cellA rfl (by repeat constructor) ty_st44 ty_sz44 (by rfl)) ?_
    exact ⟨x24, rfl, hS.chg, hS.new (X := bigA z x24.1.1) (by repeat (first | exact .head _ | refine .tail _ ?_)) rfl⟩

/-- two slices of digits that came in. -/
def twoA (p q : Option (Nat × Nat)) (xs ys : List Int) : Asn := .any (fun b => (∃ off, p = some (b, off)) ∨ ∃ off, q = some (b, off)) (fun w => RowP p 1 (xs.map encD) w ∧ RowP q 1 (ys.map encD) w) false
theorem two_ok {p q : Option (Nat × Nat)} {xs ys : List Int} {w : World} (h1 : RowP p 1 (xs.map encD) w) (h2 : RowP q 1 (ys.map encD) w) (b1 : ∀ r, p = some r → r.1 < w.heap.size) (b2 : ∀ r, q = some r → r.1 < w.heap.size) : (twoA p q xs ys).ok w := by
  refine ⟨fun b hb => ?_, fun w' hw => ⟨(ok_rowP h1 b1).hold w' (fun b hb => hw b (.inl hb)), (ok_rowP h2 b2).hold w' (fun b hb => hw b (.inr hb))⟩⟩
  rcases hb with ⟨off, e⟩ | ⟨off, e⟩
  · exact b1 _ e
  · exact b2 _ e
theorem two_l {b off : Nat} {q : Option (Nat × Nat)} {xs ys : List Int} {Γ : List Asn} (hm : twoA (some (b, off)) q xs ys ∈ Γ) {i : Nat} {d : Int} (hd : xs[i]? = some d) : ∀ w, Hd Γ w → w.cell? ⟨b, off + i * 1, none⟩ = some (.int .i64 d) := fun w hh => by
  have := (hh _ hm).1 i (encD d) (by simp [hd]) 0 (.int .i64 d) rfl
  simpa using this
theorem two_r {b off : Nat} {q : Option (Nat × Nat)} {xs ys : List Int} {Γ : List Asn} (hm : twoA q (some (b, off)) xs ys ∈ Γ) {i : Nat} {d : Int} (hd : ys[i]? = some d) : ∀ w, Hd Γ w → w.cell? ⟨b, off + i * 1, none⟩ = some (.int .i64 d) := fun w hh => by
  have := (hh _ hm).2 i (encD d) (by simp [hd]) 0 (.int .i64 d) rfl
  simpa using this
theorem two_pos {p : Option (Nat × Nat)} {xs : List Int} {w : World} (h : RowP p 1 (xs.map encD) w) (hx : xs ≠ []) : ∃ b off, p = some (b, off) := by
  cases p with
  | none => simp only [RowP, List.map_eq_nil_iff] at h; exact absurd h hx
  | some r => exact ⟨r.1, r.2, rfl⟩
theorem drop_at {l : List Int} {k : Nat} {d : Int} (h : l[k]? = some d) : l.drop k = d :: l.drop (k + 1) := by
  obtain ⟨h1, h2⟩ := List.getElem?_eq_some_iff.1 h
  rw [List.drop_eq_getElem_cons h1, h2]
theorem cmp_at {m n k : Nat} {d e : Int} (hd : (dgs m)[k]? = some d) (he : (dgs n)[k]? = some e) (ht : (dgs m).drop (k + 1) = (dgs n).drop (k + 1)) (hlt : d < e) : m < n := by
  have h1 := List.take_append_drop k (dgs m)
  have h2 := List.take_append_drop k (dgs n)
  rw [drop_at hd, ht] at h1
  rw [drop_at he] at h2
  have l1 := (List.getElem?_eq_some_iff.1 hd).1
  have l2 := (List.getElem?_eq_some_iff.1 he).1
  have := cmp_top (s := (dgs n).drop (k + 1)) (inR_take (inR_dgs m) k) (show ((dgs m).take k).length = ((dgs n).take k).length by rw [List.length_take, List.length_take]; omega) hlt (inR_take (inR_dgs n) k)
  rw [h1, h2, nv_dgs, nv_dgs] at this
  omega

set_option maxRecDepth 100000 in
theorem cmp_P (p q : Option (Nat × Nat)) (c1 c2 m n : Nat) (hm : (dgs m).length ≤ 1000000) (w0 : World) (h : (twoA p q (dgs m) (dgs n)).ok w0) :
    PureC Try.prog 59 [sliceV p (dgs m).length c1, sliceV q (dgs n).length c2] w0 (.int .i64 (cmpN m n)) := by
  have hp := h.now.1
  have hq := h.now.2
  refine c_enter [(0, sliceV p (dgs m).length c1), (1, sliceV q (dgs n).length c2)] [twoA p q (dgs m) (dgs n)] noB Try.func59 rfl Try.ntmps59 ⟨rfl, rfl, trivial⟩ rfl (by intro X hX; obtain rfl := List.mem_singleton.1 hX; exact h) (by simp) (by intro X hX hm; obtain rfl := List.mem_singleton.1 hX; cases hm) ?_
  intro a hS
  refine c_seq ?_
  refine c_region ?_
  refine L_op (s_e hS (e_assign rfl) rfl ?_); clear hS a; intro a hS
  refine L_nil ?_
  refine n_then ?_
  refine c_seq ?_
  refine c_seq ?_
  refine c_region ?_
  refine L_op (s_e hS (e_move rfl) rfl ?_); clear hS a; intro a hS
  refine L_op (s_e hS (e_len rfl rfl ty_sl42) rfl ?_); clear hS a; intro a hS
  refine L_op (s_e hS (e_move rfl) rfl ?_); clear hS a; intro a hS
  refine L_op (s_e hS (e_len rfl rfl ty_sl42) rfl ?_); clear hS a; intro a hS
  refine L_op (s_e hS (e_bin rfl rfl rfl) rfl ?_); clear hS a; intro a hS
  refine L_nil ?_
  refine n_then ?_
  first | refine c_ifD hS rfl (fun hc10 => ?_) (fun hc10 => ?_) | refine c_if hS rfl (fun hc10 => ?_) (fun hc10 => ?_)
  ·
    refine c_seq ?_
    refine c_seq ?_
    refine c_region ?_
    refine L_op (s_e hS (e_move rfl) rfl ?_); clear hS a; intro a hS
    refine L_op (s_e hS (e_len rfl rfl ty_sl42) rfl ?_); clear hS a; intro a hS
    refine L_op (s_e hS (e_move rfl) rfl ?_); clear hS a; intro a hS
    refine L_op (s_e hS (e_len rfl rfl ty_sl42) rfl ?_); clear hS a; intro a hS
    refine L_op (s_e hS (e_bin rfl rfl rfl) rfl ?_); clear hS a; intro a hS
    refine L_nil ?_
    refine n_then ?_
    first | refine c_ifD hS rfl (fun hc15 => ?_) (fun hc15 => ?_) | refine c_if hS rfl (fun hc15 => ?_) (fun hc15 => ?_)
    ·
      refine c_seq ?_
      refine c_region ?_
      refine L_op (s_e hS (e_assign rfl) rfl ?_); clear hS a; intro a hS
      refine L_nil ?_
      refine n_then ?_
      refine wp_ret ?_
      refine r_then (r_then ?_)
      refine c_ret1 hS Try.results59 (.tmp rfl) ?_
      exact ⟨by rw [cmpN, if_pos (dgs_lt (by omega))], hS.chg⟩
    ·
      refine wp_skip ?_
      refine n_then ?_
      refine c_seq ?_
      refine c_region ?_
      refine L_op (s_e hS (e_assign rfl) rfl ?_); clear hS a; intro a hS
      refine L_nil ?_
      refine n_then ?_
      refine wp_ret ?_
      refine r_then ?_
      refine c_ret1 hS Try.results59 (.tmp rfl) ?_
      have h1 := dgs_lt (m := n) (n := m) (by omega)
      exact ⟨by rw [cmpN, if_neg (by omega), if_pos h1], hS.chg⟩
  ·
    refine wp_skip ?_
    refine n_then ?_
    refine c_seq ?_
    refine c_seq ?_
    refine c_region ?_
    refine L_op (s_e hS (e_move rfl) rfl ?_); clear hS a; intro a hS
    refine L_op (s_e hS (e_len rfl rfl ty_sl42) rfl ?_); clear hS a; intro a hS
    first | (refine L_op (s_e hS (e_binN rfl rfl rfl (by omega)) rfl ?_); clear hS a; intro a hS) | (refine L_op (s_e hS (e_bin rfl rfl rfl) rfl ?_); clear hS a; intro a hS)
    refine L_op (s_e hS (e_assign rfl) rfl ?_); clear hS a; intro a hS
    refine L_nil ?_
    refine n_then ?_
    refine wp_block ?_
    skip
    refine c_loop (γ := Nat) (fun k a w => St 41 noB w0 a w [(5, .int .i64 ((k : Int) - 1)), (4, .int .i64 0), (0, sliceV p (dgs m).length c1), (1, sliceV q (dgs n).length c2)] [twoA p q (dgs m) (dgs n)] ∧ k ≤ (dgs m).length ∧ (dgs m).drop k = (dgs n).drop k) (fun k => k) (dgs m).length ⟨hS.slots ⟨rfl, rfl, rfl, rfl, trivial⟩, Nat.le_refl _, by rw [List.drop_length, List.drop_eq_nil_of_le (by omega)]⟩ ?_
    clear hS a; (try clear w); intro k a w hI
    obtain ⟨hS, hk, ht⟩ := hI
    refine c_seq ?_
    refine c_seq ?_
    refine c_region ?_
    refine L_op (s_e hS (e_move rfl) rfl ?_); clear hS a; intro a hS
    refine L_op (s_e hS (e_bin rfl rfl rfl) rfl ?_); clear hS a; intro a hS
    refine L_nil ?_
    refine n_then ?_
    first | refine c_ifD hS rfl (fun hc20 => ?_) (fun hc20 => ?_) | refine c_if hS rfl (fun hc20 => ?_) (fun hc20 => ?_)
    ·
      have hk1 : 0 < k := by omega
      obtain ⟨d, hd⟩ : ∃ d, (dgs m)[k - 1]? = some d := ⟨(dgs m)[k - 1]'(by omega), List.getElem?_eq_getElem (by omega)⟩
      obtain ⟨e, he⟩ : ∃ e, (dgs n)[k - 1]? = some e := ⟨(dgs n)[k - 1]'(by omega), List.getElem?_eq_getElem (by omega)⟩
      obtain ⟨b1, o1, rfl⟩ := two_pos hp (fun e => by rw [e] at hd; cases hd)
      obtain ⟨b2, o2, rfl⟩ := two_pos hq (fun e => by rw [e] at he; cases he)
      have hkn : ((k : Int) - 1).toNat = k - 1 := by omega
      have ht' : (dgs m).drop (k - 1 + 1) = (dgs n).drop (k - 1 + 1) := by rw [show k - 1 + 1 = k by omega]; exact ht
      refine wp_skip ?_
      refine n_then ?_
      refine c_seq ?_
      refine wp_block ?_
      refine c_seq ?_
      refine c_seq ?_
      refine c_draw1 [] (by kernel_rfl) hS ?_; clear hS; (try clear w); intro w hS
      simp only [List.length_cons, List.length_nil, Nat.zero_add, Nat.reduceAdd, List.replicate]
      refine Z_take0 (i := 0) hS rfl want_none (e_move rfl) (listed' := [true, false, false, false, false, false, false, false, false]) rfl (by kernel_rfl) (by kernel_rfl) (by kernel_rfl) (fun _ _ _ h => h) rfl ?_; clear hS a; intro a hS
      refine Z_take0 (i := 1) hS rfl want_none (e_move rfl) (listed' := [true, true, false, false, false, false, false, false, false]) rfl (by kernel_rfl) (by kernel_rfl) (by kernel_rfl) (fun _ _ _ h => h) rfl ?_; clear hS a; intro a hS
      refine Z_take0 (i := 2) hS rfl want_none (e_ix rfl rfl ty_sl42 ty_sz3 (by omega)) (listed' := [true, true, true, false, false, false, false, false, false]) rfl (by kernel_rfl) (by kernel_rfl) (by kernel_rfl) (fun _ _ _ h => h) rfl ?_; clear hS a; intro a hS
      refine Z_take (i := 3) hS rfl want_none (e_loadC rfl ty_sc3 (fun w hh => by rw [hkn]; exact two_l (by repeat (first | exact .head _ | refine .tail _ ?_)) hd w hh)) (listed' := [true, true, true, true, false, false, false, false, false]) rfl (by kernel_rfl) (by kernel_rfl) (by kernel_rfl) (by kernel_rfl) (by kernel_rfl) (by intro X hX; repeat (first | exact hX | apply List.Mem.tail)) (fun _ _ _ h => h) rfl ?_; clear hS a; intro a hS
      refine Z_take0 (i := 4) hS rfl want_none (e_move rfl) (listed' := [true, true, true, true, true, false, false, false, false]) rfl (by kernel_rfl) (by kernel_rfl) (by kernel_rfl) (fun _ _ _ h => h) rfl ?_; clear hS a; intro a hS
      refine Z_take0 (i := 5) hS rfl want_none (e_move rfl) (listed' := [true, true, true, true, true, true, false, false, false]) rfl (by kernel_rfl) (by kernel_rfl) (by kernel_rfl) (fun _ _ _ h => h) rfl ?_; clear hS a; intro a hS
      refine Z_take0 (i := 6) hS rfl want_none (e_ix rfl rfl ty_sl42 ty_sz3 (by omega)) (listed' := [true, true, true, true, true, true, true, false, false]) rfl (by kernel_rfl) (by kernel_rfl) (by kernel_rfl) (fun _ _ _ h => h) rfl ?_; clear hS a; intro a hS
      refine Z_take (i := 7) hS rfl want_none (e_loadC rfl ty_sc3 (fun w hh => by rw [hkn]; exact two_r (by repeat (first | exact .head _ | refine .tail _ ?_)) he w hh)) (listed' := [true, true, true, true, true, true, true, true, false]) rfl (by kernel_rfl) (by kernel_rfl) (by kernel_rfl) (by kernel_rfl) (by kernel_rfl) (by intro X hX; repeat (first | exact hX | apply List.Mem.tail)) (fun _ _ _ h => h) rfl ?_; clear hS a; intro a hS
      refine Z_take0 (i := 8) hS rfl want_none (e_bin rfl rfl rfl) (listed' := [true, true, true, true, true, true, true, true, true]) rfl (by kernel_rfl) (by kernel_rfl) (by kernel_rfl) (fun _ _ _ h => h) rfl ?_; clear hS a; intro a hS
      refine Z_done (by kernel_rfl) ?_
      refine n_then ?_
      first | refine c_ifD hS rfl (fun hc31 => ?_) (fun hc31 => ?_) | refine c_if hS rfl (fun hc31 => ?_) (fun hc31 => ?_)
      ·
        refine c_seq ?_
        refine c_region ?_
        refine L_op (s_e hS (e_assign rfl) rfl ?_); clear hS a; intro a hS
        refine L_nil ?_
        refine n_then ?_
        refine wp_ret ?_
        refine r_then (r_block (r_then (r_then (r_block (r_then ?_)))))
        refine c_ret1 hS Try.results59 (.tmp rfl) ?_
        exact ⟨by rw [cmpN, if_pos (cmp_at hd he ht' (by omega))], hS.chg⟩
      ·
        refine wp_skip ?_
        refine n_then ?_
        refine c_seq ?_
        refine c_draw1 [] (by kernel_rfl) hS ?_; clear hS; (try clear w); intro w hS
        simp only [List.length_cons, List.length_nil, Nat.zero_add, Nat.reduceAdd, List.replicate]
        refine Z_take0 (i := 0) hS rfl want_none (e_move rfl) (listed' := [true, false, false, false, false, false, false, false, false]) rfl (by kernel_rfl) (by kernel_rfl) (by kernel_rfl) (fun _ _ _ h => h) rfl ?_; clear hS a; intro a hS
        refine Z_take0 (i := 1) hS rfl want_none (e_move rfl) (listed' := [true, true, false, false, false, false, false, false, false]) rfl (by kernel_rfl) (by kernel_rfl) (by kernel_rfl) (fun _ _ _ h => h) rfl ?_; clear hS a; intro a hS
        refine Z_take0 (i := 2) hS rfl want_none (e_ix rfl rfl ty_sl42 ty_sz3 (by omega)) (listed' := [true, true, true, false, false, false, false, false, false]) rfl (by kernel_rfl) (by kernel_rfl) (by kernel_rfl) (fun _ _ _ h => h) rfl ?_; clear hS a; intro a hS
        refine Z_take (i := 3) hS rfl want_none (e_loadC rfl ty_sc3 (fun w hh => by rw [hkn]; exact two_l (by repeat (first | exact .head _ | refine .tail _ ?_)) hd w hh)) (listed' := [true, true, true, true, false, false, false, false, false]) rfl (by kernel_rfl) (by kernel_rfl) (by kernel_rfl) (by kernel_rfl) (by kernel_rfl) (by intro X hX; repeat (first | exact hX | apply List.Mem.tail)) (fun _ _ _ h => h) rfl ?_; clear hS a; intro a hS
        refine Z_take0 (i := 4) hS rfl want_none (e_move rfl) (listed' := [true, true, true, true, true, false, false, false, false]) rfl (by kernel_rfl) (by kernel_rfl) (by kernel_rfl) (fun _ _ _ h => h) rfl ?_; clear hS a; intro a hS
        refine Z_take0 (i := 5) hS rfl want_none (e_move rfl) (listed' := [true, true, true, true, true, true, false, false, false]) rfl (by kernel_rfl) (by kernel_rfl) (by kernel_rfl) (fun _ _ _ h => h) rfl ?_; clear hS a; intro a hS
        refine Z_take0 (i := 6) hS rfl want_none (e_ix rfl rfl ty_sl42 ty_sz3 (by omega)) (listed' := [true, true, true, true, true, true, true, false, false]) rfl (by kernel_rfl) (by kernel_rfl) (by kernel_rfl) (fun _ _ _ h => h) rfl ?_; clear hS a; intro a hS
        refine Z_take (i := 7) hS rfl want_none (e_loadC rfl ty_sc3 (fun w hh => by rw [hkn]; exact two_r (by repeat (first | exact .head _ | refine .tail _ ?_)) he w hh)) (listed' := [true, true, true, true, true, true, true, true, false]) rfl (by kernel_rfl) (by kernel_rfl) (by kernel_rfl) (by kernel_rfl) (by kernel_rfl) (by intro X hX; repeat (first | exact hX | apply List.Mem.tail)) (fun _ _ _ h => h) rfl ?_; clear hS a; intro a hS
        refine Z_take0 (i := 8) hS rfl want_none (e_bin rfl rfl rfl) (listed' := [true, true, true, true, true, true, true, true, true]) rfl (by kernel_rfl) (by kernel_rfl) (by kernel_rfl) (fun _ _ _ h => h) rfl ?_; clear hS a; intro a hS
        refine Z_done (by kernel_rfl) ?_
        refine n_then ?_
        first | refine c_ifD hS rfl (fun hc40 => ?_) (fun hc40 => ?_) | refine c_if hS rfl (fun hc40 => ?_) (fun hc40 => ?_)
        ·
          refine c_seq ?_
          refine c_region ?_
          refine L_op (s_e hS (e_assign rfl) rfl ?_); clear hS a; intro a hS
          refine L_nil ?_
          refine n_then ?_
          refine wp_ret ?_
          refine r_block (r_then (r_then (r_block (r_then ?_))))
          refine c_ret1 hS Try.results59 (.tmp rfl) ?_
          have h1 := cmp_at he hd ht'.symm (by omega)
          exact ⟨by rw [cmpN, if_neg (by omega), if_pos h1], hS.chg⟩
        ·
          refine wp_skip ?_
          refine n_block ?_
          refine n_then ?_
          refine c_region ?_
          refine L_op (s_e hS (e_move rfl) rfl ?_); clear hS a; intro a hS
          first | (refine L_op (s_e hS (e_binN rfl rfl rfl (by omega)) rfl ?_); clear hS a; intro a hS) | (refine L_op (s_e hS (e_bin rfl rfl rfl) rfl ?_); clear hS a; intro a hS)
          refine L_op (s_e hS (e_assign rfl) rfl ?_); clear hS a; intro a hS
          refine L_nil ?_
          exact ⟨k - 1, by omega, hS.slots (by exact ⟨by show lk _ 5 = _; rw [show ((k - 1 : Nat) : Int) = (k : Int) - 1 by omega]; rfl, rfl, rfl, rfl, trivial⟩), by omega, by rw [drop_at hd, drop_at he, ht']; congr 1; omega⟩
    ·
      obtain rfl : k = 0 := by omega
      rw [List.drop_zero, List.drop_zero] at ht
      obtain rfl := dgs_inj ht
      refine wp_exit ?_
      refine x_then (x_then (x_hit ?_))
      refine n_then ?_
      refine c_seq ?_
      refine c_region ?_
      refine L_op (s_e hS (e_assign rfl) rfl ?_); clear hS a; intro a hS
      refine L_nil ?_
      refine n_then ?_
      refine wp_ret ?_
      refine c_ret1 hS Try.results59 (.tmp rfl) ?_
      exact ⟨by rw [cmpN, if_neg (by omega), if_neg (by omega)], hS.chg⟩
end Go.Proofs.Ytheofhegdjjfgaa

namespace Go.Proofs.Ytheofhegdjjfgaa
open Go.RowKit

def cmpZ (x y : Int) : Int := if x < y then -1 else if y < x then 1 else 0
theorem cmpN_Z {m n : Nat} : (m < n → cmpN m n = -1) ∧ (n < m → cmpN m n = 1) ∧ (m = n → cmpN m n = 0) := by
  unfold cmpN
  refine ⟨fun h => by rw [if_pos h], fun h => by rw [if_neg (by omega), if_pos h], fun h => by rw [if_neg (by omega), if_neg (by omega)]⟩
theorem cmpZ_a {x y : Int} (h : decide (x < 0) ≠ decide (y < 0)) (hx : x < 0) : cmpZ x y = -1 := by
  have : ¬ y < 0 := fun hy => h (by simp [hx, hy])
  rw [cmpZ, if_pos (by omega)]
theorem cmpZ_b {x y : Int} (h : decide (x < 0) ≠ decide (y < 0)) (hx : ¬ x < 0) : cmpZ x y = 1 := by
  have : y < 0 := Decidable.byContradiction fun hy => h (by simp [hx, hy])
  rw [cmpZ, if_neg (by omega), if_pos (by omega)]
theorem same_sgn {x y : Int} (h : ¬ decide (x < 0) ≠ decide (y < 0)) : x < 0 ↔ y < 0 := by
  have := Decidable.not_not.1 h
  simpa using this
theorem cmpZ_c {x y : Int} (h : ¬ decide (x < 0) ≠ decide (y < 0)) (hx : x < 0) : IntKind.i64.wrap (0 - cmpN x.natAbs y.natAbs) = cmpZ x y := by
  have h1 := same_sgn h
  unfold cmpN cmpZ
  rw [wrap_fit (by split <;> (try split) <;> omega)]
  split <;> split <;> (try split) <;> (try split) <;> omega
theorem cmpZ_d {x y : Int} (h : ¬ decide (x < 0) ≠ decide (y < 0)) (hx : ¬ x < 0) : cmpN x.natAbs y.natAbs = cmpZ x y := by
  have h1 := same_sgn h
  unfold cmpN cmpZ
  split <;> split <;> (try split) <;> (try split) <;> omega
set_option maxRecDepth 100000 in
theorem BigCmp_P (p q : Option (Nat × Nat)) (c1 c2 : Nat) (x y : Int) (hx : (dgs x.natAbs).length ≤ 1000000) (w0 : World) (h : (twoA p q (dgs x.natAbs) (dgs y.natAbs)).ok w0) :
    PureC Try.prog 24 [bigV x p c1, bigV y q c2] w0 (.int .i64 (cmpZ x y)) := by
  refine c_enter [(0, bigV x p c1), (1, bigV y q c2)] [twoA p q (dgs x.natAbs) (dgs y.natAbs)] noB Try.func24 rfl Try.ntmps24 ⟨rfl, rfl, trivial⟩ rfl (by intro X hX; obtain rfl := List.mem_singleton.1 hX; exact h) (by simp) (by intro X hX hm; obtain rfl := List.mem_singleton.1 hX; cases hm) ?_
  intro a hS
  refine c_seq ?_
  refine c_region ?_
  refine L_op (s_boxA hS rfl rfl ?_); clear hS a; (try clear w); intro a w b2 hS
  refine L_op (s_boxA hS rfl rfl ?_); clear hS a; (try clear w); intro a w b3 hS
  refine L_op (s_e hS (e_assign rfl) rfl ?_); clear hS a; intro a hS
  refine L_nil ?_
  refine n_then ?_
  refine c_seq ?_
  refine c_seq ?_
  refine c_region ?_
  first | (refine L_op (s_e hS (e_fa0 rfl ty_fo44_0) rfl ?_); clear hS a; intro a hS) | (refine L_op (s_e hS (e_faK rfl ty_fo44_0) rfl ?_); clear hS a; intro a hS)
  refine L_op (s_e hS (e_load rfl (by repeat constructor) ty_sc4 (by rfl)) rfl ?_); clear hS a; intro a hS
  first | (refine L_op (s_e hS (e_fa0 rfl ty_fo44_0) rfl ?_); clear hS a; intro a hS) | (refine L_op (s_e hS (e_faK rfl ty_fo44_0) rfl ?_); clear hS a; intro a hS)
  refine L_op (s_e hS (e_load rfl (by repeat constructor) ty_sc4 (by rfl)) rfl ?_); clear hS a; intro a hS
  refine L_op (s_e hS (e_binBn rfl rfl ty_u4) rfl ?_); clear hS a; intro a hS
  refine L_nil ?_
  refine n_then ?_
  first | refine c_ifD hS rfl (fun hc10 => ?_) (fun hc10 => ?_) | refine c_if hS rfl (fun hc10 => ?_) (fun hc10 => ?_)
  ·
    refine c_seq ?_
    refine c_seq ?_
    refine c_region ?_
    first | (refine L_op (s_e hS (e_fa0 rfl ty_fo44_0) rfl ?_); clear hS a; intro a hS) | (refine L_op (s_e hS (e_faK rfl ty_fo44_0) rfl ?_); clear hS a; intro a hS)
    refine L_op (s_e hS (e_load rfl (by repeat constructor) ty_sc4 (by rfl)) rfl ?_); clear hS a; intro a hS
    refine L_nil ?_
    refine n_then ?_
    first | refine c_ifD hS rfl (fun hc12 => ?_) (fun hc12 => ?_) | refine c_if hS rfl (fun hc12 => ?_) (fun hc12 => ?_)
    ·
      refine c_seq ?_
      refine c_region ?_
      refine L_op (s_e hS (e_assign rfl) rfl ?_); clear hS a; intro a hS
      refine L_nil ?_
      refine n_then ?_
      refine wp_ret ?_
      refine r_then (r_then ?_)
      refine c_ret1 hS Try.results24 (.tmp rfl) ?_
      exact ⟨by rw [cmpZ_a hc10 hc12], hS.chg⟩
    ·
      refine wp_skip ?_
      refine n_then ?_
      refine c_seq ?_
      refine c_region ?_
      refine L_op (s_e hS (e_assign rfl) rfl ?_); clear hS a; intro a hS
      refine L_nil ?_
      refine n_then ?_
      refine wp_ret ?_
      refine r_then ?_
      refine c_ret1 hS Try.results24 (.tmp rfl) ?_
      exact ⟨by rw [cmpZ_b hc10 hc12], hS.chg⟩
  ·
    refine wp_skip ?_
    refine n_then ?_
    refine c_seq ?_
    refine c_region ?_
    first | (refine L_op (s_e hS (e_fa0 rfl ty_fo44_1) rfl ?_); clear hS a; intro a hS) | (refine L_op (s_e hS (e_faK rfl ty_fo44_1) rfl ?_); clear hS a; intro a hS)
    refine L_op (s_e hS (e_load rfl (by repeat constructor) ty_sc42 (by rfl)) rfl ?_); clear hS a; intro a hS
    first | (refine L_op (s_e hS (e_fa0 rfl ty_fo44_1) rfl ?_); clear hS a; intro a hS) | (refine L_op (s_e hS (e_faK rfl ty_fo44_1) rfl ?_); clear hS a; intro a hS)
    refine L_op (s_e hS (e_load rfl (by repeat constructor) ty_sc42 (by rfl)) rfl ?_); clear hS a; intro a hS
    refine L_op (s_callP hS (.cons rfl (.cons rfl .nil)) cf59 rfl (cmp_P p q c1 c2 x.natAbs y.natAbs hx _ (hS.ok _ (by repeat (first | exact .head _ | refine .tail _ ?_)))) ?_); clear hS a; (try clear w); intro a w hS
    refine L_op (s_e hS (e_assign rfl) rfl ?_); clear hS a; intro a hS
    refine L_nil ?_
    refine n_then ?_
    refine c_seq ?_
    refine c_seq ?_
    refine c_region ?_
    first | (refine L_op (s_e hS (e_fa0 rfl ty_fo44_0) rfl ?_); clear hS a; intro a hS) | (refine L_op (s_e hS (e_faK rfl ty_fo44_0) rfl ?_); clear hS a; intro a hS)
    refine L_op (s_e hS (e_load rfl (by repeat constructor) ty_sc4 (by rfl)) rfl ?_); clear hS a; intro a hS
    refine L_nil ?_
    refine n_then ?_
    first | refine c_ifD hS rfl (fun hc19 => ?_) (fun hc19 => ?_) | refine c_if hS rfl (fun hc19 => ?_) (fun hc19 => ?_)
    ·
      refine c_seq ?_
      refine c_region ?_
      refine L_op (s_e hS (e_move rfl) rfl ?_); clear hS a; intro a hS
      refine L_op (s_e hS (e_neg rfl) rfl ?_); clear hS a; intro a hS
      refine L_op (s_e hS (e_assign rfl) rfl ?_); clear hS a; intro a hS
      refine L_nil ?_
      refine n_then ?_
      refine wp_ret ?_
      refine r_then ?_
      refine c_ret1 hS Try.results24 (.tmp rfl) ?_
      exact ⟨by rw [← cmpZ_c hc10 hc19], hS.chg⟩
    ·
      refine wp_skip ?_
      refine n_then ?_
      refine c_seq ?_
      refine c_region ?_
      refine L_op (s_e hS (e_move rfl) rfl ?_); clear hS a; intro a hS
      refine L_op (s_e hS (e_assign rfl) rfl ?_); clear hS a; intro a hS
      refine L_nil ?_
      refine n_then ?_
      refine wp_ret ?_
      refine c_ret1 hS Try.results24 (.tmp rfl) ?_
      exact ⟨by rw [← cmpZ_d hc10 hc19], hS.chg⟩

def gd (xs : List Int) (i : Nat) : Int := (xs[i]?).getD 0
theorem gd_in {xs : List Int} (h : inR xs) (i : Nat) : 0 ≤ gd xs i ∧ gd xs i ≤ 9999 := by
  unfold gd
  cases hx : xs[i]? with
  | none => simp
  | some d => exact h d (List.mem_of_getElem? hx)
theorem nv_drop (xs : List Int) (i : Nat) : nv (xs.drop i) = gd xs i + 10000 * nv (xs.drop (i + 1)) := by
  unfold gd
  cases hx : xs[i]? with
  | none =>
    have := List.getElem?_eq_none_iff.1 hx
    rw [List.drop_eq_nil_of_le this, List.drop_eq_nil_of_le (by omega)]; simp [nv]
  | some d => rw [drop_at hx]; rfl
theorem add_step {S P o c A B a b A' B' x : Int} (h : S = o + P * (c + A + B)) (hA : A = a + 10000 * A') (hB : B = b + 10000 * B') (hx : x = c + a + b) : S = (o + P * (x % 10000)) + P * 10000 * (x / 10000 + A' + B') := by
  have e : c + A + B = x % 10000 + 10000 * (x / 10000 + A' + B') := by omega
  rw [h, e, Int.mul_add, Int.mul_assoc]; omega
/-- digits of the walk's own. -/
abbrev Digs := List Int × Value
def digA (r : Digs) : Asn := ownA 3 1 r.2 r.1.length (r.1.flatMap encD)

set_option maxRecDepth 100000 in
theorem add_P (p q : Option (Nat × Nat)) (c1 c2 : Nat) (xs ys : List Int) (hx : inR xs) (hy : inR ys) (N : Nat) (hN : N ≤ 1000000) (hlx : xs.length ≤ N) (hly : ys.length ≤ N) (w0 : World) (h : (twoA p q xs ys).ok w0) :
    NewC Try.prog 58 [sliceV p xs.length c1, sliceV q ys.length c2] w0 (fun r : { r : Digs // inR r.1 ∧ nv r.1 = nv xs + nv ys ∧ r.1.length ≤ N + 1 } => r.1.2) (fun r => digA r.1) := by
  have hp := h.now.1
  have hq := h.now.2
  refine c_enter [(0, sliceV p xs.length c1), (1, sliceV q ys.length c2)] [twoA p q xs ys] noB Try.func58 rfl Try.ntmps58 ⟨rfl, rfl, trivial⟩ rfl (by intro X hX; obtain rfl := List.mem_singleton.1 hX; exact h) (by simp) (by intro X hX hm; obtain rfl := List.mem_singleton.1 hX; cases hm) ?_
  intro a hS
  refine c_seq ?_
  refine c_region ?_
  refine L_op (s_e hS (e_assign rfl) rfl ?_); clear hS a; intro a hS
  refine L_nil ?_
  refine n_then ?_
  refine c_seq ?_
  refine c_region ?_
  refine L_op (s_e hS (e_assign rfl) rfl ?_); clear hS a; intro a hS
  refine L_nil ?_
  refine n_then ?_
  refine c_seq ?_
  refine c_region ?_
  refine L_op (s_e hS (e_assign rfl) rfl ?_); clear hS a; intro a hS
  refine L_nil ?_
  refine n_then ?_
  refine c_seq ?_
  refine c_seq ?_
  refine c_region ?_
  refine L_op (s_e hS (e_assign rfl) rfl ?_); clear hS a; intro a hS
  refine L_nil ?_
  refine n_then ?_
  refine wp_block ?_
  skip
  refine c_loop (γ := (Int × List Int × Value)) (fun G a w => St 54 noB w0 a w [(0, sliceV p xs.length c1), (1, sliceV q ys.length c2), (5, G.2.2), (6, .int .i64 G.1), (7, .int .i64 (G.2.1.length : Int))] [ownA 3 1 G.2.2 G.2.1.length (G.2.1.flatMap encD), twoA p q xs ys] ∧ inR G.2.1 ∧ 0 ≤ G.1 ∧ G.1 ≤ 1 ∧ G.2.1.length ≤ N + 1 ∧ (G.2.1.length = N + 1 → G.1 = 0) ∧ nv xs + nv ys = nv G.2.1 + 10000 ^ G.2.1.length * (G.1 + nv (xs.drop G.2.1.length) + nv (ys.drop G.2.1.length))) (fun G => N + 2 - G.2.1.length) (0, [], .slice none 0 0) ⟨(hS.own_nil 3 1).slots ⟨rfl, rfl, rfl, rfl, rfl, trivial⟩, (by intro d hd; cases hd), by decide, by decide, Nat.zero_le _, fun _ => rfl, by simp [nv]⟩ ?_
  clear hS a; (try clear w); intro G a w hI
  obtain ⟨cy, l, sv⟩ := G
  obtain ⟨hS, hin, hc0, hc1, hll, hlN, hsum⟩ := hI
  simp only at hS hin hc0 hc1 hll hlN hsum
  have ga := gd_in hx l.length
  have gb := gd_in hy l.length
  have da := nv_drop xs l.length
  have db := nv_drop ys l.length
  refine c_seq ?_
  refine c_seq ?_
  refine c_region ?_
  refine L_op (s_e hS (e_move rfl) rfl ?_); clear hS a; intro a hS
  refine L_op (s_e hS (e_move rfl) rfl ?_); clear hS a; intro a hS
  refine L_op (s_e hS (e_len rfl rfl ty_sl42) rfl ?_); clear hS a; intro a hS
  refine L_op (s_e hS (e_bin rfl rfl rfl) rfl ?_); clear hS a; intro a hS
  refine L_op (s_e hS (e_move rfl) rfl ?_); clear hS a; intro a hS
  (first | refine g_splitD (t := 13) hS rfl ?_ ?_ | refine g_split (t := 13) hS rfl ?_ ?_) <;> (clear hS; intro hg13 hS)
  ·
    refine L_skip_f hS rfl rfl rfl ?_; clear hS a; intro a hS
    refine L_skip_f hS rfl rfl rfl ?_; clear hS a; intro a hS
    refine L_skip_f hS rfl rfl rfl ?_; clear hS a; intro a hS
    refine L_skip_f hS rfl rfl rfl ?_; clear hS a; intro a hS
    first | (refine L_op (s_e hS (e_pick_t rfl rfl) rfl ?_); clear hS a; intro a hS) | (refine L_op (s_e hS (e_pick_f rfl rfl) rfl ?_); clear hS a; intro a hS)
    refine L_op (s_e hS (e_move rfl) rfl ?_); clear hS a; intro a hS
    refine L_skip_f hS rfl rfl rfl ?_; clear hS a; intro a hS
    refine L_skip_f hS rfl rfl rfl ?_; clear hS a; intro a hS
    first | (refine L_op (s_e hS (e_pick_t rfl rfl) rfl ?_); clear hS a; intro a hS) | (refine L_op (s_e hS (e_pick_f rfl rfl) rfl ?_); clear hS a; intro a hS)
    refine L_nil ?_
    refine n_then ?_
    refine c_if_t hS rfl ?_
    refine wp_skip ?_
    refine n_then ?_
    refine c_seq ?_
    refine wp_block ?_
    refine c_seq ?_
    refine c_region ?_
    refine L_op (s_e hS (e_move rfl) rfl ?_); clear hS a; intro a hS
    refine L_op (s_e hS (e_assign rfl) rfl ?_); clear hS a; intro a hS
    refine L_nil ?_
    refine n_then ?_
    refine c_cut (fun a w => ∃ d1 : Int, St 54 noB w0 a w [(8, .int .i64 d1), (0, sliceV p xs.length c1), (1, sliceV q ys.length c2), (5, sv), (6, .int .i64 cy), (7, .int .i64 (l.length : Int))] [ownA 3 1 sv l.length (l.flatMap encD), twoA p q xs ys] ∧ d1 = cy + gd xs l.length) ?_ ?_
    ·
      refine c_seq ?_
      refine c_region ?_
      refine L_op (s_e hS (e_move rfl) rfl ?_); clear hS a; intro a hS
      refine L_op (s_e hS (e_move rfl) rfl ?_); clear hS a; intro a hS
      refine L_op (s_e hS (e_len rfl rfl ty_sl42) rfl ?_); clear hS a; intro a hS
      refine L_op (s_e hS (e_bin rfl rfl rfl) rfl ?_); clear hS a; intro a hS
      refine L_nil ?_
      refine n_then ?_
      first | refine c_ifD hS rfl (fun hc29 => ?_) (fun hc29 => ?_) | refine c_if hS rfl (fun hc29 => ?_) (fun hc29 => ?_)
      ·
        obtain ⟨d, hd⟩ : ∃ d, xs[l.length]? = some d := ⟨xs[l.length]'(by omega), List.getElem?_eq_getElem (by omega)⟩
        obtain ⟨b1, o1, rfl⟩ := two_pos hp (fun e => by rw [e] at hd; cases hd)
        have hgd : gd xs l.length = d := by unfold gd; rw [hd]; rfl
        refine c_region ?_
        refine L_op (s_e hS (e_move rfl) rfl ?_); clear hS a; intro a hS
        refine L_op (s_e hS (e_move rfl) rfl ?_); clear hS a; intro a hS
        refine L_op (s_e hS (e_move rfl) rfl ?_); clear hS a; intro a hS
        refine L_op (s_e hS (e_ixN rfl rfl ty_sl42 ty_sz3 (by omega)) rfl ?_); clear hS a; intro a hS
        refine L_op (s_e hS (e_loadC rfl ty_sc3 (two_l (by repeat (first | exact .head _ | refine .tail _ ?_)) hd)) rfl ?_); clear hS a; intro a hS
        first | (refine L_op (s_e hS (e_binN rfl rfl rfl (by omega)) rfl ?_); clear hS a; intro a hS) | (refine L_op (s_e hS (e_bin rfl rfl rfl) rfl ?_); clear hS a; intro a hS)
        refine L_op (s_e hS (e_assign rfl) rfl ?_); clear hS a; intro a hS
        refine L_nil ?_
        exact ⟨_, hS.slots (by exact ⟨rfl, rfl, rfl, rfl, rfl, rfl, trivial⟩), by omega⟩
      ·
        have hgd : gd xs l.length = 0 := by unfold gd; rw [List.getElem?_eq_none (by omega)]; rfl
        refine wp_skip ?_
        exact ⟨_, hS.slots (by exact ⟨rfl, rfl, rfl, rfl, rfl, rfl, trivial⟩), by omega⟩
    ·
      clear hS a; (try clear w); intro a w hS
      obtain ⟨d1, hS, hd1⟩ := hS
      refine c_cut (fun a w => ∃ d2 : Int, St 54 noB w0 a w [(8, .int .i64 d2), (0, sliceV p xs.length c1), (1, sliceV q ys.length c2), (5, sv), (6, .int .i64 cy), (7, .int .i64 (l.length : Int))] [ownA 3 1 sv l.length (l.flatMap encD), twoA p q xs ys] ∧ d2 = cy + gd xs l.length + gd ys l.length) ?_ ?_
      ·
        refine c_seq ?_
        refine c_region ?_
        refine L_op (s_e hS (e_move rfl) rfl ?_); clear hS a; intro a hS
        refine L_op (s_e hS (e_move rfl) rfl ?_); clear hS a; intro a hS
        refine L_op (s_e hS (e_len rfl rfl ty_sl42) rfl ?_); clear hS a; intro a hS
        refine L_op (s_e hS (e_bin rfl rfl rfl) rfl ?_); clear hS a; intro a hS
        refine L_nil ?_
        refine n_then ?_
        first | refine c_ifD hS rfl (fun hc39 => ?_) (fun hc39 => ?_) | refine c_if hS rfl (fun hc39 => ?_) (fun hc39 => ?_)
        ·
          obtain ⟨d, hd⟩ : ∃ d, ys[l.length]? = some d := ⟨ys[l.length]'(by omega), List.getElem?_eq_getElem (by omega)⟩
          obtain ⟨b2, o2, rfl⟩ := two_pos hq (fun e => by rw [e] at hd; cases hd)
          have hgd : gd ys l.length = d := by unfold gd; rw [hd]; rfl
          refine c_region ?_
          refine L_op (s_e hS (e_move rfl) rfl ?_); clear hS a; intro a hS
          refine L_op (s_e hS (e_move rfl) rfl ?_); clear hS a; intro a hS
          refine L_op (s_e hS (e_move rfl) rfl ?_); clear hS a; intro a hS
          refine L_op (s_e hS (e_ixN rfl rfl ty_sl42 ty_sz3 (by omega)) rfl ?_); clear hS a; intro a hS
          refine L_op (s_e hS (e_loadC rfl ty_sc3 (two_r (by repeat (first | exact .head _ | refine .tail _ ?_)) hd)) rfl ?_); clear hS a; intro a hS
          first | (refine L_op (s_e hS (e_binN rfl rfl rfl (by omega)) rfl ?_); clear hS a; intro a hS) | (refine L_op (s_e hS (e_bin rfl rfl rfl) rfl ?_); clear hS a; intro a hS)
          refine L_op (s_e hS (e_assign rfl) rfl ?_); clear hS a; intro a hS
          refine L_nil ?_
          exact ⟨_, hS.slots (by exact ⟨rfl, rfl, rfl, rfl, rfl, rfl, trivial⟩), by omega⟩
        ·
          have hgd : gd ys l.length = 0 := by unfold gd; rw [List.getElem?_eq_none (by omega)]; rfl
          refine wp_skip ?_
          exact ⟨_, hS.slots (by exact ⟨rfl, rfl, rfl, rfl, rfl, rfl, trivial⟩), by omega⟩
      ·
        clear hS a; (try clear w); intro a w hS
        obtain ⟨d2, hS, hd2⟩ := hS
        have e1 : (l ++ [d2 % 10000]).flatMap encD = l.flatMap encD ++ [.int .i64 (d2 % 10000)] := by simp [encD]
        have hs2 := add_step hsum da db hd2
        refine c_seq ?_
        refine c_region ?_
        refine L_op (s_e hS (e_move rfl) rfl ?_); clear hS a; intro a hS
        refine L_op (s_e hS (e_move rfl) rfl ?_); clear hS a; intro a hS
        first | (refine L_op (s_e hS (e_remN rfl rfl (by omega)) rfl ?_); clear hS a; intro a hS) | (refine L_op (s_e hS (e_rem rfl rfl (by omega)) rfl ?_); clear hS a; intro a hS)
        refine L_op (s_bslice hS ty_sl42 ty_sz3 ty_z3 rfl rfl rfl rfl (.one rfl rfl rfl .nil) rfl ?_); clear hS a; (try clear w); intro a w b49 hS
        refine L_op (s_append1 hS rfl rfl ty_sl42 ty_sz3 ty_by3 ty_z3 rfl rfl rfl (by repeat constructor) (by repeat constructor) (by rfl) (by rfl) (fun _ => (by repeat constructor)) (by omega) ?_); clear hS a; (try clear w); intro v50 a w hv50 hS
        refine L_op (s_e hS (e_assign rfl) rfl ?_); clear hS a; intro a hS
        refine L_nil ?_
        refine n_then ?_
        refine c_region ?_
        refine L_op (s_e hS (e_move rfl) rfl ?_); clear hS a; intro a hS
        first | (refine L_op (s_e hS (e_quoN rfl rfl (by omega)) rfl ?_); clear hS a; intro a hS) | (refine L_op (s_e hS (e_quo rfl rfl (by omega)) rfl ?_); clear hS a; intro a hS)
        refine L_op (s_e hS (e_assign rfl) rfl ?_); clear hS a; intro a hS
        refine L_nil ?_
        refine n_block ?_
        refine n_then ?_
        refine c_region ?_
        refine L_op (s_e hS (e_move rfl) rfl ?_); clear hS a; intro a hS
        first | (refine L_op (s_e hS (e_binN rfl rfl rfl (by omega)) rfl ?_); clear hS a; intro a hS) | (refine L_op (s_e hS (e_bin rfl rfl rfl) rfl ?_); clear hS a; intro a hS)
        refine L_op (s_e hS (e_assign rfl) rfl ?_); clear hS a; intro a hS
        refine L_nil ?_
        have hlN2 : l.length ≤ N := by
          rcases Nat.lt_or_ge l.length (N + 1) with h1 | h1
          · omega
          · have := hlN (by omega)
            omega
        refine ⟨(d2 / 10000, l ++ [d2 % 10000], v50), by simp only [List.length_append, List.length_cons, List.length_nil]; omega, ?_, inR_snoc hin (by omega), by simp only; omega, by simp only; omega, by simp only [List.length_append, List.length_cons, List.length_nil]; omega, ?_, ?_⟩
        · simp only [List.length_append, List.length_cons, List.length_nil, Nat.zero_add, e1]
          exact (hS.drop (by repeat (first | exact List.Sublist.refl _ | apply List.Sublist.cons_cons | apply List.Sublist.cons))).slots (by exact ⟨rfl, rfl, rfl, rfl, rfl, trivial⟩)
        · simp only [List.length_append, List.length_cons, List.length_nil, Nat.zero_add]
          intro h1
          have za : gd xs l.length = 0 := by unfold gd; rw [List.getElem?_eq_none (by omega)]; rfl
          have zb : gd ys l.length = 0 := by unfold gd; rw [List.getElem?_eq_none (by omega)]; rfl
          omega
        · simp only [List.length_append, List.length_cons, List.length_nil, Nat.zero_add]
          rw [nv_snoc, hs2, Int.pow_succ]
  ·
    refine L_go hS rfl rfl (s_e hS (e_move rfl) rfl ?_); clear hS a; intro a hS
    refine L_go hS rfl rfl (s_e hS (e_move rfl) rfl ?_); clear hS a; intro a hS
    refine L_go hS rfl rfl (s_e hS (e_len rfl rfl ty_sl42) rfl ?_); clear hS a; intro a hS
    refine L_go hS rfl rfl (s_e hS (e_bin rfl rfl rfl) rfl ?_); clear hS a; intro a hS
    first | (refine L_op (s_e hS (e_pick_t rfl rfl) rfl ?_); clear hS a; intro a hS) | (refine L_op (s_e hS (e_pick_f rfl rfl) rfl ?_); clear hS a; intro a hS)
    refine L_op (s_e hS (e_move rfl) rfl ?_); clear hS a; intro a hS
    (first | refine g_splitD (t := 19) hS rfl ?_ ?_ | refine g_split (t := 19) hS rfl ?_ ?_) <;> (clear hS; intro hg19 hS)
    ·
      refine L_skip_f hS rfl rfl rfl ?_; clear hS a; intro a hS
      refine L_skip_f hS rfl rfl rfl ?_; clear hS a; intro a hS
      first | (refine L_op (s_e hS (e_pick_t rfl rfl) rfl ?_); clear hS a; intro a hS) | (refine L_op (s_e hS (e_pick_f rfl rfl) rfl ?_); clear hS a; intro a hS)
      refine L_nil ?_
      refine n_then ?_
      refine c_if_t hS rfl ?_
      refine wp_skip ?_
      refine n_then ?_
      refine c_seq ?_
      refine wp_block ?_
      refine c_seq ?_
      refine c_region ?_
      refine L_op (s_e hS (e_move rfl) rfl ?_); clear hS a; intro a hS
      refine L_op (s_e hS (e_assign rfl) rfl ?_); clear hS a; intro a hS
      refine L_nil ?_
      refine n_then ?_
      refine c_cut (fun a w => ∃ d1 : Int, St 54 noB w0 a w [(8, .int .i64 d1), (0, sliceV p xs.length c1), (1, sliceV q ys.length c2), (5, sv), (6, .int .i64 cy), (7, .int .i64 (l.length : Int))] [ownA 3 1 sv l.length (l.flatMap encD), twoA p q xs ys] ∧ d1 = cy + gd xs l.length) ?_ ?_
      ·
        refine c_seq ?_
        refine c_region ?_
        refine L_op (s_e hS (e_move rfl) rfl ?_); clear hS a; intro a hS
        refine L_op (s_e hS (e_move rfl) rfl ?_); clear hS a; intro a hS
        refine L_op (s_e hS (e_len rfl rfl ty_sl42) rfl ?_); clear hS a; intro a hS
        refine L_op (s_e hS (e_bin rfl rfl rfl) rfl ?_); clear hS a; intro a hS
        refine L_nil ?_
        refine n_then ?_
        first | refine c_ifD hS rfl (fun hc29 => ?_) (fun hc29 => ?_) | refine c_if hS rfl (fun hc29 => ?_) (fun hc29 => ?_)
        ·
          obtain ⟨d, hd⟩ : ∃ d, xs[l.length]? = some d := ⟨xs[l.length]'(by omega), List.getElem?_eq_getElem (by omega)⟩
          obtain ⟨b1, o1, rfl⟩ := two_pos hp (fun e => by rw [e] at hd; cases hd)
          have hgd : gd xs l.length = d := by unfold gd; rw [hd]; rfl
          refine c_region ?_
          refine L_op (s_e hS (e_move rfl) rfl ?_); clear hS a; intro a hS
          refine L_op (s_e hS (e_move rfl) rfl ?_); clear hS a; intro a hS
          refine L_op (s_e hS (e_move rfl) rfl ?_); clear hS a; intro a hS
          refine L_op (s_e hS (e_ixN rfl rfl ty_sl42 ty_sz3 (by omega)) rfl ?_); clear hS a; intro a hS
          refine L_op (s_e hS (e_loadC rfl ty_sc3 (two_l (by repeat (first | exact .head _ | refine .tail _ ?_)) hd)) rfl ?_); clear hS a; intro a hS
          first | (refine L_op (s_e hS (e_binN rfl rfl rfl (by omega)) rfl ?_); clear hS a; intro a hS) | (refine L_op (s_e hS (e_bin rfl rfl rfl) rfl ?_); clear hS a; intro a hS)
          refine L_op (s_e hS (e_assign rfl) rfl ?_); clear hS a; intro a hS
          refine L_nil ?_
          exact ⟨_, hS.slots (by exact ⟨rfl, rfl, rfl, rfl, rfl, rfl, trivial⟩), by omega⟩
        ·
          have hgd : gd xs l.length = 0 := by unfold gd; rw [List.getElem?_eq_none (by omega)]; rfl
          refine wp_skip ?_
          exact ⟨_, hS.slots (by exact ⟨rfl, rfl, rfl, rfl, rfl, rfl, trivial⟩), by omega⟩
      ·
        clear hS a; (try clear w); intro a w hS
        obtain ⟨d1, hS, hd1⟩ := hS
        refine c_cut (fun a w => ∃ d2 : Int, St 54 noB w0 a w [(8, .int .i64 d2), (0, sliceV p xs.length c1), (1, sliceV q ys.length c2), (5, sv), (6, .int .i64 cy), (7, .int .i64 (l.length : Int))] [ownA 3 1 sv l.length (l.flatMap encD), twoA p q xs ys] ∧ d2 = cy + gd xs l.length + gd ys l.length) ?_ ?_
        ·
          refine c_seq ?_
          refine c_region ?_
          refine L_op (s_e hS (e_move rfl) rfl ?_); clear hS a; intro a hS
          refine L_op (s_e hS (e_move rfl) rfl ?_); clear hS a; intro a hS
          refine L_op (s_e hS (e_len rfl rfl ty_sl42) rfl ?_); clear hS a; intro a hS
          refine L_op (s_e hS (e_bin rfl rfl rfl) rfl ?_); clear hS a; intro a hS
          refine L_nil ?_
          refine n_then ?_
          first | refine c_ifD hS rfl (fun hc39 => ?_) (fun hc39 => ?_) | refine c_if hS rfl (fun hc39 => ?_) (fun hc39 => ?_)
          ·
            obtain ⟨d, hd⟩ : ∃ d, ys[l.length]? = some d := ⟨ys[l.length]'(by omega), List.getElem?_eq_getElem (by omega)⟩
            obtain ⟨b2, o2, rfl⟩ := two_pos hq (fun e => by rw [e] at hd; cases hd)
            have hgd : gd ys l.length = d := by unfold gd; rw [hd]; rfl
            refine c_region ?_
            refine L_op (s_e hS (e_move rfl) rfl ?_); clear hS a; intro a hS
            refine L_op (s_e hS (e_move rfl) rfl ?_); clear hS a; intro a hS
            refine L_op (s_e hS (e_move rfl) rfl ?_); clear hS a; intro a hS
            refine L_op (s_e hS (e_ixN rfl rfl ty_sl42 ty_sz3 (by omega)) rfl ?_); clear hS a; intro a hS
            refine L_op (s_e hS (e_loadC rfl ty_sc3 (two_r (by repeat (first | exact .head _ | refine .tail _ ?_)) hd)) rfl ?_); clear hS a; intro a hS
            first | (refine L_op (s_e hS (e_binN rfl rfl rfl (by omega)) rfl ?_); clear hS a; intro a hS) | (refine L_op (s_e hS (e_bin rfl rfl rfl) rfl ?_); clear hS a; intro a hS)
            refine L_op (s_e hS (e_assign rfl) rfl ?_); clear hS a; intro a hS
            refine L_nil ?_
            exact ⟨_, hS.slots (by exact ⟨rfl, rfl, rfl, rfl, rfl, rfl, trivial⟩), by omega⟩
          ·
            have hgd : gd ys l.length = 0 := by unfold gd; rw [List.getElem?_eq_none (by omega)]; rfl
            refine wp_skip ?_
            exact ⟨_, hS.slots (by exact ⟨rfl, rfl, rfl, rfl, rfl, rfl, trivial⟩), by omega⟩
        ·
          clear hS a; (try clear w); intro a w hS
          obtain ⟨d2, hS, hd2⟩ := hS
          have e1 : (l ++ [d2 % 10000]).flatMap encD = l.flatMap encD ++ [.int .i64 (d2 % 10000)] := by simp [encD]
          have hs2 := add_step hsum da db hd2
          refine c_seq ?_
          refine c_region ?_
          refine L_op (s_e hS (e_move rfl) rfl ?_); clear hS a; intro a hS
          refine L_op (s_e hS (e_move rfl) rfl ?_); clear hS a; intro a hS
          first | (refine L_op (s_e hS (e_remN rfl rfl (by omega)) rfl ?_); clear hS a; intro a hS) | (refine L_op (s_e hS (e_rem rfl rfl (by omega)) rfl ?_); clear hS a; intro a hS)
          refine L_op (s_bslice hS ty_sl42 ty_sz3 ty_z3 rfl rfl rfl rfl (.one rfl rfl rfl .nil) rfl ?_); clear hS a; (try clear w); intro a w b49 hS
          refine L_op (s_append1 hS rfl rfl ty_sl42 ty_sz3 ty_by3 ty_z3 rfl rfl rfl (by repeat constructor) (by repeat constructor) (by rfl) (by rfl) (fun _ => (by repeat constructor)) (by omega) ?_); clear hS a; (try clear w); intro v50 a w hv50 hS
          refine L_op (s_e hS (e_assign rfl) rfl ?_); clear hS a; intro a hS
          refine L_nil ?_
          refine n_then ?_
          refine c_region ?_
          refine L_op (s_e hS (e_move rfl) rfl ?_); clear hS a; intro a hS
          first | (refine L_op (s_e hS (e_quoN rfl rfl (by omega)) rfl ?_); clear hS a; intro a hS) | (refine L_op (s_e hS (e_quo rfl rfl (by omega)) rfl ?_); clear hS a; intro a hS)
          refine L_op (s_e hS (e_assign rfl) rfl ?_); clear hS a; intro a hS
          refine L_nil ?_
          refine n_block ?_
          refine n_then ?_
          refine c_region ?_
          refine L_op (s_e hS (e_move rfl) rfl ?_); clear hS a; intro a hS
          first | (refine L_op (s_e hS (e_binN rfl rfl rfl (by omega)) rfl ?_); clear hS a; intro a hS) | (refine L_op (s_e hS (e_bin rfl rfl rfl) rfl ?_); clear hS a; intro a hS)
          refine L_op (s_e hS (e_assign rfl) rfl ?_); clear hS a; intro a hS
          refine L_nil ?_
          have hlN2 : l.length ≤ N := by
            rcases Nat.lt_or_ge l.length (N + 1) with h1 | h1
            · omega
            · have := hlN (by omega)
              omega
          refine ⟨(d2 / 10000, l ++ [d2 % 10000], v50), by simp only [List.length_append, List.length_cons, List.length_nil]; omega, ?_, inR_snoc hin (by omega), by simp only; omega, by simp only; omega, by simp only [List.length_append, List.length_cons, List.length_nil]; omega, ?_, ?_⟩
          · simp only [List.length_append, List.length_cons, List.length_nil, Nat.zero_add, e1]
            exact (hS.drop (by repeat (first | exact List.Sublist.refl _ | apply List.Sublist.cons_cons | apply List.Sublist.cons))).slots (by exact ⟨rfl, rfl, rfl, rfl, rfl, trivial⟩)
          · simp only [List.length_append, List.length_cons, List.length_nil, Nat.zero_add]
            intro h1
            have za : gd xs l.length = 0 := by unfold gd; rw [List.getElem?_eq_none (by omega)]; rfl
            have zb : gd ys l.length = 0 := by unfold gd; rw [List.getElem?_eq_none (by omega)]; rfl
            omega
          · simp only [List.length_append, List.length_cons, List.length_nil, Nat.zero_add]
            rw [nv_snoc, hs2, Int.pow_succ]
    ·
      refine L_go hS rfl rfl (s_e hS (e_move rfl) rfl ?_); clear hS a; intro a hS
      refine L_go hS rfl rfl (s_e hS (e_bin rfl rfl rfl) rfl ?_); clear hS a; intro a hS
      first | (refine L_op (s_e hS (e_pick_t rfl rfl) rfl ?_); clear hS a; intro a hS) | (refine L_op (s_e hS (e_pick_f rfl rfl) rfl ?_); clear hS a; intro a hS)
      refine L_nil ?_
      refine n_then ?_
      first | refine c_ifD hS rfl (fun hc22 => ?_) (fun hc22 => ?_) | refine c_if hS rfl (fun hc22 => ?_) (fun hc22 => ?_)
      ·
        refine wp_skip ?_
        refine n_then ?_
        refine c_seq ?_
        refine wp_block ?_
        refine c_seq ?_
        refine c_region ?_
        refine L_op (s_e hS (e_move rfl) rfl ?_); clear hS a; intro a hS
        refine L_op (s_e hS (e_assign rfl) rfl ?_); clear hS a; intro a hS
        refine L_nil ?_
        refine n_then ?_
        refine c_cut (fun a w => ∃ d1 : Int, St 54 noB w0 a w [(8, .int .i64 d1), (0, sliceV p xs.length c1), (1, sliceV q ys.length c2), (5, sv), (6, .int .i64 cy), (7, .int .i64 (l.length : Int))] [ownA 3 1 sv l.length (l.flatMap encD), twoA p q xs ys] ∧ d1 = cy + gd xs l.length) ?_ ?_
        ·
          refine c_seq ?_
          refine c_region ?_
          refine L_op (s_e hS (e_move rfl) rfl ?_); clear hS a; intro a hS
          refine L_op (s_e hS (e_move rfl) rfl ?_); clear hS a; intro a hS
          refine L_op (s_e hS (e_len rfl rfl ty_sl42) rfl ?_); clear hS a; intro a hS
          refine L_op (s_e hS (e_bin rfl rfl rfl) rfl ?_); clear hS a; intro a hS
          refine L_nil ?_
          refine n_then ?_
          first | refine c_ifD hS rfl (fun hc29 => ?_) (fun hc29 => ?_) | refine c_if hS rfl (fun hc29 => ?_) (fun hc29 => ?_)
          ·
            obtain ⟨d, hd⟩ : ∃ d, xs[l.length]? = some d := ⟨xs[l.length]'(by omega), List.getElem?_eq_getElem (by omega)⟩
            obtain ⟨b1, o1, rfl⟩ := two_pos hp (fun e => by rw [e] at hd; cases hd)
            have hgd : gd xs l.length = d := by unfold gd; rw [hd]; rfl
            refine c_region ?_
            refine L_op (s_e hS (e_move rfl) rfl ?_); clear hS a; intro a hS
            refine L_op (s_e hS (e_move rfl) rfl ?_); clear hS a; intro a hS
            refine L_op (s_e hS (e_move rfl) rfl ?_); clear hS a; intro a hS
            refine L_op (s_e hS (e_ixN rfl rfl ty_sl42 ty_sz3 (by omega)) rfl ?_); clear hS a; intro a hS
            refine L_op (s_e hS (e_loadC rfl ty_sc3 (two_l (by repeat (first | exact .head _ | refine .tail _ ?_)) hd)) rfl ?_); clear hS a; intro a hS
            first | (refine L_op (s_e hS (e_binN rfl rfl rfl (by omega)) rfl ?_); clear hS a; intro a hS) | (refine L_op (s_e hS (e_bin rfl rfl rfl) rfl ?_); clear hS a; intro a hS)
            refine L_op (s_e hS (e_assign rfl) rfl ?_); clear hS a; intro a hS
            refine L_nil ?_
            exact ⟨_, hS.slots (by exact ⟨rfl, rfl, rfl, rfl, rfl, rfl, trivial⟩), by omega⟩
          ·
            have hgd : gd xs l.length = 0 := by unfold gd; rw [List.getElem?_eq_none (by omega)]; rfl
            refine wp_skip ?_
            exact ⟨_, hS.slots (by exact ⟨rfl, rfl, rfl, rfl, rfl, rfl, trivial⟩), by omega⟩
        ·
          clear hS a; (try clear w); intro a w hS
          obtain ⟨d1, hS, hd1⟩ := hS
          refine c_cut (fun a w => ∃ d2 : Int, St 54 noB w0 a w [(8, .int .i64 d2), (0, sliceV p xs.length c1), (1, sliceV q ys.length c2), (5, sv), (6, .int .i64 cy), (7, .int .i64 (l.length : Int))] [ownA 3 1 sv l.length (l.flatMap encD), twoA p q xs ys] ∧ d2 = cy + gd xs l.length + gd ys l.length) ?_ ?_
          ·
            refine c_seq ?_
            refine c_region ?_
            refine L_op (s_e hS (e_move rfl) rfl ?_); clear hS a; intro a hS
            refine L_op (s_e hS (e_move rfl) rfl ?_); clear hS a; intro a hS
            refine L_op (s_e hS (e_len rfl rfl ty_sl42) rfl ?_); clear hS a; intro a hS
            refine L_op (s_e hS (e_bin rfl rfl rfl) rfl ?_); clear hS a; intro a hS
            refine L_nil ?_
            refine n_then ?_
            first | refine c_ifD hS rfl (fun hc39 => ?_) (fun hc39 => ?_) | refine c_if hS rfl (fun hc39 => ?_) (fun hc39 => ?_)
            ·
              obtain ⟨d, hd⟩ : ∃ d, ys[l.length]? = some d := ⟨ys[l.length]'(by omega), List.getElem?_eq_getElem (by omega)⟩
              obtain ⟨b2, o2, rfl⟩ := two_pos hq (fun e => by rw [e] at hd; cases hd)
              have hgd : gd ys l.length = d := by unfold gd; rw [hd]; rfl
              refine c_region ?_
              refine L_op (s_e hS (e_move rfl) rfl ?_); clear hS a; intro a hS
              refine L_op (s_e hS (e_move rfl) rfl ?_); clear hS a; intro a hS
              refine L_op (s_e hS (e_move rfl) rfl ?_); clear hS a; intro a hS
              refine L_op (s_e hS (e_ixN rfl rfl ty_sl42 ty_sz3 (by omega)) rfl ?_); clear hS a; intro a hS
              refine L_op (s_e hS (e_loadC rfl ty_sc3 (two_r (by repeat (first | exact .head _ | refine .tail _ ?_)) hd)) rfl ?_); clear hS a; intro a hS
              first | (refine L_op (s_e hS (e_binN rfl rfl rfl (by omega)) rfl ?_); clear hS a; intro a hS) | (refine L_op (s_e hS (e_bin rfl rfl rfl) rfl ?_); clear hS a; intro a hS)
              refine L_op (s_e hS (e_assign rfl) rfl ?_); clear hS a; intro a hS
              refine L_nil ?_
              exact ⟨_, hS.slots (by exact ⟨rfl, rfl, rfl, rfl, rfl, rfl, trivial⟩), by omega⟩
            ·
              have hgd : gd ys l.length = 0 := by unfold gd; rw [List.getElem?_eq_none (by omega)]; rfl
              refine wp_skip ?_
              exact ⟨_, hS.slots (by exact ⟨rfl, rfl, rfl, rfl, rfl, rfl, trivial⟩), by omega⟩
          ·
            clear hS a; (try clear w); intro a w hS
            obtain ⟨d2, hS, hd2⟩ := hS
            have e1 : (l ++ [d2 % 10000]).flatMap encD = l.flatMap encD ++ [.int .i64 (d2 % 10000)] := by simp [encD]
            have hs2 := add_step hsum da db hd2
            refine c_seq ?_
            refine c_region ?_
            refine L_op (s_e hS (e_move rfl) rfl ?_); clear hS a; intro a hS
            refine L_op (s_e hS (e_move rfl) rfl ?_); clear hS a; intro a hS
            first | (refine L_op (s_e hS (e_remN rfl rfl (by omega)) rfl ?_); clear hS a; intro a hS) | (refine L_op (s_e hS (e_rem rfl rfl (by omega)) rfl ?_); clear hS a; intro a hS)
            refine L_op (s_bslice hS ty_sl42 ty_sz3 ty_z3 rfl rfl rfl rfl (.one rfl rfl rfl .nil) rfl ?_); clear hS a; (try clear w); intro a w b49 hS
            refine L_op (s_append1 hS rfl rfl ty_sl42 ty_sz3 ty_by3 ty_z3 rfl rfl rfl (by repeat constructor) (by repeat constructor) (by rfl) (by rfl) (fun _ => (by repeat constructor)) (by omega) ?_); clear hS a; (try clear w); intro v50 a w hv50 hS
            refine L_op (s_e hS (e_assign rfl) rfl ?_); clear hS a; intro a hS
            refine L_nil ?_
            refine n_then ?_
            refine c_region ?_
            refine L_op (s_e hS (e_move rfl) rfl ?_); clear hS a; intro a hS
            first | (refine L_op (s_e hS (e_quoN rfl rfl (by omega)) rfl ?_); clear hS a; intro a hS) | (refine L_op (s_e hS (e_quo rfl rfl (by omega)) rfl ?_); clear hS a; intro a hS)
            refine L_op (s_e hS (e_assign rfl) rfl ?_); clear hS a; intro a hS
            refine L_nil ?_
            refine n_block ?_
            refine n_then ?_
            refine c_region ?_
            refine L_op (s_e hS (e_move rfl) rfl ?_); clear hS a; intro a hS
            first | (refine L_op (s_e hS (e_binN rfl rfl rfl (by omega)) rfl ?_); clear hS a; intro a hS) | (refine L_op (s_e hS (e_bin rfl rfl rfl) rfl ?_); clear hS a; intro a hS)
            refine L_op (s_e hS (e_assign rfl) rfl ?_); clear hS a; intro a hS
            refine L_nil ?_
            have hlN2 : l.length ≤ N := by
              rcases Nat.lt_or_ge l.length (N + 1) with h1 | h1
              · omega
              · have := hlN (by omega)
                omega
            refine ⟨(d2 / 10000, l ++ [d2 % 10000], v50), by simp only [List.length_append, List.length_cons, List.length_nil]; omega, ?_, inR_snoc hin (by omega), by simp only; omega, by simp only; omega, by simp only [List.length_append, List.length_cons, List.length_nil]; omega, ?_, ?_⟩
            · simp only [List.length_append, List.length_cons, List.length_nil, Nat.zero_add, e1]
              exact (hS.drop (by repeat (first | exact List.Sublist.refl _ | apply List.Sublist.cons_cons | apply List.Sublist.cons))).slots (by exact ⟨rfl, rfl, rfl, rfl, rfl, trivial⟩)
            · simp only [List.length_append, List.length_cons, List.length_nil, Nat.zero_add]
              intro h1
              have za : gd xs l.length = 0 := by unfold gd; rw [List.getElem?_eq_none (by omega)]; rfl
              have zb : gd ys l.length = 0 := by unfold gd; rw [List.getElem?_eq_none (by omega)]; rfl
              omega
            · simp only [List.length_append, List.length_cons, List.length_nil, Nat.zero_add]
              rw [nv_snoc, hs2, Int.pow_succ]
      ·
        refine wp_exit ?_
        refine x_then (x_then (x_hit ?_))
        refine n_then ?_
        refine c_seq ?_
        refine c_region ?_
        refine L_op (s_e hS (e_move rfl) rfl ?_); clear hS a; intro a hS
        refine L_op (s_e hS (e_assign rfl) rfl ?_); clear hS a; intro a hS
        refine L_nil ?_
        refine n_then ?_
        refine wp_ret ?_
        refine c_ret1 hS Try.results58 (.tmp rfl) ?_
        refine ⟨⟨(l, sv), hin, ?_, hll⟩, rfl, hS.chg, hS.new (X := ownA 3 1 sv l.length (l.flatMap encD)) (by repeat (first | exact .head _ | refine .tail _ ?_)) rfl⟩
        rw [hsum, List.drop_eq_nil_of_le (by omega), List.drop_eq_nil_of_le (by omega), show cy = 0 by omega]
        simp [nv]

theorem sub_step {S P o c A B a b A' B' x c' : Int} (h : S = o + P * (A - B - c)) (hA : A = a + 10000 * A') (hB : B = b + 10000 * B') (hx : x = a - c - b + 10000 * c') : S = (o + P * x) + P * 10000 * (A' - B' - c') := by
  have e : A - B - c = x + 10000 * (A' - B' - c') := by omega
  rw [h, e, Int.mul_add, Int.mul_assoc]; omega
set_option maxRecDepth 100000 in
theorem sub_P (p q : Option (Nat × Nat)) (c1 c2 : Nat) (xs ys : List Int) (hx : inR xs) (hy : inR ys) (hN : xs.length ≤ 1000000) (hly : ys.length ≤ xs.length) (hle : nv ys ≤ nv xs) (w0 : World) (h : (twoA p q xs ys).ok w0) :
    NewC Try.prog 60 [sliceV p xs.length c1, sliceV q ys.length c2] w0 (fun r : { r : Digs // inR r.1 ∧ nv r.1 = nv xs - nv ys ∧ r.1.length ≤ xs.length } => r.1.2) (fun r => digA r.1) := by
  have hp := h.now.1
  have hq := h.now.2
  refine c_enter [(0, sliceV p xs.length c1), (1, sliceV q ys.length c2)] [twoA p q xs ys] noB Try.func60 rfl Try.ntmps60 ⟨rfl, rfl, trivial⟩ rfl (by intro X hX; obtain rfl := List.mem_singleton.1 hX; exact h) (by simp) (by intro X hX hm; obtain rfl := List.mem_singleton.1 hX; cases hm) ?_
  intro a hS
  refine c_seq ?_
  refine c_region ?_
  refine L_op (s_e hS (e_assign rfl) rfl ?_); clear hS a; intro a hS
  refine L_nil ?_
  refine n_then ?_
  refine c_seq ?_
  refine c_region ?_
  refine L_op (s_e hS (e_assign rfl) rfl ?_); clear hS a; intro a hS
  refine L_nil ?_
  refine n_then ?_
  refine c_seq ?_
  refine c_region ?_
  refine L_op (s_e hS (e_assign rfl) rfl ?_); clear hS a; intro a hS
  refine L_nil ?_
  refine n_then ?_
  refine c_seq ?_
  refine c_seq ?_
  refine c_region ?_
  refine L_op (s_e hS (e_assign rfl) rfl ?_); clear hS a; intro a hS
  refine L_nil ?_
  refine n_then ?_
  refine wp_block ?_
  skip
  refine c_loop (γ := (Int × List Int × Value)) (fun G a w => St 40 noB w0 a w [(0, sliceV p xs.length c1), (1, sliceV q ys.length c2), (5, G.2.2), (6, .int .i64 G.1), (7, .int .i64 (G.2.1.length : Int))] [ownA 3 1 G.2.2 G.2.1.length (G.2.1.flatMap encD), twoA p q xs ys] ∧ inR G.2.1 ∧ 0 ≤ G.1 ∧ G.1 ≤ 1 ∧ G.2.1.length ≤ xs.length ∧ nv xs - nv ys = nv G.2.1 + 10000 ^ G.2.1.length * (nv (xs.drop G.2.1.length) - nv (ys.drop G.2.1.length) - G.1)) (fun G => xs.length - G.2.1.length) (0, [], .slice none 0 0) ⟨(hS.own_nil 3 1).slots ⟨rfl, rfl, rfl, rfl, rfl, trivial⟩, (by intro d hd; cases hd), by decide, by decide, Nat.zero_le _, by simp [nv]⟩ ?_
  clear hS a; (try clear w); intro G a w hI
  obtain ⟨cy, l, sv⟩ := G
  obtain ⟨hS, hin, hc0, hc1, hll, hsum⟩ := hI
  simp only at hS hin hc0 hc1 hll hsum
  have ga := gd_in hx l.length
  have gb := gd_in hy l.length
  have da := nv_drop xs l.length
  have db := nv_drop ys l.length
  refine c_seq ?_
  refine c_seq ?_
  refine c_region ?_
  refine L_op (s_e hS (e_move rfl) rfl ?_); clear hS a; intro a hS
  refine L_op (s_e hS (e_move rfl) rfl ?_); clear hS a; intro a hS
  refine L_op (s_e hS (e_len rfl rfl ty_sl42) rfl ?_); clear hS a; intro a hS
  refine L_op (s_e hS (e_bin rfl rfl rfl) rfl ?_); clear hS a; intro a hS
  refine L_nil ?_
  refine n_then ?_
  first | refine c_ifD hS rfl (fun hc12 => ?_) (fun hc12 => ?_) | refine c_if hS rfl (fun hc12 => ?_) (fun hc12 => ?_)
  ·
    obtain ⟨d, hd⟩ : ∃ d, xs[l.length]? = some d := ⟨xs[l.length]'(by omega), List.getElem?_eq_getElem (by omega)⟩
    obtain ⟨b1, o1, rfl⟩ := two_pos hp (fun e => by rw [e] at hd; cases hd)
    have hga : gd xs l.length = d := by unfold gd; rw [hd]; rfl
    refine wp_skip ?_
    refine n_then ?_
    refine c_seq ?_
    refine wp_block ?_
    refine c_seq ?_
    refine c_region ?_
    refine L_op (s_e hS (e_move rfl) rfl ?_); clear hS a; intro a hS
    refine L_op (s_e hS (e_move rfl) rfl ?_); clear hS a; intro a hS
    refine L_op (s_e hS (e_ixN rfl rfl ty_sl42 ty_sz3 (by omega)) rfl ?_); clear hS a; intro a hS
    refine L_op (s_e hS (e_loadC rfl ty_sc3 (two_l (by repeat (first | exact .head _ | refine .tail _ ?_)) hd)) rfl ?_); clear hS a; intro a hS
    refine L_op (s_e hS (e_move rfl) rfl ?_); clear hS a; intro a hS
    first | (refine L_op (s_e hS (e_binN rfl rfl rfl (by omega)) rfl ?_); clear hS a; intro a hS) | (refine L_op (s_e hS (e_bin rfl rfl rfl) rfl ?_); clear hS a; intro a hS)
    refine L_op (s_e hS (e_assign rfl) rfl ?_); clear hS a; intro a hS
    refine L_nil ?_
    refine n_then ?_
    refine c_cut (fun a w => ∃ d1 : Int, St 40 noB w0 a w [(8, .int .i64 d1), (0, sliceV (some (b1, o1)) xs.length c1), (1, sliceV q ys.length c2), (5, sv), (6, .int .i64 cy), (7, .int .i64 (l.length : Int))] [ownA 3 1 sv l.length (l.flatMap encD), twoA (some (b1, o1)) q xs ys] ∧ d1 = gd xs l.length - cy - gd ys l.length) ?_ ?_
    ·
      refine c_seq ?_
      refine c_region ?_
      refine L_op (s_e hS (e_move rfl) rfl ?_); clear hS a; intro a hS
      refine L_op (s_e hS (e_move rfl) rfl ?_); clear hS a; intro a hS
      refine L_op (s_e hS (e_len rfl rfl ty_sl42) rfl ?_); clear hS a; intro a hS
      refine L_op (s_e hS (e_bin rfl rfl rfl) rfl ?_); clear hS a; intro a hS
      refine L_nil ?_
      refine n_then ?_
      first | refine c_ifD hS rfl (fun hc24 => ?_) (fun hc24 => ?_) | refine c_if hS rfl (fun hc24 => ?_) (fun hc24 => ?_)
      ·
        obtain ⟨e, he⟩ : ∃ d, ys[l.length]? = some d := ⟨ys[l.length]'(by omega), List.getElem?_eq_getElem (by omega)⟩
        obtain ⟨b2, o2, rfl⟩ := two_pos hq (fun e => by rw [e] at he; cases he)
        have hgd : gd ys l.length = e := by unfold gd; rw [he]; rfl
        refine c_region ?_
        refine L_op (s_e hS (e_move rfl) rfl ?_); clear hS a; intro a hS
        refine L_op (s_e hS (e_move rfl) rfl ?_); clear hS a; intro a hS
        refine L_op (s_e hS (e_move rfl) rfl ?_); clear hS a; intro a hS
        refine L_op (s_e hS (e_ixN rfl rfl ty_sl42 ty_sz3 (by omega)) rfl ?_); clear hS a; intro a hS
        refine L_op (s_e hS (e_loadC rfl ty_sc3 (two_r (by repeat (first | exact .head _ | refine .tail _ ?_)) he)) rfl ?_); clear hS a; intro a hS
        first | (refine L_op (s_e hS (e_binN rfl rfl rfl (by omega)) rfl ?_); clear hS a; intro a hS) | (refine L_op (s_e hS (e_bin rfl rfl rfl) rfl ?_); clear hS a; intro a hS)
        refine L_op (s_e hS (e_assign rfl) rfl ?_); clear hS a; intro a hS
        refine L_nil ?_
        exact ⟨_, hS.slots (by exact ⟨rfl, rfl, rfl, rfl, rfl, rfl, trivial⟩), by omega⟩
      ·
        have hgd : gd ys l.length = 0 := by unfold gd; rw [List.getElem?_eq_none (by omega)]; rfl
        refine wp_skip ?_
        exact ⟨_, hS.slots (by exact ⟨rfl, rfl, rfl, rfl, rfl, rfl, trivial⟩), by omega⟩
    ·
      clear hS a; (try clear w); intro a w hS
      obtain ⟨d1, hS, hd1⟩ := hS
      refine c_seq ?_
      refine c_region ?_
      refine L_op (s_e hS (e_assign rfl) rfl ?_); clear hS a; intro a hS
      refine L_nil ?_
      refine n_then ?_
      refine c_cut (fun a w => ∃ d2 c' : Int, St 40 noB w0 a w [(8, .int .i64 d2), (0, sliceV (some (b1, o1)) xs.length c1), (1, sliceV q ys.length c2), (5, sv), (6, .int .i64 c'), (7, .int .i64 (l.length : Int))] [ownA 3 1 sv l.length (l.flatMap encD), twoA (some (b1, o1)) q xs ys] ∧ (0 ≤ d2 ∧ d2 ≤ 9999) ∧ (0 ≤ c' ∧ c' ≤ 1) ∧ d2 = gd xs l.length - cy - gd ys l.length + 10000 * c') ?_ ?_
      ·
        refine c_seq ?_
        refine c_region ?_
        refine L_op (s_e hS (e_move rfl) rfl ?_); clear hS a; intro a hS
        refine L_op (s_e hS (e_bin rfl rfl rfl) rfl ?_); clear hS a; intro a hS
        refine L_nil ?_
        refine n_then ?_
        first | refine c_ifD hS rfl (fun hc32 => ?_) (fun hc32 => ?_) | refine c_if hS rfl (fun hc32 => ?_) (fun hc32 => ?_)
        ·
          refine c_seq ?_
          refine c_region ?_
          refine L_op (s_e hS (e_move rfl) rfl ?_); clear hS a; intro a hS
          first | (refine L_op (s_e hS (e_binN rfl rfl rfl (by omega)) rfl ?_); clear hS a; intro a hS) | (refine L_op (s_e hS (e_bin rfl rfl rfl) rfl ?_); clear hS a; intro a hS)
          refine L_op (s_e hS (e_assign rfl) rfl ?_); clear hS a; intro a hS
          refine L_nil ?_
          refine n_then ?_
          refine c_region ?_
          refine L_op (s_e hS (e_assign rfl) rfl ?_); clear hS a; intro a hS
          refine L_nil ?_
          exact ⟨_, _, hS.slots (by exact ⟨rfl, rfl, rfl, rfl, rfl, rfl, trivial⟩), by omega, by decide, by omega⟩
        ·
          refine wp_skip ?_
          exact ⟨_, _, hS.slots (by exact ⟨rfl, rfl, rfl, rfl, rfl, rfl, trivial⟩), by omega, by decide, by omega⟩
      ·
        clear hS a; (try clear w); intro a w hS
        obtain ⟨d2, c', hS, hb2, hbc, hd2⟩ := hS
        have e1 : (l ++ [d2]).flatMap encD = l.flatMap encD ++ [.int .i64 d2] := by simp [encD]
        have hs2 := sub_step hsum da db hd2
        refine c_region ?_
        refine L_op (s_e hS (e_move rfl) rfl ?_); clear hS a; intro a hS
        refine L_op (s_e hS (e_move rfl) rfl ?_); clear hS a; intro a hS
        refine L_op (s_bslice hS ty_sl42 ty_sz3 ty_z3 rfl rfl rfl rfl (.one rfl rfl rfl .nil) rfl ?_); clear hS a; (try clear w); intro a w b37 hS
        refine L_op (s_append1 hS rfl rfl ty_sl42 ty_sz3 ty_by3 ty_z3 rfl rfl rfl (by repeat constructor) (by repeat constructor) (by rfl) (by rfl) (fun _ => (by repeat constructor)) (by omega) ?_); clear hS a; (try clear w); intro v38 a w hv38 hS
        refine L_op (s_e hS (e_assign rfl) rfl ?_); clear hS a; intro a hS
        refine L_nil ?_
        refine n_block ?_
        refine n_then ?_
        refine c_region ?_
        refine L_op (s_e hS (e_move rfl) rfl ?_); clear hS a; intro a hS
        first | (refine L_op (s_e hS (e_binN rfl rfl rfl (by omega)) rfl ?_); clear hS a; intro a hS) | (refine L_op (s_e hS (e_bin rfl rfl rfl) rfl ?_); clear hS a; intro a hS)
        refine L_op (s_e hS (e_assign rfl) rfl ?_); clear hS a; intro a hS
        refine L_nil ?_
        refine ⟨(c', l ++ [d2], v38), by simp only [List.length_append, List.length_cons, List.length_nil]; omega, ?_, inR_snoc hin hb2, hbc.1, hbc.2, by simp only [List.length_append, List.length_cons, List.length_nil]; omega, ?_⟩
        · simp only [List.length_append, List.length_cons, List.length_nil, Nat.zero_add, e1]
          exact (hS.drop (by repeat (first | exact List.Sublist.refl _ | apply List.Sublist.cons_cons | apply List.Sublist.cons))).slots (by exact ⟨rfl, rfl, rfl, rfl, rfl, trivial⟩)
        · simp only [List.length_append, List.length_cons, List.length_nil, Nat.zero_add]
          rw [nv_snoc, hs2, Int.pow_succ]
  ·
    refine wp_exit ?_
    refine x_then (x_then (x_hit ?_))
    refine n_then ?_
    refine c_seq ?_
    refine c_region ?_
    refine L_op (s_e hS (e_move rfl) rfl ?_); clear hS a; intro a hS
    refine L_op (s_e hS (e_assign rfl) rfl ?_); clear hS a; intro a hS
    refine L_nil ?_
    refine n_then ?_
    refine wp_ret ?_
    refine c_ret1 hS Try.results60 (.tmp rfl) ?_
    refine ⟨⟨(l, sv), hin, ?_, hll⟩, rfl, hS.chg, hS.new (X := ownA 3 1 sv l.length (l.flatMap encD)) (by repeat (first | exact .head _ | refine .tail _ ?_)) rfl⟩
    rw [List.drop_eq_nil_of_le (show xs.length ≤ l.length by omega), List.drop_eq_nil_of_le (show ys.length ≤ l.length by omega)] at hsum
    have h1 := nv_lt hin
    simp only [nv, Int.sub_self, Int.zero_sub] at hsum
    have h2 : cy = 0 := by
      rcases (show cy = 0 ∨ cy = 1 by omega) with h2 | rfl
      · exact h2
      · rw [Int.mul_neg, Int.mul_one] at hsum; omega
    subst h2
    simp only [Int.neg_zero, Int.mul_zero, Int.add_zero] at hsum
    exact hsum.symm
end Go.Proofs.Ytheofhegdjjfgaa

namespace Go.Proofs.Ytheofhegdjjfgaa
open Go.RowKit

theorem two_swap {p q : Option (Nat × Nat)} {xs ys : List Int} {w : World} (h : (twoA p q xs ys).ok w) : (twoA q p ys xs).ok w :=
  two_ok h.now.2 h.now.1 (fun r e => h.lt r.1 (.inr ⟨r.2, e⟩)) (fun r e => h.lt r.1 (.inl ⟨r.2, e⟩))
set_option maxHeartbeats 1000000 in
set_option maxRecDepth 100000 in
theorem BigAdd_P (p q : Option (Nat × Nat)) (c1 c2 : Nat) (x y : Int) (N : Nat) (hN : N ≤ 100000) (hx : (dgs x.natAbs).length ≤ N) (hy : (dgs y.natAbs).length ≤ N) (w0 : World) (h : (twoA p q (dgs x.natAbs) (dgs y.natAbs)).ok w0) :
    NewC Try.prog 23 [bigV x p c1, bigV y q c2] w0 (fun r : At (x + y) => bigV (x + y) (some (r.1.1, 0)) r.1.2) (fun r => bigA (x + y) r.1.1) := by
  refine c_enter [(0, bigV x p c1), (1, bigV y q c2)] [twoA p q (dgs x.natAbs) (dgs y.natAbs)] noB Try.func23 rfl Try.ntmps23 ⟨rfl, rfl, trivial⟩ rfl (by intro X hX; obtain rfl := List.mem_singleton.1 hX; exact h) (by simp) (by intro X hX hm; obtain rfl := List.mem_singleton.1 hX; cases hm) ?_
  intro a hS
  refine c_seq ?_
  refine c_region ?_
  refine L_op (s_boxA hS rfl rfl ?_); clear hS a; (try clear w); intro a w b2 hS
  refine L_op (s_boxA hS rfl rfl ?_); clear hS a; (try clear w); intro a w b3 hS
  refine L_op (s_alloc hS ty_z44 rfl ?_); clear hS a; (try clear w); intro a w b4 hS
  refine L_nil ?_
  refine n_then ?_
  refine c_seq ?_
  refine c_seq ?_
  refine c_region ?_
  first | (refine L_op (s_e hS (e_fa0 rfl ty_fo44_0) rfl ?_); clear hS a; intro a hS) | (refine L_op (s_e hS (e_faK rfl ty_fo44_0) rfl ?_); clear hS a; intro a hS)
  refine L_op (s_e hS (e_load rfl (by repeat constructor) ty_sc4 (by rfl)) rfl ?_); clear hS a; intro a hS
  first | (refine L_op (s_e hS (e_fa0 rfl ty_fo44_0) rfl ?_); clear hS a; intro a hS) | (refine L_op (s_e hS (e_faK rfl ty_fo44_0) rfl ?_); clear hS a; intro a hS)
  refine L_op (s_e hS (e_load rfl (by repeat constructor) ty_sc4 (by rfl)) rfl ?_); clear hS a; intro a hS
  refine L_op (s_e hS (e_binB rfl rfl ty_u4 rfl) rfl ?_); clear hS a; intro a hS
  refine L_nil ?_
  refine n_then ?_
  first | refine c_ifD hS rfl (fun hc9 => ?_) (fun hc9 => ?_) | refine c_if hS rfl (fun hc9 => ?_) (fun hc9 => ?_)
  ·
    have hsame : x < 0 ↔ y < 0 := by simpa using hc9
    refine c_seq ?_
    refine c_drawS [8] (by kernel_rfl) hS (sub_cons (X := .blk b2 _ _) (by repeat constructor) (sub_cons (X := .blk b3 _ _) (by repeat constructor) sub_nil)) ?_; clear hS; (try clear w); intro w hS
    simp only [List.length_cons, List.length_nil, Nat.zero_add, Nat.reduceAdd, List.replicate]
    first | (refine Z_take0 (i := 0) hS rfl want_none (e_fa0 rfl ty_fo44_0) (listed' := [true, false, false, false, false, false, false, false, false]) rfl (by kernel_rfl) (by kernel_rfl) (by kernel_rfl) (fun _ _ _ h => h) rfl ?_; clear hS a; intro a hS) | (refine Z_take0 (i := 0) hS rfl want_none (e_faK rfl ty_fo44_0) (listed' := [true, false, false, false, false, false, false, false, false]) rfl (by kernel_rfl) (by kernel_rfl) (by kernel_rfl) (fun _ _ _ h => h) rfl ?_; clear hS a; intro a hS)
    refine Z_take (i := 1) hS rfl want_none (e_load rfl (by repeat constructor) ty_sc4 (by rfl)) (listed' := [true, true, false, false, false, false, false, false, false]) rfl (by kernel_rfl) (by kernel_rfl) (by kernel_rfl) (by kernel_rfl) (by kernel_rfl) (sub_cons (by repeat constructor) (sub_cons (by repeat constructor) sub_nil)) (fun _ _ _ h => h) rfl ?_; clear hS a; intro a hS
    first | (refine Z_take0 (i := 2) hS rfl want_none (e_fa0 rfl ty_fo44_1) (listed' := [true, true, true, false, false, false, false, false, false]) rfl (by kernel_rfl) (by kernel_rfl) (by kernel_rfl) (fun _ _ _ h => h) rfl ?_; clear hS a; intro a hS) | (refine Z_take0 (i := 2) hS rfl want_none (e_faK rfl ty_fo44_1) (listed' := [true, true, true, false, false, false, false, false, false]) rfl (by kernel_rfl) (by kernel_rfl) (by kernel_rfl) (fun _ _ _ h => h) rfl ?_; clear hS a; intro a hS)
    refine Z_take (i := 3) hS rfl want_none (e_load rfl (by repeat constructor) ty_sc42 (by rfl)) (listed' := [true, true, true, true, false, false, false, false, false]) rfl (by kernel_rfl) (by kernel_rfl) (by kernel_rfl) (by kernel_rfl) (by kernel_rfl) (sub_cons (by repeat constructor) (sub_cons (by repeat constructor) sub_nil)) (fun _ _ _ h => h) rfl ?_; clear hS a; intro a hS
    first | (refine Z_take0 (i := 4) hS rfl want_none (e_fa0 rfl ty_fo44_1) (listed' := [true, true, true, true, true, false, false, false, false]) rfl (by kernel_rfl) (by kernel_rfl) (by kernel_rfl) (fun _ _ _ h => h) rfl ?_; clear hS a; intro a hS) | (refine Z_take0 (i := 4) hS rfl want_none (e_faK rfl ty_fo44_1) (listed' := [true, true, true, true, true, false, false, false, false]) rfl (by kernel_rfl) (by kernel_rfl) (by kernel_rfl) (fun _ _ _ h => h) rfl ?_; clear hS a; intro a hS)
    refine Z_take (i := 5) hS rfl want_none (e_load rfl (by repeat constructor) ty_sc42 (by rfl)) (listed' := [true, true, true, true, true, true, false, false, false]) rfl (by kernel_rfl) (by kernel_rfl) (by kernel_rfl) (by kernel_rfl) (by kernel_rfl) (sub_cons (by repeat constructor) (sub_cons (by repeat constructor) sub_nil)) (fun _ _ _ h => h) rfl ?_; clear hS a; intro a hS
    refine Z_one (i := 6) rfl (want_none a hS.sl) (listed' := [true, true, true, true, true, true, true, false, false]) rfl (by kernel_rfl) (s_callN hS (.cons rfl (.cons rfl .nil)) cf58 rfl (add_P p q c1 c2 (dgs x.natAbs) (dgs y.natAbs) (inR_dgs _) (inR_dgs _) N (by omega) hx hy _ (hS.ok _ (by repeat (first | exact .head _ | refine .tail _ ?_)))) ?_); clear hS a; (try clear w); intro x16 a w hS
    obtain ⟨⟨l, sv⟩, hin, hnv, hll⟩ := x16
    simp only at hin hnv hll
    obtain ⟨p5, c5, e5, h4, h5, h6, h7⟩ := own_digs (hS.get (X := digA (l, sv)) (by repeat (first | exact .head _ | refine .tail _ ?_)))
    have e5 : sv = sliceV p5 l.length c5 := e5
    subst e5
    have hT := trim_P (decide (x < 0)) p5 c5 h4 l hin h5 (by omega) w h6 h7
    rw [show sgn (decide (x < 0)) (nv l) = x + y by rw [nv_dgs, nv_dgs] at hnv; unfold sgn; by_cases hneg : x < 0 <;> simp [hneg] <;> omega] at hT
    refine Z_and hS (sub_cons (by repeat constructor) (sub_cons (by repeat constructor) sub_nil)) ?_
    refine Z_one (i := 7) rfl (want_none a hS.sl) (listed' := [true, true, true, true, true, true, true, true, false]) rfl (by kernel_rfl) (s_callN hS (.cons rfl (.cons rfl .nil)) cf57 rfl (hT) ?_); clear hS a; (try clear w); intro x17 a w hS
    refine Z_and hS (sub_cons (by repeat constructor) (sub_cons (by repeat constructor) sub_nil)) ?_
    refine Z_one (i := 8) rfl (want_none a hS.sl) (listed' := [true, true, true, true, true, true, true, true, true]) rfl (by kernel_rfl) (s_storeA hS rfl rfl ty_sz44 (by repeat constructor) (by rfl) (by rfl) (by rfl) ?_); clear hS; (try clear w); intro w hS
    refine Z_last (by simp) ?_
    refine Z_done (by kernel_rfl) ?_
    refine n_then ?_
    refine wp_ret ?_
    refine r_then ?_
    refine c_ret1 hS Try.results23 (.cellA rfl (by repeat constructor) ty_st44 ty_sz44 (by rfl)) ?_
    exact ⟨x17, rfl, hS.chg, hS.new (X := bigA (x + y) x17.1.1) (by repeat (first | exact .head _ | refine .tail _ ?_)) rfl⟩
  ·
    have hdiff : ¬ (x < 0 ↔ y < 0) := by simpa using hc9
    refine wp_skip ?_
    refine n_then ?_
    refine c_seq ?_
    refine c_seq ?_
    refine c_region ?_
    first | (refine L_op (s_e hS (e_fa0 rfl ty_fo44_1) rfl ?_); clear hS a; intro a hS) | (refine L_op (s_e hS (e_faK rfl ty_fo44_1) rfl ?_); clear hS a; intro a hS)
    refine L_op (s_e hS (e_load rfl (by repeat constructor) ty_sc42 (by rfl)) rfl ?_); clear hS a; intro a hS
    first | (refine L_op (s_e hS (e_fa0 rfl ty_fo44_1) rfl ?_); clear hS a; intro a hS) | (refine L_op (s_e hS (e_faK rfl ty_fo44_1) rfl ?_); clear hS a; intro a hS)
    refine L_op (s_e hS (e_load rfl (by repeat constructor) ty_sc42 (by rfl)) rfl ?_); clear hS a; intro a hS
    refine L_op (s_callP hS (.cons rfl (.cons rfl .nil)) cf59 rfl (cmp_P p q c1 c2 x.natAbs y.natAbs (by omega) _ (hS.ok _ (by repeat (first | exact .head _ | refine .tail _ ?_)))) ?_); clear hS a; (try clear w); intro a w hS
    refine L_op (s_e hS (e_bin rfl rfl rfl) rfl ?_); clear hS a; intro a hS
    refine L_nil ?_
    refine n_then ?_
    first | refine c_ifD hS rfl (fun hc23 => ?_) (fun hc23 => ?_) | refine c_if hS rfl (fun hc23 => ?_) (fun hc23 => ?_)
    ·
      have hge : y.natAbs ≤ x.natAbs := by
        unfold cmpN at hc23
        split at hc23
        · omega
        · omega
      have hlm := dgs_len_mono hge
      refine c_seq ?_
      refine c_drawS [8] (by kernel_rfl) hS (sub_cons (X := .blk b2 _ _) (by repeat constructor) (sub_cons (X := .blk b3 _ _) (by repeat constructor) sub_nil)) ?_; clear hS; (try clear w); intro w hS
      simp only [List.length_cons, List.length_nil, Nat.zero_add, Nat.reduceAdd, List.replicate]
      first | (refine Z_take0 (i := 0) hS rfl want_none (e_fa0 rfl ty_fo44_0) (listed' := [true, false, false, false, false, false, false, false, false]) rfl (by kernel_rfl) (by kernel_rfl) (by kernel_rfl) (fun _ _ _ h => h) rfl ?_; clear hS a; intro a hS) | (refine Z_take0 (i := 0) hS rfl want_none (e_faK rfl ty_fo44_0) (listed' := [true, false, false, false, false, false, false, false, false]) rfl (by kernel_rfl) (by kernel_rfl) (by kernel_rfl) (fun _ _ _ h => h) rfl ?_; clear hS a; intro a hS)
      refine Z_take (i := 1) hS rfl want_none (e_load rfl (by repeat constructor) ty_sc4 (by rfl)) (listed' := [true, true, false, false, false, false, false, false, false]) rfl (by kernel_rfl) (by kernel_rfl) (by kernel_rfl) (by kernel_rfl) (by kernel_rfl) (sub_cons (by repeat constructor) (sub_cons (by repeat constructor) sub_nil)) (fun _ _ _ h => h) rfl ?_; clear hS a; intro a hS
      first | (refine Z_take0 (i := 2) hS rfl want_none (e_fa0 rfl ty_fo44_1) (listed' := [true, true, true, false, false, false, false, false, false]) rfl (by kernel_rfl) (by kernel_rfl) (by kernel_rfl) (fun _ _ _ h => h) rfl ?_; clear hS a; intro a hS) | (refine Z_take0 (i := 2) hS rfl want_none (e_faK rfl ty_fo44_1) (listed' := [true, true, true, false, false, false, false, false, false]) rfl (by kernel_rfl) (by kernel_rfl) (by kernel_rfl) (fun _ _ _ h => h) rfl ?_; clear hS a; intro a hS)
      refine Z_take (i := 3) hS rfl want_none (e_load rfl (by repeat constructor) ty_sc42 (by rfl)) (listed' := [true, true, true, true, false, false, false, false, false]) rfl (by kernel_rfl) (by kernel_rfl) (by kernel_rfl) (by kernel_rfl) (by kernel_rfl) (sub_cons (by repeat constructor) (sub_cons (by repeat constructor) sub_nil)) (fun _ _ _ h => h) rfl ?_; clear hS a; intro a hS
      first | (refine Z_take0 (i := 4) hS rfl want_none (e_fa0 rfl ty_fo44_1) (listed' := [true, true, true, true, true, false, false, false, false]) rfl (by kernel_rfl) (by kernel_rfl) (by kernel_rfl) (fun _ _ _ h => h) rfl ?_; clear hS a; intro a hS) | (refine Z_take0 (i := 4) hS rfl want_none (e_faK rfl ty_fo44_1) (listed' := [true, true, true, true, true, false, false, false, false]) rfl (by kernel_rfl) (by kernel_rfl) (by kernel_rfl) (fun _ _ _ h => h) rfl ?_; clear hS a; intro a hS)
      refine Z_take (i := 5) hS rfl want_none (e_load rfl (by repeat constructor) ty_sc42 (by rfl)) (listed' := [true, true, true, true, true, true, false, false, false]) rfl (by kernel_rfl) (by kernel_rfl) (by kernel_rfl) (by kernel_rfl) (by kernel_rfl) (sub_cons (by repeat constructor) (sub_cons (by repeat constructor) sub_nil)) (fun _ _ _ h => h) rfl ?_; clear hS a; intro a hS
      refine Z_one (i := 6) rfl (want_none a hS.sl) (listed' := [true, true, true, true, true, true, true, false, false]) rfl (by kernel_rfl) (s_callN hS (.cons rfl (.cons rfl .nil)) cf60 rfl (sub_P p q c1 c2 (dgs x.natAbs) (dgs y.natAbs) (inR_dgs _) (inR_dgs _) (by omega) hlm (by rw [nv_dgs, nv_dgs]; omega) _ (hS.ok _ (by repeat (first | exact .head _ | refine .tail _ ?_)))) ?_); clear hS a; (try clear w); intro x30 a w hS
      obtain ⟨⟨l, sv⟩, hin, hnv, hll⟩ := x30
      simp only at hin hnv hll
      obtain ⟨p5, c5, e5, h4, h5, h6, h7⟩ := own_digs (hS.get (X := digA (l, sv)) (by repeat (first | exact .head _ | refine .tail _ ?_)))
      have e5 : sv = sliceV p5 l.length c5 := e5
      subst e5
      have hT := trim_P (decide (x < 0)) p5 c5 h4 l hin h5 (by omega) w h6 h7
      rw [show sgn (decide (x < 0)) (nv l) = x + y by rw [nv_dgs, nv_dgs] at hnv; unfold sgn; by_cases hneg : x < 0 <;> simp [hneg] <;> omega] at hT
      refine Z_and hS (sub_cons (by repeat constructor) (sub_cons (by repeat constructor) sub_nil)) ?_
      refine Z_one (i := 7) rfl (want_none a hS.sl) (listed' := [true, true, true, true, true, true, true, true, false]) rfl (by kernel_rfl) (s_callN hS (.cons rfl (.cons rfl .nil)) cf57 rfl (hT) ?_); clear hS a; (try clear w); intro x31 a w hS
      refine Z_and hS (sub_cons (by repeat constructor) (sub_cons (by repeat constructor) sub_nil)) ?_
      refine Z_one (i := 8) rfl (want_none a hS.sl) (listed' := [true, true, true, true, true, true, true, true, true]) rfl (by kernel_rfl) (s_storeA hS rfl rfl ty_sz44 (by repeat constructor) (by rfl) (by rfl) (by rfl) ?_); clear hS; (try clear w); intro w hS
      refine Z_last (by simp) ?_
      refine Z_done (by kernel_rfl) ?_
      refine n_then ?_
      refine wp_ret ?_
      refine r_then ?_
      refine c_ret1 hS Try.results23 (.cellA rfl (by repeat constructor) ty_st44 ty_sz44 (by rfl)) ?_
      exact ⟨x31, rfl, hS.chg, hS.new (X := bigA (x + y) x31.1.1) (by repeat (first | exact .head _ | refine .tail _ ?_)) rfl⟩
    ·
      have hge : x.natAbs ≤ y.natAbs := by
        unfold cmpN at hc23
        split at hc23
        · omega
        · split at hc23 <;> omega
      have hlm := dgs_len_mono hge
      refine wp_skip ?_
      refine n_then ?_
      refine c_seq ?_
      refine c_drawS [8] (by kernel_rfl) hS (sub_cons (X := .blk b2 _ _) (by repeat constructor) (sub_cons (X := .blk b3 _ _) (by repeat constructor) sub_nil)) ?_; clear hS; (try clear w); intro w hS
      simp only [List.length_cons, List.length_nil, Nat.zero_add, Nat.reduceAdd, List.replicate]
      first | (refine Z_take0 (i := 0) hS rfl want_none (e_fa0 rfl ty_fo44_0) (listed' := [true, false, false, false, false, false, false, false, false]) rfl (by kernel_rfl) (by kernel_rfl) (by kernel_rfl) (fun _ _ _ h => h) rfl ?_; clear hS a; intro a hS) | (refine Z_take0 (i := 0) hS rfl want_none (e_faK rfl ty_fo44_0) (listed' := [true, false, false, false, false, false, false, false, false]) rfl (by kernel_rfl) (by kernel_rfl) (by kernel_rfl) (fun _ _ _ h => h) rfl ?_; clear hS a; intro a hS)
      refine Z_take (i := 1) hS rfl want_none (e_load rfl (by repeat constructor) ty_sc4 (by rfl)) (listed' := [true, true, false, false, false, false, false, false, false]) rfl (by kernel_rfl) (by kernel_rfl) (by kernel_rfl) (by kernel_rfl) (by kernel_rfl) (sub_cons (by repeat constructor) (sub_cons (by repeat constructor) sub_nil)) (fun _ _ _ h => h) rfl ?_; clear hS a; intro a hS
      first | (refine Z_take0 (i := 2) hS rfl want_none (e_fa0 rfl ty_fo44_1) (listed' := [true, true, true, false, false, false, false, false, false]) rfl (by kernel_rfl) (by kernel_rfl) (by kernel_rfl) (fun _ _ _ h => h) rfl ?_; clear hS a; intro a hS) | (refine Z_take0 (i := 2) hS rfl want_none (e_faK rfl ty_fo44_1) (listed' := [true, true, true, false, false, false, false, false, false]) rfl (by kernel_rfl) (by kernel_rfl) (by kernel_rfl) (fun _ _ _ h => h) rfl ?_; clear hS a; intro a hS)
      refine Z_take (i := 3) hS rfl want_none (e_load rfl (by repeat constructor) ty_sc42 (by rfl)) (listed' := [true, true, true, true, false, false, false, false, false]) rfl (by kernel_rfl) (by kernel_rfl) (by kernel_rfl) (by kernel_rfl) (by kernel_rfl) (sub_cons (by repeat constructor) (sub_cons (by repeat constructor) sub_nil)) (fun _ _ _ h => h) rfl ?_; clear hS a; intro a hS
      first | (refine Z_take0 (i := 4) hS rfl want_none (e_fa0 rfl ty_fo44_1) (listed' := [true, true, true, true, true, false, false, false, false]) rfl (by kernel_rfl) (by kernel_rfl) (by kernel_rfl) (fun _ _ _ h => h) rfl ?_; clear hS a; intro a hS) | (refine Z_take0 (i := 4) hS rfl want_none (e_faK rfl ty_fo44_1) (listed' := [true, true, true, true, true, false, false, false, false]) rfl (by kernel_rfl) (by kernel_rfl) (by kernel_rfl) (fun _ _ _ h => h) rfl ?_; clear hS a; intro a hS)
      refine Z_take (i := 5) hS rfl want_none (e_load rfl (by repeat constructor) ty_sc42 (by rfl)) (listed' := [true, true, true, true, true, true, false, false, false]) rfl (by kernel_rfl) (by kernel_rfl) (by kernel_rfl) (by kernel_rfl) (by kernel_rfl) (sub_cons (by repeat constructor) (sub_cons (by repeat constructor) sub_nil)) (fun _ _ _ h => h) rfl ?_; clear hS a; intro a hS
      refine Z_one (i := 6) rfl (want_none a hS.sl) (listed' := [true, true, true, true, true, true, true, false, false]) rfl (by kernel_rfl) (s_callN hS (.cons rfl (.cons rfl .nil)) cf60 rfl (sub_P q p c2 c1 (dgs y.natAbs) (dgs x.natAbs) (inR_dgs _) (inR_dgs _) (by omega) hlm (by rw [nv_dgs, nv_dgs]; omega) _ (two_swap (hS.ok (twoA p q _ _) (by repeat (first | exact .head _ | refine .tail _ ?_))))) ?_); clear hS a; (try clear w); intro x38 a w hS
      obtain ⟨⟨l, sv⟩, hin, hnv, hll⟩ := x38
      simp only at hin hnv hll
      obtain ⟨p5, c5, e5, h4, h5, h6, h7⟩ := own_digs (hS.get (X := digA (l, sv)) (by repeat (first | exact .head _ | refine .tail _ ?_)))
      have e5 : sv = sliceV p5 l.length c5 := e5
      subst e5
      have hT := trim_P (decide (y < 0)) p5 c5 h4 l hin h5 (by omega) w h6 h7
      rw [show sgn (decide (y < 0)) (nv l) = x + y by rw [nv_dgs, nv_dgs] at hnv; unfold sgn; by_cases hneg : y < 0 <;> simp [hneg] <;> omega] at hT
      refine Z_and hS (sub_cons (by repeat constructor) (sub_cons (by repeat constructor) sub_nil)) ?_
      refine Z_one (i := 7) rfl (want_none a hS.sl) (listed' := [true, true, true, true, true, true, true, true, false]) rfl (by kernel_rfl) (s_callN hS (.cons rfl (.cons rfl .nil)) cf57 rfl (hT) ?_); clear hS a; (try clear w); intro x39 a w hS
      refine Z_and hS (sub_cons (by repeat constructor) (sub_cons (by repeat constructor) sub_nil)) ?_
      refine Z_one (i := 8) rfl (want_none a hS.sl) (listed' := [true, true, true, true, true, true, true, true, true]) rfl (by kernel_rfl) (s_storeA hS rfl rfl ty_sz44 (by repeat constructor) (by rfl) (by rfl) (by rfl) ?_); clear hS; (try clear w); intro w hS
      refine Z_last (by simp) ?_
      refine Z_done (by kernel_rfl) ?_
      refine n_then ?_
      refine wp_ret ?_
      refine c_ret1 hS Try.results23 (.cellA rfl (by repeat constructor) ty_st44 ty_sz44 (by rfl)) ?_
      exact ⟨x39, rfl, hS.chg, hS.new (X := bigA (x + y) x39.1.1) (by repeat (first | exact .head _ | refine .tail _ ?_)) rfl⟩
/-- one slice of digits that came in. -/
def oneA (p : Option (Nat × Nat)) (xs : List Int) : Asn := rowP p 1 (xs.map encD)
section
variable {n : Nat} {F0 : Nat → Prop} {w0 w : World} {a : Act} {L : List (Nat × Value)} {Γ : List Asn}
theorem two_bb (hS : St n F0 w0 a w L Γ) {x y : Int} {b c : Nat} (h1 : bigA x b ∈ Γ) (h2 : bigA y c ∈ Γ) : (twoA (some (b, 0)) (some (c, 0)) (dgs x.natAbs) (dgs y.natAbs)).ok w :=
  two_ok (hS.get h1) (hS.get h2) (fun r e => by cases e; exact (hS.ok _ h1).lt b rfl) (fun r e => by cases e; exact (hS.ok _ h2).lt c rfl)
theorem two_ob (hS : St n F0 w0 a w L Γ) {xs : List Int} {y : Int} {p : Option (Nat × Nat)} {c : Nat} (h1 : oneA p xs ∈ Γ) (h2 : bigA y c ∈ Γ) : (twoA p (some (c, 0)) xs (dgs y.natAbs)).ok w :=
  two_ok (hS.get h1) (hS.get h2) (fun r e => (hS.ok _ h1).lt r.1 ⟨r.2, e⟩) (fun r e => by cases e; exact (hS.ok _ h2).lt c rfl)
theorem two_bo (hS : St n F0 w0 a w L Γ) {xs : List Int} {y : Int} {p : Option (Nat × Nat)} {c : Nat} (h1 : bigA y c ∈ Γ) (h2 : oneA p xs ∈ Γ) : (twoA (some (c, 0)) p (dgs y.natAbs) xs).ok w :=
  two_ok (hS.get h1) (hS.get h2) (fun r e => by cases e; exact (hS.ok _ h1).lt c rfl) (fun r e => (hS.ok _ h2).lt r.1 ⟨r.2, e⟩)
theorem row_b (hS : St n F0 w0 a w L Γ) {x : Int} {b : Nat} (h1 : bigA x b ∈ Γ) : RowP (some (b, 0)) 1 ((dgs x.natAbs).map encD) w ∧ ∀ r, some (b, 0) = some r → r.1 < w.heap.size :=
  ⟨hS.get h1, fun r e => by cases e; exact (hS.ok _ h1).lt b rfl⟩
end

theorem len20 {z : Int} (h : z.natAbs < 100000000000000000000000000000000000000000000000000000000000000000000000000000000) : (dgs z.natAbs).length ≤ 20 := dgs_length_le (Nat.lt_of_lt_of_le h (by decide))
end Go.Proofs.Ytheofhegdjjfgaa

namespace Go.Proofs.Ytheofhegdjjfgaa
open Go.RowKit

/-- the digits of a number, the walk's own or none. -/
def dgP (z : Int) (p : Option (Nat × Nat)) : Asn := .any (fun k => ∃ off, p = some (k, off)) (RowP p 1 ((dgs z.natAbs).map encD)) true
theorem dgP_of {w : World} {z : Int} {b : Nat} (h : (bigA z b).ok w) : (dgP z (some (b, 0))).ok w :=
  ⟨fun k hk => by obtain ⟨off, e⟩ := hk; cases e; exact h.lt _ rfl, fun w' hw => h.hold w' (fun k hk => by obtain rfl : k = b := hk; exact hw _ ⟨0, rfl⟩)⟩
theorem dgP0 {w : World} : (dgP 0 none).ok w := ⟨fun k hk => (by obtain ⟨off, e⟩ := hk; cases e), fun w' _ => (by show _ = []; rw [show (0 : Int).natAbs = 0 from rfl, dgs_zero]; rfl)⟩
theorem dg_len0 : (dgs (0 : Int).natAbs).length = 0 := by rw [show (0 : Int).natAbs = 0 from rfl, dgs_zero]; rfl

theorem own_getT {Γ : List Asn} {g c m : Nat} {xs : List BL} (hm : ownA 60 3 (.slice (some ⟨g, 0, none⟩) m c) m (xs.flatMap encBl) ∈ Γ) {i : Nat} {x : BL} (hx : xs[i]? = some x) : ∀ w, Hd Γ w → ∀ j v, (encBl x)[j]? = some v → w.cell? ⟨g, 0 + i * 3 + j, none⟩ = some v := own_getL (enc := encBl) (s := 3) (fun _ => rfl) hm hx
end Go.Proofs.Ytheofhegdjjfgaa

namespace Go.Proofs.Ytheofhegdjjfgaa
open Go.RowKit

theorem ents_get {Γ : List Asn} {g m c : Nat} {L : List EA} (hm : entsA (.slice (some ⟨g, 0, none⟩) m c) L ∈ Γ) {i : Nat} {x : EA} (hx : L[i]? = some x) : ∀ w, Hd Γ w → ∀ j v, (encE x)[j]? = some v → w.cell? ⟨g, 0 + i * 4 + j, none⟩ = some v := by
  intro w hh j v hj
  have h := entsφ.row (hh _ hm)
  have h1 := flat_get encE 4 (fun _ => rfl) L i x hx j v hj
  have h2 := World.ownsRow.cells h (g := g) rfl _ _ h1
  rw [addr_add] at h2
  rw [← h2]; congr 2; omega
theorem ents_ps {Γ : List Asn} {v : Value} {L : List EA} (hm : entsA v L ∈ Γ) {x : EA} (hx : x ∈ L) {j : Nat} {p : Pst} (hp : x.v.ps[j]? = some p) : ∀ w, Hd Γ w → ∀ k v, (encP p)[k]? = some v → w.cell? ⟨x.b, 0 + j * 3 + k, none⟩ = some v := by
  intro w hh k v hk
  have h := entsφ.ps (hh _ hm) x hx
  have h1 := flat_get encP 3 (fun _ => rfl) x.v.ps j p hp k v hk
  have h2 := World.ownsRow.cells h (g := x.b) rfl _ _ h1
  rw [addr_add] at h2
  rw [← h2]; congr 2; omega
theorem row_read {w : World} {E s m c : Nat} {q : Option Addr} {xs : List Value} (h : w.ownsRow 0 E s (.slice q m c) m xs) (hl : xs.length = m * s) : (m = 0 ∧ xs = []) ∨ ∃ bx ox, q = some ⟨bx, ox, none⟩ ∧ ∀ j u, xs[j]? = some u → w.cell? ⟨bx, ox + j, none⟩ = some u := by
  rcases h.2 with ⟨_, e2⟩ | ⟨g, cap, cur, e, _⟩
  · left; subst e2; exact ⟨rfl, by simpa using hl⟩
  · right
    injection e with e1
    subst e1
    refine ⟨g, 0, rfl, fun j u hu => ?_⟩
    have h2 := World.ownsRow.cells h (g := g) rfl j u hu
    rw [addr_add] at h2
    rw [← h2]
theorem balD_snoc (c : ByteArray) (L : List Pst) (p : Pst) : balD c (L ++ [p]) = ((balD c L).1 + (if p.acc = c then p.u else 0), (balD c L).2 + (if p.acc = c then p.f else 0)) := by
  rw [balD_append]
  have e : balD c [p] = ((if p.acc = c then p.u else 0), (if p.acc = c then p.f else 0)) := by
    show balStep c (0, 0) p = _
    unfold balStep addS
    split <;> simp
  rw [e]
theorem flat_le : ∀ (l : List Ent), (∀ x ∈ l, x.ps.length ≤ 50) → (l.flatMap (·.ps)).length ≤ l.length * 50
  | [], _ => by simp
  | a :: r, h => by
    have h1 := flat_le r (fun x hx => h x (.tail _ hx))
    have h2 := h a (.head _)
    rw [List.flatMap_cons, List.length_append, List.length_cons]; omega
theorem bal_okS {P : PL} {c : ByteArray} {t : Int} (h : (balF P c t).2 = 0) : inU (balD c (postsAt P.es t)).1 ∧ inU (balD c (postsAt P.es t)).2 := by
  unfold balF at h
  split at h
  · cases h
  · split at h
    · cases h
    · split at h
      · rename_i h3; exact h3
      · cases h
/-- what the first entries, and the first postings of the next, say. -/
def pre (V : List Ent) (j : Nat) (r : List Pst) (k : Nat) : List Pst := (V.take j).flatMap (·.ps) ++ r.take k
theorem pre_zero (V : List Ent) (j : Nat) (r : List Pst) : pre V j r 0 = pre V j [] 0 := by unfold pre; simp
theorem pre_step {V : List Ent} {j k : Nat} {r : List Pst} {p : Pst} (hp : r[k]? = some p) : pre V j r (k + 1) = pre V j r k ++ [p] := by
  unfold pre; rw [List.take_add_one, hp, List.append_assoc]; rfl
theorem pre_next {V : List Ent} {j : Nat} {x : Ent} (hx : V[j]? = some x) : pre V (j + 1) [] 0 = pre V j x.ps x.ps.length := by
  unfold pre; rw [List.take_add_one, hx]; simp
theorem pre_bd {V : List Ent} (hV : ∀ x ∈ V, x.ps.length ≤ 50) (hf : ∀ x ∈ V, ∀ p ∈ x.ps, p.fits) (hl : V.length ≤ 1000) (c : ByteArray) (j : Nat) {r : List Pst} (hr : r.length ≤ 50) (hrf : ∀ p ∈ r, p.fits) (k : Nat) :
    (-1000000000000000000000000 ≤ (balD c (pre V j r k)).1 ∧ (balD c (pre V j r k)).1 ≤ 1000000000000000000000000) ∧ (-1000000000000000000000000 ≤ (balD c (pre V j r k)).2 ∧ (balD c (pre V j r k)).2 ≤ 1000000000000000000000000) := by
  have h1 := flat_le (V.take j) (fun x hx => hV x (List.mem_of_mem_take hx))
  have h2 : (V.take j).length ≤ 1000 := by rw [List.length_take]; omega
  have h3 : (pre V j r k).length ≤ 60000 := by unfold pre; rw [List.length_append, List.length_take]; omega
  have hfit : ∀ p ∈ pre V j r k, p.fits := fun p hp => by
    unfold pre at hp
    rcases List.mem_append.1 hp with hp | hp
    · obtain ⟨x, hx, hpx⟩ := List.mem_flatMap.1 hp
      exact hf x (List.mem_of_mem_take hx) p hpx
    · exact hrf p (List.mem_of_mem_take hp)
  have h4 := bal_fold (code := c) (pre V j r k) (0, 0) 0 hfit bdS_zero
  obtain ⟨h5, h6⟩ := h4
  unfold balD
  rw [Nat.zero_add] at h5 h6
  omega
end Go.Proofs.Ytheofhegdjjfgaa

namespace Go.Proofs.Ytheofhegdjjfgaa
open Go.RowKit

set_option maxHeartbeats 1000000 in
set_option maxRecDepth 100000 in
theorem LedgerTimes_P (p : Option (Nat × Nat)) (c : Nat) (l : List LO) (hlen : l.length ≤ 4611686018427387904) (hfit : ∀ x ∈ l, x.fits) (code : ByteArray) (hcode : code.size ≤ 4611686018427387904) (from_ mid to_ : Int)
    (w0 : World) (h : losφ p l w0) (hb : ∀ r, p = some r → r.1 < w0.heap.size) :
    PureC Try.prog 6 [sliceV p l.length c, .string code, .int .i64 from_, .int .i64 mid, .int .i64 to_] w0 (.bool true) := by
  refine c_enter [(0, sliceV p l.length c), (1, .string code), (2, .int .i64 from_), (3, .int .i64 mid), (4, .int .i64 to_)] [losA p l] noB Try.func6 rfl Try.ntmps6 ⟨rfl, rfl, rfl, rfl, rfl, trivial⟩ rfl (okC (los_ok h hb) okN) dis1 (mineC (by rfl) mineN) ?_
  intro a hS
  refine c_seq ?_
  refine c_region ?_
  refine L_op (s_e hS (e_assign rfl) rfl ?_); clear hS a; intro a hS
  refine L_nil ?_
  refine n_then ?_
  refine c_seq ?_
  refine c_region ?_
  refine L_op (s_callP hS .nil cf25 rfl (lfirst_P _) ?_); clear hS a; (try clear w); intro a w hS
  refine L_op (s_e hS (e_assign rfl) rfl ?_); clear hS a; intro a hS
  refine L_nil ?_
  refine n_then ?_
  refine c_seq ?_
  refine c_region ?_
  refine L_op (s_e hS (e_move rfl) rfl ?_); clear hS a; intro a hS
  refine L_op (s_callP hS (.cons rfl .nil) cf26 rfl (lFew_P p c l hlen hfit _ (hS.get (X := losA p l) (by repeat constructor)) (fun r hr => (hS.ok (losA p l) (by repeat constructor)).lt r.1 (.inl ⟨r.2, hr⟩))) ?_); clear hS a; (try clear w); intro a w hS
  refine L_op (s_e hS (e_assign rfl) rfl ?_); clear hS a; intro a hS
  refine L_nil ?_
  refine n_then ?_
  refine c_seq ?_
  refine c_seq ?_
  refine c_region ?_
  refine L_op (s_e hS (e_move rfl) rfl ?_); clear hS a; intro a hS
  refine L_op (s_e hS (e_not rfl) rfl ?_); clear hS a; intro a hS
  refine L_op (s_e hS (e_move rfl) rfl ?_); clear hS a; intro a hS
  replace hS := hS.is (t := 32) (c := false) rfl (rfl)
  refine L_go hS rfl rfl (s_e hS (e_move rfl) rfl ?_); clear hS a; intro a hS
  refine L_go hS rfl rfl (s_e hS (e_not rfl) rfl ?_); clear hS a; intro a hS
  first | (refine L_op (s_e hS (e_pick_t rfl rfl) rfl ?_); clear hS a; intro a hS) | (refine L_op (s_e hS (e_pick_f rfl rfl) rfl ?_); clear hS a; intro a hS)
  refine L_op (s_e hS (e_move rfl) rfl ?_); clear hS a; intro a hS
  refine L_merge 4 40 (.bool (decide (¬ fewLs l ∨ 300 < code.size))) hS ?_ ?_
  · intro hcM40
    (first | refine g_splitD (t := 36) hS rfl ?_ ?_ | refine g_split (t := 36) hS rfl ?_ ?_) <;> (clear hS; intro hg36 hS)
    ·
      refine L_skip_f hS rfl rfl rfl ?_; clear hS a; intro a hS
      refine L_skip_f hS rfl rfl rfl ?_; clear hS a; intro a hS
      refine L_skip_f hS rfl rfl rfl ?_; clear hS a; intro a hS
      first | (refine L_op (s_e hS (e_pick_t rfl rfl) rfl ?_); clear hS a; intro a hS) | (refine L_op (s_e hS (e_pick_f rfl rfl) rfl ?_); clear hS a; intro a hS)
      exact hcM40 _ _ (hS.ends 5 40 36 rfl (congrArg Value.bool (by exact (decide_eq_true (.inl (by simpa using hg36))).symm)) rfl rfl (by first | exact congrArg Value.bool (decide_eq_true hg36).symm | exact congrArg Value.bool hg36.symm | simp [hg36]) rfl)
    ·
      refine L_go hS rfl rfl (s_e hS (e_move rfl) rfl ?_); clear hS a; intro a hS
      refine L_go hS rfl rfl (s_e hS (e_lenS rfl rfl ty_u9) rfl ?_); clear hS a; intro a hS
      refine L_go hS rfl rfl (s_e hS (e_bin rfl rfl rfl) rfl ?_); clear hS a; intro a hS
      first | (refine L_op (s_e hS (e_pick_t rfl rfl) rfl ?_); clear hS a; intro a hS) | (refine L_op (s_e hS (e_pick_f rfl rfl) rfl ?_); clear hS a; intro a hS)
      exact hcM40 _ _ (hS.ends 5 40 36 rfl (congrArg Value.bool (by rw [decide_eq_decide]; exact ⟨fun e => .inr (by omega), fun e => by have e2 := e.resolve_left (by simpa using hg36); omega⟩)) rfl rfl (by first | exact congrArg Value.bool (decide_eq_false hg36).symm | exact congrArg Value.bool hg36.symm | simp [hg36]) rfl)
  · clear hS a; (try clear w); intro a w hS
    simp only [List.drop_succ_cons, List.drop_zero]
    refine L_op (s_e hS (e_move rfl) rfl ?_); clear hS a; intro a hS
    refine L_merge 3 44 (.bool (decide ((¬ fewLs l ∨ 300 < code.size) ∨ from_ < 0))) hS ?_ ?_
    · intro hcM44
      (first | refine g_splitD (t := 41) hS rfl ?_ ?_ | refine g_split (t := 41) hS rfl ?_ ?_) <;> (clear hS; intro hg41 hS)
      ·
        refine L_skip_f hS rfl rfl rfl ?_; clear hS a; intro a hS
        refine L_skip_f hS rfl rfl rfl ?_; clear hS a; intro a hS
        first | (refine L_op (s_e hS (e_pick_t rfl rfl) rfl ?_); clear hS a; intro a hS) | (refine L_op (s_e hS (e_pick_f rfl rfl) rfl ?_); clear hS a; intro a hS)
        exact hcM44 _ _ (hS.ends 4 44 41 rfl (congrArg Value.bool (by exact (decide_eq_true (.inl hg41)).symm)) rfl rfl (by first | exact congrArg Value.bool (decide_eq_true hg41).symm | exact congrArg Value.bool hg41.symm | simp [hg41]) rfl)
      ·
        refine L_go hS rfl rfl (s_e hS (e_move rfl) rfl ?_); clear hS a; intro a hS
        refine L_go hS rfl rfl (s_e hS (e_bin rfl rfl rfl) rfl ?_); clear hS a; intro a hS
        first | (refine L_op (s_e hS (e_pick_t rfl rfl) rfl ?_); clear hS a; intro a hS) | (refine L_op (s_e hS (e_pick_f rfl rfl) rfl ?_); clear hS a; intro a hS)
        exact hcM44 _ _ (hS.ends 4 44 41 rfl (congrArg Value.bool (by rw [decide_eq_decide]; exact ⟨.inr, fun e => e.resolve_left hg41⟩)) rfl rfl (by first | exact congrArg Value.bool (decide_eq_false hg41).symm | exact congrArg Value.bool hg41.symm | simp [hg41]) rfl)
    · clear hS a; (try clear w); intro a w hS
      simp only [List.drop_succ_cons, List.drop_zero]
      refine L_op (s_e hS (e_move rfl) rfl ?_); clear hS a; intro a hS
      refine L_merge 4 49 (.bool (decide (((¬ fewLs l ∨ 300 < code.size) ∨ from_ < 0) ∨ mid < from_))) hS ?_ ?_
      · intro hcM49
        (first | refine g_splitD (t := 45) hS rfl ?_ ?_ | refine g_split (t := 45) hS rfl ?_ ?_) <;> (clear hS; intro hg45 hS)
        ·
          refine L_skip_f hS rfl rfl rfl ?_; clear hS a; intro a hS
          refine L_skip_f hS rfl rfl rfl ?_; clear hS a; intro a hS
          refine L_skip_f hS rfl rfl rfl ?_; clear hS a; intro a hS
          first | (refine L_op (s_e hS (e_pick_t rfl rfl) rfl ?_); clear hS a; intro a hS) | (refine L_op (s_e hS (e_pick_f rfl rfl) rfl ?_); clear hS a; intro a hS)
          exact hcM49 _ _ (hS.ends 5 49 45 rfl (congrArg Value.bool (by exact (decide_eq_true (.inl hg45)).symm)) rfl rfl (by first | exact congrArg Value.bool (decide_eq_true hg45).symm | exact congrArg Value.bool hg45.symm | simp [hg45]) rfl)
        ·
          refine L_go hS rfl rfl (s_e hS (e_move rfl) rfl ?_); clear hS a; intro a hS
          refine L_go hS rfl rfl (s_e hS (e_move rfl) rfl ?_); clear hS a; intro a hS
          refine L_go hS rfl rfl (s_e hS (e_bin rfl rfl rfl) rfl ?_); clear hS a; intro a hS
          first | (refine L_op (s_e hS (e_pick_t rfl rfl) rfl ?_); clear hS a; intro a hS) | (refine L_op (s_e hS (e_pick_f rfl rfl) rfl ?_); clear hS a; intro a hS)
          exact hcM49 _ _ (hS.ends 5 49 45 rfl (congrArg Value.bool (by rw [decide_eq_decide]; exact ⟨.inr, fun e => e.resolve_left hg45⟩)) rfl rfl (by first | exact congrArg Value.bool (decide_eq_false hg45).symm | exact congrArg Value.bool hg45.symm | simp [hg45]) rfl)
      · clear hS a; (try clear w); intro a w hS
        simp only [List.drop_succ_cons, List.drop_zero]
        refine L_op (s_e hS (e_move rfl) rfl ?_); clear hS a; intro a hS
        refine L_merge 4 54 (.bool (decide ((((¬ fewLs l ∨ 300 < code.size) ∨ from_ < 0) ∨ mid < from_) ∨ to_ < mid))) hS ?_ ?_
        · intro hcM54
          (first | refine g_splitD (t := 50) hS rfl ?_ ?_ | refine g_split (t := 50) hS rfl ?_ ?_) <;> (clear hS; intro hg50 hS)
          ·
            refine L_skip_f hS rfl rfl rfl ?_; clear hS a; intro a hS
            refine L_skip_f hS rfl rfl rfl ?_; clear hS a; intro a hS
            refine L_skip_f hS rfl rfl rfl ?_; clear hS a; intro a hS
            first | (refine L_op (s_e hS (e_pick_t rfl rfl) rfl ?_); clear hS a; intro a hS) | (refine L_op (s_e hS (e_pick_f rfl rfl) rfl ?_); clear hS a; intro a hS)
            exact hcM54 _ _ (hS.ends 5 54 50 rfl (congrArg Value.bool (by exact (decide_eq_true (.inl hg50)).symm)) rfl rfl (by first | exact congrArg Value.bool (decide_eq_true hg50).symm | exact congrArg Value.bool hg50.symm | simp [hg50]) rfl)
          ·
            refine L_go hS rfl rfl (s_e hS (e_move rfl) rfl ?_); clear hS a; intro a hS
            refine L_go hS rfl rfl (s_e hS (e_move rfl) rfl ?_); clear hS a; intro a hS
            refine L_go hS rfl rfl (s_e hS (e_bin rfl rfl rfl) rfl ?_); clear hS a; intro a hS
            first | (refine L_op (s_e hS (e_pick_t rfl rfl) rfl ?_); clear hS a; intro a hS) | (refine L_op (s_e hS (e_pick_f rfl rfl) rfl ?_); clear hS a; intro a hS)
            exact hcM54 _ _ (hS.ends 5 54 50 rfl (congrArg Value.bool (by rw [decide_eq_decide]; exact ⟨.inr, fun e => e.resolve_left hg50⟩)) rfl rfl (by first | exact congrArg Value.bool (decide_eq_false hg50).symm | exact congrArg Value.bool hg50.symm | simp [hg50]) rfl)
        · clear hS a; (try clear w); intro a w hS
          simp only [List.drop_succ_cons, List.drop_zero]
          refine L_op (s_e hS (e_move rfl) rfl ?_); clear hS a; intro a hS
          refine L_merge 3 58 (.bool (decide (((((¬ fewLs l ∨ 300 < code.size) ∨ from_ < 0) ∨ mid < from_) ∨ to_ < mid) ∨ 1099511627776 < to_))) hS ?_ ?_
          · intro hcM58
            (first | refine g_splitD (t := 55) hS rfl ?_ ?_ | refine g_split (t := 55) hS rfl ?_ ?_) <;> (clear hS; intro hg55 hS)
            ·
              refine L_skip_f hS rfl rfl rfl ?_; clear hS a; intro a hS
              refine L_skip_f hS rfl rfl rfl ?_; clear hS a; intro a hS
              first | (refine L_op (s_e hS (e_pick_t rfl rfl) rfl ?_); clear hS a; intro a hS) | (refine L_op (s_e hS (e_pick_f rfl rfl) rfl ?_); clear hS a; intro a hS)
              exact hcM58 _ _ (hS.ends 4 58 55 rfl (congrArg Value.bool (by exact (decide_eq_true (.inl hg55)).symm)) rfl rfl (by first | exact congrArg Value.bool (decide_eq_true hg55).symm | exact congrArg Value.bool hg55.symm | simp [hg55]) rfl)
            ·
              refine L_go hS rfl rfl (s_e hS (e_move rfl) rfl ?_); clear hS a; intro a hS
              refine L_go hS rfl rfl (s_e hS (e_bin rfl rfl rfl) rfl ?_); clear hS a; intro a hS
              first | (refine L_op (s_e hS (e_pick_t rfl rfl) rfl ?_); clear hS a; intro a hS) | (refine L_op (s_e hS (e_pick_f rfl rfl) rfl ?_); clear hS a; intro a hS)
              exact hcM58 _ _ (hS.ends 4 58 55 rfl (congrArg Value.bool (by rw [decide_eq_decide]; exact ⟨.inr, fun e => e.resolve_left hg55⟩)) rfl rfl (by first | exact congrArg Value.bool (decide_eq_false hg55).symm | exact congrArg Value.bool hg55.symm | simp [hg55]) rfl)
          · clear hS a; (try clear w); intro a w hS
            simp only [List.drop_succ_cons, List.drop_zero]
            refine L_nil ?_
            refine n_then ?_
            first | refine c_ifD hS rfl (fun hc58 => ?_) (fun hc58 => ?_) | refine c_if hS rfl (fun hc58 => ?_) (fun hc58 => ?_)
            ·
              refine c_seq ?_
              refine c_region ?_
              refine L_op (s_e hS (e_move rfl) rfl ?_); clear hS a; intro a hS
              refine L_op (s_e hS (e_assign rfl) rfl ?_); clear hS a; intro a hS
              refine L_nil ?_
              refine n_then ?_
              refine wp_ret ?_
              refine r_then ?_
              refine c_ret1 hS Try.results6 (.tmp rfl) ?_
              exact ⟨rfl, hS.chg⟩
            ·
              have hsm : fewLs l := Classical.byContradiction fun e => hc58 (.inl (.inl (.inl (.inl (.inl e)))))
              have hf0 : ¬ from_ < 0 := fun e => hc58 (.inl (.inl (.inl (.inr e))))
              have hfm : ¬ mid < from_ := fun e => hc58 (.inl (.inl (.inr e)))
              have hmt : ¬ to_ < mid := fun e => hc58 (.inl (.inr e))
              have htm : ¬ 1099511627776 < to_ := fun e => hc58 (.inr e)
              have hll := hsm.1
              refine wp_skip ?_
              refine n_then ?_
              refine c_seq ?_
              refine c_region ?_
              refine L_op (s_e hS (e_move rfl) rfl ?_); clear hS a; intro a hS
              refine L_op (s_callN hS (.cons rfl .nil) cf27 rfl (lMade_P p c l hll hfit _ (hS.get (X := losA p l) (by repeat constructor)) (fun r hr => (hS.ok (losA p l) (by repeat constructor)).lt r.1 (.inl ⟨r.2, hr⟩))) ?_); clear hS a; (try clear w); intro x61 a w hS
              obtain ⟨⟨B, s⟩, hpl0⟩ := x61
              simp only at hS hpl0
              have hwf := wf_made hfit l.length (Nat.le_refl _)
              rw [List.take_length, ← hpl0] at hwf
              have hes : s.es.length ≤ 60 := by have h1 := hwf.le; simp [pl] at h1; omega
              have hel : (pl s).es.length = s.es.length := by simp [pl]
              have hids : idsP (pl s).es := by rw [hpl0]; exact (idN_made l).ids
              have hps : ∀ x ∈ s.es, x.v.ps.length ≤ 50 := fun x hx => hwf.ps x.v (List.mem_map.2 ⟨x, hx, rfl⟩)
              refine L_op (s_e hS (e_assign rfl) rfl ?_); clear hS a; intro a hS
              refine L_nil ?_
              refine n_then ?_
              refine c_seq ?_
              refine c_seq ?_
              refine c_region ?_
              refine L_op (s_e hS (e_move rfl) rfl ?_); clear hS a; intro a hS
              refine L_op (s_e hS (e_nil rfl ty_u52) rfl ?_); clear hS a; intro a hS
              refine L_nil ?_
              refine n_then ?_
              replace hS := hS.is (t := 63) (c := false) rfl (rfl)
              refine c_if_f hS rfl ?_
              refine wp_skip ?_
              refine n_then ?_
              refine c_seq ?_
              refine c_region ?_
              refine L_op (s_e hS (e_move rfl) rfl ?_); clear hS a; intro a hS
              refine L_op (s_e hS (e_move rfl) rfl ?_); clear hS a; intro a hS
              refine L_op (s_e hS (e_move rfl) rfl ?_); clear hS a; intro a hS
              refine L_op (s_callN hS (.cons rfl (.cons rfl (.cons rfl .nil))) cf28 rfl (lEntries_P B s from_ to_ hids (by omega) hps _ (hS.get (X := ledA B s true) (by repeat constructor))) ?_); clear hS a; (try clear w); intro x67 a w hS
              obtain ⟨⟨v1, L1⟩, hE1⟩ := x67
              simp only at hS hE1
              obtain ⟨q1, c1, rfl⟩ := own_slice (hS.get (X := entsA v1 L1) (by repeat constructor)).row
              refine L_op (s_e hS (e_assign rfl) rfl ?_); clear hS a; intro a hS
              refine L_nil ?_
              refine n_then ?_
              refine c_seq ?_
              refine c_region ?_
              refine L_op (s_e hS (e_move rfl) rfl ?_); clear hS a; intro a hS
              refine L_op (s_e hS (e_move rfl) rfl ?_); clear hS a; intro a hS
              refine L_op (s_e hS (e_move rfl) rfl ?_); clear hS a; intro a hS
              refine L_op (s_callN hS (.cons rfl (.cons rfl (.cons rfl .nil))) cf28 rfl (lEntries_P B s from_ mid hids (by omega) hps _ (hS.get (X := ledA B s true) (by repeat constructor))) ?_); clear hS a; (try clear w); intro x71 a w hS
              obtain ⟨⟨v2, L2⟩, hE2⟩ := x71
              simp only at hS hE2
              replace hS := hS.swap (X := entsA v2 L2) (Y := ownA 58 4 v2 L2.length (L2.flatMap encE)) (by repeat constructor) (ok_own (hS.get (X := entsA v2 L2) (by repeat constructor)).row) (fun b hb => .inl hb) rfl
              refine L_op (s_e hS (e_move rfl) rfl ?_); clear hS a; intro a hS
              refine L_op (s_e hS (e_move rfl) rfl ?_); clear hS a; intro a hS
              refine L_op (s_e hS (e_move rfl) rfl ?_); clear hS a; intro a hS
              refine L_op (s_callN hS (.cons rfl (.cons rfl (.cons rfl .nil))) cf28 rfl (lEntries_P B s mid to_ hids (by omega) hps _ (hS.get (X := ledA B s true) (by repeat constructor))) ?_); clear hS a; (try clear w); intro x75 a w hS
              obtain ⟨⟨v3, L3⟩, hE3⟩ := x75
              simp only at hS hE3
              obtain ⟨q3, c3, rfl⟩ := own_slice (hS.get (X := entsA v3 L3) (by repeat constructor)).row
              have hl2 := hE2.len
              have hl3 := hE3.len
              rw [List.length_map] at hl2 hl3
              have hjn := (hE2.join hE3 (by omega) (by omega)).uniq hE1
              have hlm : (L2 ++ L3).length = L1.length := by have h1 := congrArg List.length hjn; simpa using h1
              have hlm2 : L2.length + L3.length = L1.length := by rw [← hlm, List.length_append]
              have hl1 : L1.length ≤ 60 := by have h1 := hE1.len; rw [List.length_map] at h1; omega
              refine L_op (s_appendL hS rfl rfl ty_sl54 ty_sz58 ty_by58 ty_z58 rfl rfl rfl (by repeat constructor) (ys := L3.flatMap encE) (lenE L3) (row_read (hS.get (X := entsA (.slice q3 L3.length c3) L3) (by repeat constructor)).row (lenE L3)) (oneE L3) (by omega) (fun _ => (by repeat constructor)) ?_); clear hS a; (try clear w); intro v76 a w hv76 hS
              rw [← List.flatMap_append, hlm2] at hS
              obtain ⟨q15, c15, rfl⟩ := own_slice (hS.get (X := ownA 58 4 v76 L1.length ((L2 ++ L3).flatMap encE)) (by repeat constructor))
              generalize hM : L2 ++ L3 = M at hS hlm
              have hMv : M.map (·.v) = L1.map (·.v) := by rw [← hM, List.map_append]; exact hjn
              refine L_op (s_e hS (e_assign rfl) rfl ?_); clear hS a; intro a hS
              refine L_nil ?_
              refine n_then ?_
              refine c_seq ?_
              refine c_seq ?_
              refine c_region ?_
              refine L_op (s_e hS (e_move rfl) rfl ?_); clear hS a; intro a hS
              refine L_op (s_e hS (e_len rfl rfl ty_sl54) rfl ?_); clear hS a; intro a hS
              refine L_op (s_e hS (e_move rfl) rfl ?_); clear hS a; intro a hS
              refine L_op (s_e hS (e_len rfl rfl ty_sl54) rfl ?_); clear hS a; intro a hS
              refine L_op (s_e hS (e_bin rfl rfl rfl) rfl ?_); clear hS a; intro a hS
              refine L_nil ?_
              refine n_then ?_
              replace hS := hS.is (t := 81) (c := false) rfl ((by simp))
              refine c_if_f hS rfl ?_
              refine wp_skip ?_
              refine n_then ?_
              refine c_seq ?_
              refine c_seq ?_
              refine c_region ?_
              refine L_op (s_e hS (e_assign rfl) rfl ?_); clear hS a; intro a hS
              refine L_nil ?_
              refine n_then ?_
              refine wp_block ?_
              skip
              refine c_loop (γ := Nat) (fun i a w => St 231 noB w0 a w [(16, .int .i64 (i : Int)), (15, .slice q15 L1.length c15), (14, .slice q1 L1.length c1), (13, .pointer (some ⟨B.lb, 0, none⟩)), (1, .string code), (3, .int .i64 mid), (4, .int .i64 to_)] [ownA 58 4 (.slice q15 L1.length c15) L1.length (M.flatMap encE), entsA (.slice q1 L1.length c1) L1, ledA B s true] ∧ i ≤ L1.length) (fun i => L1.length - i) 0 ⟨(hS.slots (by repeat (first | exact trivial | refine ⟨rfl, ?_⟩))).pick (by repeat (first | exact Pick.nil | (refine Pick.cons (by repeat (first | exact Rem.head | apply Rem.tail)) ?_))), Nat.zero_le _⟩ ?_
              clear hS a; (try clear w); intro i a w hI
              obtain ⟨hS, hi⟩ := hI
              refine c_seq ?_
              refine c_seq ?_
              refine c_region ?_
              refine L_op (s_e hS (e_move rfl) rfl ?_); clear hS a; intro a hS
              refine L_op (s_e hS (e_move rfl) rfl ?_); clear hS a; intro a hS
              refine L_op (s_e hS (e_len rfl rfl ty_sl54) rfl ?_); clear hS a; intro a hS
              refine L_op (s_e hS (e_bin rfl rfl rfl) rfl ?_); clear hS a; intro a hS
              refine L_nil ?_
              refine n_then ?_
              first | refine c_ifD hS rfl (fun hc85 => ?_) (fun hc85 => ?_) | refine c_if hS rfl (fun hc85 => ?_) (fun hc85 => ?_)
              ·
                have hil : i < L1.length := by omega
                obtain ⟨x, hx⟩ : ∃ x, L1[i]? = some x := ⟨L1[i], List.getElem?_eq_getElem hil⟩
                obtain ⟨y, hy⟩ : ∃ y, M[i]? = some y := ⟨M[i]'(by omega), List.getElem?_eq_getElem (by omega)⟩
                have hxy : y.v = x.v := by
                  have h1 := congrArg (fun l : List Ent => l[i]?) hMv
                  simp only [List.getElem?_map, hx, hy, Option.map_some] at h1
                  injection h1
                obtain ⟨yv, yb, yc⟩ := y
                simp only at hxy
                subst hxy
                obtain ⟨g1, rfl⟩ : ∃ g, q1 = some ⟨g, 0, none⟩ := own_at (hS.get (X := entsA (.slice q1 L1.length c1) L1) (by repeat constructor)).row (by omega)
                obtain ⟨g15, rfl⟩ : ∃ g, q15 = some ⟨g, 0, none⟩ := own_at (hS.get (X := ownA 58 4 (.slice q15 L1.length c15) L1.length (M.flatMap encE)) (by repeat constructor)) (by omega)
                refine wp_skip ?_
                refine n_then ?_
                refine c_seq ?_
                refine wp_block ?_
                refine c_seq ?_
                refine c_drawS [] (by kernel_rfl) hS (sub_cons (X := entsA (.slice (some ⟨g1, 0, none⟩) L1.length c1) L1) (by repeat constructor) (sub_cons (X := ownA 58 4 (.slice (some ⟨g15, 0, none⟩) L1.length c15) L1.length (M.flatMap encE)) (by repeat constructor) sub_nil)) ?_; clear hS; (try clear w); intro w hS
                simp only [List.length_cons, List.length_nil, Nat.zero_add, Nat.reduceAdd, List.replicate]
                refine Z_take0 (i := 0) hS rfl want_none (e_move rfl) (listed' := [true, false, false, false, false, false, false, false, false, false, false, false, false, false, false, false, false, false, false, false, false, false, false, false, false, false, false, false, false, false, false, false, false, false, false, false, false, false, false, false, false, false, false, false, false, false, false, false, false, false, false, false, false, false, false, false, false]) rfl (by kernel_rfl) (by kernel_rfl) (by kernel_rfl) (fun _ _ _ h => h) rfl ?_; clear hS a; intro a hS
                refine Z_take0 (i := 1) hS rfl want_none (e_move rfl) (listed' := [true, true, false, false, false, false, false, false, false, false, false, false, false, false, false, false, false, false, false, false, false, false, false, false, false, false, false, false, false, false, false, false, false, false, false, false, false, false, false, false, false, false, false, false, false, false, false, false, false, false, false, false, false, false, false, false, false]) rfl (by kernel_rfl) (by kernel_rfl) (by kernel_rfl) (fun _ _ _ h => h) rfl ?_; clear hS a; intro a hS
                refine Z_take0 (i := 2) hS rfl want_none (e_ixN rfl rfl ty_sl54 ty_sz58 (by omega)) (listed' := [true, true, true, false, false, false, false, false, false, false, false, false, false, false, false, false, false, false, false, false, false, false, false, false, false, false, false, false, false, false, false, false, false, false, false, false, false, false, false, false, false, false, false, false, false, false, false, false, false, false, false, false, false, false, false, false, false]) rfl (by kernel_rfl) (by kernel_rfl) (by kernel_rfl) (fun _ _ _ h => h) rfl ?_; clear hS a; intro a hS
                first | (refine Z_take0 (i := 3) hS rfl want_none (e_fa0 rfl ty_fo58_0) (listed' := [true, true, true, true, false, false, false, false, false, false, false, false, false, false, false, false, false, false, false, false, false, false, false, false, false, false, false, false, false, false, false, false, false, false, false, false, false, false, false, false, false, false, false, false, false, false, false, false, false, false, false, false, false, false, false, false, false]) rfl (by kernel_rfl) (by kernel_rfl) (by kernel_rfl) (fun _ _ _ h => h) rfl ?_; clear hS a; intro a hS) | (refine Z_take0 (i := 3) hS rfl want_none (e_faK rfl ty_fo58_0) (listed' := [true, true, true, true, false, false, false, false, false, false, false, false, false, false, false, false, false, false, false, false, false, false, false, false, false, false, false, false, false, false, false, false, false, false, false, false, false, false, false, false, false, false, false, false, false, false, false, false, false, false, false, false, false, false, false, false, false]) rfl (by kernel_rfl) (by kernel_rfl) (by kernel_rfl) (fun _ _ _ h => h) rfl ?_; clear hS a; intro a hS)
                refine Z_take (i := 4) hS rfl want_none (e_loadC rfl ty_sc3 (fun w hh => ents_get (by repeat constructor) hx w hh 0 (.int .i64 x.v.id) rfl)) (listed' := [true, true, true, true, true, false, false, false, false, false, false, false, false, false, false, false, false, false, false, false, false, false, false, false, false, false, false, false, false, false, false, false, false, false, false, false, false, false, false, false, false, false, false, false, false, false, false, false, false, false, false, false, false, false, false, false, false]) rfl (by kernel_rfl) (by kernel_rfl) (by kernel_rfl) (by kernel_rfl) (by kernel_rfl) (sub_cons (by repeat constructor) (sub_cons (by repeat constructor) sub_nil)) (fun _ _ _ h => h) rfl ?_; clear hS a; intro a hS
                refine Z_take0 (i := 5) hS rfl want_none (e_move rfl) (listed' := [true, true, true, true, true, true, false, false, false, false, false, false, false, false, false, false, false, false, false, false, false, false, false, false, false, false, false, false, false, false, false, false, false, false, false, false, false, false, false, false, false, false, false, false, false, false, false, false, false, false, false, false, false, false, false, false, false]) rfl (by kernel_rfl) (by kernel_rfl) (by kernel_rfl) (fun _ _ _ h => h) rfl ?_; clear hS a; intro a hS
                refine Z_take0 (i := 6) hS rfl want_none (e_move rfl) (listed' := [true, true, true, true, true, true, true, false, false, false, false, false, false, false, false, false, false, false, false, false, false, false, false, false, false, false, false, false, false, false, false, false, false, false, false, false, false, false, false, false, false, false, false, false, false, false, false, false, false, false, false, false, false, false, false, false, false]) rfl (by kernel_rfl) (by kernel_rfl) (by kernel_rfl) (fun _ _ _ h => h) rfl ?_; clear hS a; intro a hS
                refine Z_take0 (i := 7) hS rfl want_none (e_ixN rfl rfl ty_sl54 ty_sz58 (by omega)) (listed' := [true, true, true, true, true, true, true, true, false, false, false, false, false, false, false, false, false, false, false, false, false, false, false, false, false, false, false, false, false, false, false, false, false, false, false, false, false, false, false, false, false, false, false, false, false, false, false, false, false, false, false, false, false, false, false, false, false]) rfl (by kernel_rfl) (by kernel_rfl) (by kernel_rfl) (fun _ _ _ h => h) rfl ?_; clear hS a; intro a hS
                first | (refine Z_take0 (i := 8) hS rfl want_none (e_fa0 rfl ty_fo58_0) (listed' := [true, true, true, true, true, true, true, true, true, false, false, false, false, false, false, false, false, false, false, false, false, false, false, false, false, false, false, false, false, false, false, false, false, false, false, false, false, false, false, false, false, false, false, false, false, false, false, false, false, false, false, false, false, false, false, false, false]) rfl (by kernel_rfl) (by kernel_rfl) (by kernel_rfl) (fun _ _ _ h => h) rfl ?_; clear hS a; intro a hS) | (refine Z_take0 (i := 8) hS rfl want_none (e_faK rfl ty_fo58_0) (listed' := [true, true, true, true, true, true, true, true, true, false, false, false, false, false, false, false, false, false, false, false, false, false, false, false, false, false, false, false, false, false, false, false, false, false, false, false, false, false, false, false, false, false, false, false, false, false, false, false, false, false, false, false, false, false, false, false, false]) rfl (by kernel_rfl) (by kernel_rfl) (by kernel_rfl) (fun _ _ _ h => h) rfl ?_; clear hS a; intro a hS)
                refine Z_take (i := 9) hS rfl want_none (e_loadC rfl ty_sc3 (fun w hh => own_getL (enc := encE) (s := 4) (fun _ => rfl) (by repeat constructor) hy w hh 0 (.int .i64 x.v.id) rfl)) (listed' := [true, true, true, true, true, true, true, true, true, true, false, false, false, false, false, false, false, false, false, false, false, false, false, false, false, false, false, false, false, false, false, false, false, false, false, false, false, false, false, false, false, false, false, false, false, false, false, false, false, false, false, false, false, false, false, false, false]) rfl (by kernel_rfl) (by kernel_rfl) (by kernel_rfl) (by kernel_rfl) (by kernel_rfl) (sub_cons (by repeat constructor) (sub_cons (by repeat constructor) sub_nil)) (fun _ _ _ h => h) rfl ?_; clear hS a; intro a hS
                refine Z_take0 (i := 10) hS rfl want_none (e_bin rfl rfl rfl) (listed' := [true, true, true, true, true, true, true, true, true, true, true, false, false, false, false, false, false, false, false, false, false, false, false, false, false, false, false, false, false, false, false, false, false, false, false, false, false, false, false, false, false, false, false, false, false, false, false, false, false, false, false, false, false, false, false, false, false]) rfl (by kernel_rfl) (by kernel_rfl) (by kernel_rfl) (fun _ _ _ h => h) rfl ?_; clear hS a; intro a hS
                refine Z_take0 (i := 11) hS rfl want_none (e_move rfl) (listed' := [true, true, true, true, true, true, true, true, true, true, true, true, false, false, false, false, false, false, false, false, false, false, false, false, false, false, false, false, false, false, false, false, false, false, false, false, false, false, false, false, false, false, false, false, false, false, false, false, false, false, false, false, false, false, false, false, false]) rfl (by kernel_rfl) (by kernel_rfl) (by kernel_rfl) (fun _ _ _ h => h) rfl ?_; clear hS a; intro a hS
                replace hS := hS.is (t := 99) (c := false) rfl ((by simp))
                refine Z_take0 (i := 12) hS rfl (want_go rfl rfl) (e_move rfl) (listed' := [true, true, true, true, true, true, true, true, true, true, true, true, true, false, false, false, false, false, false, false, false, false, false, false, false, false, false, false, false, false, false, false, false, false, false, false, false, false, false, false, false, false, false, false, false, false, false, false, false, false, false, false, false, false, false, false, false]) rfl (by kernel_rfl) (by kernel_rfl) (by kernel_rfl) (fun _ _ _ h => h) rfl ?_; clear hS a; intro a hS
                refine Z_take0 (i := 13) hS rfl (want_go rfl rfl) (e_bin rfl rfl rfl) (listed' := [true, true, true, true, true, true, true, true, true, true, true, true, true, true, false, false, false, false, false, false, false, false, false, false, false, false, false, false, false, false, false, false, false, false, false, false, false, false, false, false, false, false, false, false, false, false, false, false, false, false, false, false, false, false, false, false, false]) rfl (by kernel_rfl) (by kernel_rfl) (by kernel_rfl) (fun _ _ _ h => h) rfl ?_; clear hS a; intro a hS
                refine Z_take0 (i := 14) hS rfl (want_go rfl rfl) (e_move rfl) (listed' := [true, true, true, true, true, true, true, true, true, true, true, true, true, true, true, false, false, false, false, false, false, false, false, false, false, false, false, false, false, false, false, false, false, false, false, false, false, false, false, false, false, false, false, false, false, false, false, false, false, false, false, false, false, false, false, false, false]) rfl (by kernel_rfl) (by kernel_rfl) (by kernel_rfl) (fun _ _ _ h => h) rfl ?_; clear hS a; intro a hS
                refine Z_merge 1 [true, true, true, true, true, true, true, true, true, true, true, true, true, true, true, true, true, true, true, true, true, true, true, true, true, true, true, true, true, true, true, true, true, true, true, true, true, true, true, true, true, true, true, true, true, true, true, true, true, true, true, true, true, true, true, true, false] 143 (.bool (false)) hS ?_ ?_
                · intro hcM143
                  (first | refine g_splitD (t := 102) hS rfl ?_ ?_ | refine g_split (t := 102) hS rfl ?_ ?_) <;> (clear hS; intro hg102 hS)
                  ·
                    have hi0 : 0 < i := by omega
                    obtain ⟨z, hz⟩ : ∃ z, L1[i - 1]? = some z := ⟨L1[i - 1]'(by omega), List.getElem?_eq_getElem (by omega)⟩
                    have hlt : ltV z.v x.v := by
                      have h1 := List.pairwise_iff_getElem.1 hE1.srt (i - 1) i (by rw [List.length_map]; omega) (by rw [List.length_map]; omega) (by omega)
                      simp only [List.getElem_map] at h1
                      rw [(List.getElem?_eq_some_iff.1 hz).2, (List.getElem?_eq_some_iff.1 hx).2] at h1
                      exact h1
                    unfold ltV at hlt
                    refine Z_take0 (i := 15) hS rfl (want_go rfl rfl) (e_move rfl) (listed' := [true, true, true, true, true, true, true, true, true, true, true, true, true, true, true, true, false, false, false, false, false, false, false, false, false, false, false, false, false, false, false, false, false, false, false, false, false, false, false, false, false, false, false, false, false, false, false, false, false, false, false, false, false, false, false, false, false]) rfl (by kernel_rfl) (by kernel_rfl) (by kernel_rfl) (fun _ _ _ h => h) rfl ?_; clear hS a; intro a hS
                    refine Z_take0 (i := 16) hS rfl (want_go rfl rfl) (e_move rfl) (listed' := [true, true, true, true, true, true, true, true, true, true, true, true, true, true, true, true, true, false, false, false, false, false, false, false, false, false, false, false, false, false, false, false, false, false, false, false, false, false, false, false, false, false, false, false, false, false, false, false, false, false, false, false, false, false, false, false, false]) rfl (by kernel_rfl) (by kernel_rfl) (by kernel_rfl) (fun _ _ _ h => h) rfl ?_; clear hS a; intro a hS
                    first | (refine Z_take0 (i := 17) hS rfl (want_go rfl rfl) (e_binN rfl rfl rfl (by omega)) (listed' := [true, true, true, true, true, true, true, true, true, true, true, true, true, true, true, true, true, true, false, false, false, false, false, false, false, false, false, false, false, false, false, false, false, false, false, false, false, false, false, false, false, false, false, false, false, false, false, false, false, false, false, false, false, false, false, false, false]) rfl (by kernel_rfl) (by kernel_rfl) (by kernel_rfl) (fun _ _ _ h => h) rfl ?_; clear hS a; intro a hS) | (refine Z_take0 (i := 17) hS rfl (want_go rfl rfl) (e_bin rfl rfl rfl) (listed' := [true, true, true, true, true, true, true, true, true, true, true, true, true, true, true, true, true, true, false, false, false, false, false, false, false, false, false, false, false, false, false, false, false, false, false, false, false, false, false, false, false, false, false, false, false, false, false, false, false, false, false, false, false, false, false, false, false]) rfl (by kernel_rfl) (by kernel_rfl) (by kernel_rfl) (fun _ _ _ h => h) rfl ?_; clear hS a; intro a hS)
                    rw [show (i : Int) - 1 = ((i - 1 : Nat) : Int) from by omega] at hS
                    refine Z_take0 (i := 18) hS rfl (want_go rfl rfl) (e_ixN rfl rfl ty_sl54 ty_sz58 (by omega)) (listed' := [true, true, true, true, true, true, true, true, true, true, true, true, true, true, true, true, true, true, true, false, false, false, false, false, false, false, false, false, false, false, false, false, false, false, false, false, false, false, false, false, false, false, false, false, false, false, false, false, false, false, false, false, false, false, false, false, false]) rfl (by kernel_rfl) (by kernel_rfl) (by kernel_rfl) (fun _ _ _ h => h) rfl ?_; clear hS a; intro a hS
                    first | (refine Z_take0 (i := 19) hS rfl (want_go rfl rfl) (e_fa0 rfl ty_fo58_1) (listed' := [true, true, true, true, true, true, true, true, true, true, true, true, true, true, true, true, true, true, true, true, false, false, false, false, false, false, false, false, false, false, false, false, false, false, false, false, false, false, false, false, false, false, false, false, false, false, false, false, false, false, false, false, false, false, false, false, false]) rfl (by kernel_rfl) (by kernel_rfl) (by kernel_rfl) (fun _ _ _ h => h) rfl ?_; clear hS a; intro a hS) | (refine Z_take0 (i := 19) hS rfl (want_go rfl rfl) (e_faK rfl ty_fo58_1) (listed' := [true, true, true, true, true, true, true, true, true, true, true, true, true, true, true, true, true, true, true, true, false, false, false, false, false, false, false, false, false, false, false, false, false, false, false, false, false, false, false, false, false, false, false, false, false, false, false, false, false, false, false, false, false, false, false, false, false]) rfl (by kernel_rfl) (by kernel_rfl) (by kernel_rfl) (fun _ _ _ h => h) rfl ?_; clear hS a; intro a hS)
                    refine Z_take (i := 20) hS rfl (want_go rfl rfl) (e_loadC rfl ty_sc3 (fun w hh => ents_get (by repeat constructor) hz w hh 1 (.int .i64 z.v.at_) rfl)) (listed' := [true, true, true, true, true, true, true, true, true, true, true, true, true, true, true, true, true, true, true, true, true, false, false, false, false, false, false, false, false, false, false, false, false, false, false, false, false, false, false, false, false, false, false, false, false, false, false, false, false, false, false, false, false, false, false, false, false]) rfl (by kernel_rfl) (by kernel_rfl) (by kernel_rfl) (by kernel_rfl) (by kernel_rfl) (sub_cons (by repeat constructor) (sub_cons (by repeat constructor) sub_nil)) (fun _ _ _ h => h) rfl ?_; clear hS a; intro a hS
                    refine Z_take0 (i := 21) hS rfl (want_go rfl rfl) (e_move rfl) (listed' := [true, true, true, true, true, true, true, true, true, true, true, true, true, true, true, true, true, true, true, true, true, true, false, false, false, false, false, false, false, false, false, false, false, false, false, false, false, false, false, false, false, false, false, false, false, false, false, false, false, false, false, false, false, false, false, false, false]) rfl (by kernel_rfl) (by kernel_rfl) (by kernel_rfl) (fun _ _ _ h => h) rfl ?_; clear hS a; intro a hS
                    refine Z_take0 (i := 22) hS rfl (want_go rfl rfl) (e_move rfl) (listed' := [true, true, true, true, true, true, true, true, true, true, true, true, true, true, true, true, true, true, true, true, true, true, true, false, false, false, false, false, false, false, false, false, false, false, false, false, false, false, false, false, false, false, false, false, false, false, false, false, false, false, false, false, false, false, false, false, false]) rfl (by kernel_rfl) (by kernel_rfl) (by kernel_rfl) (fun _ _ _ h => h) rfl ?_; clear hS a; intro a hS
                    refine Z_take0 (i := 23) hS rfl (want_go rfl rfl) (e_ixN rfl rfl ty_sl54 ty_sz58 (by omega)) (listed' := [true, true, true, true, true, true, true, true, true, true, true, true, true, true, true, true, true, true, true, true, true, true, true, true, false, false, false, false, false, false, false, false, false, false, false, false, false, false, false, false, false, false, false, false, false, false, false, false, false, false, false, false, false, false, false, false, false]) rfl (by kernel_rfl) (by kernel_rfl) (by kernel_rfl) (fun _ _ _ h => h) rfl ?_; clear hS a; intro a hS
                    first | (refine Z_take0 (i := 24) hS rfl (want_go rfl rfl) (e_fa0 rfl ty_fo58_1) (listed' := [true, true, true, true, true, true, true, true, true, true, true, true, true, true, true, true, true, true, true, true, true, true, true, true, true, false, false, false, false, false, false, false, false, false, false, false, false, false, false, false, false, false, false, false, false, false, false, false, false, false, false, false, false, false, false, false, false]) rfl (by kernel_rfl) (by kernel_rfl) (by kernel_rfl) (fun _ _ _ h => h) rfl ?_; clear hS a; intro a hS) | (refine Z_take0 (i := 24) hS rfl (want_go rfl rfl) (e_faK rfl ty_fo58_1) (listed' := [true, true, true, true, true, true, true, true, true, true, true, true, true, true, true, true, true, true, true, true, true, true, true, true, true, false, false, false, false, false, false, false, false, false, false, false, false, false, false, false, false, false, false, false, false, false, false, false, false, false, false, false, false, false, false, false, false]) rfl (by kernel_rfl) (by kernel_rfl) (by kernel_rfl) (fun _ _ _ h => h) rfl ?_; clear hS a; intro a hS)
                    refine Z_take (i := 25) hS rfl (want_go rfl rfl) (e_loadC rfl ty_sc3 (fun w hh => ents_get (by repeat constructor) hx w hh 1 (.int .i64 x.v.at_) rfl)) (listed' := [true, true, true, true, true, true, true, true, true, true, true, true, true, true, true, true, true, true, true, true, true, true, true, true, true, true, false, false, false, false, false, false, false, false, false, false, false, false, false, false, false, false, false, false, false, false, false, false, false, false, false, false, false, false, false, false, false]) rfl (by kernel_rfl) (by kernel_rfl) (by kernel_rfl) (by kernel_rfl) (by kernel_rfl) (sub_cons (by repeat constructor) (sub_cons (by repeat constructor) sub_nil)) (fun _ _ _ h => h) rfl ?_; clear hS a; intro a hS
                    refine Z_take0 (i := 26) hS rfl (want_go rfl rfl) (e_bin rfl rfl rfl) (listed' := [true, true, true, true, true, true, true, true, true, true, true, true, true, true, true, true, true, true, true, true, true, true, true, true, true, true, true, false, false, false, false, false, false, false, false, false, false, false, false, false, false, false, false, false, false, false, false, false, false, false, false, false, false, false, false, false, false]) rfl (by kernel_rfl) (by kernel_rfl) (by kernel_rfl) (fun _ _ _ h => h) rfl ?_; clear hS a; intro a hS
                    refine Z_take0 (i := 27) hS rfl (want_go rfl rfl) (e_move rfl) (listed' := [true, true, true, true, true, true, true, true, true, true, true, true, true, true, true, true, true, true, true, true, true, true, true, true, true, true, true, true, false, false, false, false, false, false, false, false, false, false, false, false, false, false, false, false, false, false, false, false, false, false, false, false, false, false, false, false, false]) rfl (by kernel_rfl) (by kernel_rfl) (by kernel_rfl) (fun _ _ _ h => h) rfl ?_; clear hS a; intro a hS
                    replace hS := hS.is (t := 115) (c := false) rfl ((decide_eq_false (by omega)))
                    refine Z_take0 (i := 28) hS rfl (want_go rfl rfl) (e_move rfl) (listed' := [true, true, true, true, true, true, true, true, true, true, true, true, true, true, true, true, true, true, true, true, true, true, true, true, true, true, true, true, true, false, false, false, false, false, false, false, false, false, false, false, false, false, false, false, false, false, false, false, false, false, false, false, false, false, false, false, false]) rfl (by kernel_rfl) (by kernel_rfl) (by kernel_rfl) (fun _ _ _ h => h) rfl ?_; clear hS a; intro a hS
                    refine Z_take0 (i := 29) hS rfl (want_go rfl rfl) (e_move rfl) (listed' := [true, true, true, true, true, true, true, true, true, true, true, true, true, true, true, true, true, true, true, true, true, true, true, true, true, true, true, true, true, true, false, false, false, false, false, false, false, false, false, false, false, false, false, false, false, false, false, false, false, false, false, false, false, false, false, false, false]) rfl (by kernel_rfl) (by kernel_rfl) (by kernel_rfl) (fun _ _ _ h => h) rfl ?_; clear hS a; intro a hS
                    first | (refine Z_take0 (i := 30) hS rfl (want_go rfl rfl) (e_binN rfl rfl rfl (by omega)) (listed' := [true, true, true, true, true, true, true, true, true, true, true, true, true, true, true, true, true, true, true, true, true, true, true, true, true, true, true, true, true, true, true, false, false, false, false, false, false, false, false, false, false, false, false, false, false, false, false, false, false, false, false, false, false, false, false, false, false]) rfl (by kernel_rfl) (by kernel_rfl) (by kernel_rfl) (fun _ _ _ h => h) rfl ?_; clear hS a; intro a hS) | (refine Z_take0 (i := 30) hS rfl (want_go rfl rfl) (e_bin rfl rfl rfl) (listed' := [true, true, true, true, true, true, true, true, true, true, true, true, true, true, true, true, true, true, true, true, true, true, true, true, true, true, true, true, true, true, true, false, false, false, false, false, false, false, false, false, false, false, false, false, false, false, false, false, false, false, false, false, false, false, false, false, false]) rfl (by kernel_rfl) (by kernel_rfl) (by kernel_rfl) (fun _ _ _ h => h) rfl ?_; clear hS a; intro a hS)
                    rw [show (i : Int) - 1 = ((i - 1 : Nat) : Int) from by omega] at hS
                    refine Z_take0 (i := 31) hS rfl (want_go rfl rfl) (e_ixN rfl rfl ty_sl54 ty_sz58 (by omega)) (listed' := [true, true, true, true, true, true, true, true, true, true, true, true, true, true, true, true, true, true, true, true, true, true, true, true, true, true, true, true, true, true, true, true, false, false, false, false, false, false, false, false, false, false, false, false, false, false, false, false, false, false, false, false, false, false, false, false, false]) rfl (by kernel_rfl) (by kernel_rfl) (by kernel_rfl) (fun _ _ _ h => h) rfl ?_; clear hS a; intro a hS
                    first | (refine Z_take0 (i := 32) hS rfl (want_go rfl rfl) (e_fa0 rfl ty_fo58_1) (listed' := [true, true, true, true, true, true, true, true, true, true, true, true, true, true, true, true, true, true, true, true, true, true, true, true, true, true, true, true, true, true, true, true, true, false, false, false, false, false, false, false, false, false, false, false, false, false, false, false, false, false, false, false, false, false, false, false, false]) rfl (by kernel_rfl) (by kernel_rfl) (by kernel_rfl) (fun _ _ _ h => h) rfl ?_; clear hS a; intro a hS) | (refine Z_take0 (i := 32) hS rfl (want_go rfl rfl) (e_faK rfl ty_fo58_1) (listed' := [true, true, true, true, true, true, true, true, true, true, true, true, true, true, true, true, true, true, true, true, true, true, true, true, true, true, true, true, true, true, true, true, true, false, false, false, false, false, false, false, false, false, false, false, false, false, false, false, false, false, false, false, false, false, false, false, false]) rfl (by kernel_rfl) (by kernel_rfl) (by kernel_rfl) (fun _ _ _ h => h) rfl ?_; clear hS a; intro a hS)
                    refine Z_take (i := 33) hS rfl (want_go rfl rfl) (e_loadC rfl ty_sc3 (fun w hh => ents_get (by repeat constructor) hz w hh 1 (.int .i64 z.v.at_) rfl)) (listed' := [true, true, true, true, true, true, true, true, true, true, true, true, true, true, true, true, true, true, true, true, true, true, true, true, true, true, true, true, true, true, true, true, true, true, false, false, false, false, false, false, false, false, false, false, false, false, false, false, false, false, false, false, false, false, false, false, false]) rfl (by kernel_rfl) (by kernel_rfl) (by kernel_rfl) (by kernel_rfl) (by kernel_rfl) (sub_cons (by repeat constructor) (sub_cons (by repeat constructor) sub_nil)) (fun _ _ _ h => h) rfl ?_; clear hS a; intro a hS
                    refine Z_take0 (i := 34) hS rfl (want_go rfl rfl) (e_move rfl) (listed' := [true, true, true, true, true, true, true, true, true, true, true, true, true, true, true, true, true, true, true, true, true, true, true, true, true, true, true, true, true, true, true, true, true, true, true, false, false, false, false, false, false, false, false, false, false, false, false, false, false, false, false, false, false, false, false, false, false]) rfl (by kernel_rfl) (by kernel_rfl) (by kernel_rfl) (fun _ _ _ h => h) rfl ?_; clear hS a; intro a hS
                    refine Z_take0 (i := 35) hS rfl (want_go rfl rfl) (e_move rfl) (listed' := [true, true, true, true, true, true, true, true, true, true, true, true, true, true, true, true, true, true, true, true, true, true, true, true, true, true, true, true, true, true, true, true, true, true, true, true, false, false, false, false, false, false, false, false, false, false, false, false, false, false, false, false, false, false, false, false, false]) rfl (by kernel_rfl) (by kernel_rfl) (by kernel_rfl) (fun _ _ _ h => h) rfl ?_; clear hS a; intro a hS
                    refine Z_take0 (i := 36) hS rfl (want_go rfl rfl) (e_ixN rfl rfl ty_sl54 ty_sz58 (by omega)) (listed' := [true, true, true, true, true, true, true, true, true, true, true, true, true, true, true, true, true, true, true, true, true, true, true, true, true, true, true, true, true, true, true, true, true, true, true, true, true, false, false, false, false, false, false, false, false, false, false, false, false, false, false, false, false, false, false, false, false]) rfl (by kernel_rfl) (by kernel_rfl) (by kernel_rfl) (fun _ _ _ h => h) rfl ?_; clear hS a; intro a hS
                    first | (refine Z_take0 (i := 37) hS rfl (want_go rfl rfl) (e_fa0 rfl ty_fo58_1) (listed' := [true, true, true, true, true, true, true, true, true, true, true, true, true, true, true, true, true, true, true, true, true, true, true, true, true, true, true, true, true, true, true, true, true, true, true, true, true, true, false, false, false, false, false, false, false, false, false, false, false, false, false, false, false, false, false, false, false]) rfl (by kernel_rfl) (by kernel_rfl) (by kernel_rfl) (fun _ _ _ h => h) rfl ?_; clear hS a; intro a hS) | (refine Z_take0 (i := 37) hS rfl (want_go rfl rfl) (e_faK rfl ty_fo58_1) (listed' := [true, true, true, true, true, true, true, true, true, true, true, true, true, true, true, true, true, true, true, true, true, true, true, true, true, true, true, true, true, true, true, true, true, true, true, true, true, true, false, false, false, false, false, false, false, false, false, false, false, false, false, false, false, false, false, false, false]) rfl (by kernel_rfl) (by kernel_rfl) (by kernel_rfl) (fun _ _ _ h => h) rfl ?_; clear hS a; intro a hS)
                    refine Z_take (i := 38) hS rfl (want_go rfl rfl) (e_loadC rfl ty_sc3 (fun w hh => ents_get (by repeat constructor) hx w hh 1 (.int .i64 x.v.at_) rfl)) (listed' := [true, true, true, true, true, true, true, true, true, true, true, true, true, true, true, true, true, true, true, true, true, true, true, true, true, true, true, true, true, true, true, true, true, true, true, true, true, true, true, false, false, false, false, false, false, false, false, false, false, false, false, false, false, false, false, false, false]) rfl (by kernel_rfl) (by kernel_rfl) (by kernel_rfl) (by kernel_rfl) (by kernel_rfl) (sub_cons (by repeat constructor) (sub_cons (by repeat constructor) sub_nil)) (fun _ _ _ h => h) rfl ?_; clear hS a; intro a hS
                    refine Z_take0 (i := 39) hS rfl (want_go rfl rfl) (e_bin rfl rfl rfl) (listed' := [true, true, true, true, true, true, true, true, true, true, true, true, true, true, true, true, true, true, true, true, true, true, true, true, true, true, true, true, true, true, true, true, true, true, true, true, true, true, true, true, false, false, false, false, false, false, false, false, false, false, false, false, false, false, false, false, false]) rfl (by kernel_rfl) (by kernel_rfl) (by kernel_rfl) (fun _ _ _ h => h) rfl ?_; clear hS a; intro a hS
                    refine Z_take0 (i := 40) hS rfl (want_go rfl rfl) (e_move rfl) (listed' := [true, true, true, true, true, true, true, true, true, true, true, true, true, true, true, true, true, true, true, true, true, true, true, true, true, true, true, true, true, true, true, true, true, true, true, true, true, true, true, true, true, false, false, false, false, false, false, false, false, false, false, false, false, false, false, false, false]) rfl (by kernel_rfl) (by kernel_rfl) (by kernel_rfl) (fun _ _ _ h => h) rfl ?_; clear hS a; intro a hS
                    refine Z_merge 3 [true, true, true, true, true, true, true, true, true, true, true, true, true, true, true, true, true, true, true, true, true, true, true, true, true, true, true, true, true, true, true, true, true, true, true, true, true, true, true, true, true, true, true, true, true, true, true, true, true, true, true, true, true, true, false, false, false] 141 (.bool (false)) hS ?_ ?_
                    · intro hcM141
                      (first | refine g_splitD (t := 128) hS rfl ?_ ?_ | refine g_split (t := 128) hS rfl ?_ ?_) <;> (clear hS; intro hg128 hS)
                      ·
                        refine Z_take0 (i := 41) hS rfl (want_go rfl rfl) (e_move rfl) (listed' := [true, true, true, true, true, true, true, true, true, true, true, true, true, true, true, true, true, true, true, true, true, true, true, true, true, true, true, true, true, true, true, true, true, true, true, true, true, true, true, true, true, true, false, false, false, false, false, false, false, false, false, false, false, false, false, false, false]) rfl (by kernel_rfl) (by kernel_rfl) (by kernel_rfl) (fun _ _ _ h => h) rfl ?_; clear hS a; intro a hS
                        refine Z_take0 (i := 42) hS rfl (want_go rfl rfl) (e_move rfl) (listed' := [true, true, true, true, true, true, true, true, true, true, true, true, true, true, true, true, true, true, true, true, true, true, true, true, true, true, true, true, true, true, true, true, true, true, true, true, true, true, true, true, true, true, true, false, false, false, false, false, false, false, false, false, false, false, false, false, false]) rfl (by kernel_rfl) (by kernel_rfl) (by kernel_rfl) (fun _ _ _ h => h) rfl ?_; clear hS a; intro a hS
                        first | (refine Z_take0 (i := 43) hS rfl (want_go rfl rfl) (e_binN rfl rfl rfl (by omega)) (listed' := [true, true, true, true, true, true, true, true, true, true, true, true, true, true, true, true, true, true, true, true, true, true, true, true, true, true, true, true, true, true, true, true, true, true, true, true, true, true, true, true, true, true, true, true, false, false, false, false, false, false, false, false, false, false, false, false, false]) rfl (by kernel_rfl) (by kernel_rfl) (by kernel_rfl) (fun _ _ _ h => h) rfl ?_; clear hS a; intro a hS) | (refine Z_take0 (i := 43) hS rfl (want_go rfl rfl) (e_bin rfl rfl rfl) (listed' := [true, true, true, true, true, true, true, true, true, true, true, true, true, true, true, true, true, true, true, true, true, true, true, true, true, true, true, true, true, true, true, true, true, true, true, true, true, true, true, true, true, true, true, true, false, false, false, false, false, false, false, false, false, false, false, false, false]) rfl (by kernel_rfl) (by kernel_rfl) (by kernel_rfl) (fun _ _ _ h => h) rfl ?_; clear hS a; intro a hS)
                        rw [show (i : Int) - 1 = ((i - 1 : Nat) : Int) from by omega] at hS
                        refine Z_take0 (i := 44) hS rfl (want_go rfl rfl) (e_ixN rfl rfl ty_sl54 ty_sz58 (by omega)) (listed' := [true, true, true, true, true, true, true, true, true, true, true, true, true, true, true, true, true, true, true, true, true, true, true, true, true, true, true, true, true, true, true, true, true, true, true, true, true, true, true, true, true, true, true, true, true, false, false, false, false, false, false, false, false, false, false, false, false]) rfl (by kernel_rfl) (by kernel_rfl) (by kernel_rfl) (fun _ _ _ h => h) rfl ?_; clear hS a; intro a hS
                        first | (refine Z_take0 (i := 45) hS rfl (want_go rfl rfl) (e_fa0 rfl ty_fo58_0) (listed' := [true, true, true, true, true, true, true, true, true, true, true, true, true, true, true, true, true, true, true, true, true, true, true, true, true, true, true, true, true, true, true, true, true, true, true, true, true, true, true, true, true, true, true, true, true, true, false, false, false, false, false, false, false, false, false, false, false]) rfl (by kernel_rfl) (by kernel_rfl) (by kernel_rfl) (fun _ _ _ h => h) rfl ?_; clear hS a; intro a hS) | (refine Z_take0 (i := 45) hS rfl (want_go rfl rfl) (e_faK rfl ty_fo58_0) (listed' := [true, true, true, true, true, true, true, true, true, true, true, true, true, true, true, true, true, true, true, true, true, true, true, true, true, true, true, true, true, true, true, true, true, true, true, true, true, true, true, true, true, true, true, true, true, true, false, false, false, false, false, false, false, false, false, false, false]) rfl (by kernel_rfl) (by kernel_rfl) (by kernel_rfl) (fun _ _ _ h => h) rfl ?_; clear hS a; intro a hS)
                        refine Z_take (i := 46) hS rfl (want_go rfl rfl) (e_loadC rfl ty_sc3 (fun w hh => ents_get (by repeat constructor) hz w hh 0 (.int .i64 z.v.id) rfl)) (listed' := [true, true, true, true, true, true, true, true, true, true, true, true, true, true, true, true, true, true, true, true, true, true, true, true, true, true, true, true, true, true, true, true, true, true, true, true, true, true, true, true, true, true, true, true, true, true, true, false, false, false, false, false, false, false, false, false, false]) rfl (by kernel_rfl) (by kernel_rfl) (by kernel_rfl) (by kernel_rfl) (by kernel_rfl) (sub_cons (by repeat constructor) (sub_cons (by repeat constructor) sub_nil)) (fun _ _ _ h => h) rfl ?_; clear hS a; intro a hS
                        refine Z_take0 (i := 47) hS rfl (want_go rfl rfl) (e_move rfl) (listed' := [true, true, true, true, true, true, true, true, true, true, true, true, true, true, true, true, true, true, true, true, true, true, true, true, true, true, true, true, true, true, true, true, true, true, true, true, true, true, true, true, true, true, true, true, true, true, true, true, false, false, false, false, false, false, false, false, false]) rfl (by kernel_rfl) (by kernel_rfl) (by kernel_rfl) (fun _ _ _ h => h) rfl ?_; clear hS a; intro a hS
                        refine Z_take0 (i := 48) hS rfl (want_go rfl rfl) (e_move rfl) (listed' := [true, true, true, true, true, true, true, true, true, true, true, true, true, true, true, true, true, true, true, true, true, true, true, true, true, true, true, true, true, true, true, true, true, true, true, true, true, true, true, true, true, true, true, true, true, true, true, true, true, false, false, false, false, false, false, false, false]) rfl (by kernel_rfl) (by kernel_rfl) (by kernel_rfl) (fun _ _ _ h => h) rfl ?_; clear hS a; intro a hS
                        refine Z_take0 (i := 49) hS rfl (want_go rfl rfl) (e_ixN rfl rfl ty_sl54 ty_sz58 (by omega)) (listed' := [true, true, true, true, true, true, true, true, true, true, true, true, true, true, true, true, true, true, true, true, true, true, true, true, true, true, true, true, true, true, true, true, true, true, true, true, true, true, true, true, true, true, true, true, true, true, true, true, true, true, false, false, false, false, false, false, false]) rfl (by kernel_rfl) (by kernel_rfl) (by kernel_rfl) (fun _ _ _ h => h) rfl ?_; clear hS a; intro a hS
                        first | (refine Z_take0 (i := 50) hS rfl (want_go rfl rfl) (e_fa0 rfl ty_fo58_0) (listed' := [true, true, true, true, true, true, true, true, true, true, true, true, true, true, true, true, true, true, true, true, true, true, true, true, true, true, true, true, true, true, true, true, true, true, true, true, true, true, true, true, true, true, true, true, true, true, true, true, true, true, true, false, false, false, false, false, false]) rfl (by kernel_rfl) (by kernel_rfl) (by kernel_rfl) (fun _ _ _ h => h) rfl ?_; clear hS a; intro a hS) | (refine Z_take0 (i := 50) hS rfl (want_go rfl rfl) (e_faK rfl ty_fo58_0) (listed' := [true, true, true, true, true, true, true, true, true, true, true, true, true, true, true, true, true, true, true, true, true, true, true, true, true, true, true, true, true, true, true, true, true, true, true, true, true, true, true, true, true, true, true, true, true, true, true, true, true, true, true, false, false, false, false, false, false]) rfl (by kernel_rfl) (by kernel_rfl) (by kernel_rfl) (fun _ _ _ h => h) rfl ?_; clear hS a; intro a hS)
                        refine Z_take (i := 51) hS rfl (want_go rfl rfl) (e_loadC rfl ty_sc3 (fun w hh => ents_get (by repeat constructor) hx w hh 0 (.int .i64 x.v.id) rfl)) (listed' := [true, true, true, true, true, true, true, true, true, true, true, true, true, true, true, true, true, true, true, true, true, true, true, true, true, true, true, true, true, true, true, true, true, true, true, true, true, true, true, true, true, true, true, true, true, true, true, true, true, true, true, true, false, false, false, false, false]) rfl (by kernel_rfl) (by kernel_rfl) (by kernel_rfl) (by kernel_rfl) (by kernel_rfl) (sub_cons (by repeat constructor) (sub_cons (by repeat constructor) sub_nil)) (fun _ _ _ h => h) rfl ?_; clear hS a; intro a hS
                        refine Z_take0 (i := 52) hS rfl (want_go rfl rfl) (e_bin rfl rfl rfl) (listed' := [true, true, true, true, true, true, true, true, true, true, true, true, true, true, true, true, true, true, true, true, true, true, true, true, true, true, true, true, true, true, true, true, true, true, true, true, true, true, true, true, true, true, true, true, true, true, true, true, true, true, true, true, true, false, false, false, false]) rfl (by kernel_rfl) (by kernel_rfl) (by kernel_rfl) (fun _ _ _ h => h) rfl ?_; clear hS a; intro a hS
                        first | (refine Z_take0 (i := 53) hS rfl (want_go rfl rfl) (e_pick_t rfl rfl) (listed' := [true, true, true, true, true, true, true, true, true, true, true, true, true, true, true, true, true, true, true, true, true, true, true, true, true, true, true, true, true, true, true, true, true, true, true, true, true, true, true, true, true, true, true, true, true, true, true, true, true, true, true, true, true, true, false, false, false]) rfl (by kernel_rfl) (by kernel_rfl) (by kernel_rfl) (fun _ _ _ h => h) rfl ?_; clear hS a; intro a hS) | (refine Z_take0 (i := 53) hS rfl (want_go rfl rfl) (e_pick_f rfl rfl) (listed' := [true, true, true, true, true, true, true, true, true, true, true, true, true, true, true, true, true, true, true, true, true, true, true, true, true, true, true, true, true, true, true, true, true, true, true, true, true, true, true, true, true, true, true, true, true, true, true, true, true, true, true, true, true, true, false, false, false]) rfl (by kernel_rfl) (by kernel_rfl) (by kernel_rfl) (fun _ _ _ h => h) rfl ?_; clear hS a; intro a hS)
                        exact hcM141 _ _ (hS.ends 14 141 128 rfl (congrArg Value.bool (by exact decide_eq_false (by omega))) rfl rfl (by first | exact congrArg Value.bool (decide_eq_true hg128).symm | exact congrArg Value.bool hg128.symm | simp [hg128]) rfl)
                      ·
                        refine Z_none_t (i := 41) hS rfl rfl rfl (listed' := [true, true, true, true, true, true, true, true, true, true, true, true, true, true, true, true, true, true, true, true, true, true, true, true, true, true, true, true, true, true, true, true, true, true, true, true, true, true, true, true, true, true, false, false, false, false, false, false, false, false, false, false, false, false, false, false, false]) rfl (by kernel_rfl) (by kernel_rfl) (by kernel_rfl) (fun _ _ _ h => h) rfl ?_; clear hS a; intro a hS
                        refine Z_none_t (i := 42) hS rfl rfl rfl (listed' := [true, true, true, true, true, true, true, true, true, true, true, true, true, true, true, true, true, true, true, true, true, true, true, true, true, true, true, true, true, true, true, true, true, true, true, true, true, true, true, true, true, true, true, false, false, false, false, false, false, false, false, false, false, false, false, false, false]) rfl (by kernel_rfl) (by kernel_rfl) (by kernel_rfl) (fun _ _ _ h => h) rfl ?_; clear hS a; intro a hS
                        refine Z_none_t (i := 43) hS rfl rfl rfl (listed' := [true, true, true, true, true, true, true, true, true, true, true, true, true, true, true, true, true, true, true, true, true, true, true, true, true, true, true, true, true, true, true, true, true, true, true, true, true, true, true, true, true, true, true, true, false, false, false, false, false, false, false, false, false, false, false, false, false]) rfl (by kernel_rfl) (by kernel_rfl) (by kernel_rfl) (fun _ _ _ h => h) rfl ?_; clear hS a; intro a hS
                        refine Z_none_t (i := 44) hS rfl rfl rfl (listed' := [true, true, true, true, true, true, true, true, true, true, true, true, true, true, true, true, true, true, true, true, true, true, true, true, true, true, true, true, true, true, true, true, true, true, true, true, true, true, true, true, true, true, true, true, true, false, false, false, false, false, false, false, false, false, false, false, false]) rfl (by kernel_rfl) (by kernel_rfl) (by kernel_rfl) (fun _ _ _ h => h) rfl ?_; clear hS a; intro a hS
                        refine Z_none_t (i := 45) hS rfl rfl rfl (listed' := [true, true, true, true, true, true, true, true, true, true, true, true, true, true, true, true, true, true, true, true, true, true, true, true, true, true, true, true, true, true, true, true, true, true, true, true, true, true, true, true, true, true, true, true, true, true, false, false, false, false, false, false, false, false, false, false, false]) rfl (by kernel_rfl) (by kernel_rfl) (by kernel_rfl) (fun _ _ _ h => h) rfl ?_; clear hS a; intro a hS
                        refine Z_none_t (i := 46) hS rfl rfl rfl (listed' := [true, true, true, true, true, true, true, true, true, true, true, true, true, true, true, true, true, true, true, true, true, true, true, true, true, true, true, true, true, true, true, true, true, true, true, true, true, true, true, true, true, true, true, true, true, true, true, false, false, false, false, false, false, false, false, false, false]) rfl (by kernel_rfl) (by kernel_rfl) (by kernel_rfl) (fun _ _ _ h => h) rfl ?_; clear hS a; intro a hS
                        refine Z_none_t (i := 47) hS rfl rfl rfl (listed' := [true, true, true, true, true, true, true, true, true, true, true, true, true, true, true, true, true, true, true, true, true, true, true, true, true, true, true, true, true, true, true, true, true, true, true, true, true, true, true, true, true, true, true, true, true, true, true, true, false, false, false, false, false, false, false, false, false]) rfl (by kernel_rfl) (by kernel_rfl) (by kernel_rfl) (fun _ _ _ h => h) rfl ?_; clear hS a; intro a hS
                        refine Z_none_t (i := 48) hS rfl rfl rfl (listed' := [true, true, true, true, true, true, true, true, true, true, true, true, true, true, true, true, true, true, true, true, true, true, true, true, true, true, true, true, true, true, true, true, true, true, true, true, true, true, true, true, true, true, true, true, true, true, true, true, true, false, false, false, false, false, false, false, false]) rfl (by kernel_rfl) (by kernel_rfl) (by kernel_rfl) (fun _ _ _ h => h) rfl ?_; clear hS a; intro a hS
                        refine Z_none_t (i := 49) hS rfl rfl rfl (listed' := [true, true, true, true, true, true, true, true, true, true, true, true, true, true, true, true, true, true, true, true, true, true, true, true, true, true, true, true, true, true, true, true, true, true, true, true, true, true, true, true, true, true, true, true, true, true, true, true, true, true, false, false, false, false, false, false, false]) rfl (by kernel_rfl) (by kernel_rfl) (by kernel_rfl) (fun _ _ _ h => h) rfl ?_; clear hS a; intro a hS
                        refine Z_none_t (i := 50) hS rfl rfl rfl (listed' := [true, true, true, true, true, true, true, true, true, true, true, true, true, true, true, true, true, true, true, true, true, true, true, true, true, true, true, true, true, true, true, true, true, true, true, true, true, true, true, true, true, true, true, true, true, true, true, true, true, true, true, false, false, false, false, false, false]) rfl (by kernel_rfl) (by kernel_rfl) (by kernel_rfl) (fun _ _ _ h => h) rfl ?_; clear hS a; intro a hS
                        refine Z_none_t (i := 51) hS rfl rfl rfl (listed' := [true, true, true, true, true, true, true, true, true, true, true, true, true, true, true, true, true, true, true, true, true, true, true, true, true, true, true, true, true, true, true, true, true, true, true, true, true, true, true, true, true, true, true, true, true, true, true, true, true, true, true, true, false, false, false, false, false]) rfl (by kernel_rfl) (by kernel_rfl) (by kernel_rfl) (fun _ _ _ h => h) rfl ?_; clear hS a; intro a hS
                        refine Z_none_t (i := 52) hS rfl rfl rfl (listed' := [true, true, true, true, true, true, true, true, true, true, true, true, true, true, true, true, true, true, true, true, true, true, true, true, true, true, true, true, true, true, true, true, true, true, true, true, true, true, true, true, true, true, true, true, true, true, true, true, true, true, true, true, true, false, false, false, false]) rfl (by kernel_rfl) (by kernel_rfl) (by kernel_rfl) (fun _ _ _ h => h) rfl ?_; clear hS a; intro a hS
                        first | (refine Z_take0 (i := 53) hS rfl (want_go rfl rfl) (e_pick_t rfl rfl) (listed' := [true, true, true, true, true, true, true, true, true, true, true, true, true, true, true, true, true, true, true, true, true, true, true, true, true, true, true, true, true, true, true, true, true, true, true, true, true, true, true, true, true, true, true, true, true, true, true, true, true, true, true, true, true, true, false, false, false]) rfl (by kernel_rfl) (by kernel_rfl) (by kernel_rfl) (fun _ _ _ h => h) rfl ?_; clear hS a; intro a hS) | (refine Z_take0 (i := 53) hS rfl (want_go rfl rfl) (e_pick_f rfl rfl) (listed' := [true, true, true, true, true, true, true, true, true, true, true, true, true, true, true, true, true, true, true, true, true, true, true, true, true, true, true, true, true, true, true, true, true, true, true, true, true, true, true, true, true, true, true, true, true, true, true, true, true, true, true, true, true, true, false, false, false]) rfl (by kernel_rfl) (by kernel_rfl) (by kernel_rfl) (fun _ _ _ h => h) rfl ?_; clear hS a; intro a hS)
                        exact hcM141 _ _ (hS.ends 14 141 128 rfl (congrArg Value.bool (by rfl)) rfl rfl (by first | exact congrArg Value.bool (decide_eq_false hg128).symm | exact congrArg Value.bool hg128.symm | simp [hg128]) rfl)
                    · clear hS a; (try clear w); intro a w hS
                      first | (refine Z_take0 (i := 54) hS rfl (want_go rfl rfl) (e_pick_t rfl rfl) (listed' := [true, true, true, true, true, true, true, true, true, true, true, true, true, true, true, true, true, true, true, true, true, true, true, true, true, true, true, true, true, true, true, true, true, true, true, true, true, true, true, true, true, true, true, true, true, true, true, true, true, true, true, true, true, true, true, false, false]) rfl (by kernel_rfl) (by kernel_rfl) (by kernel_rfl) (fun _ _ _ h => h) rfl ?_; clear hS a; intro a hS) | (refine Z_take0 (i := 54) hS rfl (want_go rfl rfl) (e_pick_f rfl rfl) (listed' := [true, true, true, true, true, true, true, true, true, true, true, true, true, true, true, true, true, true, true, true, true, true, true, true, true, true, true, true, true, true, true, true, true, true, true, true, true, true, true, true, true, true, true, true, true, true, true, true, true, true, true, true, true, true, true, false, false]) rfl (by kernel_rfl) (by kernel_rfl) (by kernel_rfl) (fun _ _ _ h => h) rfl ?_; clear hS a; intro a hS)
                      first | (refine Z_take0 (i := 55) hS rfl (want_go rfl rfl) (e_pick_t rfl rfl) (listed' := [true, true, true, true, true, true, true, true, true, true, true, true, true, true, true, true, true, true, true, true, true, true, true, true, true, true, true, true, true, true, true, true, true, true, true, true, true, true, true, true, true, true, true, true, true, true, true, true, true, true, true, true, true, true, true, true, false]) rfl (by kernel_rfl) (by kernel_rfl) (by kernel_rfl) (fun _ _ _ h => h) rfl ?_; clear hS a; intro a hS) | (refine Z_take0 (i := 55) hS rfl (want_go rfl rfl) (e_pick_f rfl rfl) (listed' := [true, true, true, true, true, true, true, true, true, true, true, true, true, true, true, true, true, true, true, true, true, true, true, true, true, true, true, true, true, true, true, true, true, true, true, true, true, true, true, true, true, true, true, true, true, true, true, true, true, true, true, true, true, true, true, true, false]) rfl (by kernel_rfl) (by kernel_rfl) (by kernel_rfl) (fun _ _ _ h => h) rfl ?_; clear hS a; intro a hS)
                      exact hcM143 _ _ (hS.ends 31 143 102 rfl (congrArg Value.bool (by rfl)) rfl rfl (by first | exact congrArg Value.bool (decide_eq_true hg102).symm | exact congrArg Value.bool hg102.symm | simp [hg102]) rfl)
                  ·
                    refine Z_none_t (i := 15) hS rfl rfl rfl (listed' := [true, true, true, true, true, true, true, true, true, true, true, true, true, true, true, true, false, false, false, false, false, false, false, false, false, false, false, false, false, false, false, false, false, false, false, false, false, false, false, false, false, false, false, false, false, false, false, false, false, false, false, false, false, false, false, false, false]) rfl (by kernel_rfl) (by kernel_rfl) (by kernel_rfl) (fun _ _ _ h => h) rfl ?_; clear hS a; intro a hS
                    refine Z_none_t (i := 16) hS rfl rfl rfl (listed' := [true, true, true, true, true, true, true, true, true, true, true, true, true, true, true, true, true, false, false, false, false, false, false, false, false, false, false, false, false, false, false, false, false, false, false, false, false, false, false, false, false, false, false, false, false, false, false, false, false, false, false, false, false, false, false, false, false]) rfl (by kernel_rfl) (by kernel_rfl) (by kernel_rfl) (fun _ _ _ h => h) rfl ?_; clear hS a; intro a hS
                    refine Z_none_t (i := 17) hS rfl rfl rfl (listed' := [true, true, true, true, true, true, true, true, true, true, true, true, true, true, true, true, true, true, false, false, false, false, false, false, false, false, false, false, false, false, false, false, false, false, false, false, false, false, false, false, false, false, false, false, false, false, false, false, false, false, false, false, false, false, false, false, false]) rfl (by kernel_rfl) (by kernel_rfl) (by kernel_rfl) (fun _ _ _ h => h) rfl ?_; clear hS a; intro a hS
                    refine Z_none_t (i := 18) hS rfl rfl rfl (listed' := [true, true, true, true, true, true, true, true, true, true, true, true, true, true, true, true, true, true, true, false, false, false, false, false, false, false, false, false, false, false, false, false, false, false, false, false, false, false, false, false, false, false, false, false, false, false, false, false, false, false, false, false, false, false, false, false, false]) rfl (by kernel_rfl) (by kernel_rfl) (by kernel_rfl) (fun _ _ _ h => h) rfl ?_; clear hS a; intro a hS
                    refine Z_none_t (i := 19) hS rfl rfl rfl (listed' := [true, true, true, true, true, true, true, true, true, true, true, true, true, true, true, true, true, true, true, true, false, false, false, false, false, false, false, false, false, false, false, false, false, false, false, false, false, false, false, false, false, false, false, false, false, false, false, false, false, false, false, false, false, false, false, false, false]) rfl (by kernel_rfl) (by kernel_rfl) (by kernel_rfl) (fun _ _ _ h => h) rfl ?_; clear hS a; intro a hS
                    refine Z_none_t (i := 20) hS rfl rfl rfl (listed' := [true, true, true, true, true, true, true, true, true, true, true, true, true, true, true, true, true, true, true, true, true, false, false, false, false, false, false, false, false, false, false, false, false, false, false, false, false, false, false, false, false, false, false, false, false, false, false, false, false, false, false, false, false, false, false, false, false]) rfl (by kernel_rfl) (by kernel_rfl) (by kernel_rfl) (fun _ _ _ h => h) rfl ?_; clear hS a; intro a hS
                    refine Z_none_t (i := 21) hS rfl rfl rfl (listed' := [true, true, true, true, true, true, true, true, true, true, true, true, true, true, true, true, true, true, true, true, true, true, false, false, false, false, false, false, false, false, false, false, false, false, false, false, false, false, false, false, false, false, false, false, false, false, false, false, false, false, false, false, false, false, false, false, false]) rfl (by kernel_rfl) (by kernel_rfl) (by kernel_rfl) (fun _ _ _ h => h) rfl ?_; clear hS a; intro a hS
                    refine Z_none_t (i := 22) hS rfl rfl rfl (listed' := [true, true, true, true, true, true, true, true, true, true, true, true, true, true, true, true, true, true, true, true, true, true, true, false, false, false, false, false, false, false, false, false, false, false, false, false, false, false, false, false, false, false, false, false, false, false, false, false, false, false, false, false, false, false, false, false, false]) rfl (by kernel_rfl) (by kernel_rfl) (by kernel_rfl) (fun _ _ _ h => h) rfl ?_; clear hS a; intro a hS
                    refine Z_none_t (i := 23) hS rfl rfl rfl (listed' := [true, true, true, true, true, true, true, true, true, true, true, true, true, true, true, true, true, true, true, true, true, true, true, true, false, false, false, false, false, false, false, false, false, false, false, false, false, false, false, false, false, false, false, false, false, false, false, false, false, false, false, false, false, false, false, false, false]) rfl (by kernel_rfl) (by kernel_rfl) (by kernel_rfl) (fun _ _ _ h => h) rfl ?_; clear hS a; intro a hS
                    refine Z_none_t (i := 24) hS rfl rfl rfl (listed' := [true, true, true, true, true, true, true, true, true, true, true, true, true, true, true, true, true, true, true, true, true, true, true, true, true, false, false, false, false, false, false, false, false, false, false, false, false, false, false, false, false, false, false, false, false, false, false, false, false, false, false, false, false, false, false, false, false]) rfl (by kernel_rfl) (by kernel_rfl) (by kernel_rfl) (fun _ _ _ h => h) rfl ?_; clear hS a; intro a hS
                    refine Z_none_t (i := 25) hS rfl rfl rfl (listed' := [true, true, true, true, true, true, true, true, true, true, true, true, true, true, true, true, true, true, true, true, true, true, true, true, true, true, false, false, false, false, false, false, false, false, false, false, false, false, false, false, false, false, false, false, false, false, false, false, false, false, false, false, false, false, false, false, false]) rfl (by kernel_rfl) (by kernel_rfl) (by kernel_rfl) (fun _ _ _ h => h) rfl ?_; clear hS a; intro a hS
                    refine Z_none_t (i := 26) hS rfl rfl rfl (listed' := [true, true, true, true, true, true, true, true, true, true, true, true, true, true, true, true, true, true, true, true, true, true, true, true, true, true, true, false, false, false, false, false, false, false, false, false, false, false, false, false, false, false, false, false, false, false, false, false, false, false, false, false, false, false, false, false, false]) rfl (by kernel_rfl) (by kernel_rfl) (by kernel_rfl) (fun _ _ _ h => h) rfl ?_; clear hS a; intro a hS
                    refine Z_none_t (i := 27) hS rfl rfl rfl (listed' := [true, true, true, true, true, true, true, true, true, true, true, true, true, true, true, true, true, true, true, true, true, true, true, true, true, true, true, true, false, false, false, false, false, false, false, false, false, false, false, false, false, false, false, false, false, false, false, false, false, false, false, false, false, false, false, false, false]) rfl (by kernel_rfl) (by kernel_rfl) (by kernel_rfl) (fun _ _ _ h => h) rfl ?_; clear hS a; intro a hS
                    refine Z_none_u (i := 28) hS rfl rfl rfl (listed' := [true, true, true, true, true, true, true, true, true, true, true, true, true, true, true, true, true, true, true, true, true, true, true, true, true, true, true, true, true, false, false, false, false, false, false, false, false, false, false, false, false, false, false, false, false, false, false, false, false, false, false, false, false, false, false, false, false]) rfl (by kernel_rfl) (by kernel_rfl) (by kernel_rfl) (fun _ _ _ h => h) rfl ?_; clear hS a; intro a hS
                    refine Z_none_u (i := 29) hS rfl rfl rfl (listed' := [true, true, true, true, true, true, true, true, true, true, true, true, true, true, true, true, true, true, true, true, true, true, true, true, true, true, true, true, true, true, false, false, false, false, false, false, false, false, false, false, false, false, false, false, false, false, false, false, false, false, false, false, false, false, false, false, false]) rfl (by kernel_rfl) (by kernel_rfl) (by kernel_rfl) (fun _ _ _ h => h) rfl ?_; clear hS a; intro a hS
                    refine Z_none_u (i := 30) hS rfl rfl rfl (listed' := [true, true, true, true, true, true, true, true, true, true, true, true, true, true, true, true, true, true, true, true, true, true, true, true, true, true, true, true, true, true, true, false, false, false, false, false, false, false, false, false, false, false, false, false, false, false, false, false, false, false, false, false, false, false, false, false, false]) rfl (by kernel_rfl) (by kernel_rfl) (by kernel_rfl) (fun _ _ _ h => h) rfl ?_; clear hS a; intro a hS
                    refine Z_none_u (i := 31) hS rfl rfl rfl (listed' := [true, true, true, true, true, true, true, true, true, true, true, true, true, true, true, true, true, true, true, true, true, true, true, true, true, true, true, true, true, true, true, true, false, false, false, false, false, false, false, false, false, false, false, false, false, false, false, false, false, false, false, false, false, false, false, false, false]) rfl (by kernel_rfl) (by kernel_rfl) (by kernel_rfl) (fun _ _ _ h => h) rfl ?_; clear hS a; intro a hS
                    refine Z_none_u (i := 32) hS rfl rfl rfl (listed' := [true, true, true, true, true, true, true, true, true, true, true, true, true, true, true, true, true, true, true, true, true, true, true, true, true, true, true, true, true, true, true, true, true, false, false, false, false, false, false, false, false, false, false, false, false, false, false, false, false, false, false, false, false, false, false, false, false]) rfl (by kernel_rfl) (by kernel_rfl) (by kernel_rfl) (fun _ _ _ h => h) rfl ?_; clear hS a; intro a hS
                    refine Z_none_u (i := 33) hS rfl rfl rfl (listed' := [true, true, true, true, true, true, true, true, true, true, true, true, true, true, true, true, true, true, true, true, true, true, true, true, true, true, true, true, true, true, true, true, true, true, false, false, false, false, false, false, false, false, false, false, false, false, false, false, false, false, false, false, false, false, false, false, false]) rfl (by kernel_rfl) (by kernel_rfl) (by kernel_rfl) (fun _ _ _ h => h) rfl ?_; clear hS a; intro a hS
                    refine Z_none_u (i := 34) hS rfl rfl rfl (listed' := [true, true, true, true, true, true, true, true, true, true, true, true, true, true, true, true, true, true, true, true, true, true, true, true, true, true, true, true, true, true, true, true, true, true, true, false, false, false, false, false, false, false, false, false, false, false, false, false, false, false, false, false, false, false, false, false, false]) rfl (by kernel_rfl) (by kernel_rfl) (by kernel_rfl) (fun _ _ _ h => h) rfl ?_; clear hS a; intro a hS
                    refine Z_none_u (i := 35) hS rfl rfl rfl (listed' := [true, true, true, true, true, true, true, true, true, true, true, true, true, true, true, true, true, true, true, true, true, true, true, true, true, true, true, true, true, true, true, true, true, true, true, true, false, false, false, false, false, false, false, false, false, false, false, false, false, false, false, false, false, false, false, false, false]) rfl (by kernel_rfl) (by kernel_rfl) (by kernel_rfl) (fun _ _ _ h => h) rfl ?_; clear hS a; intro a hS
                    refine Z_none_u (i := 36) hS rfl rfl rfl (listed' := [true, true, true, true, true, true, true, true, true, true, true, true, true, true, true, true, true, true, true, true, true, true, true, true, true, true, true, true, true, true, true, true, true, true, true, true, true, false, false, false, false, false, false, false, false, false, false, false, false, false, false, false, false, false, false, false, false]) rfl (by kernel_rfl) (by kernel_rfl) (by kernel_rfl) (fun _ _ _ h => h) rfl ?_; clear hS a; intro a hS
                    refine Z_none_u (i := 37) hS rfl rfl rfl (listed' := [true, true, true, true, true, true, true, true, true, true, true, true, true, true, true, true, true, true, true, true, true, true, true, true, true, true, true, true, true, true, true, true, true, true, true, true, true, true, false, false, false, false, false, false, false, false, false, false, false, false, false, false, false, false, false, false, false]) rfl (by kernel_rfl) (by kernel_rfl) (by kernel_rfl) (fun _ _ _ h => h) rfl ?_; clear hS a; intro a hS
                    refine Z_none_u (i := 38) hS rfl rfl rfl (listed' := [true, true, true, true, true, true, true, true, true, true, true, true, true, true, true, true, true, true, true, true, true, true, true, true, true, true, true, true, true, true, true, true, true, true, true, true, true, true, true, false, false, false, false, false, false, false, false, false, false, false, false, false, false, false, false, false, false]) rfl (by kernel_rfl) (by kernel_rfl) (by kernel_rfl) (fun _ _ _ h => h) rfl ?_; clear hS a; intro a hS
                    refine Z_none_u (i := 39) hS rfl rfl rfl (listed' := [true, true, true, true, true, true, true, true, true, true, true, true, true, true, true, true, true, true, true, true, true, true, true, true, true, true, true, true, true, true, true, true, true, true, true, true, true, true, true, true, false, false, false, false, false, false, false, false, false, false, false, false, false, false, false, false, false]) rfl (by kernel_rfl) (by kernel_rfl) (by kernel_rfl) (fun _ _ _ h => h) rfl ?_; clear hS a; intro a hS
                    refine Z_none_u (i := 40) hS rfl rfl rfl (listed' := [true, true, true, true, true, true, true, true, true, true, true, true, true, true, true, true, true, true, true, true, true, true, true, true, true, true, true, true, true, true, true, true, true, true, true, true, true, true, true, true, true, false, false, false, false, false, false, false, false, false, false, false, false, false, false, false, false]) rfl (by kernel_rfl) (by kernel_rfl) (by kernel_rfl) (fun _ _ _ h => h) rfl ?_; clear hS a; intro a hS
                    refine Z_none_u (i := 41) hS rfl rfl rfl (listed' := [true, true, true, true, true, true, true, true, true, true, true, true, true, true, true, true, true, true, true, true, true, true, true, true, true, true, true, true, true, true, true, true, true, true, true, true, true, true, true, true, true, true, false, false, false, false, false, false, false, false, false, false, false, false, false, false, false]) rfl (by kernel_rfl) (by kernel_rfl) (by kernel_rfl) (fun _ _ _ h => h) rfl ?_; clear hS a; intro a hS
                    refine Z_none_u (i := 42) hS rfl rfl rfl (listed' := [true, true, true, true, true, true, true, true, true, true, true, true, true, true, true, true, true, true, true, true, true, true, true, true, true, true, true, true, true, true, true, true, true, true, true, true, true, true, true, true, true, true, true, false, false, false, false, false, false, false, false, false, false, false, false, false, false]) rfl (by kernel_rfl) (by kernel_rfl) (by kernel_rfl) (fun _ _ _ h => h) rfl ?_; clear hS a; intro a hS
                    refine Z_none_u (i := 43) hS rfl rfl rfl (listed' := [true, true, true, true, true, true, true, true, true, true, true, true, true, true, true, true, true, true, true, true, true, true, true, true, true, true, true, true, true, true, true, true, true, true, true, true, true, true, true, true, true, true, true, true, false, false, false, false, false, false, false, false, false, false, false, false, false]) rfl (by kernel_rfl) (by kernel_rfl) (by kernel_rfl) (fun _ _ _ h => h) rfl ?_; clear hS a; intro a hS
                    refine Z_none_u (i := 44) hS rfl rfl rfl (listed' := [true, true, true, true, true, true, true, true, true, true, true, true, true, true, true, true, true, true, true, true, true, true, true, true, true, true, true, true, true, true, true, true, true, true, true, true, true, true, true, true, true, true, true, true, true, false, false, false, false, false, false, false, false, false, false, false, false]) rfl (by kernel_rfl) (by kernel_rfl) (by kernel_rfl) (fun _ _ _ h => h) rfl ?_; clear hS a; intro a hS
                    refine Z_none_u (i := 45) hS rfl rfl rfl (listed' := [true, true, true, true, true, true, true, true, true, true, true, true, true, true, true, true, true, true, true, true, true, true, true, true, true, true, true, true, true, true, true, true, true, true, true, true, true, true, true, true, true, true, true, true, true, true, false, false, false, false, false, false, false, false, false, false, false]) rfl (by kernel_rfl) (by kernel_rfl) (by kernel_rfl) (fun _ _ _ h => h) rfl ?_; clear hS a; intro a hS
                    refine Z_none_u (i := 46) hS rfl rfl rfl (listed' := [true, true, true, true, true, true, true, true, true, true, true, true, true, true, true, true, true, true, true, true, true, true, true, true, true, true, true, true, true, true, true, true, true, true, true, true, true, true, true, true, true, true, true, true, true, true, true, false, false, false, false, false, false, false, false, false, false]) rfl (by kernel_rfl) (by kernel_rfl) (by kernel_rfl) (fun _ _ _ h => h) rfl ?_; clear hS a; intro a hS
                    refine Z_none_u (i := 47) hS rfl rfl rfl (listed' := [true, true, true, true, true, true, true, true, true, true, true, true, true, true, true, true, true, true, true, true, true, true, true, true, true, true, true, true, true, true, true, true, true, true, true, true, true, true, true, true, true, true, true, true, true, true, true, true, false, false, false, false, false, false, false, false, false]) rfl (by kernel_rfl) (by kernel_rfl) (by kernel_rfl) (fun _ _ _ h => h) rfl ?_; clear hS a; intro a hS
                    refine Z_none_u (i := 48) hS rfl rfl rfl (listed' := [true, true, true, true, true, true, true, true, true, true, true, true, true, true, true, true, true, true, true, true, true, true, true, true, true, true, true, true, true, true, true, true, true, true, true, true, true, true, true, true, true, true, true, true, true, true, true, true, true, false, false, false, false, false, false, false, false]) rfl (by kernel_rfl) (by kernel_rfl) (by kernel_rfl) (fun _ _ _ h => h) rfl ?_; clear hS a; intro a hS
                    refine Z_none_u (i := 49) hS rfl rfl rfl (listed' := [true, true, true, true, true, true, true, true, true, true, true, true, true, true, true, true, true, true, true, true, true, true, true, true, true, true, true, true, true, true, true, true, true, true, true, true, true, true, true, true, true, true, true, true, true, true, true, true, true, true, false, false, false, false, false, false, false]) rfl (by kernel_rfl) (by kernel_rfl) (by kernel_rfl) (fun _ _ _ h => h) rfl ?_; clear hS a; intro a hS
                    refine Z_none_u (i := 50) hS rfl rfl rfl (listed' := [true, true, true, true, true, true, true, true, true, true, true, true, true, true, true, true, true, true, true, true, true, true, true, true, true, true, true, true, true, true, true, true, true, true, true, true, true, true, true, true, true, true, true, true, true, true, true, true, true, true, true, false, false, false, false, false, false]) rfl (by kernel_rfl) (by kernel_rfl) (by kernel_rfl) (fun _ _ _ h => h) rfl ?_; clear hS a; intro a hS
                    refine Z_none_u (i := 51) hS rfl rfl rfl (listed' := [true, true, true, true, true, true, true, true, true, true, true, true, true, true, true, true, true, true, true, true, true, true, true, true, true, true, true, true, true, true, true, true, true, true, true, true, true, true, true, true, true, true, true, true, true, true, true, true, true, true, true, true, false, false, false, false, false]) rfl (by kernel_rfl) (by kernel_rfl) (by kernel_rfl) (fun _ _ _ h => h) rfl ?_; clear hS a; intro a hS
                    refine Z_none_u (i := 52) hS rfl rfl rfl (listed' := [true, true, true, true, true, true, true, true, true, true, true, true, true, true, true, true, true, true, true, true, true, true, true, true, true, true, true, true, true, true, true, true, true, true, true, true, true, true, true, true, true, true, true, true, true, true, true, true, true, true, true, true, true, false, false, false, false]) rfl (by kernel_rfl) (by kernel_rfl) (by kernel_rfl) (fun _ _ _ h => h) rfl ?_; clear hS a; intro a hS
                    refine Z_none_u (i := 53) hS rfl rfl rfl (listed' := [true, true, true, true, true, true, true, true, true, true, true, true, true, true, true, true, true, true, true, true, true, true, true, true, true, true, true, true, true, true, true, true, true, true, true, true, true, true, true, true, true, true, true, true, true, true, true, true, true, true, true, true, true, true, false, false, false]) rfl (by kernel_rfl) (by kernel_rfl) (by kernel_rfl) (fun _ _ _ h => h) rfl ?_; clear hS a; intro a hS
                    refine Z_none_t (i := 54) hS rfl rfl rfl (listed' := [true, true, true, true, true, true, true, true, true, true, true, true, true, true, true, true, true, true, true, true, true, true, true, true, true, true, true, true, true, true, true, true, true, true, true, true, true, true, true, true, true, true, true, true, true, true, true, true, true, true, true, true, true, true, true, false, false]) rfl (by kernel_rfl) (by kernel_rfl) (by kernel_rfl) (fun _ _ _ h => h) rfl ?_; clear hS a; intro a hS
                    first | (refine Z_take0 (i := 55) hS rfl (want_go rfl rfl) (e_pick_t rfl rfl) (listed' := [true, true, true, true, true, true, true, true, true, true, true, true, true, true, true, true, true, true, true, true, true, true, true, true, true, true, true, true, true, true, true, true, true, true, true, true, true, true, true, true, true, true, true, true, true, true, true, true, true, true, true, true, true, true, true, true, false]) rfl (by kernel_rfl) (by kernel_rfl) (by kernel_rfl) (fun _ _ _ h => h) rfl ?_; clear hS a; intro a hS) | (refine Z_take0 (i := 55) hS rfl (want_go rfl rfl) (e_pick_f rfl rfl) (listed' := [true, true, true, true, true, true, true, true, true, true, true, true, true, true, true, true, true, true, true, true, true, true, true, true, true, true, true, true, true, true, true, true, true, true, true, true, true, true, true, true, true, true, true, true, true, true, true, true, true, true, true, true, true, true, true, true, false]) rfl (by kernel_rfl) (by kernel_rfl) (by kernel_rfl) (fun _ _ _ h => h) rfl ?_; clear hS a; intro a hS)
                    exact hcM143 _ _ (hS.ends 42 143 102 rfl (congrArg Value.bool (by rfl)) rfl rfl (by first | exact congrArg Value.bool (decide_eq_false hg102).symm | exact congrArg Value.bool hg102.symm | simp [hg102]) rfl)
                · clear hS a; (try clear w); intro a w hS
                  first | (refine Z_take0 (i := 56) hS rfl want_none (e_pick_t rfl rfl) (listed' := [true, true, true, true, true, true, true, true, true, true, true, true, true, true, true, true, true, true, true, true, true, true, true, true, true, true, true, true, true, true, true, true, true, true, true, true, true, true, true, true, true, true, true, true, true, true, true, true, true, true, true, true, true, true, true, true, true]) rfl (by kernel_rfl) (by kernel_rfl) (by kernel_rfl) (fun _ _ _ h => h) rfl ?_; clear hS a; intro a hS) | (refine Z_take0 (i := 56) hS rfl want_none (e_pick_f rfl rfl) (listed' := [true, true, true, true, true, true, true, true, true, true, true, true, true, true, true, true, true, true, true, true, true, true, true, true, true, true, true, true, true, true, true, true, true, true, true, true, true, true, true, true, true, true, true, true, true, true, true, true, true, true, true, true, true, true, true, true, true]) rfl (by kernel_rfl) (by kernel_rfl) (by kernel_rfl) (fun _ _ _ h => h) rfl ?_; clear hS a; intro a hS)
                  refine Z_done (by kernel_rfl) ?_
                  refine n_then ?_
                  replace hS := hS.is (t := 144) (c := false) rfl (rfl)
                  refine c_if_f hS rfl ?_
                  refine wp_skip ?_
                  refine n_block ?_
                  refine n_then ?_
                  refine c_region ?_
                  refine L_op (s_e hS (e_move rfl) rfl ?_); clear hS a; intro a hS
                  first | (refine L_op (s_e hS (e_binN rfl rfl rfl (by omega)) rfl ?_); clear hS a; intro a hS) | (refine L_op (s_e hS (e_bin rfl rfl rfl) rfl ?_); clear hS a; intro a hS)
                  refine L_op (s_e hS (e_assign rfl) rfl ?_); clear hS a; intro a hS
                  refine L_nil ?_
                  exact ⟨i + 1, by omega, (hS.slots (by repeat (first | exact trivial | refine ⟨rfl, ?_⟩))).pick (by repeat (first | exact Pick.nil | (refine Pick.cons (by repeat (first | exact Rem.head | apply Rem.tail)) ?_))), by omega⟩
              ·
                refine wp_exit ?_
                refine x_then (x_then (x_hit ?_))
                refine n_then ?_
                refine c_seq ?_
                refine c_region ?_
                refine L_op (s_e hS (e_move rfl) rfl ?_); clear hS a; intro a hS
                refine L_op (s_e hS (e_move rfl) rfl ?_); clear hS a; intro a hS
                refine L_op (s_e hS (e_move rfl) rfl ?_); clear hS a; intro a hS
                refine L_op (s_callP hS (.cons rfl (.cons rfl (.cons rfl .nil))) cf29 rfl (lBal_P B s code mid (hwf.fitL (by omega)) _ (hS.get (X := ledA B s true) (by repeat constructor))) ?_); clear hS a; (try clear w); intro a w hS
                refine L_op (s_e hS (e_move rfl) rfl ?_); clear hS a; intro a hS
                refine L_op (s_e hS (e_extract rfl rfl) rfl ?_); clear hS a; intro a hS
                refine L_op (s_e hS (e_extract rfl rfl) rfl ?_); clear hS a; intro a hS
                refine L_op (s_alloc hS ty_z60 rfl ?_); clear hS a; (try clear w); intro a w b17 hS
                refine L_op (s_storeA hS rfl rfl ty_sz60 (by repeat constructor) (by rfl) (by rfl) (by rfl) ?_); clear hS; (try clear w); intro w hS
                refine L_op (s_e hS (e_assign rfl) rfl ?_); clear hS a; intro a hS
                refine L_nil ?_
                refine n_then ?_
                refine c_seq ?_
                refine c_region ?_
                refine L_op (s_e hS (e_move rfl) rfl ?_); clear hS a; intro a hS
                refine L_op (s_e hS (e_move rfl) rfl ?_); clear hS a; intro a hS
                refine L_op (s_e hS (e_move rfl) rfl ?_); clear hS a; intro a hS
                refine L_op (s_callP hS (.cons rfl (.cons rfl (.cons rfl .nil))) cf29 rfl (lBal_P B s code to_ (hwf.fitL (by omega)) _ (hS.get (X := ledA B s true) (by repeat constructor))) ?_); clear hS a; (try clear w); intro a w hS
                refine L_op (s_e hS (e_move rfl) rfl ?_); clear hS a; intro a hS
                refine L_op (s_e hS (e_extract rfl rfl) rfl ?_); clear hS a; intro a hS
                refine L_op (s_e hS (e_extract rfl rfl) rfl ?_); clear hS a; intro a hS
                refine L_op (s_alloc hS ty_z60 rfl ?_); clear hS a; (try clear w); intro a w b19 hS
                refine L_op (s_storeA hS rfl rfl ty_sz60 (by repeat constructor) (by rfl) (by rfl) (by rfl) ?_); clear hS; (try clear w); intro w hS
                refine L_op (s_e hS (e_assign rfl) rfl ?_); clear hS a; intro a hS
                refine L_nil ?_
                refine n_then ?_
                refine c_seq ?_
                refine c_seq ?_
                refine c_region ?_
                refine L_op (s_e hS (e_move rfl) rfl ?_); clear hS a; intro a hS
                refine L_op (s_callP hS (.cons rfl .nil) cf16 rfl (Num_w _ _) ?_); clear hS a; (try clear w); intro a w hS
                refine L_op (s_e hS (e_bin rfl rfl rfl) rfl ?_); clear hS a; intro a hS
                refine L_op (s_e hS (e_move rfl) rfl ?_); clear hS a; intro a hS
                refine L_merge 4 166 (.bool (decide ((balF (pl s) code mid).2 ≠ 0 ∨ (balF (pl s) code to_).2 ≠ 0))) hS ?_ ?_
                · intro hcM166
                  (first | refine g_splitD (t := 162) hS rfl ?_ ?_ | refine g_split (t := 162) hS rfl ?_ ?_) <;> (clear hS; intro hg162 hS)
                  ·
                    refine L_skip_f hS rfl rfl rfl ?_; clear hS a; intro a hS
                    refine L_skip_f hS rfl rfl rfl ?_; clear hS a; intro a hS
                    refine L_skip_f hS rfl rfl rfl ?_; clear hS a; intro a hS
                    first | (refine L_op (s_e hS (e_pick_t rfl rfl) rfl ?_); clear hS a; intro a hS) | (refine L_op (s_e hS (e_pick_f rfl rfl) rfl ?_); clear hS a; intro a hS)
                    exact hcM166 _ _ (hS.ends 5 166 162 rfl (congrArg Value.bool (by exact (decide_eq_true (.inl hg162)).symm)) rfl rfl (by first | exact congrArg Value.bool (decide_eq_true hg162).symm | exact congrArg Value.bool hg162.symm | simp [hg162]) rfl)
                  ·
                    refine L_go hS rfl rfl (s_e hS (e_move rfl) rfl ?_); clear hS a; intro a hS
                    refine L_go hS rfl rfl (s_callP hS (.cons rfl .nil) cf16 rfl (Num_w _ _) ?_); clear hS a; (try clear w); intro a w hS
                    refine L_go hS rfl rfl (s_e hS (e_bin rfl rfl rfl) rfl ?_); clear hS a; intro a hS
                    first | (refine L_op (s_e hS (e_pick_t rfl rfl) rfl ?_); clear hS a; intro a hS) | (refine L_op (s_e hS (e_pick_f rfl rfl) rfl ?_); clear hS a; intro a hS)
                    exact hcM166 _ _ (hS.ends 5 166 162 rfl (congrArg Value.bool (by rw [decide_eq_decide]; exact ⟨.inr, fun e => e.resolve_left hg162⟩)) rfl rfl (by first | exact congrArg Value.bool (decide_eq_false hg162).symm | exact congrArg Value.bool hg162.symm | simp [hg162]) rfl)
                · clear hS a; (try clear w); intro a w hS
                  simp only [List.drop_succ_cons, List.drop_zero]
                  refine L_nil ?_
                  refine n_then ?_
                  first | refine c_ifD hS rfl (fun hc166 => ?_) (fun hc166 => ?_) | refine c_if hS rfl (fun hc166 => ?_) (fun hc166 => ?_)
                  ·
                    refine c_seq ?_
                    refine c_region ?_
                    refine L_op (s_e hS (e_assign rfl) rfl ?_); clear hS a; intro a hS
                    refine L_nil ?_
                    refine n_then ?_
                    refine wp_ret ?_
                    refine r_then ?_
                    refine c_ret1 hS Try.results6 (.tmp rfl) ?_
                    exact ⟨rfl, hS.chg⟩
                  ·
                    have he1 : (balF (pl s) code mid).2 = 0 := Classical.byContradiction fun e => hc166 (.inl e)
                    have he2 : (balF (pl s) code to_).2 = 0 := Classical.byContradiction fun e => hc166 (.inr e)
                    have hk1 := bal_okS he1
                    have hk2 := bal_okS he2
                    rw [bal_ok he1, bal_ok he2] at hS
                    generalize hZ1 : balD code (postsAt (pl s).es mid) = Z1 at hS hk1
                    generalize hZ2 : balD code (postsAt (pl s).es to_) = Z2 at hS hk2
                    unfold inU at hk1 hk2
                    refine wp_skip ?_
                    refine n_then ?_
                    refine c_seq ?_
                    refine c_region ?_
                    first | (refine L_op (s_e hS (e_fa0 rfl ty_fo60_1) rfl ?_); clear hS a; intro a hS) | (refine L_op (s_e hS (e_faK rfl ty_fo60_1) rfl ?_); clear hS a; intro a hS)
                    refine L_op (s_e hS (e_loadC rfl ty_sc3 (fun _ hh => cell_of_blk (cs := encBl (code, Z1.1, Z1.2)) (hh (.blk b17 _ _) (by repeat constructor)) rfl)) rfl ?_); clear hS a; intro a hS
                    refine L_op (s_callN hS (.cons rfl .nil) cf22 rfl (BigOf_P Z1.1 (by omega) _) ?_); clear hS a; (try clear w); intro x169 a w hS
                    refine L_op (s_alloc hS ty_z44 rfl ?_); clear hS a; (try clear w); intro a w b21 hS
                    refine L_op (s_storeA hS rfl rfl ty_sz44 (by repeat constructor) (by rfl) (by rfl) (by rfl) ?_); clear hS; (try clear w); intro w hS
                    refine L_nil ?_
                    refine n_then ?_
                    refine c_seq ?_
                    refine c_region ?_
                    first | (refine L_op (s_e hS (e_fa0 rfl ty_fo60_2) rfl ?_); clear hS a; intro a hS) | (refine L_op (s_e hS (e_faK rfl ty_fo60_2) rfl ?_); clear hS a; intro a hS)
                    refine L_op (s_e hS (e_loadC rfl ty_sc3 (fun _ hh => cell_of_blk (cs := encBl (code, Z1.1, Z1.2)) (hh (.blk b17 _ _) (by repeat constructor)) rfl)) rfl ?_); clear hS a; intro a hS
                    refine L_op (s_callN hS (.cons rfl .nil) cf22 rfl (BigOf_P Z1.2 (by omega) _) ?_); clear hS a; (try clear w); intro x172 a w hS
                    refine L_op (s_alloc hS ty_z44 rfl ?_); clear hS a; (try clear w); intro a w b22 hS
                    refine L_op (s_storeA hS rfl rfl ty_sz44 (by repeat constructor) (by rfl) (by rfl) (by rfl) ?_); clear hS; (try clear w); intro w hS
                    refine L_nil ?_
                    refine n_then ?_
                    refine c_seq ?_
                    refine c_region ?_
                    refine L_op (s_e hS (e_move rfl) rfl ?_); clear hS a; intro a hS
                    refine L_op (s_e hS (e_move rfl) rfl ?_); clear hS a; intro a hS
                    first | (refine L_op (s_e hS (e_binN rfl rfl rfl (by omega)) rfl ?_); clear hS a; intro a hS) | (refine L_op (s_e hS (e_bin rfl rfl rfl) rfl ?_); clear hS a; intro a hS)
                    refine L_op (s_e hS (e_move rfl) rfl ?_); clear hS a; intro a hS
                    first | (refine L_op (s_e hS (e_binN rfl rfl rfl (by omega)) rfl ?_); clear hS a; intro a hS) | (refine L_op (s_e hS (e_bin rfl rfl rfl) rfl ?_); clear hS a; intro a hS)
                    refine L_op (s_callN hS (.cons rfl (.cons rfl (.cons rfl .nil))) cf28 rfl (lEntries_P B s (mid + 1) (to_ + 1) hids (by omega) hps _ (hS.get (X := ledA B s true) (by repeat constructor))) ?_); clear hS a; (try clear w); intro x178 a w hS
                    obtain ⟨⟨v4, L4⟩, hE4⟩ := x178
                    simp only at hS hE4
                    obtain ⟨q4, c4, rfl⟩ := own_slice (hS.get (X := entsA v4 L4) (by repeat constructor)).row
                    have hl4 : L4.length ≤ 60 := by have h1 := hE4.len; rw [List.length_map] at h1; omega
                    have hbt := bal_between hE4 (by omega) code
                    rw [hZ1, hZ2] at hbt
                    obtain ⟨V, hV⟩ : ∃ V, V = L4.map (·.v) := ⟨_, rfl⟩
                    rw [← hV] at hbt
                    have hVl : V.length = L4.length := by rw [hV, List.length_map]
                    have hVp : ∀ x ∈ V, x.ps.length ≤ 50 := fun x hx => hwf.ps x (hE4.mem (by rw [← hV]; exact hx)).1
                    have hVf : ∀ x ∈ V, ∀ p ∈ x.ps, p.fits := fun x hx => hwf.fit x (hE4.mem (by rw [← hV]; exact hx)).1
                    replace hS := hS.swap (X := bigA Z1.1 x169.1.1) (Y := dgP Z1.1 (some (x169.1.1, 0))) (by repeat constructor) (dgP_of (hS.ok (bigA Z1.1 x169.1.1) (by repeat constructor))) (fun b hb => by obtain ⟨off, e⟩ := hb; cases e; rfl) rfl
                    replace hS := hS.swap (X := bigA Z1.2 x172.1.1) (Y := dgP Z1.2 (some (x172.1.1, 0))) (by repeat constructor) (dgP_of (hS.ok (bigA Z1.2 x172.1.1) (by repeat constructor))) (fun b hb => by obtain ⟨off, e⟩ := hb; cases e; rfl) rfl
                    have bd := fun (j : Nat) (r : List Pst) (hr : r.length ≤ 50) (hrf : ∀ p ∈ r, p.fits) (k : Nat) => pre_bd hVp hVf (by omega) code j hr hrf k
                    refine L_op (s_e hS (e_assign rfl) rfl ?_); clear hS a; intro a hS
                    refine L_nil ?_
                    refine n_then ?_
                    refine c_seq ?_
                    refine c_seq ?_
                    refine c_region ?_
                    refine L_op (s_e hS (e_assign rfl) rfl ?_); clear hS a; intro a hS
                    refine L_nil ?_
                    refine n_then ?_
                    refine wp_block ?_
                    skip
                    refine c_loop (γ := Nat) (fun j a w => ∃ (p1 p2 : Option (Nat × Nat)) (d1 d2 : Nat), St 231 noB w0 a w [(24, .int .i64 (j : Int)), (23, .slice q4 L4.length c4), (22, .pointer (some ⟨b22, 0, none⟩)), (21, .pointer (some ⟨b21, 0, none⟩)), (19, .pointer (some ⟨b19, 0, none⟩)), (1, .string code)] [.blk b21 [.bool (decide (Z1.1 + (balD code (pre V j [] 0)).1 < 0)), sliceV p1 (dgs (Z1.1 + (balD code (pre V j [] 0)).1).natAbs).length d1] 44, dgP (Z1.1 + (balD code (pre V j [] 0)).1) p1, .blk b22 [.bool (decide (Z1.2 + (balD code (pre V j [] 0)).2 < 0)), sliceV p2 (dgs (Z1.2 + (balD code (pre V j [] 0)).2).natAbs).length d2] 44, dgP (Z1.2 + (balD code (pre V j [] 0)).2) p2, entsA (.slice q4 L4.length c4) L4, .blk b19 (encBl (code, Z2.1, Z2.2)) 60] ∧ j ≤ L4.length) (fun j => L4.length - j) 0 ⟨some (x169.1.1, 0), some (x172.1.1, 0), x169.1.2, x172.1.2, by rw [show balD code (pre V 0 [] 0) = (0, 0) from rfl, Int.add_zero, Int.add_zero]; exact (hS.slots (by repeat (first | exact trivial | refine ⟨rfl, ?_⟩))).pick (by repeat (first | exact Pick.nil | (refine Pick.cons (by repeat (first | exact Rem.head | apply Rem.tail)) ?_))), Nat.zero_le _⟩ ?_
                    clear hS a; (try clear w); intro j a w hI
                    obtain ⟨p1, p2, d1, d2, hS, hj⟩ := hI
                    refine c_seq ?_
                    refine c_seq ?_
                    refine c_region ?_
                    refine L_op (s_e hS (e_move rfl) rfl ?_); clear hS a; intro a hS
                    refine L_op (s_e hS (e_move rfl) rfl ?_); clear hS a; intro a hS
                    refine L_op (s_e hS (e_len rfl rfl ty_sl54) rfl ?_); clear hS a; intro a hS
                    refine L_op (s_e hS (e_bin rfl rfl rfl) rfl ?_); clear hS a; intro a hS
                    refine L_nil ?_
                    refine n_then ?_
                    first | refine c_ifD hS rfl (fun hc182 => ?_) (fun hc182 => ?_) | refine c_if hS rfl (fun hc182 => ?_) (fun hc182 => ?_)
                    ·
                      have hjl : j < L4.length := by omega
                      obtain ⟨x, hx⟩ : ∃ x, L4[j]? = some x := ⟨L4[j], List.getElem?_eq_getElem hjl⟩
                      have hxm := List.mem_of_getElem? hx
                      have hxV : V[j]? = some x.v := by rw [hV, List.getElem?_map, hx]; rfl
                      have hxl := hVp x.v (List.mem_of_getElem? hxV)
                      have hxf := hVf x.v (List.mem_of_getElem? hxV)
                      have hnx := pre_next hxV
                      obtain ⟨g4, rfl⟩ : ∃ g, q4 = some ⟨g, 0, none⟩ := own_at (hS.get (X := entsA (.slice q4 L4.length c4) L4) (by repeat constructor)).row (by omega)
                      rw [← pre_zero V j x.v.ps] at hS
                      refine wp_skip ?_
                      refine n_then ?_
                      refine c_seq ?_
                      refine wp_block ?_
                      refine c_seq ?_
                      refine c_region ?_
                      refine L_op (s_e hS (e_assign rfl) rfl ?_); clear hS a; intro a hS
                      refine L_nil ?_
                      refine n_then ?_
                      refine wp_block ?_
                      skip
                      refine c_loop (γ := Nat) (fun k a w => ∃ (p1 p2 : Option (Nat × Nat)) (d1 d2 : Nat), St 231 noB w0 a w [(25, .int .i64 (k : Int)), (24, .int .i64 (j : Int)), (23, .slice (some ⟨g4, 0, none⟩) L4.length c4), (22, .pointer (some ⟨b22, 0, none⟩)), (21, .pointer (some ⟨b21, 0, none⟩)), (19, .pointer (some ⟨b19, 0, none⟩)), (1, .string code)] [.blk b21 [.bool (decide (Z1.1 + (balD code (pre V j x.v.ps k)).1 < 0)), sliceV p1 (dgs (Z1.1 + (balD code (pre V j x.v.ps k)).1).natAbs).length d1] 44, dgP (Z1.1 + (balD code (pre V j x.v.ps k)).1) p1, .blk b22 [.bool (decide (Z1.2 + (balD code (pre V j x.v.ps k)).2 < 0)), sliceV p2 (dgs (Z1.2 + (balD code (pre V j x.v.ps k)).2).natAbs).length d2] 44, dgP (Z1.2 + (balD code (pre V j x.v.ps k)).2) p2, entsA (.slice (some ⟨g4, 0, none⟩) L4.length c4) L4, .blk b19 (encBl (code, Z2.1, Z2.2)) 60] ∧ k ≤ x.v.ps.length) (fun k => x.v.ps.length - k) 0 ⟨p1, p2, d1, d2, (hS.slots (by repeat (first | exact trivial | refine ⟨rfl, ?_⟩))).pick (by repeat (first | exact Pick.nil | (refine Pick.cons (by repeat (first | exact Rem.head | apply Rem.tail)) ?_))), Nat.zero_le _⟩ ?_
                      clear hS a; (try clear w); intro k a w hI
                      obtain ⟨p1, p2, d1, d2, hS, hk⟩ := hI
                      refine c_seq ?_
                      refine c_seq ?_
                      refine c_region ?_
                      refine L_op (s_e hS (e_move rfl) rfl ?_); clear hS a; intro a hS
                      refine L_op (s_e hS (e_move rfl) rfl ?_); clear hS a; intro a hS
                      refine L_op (s_e hS (e_move rfl) rfl ?_); clear hS a; intro a hS
                      refine L_op (s_e hS (e_ixN rfl rfl ty_sl54 ty_sz58 (by omega)) rfl ?_); clear hS a; intro a hS
                      first | (refine L_op (s_e hS (e_fa0 rfl ty_fo58_3) rfl ?_); clear hS a; intro a hS) | (refine L_op (s_e hS (e_faK rfl ty_fo58_3) rfl ?_); clear hS a; intro a hS)
                      refine L_op (s_e hS (e_loadC rfl ty_sc56 (fun w hh => ents_get (by repeat constructor) hx w hh 3 (psV x) rfl)) rfl ?_); clear hS a; intro a hS
                      refine L_op (s_e hS (e_len rfl rfl ty_sl56) rfl ?_); clear hS a; intro a hS
                      refine L_op (s_e hS (e_bin rfl rfl rfl) rfl ?_); clear hS a; intro a hS
                      refine L_nil ?_
                      refine n_then ?_
                      first | refine c_ifD hS rfl (fun hc192 => ?_) (fun hc192 => ?_) | refine c_if hS rfl (fun hc192 => ?_) (fun hc192 => ?_)
                      ·
                        have hkl : k < x.v.ps.length := by omega
                        obtain ⟨y, hy⟩ : ∃ y, x.v.ps[k]? = some y := ⟨x.v.ps[k], List.getElem?_eq_getElem hkl⟩
                        have hyf := hxf y (List.mem_of_getElem? hy)
                        have hyu := hyf.u
                        have hyw := hyf.f
                        have hst := pre_step (V := V) (j := j) hy
                        have hsn := balD_snoc code (pre V j x.v.ps k) y
                        rw [← hst] at hsn
                        have hbd := bd j x.v.ps hxl hxf k
                        generalize hD : balD code (pre V j x.v.ps k) = D at hS hsn hbd
                        refine wp_skip ?_
                        refine n_then ?_
                        refine c_seq ?_
                        refine wp_block ?_
                        refine c_seq ?_
                        refine c_region ?_
                        refine L_op (s_e hS (e_move rfl) rfl ?_); clear hS a; intro a hS
                        refine L_op (s_e hS (e_move rfl) rfl ?_); clear hS a; intro a hS
                        refine L_op (s_e hS (e_ixN rfl rfl ty_sl54 ty_sz58 (by omega)) rfl ?_); clear hS a; intro a hS
                        first | (refine L_op (s_e hS (e_fa0 rfl ty_fo58_3) rfl ?_); clear hS a; intro a hS) | (refine L_op (s_e hS (e_faK rfl ty_fo58_3) rfl ?_); clear hS a; intro a hS)
                        refine L_op (s_e hS (e_loadC rfl ty_sc56 (fun w hh => ents_get (by repeat constructor) hx w hh 3 (psV x) rfl)) rfl ?_); clear hS a; intro a hS
                        refine L_op (s_e hS (e_move rfl) rfl ?_); clear hS a; intro a hS
                        refine L_op (s_e hS (e_ixN rfl rfl ty_sl56 ty_sz63 (by omega)) rfl ?_); clear hS a; intro a hS
                        refine L_op (s_e hS (e_loadAC (l := encP y) rfl ty_st63 ty_sz63 (ents_ps (by repeat constructor) hxm hy)) rfl ?_); clear hS a; intro a hS
                        refine L_op (s_alloc hS ty_z63 rfl ?_); clear hS a; (try clear w); intro a w b26 hS
                        refine L_op (s_storeA hS rfl rfl ty_sz63 (by repeat constructor) (by rfl) (by rfl) (by rfl) ?_); clear hS; (try clear w); intro w hS
                        refine L_nil ?_
                        refine n_then ?_
                        refine c_seq ?_
                        refine c_region ?_
                        first | (refine L_op (s_e hS (e_fa0 rfl ty_fo63_0) rfl ?_); clear hS a; intro a hS) | (refine L_op (s_e hS (e_faK rfl ty_fo63_0) rfl ?_); clear hS a; intro a hS)
                        refine L_op (s_e hS (e_load rfl (by repeat constructor) ty_sc9 (by rfl)) rfl ?_); clear hS a; intro a hS
                        refine L_op (s_e hS (e_move rfl) rfl ?_); clear hS a; intro a hS
                        refine L_op (s_e hS (e_binS rfl rfl rfl) rfl ?_); clear hS a; intro a hS
                        refine L_nil ?_
                        refine n_then ?_
                        first | refine c_ifD hS rfl (fun hc206 => ?_) (fun hc206 => ?_) | refine c_if hS rfl (fun hc206 => ?_) (fun hc206 => ?_)
                        ·
                          rw [if_pos hc206, if_pos hc206] at hsn
                          refine c_seq ?_
                          refine c_drawS [5] (by kernel_rfl) hS (sub_cons (X := .blk b21 _ _) (by repeat constructor) (sub_cons (X := .blk b26 _ _) (by repeat constructor) sub_nil)) ?_; clear hS; (try clear w); intro w hS
                          simp only [List.length_cons, List.length_nil, Nat.zero_add, Nat.reduceAdd, List.replicate]
                          refine Z_take (i := 0) hS rfl want_none (e_loadA rfl (by repeat constructor) ty_st44 ty_sz44 (by rfl)) (listed' := [true, false, false, false, false, false]) rfl (by kernel_rfl) (by kernel_rfl) (by kernel_rfl) (by kernel_rfl) (by kernel_rfl) (sub_cons (by repeat constructor) (sub_cons (by repeat constructor) sub_nil)) (fun _ _ _ h => h) rfl ?_; clear hS a; intro a hS
                          first | (refine Z_take0 (i := 1) hS rfl want_none (e_fa0 rfl ty_fo63_1) (listed' := [true, true, false, false, false, false]) rfl (by kernel_rfl) (by kernel_rfl) (by kernel_rfl) (fun _ _ _ h => h) rfl ?_; clear hS a; intro a hS) | (refine Z_take0 (i := 1) hS rfl want_none (e_faK rfl ty_fo63_1) (listed' := [true, true, false, false, false, false]) rfl (by kernel_rfl) (by kernel_rfl) (by kernel_rfl) (fun _ _ _ h => h) rfl ?_; clear hS a; intro a hS)
                          refine Z_take (i := 2) hS rfl want_none (e_load rfl (by repeat constructor) ty_sc3 (by rfl)) (listed' := [true, true, true, false, false, false]) rfl (by kernel_rfl) (by kernel_rfl) (by kernel_rfl) (by kernel_rfl) (by kernel_rfl) (sub_cons (by repeat constructor) (sub_cons (by repeat constructor) sub_nil)) (fun _ _ _ h => h) rfl ?_; clear hS a; intro a hS
                          refine Z_one (i := 3) rfl (want_none a hS.sl) (listed' := [true, true, true, true, false, false]) rfl (by kernel_rfl) (s_callN hS (.cons rfl .nil) cf22 rfl (BigOf_P y.u (by omega) _) ?_); clear hS a; (try clear w); intro x210 a w hS
                          refine Z_and hS (sub_cons (by repeat constructor) (sub_cons (by repeat constructor) sub_nil)) ?_
                          have hA := BigAdd_P p1 (some (x210.1.1, 0)) d1 x210.1.2 (Z1.1 + D.1) y.u 20 (by decide) (len20 (by omega)) (len20 (by omega)) _ (two_ok (hS.get (X := dgP (Z1.1 + D.1) p1) (by repeat constructor)) (hS.get (X := bigA y.u x210.1.1) (by repeat constructor)) (fun r e => (hS.ok (dgP (Z1.1 + D.1) p1) (by repeat constructor)).lt r.1 ⟨r.2, e⟩) (fun r e => by cases e; exact (hS.ok (bigA y.u x210.1.1) (by repeat constructor)).lt _ rfl))
                          refine Z_one (i := 4) rfl (want_none a hS.sl) (listed' := [true, true, true, true, true, false]) rfl (by kernel_rfl) (s_callN hS (.cons rfl (.cons rfl .nil)) cf23 rfl (hA) ?_); clear hS a; (try clear w); intro x211 a w hS
                          clear hA
                          refine Z_and hS (sub_cons (by repeat constructor) (sub_cons (by repeat constructor) sub_nil)) ?_
                          refine Z_one (i := 5) rfl (want_none a hS.sl) (listed' := [true, true, true, true, true, true]) rfl (by kernel_rfl) (s_storeA hS rfl rfl ty_sz44 (by repeat constructor) (by rfl) (by rfl) (by rfl) ?_); clear hS; (try clear w); intro w hS
                          refine Z_last (by simp) ?_
                          refine Z_done (by kernel_rfl) ?_
                          refine n_then ?_
                          refine c_drawS [5] (by kernel_rfl) hS (sub_cons (X := .blk b22 _ _) (by repeat constructor) (sub_cons (X := .blk b26 _ _) (by repeat constructor) sub_nil)) ?_; clear hS; (try clear w); intro w hS
                          simp only [List.length_cons, List.length_nil, Nat.zero_add, Nat.reduceAdd, List.replicate]
                          refine Z_take (i := 0) hS rfl want_none (e_loadA rfl (by repeat constructor) ty_st44 ty_sz44 (by rfl)) (listed' := [true, false, false, false, false, false]) rfl (by kernel_rfl) (by kernel_rfl) (by kernel_rfl) (by kernel_rfl) (by kernel_rfl) (sub_cons (by repeat constructor) (sub_cons (by repeat constructor) sub_nil)) (fun _ _ _ h => h) rfl ?_; clear hS a; intro a hS
                          first | (refine Z_take0 (i := 1) hS rfl want_none (e_fa0 rfl ty_fo63_2) (listed' := [true, true, false, false, false, false]) rfl (by kernel_rfl) (by kernel_rfl) (by kernel_rfl) (fun _ _ _ h => h) rfl ?_; clear hS a; intro a hS) | (refine Z_take0 (i := 1) hS rfl want_none (e_faK rfl ty_fo63_2) (listed' := [true, true, false, false, false, false]) rfl (by kernel_rfl) (by kernel_rfl) (by kernel_rfl) (fun _ _ _ h => h) rfl ?_; clear hS a; intro a hS)
                          refine Z_take (i := 2) hS rfl want_none (e_load rfl (by repeat constructor) ty_sc3 (by rfl)) (listed' := [true, true, true, false, false, false]) rfl (by kernel_rfl) (by kernel_rfl) (by kernel_rfl) (by kernel_rfl) (by kernel_rfl) (sub_cons (by repeat constructor) (sub_cons (by repeat constructor) sub_nil)) (fun _ _ _ h => h) rfl ?_; clear hS a; intro a hS
                          refine Z_one (i := 3) rfl (want_none a hS.sl) (listed' := [true, true, true, true, false, false]) rfl (by kernel_rfl) (s_callN hS (.cons rfl .nil) cf22 rfl (BigOf_P y.f (by omega) _) ?_); clear hS a; (try clear w); intro x215 a w hS
                          refine Z_and hS (sub_cons (by repeat constructor) (sub_cons (by repeat constructor) sub_nil)) ?_
                          have hA := BigAdd_P p2 (some (x215.1.1, 0)) d2 x215.1.2 (Z1.2 + D.2) y.f 20 (by decide) (len20 (by omega)) (len20 (by omega)) _ (two_ok (hS.get (X := dgP (Z1.2 + D.2) p2) (by repeat constructor)) (hS.get (X := bigA y.f x215.1.1) (by repeat constructor)) (fun r e => (hS.ok (dgP (Z1.2 + D.2) p2) (by repeat constructor)).lt r.1 ⟨r.2, e⟩) (fun r e => by cases e; exact (hS.ok (bigA y.f x215.1.1) (by repeat constructor)).lt _ rfl))
                          refine Z_one (i := 4) rfl (want_none a hS.sl) (listed' := [true, true, true, true, true, false]) rfl (by kernel_rfl) (s_callN hS (.cons rfl (.cons rfl .nil)) cf23 rfl (hA) ?_); clear hS a; (try clear w); intro x216 a w hS
                          clear hA
                          refine Z_and hS (sub_cons (by repeat constructor) (sub_cons (by repeat constructor) sub_nil)) ?_
                          refine Z_one (i := 5) rfl (want_none a hS.sl) (listed' := [true, true, true, true, true, true]) rfl (by kernel_rfl) (s_storeA hS rfl rfl ty_sz44 (by repeat constructor) (by rfl) (by rfl) (by rfl) ?_); clear hS; (try clear w); intro w hS
                          refine Z_last (by simp) ?_
                          refine Z_done (by kernel_rfl) ?_
                          refine n_block ?_
                          refine n_then ?_
                          refine c_region ?_
                          refine L_op (s_e hS (e_move rfl) rfl ?_); clear hS a; intro a hS
                          first | (refine L_op (s_e hS (e_binN rfl rfl rfl (by omega)) rfl ?_); clear hS a; intro a hS) | (refine L_op (s_e hS (e_bin rfl rfl rfl) rfl ?_); clear hS a; intro a hS)
                          refine L_op (s_e hS (e_assign rfl) rfl ?_); clear hS a; intro a hS
                          refine L_nil ?_
                          first
                          | (have hne : ¬ y.acc = code := hc206
                             rw [if_neg hne, if_neg hne, Int.add_zero, Int.add_zero] at hsn
                             refine ⟨k + 1, by omega, p1, p2, d1, d2, ?_, by omega⟩
                             rw [hsn]
                             exact (hS.slots (by repeat (first | exact trivial | refine ⟨rfl, ?_⟩))).pick (by repeat (first | exact Pick.nil | (refine Pick.cons (by repeat (first | exact Rem.head | apply Rem.tail)) ?_))))
                          | (replace hS := hS.swap (X := bigA (Z1.1 + D.1 + y.u) x211.1.1) (Y := dgP (Z1.1 + D.1 + y.u) (some (x211.1.1, 0))) (by repeat constructor) (dgP_of (hS.ok (bigA (Z1.1 + D.1 + y.u) x211.1.1) (by repeat constructor))) (fun b hb => by obtain ⟨off, e⟩ := hb; cases e; rfl) rfl
                             replace hS := hS.swap (X := bigA (Z1.2 + D.2 + y.f) x216.1.1) (Y := dgP (Z1.2 + D.2 + y.f) (some (x216.1.1, 0))) (by repeat constructor) (dgP_of (hS.ok (bigA (Z1.2 + D.2 + y.f) x216.1.1) (by repeat constructor))) (fun b hb => by obtain ⟨off, e⟩ := hb; cases e; rfl) rfl
                             refine ⟨k + 1, by omega, some (x211.1.1, 0), some (x216.1.1, 0), x211.1.2, x216.1.2, ?_, by omega⟩
                             rw [hsn]
                             simp only
                             rw [← Int.add_assoc, ← Int.add_assoc]
                             exact (hS.slots (by repeat (first | exact trivial | refine ⟨rfl, ?_⟩))).pick (by repeat (first | exact Pick.nil | (refine Pick.cons (by repeat (first | exact Rem.head | apply Rem.tail)) ?_))))
                        ·
                          refine wp_skip ?_
                          refine n_block ?_
                          refine n_then ?_
                          refine c_region ?_
                          refine L_op (s_e hS (e_move rfl) rfl ?_); clear hS a; intro a hS
                          first | (refine L_op (s_e hS (e_binN rfl rfl rfl (by omega)) rfl ?_); clear hS a; intro a hS) | (refine L_op (s_e hS (e_bin rfl rfl rfl) rfl ?_); clear hS a; intro a hS)
                          refine L_op (s_e hS (e_assign rfl) rfl ?_); clear hS a; intro a hS
                          refine L_nil ?_
                          first
                          | (have hne : ¬ y.acc = code := hc206
                             rw [if_neg hne, if_neg hne, Int.add_zero, Int.add_zero] at hsn
                             refine ⟨k + 1, by omega, p1, p2, d1, d2, ?_, by omega⟩
                             rw [hsn]
                             exact (hS.slots (by repeat (first | exact trivial | refine ⟨rfl, ?_⟩))).pick (by repeat (first | exact Pick.nil | (refine Pick.cons (by repeat (first | exact Rem.head | apply Rem.tail)) ?_))))
                          | (replace hS := hS.swap (X := bigA (Z1.1 + D.1 + y.u) x211.1.1) (Y := dgP (Z1.1 + D.1 + y.u) (some (x211.1.1, 0))) (by repeat constructor) (dgP_of (hS.ok (bigA (Z1.1 + D.1 + y.u) x211.1.1) (by repeat constructor))) (fun b hb => by obtain ⟨off, e⟩ := hb; cases e; rfl) rfl
                             replace hS := hS.swap (X := bigA (Z1.2 + D.2 + y.f) x216.1.1) (Y := dgP (Z1.2 + D.2 + y.f) (some (x216.1.1, 0))) (by repeat constructor) (dgP_of (hS.ok (bigA (Z1.2 + D.2 + y.f) x216.1.1) (by repeat constructor))) (fun b hb => by obtain ⟨off, e⟩ := hb; cases e; rfl) rfl
                             refine ⟨k + 1, by omega, some (x211.1.1, 0), some (x216.1.1, 0), x211.1.2, x216.1.2, ?_, by omega⟩
                             rw [hsn]
                             simp only
                             rw [← Int.add_assoc, ← Int.add_assoc]
                             exact (hS.slots (by repeat (first | exact trivial | refine ⟨rfl, ?_⟩))).pick (by repeat (first | exact Pick.nil | (refine Pick.cons (by repeat (first | exact Rem.head | apply Rem.tail)) ?_))))
                      ·
                        obtain rfl : k = x.v.ps.length := by omega
                        rw [← hnx] at hS
                        refine wp_exit ?_
                        refine x_then (x_then (x_hit ?_))
                        refine n_block ?_
                        refine n_then ?_
                        refine c_region ?_
                        refine L_op (s_e hS (e_move rfl) rfl ?_); clear hS a; intro a hS
                        first | (refine L_op (s_e hS (e_binN rfl rfl rfl (by omega)) rfl ?_); clear hS a; intro a hS) | (refine L_op (s_e hS (e_bin rfl rfl rfl) rfl ?_); clear hS a; intro a hS)
                        refine L_op (s_e hS (e_assign rfl) rfl ?_); clear hS a; intro a hS
                        refine L_nil ?_
                        exact ⟨j + 1, by omega, p1, p2, d1, d2, (hS.slots (by repeat (first | exact trivial | refine ⟨rfl, ?_⟩))).pick (by repeat (first | exact Pick.nil | (refine Pick.cons (by repeat (first | exact Rem.head | apply Rem.tail)) ?_))), by omega⟩
                    ·
                      obtain rfl : j = L4.length := by omega
                      have hpa : pre V L4.length [] 0 = V.flatMap (·.ps) := by unfold pre; rw [← hVl, List.take_length]; simp
                      rw [hpa] at hS
                      rw [show Z1.1 + (balD code (V.flatMap (·.ps))).1 = Z2.1 from by rw [hbt], show Z1.2 + (balD code (V.flatMap (·.ps))).2 = Z2.2 from by rw [hbt]] at hS
                      refine wp_exit ?_
                      refine x_then (x_then (x_hit ?_))
                      refine n_then ?_
                      refine c_seq ?_
                      refine c_drawS [] (by kernel_rfl) hS (sub_cons (X := .blk b21 _ _) (by repeat constructor) (sub_cons (X := .blk b22 _ _) (by repeat constructor) (sub_cons (X := .blk b19 _ _) (by repeat constructor) sub_nil))) ?_; clear hS; (try clear w); intro w hS
                      simp only [List.length_cons, List.length_nil, Nat.zero_add, Nat.reduceAdd, List.replicate]
                      refine Z_take (i := 0) hS rfl want_none (e_loadA rfl (by repeat constructor) ty_st44 ty_sz44 (by rfl)) (listed' := [true, false, false, false, false, false, false, false, false, false, false, false, false, false, false]) rfl (by kernel_rfl) (by kernel_rfl) (by kernel_rfl) (by kernel_rfl) (by kernel_rfl) (sub_cons (by repeat constructor) (sub_cons (by repeat constructor) (sub_cons (by repeat constructor) sub_nil))) (fun _ _ _ h => h) rfl ?_; clear hS a; intro a hS
                      first | (refine Z_take0 (i := 1) hS rfl want_none (e_fa0 rfl ty_fo60_1) (listed' := [true, true, false, false, false, false, false, false, false, false, false, false, false, false, false]) rfl (by kernel_rfl) (by kernel_rfl) (by kernel_rfl) (fun _ _ _ h => h) rfl ?_; clear hS a; intro a hS) | (refine Z_take0 (i := 1) hS rfl want_none (e_faK rfl ty_fo60_1) (listed' := [true, true, false, false, false, false, false, false, false, false, false, false, false, false, false]) rfl (by kernel_rfl) (by kernel_rfl) (by kernel_rfl) (fun _ _ _ h => h) rfl ?_; clear hS a; intro a hS)
                      refine Z_take (i := 2) hS rfl want_none (e_load rfl (by repeat constructor) ty_sc3 (by rfl)) (listed' := [true, true, true, false, false, false, false, false, false, false, false, false, false, false, false]) rfl (by kernel_rfl) (by kernel_rfl) (by kernel_rfl) (by kernel_rfl) (by kernel_rfl) (sub_cons (by repeat constructor) (sub_cons (by repeat constructor) (sub_cons (by repeat constructor) sub_nil))) (fun _ _ _ h => h) rfl ?_; clear hS a; intro a hS
                      refine Z_one (i := 3) rfl (want_none a hS.sl) (listed' := [true, true, true, true, false, false, false, false, false, false, false, false, false, false, false]) rfl (by kernel_rfl) (s_callN hS (.cons rfl .nil) cf22 rfl (BigOf_P Z2.1 (by omega) _) ?_); clear hS a; (try clear w); intro x220 a w hS
                      refine Z_and hS (sub_cons (by repeat constructor) (sub_cons (by repeat constructor) (sub_cons (by repeat constructor) sub_nil))) ?_
                      refine Z_one (i := 4) rfl (want_none a hS.sl) (listed' := [true, true, true, true, true, false, false, false, false, false, false, false, false, false, false]) rfl (by kernel_rfl) (s_callP hS (.cons rfl (.cons rfl .nil)) cf24 rfl (BigCmp_P p1 (some (x220.1.1, 0)) d1 x220.1.2 Z2.1 Z2.1 (by have := len20 (z := Z2.1) (by omega); omega) _ (two_ok (hS.get (X := dgP Z2.1 p1) (by repeat constructor)) (hS.get (X := bigA Z2.1 x220.1.1) (by repeat constructor)) (fun r e => (hS.ok (dgP Z2.1 p1) (by repeat constructor)).lt r.1 ⟨r.2, e⟩) (fun r e => by cases e; exact (hS.ok (bigA Z2.1 x220.1.1) (by repeat constructor)).lt _ rfl))) ?_); clear hS a; (try clear w); intro a w hS
                      refine Z_and hS (sub_cons (by repeat constructor) (sub_cons (by repeat constructor) (sub_cons (by repeat constructor) sub_nil))) ?_
                      refine Z_take0 (i := 5) hS rfl want_none (e_bin rfl rfl rfl) (listed' := [true, true, true, true, true, true, false, false, false, false, false, false, false, false, false]) rfl (by kernel_rfl) (by kernel_rfl) (by kernel_rfl) (fun _ _ _ h => h) rfl ?_; clear hS a; intro a hS
                      refine Z_take0 (i := 6) hS rfl want_none (e_move rfl) (listed' := [true, true, true, true, true, true, true, false, false, false, false, false, false, false, false]) rfl (by kernel_rfl) (by kernel_rfl) (by kernel_rfl) (fun _ _ _ h => h) rfl ?_; clear hS a; intro a hS
                      replace hS := hS.is (t := 223) (c := true) rfl ((by unfold cmpZ; simp))
                      refine Z_take (i := 7) hS rfl (want_go rfl rfl) (e_loadA rfl (by repeat constructor) ty_st44 ty_sz44 (by rfl)) (listed' := [true, true, true, true, true, true, true, true, false, false, false, false, false, false, false]) rfl (by kernel_rfl) (by kernel_rfl) (by kernel_rfl) (by kernel_rfl) (by kernel_rfl) (sub_cons (by repeat constructor) (sub_cons (by repeat constructor) (sub_cons (by repeat constructor) sub_nil))) (fun _ _ _ h => h) rfl ?_; clear hS a; intro a hS
                      first | (refine Z_take0 (i := 8) hS rfl (want_go rfl rfl) (e_fa0 rfl ty_fo60_2) (listed' := [true, true, true, true, true, true, true, true, true, false, false, false, false, false, false]) rfl (by kernel_rfl) (by kernel_rfl) (by kernel_rfl) (fun _ _ _ h => h) rfl ?_; clear hS a; intro a hS) | (refine Z_take0 (i := 8) hS rfl (want_go rfl rfl) (e_faK rfl ty_fo60_2) (listed' := [true, true, true, true, true, true, true, true, true, false, false, false, false, false, false]) rfl (by kernel_rfl) (by kernel_rfl) (by kernel_rfl) (fun _ _ _ h => h) rfl ?_; clear hS a; intro a hS)
                      refine Z_take (i := 9) hS rfl (want_go rfl rfl) (e_load rfl (by repeat constructor) ty_sc3 (by rfl)) (listed' := [true, true, true, true, true, true, true, true, true, true, false, false, false, false, false]) rfl (by kernel_rfl) (by kernel_rfl) (by kernel_rfl) (by kernel_rfl) (by kernel_rfl) (sub_cons (by repeat constructor) (sub_cons (by repeat constructor) (sub_cons (by repeat constructor) sub_nil))) (fun _ _ _ h => h) rfl ?_; clear hS a; intro a hS
                      refine Z_one (i := 10) rfl (want_go rfl rfl a hS.sl) (listed' := [true, true, true, true, true, true, true, true, true, true, true, false, false, false, false]) rfl (by kernel_rfl) (s_callN hS (.cons rfl .nil) cf22 rfl (BigOf_P Z2.2 (by omega) _) ?_); clear hS a; (try clear w); intro x227 a w hS
                      refine Z_and hS (sub_cons (by repeat constructor) (sub_cons (by repeat constructor) (sub_cons (by repeat constructor) sub_nil))) ?_
                      refine Z_one (i := 11) rfl (want_go rfl rfl a hS.sl) (listed' := [true, true, true, true, true, true, true, true, true, true, true, true, false, false, false]) rfl (by kernel_rfl) (s_callP hS (.cons rfl (.cons rfl .nil)) cf24 rfl (BigCmp_P p2 (some (x227.1.1, 0)) d2 x227.1.2 Z2.2 Z2.2 (by have := len20 (z := Z2.2) (by omega); omega) _ (two_ok (hS.get (X := dgP Z2.2 p2) (by repeat constructor)) (hS.get (X := bigA Z2.2 x227.1.1) (by repeat constructor)) (fun r e => (hS.ok (dgP Z2.2 p2) (by repeat constructor)).lt r.1 ⟨r.2, e⟩) (fun r e => by cases e; exact (hS.ok (bigA Z2.2 x227.1.1) (by repeat constructor)).lt _ rfl))) ?_); clear hS a; (try clear w); intro a w hS
                      refine Z_and hS (sub_cons (by repeat constructor) (sub_cons (by repeat constructor) (sub_cons (by repeat constructor) sub_nil))) ?_
                      refine Z_take0 (i := 12) hS rfl (want_go rfl rfl) (e_bin rfl rfl rfl) (listed' := [true, true, true, true, true, true, true, true, true, true, true, true, true, false, false]) rfl (by kernel_rfl) (by kernel_rfl) (by kernel_rfl) (fun _ _ _ h => h) rfl ?_; clear hS a; intro a hS
                      first | (refine Z_take0 (i := 13) hS rfl want_none (e_pick_t rfl rfl) (listed' := [true, true, true, true, true, true, true, true, true, true, true, true, true, true, false]) rfl (by kernel_rfl) (by kernel_rfl) (by kernel_rfl) (fun _ _ _ h => h) rfl ?_; clear hS a; intro a hS) | (refine Z_take0 (i := 13) hS rfl want_none (e_pick_f rfl rfl) (listed' := [true, true, true, true, true, true, true, true, true, true, true, true, true, true, false]) rfl (by kernel_rfl) (by kernel_rfl) (by kernel_rfl) (fun _ _ _ h => h) rfl ?_; clear hS a; intro a hS)
                      refine Z_take0 (i := 14) hS rfl want_none (e_assign rfl) (listed' := [true, true, true, true, true, true, true, true, true, true, true, true, true, true, true]) rfl (by kernel_rfl) (by kernel_rfl) (by kernel_rfl) (fun _ _ _ h => h) rfl ?_; clear hS a; intro a hS
                      refine Z_done (by kernel_rfl) ?_
                      refine n_then ?_
                      refine wp_ret ?_
                      refine c_ret1 hS Try.results6 (.tmp rfl) ?_
                      exact ⟨by unfold cmpZ; simp, hS.chg⟩
end Go.Proofs.Ytheofhegdjjfgaa

namespace Go.Proofs.Ytheofhegdjjfgaa.Open
set_option maxRecDepth 100000
open Go.ChangeShapes Go.WideShapes Go.Deep
section
variable {H : Type} {enc : TypeId × Value → H} {P : Program} {w : World} {base : Nat} {spare : Nat → Bool} {held : Bool}
theorem open_slice_fields {t e : TypeId} {fs : Array Field} {fuel : Nat} {cs : List Value} {x : DataW H × List MemPlace} (ht : P.underlying t = some (.slice e)) (he : P.underlying e = some (.struct fs))
    (hone : oneCellFields P fs = true) (hC : P.cellsOf e = fs.size) (h : DataW.trod enc P w base spare held fuel t cs = some x) :
    (cs = [.slice none 0 0] ∧ x = (.nil, [])) ∨
    ∃ (a : Addr) (len cap m : Nat) (D : Nat → DataW H) (Pl : Nat → List MemPlace), cs = [.slice (some a) len cap] ∧ base ≤ a.block ∧ len ≤ cap ∧ cap ≤ maxLen ∧ m = (if spare a.block then cap else len) ∧
      x = (.slice ((List.range len).map D) ((List.range (m - len)).map fun j => D (len + j)), MemPlace.row a (m * fs.size) ++ (List.range m).flatMap Pl) ∧
      ∀ i, i < m → ∃ (ys : List (DataW H × List MemPlace)) (n : Nat), D i = .agg (ys.map (·.1)) ∧ Pl i = ys.flatMap (·.2) ∧ ys.length = fs.size ∧
        ∀ (j : Nat) (f : Field), fs[j]? = some f → ∃ (v : Value) (y : DataW H × List MemPlace), w.cell? (a.add (i * fs.size + j)) = some v ∧ ys[j]? = some y ∧ DataW.trod enc P w base spare held n f.type [v] = some y := by
  rcases open_slice ht h with h0 | ⟨a, len, cap, m, n, D, Pl, hcs, hb, hl, hm, hmm, hx, hi⟩
  · exact .inl h0
  · refine .inr ⟨a, len, cap, m, D, Pl, hcs, hb, hl, hm, hmm, by rw [hC] at hx; exact hx, fun i him => ?_⟩
    obtain ⟨cs', hc, ht'⟩ := hi i him
    rw [hC] at hc
    obtain ⟨ys, n', hn', hy, hlen, hyl, hf⟩ := DataW.trod_struct he ht'
    obtain ⟨_, hcl, hat⟩ := World.cells?_some hc
    simp only [Prod.mk.injEq] at hy
    refine ⟨ys, n', hy.1, hy.2, hyl, fun j f hj => ?_⟩
    obtain ⟨ho, hk⟩ := hone_of hone j f hj
    have hjl : j < fs.size := (Array.getElem?_eq_some_iff.1 hj).1
    have hcell := hat j hjl
    have hv : cs'[j]? = some (cs'[j]'(by omega)) := List.getElem?_eq_getElem (by omega)
    have h1 := hf j f hj
    rw [ho, hk] at h1
    have hone' : (cs'.drop j).take 1 = [cs'[j]'(by omega)] := by
      rw [List.drop_eq_getElem_cons (by omega)]
      rfl
    rw [hone'] at h1
    have hys : ys[j]? = some (ys[j]'(by omega)) := List.getElem?_eq_getElem (by omega)
    refine ⟨_, _, ?_, hys, h1.trans hys⟩
    rw [← Go.Deep.add_add, hcell, hv]
end

section
variable {H : Type} {enc : TypeId × Value → H}
theorem weights_all {P : Program} {e : TypeId} {d : DataW H} {n : Nat} (hn : n ∈ d.weights P e) : ∀ {l : List (DataW H)}, d ∈ l → n ∈ DataW.weightsAll P e l
  | x :: r, h => by
    simp only [DataW.weightsAll, List.mem_append]
    rcases List.mem_cons.1 h with rfl | h
    · exact .inl hn
    · exact .inr (weights_all hn h)

theorem shape_lt {w : World} {b : Nat} {x : TypeId × Nat} (h : w.shape? b = some x) : b < w.heap.size := by
  unfold World.shape? at h
  by_cases hb : b < w.heap.size
  · exact hb
  · rw [Array.getElem?_eq_none (by omega)] at h; cases h

theorem add_spot {a : Addr} (h : a.spot = none) (n : Nat) : a.add n = ⟨a.block, a.off + n, none⟩ := by
  unfold Addr.add
  split
  · next h0 => subst h0; cases a; simp_all
  · rfl


/-- a slice's outer form, as it came in. -/
theorem slice_has {W : World} {base : Nat} {t e : TypeId} {a : Addr} {len cap : Nat} (hu : Try.prog.underlying t = some (.slice e)) (h : Value.okWide Try.prog W .any base t (.slice (some a) len cap)) : a.spot = none ∧ a.block < W.heap.size := by
  unfold Value.okWide at h
  rw [hu] at h
  simp only at h
  unfold Cell.okWide at h
  rw [hu] at h
  simp only at h
  unfold Cell.ok at h
  rw [hu] at h
  simp only at h
  obtain ⟨_, _, _, hs, row, cells, hsh, _⟩ := h
  exact ⟨hs, shape_lt hsh⟩
end
end Go.Proofs.Ytheofhegdjjfgaa.Open
