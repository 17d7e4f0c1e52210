/- FxWorth: for every argument the law returns true, and each argument reads afterwards as it read before. No conditions. (text 2 of 5) -/
import Derived.Test.YtheofhegdjjfgaaGreatLWoC1
import Derived.RangeFuncOne
import Derived.RangeFuncLeaves
namespace Go.Proofs.YtheofhegdjjfgaaGreat
open Go.RowKit
theorem lz_w (y : Int) (h0 : 0 < y) (h1 : y < 18446744073709551616) (w : World) :
    Calls Tryz.prog 146 #[.int .u64 y] w fun e w' => e = .returned (.int .i64 (Wd.lz y : Int)) ∧ w = w' := by
  have hb := (Wd.lz_of y h0 h1).1
  refine (Tryz.bits_LeadingZeros64 y w (by omega) (by omega)).mono fun e w' ⟨he, hw⟩ => ⟨?_, hw.symm⟩
  rw [he]; unfold Wd.lz
  rw [show ((64 - Lib.bitLen y.toNat : Nat) : Int) = 64 - (Lib.bitLen y.toNat : Int) from by omega]
theorem Wd.words_y (y : Int) (h0 : 0 < y) (h1 : y < 18446744073709551616) : IntKind.u64.wrap (y * 2 ^ Wd.lz y) = Wd.dY y ∧ bits BinOp.and IntKind.u64 (Wd.dY y) 4294967295 = Wd.d0 y := by
  have h := Wd.dY_bd y h0 h1
  refine ⟨?_, Wd.and_mask _ (by omega) h.2⟩
  rw [IntKind.wrap_u64]; show Wd.dY y % _ = _; omega
theorem Wd.words_l (l y : Int) : IntKind.u64.wrap (l * 2 ^ Wd.lz y) = Wd.dL l y ∧ bits BinOp.and IntKind.u64 (Wd.dL l y) 4294967295 = Wd.e0 l y :=
  ⟨by rw [IntKind.wrap_u64]; rfl, Wd.and_mask _ (Wd.dL_bd l y).1 (Wd.dL_bd l y).2⟩
theorem Wd.words_h (x l y : Int) (hx : 0 ≤ x) (hxy : x < y) (hl : 0 ≤ l) (hl1 : l < 18446744073709551616) (h1 : y < 18446744073709551616) :
    bits BinOp.or IntKind.u64 (IntKind.u64.wrap (x * 2 ^ Wd.lz y)) (l / 2 ^ (64 - Wd.lz y)) = Wd.dH x l y := by
  have h := Wd.dY_bd y (by omega) h1
  have hp := Wd.pow_pos (Wd.lz y)
  have hz := (Wd.lz_of y (by omega) h1).2.1
  have hlt : x * 2 ^ Wd.lz y < Wd.dY y := Int.mul_lt_mul_of_pos_right hxy hp
  have h0 : 0 ≤ x * 2 ^ Wd.lz y := Int.mul_nonneg hx (by omega)
  have e : IntKind.u64.wrap (x * 2 ^ Wd.lz y) = x * 2 ^ Wd.lz y := by rw [IntKind.wrap_u64]; omega
  rw [e]
  refine Wd.or_shift x _ _ hx (Int.ediv_nonneg hl (Int.le_of_lt (Wd.pow_pos _))) ?_ (by omega) hz
  refine (Int.ediv_lt_iff_lt_mul (Wd.pow_pos _)).2 ?_
  rw [Int.mul_comm, Wd.pow_split _ (by omega)]; exact hl1
theorem Wd.rest_wrap {y1 y0 u u1 : Int} (d : Wd.KD y1 y0 u u1) (y : Int) (h : y1 * 4294967296 + y0 = Wd.dY y) :
    IntKind.u64.wrap (IntKind.u64.wrap (IntKind.u64.wrap (u * 4294967296) + u1) - IntKind.u64.wrap (Wd.Kq y1 y0 u u1 * Wd.dY y)) = Wd.Kr y1 y0 u u1 := by
  have e := Wd.Kr_wrap d
  rw [h] at e
  generalize Wd.Kq y1 y0 u u1 * Wd.dY y = p at *
  rw [IntKind.wrap_u64, IntKind.wrap_u64, IntKind.wrap_u64, IntKind.wrap_u64]
  omega
theorem Wd.prod_bd {q y0 : Int} (h0 : 0 ≤ q) (h1 : q < 4294967296) (h2 : 0 ≤ y0) (h3 : y0 < 4294967296) : 0 ≤ q * y0 ∧ q * y0 ≤ 18446744065119617025 :=
  ⟨Int.mul_nonneg h0 h2, by have := Int.mul_le_mul (a := q) (b := y0) (c := 4294967295) (d := 4294967295) (by omega) (by omega) h2 (by omega); omega⟩
set_option maxHeartbeats 4000000 in
theorem Div64_k (x l y : Int) (hx : 0 < x) (hxy : x < y) (hl : 0 ≤ l) (hl1 : l < 18446744073709551616) (hy1 : y < 18446744073709551616) (w : World) :
    Calls Tryz.prog 130 #[.int .u64 x, .int .u64 l, .int .u64 y] w fun e w' => e = .returned (.tuple #[.int .u64 (Wd.Kq (Wd.d1 y) (Wd.d0 y) (Wd.dH x l y) (Wd.e1 l y) * 4294967296 + Wd.Kq (Wd.d1 y) (Wd.d0 y) (Wd.dR x l y) (Wd.e0 l y)), .int .u64 (Wd.Kr (Wd.d1 y) (Wd.d0 y) (Wd.dR x l y) (Wd.e0 l y) / 2 ^ Wd.lz y)]) ∧ w = w' := by
  have hy0 : (y == 0) = false := by simp; omega
  have hx0 : (x == 0) = false := by simp; omega
  have hyx : decide (y ≤ x) = false := by simp; omega
  have hz := (Wd.lz_of y (by omega) hy1).2.1
  obtain ⟨t1, t2⟩ := Wd.words_y y (by omega) hy1
  obtain ⟨t3, t4⟩ := Wd.words_l l y
  have t5 := Wd.words_h x l y (by omega) hxy hl hl1 hy1
  have t6 : Wd.dY y / 4294967296 = Wd.d1 y := rfl
  have t7 : Wd.dL l y / 4294967296 = Wd.e1 l y := rfl
  obtain ⟨b1, b2, b3, b4, _⟩ := Wd.d_bd y (by omega) hy1
  obtain ⟨c1, c2, c3, c4, _⟩ := Wd.e_bd l y
  have D1 := Wd.KD_hi x l y (by omega) hxy hl hl1 hy1
  have D2 := Wd.KD_lo x l y (by omega) hxy hl hl1 hy1
  have n1 : (Wd.d1 y == 0) = false := by simp; omega
  obtain ⟨u0, u1⟩ := Wd.dH_bd x l y (by omega) hxy hl hl1 hy1
  have u2 := (Wd.dY_bd y (by omega) hy1).2
  have m0 : 0 ≤ Wd.dH x l y / Wd.d1 y := Int.ediv_nonneg u0 (by omega)
  have m1 : Wd.dH x l y / Wd.d1 y * Wd.d1 y ≤ Wd.dH x l y := Int.ediv_mul_le _ (by omega)
  have m2 : 0 ≤ Wd.dH x l y / Wd.d1 y * Wd.d1 y := Int.mul_nonneg m0 (by omega)
  obtain ⟨v0, v1⟩ := Wd.Kr_bd D1
  have v1' : Wd.dR x l y < 18446744073709551616 := by show Wd.Kr _ _ _ _ < _; omega
  have v0' : 0 ≤ Wd.dR x l y := v0
  clear v0 v1
  obtain ⟨g0, g1⟩ := Wd.Kq_bd D1
  obtain ⟨g2, g3⟩ := Wd.Kq_bd D2
  obtain ⟨g4, g5⟩ := Wd.Kr_bd D2
  have o0 : 0 ≤ Wd.dR x l y / Wd.d1 y := Int.ediv_nonneg v0' (by omega)
  have o1 : Wd.dR x l y / Wd.d1 y * Wd.d1 y ≤ Wd.dR x l y := Int.ediv_mul_le _ (by omega)
  have o2 : 0 ≤ Wd.dR x l y / Wd.d1 y * Wd.d1 y := Int.mul_nonneg o0 (by omega)
  have o3 : Wd.dR x l y / Wd.d1 y ≤ 4294967297 := (Wd.KI_init D2).2.1
  have w1 := Wd.rest_wrap D1 y (Wd.d_bd y (by omega) hy1).2.2.2.2
  have w1' : IntKind.u64.wrap (IntKind.u64.wrap (IntKind.u64.wrap (Wd.dH x l y * 4294967296) + Wd.e1 l y) - IntKind.u64.wrap (Wd.Kq (Wd.d1 y) (Wd.d0 y) (Wd.dH x l y) (Wd.e1 l y) * Wd.dY y)) = Wd.dR x l y := w1
  have w2 := Wd.rest_wrap D2 y (Wd.d_bd y (by omega) hy1).2.2.2.2
  clear w1
  have m3 : Wd.dH x l y / Wd.d1 y ≤ 4294967297 := (Wd.KI_init D1).2.1
  go_enter Tryz.func130, Tryz.ntmps130
  go_wp2_with (first | (go_at_call 146; refine (lz_w y (by omega) hy1 _).mono ?_; rintro e w1 ⟨rfl, rfl⟩))
  go_loop [15, 16] (fun q r => ∃ qi ri : Int, Wd.KI (Wd.d1 y) (Wd.d0 y) (Wd.dH x l y) (Wd.e1 l y) qi ri ∧ q = .int .u64 qi ∧ r = .int .u64 ri) (fun q _ => (intOf q).toNat)
  case atStart => exact ⟨_, _, Wd.KI_init D1, rfl, by rw [Int.emod_def, Int.mul_comm (Wd.d1 y)]⟩
  case round =>
    obtain ⟨q, r, k, rfl, rfl⟩ := hrel
    obtain ⟨k1, k2, k3, k4, _, _⟩ := id k
    by_cases hq : 4294967296 ≤ q
    · have hl := Wd.KI_low k D1 (Or.inl hq)
      have hl2 := hl.2
      clear hl
      by_cases hr : r + Wd.d1 y < 4294967296
      · have ks := Wd.KI_step k D1 (Or.inl hq) hr
        go_wp2
        go_round
        case rel => exact ⟨_, _, ks, rfl, rfl⟩
        case measure => simp [intOf]; omega
      · obtain rfl : q = Wd.Kq (Wd.d1 y) (Wd.d0 y) (Wd.dH x l y) (Wd.e1 l y) + 1 := by have := Wd.KI_break k D1 (Or.inl hq) (by omega); omega
        clear k
        go_wp2
        go_loop [18, 16] (fun q r => ∃ qi ri : Int, Wd.KI (Wd.d1 y) (Wd.d0 y) (Wd.dR x l y) (Wd.e0 l y) qi ri ∧ q = .int .u64 qi ∧ r = .int .u64 ri) (fun q _ => (intOf q).toNat)
        case atStart => exact ⟨_, _, Wd.KI_init D2, rfl, by rw [Int.emod_def, Int.mul_comm (Wd.d1 y)]⟩
        case round =>
          obtain ⟨q, r, k, rfl, rfl⟩ := hrel
          obtain ⟨k1, k2, k3, k4, _, _⟩ := id k
          by_cases hq : 4294967296 ≤ q
          · have hl := Wd.KI_low k D2 (Or.inl hq)
            have hl2 := hl.2
            clear hl
            by_cases hr : r + Wd.d1 y < 4294967296
            · have ks := Wd.KI_step k D2 (Or.inl hq) hr
              go_wp2
              go_round
              case rel => exact ⟨_, _, ks, rfl, rfl⟩
              case measure => simp [intOf]; omega
            · obtain rfl : q = Wd.Kq (Wd.d1 y) (Wd.d0 y) (Wd.dR x l y) (Wd.e0 l y) + 1 := by have := Wd.KI_break k D2 (Or.inl hq) (by omega); omega
              clear k
              go_wp2
              go_ret2
              exact ⟨rfl, rfl⟩
          · obtain ⟨p0, p1⟩ := Wd.prod_bd k1 (by omega) b3 b4
            by_cases ht : 4294967296 * r + Wd.e0 l y < q * Wd.d0 y
            · have hl := Wd.KI_low k D2 (Or.inr ht)
              have hl2 := hl.2
              clear hl
              by_cases hr : r + Wd.d1 y < 4294967296
              · have ks := Wd.KI_step k D2 (Or.inr ht) hr
                go_wp2
                go_round
                case rel => exact ⟨_, _, ks, rfl, rfl⟩
                case measure => simp [intOf]; omega
              · obtain rfl : q = Wd.Kq (Wd.d1 y) (Wd.d0 y) (Wd.dR x l y) (Wd.e0 l y) + 1 := by have := Wd.KI_break k D2 (Or.inr ht) (by omega); omega
                clear k
                go_wp2
                go_ret2
                exact ⟨rfl, rfl⟩
            · obtain rfl : q = Wd.Kq (Wd.d1 y) (Wd.d0 y) (Wd.dR x l y) (Wd.e0 l y) := Wd.KI_exit k D2 (by omega)
              clear k
              go_wp2
              go_ret2
              exact ⟨rfl, rfl⟩
    · obtain ⟨p0, p1⟩ := Wd.prod_bd k1 (by omega) b3 b4
      by_cases ht : 4294967296 * r + Wd.e1 l y < q * Wd.d0 y
      · have hl := Wd.KI_low k D1 (Or.inr ht)
        have hl2 := hl.2
        clear hl
        by_cases hr : r + Wd.d1 y < 4294967296
        · have ks := Wd.KI_step k D1 (Or.inr ht) hr
          go_wp2
          go_round
          case rel => exact ⟨_, _, ks, rfl, rfl⟩
          case measure => simp [intOf]; omega
        · obtain rfl : q = Wd.Kq (Wd.d1 y) (Wd.d0 y) (Wd.dH x l y) (Wd.e1 l y) + 1 := by have := Wd.KI_break k D1 (Or.inr ht) (by omega); omega
          clear k
          go_wp2
          go_loop [18, 16] (fun q r => ∃ qi ri : Int, Wd.KI (Wd.d1 y) (Wd.d0 y) (Wd.dR x l y) (Wd.e0 l y) qi ri ∧ q = .int .u64 qi ∧ r = .int .u64 ri) (fun q _ => (intOf q).toNat)
          case atStart => exact ⟨_, _, Wd.KI_init D2, rfl, by rw [Int.emod_def, Int.mul_comm (Wd.d1 y)]⟩
          case round =>
            obtain ⟨q, r, k, rfl, rfl⟩ := hrel
            obtain ⟨k1, k2, k3, k4, _, _⟩ := id k
            by_cases hq : 4294967296 ≤ q
            · have hl := Wd.KI_low k D2 (Or.inl hq)
              have hl2 := hl.2
              clear hl
              by_cases hr : r + Wd.d1 y < 4294967296
              · have ks := Wd.KI_step k D2 (Or.inl hq) hr
                go_wp2
                go_round
                case rel => exact ⟨_, _, ks, rfl, rfl⟩
                case measure => simp [intOf]; omega
              · obtain rfl : q = Wd.Kq (Wd.d1 y) (Wd.d0 y) (Wd.dR x l y) (Wd.e0 l y) + 1 := by have := Wd.KI_break k D2 (Or.inl hq) (by omega); omega
                clear k
                go_wp2
                go_ret2
                exact ⟨rfl, rfl⟩
            · obtain ⟨p0, p1⟩ := Wd.prod_bd k1 (by omega) b3 b4
              by_cases ht : 4294967296 * r + Wd.e0 l y < q * Wd.d0 y
              · have hl := Wd.KI_low k D2 (Or.inr ht)
                have hl2 := hl.2
                clear hl
                by_cases hr : r + Wd.d1 y < 4294967296
                · have ks := Wd.KI_step k D2 (Or.inr ht) hr
                  go_wp2
                  go_round
                  case rel => exact ⟨_, _, ks, rfl, rfl⟩
                  case measure => simp [intOf]; omega
                · obtain rfl : q = Wd.Kq (Wd.d1 y) (Wd.d0 y) (Wd.dR x l y) (Wd.e0 l y) + 1 := by have := Wd.KI_break k D2 (Or.inr ht) (by omega); omega
                  clear k
                  go_wp2
                  go_ret2
                  exact ⟨rfl, rfl⟩
              · obtain rfl : q = Wd.Kq (Wd.d1 y) (Wd.d0 y) (Wd.dR x l y) (Wd.e0 l y) := Wd.KI_exit k D2 (by omega)
                clear k
                go_wp2
                go_ret2
                exact ⟨rfl, rfl⟩
      · obtain rfl : q = Wd.Kq (Wd.d1 y) (Wd.d0 y) (Wd.dH x l y) (Wd.e1 l y) := Wd.KI_exit k D1 (by omega)
        clear k
        go_wp2
        go_loop [18, 16] (fun q r => ∃ qi ri : Int, Wd.KI (Wd.d1 y) (Wd.d0 y) (Wd.dR x l y) (Wd.e0 l y) qi ri ∧ q = .int .u64 qi ∧ r = .int .u64 ri) (fun q _ => (intOf q).toNat)
        case atStart => exact ⟨_, _, Wd.KI_init D2, rfl, by rw [Int.emod_def, Int.mul_comm (Wd.d1 y)]⟩
        case round =>
          obtain ⟨q, r, k, rfl, rfl⟩ := hrel
          obtain ⟨k1, k2, k3, k4, _, _⟩ := id k
          by_cases hq : 4294967296 ≤ q
          · have hl := Wd.KI_low k D2 (Or.inl hq)
            have hl2 := hl.2
            clear hl
            by_cases hr : r + Wd.d1 y < 4294967296
            · have ks := Wd.KI_step k D2 (Or.inl hq) hr
              go_wp2
              go_round
              case rel => exact ⟨_, _, ks, rfl, rfl⟩
              case measure => simp [intOf]; omega
            · obtain rfl : q = Wd.Kq (Wd.d1 y) (Wd.d0 y) (Wd.dR x l y) (Wd.e0 l y) + 1 := by have := Wd.KI_break k D2 (Or.inl hq) (by omega); omega
              clear k
              go_wp2
              go_ret2
              exact ⟨rfl, rfl⟩
          · obtain ⟨p0, p1⟩ := Wd.prod_bd k1 (by omega) b3 b4
            by_cases ht : 4294967296 * r + Wd.e0 l y < q * Wd.d0 y
            · have hl := Wd.KI_low k D2 (Or.inr ht)
              have hl2 := hl.2
              clear hl
              by_cases hr : r + Wd.d1 y < 4294967296
              · have ks := Wd.KI_step k D2 (Or.inr ht) hr
                go_wp2
                go_round
                case rel => exact ⟨_, _, ks, rfl, rfl⟩
                case measure => simp [intOf]; omega
              · obtain rfl : q = Wd.Kq (Wd.d1 y) (Wd.d0 y) (Wd.dR x l y) (Wd.e0 l y) + 1 := by have := Wd.KI_break k D2 (Or.inr ht) (by omega); omega
                clear k
                go_wp2
                go_ret2
                exact ⟨rfl, rfl⟩
            · obtain rfl : q = Wd.Kq (Wd.d1 y) (Wd.d0 y) (Wd.dR x l y) (Wd.e0 l y) := Wd.KI_exit k D2 (by omega)
              clear k
              go_wp2
              go_ret2
              exact ⟨rfl, rfl⟩
theorem Div64_pos (x l y : Int) (hx : 0 < x) (hxy : x < y) (hl : 0 ≤ l) (hl1 : l < 18446744073709551616) (hy1 : y < 18446744073709551616) (w : World) :
    Calls Tryz.prog 130 #[.int .u64 x, .int .u64 l, .int .u64 y] w fun e w' => e = .returned (.tuple #[.int .u64 ((x * 18446744073709551616 + l) / y), .int .u64 ((x * 18446744073709551616 + l) % y)]) ∧ w = w' := by
  obtain ⟨h1, h2⟩ := Wd.out_of x l y (by omega) hxy hl hl1 hy1
  rw [← h1, ← h2]
  exact Div64_k x l y hx hxy hl hl1 hy1 w
end Go.Proofs.YtheofhegdjjfgaaGreat

namespace Go.Proofs.YtheofhegdjjfgaaGreat
namespace Wd
theorem quo_words (S w : Int) (h0 : 0 ≤ S) (h1 : S < 340282366920938463463374607431768211456) (hw : 0 < w) (hw1 : w < 18446744073709551616) :
    hi S / w = hi (S / w) ∧ (hi S % w * 18446744073709551616 + lo S) / w = lo (S / w) ∧ (hi S % w * 18446744073709551616 + lo S) % w = S % w := by
  have e := hi_lo S h0 h1
  have hb := hi_bd S
  have lb := lo_bd S
  have hm := Int.ediv_mul_add_emod (hi S) w
  have hm0 := Int.emod_nonneg (hi S) (show w ≠ 0 by omega)
  have hm1 := Int.emod_lt_of_pos (hi S) hw
  have q0 : 0 ≤ hi S / w := Int.ediv_nonneg hb.1 (by omega)
  have q1 : hi S / w ≤ hi S := Int.ediv_le_self _ hb.1
  have eS : S = hi S / w * 18446744073709551616 * w + (hi S % w * 18446744073709551616 + lo S) := by
    have : hi S / w * 18446744073709551616 * w = hi S / w * w * 18446744073709551616 := Int.mul_right_comm _ _ _
    rw [this]; generalize hi S / w * w = p at *; omega
  have hT : (hi S % w * 18446744073709551616 + lo S) / w < 18446744073709551616 := (Int.ediv_lt_iff_lt_mul hw).2 (by
    have : hi S % w * 18446744073709551616 + lo S < w * 18446744073709551616 := by omega
    omega)
  have hT0 : 0 ≤ (hi S % w * 18446744073709551616 + lo S) / w := Int.ediv_nonneg (by omega) (by omega)
  have eq : S / w = hi S / w * 18446744073709551616 + (hi S % w * 18446744073709551616 + lo S) / w := by
    conv => lhs; rw [eS]
    rw [Int.add_comm, Int.add_mul_ediv_right _ _ (by omega), Int.add_comm]
  refine ⟨?_, ?_, ?_⟩
  · rw [eq]; generalize (hi S % w * 18446744073709551616 + lo S) / w = t at *
    generalize hi S / w = q at *
    unfold hi; omega
  · rw [eq]; generalize (hi S % w * 18446744073709551616 + lo S) / w = t at *
    generalize hi S / w = q at *
    unfold lo; omega
  · conv => rhs; rw [eS]
    generalize hi S % w * 18446744073709551616 + lo S = t
    rw [Int.add_comm, Int.add_mul_emod_self_right]
def ev (S w : Int) : Int := if w < 2 * (S % w) ∨ 2 * (S % w) = w ∧ S / w % 2 = 1 then S / w + 1 else S / w
def dv (a d : Int) : Int := sv (!(decide (a < 0) == decide (d < 0))) (ev (ab a) (ab d))
def cyo (s : Int) : Int := (lo s + 1 + 0) / 18446744073709551616
theorem inc_lo (s : Int) : (lo s + 1 + 0) % 18446744073709551616 = lo (s + 1) := by unfold lo; omega
theorem inc_hi (s : Int) (h0 : 0 ≤ s) (h1 : s + 1 < 340282366920938463463374607431768211456) : hi s + cyo s = hi (s + 1) := by unfold hi cyo lo; omega
theorem quo_bd (S w : Int) (h0 : 0 ≤ S) (h1 : S ≤ 170141183460469231731687303715884105728) (hw : 0 < w) : 0 ≤ S / w ∧ S / w ≤ 170141183460469231731687303715884105728 := by
  have := Int.ediv_le_self w h0
  exact ⟨Int.ediv_nonneg h0 (by omega), by omega⟩
theorem rest_bd (S w : Int) (hw : 0 < w) : 0 ≤ S % w ∧ S % w < w := ⟨Int.emod_nonneg _ (by omega), Int.emod_lt_of_pos _ hw⟩
theorem ab_pos (d : Int) (h : d ≠ 0) : 0 < ab d := by unfold ab; split <;> omega
theorem low_dec (a : Int) (hf : fit a) : decide (9223372036854775808 ≤ hi a) = decide (a < 0) := by
  have := hi_neg a hf
  by_cases h : a < 0 <;> simp [this, h]
theorem dv_fit (a d : Int) (hf : fit a) : sv (!(decide (9223372036854775808 ≤ hi a) == decide (d < 0))) (ev (ab a) (ab d)) = dv a d := by rw [low_dec a hf]; rfl
theorem lo_odd (q : Int) : lo q % 2 = q % 2 := by unfold lo; omega
end Wd
end Go.Proofs.YtheofhegdjjfgaaGreat

namespace Go.Proofs.YtheofhegdjjfgaaGreat
open Go.RowKit
set_option maxHeartbeats 1000000 in
theorem Div64_zero (l y : Int) (hy : 0 < y) (hl : 0 ≤ l) (hl1 : l < 18446744073709551616) (hy1 : y < 18446744073709551616) (w : World) :
    Calls Tryz.prog 130 #[.int .u64 0, .int .u64 l, .int .u64 y] w fun e w' => e = .returned (.tuple #[.int .u64 (l / y), .int .u64 (l % y)]) ∧ Below w.heap.size w w' := by
  have hy0 : (y == 0) = false := by simp; omega
  have hyx : decide (y ≤ 0) = false := by simp; omega
  have b1 : 0 ≤ l / y := Int.ediv_nonneg hl (by omega)
  have b2 : l / y ≤ l := Int.ediv_le_self _ hl
  go_enter Tryz.func130, Tryz.ntmps130
  go_wp2
  go_quiet (fail)
  go_wp2
  go_ret2
  refine ⟨rfl, ?_⟩
  rw [Below_drewN]
  (repeat' (first | exact Below.refl _ _ | assumption | refine Below.drew ?_ | refine Below.alloc ?_ ?_ _ | refine Below.setCell ?_ ?_ _ | (apply below_via; assumption) | (simp; done) | omega | (simp; omega)))
theorem Div64_w (x l y : Int) (hx : 0 ≤ x) (hxy : x < y) (hl : 0 ≤ l) (hl1 : l < 18446744073709551616) (hy1 : y < 18446744073709551616) (w : World) :
    Calls Tryz.prog 130 #[.int .u64 x, .int .u64 l, .int .u64 y] w fun e w' => e = .returned (.tuple #[.int .u64 ((x * 18446744073709551616 + l) / y), .int .u64 ((x * 18446744073709551616 + l) % y)]) ∧ Below w.heap.size w w' := by
  by_cases h : x = 0
  · subst h
    rw [Int.zero_mul, Int.zero_add]
    exact Div64_zero l y hxy hl hl1 hy1 w
  · refine (Div64_pos x l y (by omega) hxy hl hl1 hy1 w).mono ?_
    rintro e w' ⟨rfl, rfl⟩
    exact ⟨rfl, Below.refl _ _⟩
set_option maxHeartbeats 1000000 in
theorem quo_w (S u : Int) (h0 : 0 ≤ S) (h1 : S < 340282366920938463463374607431768211456) (hu : 0 < u) (hu1 : u < 18446744073709551616) (w : World) :
    Calls Tryz.prog 118 #[Value.agg #[.int .u64 (Wd.hi (S)), .int .u64 (Wd.lo (S))], .int .u64 u] w fun e w' => e = .returned (.tuple #[Value.agg #[.int .u64 (Wd.hi (S / u)), .int .u64 (Wd.lo (S / u))], .int .u64 (S % u)]) ∧ Below w.heap.size w w' := by
  obtain ⟨q1, q2, q3⟩ := Wd.quo_words S u h0 h1 hu hu1
  have Q2 := Lib.hid q2
  have Q3 := Lib.hid q3
  clear q2 q3
  have bh := Wd.hi_bd S
  have bl := Wd.lo_bd S
  have m0 := Int.emod_nonneg (Wd.hi S) (show u ≠ 0 by omega)
  have m1 := Int.emod_lt_of_pos (Wd.hi S) hu
  have hu0 : (u == 0) = false := by simp; omega
  have b1 : 0 ≤ Wd.hi S / u := Int.ediv_nonneg bh.1 (by omega)
  have b2 : Wd.hi S / u ≤ Wd.hi S := Int.ediv_le_self _ bh.1
  go_enter Tryz.func118, Tryz.ntmps118
  go_wp2
  go_quiet (fail)
  go_wp2_with fail
  refine (Div64_w _ _ _ m0 m1 bl.1 bl.2 hu1 _).mono ?_
  rintro e w1 ⟨rfl, hb⟩
  obtain ⟨hc_hb, hf_hb⟩ := bcell hb; have hz_hb := Below.size hb; (try simp at hz_hb); have z1_hb : w.heap.size + 1 < w1.heap.size := (by omega); have c10_hb := hc_hb (w.heap.size + 1) 0 (by (try simp) <;> omega); have f10_hb := hf_hb (w.heap.size + 1) 0 (by (try simp) <;> omega); have c11_hb := hc_hb (w.heap.size + 1) 1 (by (try simp) <;> omega); have f11_hb := hf_hb (w.heap.size + 1) 1 (by (try simp) <;> omega); clear hc_hb hf_hb; (try simp [*, go_sem] at c10_hb); (try simp [*, go_sem] at f10_hb); (try simp [*, go_sem] at c11_hb); (try simp [*, go_sem] at f11_hb)
  rw [Q2.out, Q3.out]
  go_wp2
  refine bodyPost_ret (v := .tuple #[Value.agg #[.int .u64 (Wd.hi (S / u)), .int .u64 (Wd.lo (S / u))], .int .u64 (S % u)]) (by simp [*, results, Tryz.results118, go_sem]) rfl ⟨rfl, ?_⟩
  have hb' : Below w.heap.size w w1 := by
    refine Below.trans ?_ (hb.mono (by simp; omega))
    rw [Below_drewN]
    (repeat' (first | exact Below.refl _ _ | assumption | refine Below.drew ?_ | refine Below.alloc ?_ ?_ _ | refine Below.setCell ?_ ?_ _ | (apply below_via; assumption) | (simp; done) | omega | (simp; omega)))
  clear hb
  (repeat' (first | exact Below.refl _ _ | assumption | refine Below.drew ?_ | refine Below.alloc ?_ ?_ _ | refine Below.setCell ?_ ?_ _ | (apply below_via; assumption) | (simp; done) | omega | (simp; omega)))
end Go.Proofs.YtheofhegdjjfgaaGreat

namespace Go.Proofs.YtheofhegdjjfgaaGreat
open Go.RowKit
theorem add64_inc (q : Int) (w : World) : (callFunc 119 #[.int .u64 (Wd.lo q), .int .u64 1, .int .u64 0]).run Tryz.prog w = .ok (.value (.tuple #[.int .u64 (Wd.lo (q + 1)), .int .u64 (Wd.cyo q)])) w := by
  rw [run_add64_at _ _ _ (Wd.lo_bd q).1 (by omega) (by omega) (by omega), Wd.inc_lo]; rfl
set_option maxRecDepth 100000 in
set_option maxHeartbeats 4000000 in
theorem DivEven_more (a d : Int) (hf : Wd.fit a) (hd : d ≠ 0) (hd0 : -9223372036854775808 ≤ d) (hd1 : d < 9223372036854775808) (h1 : decide (Wd.ab d < 2 * (Wd.ab a % Wd.ab d)) = true) (hE : Wd.ev (Wd.ab a) (Wd.ab d) = Wd.ab a / Wd.ab d + 1) (w : World) :
    Calls Tryz.prog 91 #[Value.agg #[.int .u64 (Wd.hi (a)), .int .u64 (Wd.lo (a))], .int .i64 d] w fun e w' => e = .returned (.tuple #[Value.agg #[.int .u64 (Wd.hi (Wd.tr (Wd.dv a d))), .int .u64 (Wd.lo (Wd.tr (Wd.dv a d)))], .int .i64 (Wd.er (Wd.dv a d))]) ∧ Below w.heap.size w w' := by
  have hdz : (d == 0) = false := by simp; omega
  have ba := Wd.ab_nonneg a
  have ba1 := Wd.ab_le a hf
  have bd := Wd.ab_bd d hd0 hd1
  have bd1 := Wd.ab_pos d hd
  have bq := Wd.quo_bd (Wd.ab a) (Wd.ab d) ba ba1 bd1
  have br := Wd.rest_bd (Wd.ab a) (Wd.ab d) bd1
  obtain ⟨lq0, lq1⟩ := Wd.lo_bd (Wd.ab a / Wd.ab d)
  have hb0 : 0 ≤ 2 * (Wd.ab a % Wd.ab d) := by omega
  have hb1 : 2 * (Wd.ab a % Wd.ab d) < 18446744073709551616 := by omega
  have HQ := Wd.dv_fit a d hf
  rw [hE] at HQ
  have HQ' := Lib.hid HQ
  clear HQ hE
  have up1 := fun w => add64_inc (Wd.ab a / Wd.ab d) w
  have up2 := Wd.inc_hi (Wd.ab a / Wd.ab d) bq.1 (by omega)
  obtain ⟨up3, up4⟩ := Wd.hi_bd (Wd.ab a / Wd.ab d + 1)
  go_enter Tryz.func91, Tryz.ntmps91
  go_wp2_with fail
  refine (wordOf_w d hd0 hd1 _).mono ?_
  rintro e w1 ⟨rfl, hx1⟩
  obtain ⟨hc_hx1, hf_hx1⟩ := bcell hx1; have hz_hx1 := Below.size hx1; (try simp at hz_hx1); have z0_hx1 : w.heap.size < w1.heap.size := (by omega); have z1_hx1 : w.heap.size + 1 < w1.heap.size := (by omega); have c00_hx1 := hc_hx1 (w.heap.size) 0 (by (try simp) <;> omega); have f00_hx1 := hf_hx1 (w.heap.size) 0 (by (try simp) <;> omega); have c01_hx1 := hc_hx1 (w.heap.size) 1 (by (try simp) <;> omega); have f01_hx1 := hf_hx1 (w.heap.size) 1 (by (try simp) <;> omega); have c10_hx1 := hc_hx1 (w.heap.size + 1) 0 (by (try simp) <;> omega); have f10_hx1 := hf_hx1 (w.heap.size + 1) 0 (by (try simp) <;> omega); have c11_hx1 := hc_hx1 (w.heap.size + 1) 1 (by (try simp) <;> omega); have f11_hx1 := hf_hx1 (w.heap.size + 1) 1 (by (try simp) <;> omega); clear hc_hx1 hf_hx1; (try simp [*, go_sem] at c00_hx1); (try simp [*, go_sem] at f00_hx1); (try simp [*, go_sem] at c01_hx1); (try simp [*, go_sem] at f01_hx1); (try simp [*, go_sem] at c10_hx1); (try simp [*, go_sem] at f10_hx1); (try simp [*, go_sem] at c11_hx1); (try simp [*, go_sem] at f11_hx1)
  go_wp2_with fail
  refine (size_w a hf _).mono ?_
  rintro e w2 ⟨rfl, hx2⟩
  obtain ⟨hc_hx2, hf_hx2⟩ := bcell hx2; have hz_hx2 := Below.size hx2; (try simp at hz_hx2); have z0_hx2 : w.heap.size < w2.heap.size := (by omega); have z1_hx2 : w.heap.size + 1 < w2.heap.size := (by omega); have c00_hx2 := hc_hx2 (w.heap.size) 0 (by (try simp) <;> omega); have f00_hx2 := hf_hx2 (w.heap.size) 0 (by (try simp) <;> omega); have c01_hx2 := hc_hx2 (w.heap.size) 1 (by (try simp) <;> omega); have f01_hx2 := hf_hx2 (w.heap.size) 1 (by (try simp) <;> omega); have c10_hx2 := hc_hx2 (w.heap.size + 1) 0 (by (try simp) <;> omega); have f10_hx2 := hf_hx2 (w.heap.size + 1) 0 (by (try simp) <;> omega); have c11_hx2 := hc_hx2 (w.heap.size + 1) 1 (by (try simp) <;> omega); have f11_hx2 := hf_hx2 (w.heap.size + 1) 1 (by (try simp) <;> omega); clear hc_hx2 hf_hx2; (try simp [*, go_sem] at c00_hx2); (try simp [*, go_sem] at f00_hx2); (try simp [*, go_sem] at c01_hx2); (try simp [*, go_sem] at f01_hx2); (try simp [*, go_sem] at c10_hx2); (try simp [*, go_sem] at f10_hx2); (try simp [*, go_sem] at c11_hx2); (try simp [*, go_sem] at f11_hx2)
  go_wp2_with fail
  refine (quo_w _ _ ba (by omega) bd1 (by omega) _).mono ?_
  rintro e w3 ⟨rfl, hx3⟩
  obtain ⟨hc_hx3, hf_hx3⟩ := bcell hx3; have hz_hx3 := Below.size hx3; (try simp at hz_hx3); have z0_hx3 : w.heap.size < w3.heap.size := (by omega); have z1_hx3 : w.heap.size + 1 < w3.heap.size := (by omega); have c00_hx3 := hc_hx3 (w.heap.size) 0 (by (try simp) <;> omega); have f00_hx3 := hf_hx3 (w.heap.size) 0 (by (try simp) <;> omega); have c01_hx3 := hc_hx3 (w.heap.size) 1 (by (try simp) <;> omega); have f01_hx3 := hf_hx3 (w.heap.size) 1 (by (try simp) <;> omega); have c10_hx3 := hc_hx3 (w.heap.size + 1) 0 (by (try simp) <;> omega); have f10_hx3 := hf_hx3 (w.heap.size + 1) 0 (by (try simp) <;> omega); have c11_hx3 := hc_hx3 (w.heap.size + 1) 1 (by (try simp) <;> omega); have f11_hx3 := hf_hx3 (w.heap.size + 1) 1 (by (try simp) <;> omega); clear hc_hx3 hf_hx3; (try simp [*, go_sem] at c00_hx3); (try simp [*, go_sem] at f00_hx3); (try simp [*, go_sem] at c01_hx3); (try simp [*, go_sem] at f01_hx3); (try simp [*, go_sem] at c10_hx3); (try simp [*, go_sem] at f10_hx3); (try simp [*, go_sem] at c11_hx3); (try simp [*, go_sem] at f11_hx3)
  go_upto_region 8 with fail
  generalize hW : World.alloc _ _ = W
  have cA0 : W.cell? ⟨w.heap.size, 0, none⟩ = some (.int .u64 (Wd.hi a)) := by subst hW; (first | (go_simp; done) | (simp [*]; done))
  have cA1 : W.cell? ⟨w.heap.size, 1, none⟩ = some (.int .u64 (Wd.lo a)) := by subst hW; (first | (go_simp; done) | (simp [*]; done))
  have cR0 : W.cell? ⟨w.heap.size + 1, 0, none⟩ = some (.int .u64 0) := by subst hW; (first | (go_simp; done) | (simp [*]; done))
  have cR1 : W.cell? ⟨w.heap.size + 1, 1, none⟩ = some (.int .u64 0) := by subst hW; (first | (go_simp; done) | (simp [*]; done))
  have fR0 : W.frozen? ⟨w.heap.size + 1, 0, none⟩ = false := by subst hW; (first | (go_simp; done) | (simp [*]; done))
  have fR1 : W.frozen? ⟨w.heap.size + 1, 1, none⟩ = false := by subst hW; (first | (go_simp; done) | (simp [*]; done))
  have cQ0 : W.cell? ⟨w3.heap.size, 0, none⟩ = some (.int .u64 (Wd.hi (Wd.ab a / Wd.ab d + 1))) := by subst hW; (first | (go_simp; done) | (simp [*]; done))
  have cQ1 : W.cell? ⟨w3.heap.size, 1, none⟩ = some (.int .u64 (Wd.lo (Wd.ab a / Wd.ab d + 1))) := by subst hW; (first | (go_simp; done) | (simp [*]; done))
  have zQ : w3.heap.size < W.heap.size := by subst hW; simp
  have zA : w.heap.size < W.heap.size := by omega
  have zR : w.heap.size + 1 < W.heap.size := by omega
  have bW : Below w.heap.size w W := by subst hW; (repeat' (first | exact Below.refl _ _ | assumption | refine Below.drew ?_ | refine Below.alloc ?_ ?_ _ | refine Below.setCell ?_ ?_ _ | (apply below_via; assumption) | (simp; done) | omega | (simp; omega)))
  clear hW hx1 hx2 hx3
  generalize w3.heap.size = g7 at *
  go_region_with (first | (go_at_call 95; refine (below_w _ _ _).mono ?_; rintro e w4 ⟨rfl, hb4⟩; obtain ⟨hc_hb4, hf_hb4⟩ := bcell hb4; have hz_hb4 := Below.size hb4; (try simp at hz_hb4); have z0_hb4 : w.heap.size < w4.heap.size := (by omega); have z1_hb4 : w.heap.size + 1 < w4.heap.size := (by omega); have zg7_hb4 : g7 < w4.heap.size := (by omega); have c00_hb4 := hc_hb4 (w.heap.size) 0 (by (try simp) <;> omega); have f00_hb4 := hf_hb4 (w.heap.size) 0 (by (try simp) <;> omega); have c01_hb4 := hc_hb4 (w.heap.size) 1 (by (try simp) <;> omega); have f01_hb4 := hf_hb4 (w.heap.size) 1 (by (try simp) <;> omega); have c10_hb4 := hc_hb4 (w.heap.size + 1) 0 (by (try simp) <;> omega); have f10_hb4 := hf_hb4 (w.heap.size + 1) 0 (by (try simp) <;> omega); have c11_hb4 := hc_hb4 (w.heap.size + 1) 1 (by (try simp) <;> omega); have f11_hb4 := hf_hb4 (w.heap.size + 1) 1 (by (try simp) <;> omega); have cg70_hb4 := hc_hb4 (g7) 0 (by (try simp) <;> omega); have fg70_hb4 := hf_hb4 (g7) 0 (by (try simp) <;> omega); have cg71_hb4 := hc_hb4 (g7) 1 (by (try simp) <;> omega); have fg71_hb4 := hf_hb4 (g7) 1 (by (try simp) <;> omega); clear hc_hb4 hf_hb4; (try simp [*, go_sem] at c00_hb4); (try simp [*, go_sem] at f00_hb4); (try simp [*, go_sem] at c01_hb4); (try simp [*, go_sem] at f01_hb4); (try simp [*, go_sem] at c10_hb4); (try simp [*, go_sem] at f10_hb4); (try simp [*, go_sem] at c11_hb4); (try simp [*, go_sem] at f11_hb4); (try simp [*, go_sem] at cg70_hb4); (try simp [*, go_sem] at fg70_hb4); (try simp [*, go_sem] at cg71_hb4); (try simp [*, go_sem] at fg71_hb4)) | (go_at_call 116; refine (signed_w _ _ (by omega) (by omega) _).mono ?_; rintro e w5 ⟨rfl, hb5⟩; obtain ⟨hc_hb5, hf_hb5⟩ := bcell hb5; have hz_hb5 := Below.size hb5; (try simp at hz_hb5); have z1_hb5 : w.heap.size + 1 < w5.heap.size := (by omega); have c10_hb5 := hc_hb5 (w.heap.size + 1) 0 (by (try simp) <;> omega); have f10_hb5 := hf_hb5 (w.heap.size + 1) 0 (by (try simp) <;> omega); have c11_hb5 := hc_hb5 (w.heap.size + 1) 1 (by (try simp) <;> omega); have f11_hb5 := hf_hb5 (w.heap.size + 1) 1 (by (try simp) <;> omega); clear hc_hb5 hf_hb5; (try simp [*, go_sem] at c10_hb5); (try simp [*, go_sem] at f10_hb5); (try simp [*, go_sem] at c11_hb5); (try simp [*, go_sem] at f11_hb5); rw [HQ'.out]))
  all_goals
    go_wp2
    refine bodyPost_ret (v := .tuple #[Value.agg #[.int .u64 (Wd.hi (Wd.tr (Wd.dv a d))), .int .u64 (Wd.lo (Wd.tr (Wd.dv a d)))], .int .i64 (Wd.er (Wd.dv a d))]) (by simp [*, results, Tryz.results91, go_sem]) rfl ⟨rfl, ?_⟩
    have hb6 : Below w.heap.size w w5 := bW.trans ((below_two hb5 hb4).mono (by omega))
    clear hb4 hb5
    (repeat' (first | exact Below.refl _ _ | assumption | refine Below.drew ?_ | refine Below.alloc ?_ ?_ _ | refine Below.setCell ?_ ?_ _ | (apply below_via; assumption) | (simp; done) | omega | (simp; omega)))
set_option maxRecDepth 100000 in
set_option maxHeartbeats 4000000 in
theorem DivEven_odd (a d : Int) (hf : Wd.fit a) (hd : d ≠ 0) (hd0 : -9223372036854775808 ≤ d) (hd1 : d < 9223372036854775808) (h1 : decide (Wd.ab d < 2 * (Wd.ab a % Wd.ab d)) = false) (h2 : (2 * (Wd.ab a % Wd.ab d) == Wd.ab d) = true) (h3 : (Wd.lo (Wd.ab a / Wd.ab d) % 2 == 1) = true) (hE : Wd.ev (Wd.ab a) (Wd.ab d) = Wd.ab a / Wd.ab d + 1) (w : World) :
    Calls Tryz.prog 91 #[Value.agg #[.int .u64 (Wd.hi (a)), .int .u64 (Wd.lo (a))], .int .i64 d] w fun e w' => e = .returned (.tuple #[Value.agg #[.int .u64 (Wd.hi (Wd.tr (Wd.dv a d))), .int .u64 (Wd.lo (Wd.tr (Wd.dv a d)))], .int .i64 (Wd.er (Wd.dv a d))]) ∧ Below w.heap.size w w' := by
  have hdz : (d == 0) = false := by simp; omega
  have ba := Wd.ab_nonneg a
  have ba1 := Wd.ab_le a hf
  have bd := Wd.ab_bd d hd0 hd1
  have bd1 := Wd.ab_pos d hd
  have bq := Wd.quo_bd (Wd.ab a) (Wd.ab d) ba ba1 bd1
  have br := Wd.rest_bd (Wd.ab a) (Wd.ab d) bd1
  obtain ⟨lq0, lq1⟩ := Wd.lo_bd (Wd.ab a / Wd.ab d)
  have hb0 : 0 ≤ 2 * (Wd.ab a % Wd.ab d) := by omega
  have hb1 : 2 * (Wd.ab a % Wd.ab d) < 18446744073709551616 := by omega
  have HQ := Wd.dv_fit a d hf
  rw [hE] at HQ
  have HQ' := Lib.hid HQ
  clear HQ hE
  have up1 := fun w => add64_inc (Wd.ab a / Wd.ab d) w
  have up2 := Wd.inc_hi (Wd.ab a / Wd.ab d) bq.1 (by omega)
  obtain ⟨up3, up4⟩ := Wd.hi_bd (Wd.ab a / Wd.ab d + 1)
  go_enter Tryz.func91, Tryz.ntmps91
  go_wp2_with fail
  refine (wordOf_w d hd0 hd1 _).mono ?_
  rintro e w1 ⟨rfl, hx1⟩
  obtain ⟨hc_hx1, hf_hx1⟩ := bcell hx1; have hz_hx1 := Below.size hx1; (try simp at hz_hx1); have z0_hx1 : w.heap.size < w1.heap.size := (by omega); have z1_hx1 : w.heap.size + 1 < w1.heap.size := (by omega); have c00_hx1 := hc_hx1 (w.heap.size) 0 (by (try simp) <;> omega); have f00_hx1 := hf_hx1 (w.heap.size) 0 (by (try simp) <;> omega); have c01_hx1 := hc_hx1 (w.heap.size) 1 (by (try simp) <;> omega); have f01_hx1 := hf_hx1 (w.heap.size) 1 (by (try simp) <;> omega); have c10_hx1 := hc_hx1 (w.heap.size + 1) 0 (by (try simp) <;> omega); have f10_hx1 := hf_hx1 (w.heap.size + 1) 0 (by (try simp) <;> omega); have c11_hx1 := hc_hx1 (w.heap.size + 1) 1 (by (try simp) <;> omega); have f11_hx1 := hf_hx1 (w.heap.size + 1) 1 (by (try simp) <;> omega); clear hc_hx1 hf_hx1; (try simp [*, go_sem] at c00_hx1); (try simp [*, go_sem] at f00_hx1); (try simp [*, go_sem] at c01_hx1); (try simp [*, go_sem] at f01_hx1); (try simp [*, go_sem] at c10_hx1); (try simp [*, go_sem] at f10_hx1); (try simp [*, go_sem] at c11_hx1); (try simp [*, go_sem] at f11_hx1)
  go_wp2_with fail
  refine (size_w a hf _).mono ?_
  rintro e w2 ⟨rfl, hx2⟩
  obtain ⟨hc_hx2, hf_hx2⟩ := bcell hx2; have hz_hx2 := Below.size hx2; (try simp at hz_hx2); have z0_hx2 : w.heap.size < w2.heap.size := (by omega); have z1_hx2 : w.heap.size + 1 < w2.heap.size := (by omega); have c00_hx2 := hc_hx2 (w.heap.size) 0 (by (try simp) <;> omega); have f00_hx2 := hf_hx2 (w.heap.size) 0 (by (try simp) <;> omega); have c01_hx2 := hc_hx2 (w.heap.size) 1 (by (try simp) <;> omega); have f01_hx2 := hf_hx2 (w.heap.size) 1 (by (try simp) <;> omega); have c10_hx2 := hc_hx2 (w.heap.size + 1) 0 (by (try simp) <;> omega); have f10_hx2 := hf_hx2 (w.heap.size + 1) 0 (by (try simp) <;> omega); have c11_hx2 := hc_hx2 (w.heap.size + 1) 1 (by (try simp) <;> omega); have f11_hx2 := hf_hx2 (w.heap.size + 1) 1 (by (try simp) <;> omega); clear hc_hx2 hf_hx2; (try simp [*, go_sem] at c00_hx2); (try simp [*, go_sem] at f00_hx2); (try simp [*, go_sem] at c01_hx2); (try simp [*, go_sem] at f01_hx2); (try simp [*, go_sem] at c10_hx2); (try simp [*, go_sem] at f10_hx2); (try simp [*, go_sem] at c11_hx2); (try simp [*, go_sem] at f11_hx2)
  go_wp2_with fail
  refine (quo_w _ _ ba (by omega) bd1 (by omega) _).mono ?_
  rintro e w3 ⟨rfl, hx3⟩
  obtain ⟨hc_hx3, hf_hx3⟩ := bcell hx3; have hz_hx3 := Below.size hx3; (try simp at hz_hx3); have z0_hx3 : w.heap.size < w3.heap.size := (by omega); have z1_hx3 : w.heap.size + 1 < w3.heap.size := (by omega); have c00_hx3 := hc_hx3 (w.heap.size) 0 (by (try simp) <;> omega); have f00_hx3 := hf_hx3 (w.heap.size) 0 (by (try simp) <;> omega); have c01_hx3 := hc_hx3 (w.heap.size) 1 (by (try simp) <;> omega); have f01_hx3 := hf_hx3 (w.heap.size) 1 (by (try simp) <;> omega); have c10_hx3 := hc_hx3 (w.heap.size + 1) 0 (by (try simp) <;> omega); have f10_hx3 := hf_hx3 (w.heap.size + 1) 0 (by (try simp) <;> omega); have c11_hx3 := hc_hx3 (w.heap.size + 1) 1 (by (try simp) <;> omega); have f11_hx3 := hf_hx3 (w.heap.size + 1) 1 (by (try simp) <;> omega); clear hc_hx3 hf_hx3; (try simp [*, go_sem] at c00_hx3); (try simp [*, go_sem] at f00_hx3); (try simp [*, go_sem] at c01_hx3); (try simp [*, go_sem] at f01_hx3); (try simp [*, go_sem] at c10_hx3); (try simp [*, go_sem] at f10_hx3); (try simp [*, go_sem] at c11_hx3); (try simp [*, go_sem] at f11_hx3)
  go_upto_region 8 with fail
  generalize hW : World.alloc _ _ = W
  have cA0 : W.cell? ⟨w.heap.size, 0, none⟩ = some (.int .u64 (Wd.hi a)) := by subst hW; (first | (go_simp; done) | (simp [*]; done))
  have cA1 : W.cell? ⟨w.heap.size, 1, none⟩ = some (.int .u64 (Wd.lo a)) := by subst hW; (first | (go_simp; done) | (simp [*]; done))
  have cR0 : W.cell? ⟨w.heap.size + 1, 0, none⟩ = some (.int .u64 0) := by subst hW; (first | (go_simp; done) | (simp [*]; done))
  have cR1 : W.cell? ⟨w.heap.size + 1, 1, none⟩ = some (.int .u64 0) := by subst hW; (first | (go_simp; done) | (simp [*]; done))
  have fR0 : W.frozen? ⟨w.heap.size + 1, 0, none⟩ = false := by subst hW; (first | (go_simp; done) | (simp [*]; done))
  have fR1 : W.frozen? ⟨w.heap.size + 1, 1, none⟩ = false := by subst hW; (first | (go_simp; done) | (simp [*]; done))
  have cQ0 : W.cell? ⟨w3.heap.size, 0, none⟩ = some (.int .u64 (Wd.hi (Wd.ab a / Wd.ab d + 1))) := by subst hW; (first | (go_simp; done) | (simp [*]; done))
  have cQ1 : W.cell? ⟨w3.heap.size, 1, none⟩ = some (.int .u64 (Wd.lo (Wd.ab a / Wd.ab d + 1))) := by subst hW; (first | (go_simp; done) | (simp [*]; done))
  have zQ : w3.heap.size < W.heap.size := by subst hW; simp
  have zA : w.heap.size < W.heap.size := by omega
  have zR : w.heap.size + 1 < W.heap.size := by omega
  have bW : Below w.heap.size w W := by subst hW; (repeat' (first | exact Below.refl _ _ | assumption | refine Below.drew ?_ | refine Below.alloc ?_ ?_ _ | refine Below.setCell ?_ ?_ _ | (apply below_via; assumption) | (simp; done) | omega | (simp; omega)))
  clear hW hx1 hx2 hx3
  generalize w3.heap.size = g7 at *
  go_region_with (first | (go_at_call 95; refine (below_w _ _ _).mono ?_; rintro e w4 ⟨rfl, hb4⟩; obtain ⟨hc_hb4, hf_hb4⟩ := bcell hb4; have hz_hb4 := Below.size hb4; (try simp at hz_hb4); have z0_hb4 : w.heap.size < w4.heap.size := (by omega); have z1_hb4 : w.heap.size + 1 < w4.heap.size := (by omega); have zg7_hb4 : g7 < w4.heap.size := (by omega); have c00_hb4 := hc_hb4 (w.heap.size) 0 (by (try simp) <;> omega); have f00_hb4 := hf_hb4 (w.heap.size) 0 (by (try simp) <;> omega); have c01_hb4 := hc_hb4 (w.heap.size) 1 (by (try simp) <;> omega); have f01_hb4 := hf_hb4 (w.heap.size) 1 (by (try simp) <;> omega); have c10_hb4 := hc_hb4 (w.heap.size + 1) 0 (by (try simp) <;> omega); have f10_hb4 := hf_hb4 (w.heap.size + 1) 0 (by (try simp) <;> omega); have c11_hb4 := hc_hb4 (w.heap.size + 1) 1 (by (try simp) <;> omega); have f11_hb4 := hf_hb4 (w.heap.size + 1) 1 (by (try simp) <;> omega); have cg70_hb4 := hc_hb4 (g7) 0 (by (try simp) <;> omega); have fg70_hb4 := hf_hb4 (g7) 0 (by (try simp) <;> omega); have cg71_hb4 := hc_hb4 (g7) 1 (by (try simp) <;> omega); have fg71_hb4 := hf_hb4 (g7) 1 (by (try simp) <;> omega); clear hc_hb4 hf_hb4; (try simp [*, go_sem] at c00_hb4); (try simp [*, go_sem] at f00_hb4); (try simp [*, go_sem] at c01_hb4); (try simp [*, go_sem] at f01_hb4); (try simp [*, go_sem] at c10_hb4); (try simp [*, go_sem] at f10_hb4); (try simp [*, go_sem] at c11_hb4); (try simp [*, go_sem] at f11_hb4); (try simp [*, go_sem] at cg70_hb4); (try simp [*, go_sem] at fg70_hb4); (try simp [*, go_sem] at cg71_hb4); (try simp [*, go_sem] at fg71_hb4)) | (go_at_call 116; refine (signed_w _ _ (by omega) (by omega) _).mono ?_; rintro e w5 ⟨rfl, hb5⟩; obtain ⟨hc_hb5, hf_hb5⟩ := bcell hb5; have hz_hb5 := Below.size hb5; (try simp at hz_hb5); have z1_hb5 : w.heap.size + 1 < w5.heap.size := (by omega); have c10_hb5 := hc_hb5 (w.heap.size + 1) 0 (by (try simp) <;> omega); have f10_hb5 := hf_hb5 (w.heap.size + 1) 0 (by (try simp) <;> omega); have c11_hb5 := hc_hb5 (w.heap.size + 1) 1 (by (try simp) <;> omega); have f11_hb5 := hf_hb5 (w.heap.size + 1) 1 (by (try simp) <;> omega); clear hc_hb5 hf_hb5; (try simp [*, go_sem] at c10_hb5); (try simp [*, go_sem] at f10_hb5); (try simp [*, go_sem] at c11_hb5); (try simp [*, go_sem] at f11_hb5); rw [HQ'.out]))
  all_goals
    go_wp2
    refine bodyPost_ret (v := .tuple #[Value.agg #[.int .u64 (Wd.hi (Wd.tr (Wd.dv a d))), .int .u64 (Wd.lo (Wd.tr (Wd.dv a d)))], .int .i64 (Wd.er (Wd.dv a d))]) (by simp [*, results, Tryz.results91, go_sem]) rfl ⟨rfl, ?_⟩
    have hb6 : Below w.heap.size w w5 := bW.trans ((below_two hb5 hb4).mono (by omega))
    clear hb4 hb5
    (repeat' (first | exact Below.refl _ _ | assumption | refine Below.drew ?_ | refine Below.alloc ?_ ?_ _ | refine Below.setCell ?_ ?_ _ | (apply below_via; assumption) | (simp; done) | omega | (simp; omega)))
set_option maxRecDepth 100000 in
set_option maxHeartbeats 4000000 in
theorem DivEven_even (a d : Int) (hf : Wd.fit a) (hd : d ≠ 0) (hd0 : -9223372036854775808 ≤ d) (hd1 : d < 9223372036854775808) (h1 : decide (Wd.ab d < 2 * (Wd.ab a % Wd.ab d)) = false) (h2 : (2 * (Wd.ab a % Wd.ab d) == Wd.ab d) = true) (h3 : (Wd.lo (Wd.ab a / Wd.ab d) % 2 == 1) = false) (hE : Wd.ev (Wd.ab a) (Wd.ab d) = Wd.ab a / Wd.ab d) (w : World) :
    Calls Tryz.prog 91 #[Value.agg #[.int .u64 (Wd.hi (a)), .int .u64 (Wd.lo (a))], .int .i64 d] w fun e w' => e = .returned (.tuple #[Value.agg #[.int .u64 (Wd.hi (Wd.tr (Wd.dv a d))), .int .u64 (Wd.lo (Wd.tr (Wd.dv a d)))], .int .i64 (Wd.er (Wd.dv a d))]) ∧ Below w.heap.size w w' := by
  have hdz : (d == 0) = false := by simp; omega
  have ba := Wd.ab_nonneg a
  have ba1 := Wd.ab_le a hf
  have bd := Wd.ab_bd d hd0 hd1
  have bd1 := Wd.ab_pos d hd
  have bq := Wd.quo_bd (Wd.ab a) (Wd.ab d) ba ba1 bd1
  have br := Wd.rest_bd (Wd.ab a) (Wd.ab d) bd1
  obtain ⟨lq0, lq1⟩ := Wd.lo_bd (Wd.ab a / Wd.ab d)
  have hb0 : 0 ≤ 2 * (Wd.ab a % Wd.ab d) := by omega
  have hb1 : 2 * (Wd.ab a % Wd.ab d) < 18446744073709551616 := by omega
  have HQ := Wd.dv_fit a d hf
  rw [hE] at HQ
  have HQ' := Lib.hid HQ
  clear HQ hE
  go_enter Tryz.func91, Tryz.ntmps91
  go_wp2_with fail
  refine (wordOf_w d hd0 hd1 _).mono ?_
  rintro e w1 ⟨rfl, hx1⟩
  obtain ⟨hc_hx1, hf_hx1⟩ := bcell hx1; have hz_hx1 := Below.size hx1; (try simp at hz_hx1); have z0_hx1 : w.heap.size < w1.heap.size := (by omega); have z1_hx1 : w.heap.size + 1 < w1.heap.size := (by omega); have c00_hx1 := hc_hx1 (w.heap.size) 0 (by (try simp) <;> omega); have f00_hx1 := hf_hx1 (w.heap.size) 0 (by (try simp) <;> omega); have c01_hx1 := hc_hx1 (w.heap.size) 1 (by (try simp) <;> omega); have f01_hx1 := hf_hx1 (w.heap.size) 1 (by (try simp) <;> omega); have c10_hx1 := hc_hx1 (w.heap.size + 1) 0 (by (try simp) <;> omega); have f10_hx1 := hf_hx1 (w.heap.size + 1) 0 (by (try simp) <;> omega); have c11_hx1 := hc_hx1 (w.heap.size + 1) 1 (by (try simp) <;> omega); have f11_hx1 := hf_hx1 (w.heap.size + 1) 1 (by (try simp) <;> omega); clear hc_hx1 hf_hx1; (try simp [*, go_sem] at c00_hx1); (try simp [*, go_sem] at f00_hx1); (try simp [*, go_sem] at c01_hx1); (try simp [*, go_sem] at f01_hx1); (try simp [*, go_sem] at c10_hx1); (try simp [*, go_sem] at f10_hx1); (try simp [*, go_sem] at c11_hx1); (try simp [*, go_sem] at f11_hx1)
  go_wp2_with fail
  refine (size_w a hf _).mono ?_
  rintro e w2 ⟨rfl, hx2⟩
  obtain ⟨hc_hx2, hf_hx2⟩ := bcell hx2; have hz_hx2 := Below.size hx2; (try simp at hz_hx2); have z0_hx2 : w.heap.size < w2.heap.size := (by omega); have z1_hx2 : w.heap.size + 1 < w2.heap.size := (by omega); have c00_hx2 := hc_hx2 (w.heap.size) 0 (by (try simp) <;> omega); have f00_hx2 := hf_hx2 (w.heap.size) 0 (by (try simp) <;> omega); have c01_hx2 := hc_hx2 (w.heap.size) 1 (by (try simp) <;> omega); have f01_hx2 := hf_hx2 (w.heap.size) 1 (by (try simp) <;> omega); have c10_hx2 := hc_hx2 (w.heap.size + 1) 0 (by (try simp) <;> omega); have f10_hx2 := hf_hx2 (w.heap.size + 1) 0 (by (try simp) <;> omega); have c11_hx2 := hc_hx2 (w.heap.size + 1) 1 (by (try simp) <;> omega); have f11_hx2 := hf_hx2 (w.heap.size + 1) 1 (by (try simp) <;> omega); clear hc_hx2 hf_hx2; (try simp [*, go_sem] at c00_hx2); (try simp [*, go_sem] at f00_hx2); (try simp [*, go_sem] at c01_hx2); (try simp [*, go_sem] at f01_hx2); (try simp [*, go_sem] at c10_hx2); (try simp [*, go_sem] at f10_hx2); (try simp [*, go_sem] at c11_hx2); (try simp [*, go_sem] at f11_hx2)
  go_wp2_with fail
  refine (quo_w _ _ ba (by omega) bd1 (by omega) _).mono ?_
  rintro e w3 ⟨rfl, hx3⟩
  obtain ⟨hc_hx3, hf_hx3⟩ := bcell hx3; have hz_hx3 := Below.size hx3; (try simp at hz_hx3); have z0_hx3 : w.heap.size < w3.heap.size := (by omega); have z1_hx3 : w.heap.size + 1 < w3.heap.size := (by omega); have c00_hx3 := hc_hx3 (w.heap.size) 0 (by (try simp) <;> omega); have f00_hx3 := hf_hx3 (w.heap.size) 0 (by (try simp) <;> omega); have c01_hx3 := hc_hx3 (w.heap.size) 1 (by (try simp) <;> omega); have f01_hx3 := hf_hx3 (w.heap.size) 1 (by (try simp) <;> omega); have c10_hx3 := hc_hx3 (w.heap.size + 1) 0 (by (try simp) <;> omega); have f10_hx3 := hf_hx3 (w.heap.size + 1) 0 (by (try simp) <;> omega); have c11_hx3 := hc_hx3 (w.heap.size + 1) 1 (by (try simp) <;> omega); have f11_hx3 := hf_hx3 (w.heap.size + 1) 1 (by (try simp) <;> omega); clear hc_hx3 hf_hx3; (try simp [*, go_sem] at c00_hx3); (try simp [*, go_sem] at f00_hx3); (try simp [*, go_sem] at c01_hx3); (try simp [*, go_sem] at f01_hx3); (try simp [*, go_sem] at c10_hx3); (try simp [*, go_sem] at f10_hx3); (try simp [*, go_sem] at c11_hx3); (try simp [*, go_sem] at f11_hx3)
  go_upto_region 8 with fail
  generalize hW : World.alloc _ _ = W
  have cA0 : W.cell? ⟨w.heap.size, 0, none⟩ = some (.int .u64 (Wd.hi a)) := by subst hW; (first | (go_simp; done) | (simp [*]; done))
  have cA1 : W.cell? ⟨w.heap.size, 1, none⟩ = some (.int .u64 (Wd.lo a)) := by subst hW; (first | (go_simp; done) | (simp [*]; done))
  have cR0 : W.cell? ⟨w.heap.size + 1, 0, none⟩ = some (.int .u64 0) := by subst hW; (first | (go_simp; done) | (simp [*]; done))
  have cR1 : W.cell? ⟨w.heap.size + 1, 1, none⟩ = some (.int .u64 0) := by subst hW; (first | (go_simp; done) | (simp [*]; done))
  have fR0 : W.frozen? ⟨w.heap.size + 1, 0, none⟩ = false := by subst hW; (first | (go_simp; done) | (simp [*]; done))
  have fR1 : W.frozen? ⟨w.heap.size + 1, 1, none⟩ = false := by subst hW; (first | (go_simp; done) | (simp [*]; done))
  have cQ0 : W.cell? ⟨w3.heap.size, 0, none⟩ = some (.int .u64 (Wd.hi (Wd.ab a / Wd.ab d))) := by subst hW; (first | (go_simp; done) | (simp [*]; done))
  have cQ1 : W.cell? ⟨w3.heap.size, 1, none⟩ = some (.int .u64 (Wd.lo (Wd.ab a / Wd.ab d))) := by subst hW; (first | (go_simp; done) | (simp [*]; done))
  have zQ : w3.heap.size < W.heap.size := by subst hW; simp
  have zA : w.heap.size < W.heap.size := by omega
  have zR : w.heap.size + 1 < W.heap.size := by omega
  have bW : Below w.heap.size w W := by subst hW; (repeat' (first | exact Below.refl _ _ | assumption | refine Below.drew ?_ | refine Below.alloc ?_ ?_ _ | refine Below.setCell ?_ ?_ _ | (apply below_via; assumption) | (simp; done) | omega | (simp; omega)))
  clear hW hx1 hx2 hx3
  generalize w3.heap.size = g7 at *
  go_region_with (first | (go_at_call 95; refine (below_w _ _ _).mono ?_; rintro e w4 ⟨rfl, hb4⟩; obtain ⟨hc_hb4, hf_hb4⟩ := bcell hb4; have hz_hb4 := Below.size hb4; (try simp at hz_hb4); have z0_hb4 : w.heap.size < w4.heap.size := (by omega); have z1_hb4 : w.heap.size + 1 < w4.heap.size := (by omega); have zg7_hb4 : g7 < w4.heap.size := (by omega); have c00_hb4 := hc_hb4 (w.heap.size) 0 (by (try simp) <;> omega); have f00_hb4 := hf_hb4 (w.heap.size) 0 (by (try simp) <;> omega); have c01_hb4 := hc_hb4 (w.heap.size) 1 (by (try simp) <;> omega); have f01_hb4 := hf_hb4 (w.heap.size) 1 (by (try simp) <;> omega); have c10_hb4 := hc_hb4 (w.heap.size + 1) 0 (by (try simp) <;> omega); have f10_hb4 := hf_hb4 (w.heap.size + 1) 0 (by (try simp) <;> omega); have c11_hb4 := hc_hb4 (w.heap.size + 1) 1 (by (try simp) <;> omega); have f11_hb4 := hf_hb4 (w.heap.size + 1) 1 (by (try simp) <;> omega); have cg70_hb4 := hc_hb4 (g7) 0 (by (try simp) <;> omega); have fg70_hb4 := hf_hb4 (g7) 0 (by (try simp) <;> omega); have cg71_hb4 := hc_hb4 (g7) 1 (by (try simp) <;> omega); have fg71_hb4 := hf_hb4 (g7) 1 (by (try simp) <;> omega); clear hc_hb4 hf_hb4; (try simp [*, go_sem] at c00_hb4); (try simp [*, go_sem] at f00_hb4); (try simp [*, go_sem] at c01_hb4); (try simp [*, go_sem] at f01_hb4); (try simp [*, go_sem] at c10_hb4); (try simp [*, go_sem] at f10_hb4); (try simp [*, go_sem] at c11_hb4); (try simp [*, go_sem] at f11_hb4); (try simp [*, go_sem] at cg70_hb4); (try simp [*, go_sem] at fg70_hb4); (try simp [*, go_sem] at cg71_hb4); (try simp [*, go_sem] at fg71_hb4)) | (go_at_call 116; refine (signed_w _ _ (by omega) (by omega) _).mono ?_; rintro e w5 ⟨rfl, hb5⟩; obtain ⟨hc_hb5, hf_hb5⟩ := bcell hb5; have hz_hb5 := Below.size hb5; (try simp at hz_hb5); have z1_hb5 : w.heap.size + 1 < w5.heap.size := (by omega); have c10_hb5 := hc_hb5 (w.heap.size + 1) 0 (by (try simp) <;> omega); have f10_hb5 := hf_hb5 (w.heap.size + 1) 0 (by (try simp) <;> omega); have c11_hb5 := hc_hb5 (w.heap.size + 1) 1 (by (try simp) <;> omega); have f11_hb5 := hf_hb5 (w.heap.size + 1) 1 (by (try simp) <;> omega); clear hc_hb5 hf_hb5; (try simp [*, go_sem] at c10_hb5); (try simp [*, go_sem] at f10_hb5); (try simp [*, go_sem] at c11_hb5); (try simp [*, go_sem] at f11_hb5); rw [HQ'.out]))
  all_goals
    go_wp2
    refine bodyPost_ret (v := .tuple #[Value.agg #[.int .u64 (Wd.hi (Wd.tr (Wd.dv a d))), .int .u64 (Wd.lo (Wd.tr (Wd.dv a d)))], .int .i64 (Wd.er (Wd.dv a d))]) (by simp [*, results, Tryz.results91, go_sem]) rfl ⟨rfl, ?_⟩
    have hb6 : Below w.heap.size w w5 := bW.trans ((below_two hb5 hb4).mono (by omega))
    clear hb4 hb5
    (repeat' (first | exact Below.refl _ _ | assumption | refine Below.drew ?_ | refine Below.alloc ?_ ?_ _ | refine Below.setCell ?_ ?_ _ | (apply below_via; assumption) | (simp; done) | omega | (simp; omega)))
set_option maxRecDepth 100000 in
set_option maxHeartbeats 4000000 in
theorem DivEven_less (a d : Int) (hf : Wd.fit a) (hd : d ≠ 0) (hd0 : -9223372036854775808 ≤ d) (hd1 : d < 9223372036854775808) (h1 : decide (Wd.ab d < 2 * (Wd.ab a % Wd.ab d)) = false) (h2 : (2 * (Wd.ab a % Wd.ab d) == Wd.ab d) = false) (hE : Wd.ev (Wd.ab a) (Wd.ab d) = Wd.ab a / Wd.ab d) (w : World) :
    Calls Tryz.prog 91 #[Value.agg #[.int .u64 (Wd.hi (a)), .int .u64 (Wd.lo (a))], .int .i64 d] w fun e w' => e = .returned (.tuple #[Value.agg #[.int .u64 (Wd.hi (Wd.tr (Wd.dv a d))), .int .u64 (Wd.lo (Wd.tr (Wd.dv a d)))], .int .i64 (Wd.er (Wd.dv a d))]) ∧ Below w.heap.size w w' := by
  have hdz : (d == 0) = false := by simp; omega
  have ba := Wd.ab_nonneg a
  have ba1 := Wd.ab_le a hf
  have bd := Wd.ab_bd d hd0 hd1
  have bd1 := Wd.ab_pos d hd
  have bq := Wd.quo_bd (Wd.ab a) (Wd.ab d) ba ba1 bd1
  have br := Wd.rest_bd (Wd.ab a) (Wd.ab d) bd1
  obtain ⟨lq0, lq1⟩ := Wd.lo_bd (Wd.ab a / Wd.ab d)
  have hb0 : 0 ≤ 2 * (Wd.ab a % Wd.ab d) := by omega
  have hb1 : 2 * (Wd.ab a % Wd.ab d) < 18446744073709551616 := by omega
  have HQ := Wd.dv_fit a d hf
  rw [hE] at HQ
  have HQ' := Lib.hid HQ
  clear HQ hE
  go_enter Tryz.func91, Tryz.ntmps91
  go_wp2_with fail
  refine (wordOf_w d hd0 hd1 _).mono ?_
  rintro e w1 ⟨rfl, hx1⟩
  obtain ⟨hc_hx1, hf_hx1⟩ := bcell hx1; have hz_hx1 := Below.size hx1; (try simp at hz_hx1); have z0_hx1 : w.heap.size < w1.heap.size := (by omega); have z1_hx1 : w.heap.size + 1 < w1.heap.size := (by omega); have c00_hx1 := hc_hx1 (w.heap.size) 0 (by (try simp) <;> omega); have f00_hx1 := hf_hx1 (w.heap.size) 0 (by (try simp) <;> omega); have c01_hx1 := hc_hx1 (w.heap.size) 1 (by (try simp) <;> omega); have f01_hx1 := hf_hx1 (w.heap.size) 1 (by (try simp) <;> omega); have c10_hx1 := hc_hx1 (w.heap.size + 1) 0 (by (try simp) <;> omega); have f10_hx1 := hf_hx1 (w.heap.size + 1) 0 (by (try simp) <;> omega); have c11_hx1 := hc_hx1 (w.heap.size + 1) 1 (by (try simp) <;> omega); have f11_hx1 := hf_hx1 (w.heap.size + 1) 1 (by (try simp) <;> omega); clear hc_hx1 hf_hx1; (try simp [*, go_sem] at c00_hx1); (try simp [*, go_sem] at f00_hx1); (try simp [*, go_sem] at c01_hx1); (try simp [*, go_sem] at f01_hx1); (try simp [*, go_sem] at c10_hx1); (try simp [*, go_sem] at f10_hx1); (try simp [*, go_sem] at c11_hx1); (try simp [*, go_sem] at f11_hx1)
  go_wp2_with fail
  refine (size_w a hf _).mono ?_
  rintro e w2 ⟨rfl, hx2⟩
  obtain ⟨hc_hx2, hf_hx2⟩ := bcell hx2; have hz_hx2 := Below.size hx2; (try simp at hz_hx2); have z0_hx2 : w.heap.size < w2.heap.size := (by omega); have z1_hx2 : w.heap.size + 1 < w2.heap.size := (by omega); have c00_hx2 := hc_hx2 (w.heap.size) 0 (by (try simp) <;> omega); have f00_hx2 := hf_hx2 (w.heap.size) 0 (by (try simp) <;> omega); have c01_hx2 := hc_hx2 (w.heap.size) 1 (by (try simp) <;> omega); have f01_hx2 := hf_hx2 (w.heap.size) 1 (by (try simp) <;> omega); have c10_hx2 := hc_hx2 (w.heap.size + 1) 0 (by (try simp) <;> omega); have f10_hx2 := hf_hx2 (w.heap.size + 1) 0 (by (try simp) <;> omega); have c11_hx2 := hc_hx2 (w.heap.size + 1) 1 (by (try simp) <;> omega); have f11_hx2 := hf_hx2 (w.heap.size + 1) 1 (by (try simp) <;> omega); clear hc_hx2 hf_hx2; (try simp [*, go_sem] at c00_hx2); (try simp [*, go_sem] at f00_hx2); (try simp [*, go_sem] at c01_hx2); (try simp [*, go_sem] at f01_hx2); (try simp [*, go_sem] at c10_hx2); (try simp [*, go_sem] at f10_hx2); (try simp [*, go_sem] at c11_hx2); (try simp [*, go_sem] at f11_hx2)
  go_wp2_with fail
  refine (quo_w _ _ ba (by omega) bd1 (by omega) _).mono ?_
  rintro e w3 ⟨rfl, hx3⟩
  obtain ⟨hc_hx3, hf_hx3⟩ := bcell hx3; have hz_hx3 := Below.size hx3; (try simp at hz_hx3); have z0_hx3 : w.heap.size < w3.heap.size := (by omega); have z1_hx3 : w.heap.size + 1 < w3.heap.size := (by omega); have c00_hx3 := hc_hx3 (w.heap.size) 0 (by (try simp) <;> omega); have f00_hx3 := hf_hx3 (w.heap.size) 0 (by (try simp) <;> omega); have c01_hx3 := hc_hx3 (w.heap.size) 1 (by (try simp) <;> omega); have f01_hx3 := hf_hx3 (w.heap.size) 1 (by (try simp) <;> omega); have c10_hx3 := hc_hx3 (w.heap.size + 1) 0 (by (try simp) <;> omega); have f10_hx3 := hf_hx3 (w.heap.size + 1) 0 (by (try simp) <;> omega); have c11_hx3 := hc_hx3 (w.heap.size + 1) 1 (by (try simp) <;> omega); have f11_hx3 := hf_hx3 (w.heap.size + 1) 1 (by (try simp) <;> omega); clear hc_hx3 hf_hx3; (try simp [*, go_sem] at c00_hx3); (try simp [*, go_sem] at f00_hx3); (try simp [*, go_sem] at c01_hx3); (try simp [*, go_sem] at f01_hx3); (try simp [*, go_sem] at c10_hx3); (try simp [*, go_sem] at f10_hx3); (try simp [*, go_sem] at c11_hx3); (try simp [*, go_sem] at f11_hx3)
  go_upto_region 8 with fail
  generalize hW : World.alloc _ _ = W
  have cA0 : W.cell? ⟨w.heap.size, 0, none⟩ = some (.int .u64 (Wd.hi a)) := by subst hW; (first | (go_simp; done) | (simp [*]; done))
  have cA1 : W.cell? ⟨w.heap.size, 1, none⟩ = some (.int .u64 (Wd.lo a)) := by subst hW; (first | (go_simp; done) | (simp [*]; done))
  have cR0 : W.cell? ⟨w.heap.size + 1, 0, none⟩ = some (.int .u64 0) := by subst hW; (first | (go_simp; done) | (simp [*]; done))
  have cR1 : W.cell? ⟨w.heap.size + 1, 1, none⟩ = some (.int .u64 0) := by subst hW; (first | (go_simp; done) | (simp [*]; done))
  have fR0 : W.frozen? ⟨w.heap.size + 1, 0, none⟩ = false := by subst hW; (first | (go_simp; done) | (simp [*]; done))
  have fR1 : W.frozen? ⟨w.heap.size + 1, 1, none⟩ = false := by subst hW; (first | (go_simp; done) | (simp [*]; done))
  have cQ0 : W.cell? ⟨w3.heap.size, 0, none⟩ = some (.int .u64 (Wd.hi (Wd.ab a / Wd.ab d))) := by subst hW; (first | (go_simp; done) | (simp [*]; done))
  have cQ1 : W.cell? ⟨w3.heap.size, 1, none⟩ = some (.int .u64 (Wd.lo (Wd.ab a / Wd.ab d))) := by subst hW; (first | (go_simp; done) | (simp [*]; done))
  have zQ : w3.heap.size < W.heap.size := by subst hW; simp
  have zA : w.heap.size < W.heap.size := by omega
  have zR : w.heap.size + 1 < W.heap.size := by omega
  have bW : Below w.heap.size w W := by subst hW; (repeat' (first | exact Below.refl _ _ | assumption | refine Below.drew ?_ | refine Below.alloc ?_ ?_ _ | refine Below.setCell ?_ ?_ _ | (apply below_via; assumption) | (simp; done) | omega | (simp; omega)))
  clear hW hx1 hx2 hx3
  generalize w3.heap.size = g7 at *
  go_region_with (first | (go_at_call 95; refine (below_w _ _ _).mono ?_; rintro e w4 ⟨rfl, hb4⟩; obtain ⟨hc_hb4, hf_hb4⟩ := bcell hb4; have hz_hb4 := Below.size hb4; (try simp at hz_hb4); have z0_hb4 : w.heap.size < w4.heap.size := (by omega); have z1_hb4 : w.heap.size + 1 < w4.heap.size := (by omega); have zg7_hb4 : g7 < w4.heap.size := (by omega); have c00_hb4 := hc_hb4 (w.heap.size) 0 (by (try simp) <;> omega); have f00_hb4 := hf_hb4 (w.heap.size) 0 (by (try simp) <;> omega); have c01_hb4 := hc_hb4 (w.heap.size) 1 (by (try simp) <;> omega); have f01_hb4 := hf_hb4 (w.heap.size) 1 (by (try simp) <;> omega); have c10_hb4 := hc_hb4 (w.heap.size + 1) 0 (by (try simp) <;> omega); have f10_hb4 := hf_hb4 (w.heap.size + 1) 0 (by (try simp) <;> omega); have c11_hb4 := hc_hb4 (w.heap.size + 1) 1 (by (try simp) <;> omega); have f11_hb4 := hf_hb4 (w.heap.size + 1) 1 (by (try simp) <;> omega); have cg70_hb4 := hc_hb4 (g7) 0 (by (try simp) <;> omega); have fg70_hb4 := hf_hb4 (g7) 0 (by (try simp) <;> omega); have cg71_hb4 := hc_hb4 (g7) 1 (by (try simp) <;> omega); have fg71_hb4 := hf_hb4 (g7) 1 (by (try simp) <;> omega); clear hc_hb4 hf_hb4; (try simp [*, go_sem] at c00_hb4); (try simp [*, go_sem] at f00_hb4); (try simp [*, go_sem] at c01_hb4); (try simp [*, go_sem] at f01_hb4); (try simp [*, go_sem] at c10_hb4); (try simp [*, go_sem] at f10_hb4); (try simp [*, go_sem] at c11_hb4); (try simp [*, go_sem] at f11_hb4); (try simp [*, go_sem] at cg70_hb4); (try simp [*, go_sem] at fg70_hb4); (try simp [*, go_sem] at cg71_hb4); (try simp [*, go_sem] at fg71_hb4)) | (go_at_call 116; refine (signed_w _ _ (by omega) (by omega) _).mono ?_; rintro e w5 ⟨rfl, hb5⟩; obtain ⟨hc_hb5, hf_hb5⟩ := bcell hb5; have hz_hb5 := Below.size hb5; (try simp at hz_hb5); have z1_hb5 : w.heap.size + 1 < w5.heap.size := (by omega); have c10_hb5 := hc_hb5 (w.heap.size + 1) 0 (by (try simp) <;> omega); have f10_hb5 := hf_hb5 (w.heap.size + 1) 0 (by (try simp) <;> omega); have c11_hb5 := hc_hb5 (w.heap.size + 1) 1 (by (try simp) <;> omega); have f11_hb5 := hf_hb5 (w.heap.size + 1) 1 (by (try simp) <;> omega); clear hc_hb5 hf_hb5; (try simp [*, go_sem] at c10_hb5); (try simp [*, go_sem] at f10_hb5); (try simp [*, go_sem] at c11_hb5); (try simp [*, go_sem] at f11_hb5); rw [HQ'.out]))
  all_goals
    go_wp2
    refine bodyPost_ret (v := .tuple #[Value.agg #[.int .u64 (Wd.hi (Wd.tr (Wd.dv a d))), .int .u64 (Wd.lo (Wd.tr (Wd.dv a d)))], .int .i64 (Wd.er (Wd.dv a d))]) (by simp [*, results, Tryz.results91, go_sem]) rfl ⟨rfl, ?_⟩
    have hb6 : Below w.heap.size w w5 := bW.trans ((below_two hb5 hb4).mono (by omega))
    clear hb4 hb5
    (repeat' (first | exact Below.refl _ _ | assumption | refine Below.drew ?_ | refine Below.alloc ?_ ?_ _ | refine Below.setCell ?_ ?_ _ | (apply below_via; assumption) | (simp; done) | omega | (simp; omega)))
theorem DivEven_w (a d : Int) (hf : Wd.fit a) (hd : d ≠ 0) (hd0 : -9223372036854775808 ≤ d) (hd1 : d < 9223372036854775808) (w : World) :
    Calls Tryz.prog 91 #[Value.agg #[.int .u64 (Wd.hi (a)), .int .u64 (Wd.lo (a))], .int .i64 d] w fun e w' => e = .returned (.tuple #[Value.agg #[.int .u64 (Wd.hi (Wd.tr (Wd.dv a d))), .int .u64 (Wd.lo (Wd.tr (Wd.dv a d)))], .int .i64 (Wd.er (Wd.dv a d))]) ∧ Below w.heap.size w w' := by
  by_cases h1 : Wd.ab d < 2 * (Wd.ab a % Wd.ab d)
  · exact DivEven_more a d hf hd hd0 hd1 (by simpa using h1) (if_pos (Or.inl h1)) w
  · by_cases h2 : 2 * (Wd.ab a % Wd.ab d) = Wd.ab d
    · by_cases h3 : Wd.ab a / Wd.ab d % 2 = 1
      · exact DivEven_odd a d hf hd hd0 hd1 (by simpa using h1) (by simpa using h2) (by rw [Wd.lo_odd]; simpa using h3) (if_pos (Or.inr ⟨h2, h3⟩)) w
      · exact DivEven_even a d hf hd hd0 hd1 (by simpa using h1) (by simpa using h2) (by rw [Wd.lo_odd]; simpa using h3) (if_neg (fun h => h.elim h1 (fun h => h3 h.2))) w
    · exact DivEven_less a d hf hd hd0 hd1 (by simpa using h1) (by simpa using h2) (if_neg (fun h => h.elim h1 (fun h => h2 h.1))) w
end Go.Proofs.YtheofhegdjjfgaaGreat

namespace Go.Proofs.YtheofhegdjjfgaaGreat
open Go.RowKit
set_option maxRecDepth 100000 in
theorem fxwithin_P (n : Int) (w0 : World) : PureC Tryz.prog 89 [.int .i64 n] w0 (.bool (decide (inU n))) := by
  refine c_enter [(0, .int .i64 n)] [] noB Tryz.func89 rfl Tryz.ntmps89 ⟨rfl, trivial⟩ rfl (by simp) (by simp) (by simp) ?_
  intro a hS
  refine c_seq (c_region ?_)
  refine L_e hS (e_assign rfl) rfl ?_; clear hS a; intro a hS
  refine L_nil (n_then (c_seq (c_region ?_)))
  refine L_e hS (e_move rfl) rfl ?_; clear hS a; intro a hS
  refine L_e hS (e_bin rfl rfl rfl) rfl ?_; clear hS a; intro a hS
  refine L_e hS (e_move rfl) rfl ?_; clear hS a; intro a hS
  refine L_merge 3 8 (.bool (decide (inU n))) hS ?_ ?_
  · intro hcM8
    (first | refine g_splitD (t := 5) hS rfl ?_ ?_ | refine g_split (t := 5) hS rfl ?_ ?_) <;> (clear hS; intro hg5 hS)
    ·
      refine L_ge hS rfl rfl (e_move rfl) rfl ?_; clear hS a; intro a hS
      refine L_ge hS rfl rfl (e_bin rfl rfl rfl) rfl ?_; clear hS a; intro a hS
      refine L_e hS (e_pk rfl rfl) rfl ?_; clear hS a; intro a hS
      exact hcM8 _ _ (hS.ends 4 8 5 rfl (congrArg Value.bool (by unfold inU; simp [hg5])) rfl rfl (by first | exact congrArg Value.bool (decide_eq_true hg5).symm | exact congrArg Value.bool hg5.symm | simp [hg5]) rfl)
    refine L_skip_t hS rfl rfl rfl ?_; clear hS a; intro a hS
    refine L_skip_t hS rfl rfl rfl ?_; clear hS a; intro a hS
    refine L_e hS (e_pk rfl rfl) rfl ?_; clear hS a; intro a hS
    exact hcM8 _ _ (hS.ends 4 8 5 rfl (congrArg Value.bool (by unfold inU; simp [hg5])) rfl rfl (by first | exact congrArg Value.bool (decide_eq_false hg5).symm | exact congrArg Value.bool hg5.symm | simp [hg5]) rfl)
  · clear hS a; (try clear w); intro a w hS
    simp only [List.drop_succ_cons, List.drop_zero]
    refine L_e hS (e_assign rfl) rfl ?_; clear hS a; intro a hS
    refine L_nil (n_then (wp_ret ?_))
    refine c_ret1 hS Tryz.results89 (.tmp rfl) ?_
    exact ⟨rfl, hS.chg⟩
set_option maxRecDepth 100000 in
theorem mwithin_P (n : Int) (w0 : World) : PureC Tryz.prog 126 [.int .i64 n] w0 (.bool (decide (inU n))) := by
  refine c_enter [(0, .int .i64 n)] [] noB Tryz.func126 rfl Tryz.ntmps126 ⟨rfl, trivial⟩ rfl (by simp) (by simp) (by simp) ?_
  intro a hS
  refine c_seq (c_region ?_)
  refine L_e hS (e_assign rfl) rfl ?_; clear hS a; intro a hS
  refine L_nil (n_then (c_seq (c_region ?_)))
  refine L_e hS (e_move rfl) rfl ?_; clear hS a; intro a hS
  refine L_e hS (e_bin rfl rfl rfl) rfl ?_; clear hS a; intro a hS
  refine L_e hS (e_move rfl) rfl ?_; clear hS a; intro a hS
  refine L_merge 3 8 (.bool (decide (inU n))) hS ?_ ?_
  · intro hcM8
    (first | refine g_splitD (t := 5) hS rfl ?_ ?_ | refine g_split (t := 5) hS rfl ?_ ?_) <;> (clear hS; intro hg5 hS)
    ·
      refine L_ge hS rfl rfl (e_move rfl) rfl ?_; clear hS a; intro a hS
      refine L_ge hS rfl rfl (e_bin rfl rfl rfl) rfl ?_; clear hS a; intro a hS
      refine L_e hS (e_pk rfl rfl) rfl ?_; clear hS a; intro a hS
      exact hcM8 _ _ (hS.ends 4 8 5 rfl (congrArg Value.bool (by unfold inU; simp [hg5])) rfl rfl (by first | exact congrArg Value.bool (decide_eq_true hg5).symm | exact congrArg Value.bool hg5.symm | simp [hg5]) rfl)
    refine L_skip_t hS rfl rfl rfl ?_; clear hS a; intro a hS
    refine L_skip_t hS rfl rfl rfl ?_; clear hS a; intro a hS
    refine L_e hS (e_pk rfl rfl) rfl ?_; clear hS a; intro a hS
    exact hcM8 _ _ (hS.ends 4 8 5 rfl (congrArg Value.bool (by unfold inU; simp [hg5])) rfl rfl (by first | exact congrArg Value.bool (decide_eq_false hg5).symm | exact congrArg Value.bool hg5.symm | simp [hg5]) rfl)
  · clear hS a; (try clear w); intro a w hS
    simp only [List.drop_succ_cons, List.drop_zero]
    refine L_e hS (e_assign rfl) rfl ?_; clear hS a; intro a hS
    refine L_nil (n_then (wp_ret ?_))
    refine c_ret1 hS Tryz.results126 (.tmp rfl) ?_
    exact ⟨rfl, hS.chg⟩
def askF (cur : ByteArray) (at_ : Int) : Int := if (scaleR cur).2 ≠ 0 then 18 else if ¬ inst at_ then 6 else 0
set_option maxRecDepth 100000 in
theorem fxasked_P (cur : ByteArray) (at_ : Int) (w0 : World) : PureC Tryz.prog 87 [.string cur, .int .i64 at_] w0 (.int .i64 (askF cur at_)) := by
  have hse := scale_err cur
  refine c_enter [(0, .string cur), (1, .int .i64 at_)] [] noB Tryz.func87 rfl Tryz.ntmps87 ⟨rfl, rfl, trivial⟩ rfl (by simp) (by simp) (by simp) ?_
  intro a hS
  refine c_seq (c_region ?_)
  refine L_e hS (e_assign rfl) rfl ?_; clear hS a; intro a hS
  refine L_nil (n_then (c_seq (c_seq (c_region ?_))))
  refine L_e hS (e_move rfl) rfl ?_; clear hS a; intro a hS
  refine L_op (s_callP hS (.cons rfl .nil) cf34 rfl (Scale_P cur _) ?_); clear hS a; (try clear w); intro a w hS
  refine L_e hS (e_move rfl) rfl ?_; clear hS a; intro a hS
  refine L_e hS (e_extract rfl rfl) rfl ?_; clear hS a; intro a hS
  refine L_e hS (e_extract rfl rfl) rfl ?_; clear hS a; intro a hS
  refine L_e hS (e_assign rfl) rfl ?_; clear hS a; intro a hS
  refine L_e hS (e_assign rfl) rfl ?_; clear hS a; intro a hS
  refine L_nil (n_then (c_seq (c_region ?_)))
  refine L_e hS (e_move rfl) rfl ?_; clear hS a; intro a hS
  refine L_e hS (e_bin rfl rfl rfl) rfl ?_; clear hS a; intro a hS
  refine L_nil (n_then ?_)
  first | refine c_ifD hS rfl (fun hc13 => ?_) (fun hc13 => ?_) | refine c_if hS rfl (fun hc13 => ?_) (fun hc13 => ?_)
  ·
    refine c_seq (c_region ?_)
    refine L_e hS (e_move rfl) rfl ?_; clear hS a; intro a hS
    refine L_e hS (e_assign rfl) rfl ?_; clear hS a; intro a hS
    refine L_nil (n_then (wp_ret (r_then ?_)))
    refine c_ret1 hS Tryz.results87 (.tmp rfl) ?_
    exact ⟨by rw [show askF cur at_ = 18 from if_pos hc13, show (scaleR cur).2 = 18 by omega], hS.chg⟩
  refine wp_skip (n_then (c_seq (c_seq (c_region ?_))))
  refine L_e hS (e_move rfl) rfl ?_; clear hS a; intro a hS
  refine L_e hS (e_bin rfl rfl rfl) rfl ?_; clear hS a; intro a hS
  refine L_e hS (e_move rfl) rfl ?_; clear hS a; intro a hS
  refine L_merge 3 20 (.bool (decide (¬ inst at_))) hS ?_ ?_
  · intro hcM20
    (first | refine g_splitD (t := 17) hS rfl ?_ ?_ | refine g_split (t := 17) hS rfl ?_ ?_) <;> (clear hS; intro hg17 hS)
    ·
      refine L_skip_f hS rfl rfl rfl ?_; clear hS a; intro a hS
      refine L_skip_f hS rfl rfl rfl ?_; clear hS a; intro a hS
      refine L_e hS (e_pk rfl rfl) rfl ?_; clear hS a; intro a hS
      exact hcM20 _ _ (hS.ends 4 20 17 rfl (congrArg Value.bool (by unfold inst; symm; rw [decide_eq_true_eq]; omega)) rfl rfl (by first | exact congrArg Value.bool (decide_eq_true hg17).symm | exact congrArg Value.bool hg17.symm | simp [hg17]) rfl)
    refine L_ge hS rfl rfl (e_move rfl) rfl ?_; clear hS a; intro a hS
    refine L_ge hS rfl rfl (e_bin rfl rfl rfl) rfl ?_; clear hS a; intro a hS
    refine L_e hS (e_pk rfl rfl) rfl ?_; clear hS a; intro a hS
    exact hcM20 _ _ (hS.ends 4 20 17 rfl (congrArg Value.bool (by unfold inst; rw [decide_eq_decide]; omega)) rfl rfl (by first | exact congrArg Value.bool (decide_eq_false hg17).symm | exact congrArg Value.bool hg17.symm | simp [hg17]) rfl)
  · clear hS a; (try clear w); intro a w hS
    simp only [List.drop_succ_cons, List.drop_zero]
    refine L_nil (n_then ?_)
    first | refine c_ifD hS rfl (fun hc20 => ?_) (fun hc20 => ?_) | refine c_if hS rfl (fun hc20 => ?_) (fun hc20 => ?_)
    ·
      refine c_seq (c_region ?_)
      refine L_e hS (e_assign rfl) rfl ?_; clear hS a; intro a hS
      refine L_nil (n_then (wp_ret (r_then ?_)))
      refine c_ret1 hS Tryz.results87 (.tmp rfl) ?_
      exact ⟨by rw [show askF cur at_ = 6 by unfold askF; rw [if_neg hc13, if_pos hc20]], hS.chg⟩
    refine wp_skip (n_then (c_seq (c_region ?_)))
    refine L_e hS (e_assign rfl) rfl ?_; clear hS a; intro a hS
    refine L_nil (n_then (wp_ret ?_))
    refine c_ret1 hS Tryz.results87 (.tmp rfl) ?_
    exact ⟨by rw [show askF cur at_ = 0 by unfold askF; rw [if_neg hc13, if_neg hc20]], hS.chg⟩
def convF (units nano : Int) : Int × Int :=
  if ¬ inU units ∨ nano < 0 ∨ 1125899906842624 < nano then (0, 6)
  else if inU (Wd.dv (units * nano) 1000000000) then (Wd.dv (units * nano) 1000000000, 0) else (0, 16)
theorem prod_bd {u n : Int} (hu : inU u) (hn : 0 ≤ n ∧ n ≤ 1125899906842624) : -5192296858534827628530496329220096 ≤ u * n ∧ u * n ≤ 5192296858534827628530496329220096 := by
  unfold inU at hu
  have h1 : (u * n).natAbs = u.natAbs * n.natAbs := Int.natAbs_mul u n
  have h2 := Nat.mul_le_mul (show u.natAbs ≤ 4611686018427387904 by omega) (show n.natAbs ≤ 1125899906842624 by omega)
  omega
theorem dv_bd (u : Int) (hu : -5192296858534827628530496329220096 ≤ u ∧ u ≤ 5192296858534827628530496329220096) : Wd.fit (Wd.dv u 1000000000) := by
  unfold Wd.fit Wd.dv Wd.sv Wd.ev Wd.ab
  have h : ∀ S : Int, 0 ≤ S → 0 ≤ S / 1000000000 ∧ S / 1000000000 ≤ S := fun S hS => by omega
  split <;> split <;> omega
set_option maxRecDepth 100000 in
theorem fxConvert_P (u n : Int) (hu : -9223372036854775808 ≤ u ∧ u ≤ 9223372036854775807) (hn : -9223372036854775808 ≤ n ∧ n ≤ 9223372036854775807) (w0 : World) :
     PureC Tryz.prog 50 [.int .i64 u, .int .i64 n] w0 (.tuple [.int .i64 (convF u n).1, .int .i64 (convF u n).2].toArray) := by
   refine c_enter [(0, .int .i64 u), (1, .int .i64 n)] [] noB Tryz.func50 rfl Tryz.ntmps50 ⟨rfl, rfl, trivial⟩ rfl (by simp) (by simp) (by simp) ?_
   intro a hS
   refine c_seq (c_region ?_)
   refine L_e hS (e_assign rfl) rfl ?_; clear hS a; intro a hS
   refine L_e hS (e_assign rfl) rfl ?_; clear hS a; intro a hS
   refine L_nil (n_then (c_seq (c_seq (c_region ?_))))
   refine L_e hS (e_move rfl) rfl ?_; clear hS a; intro a hS
   refine L_op (s_callP hS (.cons rfl .nil) cf89 rfl (fxwithin_P u _) ?_); clear hS a; (try clear w); intro a w hS
   refine L_e hS (e_not rfl) rfl ?_; clear hS a; intro a hS
   refine L_e hS (e_move rfl) rfl ?_; clear hS a; intro a hS
   refine L_merge 3 16 (.bool (decide (¬ inU u ∨ n < 0))) hS ?_ ?_
   · intro hcM16
     (first | refine g_splitD (t := 13) hS rfl ?_ ?_ | refine g_split (t := 13) hS rfl ?_ ?_) <;> (clear hS; intro hg13 hS)
     ·
       refine L_skip_f hS rfl rfl rfl ?_; clear hS a; intro a hS
       refine L_skip_f hS rfl rfl rfl ?_; clear hS a; intro a hS
       refine L_e hS (e_pk rfl rfl) rfl ?_; clear hS a; intro a hS
       exact hcM16 _ _ (hS.ends 4 16 13 rfl (congrArg Value.bool (by simp at hg13; simp [hg13])) rfl rfl (by first | exact congrArg Value.bool (decide_eq_true hg13).symm | exact congrArg Value.bool hg13.symm | simp [hg13]) rfl)
     refine L_ge hS rfl rfl (e_move rfl) rfl ?_; clear hS a; intro a hS
     refine L_ge hS rfl rfl (e_bin rfl rfl rfl) rfl ?_; clear hS a; intro a hS
     refine L_e hS (e_pk rfl rfl) rfl ?_; clear hS a; intro a hS
     exact hcM16 _ _ (hS.ends 4 16 13 rfl (congrArg Value.bool (by simp at hg13; rw [decide_eq_decide]; simp [hg13])) rfl rfl (by first | exact congrArg Value.bool (decide_eq_false hg13).symm | exact congrArg Value.bool hg13.symm | simp [hg13]) rfl)
   · clear hS a; (try clear w); intro a w hS
     simp only [List.drop_succ_cons, List.drop_zero]
     refine L_e hS (e_move rfl) rfl ?_; clear hS a; intro a hS
     refine L_merge 3 20 (.bool (decide (¬ inU u ∨ n < 0 ∨ 1125899906842624 < n))) hS ?_ ?_
     · intro hcM20
       (first | refine g_splitD (t := 17) hS rfl ?_ ?_ | refine g_split (t := 17) hS rfl ?_ ?_) <;> (clear hS; intro hg17 hS)
       ·
         refine L_skip_f hS rfl rfl rfl ?_; clear hS a; intro a hS
         refine L_skip_f hS rfl rfl rfl ?_; clear hS a; intro a hS
         refine L_e hS (e_pk rfl rfl) rfl ?_; clear hS a; intro a hS
         exact hcM20 _ _ (hS.ends 4 20 17 rfl (congrArg Value.bool (by symm; rw [decide_eq_true_eq]; rcases hg17 with h | h; exact .inl h; exact .inr (.inl h))) rfl rfl (by first | exact congrArg Value.bool (decide_eq_true hg17).symm | exact congrArg Value.bool hg17.symm | simp [hg17]) rfl)
       refine L_ge hS rfl rfl (e_move rfl) rfl ?_; clear hS a; intro a hS
       refine L_ge hS rfl rfl (e_bin rfl rfl rfl) rfl ?_; clear hS a; intro a hS
       refine L_e hS (e_pk rfl rfl) rfl ?_; clear hS a; intro a hS
       exact hcM20 _ _ (hS.ends 4 20 17 rfl (congrArg Value.bool (by rw [decide_eq_decide]; constructor; exact fun h => .inr (.inr h); exact fun h => by (rcases h with h | h | h; exact absurd (.inl h) hg17; exact absurd (.inr h) hg17; exact h))) rfl rfl (by first | exact congrArg Value.bool (decide_eq_false hg17).symm | exact congrArg Value.bool hg17.symm | simp [hg17]) rfl)
     · clear hS a; (try clear w); intro a w hS
       simp only [List.drop_succ_cons, List.drop_zero]
       refine L_nil (n_then ?_)
       first | refine c_ifD hS rfl (fun hc20 => ?_) (fun hc20 => ?_) | refine c_if hS rfl (fun hc20 => ?_) (fun hc20 => ?_)
       ·
         refine c_seq (c_region ?_)
         refine L_e hS (e_assign rfl) rfl ?_; clear hS a; intro a hS
         refine L_e hS (e_assign rfl) rfl ?_; clear hS a; intro a hS
         refine L_nil (n_then (wp_ret (r_then ?_)))
         refine c_retN hS Tryz.results50 (.cons (.tmp rfl) (.cons (.tmp rfl) .nil)) rfl ?_
         exact ⟨by rw [show convF u n = (0, 6) from if_pos hc20], hS.chg⟩
       have hin : inU u := Classical.byContradiction fun h => hc20 (.inl h)
       have hnb : 0 ≤ n ∧ n ≤ 1125899906842624 := by omega
       have hp := prod_bd hin hnb
       have hf := dv_bd _ hp
       have hcv : convF u n = if inU (Wd.dv (u * n) 1000000000) then (Wd.dv (u * n) 1000000000, 0) else (0, 16) := if_neg hc20
       refine wp_skip (n_then (c_seq (c_region ?_)))
       refine L_e hS (e_move rfl) rfl ?_; clear hS a; intro a hS
       refine L_e hS (e_move rfl) rfl ?_; clear hS a; intro a hS
       refine L_op (s_callP hS (.cons rfl (.cons rfl .nil)) cf90 rfl (PureC.of_below (Mul_w u n (by omega) (by omega) (by omega) (by omega) _)) ?_); clear hS a; (try clear w); intro a w hS
       refine L_op (s_callP hS (.cons rfl (.cons rfl .nil)) cf91 rfl ((by have h := PureC.of_below (P := Tryz.prog) (f := 91) (DivEven_w (u * n) 1000000000 (by unfold Wd.fit; omega) (by decide) (by decide) (by decide) w); rw [Wd.tr_of hf, Wd.er_of hf] at h; exact h)) ?_); clear hS a; (try clear w); intro a w hS
       refine L_e hS (e_move rfl) rfl ?_; clear hS a; intro a hS
       refine L_e hS (e_extract rfl rfl) rfl ?_; clear hS a; intro a hS
       refine L_e hS (e_extract rfl rfl) rfl ?_; clear hS a; intro a hS
       refine L_op (s_alloc hS ty_z131 rfl ?_); clear hS a; (try clear w); intro a w b6 hS
       refine L_op (s_storeA hS rfl rfl ty_sz131 (by repeat constructor) (by rfl) (by rfl) (by rfl) ?_); clear hS; (try clear w); intro w hS
       refine L_e hS (e_assign rfl) rfl ?_; clear hS a; intro a hS
       refine L_nil (n_then (c_seq (c_region ?_)))
       refine L_e hS (e_loadA rfl (by repeat constructor) ty_st131 ty_sz131 (by rfl)) rfl ?_; clear hS a; intro a hS
       refine L_op (s_callP hS (.cons rfl .nil) cf92 rfl ((by
 by_cases hI : -9223372036854775808 ≤ Wd.dv (u * n) 1000000000 ∧ Wd.dv (u * n) 1000000000 < 9223372036854775808
 · have h := PureC.of_below (P := Tryz.prog) (f := 92) (Int_yes (Wd.dv (u * n) 1000000000) hI.1 hI.2 w)
   rw [show (.tuple #[.int .i64 (Wd.dv (u * n) 1000000000), .int .i64 0] : Value) = .tuple [.int .i64 (intE (Wd.dv (u * n) 1000000000)).1, .int .i64 (intE (Wd.dv (u * n) 1000000000)).2].toArray by unfold intE; rw [if_pos hI]] at h
   exact h
 · have h := PureC.of_below (P := Tryz.prog) (f := 92) (Int_no (Wd.dv (u * n) 1000000000) hf (by omega) w)
   rw [show (.tuple #[.int .i64 0, .int .i64 16] : Value) = .tuple [.int .i64 (intE (Wd.dv (u * n) 1000000000)).1, .int .i64 (intE (Wd.dv (u * n) 1000000000)).2].toArray by unfold intE; rw [if_neg hI]] at h
   exact h)) ?_); clear hS a; (try clear w); intro a w hS
       refine L_e hS (e_move rfl) rfl ?_; clear hS a; intro a hS
       refine L_e hS (e_extract rfl rfl) rfl ?_; clear hS a; intro a hS
       refine L_e hS (e_extract rfl rfl) rfl ?_; clear hS a; intro a hS
       refine L_e hS (e_assign rfl) rfl ?_; clear hS a; intro a hS
       refine L_e hS (e_assign rfl) rfl ?_; clear hS a; intro a hS
       refine L_nil (n_then (c_seq (c_seq (c_region ?_))))
       refine L_e hS (e_move rfl) rfl ?_; clear hS a; intro a hS
       refine L_e hS (e_bin rfl rfl rfl) rfl ?_; clear hS a; intro a hS
       refine L_e hS (e_move rfl) rfl ?_; clear hS a; intro a hS
       refine L_merge 4 39 (.bool (decide (¬ inU (Wd.dv (u * n) 1000000000)))) hS ?_ ?_
       · intro hcM39
         (first | refine g_splitD (t := 35) hS rfl ?_ ?_ | refine g_split (t := 35) hS rfl ?_ ?_) <;> (clear hS; intro hg35 hS)
         ·
           refine L_skip_f hS rfl rfl rfl ?_; clear hS a; intro a hS
           refine L_skip_f hS rfl rfl rfl ?_; clear hS a; intro a hS
           refine L_skip_f hS rfl rfl rfl ?_; clear hS a; intro a hS
           refine L_e hS (e_pk rfl rfl) rfl ?_; clear hS a; intro a hS
           exact hcM39 _ _ (hS.ends 5 39 35 rfl (congrArg Value.bool (by unfold intE at hg35; unfold inU; split at hg35; simp at hg35; symm; rw [decide_eq_true_eq]; omega)) rfl rfl (by first | exact congrArg Value.bool (decide_eq_true hg35).symm | exact congrArg Value.bool hg35.symm | simp [hg35]) rfl)
         refine L_ge hS rfl rfl (e_move rfl) rfl ?_; clear hS a; intro a hS
         refine L_go hS rfl rfl (s_callP hS (.cons rfl .nil) cf89 rfl (fxwithin_P _ _) ?_); clear hS a; (try clear w); intro a w hS
         refine L_ge hS rfl rfl (e_not rfl) rfl ?_; clear hS a; intro a hS
         refine L_e hS (e_pk rfl rfl) rfl ?_; clear hS a; intro a hS
         exact hcM39 _ _ (hS.ends 5 39 35 rfl (congrArg Value.bool (by unfold intE at hg35 ⊢; split at hg35; rename_i hI; rw [if_pos hI]; simp; simp at hg35)) rfl rfl (by first | exact congrArg Value.bool (decide_eq_false hg35).symm | exact congrArg Value.bool hg35.symm | simp [hg35]) rfl)
       · clear hS a; (try clear w); intro a w hS
         simp only [List.drop_succ_cons, List.drop_zero]
         refine L_nil (n_then ?_)
         first | refine c_ifD hS rfl (fun hc39 => ?_) (fun hc39 => ?_) | refine c_if hS rfl (fun hc39 => ?_) (fun hc39 => ?_)
         ·
           refine c_seq (c_region ?_)
           refine L_e hS (e_assign rfl) rfl ?_; clear hS a; intro a hS
           refine L_e hS (e_assign rfl) rfl ?_; clear hS a; intro a hS
           refine L_nil (n_then (wp_ret (r_then ?_)))
           refine c_retN hS Tryz.results50 (.cons (.tmp rfl) (.cons (.tmp rfl) .nil)) rfl ?_
           exact ⟨by rw [hcv, if_neg hc39], hS.chg⟩
         refine wp_skip (n_then (c_seq (c_region ?_)))
         refine L_e hS (e_move rfl) rfl ?_; clear hS a; intro a hS
         refine L_e hS (e_assign rfl) rfl ?_; clear hS a; intro a hS
         refine L_e hS (e_assign rfl) rfl ?_; clear hS a; intro a hS
         refine L_nil (n_then (wp_ret ?_))
         refine c_retN hS Tryz.results50 (.cons (.tmp rfl) (.cons (.tmp rfl) .nil)) rfl ?_
         have hI : inU (Wd.dv (u * n) 1000000000) := Classical.not_not.1 hc39
         exact ⟨by rw [hcv, if_pos hI, show intE (Wd.dv (u * n) 1000000000) = (Wd.dv (u * n) 1000000000, 0) by unfold intE; unfold inU at hI; rw [if_pos (by omega)]], hS.chg⟩
end Go.Proofs.YtheofhegdjjfgaaGreat

namespace Go.Proofs.YtheofhegdjjfgaaGreat
open Go.RowKit
structure RA where
  cur : ByteArray
  rows : List (Int × Int)
  v : Value
def encT (c : ByteArray) (x : Int × Int) : List Value := [.string c, .int .i64 x.1, .int .i64 x.2]
def rowT (e : RA) (w : World) : Prop := w.ownsRow 0 179 3 e.v e.rows.length (e.rows.flatMap (encT e.cur))
def entT (es : List RA) : List (ByteArray × Value) := es.map fun e => (e.cur, e.v)
def vsT (es : List RA) : List (ByteArray × List (Int × Int)) := es.map fun e => (e.cur, e.rows)
structure wfT (es : List RA) (n : Int) : Prop where
  keys : es.Pairwise fun x y => x.cur ≠ y.cur
  apart : es.Pairwise fun x y => ∀ k, x.v.ownBlock = some k → y.v.ownBlock ≠ some k
  len : ∀ e ∈ es, (e.rows.length : Int) ≤ n
  n : 0 ≤ n ∧ n ≤ 500
def rowsT (es : List RA) : Asn := .any (fun k => ∃ e ∈ es, e.v.ownBlock = some k) (fun w => ∀ e ∈ es, rowT e w) true
def bkT (bk mb : Nat) (own : ByteArray) (n : Int) : Asn := .blk bk [.string own, .map (some mb), .int .i64 n] 128
structure ratesφ (bk mb : Nat) (own : ByteArray) (es : List RA) (n : Int) (w : World) : Prop where
  bk : w.heap[bk]? = some (.cells [.string own, .map (some mb), .int .i64 n].toArray 128 (0, 0))
  mp : w.heap[mb]? = some (.map (mkM 0 (entT es)).toArray (entT es).length)
  rows : ∀ e ∈ es, rowT e w
  wf : wfT es n
def ratesF (bk mb : Nat) (es : List RA) (k : Nat) : Prop := k = bk ∨ k = mb ∨ ∃ e ∈ es, e.v.ownBlock = some k
def ratesA (bk mb : Nat) (own : ByteArray) (es : List RA) (n : Int) (m : Bool) : Asn := .any (ratesF bk mb es) (ratesφ bk mb own es n) m
theorem owns_keep {w w' : World} {E s : Nat} {v : Value} {m : Nat} {xs : List Value} (h : w.ownsRow 0 E s v m xs) (hw : ∀ b, v.ownBlock = some b → w'.heap[b]? = w.heap[b]?) : w'.ownsRow 0 E s v m xs :=
  (ok_own h).hold w' hw
theorem rows_ok {es : List RA} {w : World} (h : ∀ e ∈ es, rowT e w) : (rowsT es).ok w := by
  refine ⟨fun b hb => ?_, fun w' hw e he => owns_keep (h e he) (fun b hb => hw b ⟨e, he, hb⟩)⟩
  obtain ⟨e, he, hb⟩ := hb
  exact (World.ownsRow.lt (h e he) b hb).2
theorem rates_ok {bk mb : Nat} {own : ByteArray} {es : List RA} {n : Int} {w : World} (m : Bool) (h : ratesφ bk mb own es n w) : (ratesA bk mb own es n m).ok w := by
  refine ⟨fun b hb => ?_, fun w' hw => ⟨?_, ?_, fun e he => owns_keep (h.rows e he) (fun b hb => hw b (.inr (.inr ⟨e, he, hb⟩))), h.wf⟩⟩
  · rcases hb with rfl | rfl | ⟨e, he, hb⟩
    · exact (Array.getElem?_eq_some_iff.1 h.bk).1
    · exact (Array.getElem?_eq_some_iff.1 h.mp).1
    · exact (World.ownsRow.lt (h.rows e he) b hb).2
  · rw [hw bk (.inl rfl)]; exact h.bk
  · rw [hw mb (.inr (.inl rfl))]; exact h.mp
theorem row_obj {w : World} {E s : Nat} {v : Value} {m : Nat} {xs : List Value} (h : w.ownsRow 0 E s v m xs) {g : Nat} (hg : v.ownBlock = some g) : ∃ cs, w.heap[g]? = some (.cells cs E (0, 0)) := by
  rcases h.2 with ⟨rfl, _⟩ | ⟨g', cap, cur, rfl, _, e2, _⟩
  · cases hg
  · simp [Value.ownBlock] at hg; subst hg; exact ⟨_, e2⟩
theorem rates_apart {bk mb : Nat} {own : ByteArray} {es : List RA} {n : Int} {w : World} (h : ratesφ bk mb own es n w) : bk ≠ mb ∧ (∀ e ∈ es, e.v.ownBlock ≠ some bk) ∧ ∀ e ∈ es, e.v.ownBlock ≠ some mb := by
  refine ⟨fun e => ?_, fun e he hb => ?_, fun e he hb => ?_⟩
  · have h1 := h.bk; rw [e, h.mp] at h1; cases h1
  · obtain ⟨cs, h1⟩ := row_obj (h.rows e he) hb
    rw [h.bk] at h1; cases h1
  · obtain ⟨cs, h1⟩ := row_obj (h.rows e he) hb
    rw [h.mp] at h1; cases h1
theorem no_cur {es : List RA} {c : ByteArray} (h : ∀ e ∈ es, e.cur ≠ c) (m : Nat) : idxM (entT es) c m = none := by
  induction es generalizing m with
  | nil => rfl
  | cons e es ih =>
    show (if e.cur = c then _ else _) = _
    rw [if_neg (h e (.head _))]
    exact ih (fun x hx => h x (.tail _ hx)) _
theorem is_cur {es : List RA} (hk : es.Pairwise fun x y => x.cur ≠ y.cur) {i : Nat} {e : RA} (h : es[i]? = some e) (m : Nat) : idxM (entT es) e.cur m = some (m + i, e.v) := by
  induction es generalizing i m with
  | nil => cases h
  | cons x es ih =>
    have hk' := List.pairwise_cons.1 hk
    cases i with
    | zero =>
      simp at h; subst h
      show (if x.cur = x.cur then _ else _) = _
      rw [if_pos rfl]; rfl
    | succ i =>
      have h2 : es[i]? = some e := by simpa using h
      show (if x.cur = e.cur then _ else _) = _
      rw [if_neg (hk'.1 e (List.mem_of_getElem? h2)), show m + (i + 1) = (m + 1) + i by omega]
      exact ih hk'.2 h2 _
theorem has_cur (es : List RA) (c : ByteArray) : (∃ (i : Nat) (e : RA), es[i]? = some e ∧ e.cur = c) ∨ ∀ e ∈ es, e.cur ≠ c := by
  by_cases h : ∃ e ∈ es, e.cur = c
  · obtain ⟨e, he, hc⟩ := h
    obtain ⟨i, hi, rfl⟩ := List.mem_iff_getElem.1 he
    exact .inl ⟨i, _, List.getElem?_eq_getElem hi, hc⟩
  · exact .inr fun e he hc => h ⟨e, he, hc⟩
def rowsOf (l : List (ByteArray × List (Int × Int))) (c : ByteArray) : List (Int × Int) := match l.find? (fun e => decide (e.1 = c)) with | some e => e.2 | none => []
theorem rowsOf_no {es : List RA} {c : ByteArray} (h : ∀ e ∈ es, e.cur ≠ c) : rowsOf (vsT es) c = [] := by
  unfold rowsOf
  rw [List.find?_eq_none.2]
  intro x hx
  obtain ⟨e, he, rfl⟩ := List.mem_map.1 hx
  simpa using h e he
theorem rowsOf_is {es : List RA} (hk : es.Pairwise fun x y => x.cur ≠ y.cur) {i : Nat} {e : RA} (h : es[i]? = some e) : rowsOf (vsT es) e.cur = e.rows := by
  induction es generalizing i with
  | nil => cases h
  | cons x es ih =>
    have hk' := List.pairwise_cons.1 hk
    unfold rowsOf vsT
    rw [List.map_cons, List.find?_cons]
    cases i with
    | zero => simp at h; subst h; simp
    | succ i =>
      have h2 : es[i]? = some e := by simpa using h
      have : decide (x.cur = e.cur) = false := decide_eq_false (hk'.1 e (List.mem_of_getElem? h2))
      simp only [this]
      exact ih hk'.2 h2
def putL : List (ByteArray × List (Int × Int)) → ByteArray → List (Int × Int) → List (ByteArray × List (Int × Int))
  | [], c, r => [(c, r)]
  | (k, u) :: l, c, r => if k = c then (c, r) :: l else (k, u) :: putL l c r
theorem putL_no {es : List RA} {c : ByteArray} (r : List (Int × Int)) (h : ∀ e ∈ es, e.cur ≠ c) : putL (vsT es) c r = vsT es ++ [(c, r)] := by
  induction es with
  | nil => rfl
  | cons e es ih =>
    show (if e.cur = c then _ else _) = _
    rw [if_neg (h e (.head _))]
    show _ :: putL (vsT es) c r = _
    rw [ih (fun x hx => h x (.tail _ hx))]; rfl
theorem putL_is {es : List RA} (hk : es.Pairwise fun x y => x.cur ≠ y.cur) {i : Nat} {e : RA} (r : List (Int × Int)) (h : es[i]? = some e) : putL (vsT es) e.cur r = (vsT es).set i (e.cur, r) := by
  induction es generalizing i with
  | nil => cases h
  | cons x es ih =>
    have hk' := List.pairwise_cons.1 hk
    cases i with
    | zero =>
      simp at h; subst h
      show (if x.cur = x.cur then _ else _) = _
      rw [if_pos rfl]; rfl
    | succ i =>
      have h2 : es[i]? = some e := by simpa using h
      show (if x.cur = e.cur then _ else _) = _
      rw [if_neg (hk'.1 e (List.mem_of_getElem? h2))]
      show _ :: putL (vsT es) e.cur r = _
      rw [ih hk'.2 h2]; rfl
def setE (own : ByteArray) (l : List (ByteArray × List (Int × Int))) (n : Int) (c : ByteArray) (at_ nano : Int) : Int :=
  if c = own then 18 else if askF c at_ ≠ 0 then askF c at_ else if nano < 1 ∨ 1125899906842624 < nano then 6
  else if (∃ x, (rowsOf l c).getLast? = some x ∧ at_ ≤ x.1) then 34 else if 500 ≤ n then 9 else 0
instance (l : List (Int × Int)) (at_ : Int) : Decidable (∃ x, l.getLast? = some x ∧ at_ ≤ x.1) :=
  match l.getLast? with
  | none => .isFalse fun ⟨_, h, _⟩ => by cases h
  | some x => if h : at_ ≤ x.1 then .isTrue ⟨x, rfl, h⟩ else .isFalse fun ⟨_, h1, h2⟩ => by cases h1; exact h h2
set_option maxRecDepth 100000 in
theorem fxNew_P (c : ByteArray) (w0 : World) (hc : (scaleR c).2 = 0) : NewC Tryz.prog 47 [.string c] w0 (fun y : Nat × Nat => .tuple [.pointer (some ⟨y.1, 0, none⟩), .int .i64 0].toArray) (fun y => ratesA y.1 y.2 c [] 0 true) := by
  refine c_enter [(0, .string c)] [] noB Tryz.func47 rfl Tryz.ntmps47 ⟨rfl, trivial⟩ rfl (by simp) (by simp) (by simp) ?_
  intro a hS
  refine c_seq (c_region ?_)
  refine L_e hS (e_assign rfl) rfl ?_; clear hS a; intro a hS
  refine L_e hS (e_assign rfl) rfl ?_; clear hS a; intro a hS
  refine L_nil (n_then (c_seq (c_seq (c_region ?_))))
  refine L_e hS (e_move rfl) rfl ?_; clear hS a; intro a hS
  refine L_op (s_callP hS (.cons rfl .nil) cf34 rfl (Scale_P c _) ?_); clear hS a; (try clear w); intro a w hS
  refine L_e hS (e_move rfl) rfl ?_; clear hS a; intro a hS
  refine L_e hS (e_extract rfl rfl) rfl ?_; clear hS a; intro a hS
  refine L_e hS (e_extract rfl rfl) rfl ?_; clear hS a; intro a hS
  refine L_e hS (e_assign rfl) rfl ?_; clear hS a; intro a hS
  refine L_e hS (e_assign rfl) rfl ?_; clear hS a; intro a hS
  refine L_nil (n_then (c_seq (c_region ?_)))
  refine L_e hS (e_move rfl) rfl ?_; clear hS a; intro a hS
  refine L_e hS (e_bin rfl rfl rfl) rfl ?_; clear hS a; intro a hS
  refine L_nil (n_then ?_)
  replace hS := hS.is (t := 12) (c := false) rfl ((decide_eq_false (by rw [hc]; decide)))
  refine c_if_f hS rfl ?_
  refine wp_skip (n_then (c_seq (c_region ?_)))
  refine L_e hS (e_move rfl) rfl ?_; clear hS a; intro a hS
  refine L_op (s_makeMapS hS rfl ?_); clear hS a; (try clear w); intro a w b15 hS
  refine L_e hS (e_build ty_z128 ty_pl128 (.one rfl rfl rfl (by repeat constructor) (.one rfl rfl rfl (by repeat constructor) .nil))) rfl ?_; clear hS a; intro a hS
  refine L_op (s_boxA hS rfl rfl ?_); clear hS a; (try clear w); intro a w b17 hS
  refine L_e hS (e_assign rfl) rfl ?_; clear hS a; intro a hS
  refine L_e hS (e_assign rfl) rfl ?_; clear hS a; intro a hS
  refine L_nil (n_then (wp_ret ?_))
  refine c_retN hS Tryz.results47 (.cons (.tmp rfl) (.cons (.tmp rfl) .nil)) rfl ?_
  refine ⟨(b17, b15), rfl, hS.chg, rates_ok true ⟨hS.get (X := .blk b17 _ _) (by repeat constructor), hS.get (X := smapA b15 []) (by repeat constructor), fun e he => (by cases he), ⟨.nil, .nil, fun e he => (by cases he), by decide, by decide⟩⟩, fun b hb => ?_⟩
  rcases hb with hb | hb | ⟨e, he, _⟩
  · rw [hb]; exact (hS.new (X := .blk b17 _ _) (by repeat constructor) rfl).2 _ rfl
  · rw [hb]; exact (hS.new (X := smapA b15 []) (by repeat constructor) rfl).2 _ rfl
  · cases he
end Go.Proofs.YtheofhegdjjfgaaGreat

namespace Go.Proofs.YtheofhegdjjfgaaGreat
open Go.RowKit
theorem own_get {Γ : List Asn} {α : Type} {enc : α → List Value} {s E g c m : Nat} {xs : List α} (hl : ∀ x, (enc x).length = s) (hm : ownA E s (.slice (some ⟨g, 0, none⟩) m c) m (xs.flatMap enc) ∈ Γ) {i : Nat} {x : α} (hx : xs[i]? = some x) : ∀ w, Hd Γ w → ∀ j v, (enc x)[j]? = some v → w.cell? ⟨g, 0 + i * s + j, none⟩ = some v := by
  intro w hh j v hj
  have h : w.ownsRow 0 E s (.slice (some ⟨g, 0, none⟩) m c) m (xs.flatMap enc) := hh _ hm
  have h1 := flat_get enc s hl xs i x hx j v hj
  have h2 := World.ownsRow.cells h (g := g) rfl _ _ h1
  rw [addr_add] at h2
  rw [← h2]; congr 2; omega
theorem set_mem {α : Type} {l : List α} {i : Nat} {y x : α} (h : x ∈ l.set i y) : x = y ∨ x ∈ l.eraseIdx i := by
  obtain ⟨j, hj, rfl⟩ := List.mem_iff_getElem.1 h
  by_cases e : i = j
  · subst e; left; simp
  · right
    rw [List.mem_eraseIdx_iff_getElem]
    exact ⟨j, by simpa using hj, fun h => e h.symm, by rw [List.getElem_set_ne e]⟩
theorem all_mem {α : Type} {l : List α} {i : Nat} {y x : α} (hy : l[i]? = some y) (h : x ∈ l) : x = y ∨ x ∈ l.eraseIdx i := by
  obtain ⟨hlt, e⟩ := List.getElem?_eq_some_iff.1 hy
  refine set_mem (i := i) (y := y) ?_
  rw [← e, List.set_getElem_self]; exact h
theorem pw_set {α : Type} {R : α → α → Prop} {l : List α} (h : l.Pairwise R) {i : Nat} {y : α} (hy : ∀ x ∈ l.eraseIdx i, R x y ∧ R y x) : (l.set i y).Pairwise R := by
  rw [List.pairwise_iff_getElem] at h ⊢
  intro j k hj hk hjk
  have mem : ∀ q (hq : q < l.length), q ≠ i → l[q] ∈ l.eraseIdx i := fun q hq hne => List.mem_eraseIdx_iff_getElem.2 ⟨q, hq, hne, rfl⟩
  simp only [List.length_set] at hj hk
  rw [List.getElem_set, List.getElem_set]
  by_cases e1 : i = j
  · by_cases e2 : i = k
    · omega
    · rw [if_pos e1, if_neg e2]; exact (hy _ (mem k hk (fun h => e2 h.symm))).2
  · by_cases e2 : i = k
    · rw [if_neg e1, if_pos e2]; exact (hy _ (mem j hj (fun h => e1 h.symm))).1
    · rw [if_neg e1, if_neg e2]; exact h j k hj hk hjk
theorem pw_erase {α : Type} {R : α → α → Prop} (hR : ∀ x y, R x y → R y x) {l : List α} (h : l.Pairwise R) {i : Nat} {y : α} (hy : l[i]? = some y) : ∀ x ∈ l.eraseIdx i, R x y ∧ R y x := by
  intro x hx
  obtain ⟨j, hj, hne, rfl⟩ := List.mem_eraseIdx_iff_getElem.1 hx
  obtain ⟨hi, rfl⟩ := List.getElem?_eq_some_iff.1 hy
  rw [List.pairwise_iff_getElem] at h
  rcases Nat.lt_or_ge j i with h1 | h1
  · have := h j i hj hi h1; exact ⟨this, hR _ _ this⟩
  · have := h i j hi hj (by omega); exact ⟨hR _ _ this, this⟩
theorem pw_snoc {α : Type} {R : α → α → Prop} {l : List α} (h : l.Pairwise R) {y : α} (hy : ∀ x ∈ l, R x y) : (l ++ [y]).Pairwise R :=
  List.pairwise_append.2 ⟨h, List.pairwise_singleton _ _, fun x hx z hz => by obtain rfl := List.mem_singleton.1 hz; exact hy x hx⟩
def setR (own : ByteArray) (l : List (ByteArray × List (Int × Int))) (n : Int) (c : ByteArray) (at_ nano : Int) : List (ByteArray × List (Int × Int)) × Int :=
  if setE own l n c at_ nano = 0 then (putL l c (rowsOf l c ++ [(at_, nano)]), n + 1) else (l, n)
theorem setE_zero {own : ByteArray} {l : List (ByteArray × List (Int × Int))} {n : Int} {c : ByteArray} {at_ nano : Int} (h1 : ¬ c = own) (h2 : ¬ askF c at_ ≠ 0) (h3 : ¬ (nano < 1 ∨ 1125899906842624 < nano)) (h4 : ¬ ∃ x, (rowsOf l c).getLast? = some x ∧ at_ ≤ x.1) (h5 : ¬ 500 ≤ n) : setE own l n c at_ nano = 0 := by
  unfold setE; rw [if_neg h1, if_neg h2, if_neg h3, if_neg h4, if_neg h5]
set_option maxRecDepth 100000 in
theorem fxSet_is (bk mb : Nat) (own : ByteArray) (es : List RA) (n at_ nano : Int) (i : Nat) (e : RA) (he : es[i]? = some e) (_ : -9223372036854775808 ≤ at_ ∧ at_ ≤ 9223372036854775807) (w0 : World) (h : ratesφ bk mb own es n w0) :
    MutC Tryz.prog 48 [.pointer (some ⟨bk, 0, none⟩), .string e.cur, .int .i64 at_, .int .i64 nano] w0 (ratesA bk mb own es n true) (fun _ : { y : List RA × Int // (vsT y.1, y.2) = setR own (vsT es) n e.cur at_ nano } => .int .i64 (setE own (vsT es) n e.cur at_ nano)) (fun y => ratesA bk mb own y.1.1 y.1.2 true) := by
  obtain ⟨a1, a2, a3⟩ := rates_apart h
  have wf := h.wf
  have hn0 := wf.n
  have hem := List.mem_of_getElem? he
  have hro : rowsOf (vsT es) e.cur = e.rows := rowsOf_is wf.keys he
  have hix : idxM (entT es) e.cur 0 = some (i, e.v) := by rw [is_cur wf.keys he 0, Nat.zero_add]
  have hlk : lkM (entT es) e.cur (.slice none 0 0) = e.v := by unfold lkM; rw [hix]
  have hel := wf.len e hem
  obtain ⟨q, cq, hev⟩ := own_slice (h.rows e hem)
  have hsh : q = none ∧ e.rows.length = 0 ∨ ∃ g, q = some ⟨g, 0, none⟩ := by
    rcases (h.rows e hem).2 with ⟨e1, e2⟩ | ⟨g, cap, cur, e1, _⟩
    · rw [hev] at e1; injection e1 with e3; exact .inl ⟨e3, e2⟩
    · rw [hev] at e1; injection e1 with e3; exact .inr ⟨g, e3⟩
  have hpe := pw_erase (fun x y h k h1 h2 => h k h2 h1) wf.apart he
  have same : setE own (vsT es) n e.cur at_ nano ≠ 0 → (vsT es, n) = setR own (vsT es) n e.cur at_ nano := fun hne => by unfold setR; rw [if_neg hne]
  have hback : ∀ {a : Act} {w : World} {L : List (Nat × Value)} {Δ : List Asn}, St 76 (ratesF bk mb es) w0 a w L (bkT bk mb own n :: smapA mb (entT es) :: ownA 179 3 (.slice q e.rows.length cq) e.rows.length (e.rows.flatMap (encT e.cur)) :: rowsT (es.eraseIdx i) :: Δ) → (ratesA bk mb own es n true).ok w := fun {a w L Δ} hS => rates_ok true ⟨hS.get (X := bkT bk mb own n) (by repeat constructor), hS.get (X := smapA mb (entT es)) (by repeat constructor), fun x hx => by
      rcases all_mem he hx with rfl | hx
      · show w.ownsRow 0 179 3 x.v x.rows.length (x.rows.flatMap (encT x.cur))
        rw [hev]; exact hS.get (X := ownA 179 3 (.slice q x.rows.length cq) x.rows.length (x.rows.flatMap (encT x.cur))) (by repeat constructor)
      · exact hS.get (X := rowsT (es.eraseIdx i)) (by repeat constructor) x hx, wf⟩
  refine c_enter [(0, .pointer (some ⟨bk, 0, none⟩)), (1, .string e.cur), (2, .int .i64 at_), (3, .int .i64 nano)] [bkT bk mb own n, smapA mb (entT es), ownA 179 3 (.slice q e.rows.length cq) e.rows.length (e.rows.flatMap (encT e.cur)), rowsT (es.eraseIdx i)] (ratesF bk mb es) Tryz.func48 rfl Tryz.ntmps48 ⟨rfl, rfl, rfl, rfl, trivial⟩ rfl (okC (ok_blk h.bk) (okC ⟨fun b hb => by obtain rfl : b = mb := hb; exact (Array.getElem?_eq_some_iff.1 h.mp).1, fun w' hw => by show w'.heap[mb]? = _; rw [hw mb rfl]; exact h.mp⟩ (okC (ok_own (hev ▸ h.rows e hem)) (okC (rows_ok fun x hx => h.rows x (List.mem_of_mem_eraseIdx hx)) okN)))) (disC (sepC (fun b hb hb' => a1 ((show b = bk from hb).symm.trans (show b = mb from hb'))) (sepC (fun b hb hb' => a2 e hem (by rw [hev, ← show b = bk from hb]; exact hb')) (sepC (fun b hb hb' => by obtain ⟨x, hx, hxb⟩ := hb'; exact a2 x (List.mem_of_mem_eraseIdx hx) (by rw [← show b = bk from hb]; exact hxb)) sepN))) (disC (sepC (fun b hb hb' => a3 e hem (by rw [hev, ← show b = mb from hb]; exact hb')) (sepC (fun b hb hb' => by obtain ⟨x, hx, hxb⟩ := hb'; exact a3 x (List.mem_of_mem_eraseIdx hx) (by rw [← show b = mb from hb]; exact hxb)) sepN)) (disC (sepC (fun b hb hb' => by obtain ⟨x, hx, hxb⟩ := hb'; exact (hpe x hx).1 b hxb (by rw [hev]; exact hb)) sepN) dis1))) (mineO (fun b hb => .inl hb) (mineO (fun b hb => .inr (.inl hb)) (mineO (fun b hb => .inr (.inr ⟨e, hem, by rw [hev]; exact hb⟩)) (mineO (fun b hb => by obtain ⟨x, hx, hxb⟩ := hb; exact .inr (.inr ⟨x, List.mem_of_mem_eraseIdx hx, hxb⟩)) mineN)))) ?_
  intro a hS
  refine c_seq (c_region ?_)
  refine L_e hS (e_assign rfl) rfl ?_; clear hS a; intro a hS
  refine L_nil (n_then (c_seq (c_seq (c_region ?_))))
  refine L_e hS (e_move rfl) rfl ?_; clear hS a; intro a hS
  refine L_e hS (e_move rfl) rfl ?_; clear hS a; intro a hS
  refine L_e hS (e_nilCheck rfl) rfl ?_; clear hS a; intro a hS
  (first | refine L_e hS (e_fa0 rfl ty_fo128_0) rfl ?_ | refine L_e hS (e_faK rfl ty_fo128_0) rfl ?_); clear hS a; intro a hS
  refine L_e hS (e_load rfl (by repeat constructor) ty_sc9 (by rfl)) rfl ?_; clear hS a; intro a hS
  refine L_e hS (e_binS rfl rfl rfl) rfl ?_; clear hS a; intro a hS
  refine L_nil (n_then ?_)
  first | refine c_ifD hS rfl (fun hc16 => ?_) (fun hc16 => ?_) | refine c_if hS rfl (fun hc16 => ?_) (fun hc16 => ?_)
  ·
    refine c_seq (c_region ?_)
    refine L_e hS (e_assign rfl) rfl ?_; clear hS a; intro a hS
    refine L_nil (n_then (wp_ret (r_then ?_)))
    refine c_ret1 hS Tryz.results48 (.tmp rfl) ?_
    have hE : setE own (vsT es) n e.cur at_ nano = 18 := if_pos hc16
    exact ⟨⟨(es, n), same (by rw [hE]; decide)⟩, by (try dsimp only); rw [hE], hS.chg, hback hS, fun b hb => .inl hb⟩
  refine wp_skip (n_then (c_seq (c_seq (c_region ?_))))
  refine L_e hS (e_move rfl) rfl ?_; clear hS a; intro a hS
  refine L_e hS (e_move rfl) rfl ?_; clear hS a; intro a hS
  refine L_op (s_callP hS (.cons rfl (.cons rfl .nil)) cf87 rfl (fxasked_P e.cur at_ _) ?_); clear hS a; (try clear w); intro a w hS
  refine L_e hS (e_assign rfl) rfl ?_; clear hS a; intro a hS
  refine L_nil (n_then (c_seq (c_region ?_)))
  refine L_e hS (e_move rfl) rfl ?_; clear hS a; intro a hS
  refine L_e hS (e_bin rfl rfl rfl) rfl ?_; clear hS a; intro a hS
  refine L_nil (n_then ?_)
  first | refine c_ifD hS rfl (fun hc21 => ?_) (fun hc21 => ?_) | refine c_if hS rfl (fun hc21 => ?_) (fun hc21 => ?_)
  ·
    refine c_seq (c_region ?_)
    refine L_e hS (e_move rfl) rfl ?_; clear hS a; intro a hS
    refine L_e hS (e_assign rfl) rfl ?_; clear hS a; intro a hS
    refine L_nil (n_then (wp_ret (r_then ?_)))
    refine c_ret1 hS Tryz.results48 (.tmp rfl) ?_
    have hE : setE own (vsT es) n e.cur at_ nano = askF e.cur at_ := by unfold setE; rw [if_neg hc16, if_pos hc21]
    exact ⟨⟨(es, n), same (by rw [hE]; exact hc21)⟩, by (try dsimp only); rw [hE], hS.chg, hback hS, fun b hb => .inl hb⟩
  refine wp_skip (n_then (c_seq (c_region ?_)))
  refine L_e hS (e_move rfl) rfl ?_; clear hS a; intro a hS
  refine L_e hS (e_nilCheck rfl) rfl ?_; clear hS a; intro a hS
  (first | refine L_e hS (e_fa0 rfl ty_fo128_1) rfl ?_ | refine L_e hS (e_faK rfl ty_fo128_1) rfl ?_); clear hS a; intro a hS
  refine L_e hS (e_load rfl (by repeat constructor) ty_sc126 (by rfl)) rfl ?_; clear hS a; intro a hS
  refine L_e hS (e_move rfl) rfl ?_; clear hS a; intro a hS
  refine L_e hS (e_lookupS rfl rfl ty_mp126 ty_u9 ty_zv178 (by repeat constructor)) rfl ?_; clear hS a; intro a hS
  rw [hlk, hev] at hS
  refine L_e hS (e_assign rfl) rfl ?_; clear hS a; intro a hS
  refine L_nil (n_then (c_seq (wp_block (c_seq (c_region ?_)))))
  refine L_e hS (e_move rfl) rfl ?_; clear hS a; intro a hS
  refine L_e hS (e_bin rfl rfl rfl) rfl ?_; clear hS a; intro a hS
  refine L_e hS (e_move rfl) rfl ?_; clear hS a; intro a hS
  refine L_merge 3 35 (.bool (decide (nano < 1 ∨ 1125899906842624 < nano))) hS ?_ ?_
  · intro hcM35
    (first | refine g_splitD (t := 32) hS rfl ?_ ?_ | refine g_split (t := 32) hS rfl ?_ ?_) <;> (clear hS; intro hg32 hS)
    ·
      refine L_skip_f hS rfl rfl rfl ?_; clear hS a; intro a hS
      refine L_skip_f hS rfl rfl rfl ?_; clear hS a; intro a hS
      refine L_e hS (e_pk rfl rfl) rfl ?_; clear hS a; intro a hS
      exact hcM35 _ _ (hS.ends 4 35 32 rfl (congrArg Value.bool (by first | rfl | (simp [hg32]; done) | (simp [hg32]; omega) | grind)) rfl rfl (by first | exact congrArg Value.bool (decide_eq_true hg32).symm | exact congrArg Value.bool hg32.symm | simp [hg32]) rfl)
    refine L_ge hS rfl rfl (e_move rfl) rfl ?_; clear hS a; intro a hS
    refine L_ge hS rfl rfl (e_bin rfl rfl rfl) rfl ?_; clear hS a; intro a hS
    refine L_e hS (e_pk rfl rfl) rfl ?_; clear hS a; intro a hS
    exact hcM35 _ _ (hS.ends 4 35 32 rfl (congrArg Value.bool (by first | rfl | (simp [hg32]; done) | (simp [hg32]; omega) | grind)) rfl rfl (by first | exact congrArg Value.bool (decide_eq_false hg32).symm | exact congrArg Value.bool hg32.symm | simp [hg32]) rfl)
  · clear hS a; (try clear w); intro a w hS
    simp only [List.drop_succ_cons, List.drop_zero]
    refine L_e hS (e_assign rfl) rfl ?_; clear hS a; intro a hS
    refine L_nil (n_then ?_)
    first | refine c_ifD hS rfl (fun hc29 => ?_) (fun hc29 => ?_) | refine c_if hS rfl (fun hc29 => ?_) (fun hc29 => ?_)
    ·
      refine c_seq (c_region ?_)
      refine L_e hS (e_assign rfl) rfl ?_; clear hS a; intro a hS
      refine L_nil (n_then (wp_ret ?_))
      refine r_block (r_then ?_)
      refine c_ret1 hS Tryz.results48 (.tmp rfl) ?_
      have hE : setE own (vsT es) n e.cur at_ nano = 6 := by unfold setE; rw [if_neg hc16, if_neg hc21, if_pos hc29]
      exact ⟨⟨(es, n), same (by rw [hE]; decide)⟩, by (try dsimp only); rw [hE], hS.chg, hback hS, fun b hb => .inl hb⟩
    refine c_seq (c_region ?_)
    refine L_e hS (e_move rfl) rfl ?_; clear hS a; intro a hS
    refine L_e hS (e_len rfl rfl ty_sl178) rfl ?_; clear hS a; intro a hS
    refine L_e hS (e_bin rfl rfl rfl) rfl ?_; clear hS a; intro a hS
    refine L_e hS (e_move rfl) rfl ?_; clear hS a; intro a hS
    refine L_merge 10 50 (.bool (decide (∃ x, (rowsOf (vsT es) e.cur).getLast? = some x ∧ at_ ≤ x.1))) hS ?_ ?_
    · intro hcM50
      (first | refine g_splitD (t := 40) hS rfl ?_ ?_ | refine g_split (t := 40) hS rfl ?_ ?_) <;> (clear hS; intro hg40 hS)
      ·
        obtain ⟨x, hx⟩ : ∃ x, e.rows[e.rows.length - 1]? = some x := ⟨e.rows[e.rows.length - 1]'(by omega), List.getElem?_eq_getElem (by omega)⟩
        have hlast : e.rows.getLast? = some x := by rw [List.getLast?_eq_getElem?]; exact hx
        obtain ⟨g, rfl⟩ : ∃ g, q = some ⟨g, 0, none⟩ := by
          rcases hsh with ⟨_, h0⟩ | hg
          · exfalso; omega
          · exact hg
        have hnat : ((e.rows.length : Int) - 1).toNat = e.rows.length - 1 := by omega
        refine L_ge hS rfl rfl (e_move rfl) rfl ?_; clear hS a; intro a hS
        refine L_ge hS rfl rfl (e_move rfl) rfl ?_; clear hS a; intro a hS
        refine L_ge hS rfl rfl (e_len rfl rfl ty_sl178) rfl ?_; clear hS a; intro a hS
        (first | refine L_ge hS rfl rfl (e_binN rfl rfl rfl (by omega)) rfl ?_ | refine L_ge hS rfl rfl (e_bin rfl rfl rfl) rfl ?_); clear hS a; intro a hS
        refine L_ge hS rfl rfl (e_ix rfl rfl ty_sl178 ty_sz179 (by omega)) rfl ?_; clear hS a; intro a hS
        (first | refine L_ge hS rfl rfl (e_fa0 rfl ty_fo179_1) rfl ?_ | refine L_ge hS rfl rfl (e_faK rfl ty_fo179_1) rfl ?_); clear hS a; intro a hS
        refine L_ge hS rfl rfl (e_loadC rfl ty_sc3 (fun w hh => by rw [hnat]; exact own_get (enc := encT e.cur) (fun _ => rfl) (by repeat constructor) hx w hh 1 (.int .i64 x.1) rfl)) rfl ?_; clear hS a; intro a hS
        refine L_ge hS rfl rfl (e_move rfl) rfl ?_; clear hS a; intro a hS
        refine L_ge hS rfl rfl (e_bin rfl rfl rfl) rfl ?_; clear hS a; intro a hS
        refine L_e hS (e_pk rfl rfl) rfl ?_; clear hS a; intro a hS
        exact hcM50 _ _ (hS.ends 11 50 40 rfl (congrArg Value.bool (by rw [hro]; exact decide_eq_decide.2 ⟨fun hh => ⟨x, hlast, hh⟩, fun ⟨z, hz, hh⟩ => by rw [hlast] at hz; cases hz; exact hh⟩)) rfl rfl (by first | exact congrArg Value.bool (decide_eq_true hg40).symm | exact congrArg Value.bool hg40.symm | simp [hg40]) rfl)
      refine L_skip_t hS rfl rfl rfl ?_; clear hS a; intro a hS
      refine L_skip_t hS rfl rfl rfl ?_; clear hS a; intro a hS
      refine L_skip_t hS rfl rfl rfl ?_; clear hS a; intro a hS
      refine L_skip_t hS rfl rfl rfl ?_; clear hS a; intro a hS
      refine L_skip_t hS rfl rfl rfl ?_; clear hS a; intro a hS
      refine L_skip_t hS rfl rfl rfl ?_; clear hS a; intro a hS
      refine L_skip_t hS rfl rfl rfl ?_; clear hS a; intro a hS
      refine L_skip_t hS rfl rfl rfl ?_; clear hS a; intro a hS
      refine L_skip_t hS rfl rfl rfl ?_; clear hS a; intro a hS
      refine L_e hS (e_pk rfl rfl) rfl ?_; clear hS a; intro a hS
      exact hcM50 _ _ (hS.ends 11 50 40 rfl (congrArg Value.bool (by rw [hro]; exact (decide_eq_false (fun ⟨z, hz, hh⟩ => by rw [show e.rows = [] from List.eq_nil_of_length_eq_zero (by omega)] at hz; cases hz)).symm)) rfl rfl (by first | exact congrArg Value.bool (decide_eq_false hg40).symm | exact congrArg Value.bool hg40.symm | simp [hg40]) rfl)
    · clear hS a; (try clear w); intro a w hS
      simp only [List.drop_succ_cons, List.drop_zero]
      refine L_e hS (e_assign rfl) rfl ?_; clear hS a; intro a hS
      refine L_nil (n_then ?_)
      first | refine c_ifD hS rfl (fun hc36 => ?_) (fun hc36 => ?_) | refine c_if hS rfl (fun hc36 => ?_) (fun hc36 => ?_)
      ·
        refine c_seq (c_region ?_)
        refine L_e hS (e_assign rfl) rfl ?_; clear hS a; intro a hS
        refine L_nil (n_then (wp_ret ?_))
        refine r_block (r_then ?_)
        refine c_ret1 hS Tryz.results48 (.tmp rfl) ?_
        have hE : setE own (vsT es) n e.cur at_ nano = 34 := by unfold setE; rw [if_neg hc16, if_neg hc21, if_neg hc29, if_pos hc36]
        exact ⟨⟨(es, n), same (by rw [hE]; decide)⟩, by (try dsimp only); rw [hE], hS.chg, hback hS, fun b hb => .inl hb⟩
      refine c_seq (c_region ?_)
      refine L_e hS (e_move rfl) rfl ?_; clear hS a; intro a hS
      refine L_e hS (e_nilCheck rfl) rfl ?_; clear hS a; intro a hS
      (first | refine L_e hS (e_fa0 rfl ty_fo128_2) rfl ?_ | refine L_e hS (e_faK rfl ty_fo128_2) rfl ?_); clear hS a; intro a hS
      refine L_e hS (e_load rfl (by repeat constructor) ty_sc3 (by rfl)) rfl ?_; clear hS a; intro a hS
      refine L_e hS (e_bin rfl rfl rfl) rfl ?_; clear hS a; intro a hS
      refine L_e hS (e_assign rfl) rfl ?_; clear hS a; intro a hS
      refine L_nil (n_then ?_)
      first | refine c_ifD hS rfl (fun hc51 => ?_) (fun hc51 => ?_) | refine c_if hS rfl (fun hc51 => ?_) (fun hc51 => ?_)
      ·
        refine c_seq (c_region ?_)
        refine L_e hS (e_assign rfl) rfl ?_; clear hS a; intro a hS
        refine L_nil (n_then (wp_ret ?_))
        refine r_block (r_then ?_)
        refine c_ret1 hS Tryz.results48 (.tmp rfl) ?_
        have hE : setE own (vsT es) n e.cur at_ nano = 9 := by unfold setE; rw [if_neg hc16, if_neg hc21, if_neg hc29, if_neg hc36, if_pos hc51]
        exact ⟨⟨(es, n), same (by rw [hE]; decide)⟩, by (try dsimp only); rw [hE], hS.chg, hback hS, fun b hb => .inl hb⟩
      refine wp_skip (n_block (n_then (c_seq ?_)))
      refine c_drawS [12] (by kernel_rfl) hS (sub_cons (X := bkT bk mb own n) (by repeat constructor) (sub_cons (X := smapA mb (entT es)) (by repeat constructor) sub_nil)) ?_; clear hS; (try clear w); intro w hS
      simp only [List.length_cons, List.length_nil, Nat.zero_add, Nat.reduceAdd, List.replicate]
      refine Zt0 0 (tf 1 12) hS rfl want_none (e_move rfl) rfl (by kernel_rfl) rfl ?_; clear hS a; intro a hS
      refine Zt0 1 (tf 2 11) hS rfl want_none (e_nilCheck rfl) rfl (by kernel_rfl) rfl ?_; clear hS a; intro a hS
      (first | refine Zt0 2 (tf 3 10) hS rfl want_none (e_fa0 rfl ty_fo128_1) rfl (by kernel_rfl) rfl ?_ | refine Zt0 2 (tf 3 10) hS rfl want_none (e_faK rfl ty_fo128_1) rfl (by kernel_rfl) rfl ?_); clear hS a; intro a hS
      refine Zt 3 (tf 4 9) hS rfl want_none (e_load rfl (by repeat constructor) ty_sc126 (by rfl)) rfl (by kernel_rfl) (sub_cons (by repeat constructor) (sub_cons (by repeat constructor) sub_nil)) rfl ?_; clear hS a; intro a hS
      refine Zt0 4 (tf 5 8) hS rfl want_none (e_move rfl) rfl (by kernel_rfl) rfl ?_; clear hS a; intro a hS
      refine Zt0 5 (tf 6 7) hS rfl want_none (e_move rfl) rfl (by kernel_rfl) rfl ?_; clear hS a; intro a hS
      refine Zt0 6 (tf 7 6) hS rfl want_none (e_move rfl) rfl (by kernel_rfl) rfl ?_; clear hS a; intro a hS
      refine Zt0 7 (tf 8 5) hS rfl want_none (e_move rfl) rfl (by kernel_rfl) rfl ?_; clear hS a; intro a hS
      refine Zt0 8 (tf 9 4) hS rfl want_none (e_move rfl) rfl (by kernel_rfl) rfl ?_; clear hS a; intro a hS
      refine Zt0 9 (tf 10 3) hS rfl want_none (e_build ty_z179 ty_pl179 (.one rfl rfl rfl (by repeat constructor) (.one rfl rfl rfl (by repeat constructor) (.one rfl rfl rfl (by repeat constructor) .nil)))) rfl (by kernel_rfl) rfl ?_; clear hS a; intro a hS
      refine Z_one (i := 10) rfl (want_none a hS.sl) (listed' := (tf 11 2)) rfl (by kernel_rfl) (s_bslice hS ty_sl178 ty_sz179 ty_z179 rfl rfl rfl rfl (.agg rfl rfl .nil) rfl ?_); clear hS a; (try clear w); intro a w b67 hS
      refine Z_and hS (sub_cons (by repeat constructor) (sub_cons (by repeat constructor) sub_nil)) ?_
      refine Z_one (i := 11) rfl (want_none a hS.sl) (listed' := (tf 12 1)) rfl (by kernel_rfl) (s_append1 hS rfl rfl ty_sl178 ty_sz179 ty_by179 ty_z179 rfl rfl rfl (by repeat constructor) (by repeat constructor) (by rfl) (by rfl) (fun _ => (by repeat constructor)) (by omega) ?_); clear hS a; (try clear w); intro v68 a w hv68 hS
      refine Z_and hS (sub_cons (by repeat constructor) (sub_cons (by repeat constructor) sub_nil)) ?_
      refine Z_one (i := 12) rfl (want_none a hS.sl) (listed' := (tf 13 0)) rfl (by kernel_rfl) (s_mapUp hS rfl rfl rfl ty_mp126 ty_u9 (by repeat constructor) ?_); clear hS; (try clear w); intro w hS
      refine Z_last (by simp) ?_
      refine Z_done (by kernel_rfl) ?_
      refine n_then (c_seq (c_region ?_))
      refine L_e hS (e_move rfl) rfl ?_; clear hS a; intro a hS
      refine L_e hS (e_nilCheck rfl) rfl ?_; clear hS a; intro a hS
      (first | refine L_e hS (e_fa0 rfl ty_fo128_2) rfl ?_ | refine L_e hS (e_faK rfl ty_fo128_2) rfl ?_); clear hS a; intro a hS
      refine L_e hS (e_load rfl (by repeat constructor) ty_sc3 (by rfl)) rfl ?_; clear hS a; intro a hS
      (first | refine L_e hS (e_binN rfl rfl rfl (by omega)) rfl ?_ | refine L_e hS (e_bin rfl rfl rfl) rfl ?_); clear hS a; intro a hS
      refine L_e hS (e_nilCheck rfl) rfl ?_; clear hS a; intro a hS
      (first | refine L_e hS (e_fa0 rfl ty_fo128_2) rfl ?_ | refine L_e hS (e_faK rfl ty_fo128_2) rfl ?_); clear hS a; intro a hS
      refine L_op (s_store hS rfl rfl rfl ty_sz3 (by repeat constructor) (by repeat constructor) ?_); clear hS; (try clear w); intro w hS
      refine L_nil (n_then (c_seq (c_region ?_)))
      refine L_e hS (e_assign rfl) rfl ?_; clear hS a; intro a hS
      refine L_nil (n_then (wp_ret ?_))
      refine c_ret1 hS Tryz.results48 (.tmp rfl) ?_
      have hE := setE_zero (own := own) (l := vsT es) (n := n) (c := e.cur) (at_ := at_) (nano := nano) hc16 hc21 hc29 hc36 hc51
      have hent : entT (es.set i ⟨e.cur, e.rows ++ [(at_, nano)], v68⟩) = setM (entT es) e.cur v68 := by
        rw [setM_some v68 hix, Nat.sub_zero]; simp [entT, List.map_set]
      have hrow : w.ownsRow 0 179 3 v68 (e.rows ++ [(at_, nano)]).length ((e.rows ++ [(at_, nano)]).flatMap (encT e.cur)) := by
        have h1 : w.ownsRow 0 179 3 v68 (e.rows.length + 1) (e.rows.flatMap (encT e.cur) ++ ([.string e.cur, .int .i64 at_, .int .i64 nano] ++ [])) := hS.get (X := ownA 179 3 v68 (e.rows.length + 1) _) (by repeat constructor)
        simpa [encT] using h1
      have hsep := hS.sep (X := ownA 179 3 v68 (e.rows.length + 1) (e.rows.flatMap (encT e.cur) ++ ([.string e.cur, .int .i64 at_, .int .i64 nano] ++ []))) (Y := rowsT (es.eraseIdx i)) (by repeat (first | exact Rem.head | apply Rem.tail)) (by repeat constructor)
      have hrest := hS.get (X := rowsT (es.eraseIdx i)) (by repeat constructor)
      have hset : (vsT (es.set i ⟨e.cur, e.rows ++ [(at_, nano)], v68⟩), n + 1) = setR own (vsT es) n e.cur at_ nano := by
        unfold setR; rw [if_pos hE, hro, putL_is wf.keys _ he]; simp [vsT, List.map_set]
      refine ⟨⟨(es.set i ⟨e.cur, e.rows ++ [(at_, nano)], v68⟩, n + 1), hset⟩, by (try dsimp only); rw [hE], hS.chg, rates_ok true ⟨hS.get (X := .blk bk [.string own, .map (some mb), .int .i64 (n + 1)] 128) (by repeat constructor), by rw [hent]; exact hS.get (X := smapA mb (setM (entT es) e.cur v68)) (by repeat constructor), fun x hx => ?_, ⟨?_, ?_, fun x hx => ?_, by show 0 ≤ n + 1; omega, by show n + 1 ≤ 500; omega⟩⟩, fun b hb => ?_⟩
      · rcases set_mem hx with rfl | hx
        · exact hrow
        · exact hrest x hx
      · exact pw_set wf.keys (fun x hx => (pw_erase (fun x y h => Ne.symm h) wf.keys he x hx))
      · exact pw_set wf.apart (fun x hx => ⟨fun k h1 h2 => hsep k h2 ⟨x, hx, h1⟩, fun k h1 h2 => hsep k h1 ⟨x, hx, h2⟩⟩)
      · rcases set_mem hx with rfl | hx
        · simp only [List.length_append, List.length_cons, List.length_nil]; omega
        · have := wf.len x (List.mem_of_mem_eraseIdx hx); simp only; omega
      · rcases hb with hb | hb | ⟨x, hx, hxb⟩
        · exact .inl (.inl hb)
        · exact .inl (.inr (.inl hb))
        · rcases set_mem hx with rfl | hx
          · exact (hS.mine (ownA 179 3 v68 (e.rows.length + 1) _) (by repeat constructor) rfl b hxb).symm
          · exact .inl (.inr (.inr ⟨x, List.mem_of_mem_eraseIdx hx, hxb⟩))
set_option maxRecDepth 100000 in
theorem fxSet_no (bk mb : Nat) (own c : ByteArray) (es : List RA) (n at_ nano : Int) (hno : ∀ e ∈ es, e.cur ≠ c) (_ : -9223372036854775808 ≤ at_ ∧ at_ ≤ 9223372036854775807) (w0 : World) (h : ratesφ bk mb own es n w0) :
    MutC Tryz.prog 48 [.pointer (some ⟨bk, 0, none⟩), .string c, .int .i64 at_, .int .i64 nano] w0 (ratesA bk mb own es n true) (fun _ : { y : List RA × Int // (vsT y.1, y.2) = setR own (vsT es) n c at_ nano } => .int .i64 (setE own (vsT es) n c at_ nano)) (fun y => ratesA bk mb own y.1.1 y.1.2 true) := by
  obtain ⟨a1, a2, a3⟩ := rates_apart h
  have wf := h.wf
  have hn0 := wf.n
  have hro : rowsOf (vsT es) c = [] := rowsOf_no hno
  have hix : idxM (entT es) c 0 = none := no_cur hno 0
  have hlk : lkM (entT es) c (.slice none 0 0) = .slice none 0 0 := by unfold lkM; rw [hix]
  have same : setE own (vsT es) n c at_ nano ≠ 0 → (vsT es, n) = setR own (vsT es) n c at_ nano := fun hne => by unfold setR; rw [if_neg hne]
  have hback : ∀ {a : Act} {w : World} {L : List (Nat × Value)} {Δ : List Asn}, St 76 (ratesF bk mb es) w0 a w L (bkT bk mb own n :: smapA mb (entT es) :: rowsT es :: Δ) → (ratesA bk mb own es n true).ok w := fun {a w L Δ} hS => rates_ok true ⟨hS.get (X := bkT bk mb own n) (by repeat constructor), hS.get (X := smapA mb (entT es)) (by repeat constructor), hS.get (X := rowsT es) (by repeat constructor), wf⟩
  refine c_enter [(0, .pointer (some ⟨bk, 0, none⟩)), (1, .string c), (2, .int .i64 at_), (3, .int .i64 nano)] [bkT bk mb own n, smapA mb (entT es), rowsT es] (ratesF bk mb es) Tryz.func48 rfl Tryz.ntmps48 ⟨rfl, rfl, rfl, rfl, trivial⟩ rfl (okC (ok_blk h.bk) (okC ⟨fun b hb => by obtain rfl : b = mb := hb; exact (Array.getElem?_eq_some_iff.1 h.mp).1, fun w' hw => by show w'.heap[mb]? = _; rw [hw mb rfl]; exact h.mp⟩ (okC (rows_ok h.rows) okN))) (disC (sepC (fun b hb hb' => a1 ((show b = bk from hb).symm.trans (show b = mb from hb'))) (sepC (fun b hb hb' => by obtain ⟨x, hx, hxb⟩ := hb'; exact a2 x hx (by rw [← show b = bk from hb]; exact hxb)) sepN)) (disC (sepC (fun b hb hb' => by obtain ⟨x, hx, hxb⟩ := hb'; exact a3 x hx (by rw [← show b = mb from hb]; exact hxb)) sepN) dis1)) (mineO (fun b hb => .inl hb) (mineO (fun b hb => .inr (.inl hb)) (mineO (fun b hb => .inr (.inr hb)) mineN))) ?_
  intro a hS
  refine c_seq (c_region ?_)
  refine L_e hS (e_assign rfl) rfl ?_; clear hS a; intro a hS
  refine L_nil (n_then (c_seq (c_seq (c_region ?_))))
  refine L_e hS (e_move rfl) rfl ?_; clear hS a; intro a hS
  refine L_e hS (e_move rfl) rfl ?_; clear hS a; intro a hS
  refine L_e hS (e_nilCheck rfl) rfl ?_; clear hS a; intro a hS
  (first | refine L_e hS (e_fa0 rfl ty_fo128_0) rfl ?_ | refine L_e hS (e_faK rfl ty_fo128_0) rfl ?_); clear hS a; intro a hS
  refine L_e hS (e_load rfl (by repeat constructor) ty_sc9 (by rfl)) rfl ?_; clear hS a; intro a hS
  refine L_e hS (e_binS rfl rfl rfl) rfl ?_; clear hS a; intro a hS
  refine L_nil (n_then ?_)
  first | refine c_ifD hS rfl (fun hc16 => ?_) (fun hc16 => ?_) | refine c_if hS rfl (fun hc16 => ?_) (fun hc16 => ?_)
  ·
    refine c_seq (c_region ?_)
    refine L_e hS (e_assign rfl) rfl ?_; clear hS a; intro a hS
    refine L_nil (n_then (wp_ret (r_then ?_)))
    refine c_ret1 hS Tryz.results48 (.tmp rfl) ?_
    have hE : setE own (vsT es) n c at_ nano = 18 := if_pos hc16
    exact ⟨⟨(es, n), same (by rw [hE]; decide)⟩, by (try dsimp only); rw [hE], hS.chg, hback hS, fun b hb => .inl hb⟩
  refine wp_skip (n_then (c_seq (c_seq (c_region ?_))))
  refine L_e hS (e_move rfl) rfl ?_; clear hS a; intro a hS
  refine L_e hS (e_move rfl) rfl ?_; clear hS a; intro a hS
  refine L_op (s_callP hS (.cons rfl (.cons rfl .nil)) cf87 rfl (fxasked_P c at_ _) ?_); clear hS a; (try clear w); intro a w hS
  refine L_e hS (e_assign rfl) rfl ?_; clear hS a; intro a hS
  refine L_nil (n_then (c_seq (c_region ?_)))
  refine L_e hS (e_move rfl) rfl ?_; clear hS a; intro a hS
  refine L_e hS (e_bin rfl rfl rfl) rfl ?_; clear hS a; intro a hS
  refine L_nil (n_then ?_)
  first | refine c_ifD hS rfl (fun hc21 => ?_) (fun hc21 => ?_) | refine c_if hS rfl (fun hc21 => ?_) (fun hc21 => ?_)
  ·
    refine c_seq (c_region ?_)
    refine L_e hS (e_move rfl) rfl ?_; clear hS a; intro a hS
    refine L_e hS (e_assign rfl) rfl ?_; clear hS a; intro a hS
    refine L_nil (n_then (wp_ret (r_then ?_)))
    refine c_ret1 hS Tryz.results48 (.tmp rfl) ?_
    have hE : setE own (vsT es) n c at_ nano = askF c at_ := by unfold setE; rw [if_neg hc16, if_pos hc21]
    exact ⟨⟨(es, n), same (by rw [hE]; exact hc21)⟩, by (try dsimp only); rw [hE], hS.chg, hback hS, fun b hb => .inl hb⟩
  refine wp_skip (n_then (c_seq (c_region ?_)))
  refine L_e hS (e_move rfl) rfl ?_; clear hS a; intro a hS
  refine L_e hS (e_nilCheck rfl) rfl ?_; clear hS a; intro a hS
  (first | refine L_e hS (e_fa0 rfl ty_fo128_1) rfl ?_ | refine L_e hS (e_faK rfl ty_fo128_1) rfl ?_); clear hS a; intro a hS
  refine L_e hS (e_load rfl (by repeat constructor) ty_sc126 (by rfl)) rfl ?_; clear hS a; intro a hS
  refine L_e hS (e_move rfl) rfl ?_; clear hS a; intro a hS
  refine L_e hS (e_lookupS rfl rfl ty_mp126 ty_u9 ty_zv178 (by repeat constructor)) rfl ?_; clear hS a; intro a hS
  rw [hlk] at hS
  refine L_e hS (e_assign rfl) rfl ?_; clear hS a; intro a hS
  refine L_nil (n_then (c_seq (wp_block (c_seq (c_region ?_)))))
  refine L_e hS (e_move rfl) rfl ?_; clear hS a; intro a hS
  refine L_e hS (e_bin rfl rfl rfl) rfl ?_; clear hS a; intro a hS
  refine L_e hS (e_move rfl) rfl ?_; clear hS a; intro a hS
  refine L_merge 3 35 (.bool (decide (nano < 1 ∨ 1125899906842624 < nano))) hS ?_ ?_
  · intro hcM35
    (first | refine g_splitD (t := 32) hS rfl ?_ ?_ | refine g_split (t := 32) hS rfl ?_ ?_) <;> (clear hS; intro hg32 hS)
    ·
      refine L_skip_f hS rfl rfl rfl ?_; clear hS a; intro a hS
      refine L_skip_f hS rfl rfl rfl ?_; clear hS a; intro a hS
      refine L_e hS (e_pk rfl rfl) rfl ?_; clear hS a; intro a hS
      exact hcM35 _ _ (hS.ends 4 35 32 rfl (congrArg Value.bool (by first | rfl | (simp [hg32]; done) | (simp [hg32]; omega) | grind)) rfl rfl (by first | exact congrArg Value.bool (decide_eq_true hg32).symm | exact congrArg Value.bool hg32.symm | simp [hg32]) rfl)
    refine L_ge hS rfl rfl (e_move rfl) rfl ?_; clear hS a; intro a hS
    refine L_ge hS rfl rfl (e_bin rfl rfl rfl) rfl ?_; clear hS a; intro a hS
    refine L_e hS (e_pk rfl rfl) rfl ?_; clear hS a; intro a hS
    exact hcM35 _ _ (hS.ends 4 35 32 rfl (congrArg Value.bool (by first | rfl | (simp [hg32]; done) | (simp [hg32]; omega) | grind)) rfl rfl (by first | exact congrArg Value.bool (decide_eq_false hg32).symm | exact congrArg Value.bool hg32.symm | simp [hg32]) rfl)
  · clear hS a; (try clear w); intro a w hS
    simp only [List.drop_succ_cons, List.drop_zero]
    refine L_e hS (e_assign rfl) rfl ?_; clear hS a; intro a hS
    refine L_nil (n_then ?_)
    first | refine c_ifD hS rfl (fun hc29 => ?_) (fun hc29 => ?_) | refine c_if hS rfl (fun hc29 => ?_) (fun hc29 => ?_)
    ·
      refine c_seq (c_region ?_)
      refine L_e hS (e_assign rfl) rfl ?_; clear hS a; intro a hS
      refine L_nil (n_then (wp_ret ?_))
      refine r_block (r_then ?_)
      refine c_ret1 hS Tryz.results48 (.tmp rfl) ?_
      have hE : setE own (vsT es) n c at_ nano = 6 := by unfold setE; rw [if_neg hc16, if_neg hc21, if_pos hc29]
      exact ⟨⟨(es, n), same (by rw [hE]; decide)⟩, by (try dsimp only); rw [hE], hS.chg, hback hS, fun b hb => .inl hb⟩
    refine c_seq (c_region ?_)
    refine L_e hS (e_move rfl) rfl ?_; clear hS a; intro a hS
    refine L_e hS (e_len rfl rfl ty_sl178) rfl ?_; clear hS a; intro a hS
    refine L_e hS (e_bin rfl rfl rfl) rfl ?_; clear hS a; intro a hS
    refine L_e hS (e_move rfl) rfl ?_; clear hS a; intro a hS
    replace hS := hS.is (t := 40) (c := false) rfl (rfl)
    refine L_skip_t hS rfl rfl rfl ?_; clear hS a; intro a hS
    refine L_skip_t hS rfl rfl rfl ?_; clear hS a; intro a hS
    refine L_skip_t hS rfl rfl rfl ?_; clear hS a; intro a hS
    refine L_skip_t hS rfl rfl rfl ?_; clear hS a; intro a hS
    refine L_skip_t hS rfl rfl rfl ?_; clear hS a; intro a hS
    refine L_skip_t hS rfl rfl rfl ?_; clear hS a; intro a hS
    refine L_skip_t hS rfl rfl rfl ?_; clear hS a; intro a hS
    refine L_skip_t hS rfl rfl rfl ?_; clear hS a; intro a hS
    refine L_skip_t hS rfl rfl rfl ?_; clear hS a; intro a hS
    refine L_e hS (e_pk rfl rfl) rfl ?_; clear hS a; intro a hS
    refine L_e hS (e_assign rfl) rfl ?_; clear hS a; intro a hS
    refine L_nil (n_then ?_)
    refine c_if_f hS rfl ?_
    refine c_seq (c_region ?_)
    refine L_e hS (e_move rfl) rfl ?_; clear hS a; intro a hS
    refine L_e hS (e_nilCheck rfl) rfl ?_; clear hS a; intro a hS
    (first | refine L_e hS (e_fa0 rfl ty_fo128_2) rfl ?_ | refine L_e hS (e_faK rfl ty_fo128_2) rfl ?_); clear hS a; intro a hS
    refine L_e hS (e_load rfl (by repeat constructor) ty_sc3 (by rfl)) rfl ?_; clear hS a; intro a hS
    refine L_e hS (e_bin rfl rfl rfl) rfl ?_; clear hS a; intro a hS
    refine L_e hS (e_assign rfl) rfl ?_; clear hS a; intro a hS
    refine L_nil (n_then ?_)
    first | refine c_ifD hS rfl (fun hc51 => ?_) (fun hc51 => ?_) | refine c_if hS rfl (fun hc51 => ?_) (fun hc51 => ?_)
    ·
      refine c_seq (c_region ?_)
      refine L_e hS (e_assign rfl) rfl ?_; clear hS a; intro a hS
      refine L_nil (n_then (wp_ret ?_))
      refine r_block (r_then ?_)
      refine c_ret1 hS Tryz.results48 (.tmp rfl) ?_
      have hE : setE own (vsT es) n c at_ nano = 9 := by unfold setE; rw [if_neg hc16, if_neg hc21, if_neg hc29, if_neg (by rw [hro]; rintro ⟨_, h0, _⟩; cases h0), if_pos hc51]
      exact ⟨⟨(es, n), same (by rw [hE]; decide)⟩, by (try dsimp only); rw [hE], hS.chg, hback hS, fun b hb => .inl hb⟩
    refine wp_skip (n_block (n_then (c_seq ?_)))
    refine c_drawS [12] (by kernel_rfl) hS (sub_cons (X := bkT bk mb own n) (by repeat constructor) (sub_cons (X := smapA mb (entT es)) (by repeat constructor) sub_nil)) ?_; clear hS; (try clear w); intro w hS
    simp only [List.length_cons, List.length_nil, Nat.zero_add, Nat.reduceAdd, List.replicate]
    refine Zt0 0 (tf 1 12) hS rfl want_none (e_move rfl) rfl (by kernel_rfl) rfl ?_; clear hS a; intro a hS
    refine Zt0 1 (tf 2 11) hS rfl want_none (e_nilCheck rfl) rfl (by kernel_rfl) rfl ?_; clear hS a; intro a hS
    (first | refine Zt0 2 (tf 3 10) hS rfl want_none (e_fa0 rfl ty_fo128_1) rfl (by kernel_rfl) rfl ?_ | refine Zt0 2 (tf 3 10) hS rfl want_none (e_faK rfl ty_fo128_1) rfl (by kernel_rfl) rfl ?_); clear hS a; intro a hS
    refine Zt 3 (tf 4 9) hS rfl want_none (e_load rfl (by repeat constructor) ty_sc126 (by rfl)) rfl (by kernel_rfl) (sub_cons (by repeat constructor) (sub_cons (by repeat constructor) sub_nil)) rfl ?_; clear hS a; intro a hS
    refine Zt0 4 (tf 5 8) hS rfl want_none (e_move rfl) rfl (by kernel_rfl) rfl ?_; clear hS a; intro a hS
    refine Zt0 5 (tf 6 7) hS rfl want_none (e_move rfl) rfl (by kernel_rfl) rfl ?_; clear hS a; intro a hS
    refine Zt0 6 (tf 7 6) hS rfl want_none (e_move rfl) rfl (by kernel_rfl) rfl ?_; clear hS a; intro a hS
    refine Zt0 7 (tf 8 5) hS rfl want_none (e_move rfl) rfl (by kernel_rfl) rfl ?_; clear hS a; intro a hS
    refine Zt0 8 (tf 9 4) hS rfl want_none (e_move rfl) rfl (by kernel_rfl) rfl ?_; clear hS a; intro a hS
    refine Zt0 9 (tf 10 3) hS rfl want_none (e_build ty_z179 ty_pl179 (.one rfl rfl rfl (by repeat constructor) (.one rfl rfl rfl (by repeat constructor) (.one rfl rfl rfl (by repeat constructor) .nil)))) rfl (by kernel_rfl) rfl ?_; clear hS a; intro a hS
    refine Z_one (i := 10) rfl (want_none a hS.sl) (listed' := (tf 11 2)) rfl (by kernel_rfl) (s_bslice hS ty_sl178 ty_sz179 ty_z179 rfl rfl rfl rfl (.agg rfl rfl .nil) rfl ?_); clear hS a; (try clear w); intro a w b67 hS
    refine Z_and hS (sub_cons (by repeat constructor) (sub_cons (by repeat constructor) sub_nil)) ?_
    replace hS := hS.own_nil 179 3
    refine Z_one (i := 11) rfl (want_none a hS.sl) (listed' := (tf 12 1)) rfl (by kernel_rfl) (s_append1 hS rfl rfl ty_sl178 ty_sz179 ty_by179 ty_z179 rfl rfl rfl (by repeat constructor) (by repeat constructor) (by rfl) (by rfl) (fun _ => (by repeat constructor)) (by omega) ?_); clear hS a; (try clear w); intro v68 a w hv68 hS
    refine Z_and hS (sub_cons (by repeat constructor) (sub_cons (by repeat constructor) sub_nil)) ?_
    refine Z_one (i := 12) rfl (want_none a hS.sl) (listed' := (tf 13 0)) rfl (by kernel_rfl) (s_mapUp hS rfl rfl rfl ty_mp126 ty_u9 (by repeat constructor) ?_); clear hS; (try clear w); intro w hS
    refine Z_last (by simp) ?_
    refine Z_done (by kernel_rfl) ?_
    refine n_then (c_seq (c_region ?_))
    refine L_e hS (e_move rfl) rfl ?_; clear hS a; intro a hS
    refine L_e hS (e_nilCheck rfl) rfl ?_; clear hS a; intro a hS
    (first | refine L_e hS (e_fa0 rfl ty_fo128_2) rfl ?_ | refine L_e hS (e_faK rfl ty_fo128_2) rfl ?_); clear hS a; intro a hS
    refine L_e hS (e_load rfl (by repeat constructor) ty_sc3 (by rfl)) rfl ?_; clear hS a; intro a hS
    (first | refine L_e hS (e_binN rfl rfl rfl (by omega)) rfl ?_ | refine L_e hS (e_bin rfl rfl rfl) rfl ?_); clear hS a; intro a hS
    refine L_e hS (e_nilCheck rfl) rfl ?_; clear hS a; intro a hS
    (first | refine L_e hS (e_fa0 rfl ty_fo128_2) rfl ?_ | refine L_e hS (e_faK rfl ty_fo128_2) rfl ?_); clear hS a; intro a hS
    refine L_op (s_store hS rfl rfl rfl ty_sz3 (by repeat constructor) (by repeat constructor) ?_); clear hS; (try clear w); intro w hS
    refine L_nil (n_then (c_seq (c_region ?_)))
    refine L_e hS (e_assign rfl) rfl ?_; clear hS a; intro a hS
    refine L_nil (n_then (wp_ret ?_))
    refine c_ret1 hS Tryz.results48 (.tmp rfl) ?_
    have hE := setE_zero (own := own) (l := vsT es) (n := n) (c := c) (at_ := at_) (nano := nano) hc16 hc21 hc29 (by rw [hro]; rintro ⟨_, h0, _⟩; cases h0) hc51
    have hent : entT (es ++ [⟨c, [(at_, nano)], v68⟩]) = setM (entT es) c v68 := by
      rw [setM_none v68 hix]; simp [entT]
    have hrow : w.ownsRow 0 179 3 v68 [(at_, nano)].length ([(at_, nano)].flatMap (encT c)) := by
      have h1 : w.ownsRow 0 179 3 v68 (0 + 1) ([] ++ ([.string c, .int .i64 at_, .int .i64 nano] ++ [])) := hS.get (X := ownA 179 3 v68 (0 + 1) _) (by repeat constructor)
      simpa [encT] using h1
    have hsep := hS.sep (X := ownA 179 3 v68 (0 + 1) ([] ++ ([.string c, .int .i64 at_, .int .i64 nano] ++ []))) (Y := rowsT es) (by repeat (first | exact Rem.head | apply Rem.tail)) (by repeat constructor)
    have hrest := hS.get (X := rowsT es) (by repeat constructor)
    have hset : (vsT (es ++ [⟨c, [(at_, nano)], v68⟩]), n + 1) = setR own (vsT es) n c at_ nano := by
      unfold setR; rw [if_pos hE, hro, putL_no _ hno]; simp [vsT]
    refine ⟨⟨(es ++ [⟨c, [(at_, nano)], v68⟩], n + 1), hset⟩, by (try dsimp only); rw [hE], hS.chg, rates_ok true ⟨hS.get (X := .blk bk [.string own, .map (some mb), .int .i64 (n + 1)] 128) (by repeat constructor), by rw [hent]; exact hS.get (X := smapA mb (setM (entT es) c v68)) (by repeat constructor), fun x hx => ?_, ⟨?_, ?_, fun x hx => ?_, by show 0 ≤ n + 1; omega, by show n + 1 ≤ 500; omega⟩⟩, fun b hb => ?_⟩
    · rcases List.mem_append.1 hx with hx | hx
      · exact hrest x hx
      · obtain rfl := List.mem_singleton.1 hx; exact hrow
    · exact pw_snoc wf.keys hno
    · exact pw_snoc wf.apart (fun x hx k h1 h2 => hsep k h2 ⟨x, hx, h1⟩)
    · rcases List.mem_append.1 hx with hx | hx
      · have := wf.len x hx; simp only; omega
      · obtain rfl := List.mem_singleton.1 hx; simp only [List.length_cons, List.length_nil]; omega
    · rcases hb with hb | hb | ⟨x, hx, hxb⟩
      · exact .inl (.inl hb)
      · exact .inl (.inr (.inl hb))
      · rcases List.mem_append.1 hx with hx | hx
        · exact .inl (.inr (.inr ⟨x, hx, hxb⟩))
        · obtain rfl := List.mem_singleton.1 hx
          exact (hS.mine (ownA 179 3 v68 (0 + 1) _) (by repeat constructor) rfl b hxb).symm
theorem fxSet_P (bk mb : Nat) (own c : ByteArray) (es : List RA) (n at_ nano : Int) (hat : -9223372036854775808 ≤ at_ ∧ at_ ≤ 9223372036854775807) (w0 : World) (h : ratesφ bk mb own es n w0) :
    MutC Tryz.prog 48 [.pointer (some ⟨bk, 0, none⟩), .string c, .int .i64 at_, .int .i64 nano] w0 (ratesA bk mb own es n true) (fun _ : { y : List RA × Int // (vsT y.1, y.2) = setR own (vsT es) n c at_ nano } => .int .i64 (setE own (vsT es) n c at_ nano)) (fun y => ratesA bk mb own y.1.1 y.1.2 true) := by
  rcases has_cur es c with ⟨i, e, he, rfl⟩ | hno
  · exact fxSet_is bk mb own es n at_ nano i e he hat w0 h
  · exact fxSet_no bk mb own c es n at_ nano hno hat w0 h
end Go.Proofs.YtheofhegdjjfgaaGreat

namespace Go.Proofs.YtheofhegdjjfgaaGreat
open Go.RowKit
def AbB {β : Type} (B : Nat) (I : β → World → Prop) : Prop :=
  ∀ s W W', I s W → W'.os = W.os → W'.tape = W.tape → W'.output = W.output → W.heap.size ≤ W'.heap.size → (∀ k, k < B → W'.heap[k]? = W.heap[k]?) → I s W'
theorem AbB.alloc {β : Type} {B : Nat} {I : β → World → Prop} (h : AbB B I) {s : β} {W : World} (hB : B ≤ W.heap.size) (hs : I s W) (o : Obj) : I s (W.alloc o) :=
  h s W _ hs rfl rfl rfl (by simp) (fun k hk => Below.heap_alloc W o k (by omega))
theorem AbB.put {β : Type} {B : Nat} {I : β → World → Prop} (h : AbB B I) {s : β} {W : World} {l : Nat} (hl : B ≤ l) (hs : I s W) (o : Obj) : I s (W.putObj l o) :=
  h s W _ hs rfl rfl rfl (by simp) (fun k hk => World.putObj_heap_other (by omega))
def SeqB {α : Type} (P : Program) (gf : Nat) (lb : Array Value) (encs : α → Array Value) (S Sp : List α → Prop) (N : Nat) (K0 : World → Prop) : Prop :=
  ∀ (l : Nat) (J Jx : List α → World → Prop) (W : World), (∀ pre W', J pre W' → K0 W') → AbB W.heap.size J → AbB W.heap.size Jx →
    (∀ pre x W1, J pre W1 → pre.length < N → YieldAt Fence.wide 0 P l (encs x) W1 fun e W' => (e = .returned (.bool true) ∧ J (pre ++ [x]) W') ∨ (e = .returned (.bool false) ∧ Jx (pre ++ [x]) W')) →
    J [] W → CallsIn Fence.wide 0 P gf (#[.func (.yield l) #[] #[]] ++ lb) W fun e W' => (∃ v, e = .returned v) ∧ ((∃ xs, S xs ∧ J xs W') ∨ ∃ pre, Sp pre ∧ Jx pre W')
def postB {α : Type} (B : Nat) (I : List α → World → Prop) (Ix : Code → List α → World → Prop) (xs : List α) (W : World) : Exit → Act → World → Prop
  | .normal, _, W' => (∀ k, B ≤ k → k < W.heap.size → W'.heap[k]? = W.heap[k]?) ∧ I xs W'
  | .ret, _, W' => (∀ k, B ≤ k → k < W.heap.size → W'.heap[k]? = W.heap[k]?) ∧ Ix .ret xs W'
  | .exit id, _, W' => (∀ k, B ≤ k → k < W.heap.size → W'.heap[k]? = W.heap[k]?) ∧ Ix (.exit id) xs W'
  | .goto t, _, W' => (∀ k, B ≤ k → k < W.heap.size → W'.heap[k]? = W.heap[k]?) ∧ Ix (.goto t) xs W'
  | .panic _, _, _ => False
  | .outgrown, _, _ => False
theorem putObj_at {W : World} {l : Nat} {o : Obj} {o' : Obj} (h : W.heap[l]? = some o) : (W.putObj l o').heap[l]? = some o' := World.putObj_heap_same (Array.getElem?_eq_some_iff.1 h).1
structure Turn (l : Nat) (W W' : World) : Prop where
  os : W'.os = W.os
  tape : W'.tape = W.tape
  output : W'.output = W.output
  size : W'.heap.size = W.heap.size
  same : ∀ k, k ≠ l → W'.heap[k]? = W.heap[k]?
theorem Turn.put (W : World) (l : Nat) (o : Obj) : Turn l W (W.putObj l o) := ⟨rfl, rfl, rfl, by simp, fun _ hk => World.putObj_heap_other hk⟩
theorem rangeFunc_B {P : Program} {α : Type} {g : Operand} {ps : Array Tmp} {assign body : Code} {Q : Exit → Act → World → Prop} {a : Act} {w : World}
    {gf : Nat} {lb : Array Value} (hg : a.eval g = .func (.func gf) #[] lb) (eg : CallsTo P gf) {encs : α → Array Value} {S Sp : List α → Prop} {N : Nat} {K0 : World → Prop}
    (hseq : SeqB P gf lb encs S Sp N K0) (hps : ∀ x, (encs x).size = ps.size) (I : List α → World → Prop) (Ix : Code → List α → World → Prop)
    (hI : AbB w.heap.size I) (hIx : ∀ c, AbB w.heap.size (Ix c)) (hK : ∀ pre W', I pre W' → K0 W') (h0 : I [] w)
    (hround : ∀ (l : Nat) (pre : List α) (x : α) (W : World), w.heap.size + 2 ≤ W.heap.size → I pre W → pre.length < N →
      assign.wpIn (Fence.wide.inRound l) 0 P (Exit.then (fun a1 W1 => ((∀ k, w.heap.size ≤ k → k < W.heap.size → W1.heap[k]? = W.heap[k]?) ∧ W.heap.size ≤ W1.heap.size) ∧ ∀ W2, Turn (w.heap.size + 1) W1 W2 → body.wpIn (Fence.wide.inRound l) 0 P (postB w.heap.size I Ix (pre ++ [x]) W2) a1 W2) (fun _ _ _ => False))
        { tmps := (ps.zip (encs x)).foldl (fun t (p, v) => t.setIfInBounds p v) a.tmps, defers := [] } W)
    (hdone : ∀ (D : Nat) (xs : List α) (W : World), w.heap.size ≤ D → S xs → I xs W → W.heap[D]? = some (.deferred (some [])) → Q .normal { a with defers := { target := .collected D, args := #[] } :: a.defers } W)
    (hstop : ∀ (D : Nat) (c : Code) (pre : List α) (W : World), w.heap.size ≤ D → Sp pre → Ix c pre W → W.heap[D]? = some (.deferred (some [])) → c.wpIn Fence.wide 0 P Q { a with defers := { target := .collected D, args := #[] } :: a.defers } W) :
    (Code.rangeFunc g ps assign body).wpIn Fence.wide 0 P Q a w := by
  refine wpIn_rangeFunc fun fn hfn => ?_
  obtain ⟨rec, hrec⟩ : ∃ rec : LoopState → Option Code → Loop, rec = fun st pe => { state := st, pending := pe, fn, tmps := a.tmps, params := ps, assign, body, defers := w.heap.size } := ⟨_, rfl⟩
  obtain ⟨W1, hW1⟩ : ∃ W1, (w.alloc (.deferred (some []))).alloc (.loop (rec .ready none)) = W1 := ⟨_, rfl⟩
  have hs1 : W1.heap.size = w.heap.size + 2 := by rw [← hW1]; simp
  have hL : W1.heap[w.heap.size + 1]? = some (.loop (rec .ready none)) := by
    rw [← hW1]; have := World.alloc_heap_new (w.alloc (.deferred (some []))) (.loop (rec .ready none)); rwa [World.size_alloc] at this
  have hD : W1.heap[w.heap.size]? = some (.deferred (some [])) := by
    rw [← hW1]; exact (Below.heap_alloc _ _ _ (by simp)).trans (World.alloc_heap_new w _)
  have hI1 : I [] W1 := by rw [← hW1]; exact hI.alloc (by simp) (hI.alloc (Nat.le_refl _) h0 _) _
  refine ⟨w.heap.size + 1, [{ target := .collected w.heap.size, args := #[] }], W1, { target := .fn (.func gf) lb, args := #[.func (.yield (w.heap.size + 1)) #[] #[]] }, W1, gf,
    #[.func (.yield (w.heap.size + 1)) #[] #[]] ++ lb, W1, ?_, ?_, fun _ _ => trivial, ?_, fun h => (by cases h), ?_⟩
  · rw [← hW1, hrec]; exact run_enterLoop_outer _ _ _ _ _
  · simp only [resolve, hg]
    simp [go_sem]
  · have := eg (#[.func (.yield (w.heap.size + 1)) #[] #[]] ++ lb) W1
    exact this
  have key := hseq (w.heap.size + 1) (fun pre W => w.heap.size + 2 ≤ W.heap.size ∧ I pre W ∧ W.heap[w.heap.size + 1]? = some (.loop (rec .ready none)) ∧ W.heap[w.heap.size]? = some (.deferred (some [])))
    (fun pre W => w.heap.size + 2 ≤ W.heap.size ∧ ∃ c, Ix c pre W ∧ W.heap[w.heap.size + 1]? = some (.loop (rec .done (some c))) ∧ W.heap[w.heap.size]? = some (.deferred (some []))) W1
    (fun pre W' h => hK pre W' h.2.1)
    (fun s A B h e1 e2 e3 e4 e5 => ⟨Nat.le_trans h.1 e4, hI s A B h.2.1 e1 e2 e3 e4 (fun k hk => e5 k (by omega)), (e5 _ (by omega)).trans h.2.2.1, (e5 _ (by omega)).trans h.2.2.2⟩)
    (fun s A B h e1 e2 e3 e4 e5 => by
      obtain ⟨hz, c, h1, h2, h3⟩ := h
      exact ⟨Nat.le_trans hz e4, c, hIx c s A B h1 e1 e2 e3 e4 (fun k hk => e5 k (by omega)), (e5 _ (by omega)).trans h2, (e5 _ (by omega)).trans h3⟩)
    ?_ ⟨by omega, hI1, hL, hD⟩
  · refine key.mono ?_
    rintro e W2 ⟨⟨v, rfl⟩, (⟨xs, hS, hz, hi, hl, hk⟩ | ⟨pre, hSp, hz, c, hi, hl, hk⟩)⟩
    · exact ⟨none, _, by have := run_endLoop (P := P) hl (by rw [hrec]; simp); rw [hrec] at this; exact this, hdone _ xs _ (Nat.le_refl _) hS (hI.put (by omega) hi _) ((World.putObj_heap_other (by omega)).trans hk)⟩
    · exact ⟨some c, _, by have := run_endLoop (P := P) hl (by rw [hrec]; simp); rw [hrec] at this; exact this, hstop _ c pre _ (Nat.le_refl _) hSp ((hIx c).put (by omega) hi _) ((World.putObj_heap_other (by omega)).trans hk)⟩
  · rintro pre x W ⟨hz, hi, hl, hk⟩ hlen
    have hy := run_yield (P := P) (args := encs x) hl (by rw [hrec]; exact hps x)
    rw [hrec] at hy
    refine ⟨fn, _, assign, body, hy, roundIn_of_wpIn hfn (wpIn_mono (hround _ pre x W hz hi hlen) ?_)⟩
    rintro e a1 W1' hp1
    cases e with
    | exit _ => exact hp1.elim
    | goto _ => exact hp1.elim
    | ret => exact hp1.elim
    | panic _ => exact hp1.elim
    | outgrown => exact hp1.elim
    | normal => ?_
    obtain ⟨⟨hkeep, hzz⟩, hbody⟩ := hp1
    have hl1 := (hkeep (w.heap.size + 1) (by omega) (by omega)).trans hl
    have hk1 := (hkeep w.heap.size (Nat.le_refl _) (by omega)).trans hk
    refine ⟨_, run_beginRound hl1 (by rw [hrec]), ?_⟩
    obtain ⟨W2, hW2⟩ : ∃ W2, W1'.putObj (w.heap.size + 1) (.loop { rec .ready none with state := .busy }) = W2 := ⟨_, rfl⟩
    have hl2 : W2.heap[w.heap.size + 1]? = some (.loop { rec .ready none with state := .busy }) := by rw [← hW2]; exact putObj_at hl1
    have hk2 : W2.heap[w.heap.size]? = some (.deferred (some [])) := by rw [← hW2]; exact (World.putObj_heap_other (by omega)).trans hk1
    have hz2 : w.heap.size + 2 ≤ W2.heap.size := by rw [← hW2]; simp; omega
    rw [hW2]
    refine wpIn_mono (hbody W2 (by rw [← hW2]; exact Turn.put _ _ _)) ?_
    have fin : ∀ (jump : Option Code) (W3 : World), (∀ k, w.heap.size ≤ k → k < W2.heap.size → W3.heap[k]? = W2.heap[k]?) → w.heap.size + 2 ≤ W3.heap.size ∧
        (Instr.endRound (w.heap.size + 1) jump).run P W3 = .ok (.bool jump.isNone) (W3.putObj (w.heap.size + 1) (.loop (rec (if jump.isNone then .ready else .done) jump))) ∧
        (W3.putObj (w.heap.size + 1) (.loop (rec (if jump.isNone then .ready else .done) jump))).heap[w.heap.size + 1]? = some (.loop (rec (if jump.isNone then .ready else .done) jump)) ∧
        (W3.putObj (w.heap.size + 1) (.loop (rec (if jump.isNone then .ready else .done) jump))).heap[w.heap.size]? = some (.deferred (some [])) := fun jump W3 hk3 => by
      have hl3 := (hk3 _ (by omega) (by omega)).trans hl2
      have hd3 := (hk3 _ (Nat.le_refl _) (by omega)).trans hk2
      have hr := run_endRound (P := P) jump hl3
      rw [hrec] at hr ⊢
      exact ⟨by have := (Array.getElem?_eq_some_iff.1 hl3).1; omega, hr, putObj_at hl3, (World.putObj_heap_other (by omega)).trans hd3⟩
    rintro e a3 W3 hp
    cases e with
    | normal =>
      obtain ⟨hk3, hi3⟩ := hp
      obtain ⟨hz3, hr, hl4, hk4⟩ := fin none W3 hk3
      exact ⟨_, _, hr, .inl ⟨rfl, by simpa using hz3, hI.put (by omega) hi3 _, hl4, hk4⟩⟩
    | ret =>
      obtain ⟨hk3, hi3⟩ := hp
      obtain ⟨hz3, hr, hl4, hk4⟩ := fin (some .ret) W3 hk3
      exact ⟨_, _, hr, .inr ⟨rfl, by simpa using hz3, .ret, (hIx _).put (by omega) hi3 _, hl4, hk4⟩⟩
    | exit id =>
      obtain ⟨hk3, hi3⟩ := hp
      obtain ⟨hz3, hr, hl4, hk4⟩ := fin (some (.exit id)) W3 hk3
      exact ⟨_, _, hr, .inr ⟨rfl, by simpa using hz3, .exit id, (hIx _).put (by omega) hi3 _, hl4, hk4⟩⟩
    | goto t =>
      obtain ⟨hk3, hi3⟩ := hp
      obtain ⟨hz3, hr, hl4, hk4⟩ := fin (some (.goto t)) W3 hk3
      exact ⟨_, _, hr, .inr ⟨rfl, by simpa using hz3, .goto t, (hIx _).put (by omega) hi3 _, hl4, hk4⟩⟩
    | panic ch => exact hp.elim
    | outgrown => exact hp.elim
end Go.Proofs.YtheofhegdjjfgaaGreat

namespace Go.Proofs.YtheofhegdjjfgaaGreat
open Go.RowKit
def FW (r : Option Nat) : Fence := { Fence.wide with round := r }
section
variable {P : Program} {n : Nat} {F0 : Nat → Prop} {w0 : World} {a : Act} {w : World} {L : List (Nat × Value)} {Γ : List Asn} {r : Option Nat} {N : Nat}
variable {K : Act → World → Prop} {Q : Exit → Act → World → Prop} {d ty : Nat} {dst : Option Tmp} {pos : String} {af : Array Edge} {g : Option (Nat × Bool)} {op : Op} {rest l : List Oper}
theorem oper_in {o : Oper} (hd : ∀ c, o.op ≠ .defer c) (h : o.wp P a w K Q) : o.wpIn (FW r) N P a w K Q := by
  refine ⟨fun _ _ => trivial, ?_⟩
  rw [Oper.semAt_eq _ _ _ hd]
  unfold Oper.wp at h
  generalize (execOp a.eval o).run P w = res at h
  cases res with
  | ok nx w' =>
    cases nx with
    | value v => exact h
    | skip => exact h
    | defer d => exact h
    | enter f args => exact ⟨fun hh => (by cases hh), CallsIn.mono (F := Fence.wide) (callsIn_wide.2 h) (fun e w2 hr => by cases e <;> exact hr)⟩
    | row nm args => exact ⟨fun hh => (by cases hh), fun c cs _ => let ⟨v, w2, hr, s⟩ := h c cs; ⟨v, w2, hr, stepsIn_wide.2 s⟩⟩
    | _ => exact h.elim
  | halt s w' => cases s <;> first | exact h | exact h.elim
def notDefer : Op → Bool
  | .defer _ => false
  | _ => true
theorem notDefer_ne {o : Op} (h : notDefer o = true) : ∀ c, o ≠ .defer c := fun c e => by subst e; cases h
theorem R_nil {ops : Array Oper} (h : Q .normal a w) : wpListIn (FW r) N P ops Q [] a w := h
theorem R_op {ops : Array Oper} (hd : notDefer op = true) (h : OW P ⟨dst, op, ty, pos, af, none⟩ a w (wpListIn (FW r) N P ops Q rest) Q) : wpListIn (FW r) N P ops Q (⟨dst, op, ty, pos, af, none⟩ :: rest) a w := by
  unfold wpListIn
  rw [if_pos (by simp [Region.wanted])]
  exact oper_in (notDefer_ne hd) h.h
theorem R_yield {ops : Array Oper} {x : Operand} {xs : List Operand} {vs : List Value} {ts : Array TypeId} {y : Nat} {R : Ending → World → Prop} (hS : St n F0 w0 a w L Γ) (hx : ev L x = some (.func (.yield y) #[] #[])) (hxs : Evs L xs vs)
    (hy : YieldAt Fence.wide 0 P y vs.toArray w R) (h : ∀ e w', R e w' → ∃ v, e = .returned v ∧ wpListIn (FW none) 0 P ops Q rest (a.put dst v) w') :
    wpListIn (FW none) 0 P ops Q (⟨dst, .call ⟨.value x, xs.toArray, ts⟩, ty, pos, af, none⟩ :: rest) a w := by
  unfold wpListIn
  rw [if_pos (by simp [Region.wanted])]
  obtain ⟨fn, tmps, assign, body, hrun, hround⟩ := hy
  refine ⟨fun _ _ => trivial, ?_⟩
  have he : (execOp a.eval (⟨dst, .call ⟨.value x, xs.toArray, ts⟩, ty, pos, af, none⟩ : Oper)).run P w = .ok (.round y fn tmps assign body) w := by
    have h1 := hS.sl.evs hxs
    have hr : (resolve a.eval ⟨.value x, xs.toArray, ts⟩ ty).run P w = .ok ⟨.fn (.yield y) #[], #[] ++ vs.toArray⟩ w := by
      simp only [resolve, hS.sl.ev hx, h1, Deferred.ofValue]; rfl
    show ((resolve a.eval ⟨.value x, xs.toArray, ts⟩ ty) >>= fun d => invoke d.target d.args).run P w = _
    rw [Sem.run_bind, hr]
    show (invoke (.fn (.yield y) #[]) (#[] ++ vs.toArray)).run P w = _
    have e1 : (#[] ++ vs.toArray : Array Value) = vs.toArray := by simp
    rw [e1]
    simpa [invoke] using hrun
  rw [Oper.semAt_eq _ _ _ (fun c e => by cases e), he]
  refine ⟨fun hh => (by cases hh), hround.mono fun e w' hR => ?_⟩
  obtain ⟨v, rfl, hK⟩ := h e w' hR
  exact hK
theorem R_region {id : Nat} {l : List Oper} (h : wpListIn (FW r) N P l.toArray Q l a w) : (Code.region id l.toArray false).wpIn (FW r) N P Q a w := wpIn_region_lit h
theorem R_seq {x y : Code} (h : x.wpIn (FW r) N P (Exit.then (y.wpIn (FW r) N P Q) Q) a w) : (Code.seq x y).wpIn (FW r) N P Q a w := wpIn_seq h
theorem R_skip (h : Q .normal a w) : Code.skip.wpIn (FW r) N P Q a w := wpIn_skip h
theorem R_block {id : Nat} {c : Code} (h : c.wpIn (FW r) N P (Exit.inBlock id Q) a w) : (Code.block id c).wpIn (FW r) N P Q a w := wpIn_block h
theorem R_ret (h : Q .ret a w) : Code.ret.wpIn (FW r) N P Q a w := wpIn_ret h
theorem R_exit {id : Nat} (h : Q (.exit id) a w) : (Code.exit id).wpIn (FW r) N P Q a w := wpIn_exit h
theorem R_if {c : Operand} {x y : Code} {b : Bool} (hS : St n F0 w0 a w L Γ) (hc : ev L c = some (.bool b)) (h1 : b = true → x.wpIn (FW r) N P Q a w) (h2 : b = false → y.wpIn (FW r) N P Q a w) : (Code.cond c x y).wpIn (FW r) N P Q a w :=
  wpIn_cond_split (hS.sl.ev hc) h1 h2
theorem R_ifD {c : Operand} {x y : Code} {p : Prop} [hp : Decidable p] (hS : St n F0 w0 a w L Γ) (hc : ev L c = some (.bool (decide p))) (h1 : p → x.wpIn (FW r) N P Q a w) (h2 : ¬ p → y.wpIn (FW r) N P Q a w) : (Code.cond c x y).wpIn (FW r) N P Q a w :=
  wpIn_cond_split (hS.sl.ev hc) (fun h => h1 (of_decide_eq_true h)) (fun h => h2 (of_decide_eq_false h))
theorem R_loop {γ : Type} {c : Code} (I : γ → Act → World → Prop) (μ : γ → Nat) (g0 : γ) (h0 : I g0 a w)
    (round : ∀ g a w, I g a w → c.wpIn (FW r) N P (Exit.then (fun a' w' => ∃ g', μ g' < μ g ∧ I g' a' w') Q) a w) : (Code.loop c).wpIn (FW r) N P Q a w := by
  intro b k cs hro hb hr
  have key : ∀ m g a w, μ g = m → I g a w → ∃ e a' w', Q e a' w' ∧ ArrivesIn (Machine.fenced P (FW r)) P (lone (b.atR a (.code c :: .inLoop c :: k)) cs w) b k cs e a' w' := by
    intro m
    induction m using Nat.strongRecOn with
    | _ m ih =>
      intro g a w hm hI
      obtain ⟨e, a1, w1, hq, harr⟩ := round g a w hI b (.inLoop c :: k) cs hro hb hr
      cases e with
      | normal =>
        obtain ⟨g', hlt, hI'⟩ := hq
        obtain ⟨e2, a2, w2, hq2, harr2⟩ := ih (μ g') (hm ▸ hlt) g' a1 w1 rfl hI'
        exact ⟨e2, a2, w2, hq2, .of_steps (StepsIn.trans harr (.one (fenced_calm hb hr rfl) stepR_inLoop)) harr2⟩
      | exit id => exact ⟨_, a1, w1, hq, .pass (x := .inLoop c) rfl (fun _ _ => .inl (by simp)) harr⟩
      | goto l => exact ⟨_, a1, w1, hq, .pass (x := .inLoop c) rfl (fun _ _ => .inl (by simp)) harr⟩
      | ret => exact ⟨_, a1, w1, hq, .pass (x := .inLoop c) rfl (fun _ _ => .inl (by simp)) harr⟩
      | panic ch => exact ⟨_, a1, w1, hq, .pass (x := .inLoop c) rfl (fun _ _ => .inl (by simp)) harr⟩
      | outgrown => exact ⟨_, a1, w1, hq, .pass (x := .inLoop c) rfl (fun _ _ => .inl (by simp)) harr⟩
  obtain ⟨e, a', w', hq, harr⟩ := key _ g0 a w rfl h0
  exact ⟨e, a', w', hq, .of_steps (.one (fenced_calm hb hr rfl) stepR_loop) harr⟩
theorem retM {fn : Func} {R : Ending → World → Prop} (hd : a.defers = []) (h : bodyPost P fn R .ret a w) : bodyPostM Fence.wide 0 P fn R .ret a w := by
  obtain ⟨_, v, h1, h2⟩ := h
  show LeavesInM Fence.wide 0 P fn a.tmps R a.defers .returning w
  rw [hd]
  exact ⟨v, h1, h2⟩
theorem callsM_enter {f : FuncId} {fn : Func} {c : Code} {args : List Value} {R : Ending → World → Prop} {m : Nat} (L : List (Nat × Value)) (Γ : List Asn) (F0 : Nat → Prop) (hf : P.funcs[f]? = some fn) (hb : fn.body = some c) (hm : fn.ntmps = m)
    (hA : SubA args L) (hn : Nat.ble args.length m = true) (ok : ∀ X ∈ Γ, X.ok w) (dis : Γ.Pairwise (fun X Y => ∀ b, X.F b → ¬ Y.F b)) (mine : ∀ X ∈ Γ, X.mine = true → ∀ b, X.F b → w.heap.size ≤ b ∨ F0 b)
    (h : ∀ a, St m F0 w a w L Γ → c.wpIn (FW none) 0 P (bodyPostM Fence.wide 0 P fn R) a w) : Calls P f args.toArray w R := by
  refine callsIn_wide.1 (callsIn_of_wp_marks (n := 0) hf hb trivial (h _ ⟨?_, Chg.refl _ _, ok, dis, mine⟩))
  have hle : args.length ≤ m := Nat.le_of_ble_eq_true hn
  have := Sl.start (l := args) (L := L) (n := m) (m := m - args.length) hA (by omega)
  simpa [hm] using this
theorem endM {fn : Func} {R : Ending → World → Prop} {D : Nat} {v : Value} {e : Exit} (he : e = .ret ∨ e = .normal) (hd : a.defers = [{ target := .collected D, args := #[] }]) (hD : w.heap[D]? = some (.deferred (some [])))
    (hr : (results fn a.tmps).run P (w.putObj D (.deferred none)) = .ok v (w.putObj D (.deferred none))) (h : R (.returned v) (w.putObj D (.deferred none))) : bodyPostM Fence.wide 0 P fn R e a w := by
  have key : LeavesInM Fence.wide 0 P fn a.tmps R a.defers .returning w := by
    rw [hd]
    exact ⟨by simp, .inl ⟨_, _, rfl, run_takeDeferred hD, v, hr, h⟩⟩
  rcases he with rfl | rfl <;> exact key
theorem callsIn_enter {f : FuncId} {fn : Func} {c : Code} {args : List Value} {R : Ending → World → Prop} {m : Nat} (L : List (Nat × Value)) (Γ : List Asn) (F0 : Nat → Prop) (hf : P.funcs[f]? = some fn) (hb : fn.body = some c) (hm : fn.ntmps = m)
    (hA : SubA args L) (hn : Nat.ble args.length m = true) (ok : ∀ X ∈ Γ, X.ok w) (dis : Γ.Pairwise (fun X Y => ∀ b, X.F b → ¬ Y.F b)) (mine : ∀ X ∈ Γ, X.mine = true → ∀ b, X.F b → w.heap.size ≤ b ∨ F0 b)
    (h : ∀ a, St m F0 w a w L Γ → c.wpIn (FW none) 0 P (bodyPost P fn R) a w) : CallsIn Fence.wide 0 P f args.toArray w R := by
  refine callsIn_of_wp hf hb trivial (h _ ⟨?_, Chg.refl _ _, ok, dis, mine⟩)
  have hle : args.length ≤ m := Nat.le_of_ble_eq_true hn
  have := Sl.start (l := args) (L := L) (n := m) (m := m - args.length) hA (by omega)
  simpa [hm] using this
theorem rangeFunc_B2 {α : Type} {B : Nat} (hB : w.heap.size = B) {x : Operand} {ps : Array Tmp} {assign body : Code} 
    {gf : Nat} {lb : Array Value} (hg : a.eval x = .func (.func gf) #[] lb) (eg : CallsTo P gf) {encs : α → Array Value} {S Sp : List α → Prop} {M : Nat} {K0 : World → Prop}
    (hseq : SeqB P gf lb encs S Sp M K0) (hps : ∀ x, (encs x).size = ps.size) (I : List α → World → Prop) (Ix : Code → List α → World → Prop)
    (hI : AbB B I) (hIx : ∀ c, AbB B (Ix c)) (hK : ∀ pre W', I pre W' → K0 W') (h0 : I [] w)
    (hround : ∀ (l : Nat) (pre : List α) (x : α) (W : World), B + 2 ≤ W.heap.size → I pre W → pre.length < M →
      assign.wpIn (FW (some l)) 0 P (Exit.then (fun a1 W1 => ((∀ k, B ≤ k → k < W.heap.size → W1.heap[k]? = W.heap[k]?) ∧ W.heap.size ≤ W1.heap.size) ∧ ∀ W2, Turn (B + 1) W1 W2 → body.wpIn (FW (some l)) 0 P (postB B I Ix (pre ++ [x]) W2) a1 W2) (fun _ _ _ => False))
        { tmps := (ps.zip (encs x)).foldl (fun t (p, v) => t.setIfInBounds p v) a.tmps, defers := [] } W)
    (hdone : ∀ (D : Nat) (xs : List α) (W : World), B ≤ D → S xs → I xs W → W.heap[D]? = some (.deferred (some [])) → Q .normal { a with defers := { target := .collected D, args := #[] } :: a.defers } W)
    (hstop : ∀ (D : Nat) (c : Code) (pre : List α) (W : World), B ≤ D → Sp pre → Ix c pre W → W.heap[D]? = some (.deferred (some [])) → c.wpIn (FW none) 0 P Q { a with defers := { target := .collected D, args := #[] } :: a.defers } W) :
    (Code.rangeFunc x ps assign body).wpIn (FW none) 0 P Q a w := by
  subst hB
  exact rangeFunc_B hg eg hseq hps I Ix hI hIx hK h0 hround hdone hstop
theorem St.putD (hS : St n F0 w0 a w L Γ) {D : Nat} {o : Obj} (hD : w0.heap.size ≤ D) (hn : ∀ X ∈ Γ, ∀ b, X.F b → b ≠ D) : St n F0 w0 a (w.putObj D o) L Γ := by
  have hc : Chg (fun k => k = D) w (w.putObj D o) := ⟨rfl, rfl, rfl, by simp, fun k _ hk => World.putObj_heap_other hk⟩
  exact ⟨hS.sl, hS.chg.trans hc (fun i hi hlt => by omega), fun X hX => (hS.ok X hX).keep hc (fun b hb e => hn X hX b hb e), hS.dis, hS.mine⟩
theorem endN {fn : Func} {R : Ending → World → Prop} {D : Nat} {e : Exit} {rs : List ResultVar} {vs : List Value} (hS : St n F0 w0 a (w.putObj D (.deferred none)) L Γ) (he : e = .ret ∨ e = .normal) (hD : w.heap[D]? = some (.deferred (some [])))
    (hr : fn.results = rs.toArray) (hv : ResL P L Γ rs vs) (hne : Nat.beq vs.length 1 = false) (h : R (.returned (.tuple vs.toArray)) (w.putObj D (.deferred none))) :
    bodyPostM Fence.wide 0 P fn R e { a with defers := { target := .collected D, args := #[] } :: a.defers } w := by
  refine endM he (by show _ :: a.defers = _; rw [hS.sl.defers]) hD ?_ h
  have h1 := ResL.run hS hv
  have h2 : ¬ vs.toArray.size = 1 := by simpa using nbeq_ne hne
  show (results fn a.tmps).run P _ = _
  rw [results_rvS, hr, List.mapM_toArray, Sem.run_bind, Sem.run_map, h1]
  simp only [Result.andThen_ok, h2, dite_false]
  rfl
theorem put_defers {ds : List Deferred} {v : Value} : Act.put { a with defers := ds } dst v = { a.put dst v with defers := ds } := by cases dst <;> rfl
theorem OW.stores {T : Nat} {x y : Operand} {ds : List Deferred} (h : OW P ⟨none, .store T x y, ty, pos, af, g⟩ a w (fun a w => K { a with defers := ds } w) (fun e a w => Q e { a with defers := ds } w)) : OW P ⟨none, .store T x y, ty, pos, af, g⟩ { a with defers := ds } w K Q := by
  refine ⟨?_⟩
  have h := h.h
  unfold Oper.wp at h ⊢
  have e : (execOp (Act.eval { a with defers := ds }) ⟨none, .store T x y, ty, pos, af, g⟩) = execOp a.eval ⟨none, .store T x y, ty, pos, af, g⟩ := rfl
  rw [e]
  have hnd : ∀ nx w', (execOp a.eval ⟨none, .store T x y, ty, pos, af, g⟩).run P w = .ok nx w' → nx = .skip := by
    intro nx w' he
    simp only [execOp, Sem.run_bind] at he
    generalize Sem.run P (Instr.storeAt T (a.eval x) (a.eval y)) w = r at he
    cases r with
    | ok u w1 => injection he with e1 e2; exact e1.symm
    | halt s w1 => cases he
  generalize (execOp a.eval ⟨none, .store T x y, ty, pos, af, g⟩).run P w = res at h hnd
  cases res with
  | ok nx w' =>
    obtain rfl := hnd nx w' rfl
    exact h
  | halt s w' => cases s <;> exact h
end
end Go.Proofs.YtheofhegdjjfgaaGreat

namespace Go.Proofs.YtheofhegdjjfgaaGreat
open Go.RowKit
set_option maxRecDepth 100000 in
theorem Backward_P (v : Value) (hv : isOne v = true) (w0 : World) : NewC Tryz.prog 88 [v] w0 (fun b : Nat => .func (.func 113) #[] [.pointer (some ⟨b, 0, none⟩)].toArray) (fun b => .blk b [v] 178) := by
  refine c_enter [(0, v)] [] noB Tryz.func88 rfl Tryz.ntmps88 ⟨rfl, trivial⟩ rfl (by simp) (by simp) (by simp) ?_
  intro a hS
  refine c_seq (c_region ?_)
  obtain ⟨b1, hb1⟩ : ∃ b, b = w0.heap.size := ⟨_, rfl⟩
  refine L_op (s_box1 hS rfl hv rfl ?_); clear hS a; intro a w b1 hS
  refine L_e hS (e_assign rfl) rfl ?_; clear hS a; intro a hS
  refine L_nil (n_then (c_seq (c_region ?_)))
  refine L_e hS (e_makeFunc .nil (.cons rfl .nil)) rfl ?_; clear hS a; intro a hS
  refine L_e hS (e_assign rfl) rfl ?_; clear hS a; intro a hS
  refine L_nil (n_then (wp_ret ?_))
  refine c_ret1 hS Tryz.results88 (.tmp rfl) ?_
  exact ⟨b1, rfl, hS.chg, hS.new (.head _) rfl⟩
def downL (n d : Nat) : List Nat := (List.range d).map fun j => n - 1 - j
theorem downL_succ (n d : Nat) : downL n (d + 1) = downL n d ++ [n - 1 - d] := by unfold downL; rw [List.range_succ]; simp
theorem downL_len (n d : Nat) : (downL n d).length = d := by simp [downL]
def encB (c : ByteArray) (rows : List (Int × Int)) (k : Nat) : Array Value := [.int .i64 (k : Int), .agg (encT c (rows.getD k (0, 0))).toArray].toArray
def backK (b : Nat) (e : RA) (w : World) : Prop := w.heap[b]? = some (.cells [e.v].toArray 178 (0, 0)) ∧ rowT e w
def backA (b : Nat) (e : RA) : Asn := .any (fun k => k = b ∨ e.v.ownBlock = some k) (backK b e) false
theorem back_ok {b : Nat} {e : RA} {w : World} (h : backK b e w) : (backA b e).ok w := by
  refine ⟨fun k hk => ?_, fun w' hw => ⟨?_, owns_keep h.2 (fun k hk => hw k (.inr hk))⟩⟩
  · rcases hk with rfl | hk
    · exact (Array.getElem?_eq_some_iff.1 h.1).1
    · exact (World.ownsRow.lt h.2 k hk).2
  · rw [hw b (.inl rfl)]; exact h.1
theorem St.bare {n : Nat} {a : Act} {w : World} {L : List (Nat × Value)} (h : Sl n a L) : St n noB w a w L [] := ⟨h, Chg.refl _ _, okN, disN, mineN⟩
theorem St.again {n : Nat} {a : Act} {w : World} {L : List (Nat × Value)} (h : Sl n a L) {X : Asn} (hX : X.ok w) (hm : X.mine = false) : St n noB w a w L [X] :=
  ⟨h, Chg.refl _ _, okC hX okN, dis1, mineC hm mineN⟩
set_option maxRecDepth 100000 in
theorem Back_seq (b : Nat) (e : RA) (hlen : e.rows.length ≤ 1000000) : SeqB Tryz.prog 113 #[.pointer (some ⟨b, 0, none⟩)] (encB e.cur e.rows) (fun xs => xs = downL e.rows.length e.rows.length) (fun pre => ∃ d, d < e.rows.length ∧ pre = downL e.rows.length (d + 1)) e.rows.length (backK b e) := by
   intro l J Jx W hK hJ hJx hY h0
   have hk0 := hK _ _ h0
   obtain ⟨q, cq, hev⟩ := own_slice hk0.2
   have hsh : q = none ∧ e.rows.length = 0 ∨ ∃ g, q = some ⟨g, 0, none⟩ := by
     rcases hk0.2.2 with ⟨e1, e2⟩ | ⟨g, cap, cur, e1, _⟩
     · rw [hev] at e1; injection e1 with e3; exact .inl ⟨e3, e2⟩
     · rw [hev] at e1; injection e1 with e3; exact .inr ⟨g, e3⟩
   rw [show (#[Value.func (.yield l) #[] #[]] ++ #[Value.pointer (some ⟨b, 0, none⟩)] : Array Value) = [Value.func (.yield l) #[] #[], Value.pointer (some ⟨b, 0, none⟩)].toArray from rfl]
   refine callsIn_enter [(0, .func (.yield l) #[] #[]), (1, .pointer (some ⟨b, 0, none⟩))] [backA b e] noB Tryz.func113 rfl Tryz.ntmps113 ⟨rfl, rfl, trivial⟩ rfl (okC (back_ok hk0) okN) dis1 (mineC (by rfl) mineN) ?_
   intro a hS
   refine R_seq (R_region ?_)
   refine R_op rfl (s_e hS (e_loadC rfl ty_sc178 (fun w hh => cell_of_blk (cs := [e.v]) (hh (backA b e) (by repeat constructor)).1 rfl)) rfl ?_); clear hS a; intro a hS
   rw [hev] at hS
   refine R_op rfl (s_e hS (e_len rfl rfl ty_sl178) rfl ?_); clear hS a; intro a hS
   (first | refine R_op rfl (s_e hS (e_binN rfl rfl rfl (by omega)) rfl ?_) | refine R_op rfl (s_e hS (e_bin rfl rfl rfl) rfl ?_)); clear hS a; intro a hS
   refine R_op rfl (s_e hS (e_assign rfl) rfl ?_); clear hS a; intro a hS
   refine R_nil (n_then (R_block ?_))
   skip
   refine R_loop (γ := Nat) (fun d a w => St 19 noB w a w [(3, .int .i64 ((e.rows.length : Int) - d - 1)), (0, .func (.yield l) #[] #[]), (1, .pointer (some ⟨b, 0, none⟩))] [backA b e] ∧ d ≤ e.rows.length ∧ J (downL e.rows.length d) w) (fun d => e.rows.length - d) 0 ⟨St.again (hS.sl.sub (by rw [show ((e.rows.length : Int) - (0 : Nat) - 1) = (e.rows.length : Int) - 1 by omega]; exact (by repeat (first | exact trivial | refine ⟨rfl, ?_⟩)))) (hS.ok _ (by repeat constructor)) rfl, Nat.zero_le _, h0⟩ ?_
   clear hS a; (try clear w); intro d a w hI
   obtain ⟨hS, hd, hj⟩ := hI
   refine R_seq (R_seq (R_region ?_))
   refine R_op rfl (s_e hS (e_move rfl) rfl ?_); clear hS a; intro a hS
   refine R_op rfl (s_e hS (e_bin rfl rfl rfl) rfl ?_); clear hS a; intro a hS
   refine R_nil (n_then ?_)
   first | refine R_ifD hS rfl (fun hc8 => ?_) (fun hc8 => ?_) | refine R_if hS rfl (fun hc8 => ?_) (fun hc8 => ?_)
   ·
     have hdl : d < e.rows.length := by omega
     obtain ⟨g, rfl⟩ : ∃ g, q = some ⟨g, 0, none⟩ := by
       rcases hsh with ⟨_, h1⟩ | hg
       · exfalso; omega
       · exact hg
     obtain ⟨x, hx⟩ : ∃ x, e.rows[e.rows.length - 1 - d]? = some x := ⟨e.rows[e.rows.length - 1 - d]'(by omega), List.getElem?_eq_getElem (by omega)⟩
     have hnat : ((e.rows.length : Int) - d - 1).toNat = e.rows.length - 1 - d := by omega
     have hint : ((e.rows.length : Int) - d - 1) = ((e.rows.length - 1 - d : Nat) : Int) := by omega
     have hgd : e.rows.getD (e.rows.length - 1 - d) (0, 0) = x := by rw [List.getD_eq_getElem?_getD, hx]; rfl
     have hy := hY _ (e.rows.length - 1 - d) w hj (by rw [downL_len]; exact hdl)
     unfold encB at hy
     rw [← hint, hgd, ← downL_succ] at hy
     refine R_skip (n_then (R_seq (R_block (R_seq (R_region ?_)))))
     refine R_op rfl (s_e hS (e_move rfl) rfl ?_); clear hS a; intro a hS
     refine R_op rfl (s_e hS (e_move rfl) rfl ?_); clear hS a; intro a hS
     refine R_op rfl (s_e hS (e_loadC rfl ty_sc178 (fun w hh => cell_of_blk (cs := [e.v]) (hh (backA b e) (by repeat constructor)).1 rfl)) rfl ?_); clear hS a; intro a hS
     rw [hev] at hS
     refine R_op rfl (s_e hS (e_move rfl) rfl ?_); clear hS a; intro a hS
     refine R_op rfl (s_e hS (e_ix rfl rfl ty_sl178 ty_sz179 (by omega)) rfl ?_); clear hS a; intro a hS
     refine R_op rfl (s_e hS (e_loadAC (l := encT e.cur x) rfl ty_st179 ty_sz179 (fun w hh => by
 have h1 : w.ownsRow 0 179 3 e.v e.rows.length (e.rows.flatMap (encT e.cur)) := (hh (backA b e) (by repeat constructor)).2
 rw [hev] at h1
 rw [hnat]
 intro j v hj
 have h2 := flat_get (encT e.cur) 3 (fun _ => rfl) e.rows _ x hx j v hj
 have h3 := World.ownsRow.cells h1 (g := g) rfl _ _ h2
 rw [addr_add] at h3
 rw [← h3]; congr 2; omega)) rfl ?_); clear hS a; intro a hS
     refine R_yield hS rfl (.cons rfl (.cons rfl .nil)) hy (fun e' w' hR => ?_)
     obtain ⟨y, rfl, hR2⟩ : ∃ y : Bool, e' = .returned (.bool y) ∧ ((y = true ∧ J (downL e.rows.length (d + 1)) w') ∨ (y = false ∧ Jx (downL e.rows.length (d + 1)) w')) := by
       rcases hR with ⟨h1, h2⟩ | ⟨h1, h2⟩
       · exact ⟨true, h1, .inl ⟨rfl, h2⟩⟩
       · exact ⟨false, h1, .inr ⟨rfl, h2⟩⟩
     refine ⟨_, rfl, ?_⟩
     replace hS := St.bare (w := w') (hS.sl.put (d := 17) rfl (.bool y))
     clear hj hy
     generalize a.put (some 17) (Value.bool y) = a2 at hS ⊢
     clear a; revert a2; intro a hS; clear w; rename World => w
     refine R_op rfl (s_e hS (e_not rfl) rfl ?_); clear hS a; intro a hS
     refine R_nil (n_then ?_)
     first | refine R_ifD hS rfl (fun hc18 => ?_) (fun hc18 => ?_) | refine R_if hS rfl (fun hc18 => ?_) (fun hc18 => ?_)
     ·
       refine R_ret ?_
       refine r_block (r_then (r_then (r_block ?_)))
       refine c_retN hS Tryz.results113 .nil rfl ?_
       have hx2 : Jx (downL e.rows.length (d + 1)) w := by
         rcases hR2 with ⟨h1, _⟩ | ⟨_, h2⟩
         · rw [h1] at hc18; cases hc18
         · exact h2
       exact ⟨⟨_, rfl⟩, .inr ⟨_, ⟨d, hdl, rfl⟩, hx2⟩⟩
     refine R_skip (n_block (n_then (R_region ?_)))
     refine R_op rfl (s_e hS (e_move rfl) rfl ?_); clear hS a; intro a hS
     (first | refine R_op rfl (s_e hS (e_binN rfl rfl rfl (by omega)) rfl ?_) | refine R_op rfl (s_e hS (e_bin rfl rfl rfl) rfl ?_)); clear hS a; intro a hS
     refine R_op rfl (s_e hS (e_assign rfl) rfl ?_); clear hS a; intro a hS
     refine R_nil ?_
     have hx2 : J (downL e.rows.length (d + 1)) w := by
       rcases hR2 with ⟨_, h2⟩ | ⟨h1, _⟩
       · exact h2
       · rw [h1] at hc18; cases hc18
     exact ⟨d + 1, by omega, St.again (hS.sl.sub (by rw [show ((e.rows.length : Int) - (d + 1 : Nat) - 1) = (e.rows.length : Int) - d - 1 - 1 by omega]; exact (by repeat (first | exact trivial | refine ⟨rfl, ?_⟩)))) (back_ok (hK _ _ hx2)) rfl, by omega, hx2⟩
   refine R_exit ?_
   refine x_then (x_then (x_hit ?_))
   refine r_norm ?_
   refine c_retN hS Tryz.results113 .nil rfl ?_
   obtain rfl : d = e.rows.length := by omega
   exact ⟨⟨_, rfl⟩, .inl ⟨_, rfl, hj⟩⟩
end Go.Proofs.YtheofhegdjjfgaaGreat

namespace Go.Proofs.YtheofhegdjjfgaaGreat
open Go.RowKit
def lastLe (rows : List (Int × Int)) (at_ : Int) : Option (Int × Int) := rows.reverse.find? fun x => decide (x.1 ≤ at_)
def getF (own : ByteArray) (l : List (ByteArray × List (Int × Int))) (c : ByteArray) (at_ : Int) : Int × Int :=
  if askF c at_ ≠ 0 then (0, askF c at_) else if c = own then (1000000000, 0) else match lastLe (rowsOf l c) at_ with | some x => (x.2, 0) | none => (0, 28)
theorem last_at {rows : List (Int × Int)} {d : Nat} {x : Int × Int} {at_ : Int} (hd : d < rows.length) (hx : rows[rows.length - 1 - d]? = some x) (hle : x.1 ≤ at_) (hb : ∀ i ∈ downL rows.length d, ∀ y, rows[i]? = some y → at_ < y.1) : lastLe rows at_ = some x := by
  unfold lastLe
  rw [List.find?_eq_some_iff_getElem]
  have hx2 : rows.reverse[d]? = some x := by rw [List.getElem?_reverse hd]; exact hx
  obtain ⟨h1, h2⟩ := List.getElem?_eq_some_iff.1 hx2
  refine ⟨by simpa using hle, d, h1, h2, fun j hj => ?_⟩
  have hj2 : j < rows.length := by omega
  have h3 := hb (rows.length - 1 - j) (List.mem_map.2 ⟨j, List.mem_range.2 hj, rfl⟩) (rows[rows.length - 1 - j]'(by omega)) (List.getElem?_eq_getElem (by omega))
  rw [List.getElem_reverse]
  simp only [Bool.not_eq_true', decide_eq_false_iff_not]
  have : rows.length - 1 - j = rows.length - 1 - j := rfl
  omega
theorem last_none {rows : List (Int × Int)} {at_ : Int} (hb : ∀ i ∈ downL rows.length rows.length, ∀ y, rows[i]? = some y → at_ < y.1) : lastLe rows at_ = none := by
  unfold lastLe
  rw [List.find?_eq_none]
  intro x hx
  obtain ⟨i, hi, rfl⟩ := List.mem_iff_getElem.1 (List.mem_reverse.1 hx)
  have := hb i (List.mem_map.2 ⟨rows.length - 1 - i, List.mem_range.2 (by omega), by omega⟩) rows[i] (List.getElem?_eq_getElem hi)
  simp only [decide_eq_true_eq]; omega
theorem cur_at {bk mb : Nat} {own c : ByteArray} {es : List RA} {n : Int} {w : World} (h : ratesφ bk mb own es n w) : ∃ e : RA, e.cur = c ∧ lkM (entT es) c (.slice none 0 0) = e.v ∧ rowsOf (vsT es) c = e.rows ∧ rowT e w ∧ (∀ k, e.v.ownBlock = some k → ratesF bk mb es k) ∧ e.rows.length ≤ 500 := by
  have hn := h.wf.n
  rcases has_cur es c with ⟨i, e, he, rfl⟩ | hno
  · have hm := List.mem_of_getElem? he
    have hl := h.wf.len e hm
    refine ⟨e, rfl, ?_, rowsOf_is h.wf.keys he, h.rows e hm, fun k hk => .inr (.inr ⟨e, hm, hk⟩), by omega⟩
    unfold lkM; rw [is_cur h.wf.keys he 0]
  · refine ⟨⟨c, [], .slice none 0 0⟩, rfl, ?_, rowsOf_no hno, World.ownsRow_nil _ _ _ _, fun k hk => (by cases hk), Nat.zero_le _⟩
    unfold lkM; rw [no_cur hno 0]
theorem rowT_keep {e : RA} {w w' : World} (h : rowT e w) (hw : ∀ b, e.v.ownBlock = some b → w'.heap[b]? = w.heap[b]?) : rowT e w' := owns_keep h hw
def roA (b : Nat) (cs : List Value) (E : Nat) : Asn := .any (fun k => k = b) (fun w => w.heap[b]? = some (.cells cs.toArray E (0, 0))) false
theorem ro_ok {b E : Nat} {cs : List Value} {w : World} (h : w.heap[b]? = some (.cells cs.toArray E (0, 0))) : (roA b cs E).ok w :=
  ⟨fun k hk => by obtain rfl : k = b := hk; exact (Array.getElem?_eq_some_iff.1 h).1, fun w' hw => by show w'.heap[b]? = _; rw [hw b rfl]; exact h⟩
theorem ro_get {Γ : List Asn} {b E : Nat} {cs : List Value} (hm : roA b cs E ∈ Γ) {k : Nat} {v : Value} (hv : cs[k]? = some v) : ∀ w, Hd Γ w → w.cell? ⟨b, k, none⟩ = some v := fun _ hh => cell_of_blk (E := E) (hh _ hm) hv
structure getI (w0 : World) (e : RA) (at_ : Int) (b5 b6 b7 b : Nat) (pre : List Nat) (W : World) : Prop where
  chg : Chg noB w0 W
  k : backK b e W
  h5 : W.heap[b5]? = some (.cells [Value.int .i64 at_].toArray 3 (0, 0))
  h6 : W.heap[b6]? = some (.cells [Value.int .i64 0].toArray 3 (0, 0))
  h7 : W.heap[b7]? = some (.cells [Value.int .i64 0].toArray 26 (0, 0))
  no : ∀ i ∈ pre, at_ < (e.rows.getD i (0, 0)).1
structure getX (w0 : World) (e : RA) (at_ : Int) (b6 b7 : Nat) (c : Code) (pre : List Nat) (W : World) : Prop where
  chg : Chg noB w0 W
  ret : c = .ret
  got : ∃ p i, pre = p ++ [i] ∧ (∀ j ∈ p, at_ < (e.rows.getD j (0, 0)).1) ∧ (e.rows.getD i (0, 0)).1 ≤ at_ ∧ W.heap[b6]? = some (.cells [Value.int .i64 (e.rows.getD i (0, 0)).2].toArray 3 (0, 0)) ∧ W.heap[b7]? = some (.cells [Value.int .i64 0].toArray 26 (0, 0))
theorem chg_ab {w0 W W' : World} {B : Nat} (h : Chg noB w0 W) (hB : w0.heap.size ≤ B) (e1 : W'.os = W.os) (e2 : W'.tape = W.tape) (e3 : W'.output = W.output) (e4 : W.heap.size ≤ W'.heap.size) (e5 : ∀ k, k < B → W'.heap[k]? = W.heap[k]?) : Chg noB w0 W' :=
  ⟨e1.trans h.os, e2.trans h.tape, e3.trans h.output, Nat.le_trans h.size e4, fun k hk hn => (e5 k (by omega)).trans (h.block k hk hn)⟩
theorem getI_ab {w0 : World} {e : RA} {at_ : Int} {b5 b6 b7 b B : Nat} (hB : w0.heap.size ≤ B) (h5 : b5 < B) (h6 : b6 < B) (h7 : b7 < B) (hb : b < B) (he : ∀ k, e.v.ownBlock = some k → k < B) : AbB B (getI w0 e at_ b5 b6 b7 b) :=
  fun _ _ _ h e1 e2 e3 e4 e5 => ⟨chg_ab h.chg hB e1 e2 e3 e4 e5, ⟨(e5 b hb).trans h.k.1, owns_keep h.k.2 (fun k hk => e5 k (he k hk))⟩, (e5 _ h5).trans h.h5, (e5 _ h6).trans h.h6, (e5 _ h7).trans h.h7, h.no⟩
theorem getX_ab {w0 : World} {e : RA} {at_ : Int} {b6 b7 B : Nat} (hB : w0.heap.size ≤ B) (h6 : b6 < B) (h7 : b7 < B) (c : Code) : AbB B (getX w0 e at_ b6 b7 c) :=
  fun _ _ _ h e1 e2 e3 e4 e5 => by
    obtain ⟨p, i, q1, q2, q3, q4, q5⟩ := h.got
    exact ⟨chg_ab h.chg hB e1 e2 e3 e4 e5, h.ret, p, i, q1, q2, q3, (e5 _ h6).trans q4, (e5 _ h7).trans q5⟩
theorem chg_round {w0 W W1 W2 W3 : World} {B : Nat} {F : Nat → Prop} (h : Chg noB w0 W) (hB : w0.heap.size ≤ B) (h1 : Chg noB W W1) (hT : Turn (B + 1) W1 W2) (h3 : Chg F W2 W3) (hF : ∀ k, F k → w0.heap.size ≤ k) : Chg noB w0 W3 := by
  refine ⟨h3.os.trans (hT.os.trans (h1.os.trans h.os)), h3.tape.trans (hT.tape.trans (h1.tape.trans h.tape)), h3.output.trans (hT.output.trans (h1.output.trans h.output)), ?_, fun k hk _ => ?_⟩
  · have := h.size; have := h1.size; have := hT.size; have := h3.size; omega
  · have e1 := h.block k hk (fun hf => hf)
    have e2 := h1.block k (by have := h.size; omega) (fun hf => hf)
    have e3 := hT.same k (by omega)
    have e4 := h3.block k (by have := h.size; have := h1.size; have := hT.size; omega) (fun hf => by have := hF k hf; omega)
    exact e4.trans (e3.trans (e2.trans e1))
theorem lt_blk {w : World} {b E : Nat} {cs : Array Value} (h : w.heap[b]? = some (.cells cs E (0, 0))) : b < w.heap.size := (Array.getElem?_eq_some_iff.1 h).1
theorem mine2 {w0 : World} {F0 : Nat → Prop} {b c E E' : Nat} {l l' : List Value} (hb : w0.heap.size ≤ b) (hc : w0.heap.size ≤ c) : ∀ X ∈ [Asn.blk b l E, Asn.blk c l' E'], X.mine = true → ∀ k, X.F k → w0.heap.size ≤ k ∨ F0 k := fun X hX _ k hk => .inl (by
  rcases List.mem_cons.1 hX with rfl | hX
  · have : k = b := hk; omega
  · obtain rfl := List.mem_singleton.1 hX
    have : k = c := hk; omega)
theorem ne2 {D b c E E' : Nat} {l l' : List Value} (hb : b < D) (hc : c < D) : ∀ X ∈ [Asn.blk b l E, Asn.blk c l' E'], ∀ k, X.F k → k ≠ D := fun X hX k hk => by
  rcases List.mem_cons.1 hX with rfl | hX
  · have : k = b := hk; omega
  · obtain rfl := List.mem_singleton.1 hX
    have : k = c := hk; omega
theorem round2 {a : Act} {p q : Nat} {u v : Value} (hd : a.defers = []) : (a.put (some p) u).put (some q) v = ({ tmps := (a.tmps.setIfInBounds p u).setIfInBounds q v, defers := [] } : Act) := by
  simp [Act.put, hd]
set_option maxRecDepth 100000 in
theorem fxGet_P (bk mb : Nat) (own c : ByteArray) (es : List RA) (n at_ : Int) (w0 : World) (h : ratesφ bk mb own es n w0) :
    PureC Tryz.prog 49 [.pointer (some ⟨bk, 0, none⟩), .string c, .int .i64 at_] w0 (.tuple [.int .i64 (getF own (vsT es) c at_).1, .int .i64 (getF own (vsT es) c at_).2].toArray) := by
  obtain ⟨e, hec, hlk, hro, hrow, heF, hel⟩ := cur_at (c := c) h
  refine callsM_enter [(0, .pointer (some ⟨bk, 0, none⟩)), (1, .string c), (2, .int .i64 at_)] [ratesA bk mb own es n false] noB Tryz.func49 rfl Tryz.ntmps49 ⟨rfl, rfl, rfl, trivial⟩ rfl (okC (rates_ok false h) okN) dis1 (mineC (by rfl) mineN) ?_
  intro a hS
  refine R_seq (R_region ?_)
  refine R_op rfl (s_box1 hS rfl rfl rfl ?_); clear hS a; (try clear w); intro a w b5 hS
  refine R_op rfl (s_alloc hS ty_z3 rfl ?_); clear hS a; (try clear w); intro a w b6 hS
  refine R_op rfl (s_alloc hS ty_z26 rfl ?_); clear hS a; (try clear w); intro a w b7 hS
  refine R_nil (n_then (R_seq (R_seq (R_region ?_))))
  refine R_op rfl (s_e hS (e_move rfl) rfl ?_); clear hS a; intro a hS
  refine R_op rfl (s_e hS (e_load rfl (by repeat constructor) ty_sc3 (by rfl)) rfl ?_); clear hS a; intro a hS
  refine R_op rfl (s_callP hS (.cons rfl (.cons rfl .nil)) cf87 rfl (fxasked_P c at_ _) ?_); clear hS a; (try clear w); intro a w hS
  refine R_op rfl (s_e hS (e_assign rfl) rfl ?_); clear hS a; intro a hS
  refine R_nil (n_then (R_seq (R_region ?_)))
  refine R_op rfl (s_e hS (e_move rfl) rfl ?_); clear hS a; intro a hS
  refine R_op rfl (s_e hS (e_bin rfl rfl rfl) rfl ?_); clear hS a; intro a hS
  refine R_nil (n_then ?_)
  first | refine R_ifD hS rfl (fun hc15 => ?_) (fun hc15 => ?_) | refine R_if hS rfl (fun hc15 => ?_) (fun hc15 => ?_)
  ·
    refine R_seq (R_region ?_)
    refine R_op rfl (s_e hS (e_move rfl) rfl ?_); clear hS a; intro a hS
    refine R_op rfl (s_store hS rfl rfl rfl ty_sz3 (by repeat constructor) (by repeat constructor) ?_); clear hS; (try clear w); intro w hS
    refine R_op rfl (s_store hS rfl rfl rfl ty_sz26 (by repeat constructor) (by repeat constructor) ?_); clear hS; (try clear w); intro w hS
    refine R_nil (n_then (R_ret (r_then ?_)))
    refine retM hS.sl.defers ?_
    refine c_retN hS Tryz.results49 (.cons (.cell rfl (by repeat constructor) ty_sc3 (by rfl)) (.cons (.cell rfl (by repeat constructor) ty_sc26 (by rfl)) .nil)) rfl ?_
    exact ⟨by rw [show getF own (vsT es) c at_ = (0, askF c at_) from if_pos hc15], hS.chg⟩
  refine R_skip (n_then (R_seq (R_seq (R_region ?_))))
  refine R_op rfl (s_e hS (e_move rfl) rfl ?_); clear hS a; intro a hS
  refine R_op rfl (s_e hS (e_move rfl) rfl ?_); clear hS a; intro a hS
  refine R_op rfl (s_e hS (e_nilCheck rfl) rfl ?_); clear hS a; intro a hS
  (first | refine R_op rfl (s_e hS (e_fa0 rfl ty_fo128_0) rfl ?_) | refine R_op rfl (s_e hS (e_faK rfl ty_fo128_0) rfl ?_)); clear hS a; intro a hS
  refine R_op rfl (s_e hS (e_loadC rfl ty_sc9 (fun w hh => cell_of_blk (cs := [.string own, .map (some mb), .int .i64 n]) (hh (ratesA bk mb own es n false) (by repeat constructor)).bk rfl)) rfl ?_); clear hS a; intro a hS
  refine R_op rfl (s_e hS (e_binS rfl rfl rfl) rfl ?_); clear hS a; intro a hS
  refine R_nil (n_then ?_)
  first | refine R_ifD hS rfl (fun hc22 => ?_) (fun hc22 => ?_) | refine R_if hS rfl (fun hc22 => ?_) (fun hc22 => ?_)
  ·
    refine R_seq (R_region ?_)
    refine R_op rfl (s_store hS rfl rfl rfl ty_sz3 (by repeat constructor) (by repeat constructor) ?_); clear hS; (try clear w); intro w hS
    refine R_op rfl (s_store hS rfl rfl rfl ty_sz26 (by repeat constructor) (by repeat constructor) ?_); clear hS; (try clear w); intro w hS
    refine R_nil (n_then (R_ret (r_then ?_)))
    refine retM hS.sl.defers ?_
    refine c_retN hS Tryz.results49 (.cons (.cell rfl (by repeat constructor) ty_sc3 (by rfl)) (.cons (.cell rfl (by repeat constructor) ty_sc26 (by rfl)) .nil)) rfl ?_
    exact ⟨by rw [show getF own (vsT es) c at_ = (1000000000, 0) by unfold getF; rw [if_neg hc15, if_pos hc22]], hS.chg⟩
  refine R_skip (n_then (R_seq (R_seq (R_region ?_))))
  refine R_op rfl (s_e hS (e_move rfl) rfl ?_); clear hS a; intro a hS
  refine R_op rfl (s_e hS (e_nilCheck rfl) rfl ?_); clear hS a; intro a hS
  (first | refine R_op rfl (s_e hS (e_fa0 rfl ty_fo128_1) rfl ?_) | refine R_op rfl (s_e hS (e_faK rfl ty_fo128_1) rfl ?_)); clear hS a; intro a hS
  refine R_op rfl (s_e hS (e_loadC rfl ty_sc126 (fun w hh => cell_of_blk (cs := [.string own, .map (some mb), .int .i64 n]) (hh (ratesA bk mb own es n false) (by repeat constructor)).bk rfl)) rfl ?_); clear hS a; intro a hS
  refine R_op rfl (s_e hS (e_move rfl) rfl ?_); clear hS a; intro a hS
  refine R_op rfl (s_e hS (e_lookupC rfl rfl ty_mp126 ty_u9 ty_zv178 (fun w hh => (hh (ratesA bk mb own es n false) (by repeat constructor)).mp)) rfl ?_); clear hS a; intro a hS
  rw [hlk] at hS
  refine R_op rfl (s_callN hS (.cons rfl .nil) cf88 rfl (Backward_P e.v (by obtain ⟨q, cq, hev⟩ := own_slice hrow; rw [hev]; rfl) _) ?_); clear hS a; (try clear w); intro x29 a w hS
  refine R_nil (n_then (R_block ?_))
  obtain ⟨B, hB⟩ : ∃ B, w.heap.size = B := ⟨_, rfl⟩
  have g5 := hS.get (X := .blk b5 [.int .i64 at_] 3) (by repeat constructor)
  have g6 := hS.get (X := .blk b6 [.int .i64 0] 3) (by repeat constructor)
  have g7 := hS.get (X := .blk b7 [.int .i64 0] 26) (by repeat constructor)
  have gk := hS.get (X := .blk x29 [e.v] 178) (by repeat constructor)
  have l5 : b5 < B := by rw [← hB]; exact lt_blk g5
  have l6 : b6 < B := by rw [← hB]; exact lt_blk g6
  have l7 : b7 < B := by rw [← hB]; exact lt_blk g7
  have lx : x29 < B := by rw [← hB]; exact lt_blk gk
  have m6 : w0.heap.size ≤ b6 := (hS.mine (.blk b6 [.int .i64 0] 3) (by repeat constructor) rfl b6 rfl).resolve_right (fun h => h)
  have m7 : w0.heap.size ≤ b7 := (hS.mine (.blk b7 [.int .i64 0] 26) (by repeat constructor) rfl b7 rfl).resolve_right (fun h => h)
  have n67 : b6 ≠ b7 := fun h => hS.sep (X := .blk b6 [.int .i64 0] 3) (Y := .blk b7 [.int .i64 0] 26) (by repeat (first | exact Rem.head | apply Rem.tail)) (by repeat constructor) b6 rfl h
  have n65 : b6 ≠ b5 := fun h => hS.sep (X := .blk b6 [.int .i64 0] 3) (Y := .blk b5 [.int .i64 at_] 3) (by repeat (first | exact Rem.head | apply Rem.tail)) (by repeat constructor) b6 rfl h
  have n75 : b7 ≠ b5 := fun h => hS.sep (X := .blk b7 [.int .i64 0] 26) (Y := .blk b5 [.int .i64 at_] 3) (by repeat (first | exact Rem.head | apply Rem.tail)) (by repeat constructor) b7 rfl h
  have n96 : x29 ≠ b6 := fun h => hS.sep (X := .blk x29 [e.v] 178) (Y := .blk b6 [.int .i64 0] 3) (by repeat (first | exact Rem.head | apply Rem.tail)) (by repeat constructor) x29 rfl h
  have n97 : x29 ≠ b7 := fun h => hS.sep (X := .blk x29 [e.v] 178) (Y := .blk b7 [.int .i64 0] 26) (by repeat (first | exact Rem.head | apply Rem.tail)) (by repeat constructor) x29 rfl h
  have hB0 : w0.heap.size ≤ B := by rw [← hB]; exact hS.chg.size
  have hEB : ∀ k, e.v.ownBlock = some k → k < B := fun k hk => Nat.lt_of_lt_of_le (World.ownsRow.lt hrow k hk).2 hB0
  refine rangeFunc_B2 (α := Nat) hB (hS.sl.ev rfl) cf113 (Back_seq x29 e (by omega)) (fun _ => rfl) (getI w0 e at_ b5 b6 b7 x29) (getX w0 e at_ b6 b7) (getI_ab hB0 l5 l6 l7 lx hEB) (getX_ab hB0 l6 l7) (fun _ _ h => h.k)
    ⟨hS.chg, ⟨gk, rowT_keep hrow (fun k hk => hS.chg.block k (World.ownsRow.lt hrow k hk).2 (fun h => h))⟩, g5, g6, g7, fun i hi => (by cases hi)⟩ ?_ ?_ ?_
  · intro l pre x W hz hI hlen
    have hR : St 38 noB W ((a.put (some 30) (.int .i64 (x : Int))).put (some 31) (.agg (encT e.cur (e.rows.getD x (0, 0))).toArray)) W
        [(31, .agg (encT e.cur (e.rows.getD x (0, 0))).toArray), (5, .pointer (some ⟨b5, 0, none⟩)), (6, .pointer (some ⟨b6, 0, none⟩)), (7, .pointer (some ⟨b7, 0, none⟩))] [] :=
      ⟨((hS.sl.put rfl _).put rfl _).sub (by repeat (first | exact trivial | refine ⟨rfl, ?_⟩)), Chg.refl _ _, okN, disN, mineN⟩
    have hact : ({ tmps := (#[30, 31].zip (encB e.cur e.rows x)).foldl (fun t (p, v) => t.setIfInBounds p v) a.tmps, defers := [] } : Act) = ((a.put (some 30) (.int .i64 (x : Int))).put (some 31) (.agg (encT e.cur (e.rows.getD x (0, 0))).toArray)) := by
      rw [round2 hS.sl.defers, show (#[30, 31].zip (encB e.cur e.rows x)) = #[(30, .int .i64 (x : Int)), (31, .agg (encT e.cur (e.rows.getD x (0, 0))).toArray)] from by unfold encB; simp]; simp
    rw [hact]
    clear hS hact g5 g6 g7 gk hB
    generalize ((a.put (some 30) (.int .i64 (x : Int))).put (some 31) (.agg (encT e.cur (e.rows.getD x (0, 0))).toArray)) = a2 at hR ⊢
    clear a; rename Act => a
    clear w
    have hS := hR
    clear hR
    refine R_region ?_
    refine R_op rfl (s_alloc hS ty_z179 rfl ?_); clear hS a; (try clear w); intro a w b10 hS
    refine R_op rfl (s_storeA hS rfl rfl ty_sz179 (by repeat constructor) (by rfl) (by rfl) (by rfl) ?_); clear hS; (try clear w); intro w hS
    refine R_nil (n_then ?_)
    have h10 := hS.get (X := .blk b10 (encT e.cur (e.rows.getD x (0, 0))) 179) (by repeat constructor)
    have m10 : W.heap.size ≤ b10 := (hS.mine (.blk b10 (encT e.cur (e.rows.getD x (0, 0))) 179) (by repeat constructor) rfl b10 rfl).resolve_right (fun h => h)
    have hCW := hS.chg
    refine ⟨⟨fun k h1 h2 => hCW.block k h2 (fun h => h), hCW.size⟩, fun W2 hT => ?_⟩
    have hlow : ∀ k, k < B → W2.heap[k]? = W.heap[k]? := fun k hk => (hT.same k (by omega)).trans (hCW.block k (by omega) (fun h => h))
    have hR : St 38 (fun k => k = b6 ∨ k = b7) W2 a W2 [(10, .pointer (some ⟨b10, 0, none⟩)), (5, .pointer (some ⟨b5, 0, none⟩)), (6, .pointer (some ⟨b6, 0, none⟩)), (7, .pointer (some ⟨b7, 0, none⟩))]
        [roA b10 (encT e.cur (e.rows.getD x (0, 0))) 179, .blk b7 [.int .i64 0] 26, .blk b6 [.int .i64 0] 3, roA b5 [.int .i64 at_] 3] :=
      ⟨hS.sl.sub (by repeat (first | exact trivial | refine ⟨rfl, ?_⟩)), Chg.refl _ _, okC (ro_ok ((hT.same b10 (by omega)).trans h10)) (okC (ok_blk ((hlow b7 l7).trans hI.h7)) (okC (ok_blk ((hlow b6 l6).trans hI.h6)) (okC (ro_ok ((hlow b5 l5).trans hI.h5)) okN))),
       disC (sepC (fun b h1 h2 => by have h1 : b = b10 := h1; have h2 : b = b7 := h2; omega) (sepC (fun b h1 h2 => by have h1 : b = b10 := h1; have h2 : b = b6 := h2; omega) (sepC (fun b h1 h2 => by have h1 : b = b10 := h1; have h2 : b = b5 := h2; omega) sepN)))
        (disC (sepC (fun b h1 h2 => n67 (Eq.trans (Eq.symm h2) h1)) (sepC (fun b h1 h2 => n75 (Eq.trans (Eq.symm h1) h2)) sepN)) (disC (sepC (fun b h1 h2 => n65 (Eq.trans (Eq.symm h1) h2)) sepN) dis1)),
       mineC rfl (mineO (fun b hb => .inr hb) (mineO (fun b hb => .inl hb) (mineC rfl mineN)))⟩
    clear hS
    have hS := hR
    clear hR
    refine R_block (R_seq (R_region ?_))
    (first | refine R_op rfl (s_e hS (e_fa0 rfl ty_fo179_1) rfl ?_) | refine R_op rfl (s_e hS (e_faK rfl ty_fo179_1) rfl ?_)); clear hS a; intro a hS
    refine R_op rfl (s_e hS (e_loadC rfl ty_sc3 (ro_get (b := b10) (cs := encT e.cur (e.rows.getD x (0, 0))) (by repeat constructor) (k := 1) rfl)) rfl ?_); clear hS a; intro a hS
    refine R_op rfl (s_e hS (e_loadC rfl ty_sc3 (ro_get (b := b5) (cs := [.int .i64 at_]) (by repeat constructor) (k := 0) rfl)) rfl ?_); clear hS a; intro a hS
    refine R_op rfl (s_e hS (e_bin rfl rfl rfl) rfl ?_); clear hS a; intro a hS
    refine R_nil (n_then ?_)
    first | refine R_ifD hS rfl (fun hc35 => ?_) (fun hc35 => ?_) | refine R_if hS rfl (fun hc35 => ?_) (fun hc35 => ?_)
    ·
      refine R_seq (R_region ?_)
      (first | refine R_op rfl (s_e hS (e_fa0 rfl ty_fo179_2) rfl ?_) | refine R_op rfl (s_e hS (e_faK rfl ty_fo179_2) rfl ?_)); clear hS a; intro a hS
      refine R_op rfl (s_e hS (e_loadC rfl ty_sc3 (ro_get (b := b10) (cs := encT e.cur (e.rows.getD x (0, 0))) (by repeat constructor) (k := 2) rfl)) rfl ?_); clear hS a; intro a hS
      refine R_op rfl (s_store hS rfl rfl rfl ty_sz3 (by repeat constructor) (by repeat constructor) ?_); clear hS; (try clear w); intro w hS
      refine R_op rfl (s_store hS rfl rfl rfl ty_sz26 (by repeat constructor) (by repeat constructor) ?_); clear hS; (try clear w); intro w hS
      refine R_nil (n_then (R_ret (r_block ?_)))
      exact ⟨fun k h1 h2 => hS.chg.block k h2 (by rintro (h | h) <;> omega), ⟨chg_round hI.chg hB0 hCW hT hS.chg (by rintro k (h | h) <;> omega), rfl, pre, x, rfl, hI.no, hc35, hS.get (X := .blk b6 [.int .i64 (e.rows.getD x (0, 0)).2] 3) (by repeat constructor), hS.get (X := .blk b7 [.int .i64 0] 26) (by repeat constructor)⟩⟩
    refine R_skip (n_block ?_)
    refine ⟨fun k h1 h2 => hS.chg.block k h2 (by rintro (h | h) <;> omega), ⟨chg_round hI.chg hB0 hCW hT hS.chg (by rintro k (h | h) <;> omega), ⟨(hlow x29 lx).trans hI.k.1, owns_keep hI.k.2 (fun k hk => hlow k (hEB k hk))⟩, (hlow b5 l5).trans hI.h5, hS.get (X := .blk b6 [.int .i64 0] 3) (by repeat constructor), hS.get (X := .blk b7 [.int .i64 0] 26) (by repeat constructor), fun i hi => ?_⟩⟩
    · rcases List.mem_append.1 hi with hi | hi
      · exact hI.no i hi
      · obtain rfl := List.mem_singleton.1 hi
        omega
  · intro D xs W hBD hxs hI hDc
    have hd : St 38 (fun k => k = b6 ∨ k = b7) W a W [(6, .pointer (some ⟨b6, 0, none⟩)), (7, .pointer (some ⟨b7, 0, none⟩))] [.blk b6 [.int .i64 0] 3, .blk b7 [.int .i64 0] 26] :=
      ⟨hS.sl.sub (by repeat (first | exact trivial | refine ⟨rfl, ?_⟩)), Chg.refl _ _, okC (ok_blk hI.h6) (okC (ok_blk hI.h7) okN), disC (sepC (fun b h1 h2 => n67 (Eq.trans (Eq.symm h1) h2)) sepN) dis1, mineO (fun b hb => .inl hb) (mineO (fun b hb => .inr hb) mineN)⟩
    clear hS
    refine n_block (n_then (R_seq (R_region ?_)))
    refine R_op rfl (OW.stores (s_store hd rfl rfl rfl ty_sz3 (by repeat constructor) (by repeat constructor) ?_)); clear hd; intro w1 hd
    refine R_op rfl (OW.stores (s_store hd rfl rfl rfl ty_sz26 (by repeat constructor) (by repeat constructor) ?_)); clear hd; intro w2 hd
    refine R_nil (n_then (R_ret ?_))
    have hD2 := (hd.chg.block D (Array.getElem?_eq_some_iff.1 hDc).1 (by rintro (h | h) <;> omega)).trans hDc
    have hd2 : St 38 noB w0 a w2 [(6, .pointer (some ⟨b6, 0, none⟩)), (7, .pointer (some ⟨b7, 0, none⟩))] [.blk b6 [.int .i64 0] 3, .blk b7 [.int .i64 28] 26] :=
      ⟨hd.sl, hI.chg.trans hd.chg (fun i hF hlt => by rcases hF with h | h <;> omega), hd.ok, hd.dis, mine2 m6 m7⟩
    have hd3 := hd2.putD (D := D) (o := .deferred none) (by omega) (ne2 (by omega) (by omega))
    have hlast : lastLe e.rows at_ = none := last_none (fun j hj y hy => by
      rw [← hxs] at hj
      have := hI.no j hj
      rw [List.getD_eq_getElem?_getD, hy] at this; exact this)
    exact endN hd3 (.inl rfl) hD2 Tryz.results49 (.cons (.cell rfl (by repeat constructor) ty_sc3 rfl) (.cons (.cell rfl (by repeat constructor) ty_sc26 rfl) .nil)) rfl ⟨by unfold getF; rw [if_neg hc15, if_neg hc22, hro, hlast], hd3.chg⟩
  · intro D c pre W hBD hSp hX hDc
    obtain rfl := hX.ret
    obtain ⟨d, hdl, rfl⟩ := hSp
    obtain ⟨p, i, hpi, hno, hle, g6', g7'⟩ := hX.got
    rw [downL_succ] at hpi
    obtain ⟨rfl, hi2⟩ := List.append_inj' hpi rfl
    injection hi2 with hi2 _
    have hlast : lastLe e.rows at_ = some (e.rows.getD i (0, 0)) := by
      refine last_at hdl ?_ hle (fun j hj y hy => ?_)
      · rw [← hi2, List.getD_eq_getElem?_getD, List.getElem?_eq_getElem (by omega)]; rfl
      · have := hno j hj
        rw [List.getD_eq_getElem?_getD, hy] at this; exact this
    have hd : St 38 noB w0 a W [(6, .pointer (some ⟨b6, 0, none⟩)), (7, .pointer (some ⟨b7, 0, none⟩))] [.blk b6 [.int .i64 (e.rows.getD i (0, 0)).2] 3, .blk b7 [.int .i64 0] 26] :=
      ⟨hS.sl.sub (by repeat (first | exact trivial | refine ⟨rfl, ?_⟩)), hX.chg, okC (ok_blk g6') (okC (ok_blk g7') okN), disC (sepC (fun b h1 h2 => n67 (Eq.trans (Eq.symm h1) h2)) sepN) dis1, mine2 m6 m7⟩
    refine R_ret ?_
    refine r_block (r_then ?_)
    have hd3 := hd.putD (D := D) (o := .deferred none) (by omega) (ne2 (by omega) (by omega))
    exact endN hd3 (.inl rfl) hDc Tryz.results49 (.cons (.cell rfl (by repeat constructor) ty_sc3 rfl) (.cons (.cell rfl (by repeat constructor) ty_sc26 rfl) .nil)) rfl ⟨by unfold getF; rw [if_neg hc15, if_neg hc22, hro, hlast], hd3.chg⟩
end Go.Proofs.YtheofhegdjjfgaaGreat

namespace Go.Proofs.YtheofhegdjjfgaaGreat
open Go.RowKit
def checkF (u : Int) (c : ByteArray) : Int := if (scaleR c).2 ≠ 0 then 18 else if ¬ inU u then 6 else 0
set_option maxRecDepth 100000 in
theorem mcheck_P (u : Int) (c : ByteArray) (w0 : World) : PureC Tryz.prog 109 [.agg [.int .i64 u, .string c].toArray] w0 (.int .i64 (checkF u c)) := by
  have hse := scale_err c
  refine c_enter [(0, .agg [.int .i64 u, .string c].toArray)] [] noB Tryz.func109 rfl Tryz.ntmps109 ⟨rfl, trivial⟩ rfl (by simp) (by simp) (by simp) ?_
  intro a hS
  refine c_seq (c_region ?_)
  refine L_op (s_boxA hS rfl rfl ?_); clear hS a; (try clear w); intro a w b1 hS
  refine L_e hS (e_assign rfl) rfl ?_; clear hS a; intro a hS
  refine L_nil (n_then (c_seq (c_seq (c_region ?_))))
  (first | refine L_e hS (e_fa0 rfl ty_fo78_1) rfl ?_ | refine L_e hS (e_faK rfl ty_fo78_1) rfl ?_); clear hS a; intro a hS
  refine L_e hS (e_load rfl (by repeat constructor) ty_sc9 (by rfl)) rfl ?_; clear hS a; intro a hS
  refine L_op (s_callP hS (.cons rfl .nil) cf34 rfl (Scale_P c _) ?_); clear hS a; (try clear w); intro a w hS
  refine L_e hS (e_move rfl) rfl ?_; clear hS a; intro a hS
  refine L_e hS (e_extract rfl rfl) rfl ?_; clear hS a; intro a hS
  refine L_e hS (e_extract rfl rfl) rfl ?_; clear hS a; intro a hS
  refine L_e hS (e_assign rfl) rfl ?_; clear hS a; intro a hS
  refine L_e hS (e_assign rfl) rfl ?_; clear hS a; intro a hS
  refine L_nil (n_then (c_seq (c_region ?_)))
  refine L_e hS (e_move rfl) rfl ?_; clear hS a; intro a hS
  refine L_e hS (e_bin rfl rfl rfl) rfl ?_; clear hS a; intro a hS
  refine L_nil (n_then ?_)
  first | refine c_ifD hS rfl (fun hc12 => ?_) (fun hc12 => ?_) | refine c_if hS rfl (fun hc12 => ?_) (fun hc12 => ?_)
  ·
    refine c_seq (c_region ?_)
    refine L_e hS (e_move rfl) rfl ?_; clear hS a; intro a hS
    refine L_e hS (e_assign rfl) rfl ?_; clear hS a; intro a hS
    refine L_nil (n_then (wp_ret (r_then ?_)))
    refine c_ret1 hS Tryz.results109 (.tmp rfl) ?_
    exact ⟨by rw [show checkF u c = 18 from if_pos hc12, show (scaleR c).2 = 18 by omega], hS.chg⟩
  refine wp_skip (n_then (c_seq (c_seq (c_region ?_))))
  (first | refine L_e hS (e_fa0 rfl ty_fo78_0) rfl ?_ | refine L_e hS (e_faK rfl ty_fo78_0) rfl ?_); clear hS a; intro a hS
  refine L_e hS (e_load rfl (by repeat constructor) ty_sc3 (by rfl)) rfl ?_; clear hS a; intro a hS
  refine L_op (s_callP hS (.cons rfl .nil) cf126 rfl (mwithin_P u _) ?_); clear hS a; (try clear w); intro a w hS
  refine L_e hS (e_not rfl) rfl ?_; clear hS a; intro a hS
  refine L_nil (n_then ?_)
  first | refine c_ifD hS rfl (fun hc17 => ?_) (fun hc17 => ?_) | refine c_if hS rfl (fun hc17 => ?_) (fun hc17 => ?_)
  ·
    refine c_seq (c_region ?_)
    refine L_e hS (e_assign rfl) rfl ?_; clear hS a; intro a hS
    refine L_nil (n_then (wp_ret (r_then ?_)))
    refine c_ret1 hS Tryz.results109 (.tmp rfl) ?_
    exact ⟨by (have h : ¬ inU u := by simpa using hc17); rw [show checkF u c = 6 by unfold checkF; rw [if_neg hc12, if_pos h]], hS.chg⟩
  refine wp_skip (n_then (c_seq (c_region ?_)))
  refine L_e hS (e_assign rfl) rfl ?_; clear hS a; intro a hS
  refine L_nil (n_then (wp_ret ?_))
  refine c_ret1 hS Tryz.results109 (.tmp rfl) ?_
  exact ⟨by (have h : ¬ ¬ inU u := by simpa using hc17); rw [show checkF u c = 0 by unfold checkF; rw [if_neg hc12, if_neg h]], hS.chg⟩
set_option maxRecDepth 100000 in
theorem mNew_no (u : Int) (c : ByteArray) (h : checkF u c ≠ 0) (w0 : World) : PureC Tryz.prog 74 [.int .i64 u, .string c] w0 (.tuple [.agg [.int .i64 0, .string ⟨#[]⟩].toArray, .int .i64 (checkF u c)].toArray) := by
  refine c_enter [(0, .int .i64 u), (1, .string c)] [] noB Tryz.func74 rfl Tryz.ntmps74 ⟨rfl, rfl, trivial⟩ rfl (by simp) (by simp) (by simp) ?_
  intro a hS
  refine c_seq (c_region ?_)
  refine L_op (s_alloc hS ty_z78 rfl ?_); clear hS a; (try clear w); intro a w b4 hS
  refine L_e hS (e_assign rfl) rfl ?_; clear hS a; intro a hS
  refine L_nil (n_then (c_seq (c_region ?_)))
  refine L_e hS (e_move rfl) rfl ?_; clear hS a; intro a hS
  refine L_e hS (e_move rfl) rfl ?_; clear hS a; intro a hS
  refine L_e hS (e_build ty_z78 ty_pl78 (.one rfl rfl rfl (by repeat constructor) (.one rfl rfl rfl (by repeat constructor) .nil))) rfl ?_; clear hS a; intro a hS
  refine L_op (s_alloc hS ty_z78 rfl ?_); clear hS a; (try clear w); intro a w b6 hS
  refine L_op (s_storeA hS rfl rfl ty_sz78 (by repeat constructor) (by rfl) (by rfl) (by rfl) ?_); clear hS; (try clear w); intro w hS
  refine L_nil (n_then (c_seq (c_seq (c_region ?_))))
  refine L_e hS (e_loadA rfl (by repeat constructor) ty_st78 ty_sz78 (by rfl)) rfl ?_; clear hS a; intro a hS
  refine L_op (s_callP hS (.cons rfl .nil) cf109 rfl (mcheck_P u c _) ?_); clear hS a; (try clear w); intro a w hS
  refine L_e hS (e_assign rfl) rfl ?_; clear hS a; intro a hS
  refine L_nil (n_then (c_seq (c_region ?_)))
  refine L_e hS (e_move rfl) rfl ?_; clear hS a; intro a hS
  refine L_e hS (e_bin rfl rfl rfl) rfl ?_; clear hS a; intro a hS
  refine L_nil (n_then ?_)
  replace hS := hS.is (t := 14) (c := true) rfl ((decide_eq_true h))
  refine c_if_t hS rfl ?_
  refine c_seq (c_region ?_)
  refine L_e hS (e_build ty_z78 ty_pl78 .nil) rfl ?_; clear hS a; intro a hS
  refine L_e hS (e_move rfl) rfl ?_; clear hS a; intro a hS
  refine L_op (s_storeA hS rfl rfl ty_sz78 (by repeat constructor) (by rfl) (by rfl) (by rfl) ?_); clear hS; (try clear w); intro w hS
  refine L_e hS (e_assign rfl) rfl ?_; clear hS a; intro a hS
  refine L_nil (n_then (wp_ret (r_then ?_)))
  refine c_retN hS Tryz.results74 (.cons (.cellA rfl (by repeat constructor) ty_st78 ty_sz78 (by rfl)) (.cons (.tmp rfl) .nil)) rfl ?_
  exact ⟨rfl, hS.chg⟩
set_option maxRecDepth 100000 in
theorem mNew_ok (u : Int) (c : ByteArray) (h : checkF u c = 0) (w0 : World) : PureC Tryz.prog 74 [.int .i64 u, .string c] w0 (.tuple [.agg [.int .i64 u, .string c].toArray, .int .i64 0].toArray) := by
  refine c_enter [(0, .int .i64 u), (1, .string c)] [] noB Tryz.func74 rfl Tryz.ntmps74 ⟨rfl, rfl, trivial⟩ rfl (by simp) (by simp) (by simp) ?_
  intro a hS
  refine c_seq (c_region ?_)
  refine L_op (s_alloc hS ty_z78 rfl ?_); clear hS a; (try clear w); intro a w b4 hS
  refine L_e hS (e_assign rfl) rfl ?_; clear hS a; intro a hS
  refine L_nil (n_then (c_seq (c_region ?_)))
  refine L_e hS (e_move rfl) rfl ?_; clear hS a; intro a hS
  refine L_e hS (e_move rfl) rfl ?_; clear hS a; intro a hS
  refine L_e hS (e_build ty_z78 ty_pl78 (.one rfl rfl rfl (by repeat constructor) (.one rfl rfl rfl (by repeat constructor) .nil))) rfl ?_; clear hS a; intro a hS
  refine L_op (s_alloc hS ty_z78 rfl ?_); clear hS a; (try clear w); intro a w b6 hS
  refine L_op (s_storeA hS rfl rfl ty_sz78 (by repeat constructor) (by rfl) (by rfl) (by rfl) ?_); clear hS; (try clear w); intro w hS
  refine L_nil (n_then (c_seq (c_seq (c_region ?_))))
  refine L_e hS (e_loadA rfl (by repeat constructor) ty_st78 ty_sz78 (by rfl)) rfl ?_; clear hS a; intro a hS
  refine L_op (s_callP hS (.cons rfl .nil) cf109 rfl (mcheck_P u c _) ?_); clear hS a; (try clear w); intro a w hS
  refine L_e hS (e_assign rfl) rfl ?_; clear hS a; intro a hS
  refine L_nil (n_then (c_seq (c_region ?_)))
  refine L_e hS (e_move rfl) rfl ?_; clear hS a; intro a hS
  refine L_e hS (e_bin rfl rfl rfl) rfl ?_; clear hS a; intro a hS
  refine L_nil (n_then ?_)
  replace hS := hS.is (t := 14) (c := false) rfl ((decide_eq_false (fun hh => hh h)))
  refine c_if_f hS rfl ?_
  refine wp_skip (n_then (c_seq (c_region ?_)))
  refine L_e hS (e_loadA rfl (by repeat constructor) ty_st78 ty_sz78 (by rfl)) rfl ?_; clear hS a; intro a hS
  refine L_op (s_storeA hS rfl rfl ty_sz78 (by repeat constructor) (by rfl) (by rfl) (by rfl) ?_); clear hS; (try clear w); intro w hS
  refine L_e hS (e_assign rfl) rfl ?_; clear hS a; intro a hS
  refine L_nil (n_then (wp_ret ?_))
  refine c_retN hS Tryz.results74 (.cons (.cellA rfl (by repeat constructor) ty_st78 ty_sz78 (by rfl)) (.cons (.tmp rfl) .nil)) rfl ?_
  exact ⟨rfl, hS.chg⟩
def nanoOK (l : List (ByteArray × List (Int × Int))) : Prop := ∀ c, ∀ x ∈ rowsOf l c, 1 ≤ x.2 ∧ x.2 ≤ 1125899906842624
def worthF (own : ByteArray) (l : List (ByteArray × List (Int × Int))) (u : Int) (c : ByteArray) (at_ : Int) : Int × Int :=
  if checkF u c ≠ 0 then (0, checkF u c) else if (getF own l c at_).2 ≠ 0 then (0, (getF own l c at_).2) else convF u (getF own l c at_).1
theorem getF_bd {own : ByteArray} {l : List (ByteArray × List (Int × Int))} (h : nanoOK l) (c : ByteArray) (at_ : Int) : 0 ≤ (getF own l c at_).1 ∧ (getF own l c at_).1 ≤ 1125899906842624 := by
  unfold getF
  split
  · simp
  · split
    · simp
    · split
      · rename_i x hx
        have h2 := List.mem_of_find?_eq_some hx
        have := h c x (List.mem_reverse.1 h2)
        constructor
        · show 0 ≤ x.2; omega
        · exact this.2
      · simp
set_option maxRecDepth 100000 in
theorem fxWorth_P (bk mb : Nat) (own c : ByteArray) (es : List RA) (n u at_ : Int) (hu : -9223372036854775808 ≤ u ∧ u ≤ 9223372036854775807) (w0 : World) (h : ratesφ bk mb own es n w0) (hb : nanoOK (vsT es)) :
    PureC Tryz.prog 30 [.pointer (some ⟨bk, 0, none⟩), .agg [.int .i64 u, .string c].toArray, .int .i64 at_] w0 (.tuple [.int .i64 (worthF own (vsT es) u c at_).1, .int .i64 (worthF own (vsT es) u c at_).2].toArray) := by
  have hgb := getF_bd (own := own) hb c at_
  by_cases hck : checkF u c = 0
  ·
    refine c_enter [(0, .pointer (some ⟨bk, 0, none⟩)), (1, .agg [.int .i64 u, .string c].toArray), (2, .int .i64 at_)] [ratesA bk mb own es n false] noB Tryz.func30 rfl Tryz.ntmps30 ⟨rfl, rfl, rfl, trivial⟩ rfl (okC (rates_ok false h) okN) dis1 (mineC (by rfl) mineN) ?_
    intro a hS
    refine c_seq (c_region ?_)
    refine L_op (s_boxA hS rfl rfl ?_); clear hS a; (try clear w); intro a w b4 hS
    refine L_e hS (e_assign rfl) rfl ?_; clear hS a; intro a hS
    refine L_e hS (e_assign rfl) rfl ?_; clear hS a; intro a hS
    refine L_nil (n_then (c_seq (c_seq (c_region ?_))))
    (first | refine L_e hS (e_fa0 rfl ty_fo78_0) rfl ?_ | refine L_e hS (e_faK rfl ty_fo78_0) rfl ?_); clear hS a; intro a hS
    refine L_e hS (e_load rfl (by repeat constructor) ty_sc3 (by rfl)) rfl ?_; clear hS a; intro a hS
    (first | refine L_e hS (e_fa0 rfl ty_fo78_1) rfl ?_ | refine L_e hS (e_faK rfl ty_fo78_1) rfl ?_); clear hS a; intro a hS
    refine L_e hS (e_load rfl (by repeat constructor) ty_sc9 (by rfl)) rfl ?_; clear hS a; intro a hS
    refine L_op (s_callP hS (.cons rfl (.cons rfl .nil)) cf74 rfl (mNew_ok u c hck _) ?_); clear hS a; (try clear w); intro a w hS
    refine L_e hS (e_move rfl) rfl ?_; clear hS a; intro a hS
    refine L_e hS (e_extract rfl rfl) rfl ?_; clear hS a; intro a hS
    refine L_e hS (e_extract rfl rfl) rfl ?_; clear hS a; intro a hS
    refine L_op (s_alloc hS ty_z78 rfl ?_); clear hS a; (try clear w); intro a w b8 hS
    refine L_op (s_storeA hS rfl rfl ty_sz78 (by repeat constructor) (by rfl) (by rfl) (by rfl) ?_); clear hS; (try clear w); intro w hS
    refine L_e hS (e_assign rfl) rfl ?_; clear hS a; intro a hS
    refine L_nil (n_then (c_seq (c_region ?_)))
    refine L_e hS (e_move rfl) rfl ?_; clear hS a; intro a hS
    refine L_e hS (e_bin rfl rfl rfl) rfl ?_; clear hS a; intro a hS
    refine L_nil (n_then ?_)
    replace hS := hS.is (t := 21) (c := false) rfl (rfl)
    refine c_if_f hS rfl ?_
    refine wp_skip (n_then (c_seq (c_region ?_)))
    refine L_e hS (e_move rfl) rfl ?_; clear hS a; intro a hS
    (first | refine L_e hS (e_fa0 rfl ty_fo78_1) rfl ?_ | refine L_e hS (e_faK rfl ty_fo78_1) rfl ?_); clear hS a; intro a hS
    refine L_e hS (e_load rfl (by repeat constructor) ty_sc9 (by rfl)) rfl ?_; clear hS a; intro a hS
    refine L_e hS (e_move rfl) rfl ?_; clear hS a; intro a hS
    refine L_op (s_callP hS (.cons rfl (.cons rfl (.cons rfl .nil))) cf49 rfl (fxGet_P bk mb own c es n at_ _ (hS.get (X := ratesA bk mb own es n false) (by repeat constructor))) ?_); clear hS a; (try clear w); intro a w hS
    refine L_e hS (e_move rfl) rfl ?_; clear hS a; intro a hS
    refine L_e hS (e_extract rfl rfl) rfl ?_; clear hS a; intro a hS
    refine L_e hS (e_extract rfl rfl) rfl ?_; clear hS a; intro a hS
    refine L_e hS (e_assign rfl) rfl ?_; clear hS a; intro a hS
    refine L_e hS (e_assign rfl) rfl ?_; clear hS a; intro a hS
    refine L_nil (n_then (c_seq (c_seq (c_region ?_))))
    refine L_e hS (e_move rfl) rfl ?_; clear hS a; intro a hS
    refine L_e hS (e_bin rfl rfl rfl) rfl ?_; clear hS a; intro a hS
    refine L_nil (n_then ?_)
    first | refine c_ifD hS rfl (fun hc32 => ?_) (fun hc32 => ?_) | refine c_if hS rfl (fun hc32 => ?_) (fun hc32 => ?_)
    ·
      refine c_seq (c_region ?_)
      refine L_e hS (e_move rfl) rfl ?_; clear hS a; intro a hS
      refine L_e hS (e_assign rfl) rfl ?_; clear hS a; intro a hS
      refine L_e hS (e_assign rfl) rfl ?_; clear hS a; intro a hS
      refine L_nil (n_then (wp_ret (r_then ?_)))
      refine c_retN hS Tryz.results30 (.cons (.tmp rfl) (.cons (.tmp rfl) .nil)) rfl ?_
      exact ⟨by unfold worthF; rw [if_neg (fun hh => hh hck), if_pos hc32], hS.chg⟩
    refine wp_skip (n_then (c_seq (c_region ?_)))
    (first | refine L_e hS (e_fa0 rfl ty_fo78_0) rfl ?_ | refine L_e hS (e_faK rfl ty_fo78_0) rfl ?_); clear hS a; intro a hS
    refine L_e hS (e_load rfl (by repeat constructor) ty_sc3 (by rfl)) rfl ?_; clear hS a; intro a hS
    refine L_e hS (e_move rfl) rfl ?_; clear hS a; intro a hS
    refine L_op (s_callP hS (.cons rfl (.cons rfl .nil)) cf50 rfl (fxConvert_P u _ hu (by omega) _) ?_); clear hS a; (try clear w); intro a w hS
    refine L_e hS (e_extract rfl rfl) rfl ?_; clear hS a; intro a hS
    refine L_e hS (e_extract rfl rfl) rfl ?_; clear hS a; intro a hS
    refine L_e hS (e_assign rfl) rfl ?_; clear hS a; intro a hS
    refine L_e hS (e_assign rfl) rfl ?_; clear hS a; intro a hS
    refine L_nil (n_then (wp_ret ?_))
    refine c_retN hS Tryz.results30 (.cons (.tmp rfl) (.cons (.tmp rfl) .nil)) rfl ?_
    exact ⟨by unfold worthF; rw [if_neg (fun hh => hh hck), if_neg hc32], hS.chg⟩
  refine c_enter [(0, .pointer (some ⟨bk, 0, none⟩)), (1, .agg [.int .i64 u, .string c].toArray), (2, .int .i64 at_)] [ratesA bk mb own es n false] noB Tryz.func30 rfl Tryz.ntmps30 ⟨rfl, rfl, rfl, trivial⟩ rfl (okC (rates_ok false h) okN) dis1 (mineC (by rfl) mineN) ?_
  intro a hS
  refine c_seq (c_region ?_)
  refine L_op (s_boxA hS rfl rfl ?_); clear hS a; (try clear w); intro a w b4 hS
  refine L_e hS (e_assign rfl) rfl ?_; clear hS a; intro a hS
  refine L_e hS (e_assign rfl) rfl ?_; clear hS a; intro a hS
  refine L_nil (n_then (c_seq (c_seq (c_region ?_))))
  (first | refine L_e hS (e_fa0 rfl ty_fo78_0) rfl ?_ | refine L_e hS (e_faK rfl ty_fo78_0) rfl ?_); clear hS a; intro a hS
  refine L_e hS (e_load rfl (by repeat constructor) ty_sc3 (by rfl)) rfl ?_; clear hS a; intro a hS
  (first | refine L_e hS (e_fa0 rfl ty_fo78_1) rfl ?_ | refine L_e hS (e_faK rfl ty_fo78_1) rfl ?_); clear hS a; intro a hS
  refine L_e hS (e_load rfl (by repeat constructor) ty_sc9 (by rfl)) rfl ?_; clear hS a; intro a hS
  refine L_op (s_callP hS (.cons rfl (.cons rfl .nil)) cf74 rfl (mNew_no u c hck _) ?_); clear hS a; (try clear w); intro a w hS
  refine L_e hS (e_move rfl) rfl ?_; clear hS a; intro a hS
  refine L_e hS (e_extract rfl rfl) rfl ?_; clear hS a; intro a hS
  refine L_e hS (e_extract rfl rfl) rfl ?_; clear hS a; intro a hS
  refine L_op (s_alloc hS ty_z78 rfl ?_); clear hS a; (try clear w); intro a w b8 hS
  refine L_op (s_storeA hS rfl rfl ty_sz78 (by repeat constructor) (by rfl) (by rfl) (by rfl) ?_); clear hS; (try clear w); intro w hS
  refine L_e hS (e_assign rfl) rfl ?_; clear hS a; intro a hS
  refine L_nil (n_then (c_seq (c_region ?_)))
  refine L_e hS (e_move rfl) rfl ?_; clear hS a; intro a hS
  refine L_e hS (e_bin rfl rfl rfl) rfl ?_; clear hS a; intro a hS
  refine L_nil (n_then ?_)
  replace hS := hS.is (t := 21) (c := true) rfl ((decide_eq_true hck))
  refine c_if_t hS rfl ?_
  refine c_seq (c_region ?_)
  refine L_e hS (e_move rfl) rfl ?_; clear hS a; intro a hS
  refine L_e hS (e_assign rfl) rfl ?_; clear hS a; intro a hS
  refine L_e hS (e_assign rfl) rfl ?_; clear hS a; intro a hS
  refine L_nil (n_then (wp_ret (r_then ?_)))
  refine c_retN hS Tryz.results30 (.cons (.tmp rfl) (.cons (.tmp rfl) .nil)) rfl ?_
  exact ⟨by unfold worthF; rw [if_pos hck], hS.chg⟩
end Go.Proofs.YtheofhegdjjfgaaGreat

namespace Go.Proofs.YtheofhegdjjfgaaGreat
open Go.RowKit
def encS (x : ByteArray × Int) : List Value := [.string x.1]
def encN (x : ByteArray × Int) : List Value := [.int .i64 x.2]
set_option maxRecDepth 100000 in
theorem xCodes_P (w0 : World) : NewC Tryz.prog 79 [] w0 (fun b : Nat => .slice (some ⟨b, 0, none⟩) 6 6) (fun b => .blk b (curs.flatMap encS) 9) := by
  refine c_enter [] [] noB Tryz.func79 rfl Tryz.ntmps79 trivial rfl (by simp) (by simp) (by simp) ?_
  intro a hS
  refine c_seq (c_region ?_)
  refine L_e hS (e_assign rfl) rfl ?_; clear hS a; intro a hS
  refine L_nil (n_then (c_seq (c_region ?_)))
  refine L_op (s_bslice hS ty_sl154 ty_sz9 ty_z9 rfl rfl rfl rfl (.one rfl rfl rfl (.one rfl rfl rfl (.one rfl rfl rfl (.one rfl rfl rfl (.one rfl rfl rfl (.one rfl rfl rfl .nil)))))) rfl ?_); clear hS a; (try clear w); intro a w b1 hS
  refine L_e hS (e_assign rfl) rfl ?_; clear hS a; intro a hS
  refine L_nil (n_then (wp_ret ?_))
  refine c_ret1 hS Tryz.results79 (.tmp rfl) ?_
  exact ⟨b1, rfl, hS.chg, hS.new (.head _) rfl⟩
def refS (s : ByteArray) : Int := if curIdx s < 0 then -1 else (curs.getD (curIdx s).toNat (⟨#[]⟩, 0)).2
theorem idx_some {s : ByteArray} {k : Nat} {x : ByteArray × Int} (hx : curs[k]? = some x) (hs : x.1 = s) (hno : ∀ j, j < k → ∀ y, curs[j]? = some y → y.1 ≠ s) : curIdx s = k :=
  firstIdx_some hx (decide_eq_true hs) (fun j hj y hy => decide_eq_false (hno j hj y hy))
theorem idx_none {s : ByteArray} (hno : ∀ j, j < 6 → ∀ y, curs[j]? = some y → y.1 ≠ s) : curIdx s = -1 :=
  firstIdx_none (fun j hj y hy => decide_eq_false (hno j hj y hy))
set_option maxRecDepth 100000 in
theorem xScale_P (s : ByteArray) (w0 : World) : PureC Tryz.prog 35 [.string s] w0 (.int .i64 (refS s)) := by
  refine c_enter [(0, .string s)] [] noB Tryz.func35 rfl Tryz.ntmps35 ⟨rfl, trivial⟩ rfl (by simp) (by simp) (by simp) ?_
  intro a hS
  refine c_seq (c_region ?_)
  refine L_e hS (e_assign rfl) rfl ?_; clear hS a; intro a hS
  refine L_nil (n_then (c_seq (c_region ?_)))
  refine L_op (s_bslice hS ty_sl137 ty_sz3 ty_z3 rfl rfl rfl rfl (.one rfl rfl rfl (.one rfl rfl rfl (.one rfl rfl rfl (.one rfl rfl rfl (.one rfl rfl rfl (.one rfl rfl rfl .nil)))))) rfl ?_); clear hS a; (try clear w); intro a w b6 hS
  refine L_e hS (e_assign rfl) rfl ?_; clear hS a; intro a hS
  refine L_nil (n_then (c_seq (c_region ?_)))
  refine L_op (s_callN hS .nil cf79 rfl (xCodes_P _) ?_); clear hS a; (try clear w); intro x7 a w hS
  refine L_e hS (e_assign rfl) rfl ?_; clear hS a; intro a hS
  refine L_nil (n_then (c_seq (c_seq (c_region ?_))))
  refine L_e hS (e_assign rfl) rfl ?_; clear hS a; intro a hS
  refine L_nil (n_then (wp_block ?_))
  skip
  refine c_loop (γ := Nat) (fun k a w => St 24 noB w0 a w [(5, .int .i64 (k : Int)), (4, .slice (some ⟨x7, 0, none⟩) 6 6), (3, .slice (some ⟨b6, 0, none⟩) 6 6), (0, .string s)] [.blk x7 (curs.flatMap encS) 9, .blk b6 (curs.flatMap encN) 3] ∧ k ≤ 6 ∧ ∀ j, j < k → ∀ y, curs[j]? = some y → y.1 ≠ s) (fun k => 6 - k) 0 ⟨(hS.slots (by repeat (first | exact trivial | refine ⟨rfl, ?_⟩))).pick (by repeat (first | exact Pick.nil | (refine Pick.cons (by repeat (first | exact Rem.head | apply Rem.tail)) ?_))), Nat.zero_le _, fun j hj => by omega⟩ ?_
  clear hS a; (try clear w); intro k a w hI
  obtain ⟨hS, hk, hno⟩ := hI
  refine c_seq (c_seq (c_region ?_))
  refine L_e hS (e_move rfl) rfl ?_; clear hS a; intro a hS
  refine L_e hS (e_move rfl) rfl ?_; clear hS a; intro a hS
  refine L_e hS (e_len rfl rfl ty_sl154) rfl ?_; clear hS a; intro a hS
  refine L_e hS (e_bin rfl rfl rfl) rfl ?_; clear hS a; intro a hS
  refine L_nil (n_then ?_)
  first | refine c_ifD hS rfl (fun hc11 => ?_) (fun hc11 => ?_) | refine c_if hS rfl (fun hc11 => ?_) (fun hc11 => ?_)
  ·
    have hk6 : k < 6 := by omega
    obtain ⟨x, hx⟩ : ∃ x, curs[k]? = some x := ⟨curs[k], List.getElem?_eq_getElem hk6⟩
    refine wp_skip (n_then (c_seq (wp_block (c_seq (c_region ?_)))))
    refine L_e hS (e_move rfl) rfl ?_; clear hS a; intro a hS
    refine L_e hS (e_move rfl) rfl ?_; clear hS a; intro a hS
    refine L_e hS (e_ixN rfl rfl ty_sl154 ty_sz9 (by omega)) rfl ?_; clear hS a; intro a hS
    refine L_e hS (e_loadC rfl ty_sc9 (fun w hh => blkrow_get (enc := encS) (by repeat constructor) (fun _ => rfl) hx w hh 0 (.string x.1) rfl)) rfl ?_; clear hS a; intro a hS
    refine L_e hS (e_move rfl) rfl ?_; clear hS a; intro a hS
    refine L_e hS (e_binS rfl rfl rfl) rfl ?_; clear hS a; intro a hS
    refine L_nil (n_then ?_)
    first | refine c_ifD hS rfl (fun hc19 => ?_) (fun hc19 => ?_) | refine c_if hS rfl (fun hc19 => ?_) (fun hc19 => ?_)
    ·
      refine c_seq (c_region ?_)
      refine L_e hS (e_move rfl) rfl ?_; clear hS a; intro a hS
      refine L_e hS (e_move rfl) rfl ?_; clear hS a; intro a hS
      refine L_e hS (e_ixN rfl rfl ty_sl137 ty_sz3 (by omega)) rfl ?_; clear hS a; intro a hS
      refine L_e hS (e_loadC rfl ty_sc3 (fun w hh => blkrow_get (enc := encN) (by repeat constructor) (fun _ => rfl) hx w hh 0 (.int .i64 x.2) rfl)) rfl ?_; clear hS a; intro a hS
      refine L_e hS (e_assign rfl) rfl ?_; clear hS a; intro a hS
      refine L_nil (n_then (wp_ret ?_))
      refine r_block (r_then (r_then (r_block (r_then ?_))))
      refine c_ret1 hS Tryz.results35 (.tmp rfl) ?_
      have hi := idx_some hx hc19 hno
      have hg : curs.getD k (⟨#[]⟩, 0) = x := by rw [List.getD_eq_getElem?_getD, hx]; rfl
      exact ⟨by unfold refS; rw [hi, if_neg (by omega), Int.toNat_natCast, hg], hS.chg⟩
    refine wp_skip (n_block (n_then (c_region ?_)))
    refine L_e hS (e_move rfl) rfl ?_; clear hS a; intro a hS
    (first | refine L_e hS (e_binN rfl rfl rfl (by omega)) rfl ?_ | refine L_e hS (e_bin rfl rfl rfl) rfl ?_); clear hS a; intro a hS
    refine L_e hS (e_assign rfl) rfl ?_; clear hS a; intro a hS
    refine L_nil ?_
    exact ⟨k + 1, by omega, hS.slots (by repeat (first | exact trivial | refine ⟨rfl, ?_⟩)), by omega, fun j hj y hy => by
    by_cases e : j = k
    · subst e; rw [hx] at hy; cases hy; exact hc19
    · exact hno j (by omega) y hy⟩
  refine wp_exit ?_
  refine x_then (x_then (x_hit ?_))
  refine n_then (c_seq (c_region ?_))
  refine L_e hS (e_assign rfl) rfl ?_; clear hS a; intro a hS
  refine L_nil (n_then (wp_ret ?_))
  refine c_ret1 hS Tryz.results35 (.tmp rfl) ?_
  exact ⟨by unfold refS; rw [idx_none (fun j hj => hno j (by omega)), if_pos (by decide)], hS.chg⟩
set_option maxRecDepth 100000 in
theorem xInstant_P (n : Int) (w0 : World) : PureC Tryz.prog 54 [.int .i64 n] w0 (.bool (decide (inst n))) := by
  refine c_enter [(0, .int .i64 n)] [] noB Tryz.func54 rfl Tryz.ntmps54 ⟨rfl, trivial⟩ rfl (by simp) (by simp) (by simp) ?_
  intro a hS
  refine c_seq (c_region ?_)
  refine L_e hS (e_assign rfl) rfl ?_; clear hS a; intro a hS
  refine L_nil (n_then (c_seq (c_region ?_)))
  refine L_e hS (e_move rfl) rfl ?_; clear hS a; intro a hS
  refine L_e hS (e_bin rfl rfl rfl) rfl ?_; clear hS a; intro a hS
  refine L_e hS (e_move rfl) rfl ?_; clear hS a; intro a hS
  refine L_merge 3 8 (.bool (decide (inst n))) hS ?_ ?_
  · intro hcM8
    (first | refine g_splitD (t := 5) hS rfl ?_ ?_ | refine g_split (t := 5) hS rfl ?_ ?_) <;> (clear hS; intro hg5 hS)
    ·
      refine L_ge hS rfl rfl (e_move rfl) rfl ?_; clear hS a; intro a hS
      refine L_ge hS rfl rfl (e_bin rfl rfl rfl) rfl ?_; clear hS a; intro a hS
      refine L_e hS (e_pk rfl rfl) rfl ?_; clear hS a; intro a hS
      exact hcM8 _ _ (hS.ends 4 8 5 rfl (congrArg Value.bool (by exact decide_eq_decide.2 (by unfold inst; omega))) rfl rfl (by first | exact congrArg Value.bool (decide_eq_true hg5).symm | exact congrArg Value.bool hg5.symm | simp [hg5]) rfl)
    refine L_skip_t hS rfl rfl rfl ?_; clear hS a; intro a hS
    refine L_skip_t hS rfl rfl rfl ?_; clear hS a; intro a hS
    refine L_e hS (e_pk rfl rfl) rfl ?_; clear hS a; intro a hS
    exact hcM8 _ _ (hS.ends 4 8 5 rfl (congrArg Value.bool (by exact (decide_eq_false (by unfold inst; omega)).symm)) rfl rfl (by first | exact congrArg Value.bool (decide_eq_false hg5).symm | exact congrArg Value.bool hg5.symm | simp [hg5]) rfl)
  · clear hS a; (try clear w); intro a w hS
    simp only [List.drop_succ_cons, List.drop_zero]
    refine L_e hS (e_assign rfl) rfl ?_; clear hS a; intro a hS
    refine L_nil (n_then (wp_ret ?_))
    refine c_ret1 hS Tryz.results54 (.tmp rfl) ?_
    exact ⟨rfl, hS.chg⟩
end Go.Proofs.YtheofhegdjjfgaaGreat

namespace Go.Proofs.YtheofhegdjjfgaaGreat
end Go.Proofs.YtheofhegdjjfgaaGreat

namespace Go.Proofs.YtheofhegdjjfgaaGreat
open Go.RowKit
variable {P : Program} {n : Nat} {F0 : Nat → Prop} {w0 w : World} {a : Act} {L : List (Nat × Value)} {Γ : List Asn} {dst : Option Nat}
variable {ty : Nat} {pos : String} {af : Array Edge} {g : Option (Nat × Bool)} {K : Act → World → Prop} {Q : Exit → Act → World → Prop} {d : Nat}
def leS (x y : ByteArray) : Bool := Go.Op.bytesLess x.toList y.toList || (x.toList == y.toList)
theorem e_leS {t t' : TypeId} {x y : Operand} {i j : ByteArray} (hx : ev L x = some (.string i)) (hy : ev L y = some (.string j)) : Ex P n a L Γ ⟨dst, .binOp .leq t x y t', ty, pos, af, g⟩ (.bool (leS i j)) := fun hs w hh => by
  simp only [execOp, hs.ev hx, hs.ev hy, eqGuard, binOp, Op.stringOp]
  rfl
def tailP (q : Option Addr) (k c s : Nat) : Option Addr := if c = k then q else q.map (·.add (k * s))
theorem e_slT {T E s m c : Nat} {p : Option Addr} {x y : Operand} {k : IntKind} {j : Nat} (hx : ev L x = some (.slice p m c)) (hy : ev L y = some (.int k (j : Int))) (hT : sliceT P T = some E) (hs : szOf P E = some s) (hj : j ≤ m) :
    Ex P n a L Γ ⟨dst, .slice T x (some y) none none, ty, pos, af, g⟩ (.slice (tailP p j c s) (m - j) (c - j)) := fun hs' w hh => by
  obtain ⟨h1, h2⟩ := sliceT_elem hT
  have h3 := run_sliceAt_slice (P := P) (w := w) T (.slice p m c) (some (.int k (j : Int))) none none h1
  have h4 := run_slice_l (P := P) (w := w) T p m c h1 k (j : Int) (by omega) (by omega)
  rw [h2, sizeOf_run hs] at h4
  simp [execOp, hs'.ev hx, hs'.ev hy, h3, h4, Result.andThen, sliced, tailP]
def ReadQ (w : World) (q : Option Addr) (k c : Nat) (ys : List Value) : Prop := (q = none ∧ k = 0 ∧ c = 0 ∧ ys = []) ∨ ∃ bx ox, q = some ⟨bx, ox, none⟩ ∧ ∀ j u, ys[j]? = some u → w.cell? ⟨bx, ox + j, none⟩ = some u
theorem flat_drop {α : Type} {enc : α → List Value} {s : Nat} (hl : ∀ x, (enc x).length = s) : ∀ (xs : List α) (k : Nat), (xs.drop k).flatMap enc = (xs.flatMap enc).drop (k * s)
  | xs, 0 => by simp
  | [], k + 1 => by simp
  | x :: xs, k + 1 => by
    rw [List.drop_succ_cons, flat_drop hl xs k, List.flatMap_cons, Nat.add_mul, Nat.one_mul, Nat.add_comm, ← List.drop_drop]
    congr 1
    rw [List.drop_append_of_le_length (by rw [hl]; exact Nat.le_refl _), List.drop_eq_nil_of_le (by rw [hl]; exact Nat.le_refl _), List.nil_append]
theorem flat_take {α : Type} {enc : α → List Value} {s : Nat} (hl : ∀ x, (enc x).length = s) : ∀ (xs : List α) (k : Nat), (xs.take k).flatMap enc = (xs.flatMap enc).take (k * s)
  | xs, 0 => by simp
  | [], k + 1 => by simp
  | x :: xs, k + 1 => by
    have e1 : (enc x).take ((k + 1) * s) = enc x := List.take_of_length_le (by rw [hl, Nat.add_mul]; omega)
    have e2 : (k + 1) * s - s = k * s := by rw [Nat.add_mul]; omega
    rw [List.take_succ_cons, List.flatMap_cons, flat_take hl xs k, List.flatMap_cons, List.take_append, e1, hl, e2]
theorem own_head {α : Type} {enc : α → List Value} {s E m c k : Nat} {q : Option Addr} {xs : List α} (h : w.ownsRow 0 E s (.slice q m c) m (xs.flatMap enc)) (hl : ∀ x, (enc x).length = s) (hk : k ≤ m) : ReadQ w q k c ((xs.take k).flatMap enc) := by
  rcases h.2 with ⟨e1, e2⟩ | ⟨g, cap, cur, e1, _⟩
  · injection e1 with e3 e4 e5
    subst e3 e5
    refine .inl ⟨rfl, by omega, rfl, ?_⟩
    rw [show k = 0 by omega]; simp
  · injection e1 with e3 e4 e5
    subst e3
    refine .inr ⟨g, 0, rfl, fun j u hj => ?_⟩
    rw [flat_take hl] at hj
    have h1 : (xs.flatMap enc)[j]? = some u := by
      rw [List.getElem?_take] at hj
      split at hj
      · exact hj
      · cases hj
    have h2 := World.ownsRow.cells h (g := g) rfl _ _ h1
    rw [addr_add] at h2
    rw [← h2]
theorem own_tail {α : Type} {enc : α → List Value} {s E m c k : Nat} {q : Option Addr} {xs : List α} (h : w.ownsRow 0 E s (.slice q m c) m (xs.flatMap enc)) (hl : ∀ x, (enc x).length = s) (hx : xs.length = m) (hk : k ≤ m) : ReadQ w (tailP q k c s) (m - k) (c - k) ((xs.drop k).flatMap enc) := by
  rcases h.2 with ⟨e1, e2⟩ | ⟨g, cap, cur, e1, _, _, hcap, _⟩
  · injection e1 with e3 e4 e5
    subst e3 e5
    refine .inl ⟨by unfold tailP; split <;> rfl, by omega, by omega, ?_⟩
    rw [List.drop_eq_nil_of_le (by omega)]; rfl
  · injection e1 with e3 e4 e5
    subst e3 e5
    by_cases e : c = k
    · refine .inr ⟨g, 0, by unfold tailP; rw [if_pos e], fun j u hj => ?_⟩
      rw [List.drop_eq_nil_of_le (by omega)] at hj; simp at hj
    · refine .inr ⟨g, k * s, by unfold tailP; rw [if_neg e]; simp [addr_add], fun j u hj => ?_⟩
      rw [flat_drop hl, List.getElem?_drop] at hj
      have h2 := World.ownsRow.cells h (g := g) rfl _ _ hj
      rw [addr_add] at h2
      rw [← h2]; congr 2; omega
theorem s_appendQ {T E s b : Nat} {zs : List Value} {x y : Operand} {v : Value} {m k c : Nat} {q : Option Addr} {cs ys : List Value} {Γ' : Value → List Asn} (hS : St n F0 w0 a w L Γ) (hx : ev L x = some v) (hy : ev L y = some (.slice q k c))
    (hT : sliceT P T = some E) (hs : szOf P E = some s) (hb : byOf P E = some b) (hz : zeroOf P E = some zs) (hzl : Nat.beq zs.length s = true) (hs0 : Nat.blt 0 s = true) (hn : Nat.blt d n = true)
    (hm : ownA E s v m cs ∈ Γ) (hyl : ys.length = k * s) (hq : ReadQ w q k c ys) (h1 : ∀ u ∈ ys, isOne u = true) (hbd : (m + k) * b ≤ 140737488355328 ∧ m + k ≤ 4611686018427387904)
    (hr : ∀ v', Rep (ownA E s v m cs) (ownA E s v' (m + k) (cs ++ ys)) Γ (Γ' v'))
    (h : ∀ v' a' w', (v' = .slice none 0 0 ↔ v = .slice none 0 0 ∧ k = 0) → St n F0 w0 a' w' ((d, v') :: L) (Γ' v') → K a' w') : OW P ⟨some d, .call ⟨.builtin .append, #[x, y], #[T, T]⟩, ty, pos, af, g⟩ a w K Q := by
  rcases hq with ⟨rfl, rfl, rfl, rfl⟩ | ⟨bx, ox, rfl, hys⟩
  · refine s_e hS (e_append0 hx hy hT hs hb hz hm) hn (fun a' hS' => h v a' w (by simp) ?_)
    have hown : w.ownsRow 0 E s v m cs := hS.get hm
    refine hS'.upd (hr v) (Chg.refl _ _) ?_ (fun b hb => .inl hb) rfl
    have := ok_own (w := w) (E := E) (s := s) (v := v) (m := m) (xs := cs) hown
    rwa [Nat.add_zero, List.append_nil]
  · exact s_append hS hx hy hT hs hb hz hzl hs0 hn hm hyl hys h1 hbd hr h
end Go.Proofs.YtheofhegdjjfgaaGreat

namespace Go.Proofs.YtheofhegdjjfgaaGreat
open Go.RowKit
abbrev RR := ByteArray × Int × Int
def encR (x : RR) : List Value := [.string x.1, .int .i64 x.2.1, .int .i64 x.2.2]
structure refφ (bw : Nat) (own : ByteArray) (rows : List RR) (v : Value) (w : World) : Prop where
  bk : w.heap[bw]? = some (.cells [.string own, v].toArray 120 (0, 0))
  rows : w.ownsRow 0 186 3 v rows.length (rows.flatMap encR)
def refF (bw : Nat) (v : Value) (k : Nat) : Prop := k = bw ∨ v.ownBlock = some k
def refA (bw : Nat) (own : ByteArray) (rows : List RR) (v : Value) (m : Bool) : Asn := .any (refF bw v) (refφ bw own rows v) m
theorem ref_ok {bw : Nat} {own : ByteArray} {rows : List RR} {v : Value} {w : World} (m : Bool) (h : refφ bw own rows v w) : (refA bw own rows v m).ok w := by
  refine ⟨fun b hb => ?_, fun w' hw => ⟨?_, owns_keep h.rows (fun b hb => hw b (.inr hb))⟩⟩
  · rcases hb with rfl | hb
    · exact (Array.getElem?_eq_some_iff.1 h.bk).1
    · exact (World.ownsRow.lt h.rows b hb).2
  · rw [hw bw (.inl rfl)]; exact h.bk
def kOK (c : ByteArray) (rows : List RR) (i k : Nat) : Prop := k ≤ i ∧ (k = 0 ∨ ∃ y, rows[k - 1]? = some y ∧ leS y.1 c = true) ∧ ∀ j, k ≤ j → j < i → ∀ y, rows[j]? = some y → leS y.1 c = false
def late (rows : List RR) (c : ByteArray) (at_ : Int) : Prop := ∃ x ∈ rows, x.1 = c ∧ at_ ≤ x.2.1
instance (rows : List RR) (c : ByteArray) (at_ : Int) : Decidable (late rows c at_) := by unfold late; infer_instance
def refE (own : ByteArray) (rows : List RR) (c : ByteArray) (at_ nano : Int) : Int :=
  if refS c < 0 ∨ c = own then 18 else if ¬ inst at_ ∨ nano < 1 ∨ 1125899906842624 < nano then 6 else if late rows c at_ then 34 else if 500 ≤ rows.length then 9 else 0
def refStep (own : ByteArray) (rows : List RR) (c : ByteArray) (at_ nano : Int) (rows' : List RR) : Prop :=
  (refE own rows c at_ nano ≠ 0 ∧ rows' = rows) ∨ (refE own rows c at_ nano = 0 ∧ ∃ k, kOK c rows rows.length k ∧ rows' = rows.take k ++ (c, at_, nano) :: rows.drop k)
theorem kOK_yes {c : ByteArray} {rows : List RR} {i : Nat} {x : RR} (hx : rows[i]? = some x) (hl : leS x.1 c = true) : kOK c rows (i + 1) (i + 1) :=
  ⟨Nat.le_refl _, .inr ⟨x, by rw [Nat.add_sub_cancel]; exact hx, hl⟩, fun j h1 h2 => by omega⟩
theorem kOK_no {c : ByteArray} {rows : List RR} {i k : Nat} {x : RR} (h : kOK c rows i k) (hx : rows[i]? = some x) (hl : leS x.1 c = false) : kOK c rows (i + 1) k :=
  ⟨by have := h.1; omega, h.2.1, fun j h1 h2 y hy => by
    by_cases e : j = i
    · subst e; rw [hx] at hy; cases hy; exact hl
    · exact h.2.2 j h1 (by omega) y hy⟩
set_option maxRecDepth 100000 in
theorem rSet_P (bw : Nat) (own c : ByteArray) (rows : List RR) (v : Value) (at_ nano : Int) (hlen : rows.length ≤ 500) (w0 : World) (h : refφ bw own rows v w0) :
    MutC Tryz.prog 51 [.pointer (some ⟨bw, 0, none⟩), .string c, .int .i64 at_, .int .i64 nano] w0 (refA bw own rows v true) (fun _ : { y : List RR × Value // refStep own rows c at_ nano y.1 } => .int .i64 (refE own rows c at_ nano)) (fun y => refA bw own y.1.1 y.1.2 true) := by
  obtain ⟨q, cq, rfl⟩ := own_slice h.rows
  have hdis : (Value.slice q rows.length cq).ownBlock ≠ some bw := fun hb => by
    obtain ⟨cs, h1⟩ := row_obj h.rows hb
    rw [h.bk] at h1; injection h1 with h1; injection h1 with h1 h2 h3; exact absurd h2 (by decide)
  have hcq : rows.length ≤ cq := by
    rcases h.rows.2 with ⟨e1, e2⟩ | ⟨g, cap, cur, e1, _, _, e2, _⟩
    · injection e1 with _ _ e3; omega
    · injection e1 with _ _ e3; omega
  have hsh : rows.length = 0 ∨ ∃ g, q = some ⟨g, 0, none⟩ := by
    rcases h.rows.2 with ⟨e1, e2⟩ | ⟨g, cap, cur, e1, _⟩
    · exact .inl e2
    · injection e1 with e3; exact .inr ⟨g, e3⟩
  have hone : ∀ l : List RR, ∀ u ∈ l.flatMap encR, isOne u = true := fun l u hu => by
    obtain ⟨x, _, hx⟩ := List.mem_flatMap.1 hu
    simp [encR] at hx
    rcases hx with rfl | rfl | rfl <;> rfl
  have same : refE own rows c at_ nano ≠ 0 → refStep own rows c at_ nano rows := fun hne => .inl ⟨hne, rfl⟩
  have hback : ∀ {a : Act} {w : World} {L : List (Nat × Value)} {Δ : List Asn}, St 109 (refF bw (.slice q rows.length cq)) w0 a w L (.blk bw [.string own, .slice q rows.length cq] 120 :: ownA 186 3 (.slice q rows.length cq) rows.length (rows.flatMap encR) :: Δ) → (refA bw own rows (.slice q rows.length cq) true).ok w := fun {a w L Δ} hS =>
    ref_ok true ⟨hS.get (X := .blk bw [.string own, .slice q rows.length cq] 120) (by repeat constructor), hS.get (X := ownA 186 3 (.slice q rows.length cq) rows.length (rows.flatMap encR)) (by repeat constructor)⟩
  refine c_enter [(0, .pointer (some ⟨bw, 0, none⟩)), (1, .string c), (2, .int .i64 at_), (3, .int .i64 nano)] [.blk bw [.string own, .slice q rows.length cq] 120, ownA 186 3 (.slice q rows.length cq) rows.length (rows.flatMap encR)] (refF bw (.slice q rows.length cq)) Tryz.func51 rfl Tryz.ntmps51 ⟨rfl, rfl, rfl, rfl, trivial⟩ rfl (okC (ok_blk h.bk) (okC (ok_own h.rows) okN)) (disC (sepC (fun b hb hb' => hdis (by rw [← show b = bw from hb]; exact hb')) sepN) dis1) (mineO (fun b hb => .inl hb) (mineO (fun b hb => .inr hb) mineN)) ?_
  intro a hS
  refine c_seq (c_region ?_)
  refine L_e hS (e_assign rfl) rfl ?_; clear hS a; intro a hS
  refine L_nil (n_then (c_seq (c_seq (c_region ?_))))
  refine L_e hS (e_move rfl) rfl ?_; clear hS a; intro a hS
  refine L_op (s_callP hS (.cons rfl .nil) cf35 rfl (xScale_P c _) ?_); clear hS a; (try clear w); intro a w hS
  refine L_e hS (e_bin rfl rfl rfl) rfl ?_; clear hS a; intro a hS
  refine L_e hS (e_move rfl) rfl ?_; clear hS a; intro a hS
  refine L_merge 7 22 (.bool (decide (refS c < 0 ∨ c = own))) hS ?_ ?_
  · intro hcM22
    (first | refine g_splitD (t := 15) hS rfl ?_ ?_ | refine g_split (t := 15) hS rfl ?_ ?_) <;> (clear hS; intro hg15 hS)
    ·
      refine L_skip_f hS rfl rfl rfl ?_; clear hS a; intro a hS
      refine L_skip_f hS rfl rfl rfl ?_; clear hS a; intro a hS
      refine L_skip_f hS rfl rfl rfl ?_; clear hS a; intro a hS
      refine L_skip_f hS rfl rfl rfl ?_; clear hS a; intro a hS
      refine L_skip_f hS rfl rfl rfl ?_; clear hS a; intro a hS
      refine L_skip_f hS rfl rfl rfl ?_; clear hS a; intro a hS
      refine L_e hS (e_pk rfl rfl) rfl ?_; clear hS a; intro a hS
      exact hcM22 _ _ (hS.ends 8 22 15 rfl (congrArg Value.bool (by first | rfl | (simp [hg15]; done) | (simp [hg15]; omega) | grind)) rfl rfl (by first | exact congrArg Value.bool (decide_eq_true hg15).symm | exact congrArg Value.bool hg15.symm | simp [hg15]) rfl)
    refine L_ge hS rfl rfl (e_move rfl) rfl ?_; clear hS a; intro a hS
    refine L_ge hS rfl rfl (e_move rfl) rfl ?_; clear hS a; intro a hS
    refine L_ge hS rfl rfl (e_nilCheck rfl) rfl ?_; clear hS a; intro a hS
    (first | refine L_ge hS rfl rfl (e_fa0 rfl ty_fo120_0) rfl ?_ | refine L_ge hS rfl rfl (e_faK rfl ty_fo120_0) rfl ?_); clear hS a; intro a hS
    refine L_ge hS rfl rfl (e_load rfl (by repeat constructor) ty_sc9 (by rfl)) rfl ?_; clear hS a; intro a hS
    refine L_ge hS rfl rfl (e_binS rfl rfl rfl) rfl ?_; clear hS a; intro a hS
    refine L_e hS (e_pk rfl rfl) rfl ?_; clear hS a; intro a hS
    exact hcM22 _ _ (hS.ends 8 22 15 rfl (congrArg Value.bool (by first | rfl | (simp [hg15]; done) | (simp [hg15]; omega) | grind)) rfl rfl (by first | exact congrArg Value.bool (decide_eq_false hg15).symm | exact congrArg Value.bool hg15.symm | simp [hg15]) rfl)
  · clear hS a; (try clear w); intro a w hS
    simp only [List.drop_succ_cons, List.drop_zero]
    refine L_nil (n_then ?_)
    first | refine c_ifD hS rfl (fun hc22 => ?_) (fun hc22 => ?_) | refine c_if hS rfl (fun hc22 => ?_) (fun hc22 => ?_)
    ·
      refine c_seq (c_region ?_)
      refine L_e hS (e_assign rfl) rfl ?_; clear hS a; intro a hS
      refine L_nil (n_then (wp_ret (r_then ?_)))
      refine c_ret1 hS Tryz.results51 (.tmp rfl) ?_
      have hE : refE own rows c at_ nano = 18 := if_pos hc22
      exact ⟨⟨(rows, _), same (by rw [hE]; decide)⟩, by (try dsimp only); rw [hE], hS.chg, hback hS, fun b hb => .inl hb⟩
    refine wp_skip (n_then (c_seq (c_seq (c_region ?_))))
    refine L_e hS (e_move rfl) rfl ?_; clear hS a; intro a hS
    refine L_op (s_callP hS (.cons rfl .nil) cf54 rfl (xInstant_P at_ _) ?_); clear hS a; (try clear w); intro a w hS
    refine L_e hS (e_not rfl) rfl ?_; clear hS a; intro a hS
    refine L_e hS (e_move rfl) rfl ?_; clear hS a; intro a hS
    refine L_merge 3 29 (.bool (decide (¬ inst at_ ∨ nano < 1))) hS ?_ ?_
    · intro hcM29
      (first | refine g_splitD (t := 26) hS rfl ?_ ?_ | refine g_split (t := 26) hS rfl ?_ ?_) <;> (clear hS; intro hg26 hS)
      ·
        refine L_skip_f hS rfl rfl rfl ?_; clear hS a; intro a hS
        refine L_skip_f hS rfl rfl rfl ?_; clear hS a; intro a hS
        refine L_e hS (e_pk rfl rfl) rfl ?_; clear hS a; intro a hS
        exact hcM29 _ _ (hS.ends 4 29 26 rfl (congrArg Value.bool (by simp at hg26; simp [hg26])) rfl rfl (by first | exact congrArg Value.bool (decide_eq_true hg26).symm | exact congrArg Value.bool hg26.symm | simp [hg26]) rfl)
      refine L_ge hS rfl rfl (e_move rfl) rfl ?_; clear hS a; intro a hS
      refine L_ge hS rfl rfl (e_bin rfl rfl rfl) rfl ?_; clear hS a; intro a hS
      refine L_e hS (e_pk rfl rfl) rfl ?_; clear hS a; intro a hS
      exact hcM29 _ _ (hS.ends 4 29 26 rfl (congrArg Value.bool (by simp at hg26; rw [decide_eq_decide]; simp [hg26])) rfl rfl (by first | exact congrArg Value.bool (decide_eq_false hg26).symm | exact congrArg Value.bool hg26.symm | simp [hg26]) rfl)
    · clear hS a; (try clear w); intro a w hS
      simp only [List.drop_succ_cons, List.drop_zero]
      refine L_e hS (e_move rfl) rfl ?_; clear hS a; intro a hS
      refine L_merge 3 33 (.bool (decide (¬ inst at_ ∨ nano < 1 ∨ 1125899906842624 < nano))) hS ?_ ?_
      · intro hcM33
        (first | refine g_splitD (t := 30) hS rfl ?_ ?_ | refine g_split (t := 30) hS rfl ?_ ?_) <;> (clear hS; intro hg30 hS)
        ·
          refine L_skip_f hS rfl rfl rfl ?_; clear hS a; intro a hS
          refine L_skip_f hS rfl rfl rfl ?_; clear hS a; intro a hS
          refine L_e hS (e_pk rfl rfl) rfl ?_; clear hS a; intro a hS
          exact hcM33 _ _ (hS.ends 4 33 30 rfl (congrArg Value.bool (by symm; rw [decide_eq_true_eq]; rcases hg30 with h | h; exact .inl h; exact .inr (.inl h))) rfl rfl (by first | exact congrArg Value.bool (decide_eq_true hg30).symm | exact congrArg Value.bool hg30.symm | simp [hg30]) rfl)
        refine L_ge hS rfl rfl (e_move rfl) rfl ?_; clear hS a; intro a hS
        refine L_ge hS rfl rfl (e_bin rfl rfl rfl) rfl ?_; clear hS a; intro a hS
        refine L_e hS (e_pk rfl rfl) rfl ?_; clear hS a; intro a hS
        exact hcM33 _ _ (hS.ends 4 33 30 rfl (congrArg Value.bool (by rw [decide_eq_decide]; constructor; exact fun h => .inr (.inr h); exact fun h => by (rcases h with h | h | h; exact absurd (.inl h) hg30; exact absurd (.inr h) hg30; exact h))) rfl rfl (by first | exact congrArg Value.bool (decide_eq_false hg30).symm | exact congrArg Value.bool hg30.symm | simp [hg30]) rfl)
      · clear hS a; (try clear w); intro a w hS
        simp only [List.drop_succ_cons, List.drop_zero]
        refine L_nil (n_then ?_)
        first | refine c_ifD hS rfl (fun hc33 => ?_) (fun hc33 => ?_) | refine c_if hS rfl (fun hc33 => ?_) (fun hc33 => ?_)
        ·
          refine c_seq (c_region ?_)
          refine L_e hS (e_assign rfl) rfl ?_; clear hS a; intro a hS
          refine L_nil (n_then (wp_ret (r_then ?_)))
          refine c_ret1 hS Tryz.results51 (.tmp rfl) ?_
          have hE : refE own rows c at_ nano = 6 := by unfold refE; rw [if_neg hc22, if_pos hc33]
          exact ⟨⟨(rows, _), same (by rw [hE]; decide)⟩, by (try dsimp only); rw [hE], hS.chg, hback hS, fun b hb => .inl hb⟩
        refine wp_skip (n_then (c_seq (c_region ?_)))
        refine L_e hS (e_assign rfl) rfl ?_; clear hS a; intro a hS
        refine L_nil (n_then (c_seq (c_seq (c_region ?_))))
        refine L_e hS (e_assign rfl) rfl ?_; clear hS a; intro a hS
        refine L_nil (n_then (wp_block ?_))
        skip
        refine c_loop (γ := Nat × Nat) (fun p a w => St 109 (refF bw (.slice q rows.length cq)) w0 a w [(9, .int .i64 (p.2 : Int)), (10, .int .i64 (p.1 : Int)), (0, .pointer (some ⟨bw, 0, none⟩)), (1, .string c), (2, .int .i64 at_), (3, .int .i64 nano)] [.blk bw [.string own, .slice q rows.length cq] 120, ownA 186 3 (.slice q rows.length cq) rows.length (rows.flatMap encR)] ∧ p.1 ≤ rows.length ∧ kOK c rows p.1 p.2 ∧ ∀ j, j < p.1 → ∀ y, rows[j]? = some y → ¬ (y.1 = c ∧ at_ ≤ y.2.1)) (fun p => rows.length - p.1) (0, 0) ⟨hS.slots (by repeat (first | exact trivial | refine ⟨rfl, ?_⟩)), Nat.zero_le _, ⟨Nat.le_refl _, .inl rfl, fun j h1 h2 => absurd h2 (Nat.not_lt_zero _)⟩, fun j hj => absurd hj (Nat.not_lt_zero _)⟩ ?_
        clear hS a; (try clear w); intro p a w hI
        obtain ⟨hS, hi, hk, hno⟩ := hI
        obtain ⟨i, k⟩ := p
        simp only at hS hi hk hno ⊢
        refine c_seq (c_seq (c_region ?_))
        refine L_e hS (e_move rfl) rfl ?_; clear hS a; intro a hS
        refine L_e hS (e_move rfl) rfl ?_; clear hS a; intro a hS
        refine L_e hS (e_nilCheck rfl) rfl ?_; clear hS a; intro a hS
        (first | refine L_e hS (e_fa0 rfl ty_fo120_1) rfl ?_ | refine L_e hS (e_faK rfl ty_fo120_1) rfl ?_); clear hS a; intro a hS
        refine L_e hS (e_load rfl (by repeat constructor) ty_sc118 (by rfl)) rfl ?_; clear hS a; intro a hS
        refine L_e hS (e_len rfl rfl ty_sl118) rfl ?_; clear hS a; intro a hS
        refine L_e hS (e_bin rfl rfl rfl) rfl ?_; clear hS a; intro a hS
        refine L_nil (n_then ?_)
        first | refine c_ifD hS rfl (fun hc40 => ?_) (fun hc40 => ?_) | refine c_if hS rfl (fun hc40 => ?_) (fun hc40 => ?_)
        ·
          have hin : i < rows.length := by omega
          obtain ⟨x, hx⟩ : ∃ x, rows[i]? = some x := ⟨rows[i], List.getElem?_eq_getElem hin⟩
          obtain ⟨g, rfl⟩ : ∃ g, q = some ⟨g, 0, none⟩ := hsh.resolve_left (by omega)
          refine wp_skip (n_then (c_seq (wp_block (c_seq (c_seq (c_region ?_))))))
          refine L_e hS (e_move rfl) rfl ?_; clear hS a; intro a hS
          refine L_e hS (e_nilCheck rfl) rfl ?_; clear hS a; intro a hS
          (first | refine L_e hS (e_fa0 rfl ty_fo120_1) rfl ?_ | refine L_e hS (e_faK rfl ty_fo120_1) rfl ?_); clear hS a; intro a hS
          refine L_e hS (e_load rfl (by repeat constructor) ty_sc118 (by rfl)) rfl ?_; clear hS a; intro a hS
          refine L_e hS (e_move rfl) rfl ?_; clear hS a; intro a hS
          refine L_e hS (e_ixN rfl rfl ty_sl118 ty_sz186 (by omega)) rfl ?_; clear hS a; intro a hS
          (first | refine L_e hS (e_fa0 rfl ty_fo186_0) rfl ?_ | refine L_e hS (e_faK rfl ty_fo186_0) rfl ?_); clear hS a; intro a hS
          refine L_e hS (e_loadC rfl ty_sc9 (fun w hh => own_get (enc := encR) (fun _ => rfl) (by repeat constructor) hx w hh 0 (.string x.1) rfl)) rfl ?_; clear hS a; intro a hS
          refine L_e hS (e_move rfl) rfl ?_; clear hS a; intro a hS
          refine L_e hS (e_binS rfl rfl rfl) rfl ?_; clear hS a; intro a hS
          refine L_e hS (e_move rfl) rfl ?_; clear hS a; intro a hS
          refine L_merge 11 64 (.bool (decide (x.1 = c ∧ at_ ≤ x.2.1))) hS ?_ ?_
          · intro hcM64
            (first | refine g_splitD (t := 53) hS rfl ?_ ?_ | refine g_split (t := 53) hS rfl ?_ ?_) <;> (clear hS; intro hg53 hS)
            ·
              refine L_ge hS rfl rfl (e_move rfl) rfl ?_; clear hS a; intro a hS
              refine L_ge hS rfl rfl (e_nilCheck rfl) rfl ?_; clear hS a; intro a hS
              (first | refine L_ge hS rfl rfl (e_fa0 rfl ty_fo120_1) rfl ?_ | refine L_ge hS rfl rfl (e_faK rfl ty_fo120_1) rfl ?_); clear hS a; intro a hS
              refine L_ge hS rfl rfl (e_load rfl (by repeat constructor) ty_sc118 (by rfl)) rfl ?_; clear hS a; intro a hS
              refine L_ge hS rfl rfl (e_move rfl) rfl ?_; clear hS a; intro a hS
              refine L_ge hS rfl rfl (e_ixN rfl rfl ty_sl118 ty_sz186 (by omega)) rfl ?_; clear hS a; intro a hS
              (first | refine L_ge hS rfl rfl (e_fa0 rfl ty_fo186_1) rfl ?_ | refine L_ge hS rfl rfl (e_faK rfl ty_fo186_1) rfl ?_); clear hS a; intro a hS
              refine L_ge hS rfl rfl (e_loadC rfl ty_sc3 (fun w hh => own_get (enc := encR) (fun _ => rfl) (by repeat constructor) hx w hh 1 (.int .i64 x.2.1) rfl)) rfl ?_; clear hS a; intro a hS
              refine L_ge hS rfl rfl (e_move rfl) rfl ?_; clear hS a; intro a hS
              refine L_ge hS rfl rfl (e_bin rfl rfl rfl) rfl ?_; clear hS a; intro a hS
              refine L_e hS (e_pk rfl rfl) rfl ?_; clear hS a; intro a hS
              exact hcM64 _ _ (hS.ends 12 64 53 rfl (congrArg Value.bool (by first | rfl | (simp [hg53]; done) | (simp [hg53]; omega) | grind)) rfl rfl (by first | exact congrArg Value.bool (decide_eq_true hg53).symm | exact congrArg Value.bool hg53.symm | simp [hg53]) rfl)
            refine L_skip_t hS rfl rfl rfl ?_; clear hS a; intro a hS
            refine L_skip_t hS rfl rfl rfl ?_; clear hS a; intro a hS
            refine L_skip_t hS rfl rfl rfl ?_; clear hS a; intro a hS
            refine L_skip_t hS rfl rfl rfl ?_; clear hS a; intro a hS
            refine L_skip_t hS rfl rfl rfl ?_; clear hS a; intro a hS
            refine L_skip_t hS rfl rfl rfl ?_; clear hS a; intro a hS
            refine L_skip_t hS rfl rfl rfl ?_; clear hS a; intro a hS
            refine L_skip_t hS rfl rfl rfl ?_; clear hS a; intro a hS
            refine L_skip_t hS rfl rfl rfl ?_; clear hS a; intro a hS
            refine L_skip_t hS rfl rfl rfl ?_; clear hS a; intro a hS
            refine L_e hS (e_pk rfl rfl) rfl ?_; clear hS a; intro a hS
            exact hcM64 _ _ (hS.ends 12 64 53 rfl (congrArg Value.bool (by first | rfl | (simp [hg53]; done) | (simp [hg53]; omega) | grind)) rfl rfl (by first | exact congrArg Value.bool (decide_eq_false hg53).symm | exact congrArg Value.bool hg53.symm | simp [hg53]) rfl)
          · clear hS a; (try clear w); intro a w hS
            simp only [List.drop_succ_cons, List.drop_zero]
            refine L_nil (n_then ?_)
            first | refine c_ifD hS rfl (fun hc64 => ?_) (fun hc64 => ?_) | refine c_if hS rfl (fun hc64 => ?_) (fun hc64 => ?_)
            ·
              refine c_seq (c_region ?_)
              refine L_e hS (e_assign rfl) rfl ?_; clear hS a; intro a hS
              refine L_nil (n_then (wp_ret ?_))
              refine r_then (r_block (r_then (r_then (r_block (r_then ?_)))))
              refine c_ret1 hS Tryz.results51 (.tmp rfl) ?_
              have hl : late rows c at_ := ⟨x, List.mem_of_getElem? hx, hc64⟩
              have hE : refE own rows c at_ nano = 34 := by unfold refE; rw [if_neg hc22, if_neg hc33, if_pos hl]
              exact ⟨⟨(rows, _), same (by rw [hE]; decide)⟩, by (try dsimp only); rw [hE], hS.chg, hback hS, fun b hb => .inl hb⟩
            refine wp_skip (n_then (c_seq (c_region ?_)))
            refine L_e hS (e_move rfl) rfl ?_; clear hS a; intro a hS
            refine L_e hS (e_nilCheck rfl) rfl ?_; clear hS a; intro a hS
            (first | refine L_e hS (e_fa0 rfl ty_fo120_1) rfl ?_ | refine L_e hS (e_faK rfl ty_fo120_1) rfl ?_); clear hS a; intro a hS
            refine L_e hS (e_load rfl (by repeat constructor) ty_sc118 (by rfl)) rfl ?_; clear hS a; intro a hS
            refine L_e hS (e_move rfl) rfl ?_; clear hS a; intro a hS
            refine L_e hS (e_ixN rfl rfl ty_sl118 ty_sz186 (by omega)) rfl ?_; clear hS a; intro a hS
            (first | refine L_e hS (e_fa0 rfl ty_fo186_0) rfl ?_ | refine L_e hS (e_faK rfl ty_fo186_0) rfl ?_); clear hS a; intro a hS
            refine L_e hS (e_loadC rfl ty_sc9 (fun w hh => own_get (enc := encR) (fun _ => rfl) (by repeat constructor) hx w hh 0 (.string x.1) rfl)) rfl ?_; clear hS a; intro a hS
            refine L_e hS (e_move rfl) rfl ?_; clear hS a; intro a hS
            refine L_e hS (e_leS rfl rfl) rfl ?_; clear hS a; intro a hS
            refine L_nil (n_then ?_)
            first | refine c_ifD hS rfl (fun hc74 => ?_) (fun hc74 => ?_) | refine c_if hS rfl (fun hc74 => ?_) (fun hc74 => ?_)
            ·
              refine c_region ?_
              refine L_e hS (e_move rfl) rfl ?_; clear hS a; intro a hS
              (first | refine L_e hS (e_binN rfl rfl rfl (by omega)) rfl ?_ | refine L_e hS (e_bin rfl rfl rfl) rfl ?_); clear hS a; intro a hS
              refine L_e hS (e_assign rfl) rfl ?_; clear hS a; intro a hS
              refine L_nil (n_block (n_then (c_region ?_)))
              refine L_e hS (e_move rfl) rfl ?_; clear hS a; intro a hS
              (first | refine L_e hS (e_binN rfl rfl rfl (by omega)) rfl ?_ | refine L_e hS (e_bin rfl rfl rfl) rfl ?_); clear hS a; intro a hS
              refine L_e hS (e_assign rfl) rfl ?_; clear hS a; intro a hS
              refine L_nil ?_
              first
              | exact ⟨(i + 1, i + 1), by simp only; omega, hS.slots (by repeat (first | exact trivial | refine ⟨rfl, ?_⟩)), by simp only; omega, kOK_yes hx hc74, fun j hj y hy => by
                  by_cases e : j = i
                  · subst e; rw [hx] at hy; cases hy; exact hc64
                  · exact hno j (by simp only at hj; omega) y hy⟩
              | exact ⟨(i + 1, k), by simp only; omega, hS.slots (by repeat (first | exact trivial | refine ⟨rfl, ?_⟩)), by simp only; omega, kOK_no hk hx (by simpa using hc74), fun j hj y hy => by
                  by_cases e : j = i
                  · subst e; rw [hx] at hy; cases hy; exact hc64
                  · exact hno j (by simp only at hj; omega) y hy⟩
            refine wp_skip (n_block (n_then (c_region ?_)))
            refine L_e hS (e_move rfl) rfl ?_; clear hS a; intro a hS
            (first | refine L_e hS (e_binN rfl rfl rfl (by omega)) rfl ?_ | refine L_e hS (e_bin rfl rfl rfl) rfl ?_); clear hS a; intro a hS
            refine L_e hS (e_assign rfl) rfl ?_; clear hS a; intro a hS
            refine L_nil ?_
            first
            | exact ⟨(i + 1, i + 1), by simp only; omega, hS.slots (by repeat (first | exact trivial | refine ⟨rfl, ?_⟩)), by simp only; omega, kOK_yes hx hc74, fun j hj y hy => by
                by_cases e : j = i
                · subst e; rw [hx] at hy; cases hy; exact hc64
                · exact hno j (by simp only at hj; omega) y hy⟩
            | exact ⟨(i + 1, k), by simp only; omega, hS.slots (by repeat (first | exact trivial | refine ⟨rfl, ?_⟩)), by simp only; omega, kOK_no hk hx (by simpa using hc74), fun j hj y hy => by
                by_cases e : j = i
                · subst e; rw [hx] at hy; cases hy; exact hc64
                · exact hno j (by simp only at hj; omega) y hy⟩
        have hE0 : ¬ late rows c at_ := fun ⟨y, hy, hyc⟩ => by
          obtain ⟨j, hj, rfl⟩ := List.mem_iff_getElem.1 hy
          exact hno j (by omega) _ (List.getElem?_eq_getElem hj) hyc
        obtain rfl : i = rows.length := by omega
        have hkl := hk.1
        refine wp_exit ?_
        refine x_then (x_then (x_hit ?_))
        refine n_then (c_seq (c_seq (c_region ?_)))
        refine L_e hS (e_move rfl) rfl ?_; clear hS a; intro a hS
        refine L_e hS (e_nilCheck rfl) rfl ?_; clear hS a; intro a hS
        (first | refine L_e hS (e_fa0 rfl ty_fo120_1) rfl ?_ | refine L_e hS (e_faK rfl ty_fo120_1) rfl ?_); clear hS a; intro a hS
        refine L_e hS (e_load rfl (by repeat constructor) ty_sc118 (by rfl)) rfl ?_; clear hS a; intro a hS
        refine L_e hS (e_len rfl rfl ty_sl118) rfl ?_; clear hS a; intro a hS
        refine L_e hS (e_bin rfl rfl rfl) rfl ?_; clear hS a; intro a hS
        refine L_nil (n_then ?_)
        first | refine c_ifD hS rfl (fun hc82 => ?_) (fun hc82 => ?_) | refine c_if hS rfl (fun hc82 => ?_) (fun hc82 => ?_)
        ·
          refine c_seq (c_region ?_)
          refine L_e hS (e_assign rfl) rfl ?_; clear hS a; intro a hS
          refine L_nil (n_then (wp_ret (r_then ?_)))
          refine c_ret1 hS Tryz.results51 (.tmp rfl) ?_
          have hE : refE own rows c at_ nano = 9 := by unfold refE; rw [if_neg hc22, if_neg hc33, if_neg hE0, if_pos (by omega)]
          exact ⟨⟨(rows, _), same (by rw [hE]; decide)⟩, by (try dsimp only); rw [hE], hS.chg, hback hS, fun b hb => .inl hb⟩
        refine wp_skip (n_then (c_seq (c_region ?_)))
        refine L_op (s_bslice hS ty_sl118 ty_sz186 ty_z186 rfl rfl rfl rfl .nil rfl ?_); clear hS a; (try clear w); intro a w b83 hS
        replace hS := hS.swap (X := .blk b83 [] 186) (Y := ownA 186 3 (.slice (some ⟨b83, 0, none⟩) 0 0) 0 []) (by repeat constructor) (own_empty (hS.get (X := .blk b83 [] 186) (by repeat constructor))) (fun b hb => by simpa [ownA, Asn.F, Value.ownBlock, eq_comm] using hb) rfl
        refine L_e hS (e_move rfl) rfl ?_; clear hS a; intro a hS
        refine L_e hS (e_nilCheck rfl) rfl ?_; clear hS a; intro a hS
        (first | refine L_e hS (e_fa0 rfl ty_fo120_1) rfl ?_ | refine L_e hS (e_faK rfl ty_fo120_1) rfl ?_); clear hS a; intro a hS
        refine L_e hS (e_load rfl (by repeat constructor) ty_sc118 (by rfl)) rfl ?_; clear hS a; intro a hS
        refine L_e hS (e_move rfl) rfl ?_; clear hS a; intro a hS
        refine L_e hS (e_slH rfl rfl ty_sl118 ty_sz186 (by omega)) rfl ?_; clear hS a; intro a hS
        refine L_op (s_appendQ hS rfl rfl ty_sl118 ty_sz186 ty_by186 ty_z186 rfl rfl rfl (by repeat constructor) (by rw [flat_len encR 3 (fun _ => rfl), List.length_take, Nat.min_eq_left hkl]) (own_head (hS.get (X := ownA 186 3 (.slice q rows.length cq) rows.length (rows.flatMap encR)) (by repeat constructor)) (fun _ => rfl) hkl) (hone _) (by omega) (fun _ => (by repeat constructor)) ?_); clear hS a; (try clear w); intro v90 a w hv90 hS
        refine L_e hS (e_assign rfl) rfl ?_; clear hS a; intro a hS
        refine L_nil (n_then (c_seq (c_region ?_)))
        refine L_e hS (e_move rfl) rfl ?_; clear hS a; intro a hS
        refine L_e hS (e_move rfl) rfl ?_; clear hS a; intro a hS
        refine L_e hS (e_move rfl) rfl ?_; clear hS a; intro a hS
        refine L_e hS (e_move rfl) rfl ?_; clear hS a; intro a hS
        refine L_e hS (e_build ty_z186 ty_pl186 (.one rfl rfl rfl (by repeat constructor) (.one rfl rfl rfl (by repeat constructor) (.one rfl rfl rfl (by repeat constructor) .nil)))) rfl ?_; clear hS a; intro a hS
        refine L_op (s_bslice hS ty_sl118 ty_sz186 ty_z186 rfl rfl rfl rfl (.agg rfl rfl .nil) rfl ?_); clear hS a; (try clear w); intro a w b96 hS
        refine L_op (s_append1 hS rfl rfl ty_sl118 ty_sz186 ty_by186 ty_z186 rfl rfl rfl (by repeat constructor) (by repeat constructor) (by rfl) (by rfl) (fun _ => (by repeat constructor)) (by omega) ?_); clear hS a; (try clear w); intro v97 a w hv97 hS
        refine L_e hS (e_assign rfl) rfl ?_; clear hS a; intro a hS
        refine L_nil (n_then (c_seq (c_region ?_)))
        refine L_e hS (e_move rfl) rfl ?_; clear hS a; intro a hS
        refine L_e hS (e_move rfl) rfl ?_; clear hS a; intro a hS
        refine L_e hS (e_move rfl) rfl ?_; clear hS a; intro a hS
        refine L_e hS (e_nilCheck rfl) rfl ?_; clear hS a; intro a hS
        (first | refine L_e hS (e_fa0 rfl ty_fo120_1) rfl ?_ | refine L_e hS (e_faK rfl ty_fo120_1) rfl ?_); clear hS a; intro a hS
        refine L_e hS (e_load rfl (by repeat constructor) ty_sc118 (by rfl)) rfl ?_; clear hS a; intro a hS
        refine L_e hS (e_move rfl) rfl ?_; clear hS a; intro a hS
        refine L_e hS (e_slT rfl rfl ty_sl118 ty_sz186 (by omega)) rfl ?_; clear hS a; intro a hS
        refine L_op (s_appendQ hS rfl rfl ty_sl118 ty_sz186 ty_by186 ty_z186 rfl rfl rfl (by repeat constructor) (by rw [flat_len encR 3 (fun _ => rfl), List.length_drop]) (own_tail (hS.get (X := ownA 186 3 (.slice q rows.length cq) rows.length (rows.flatMap encR)) (by repeat constructor)) (fun _ => rfl) rfl hkl) (hone _) (by omega) (fun _ => (by repeat constructor)) ?_); clear hS a; (try clear w); intro v106 a w hv106 hS
        obtain ⟨q2, c2, rfl⟩ := own_slice (hS.get (X := ownA 186 3 v106 (0 + k + 1 + (rows.length - k)) _) (by repeat constructor))
        refine L_e hS (e_nilCheck rfl) rfl ?_; clear hS a; intro a hS
        (first | refine L_e hS (e_fa0 rfl ty_fo120_1) rfl ?_ | refine L_e hS (e_faK rfl ty_fo120_1) rfl ?_); clear hS a; intro a hS
        refine L_op (s_store hS rfl rfl rfl ty_sz118 (by repeat constructor) (by repeat constructor) ?_); clear hS; (try clear w); intro w hS
        refine L_nil (n_then (c_seq (c_region ?_)))
        refine L_e hS (e_assign rfl) rfl ?_; clear hS a; intro a hS
        refine L_nil (n_then (wp_ret ?_))
        refine c_ret1 hS Tryz.results51 (.tmp rfl) ?_
        have hE : refE own rows c at_ nano = 0 := by unfold refE; rw [if_neg hc22, if_neg hc33, if_neg hE0, if_neg (by omega)]
        have hrow := hS.get (X := ownA 186 3 (.slice q2 (0 + k + 1 + (rows.length - k)) c2) (0 + k + 1 + (rows.length - k)) _) (by repeat constructor)
        have hmine := hS.mine (ownA 186 3 (.slice q2 (0 + k + 1 + (rows.length - k)) c2) (0 + k + 1 + (rows.length - k)) _) (by repeat constructor) rfl
        have e1 : (rows.take k ++ (c, at_, nano) :: rows.drop k).length = 0 + k + 1 + (rows.length - k) := by simp; omega
        refine ⟨⟨(rows.take k ++ (c, at_, nano) :: rows.drop k, .slice q2 (0 + k + 1 + (rows.length - k)) c2), .inr ⟨hE, k, hk, rfl⟩⟩, by (try dsimp only); rw [hE], hS.chg, ref_ok true ⟨hS.get (X := .blk bw [.string own, .slice q2 (0 + k + 1 + (rows.length - k)) c2] 120) (by repeat constructor), ?_⟩, ?_⟩
        · have h2 : w.ownsRow 0 186 3 (.slice q2 (0 + k + 1 + (rows.length - k)) c2) (0 + k + 1 + (rows.length - k)) _ := hrow
          rw [e1]
          simpa [encR] using h2
        · rintro b (hb | hb)
          · exact .inl (.inl hb)
          · rcases hmine b hb with h | h
            · exact .inr h
            · exact .inl h
end Go.Proofs.YtheofhegdjjfgaaGreat

namespace Go.Proofs.YtheofhegdjjfgaaGreat
open Go.RowKit
def rrFits (x : RR) : Prop := x.1.size ≤ 4611686018427387904 ∧ (-9223372036854775808 ≤ x.2.1 ∧ x.2.1 ≤ 9223372036854775807) ∧ (-9223372036854775808 ≤ x.2.2 ∧ x.2.2 ≤ 9223372036854775807)
def fewS (l : List RR) : Prop := l.length ≤ 60 ∧ ∀ x ∈ l, x.1.size ≤ 300
instance (l : List RR) : Decidable (fewS l) := by unfold fewS; infer_instance
set_option maxRecDepth 100000 in
theorem fxfew_P (p : Option (Nat × Nat)) (c : Nat) (l : List RR) (hlen : l.length ≤ 4611686018427387904) (hfit : ∀ x ∈ l, rrFits x) (w0 : World) (h : RowP p 3 (l.map encR) w0) (hb : ∀ q, p = some q → q.1 < w0.heap.size) :
    PureC Tryz.prog 14 [sliceV p l.length c] w0 (.bool (decide (fewS l))) := by
  refine c_enter [(0, sliceV p l.length c)] [rowP p 3 (l.map encR)] noB Tryz.func14 rfl Tryz.ntmps14 ⟨rfl, trivial⟩ rfl (okC (ok_rowP h hb) okN) dis1 (mineC (by rfl) mineN) ?_
  intro a hS
  refine c_seq (c_region ?_)
  refine L_e hS (e_assign rfl) rfl ?_; clear hS a; intro a hS
  refine L_nil (n_then (c_seq (c_seq (c_region ?_))))
  refine L_e hS (e_assign rfl) rfl ?_; clear hS a; intro a hS
  refine L_nil (n_then (wp_block ?_))
  skip
  refine c_loop (γ := Nat) (fun k a w => St 24 noB w0 a w [(3, .int .i64 (k : Int)), (0, sliceV p l.length c)] [rowP p 3 (l.map encR)] ∧ k ≤ l.length ∧ ∀ j, j < k → ∀ y, l[j]? = some y → y.1.size ≤ 300) (fun k => l.length - k) 0 ⟨hS.slots (by repeat (first | exact trivial | refine ⟨rfl, ?_⟩)), Nat.zero_le _, fun j hj => by omega⟩ ?_
  clear hS a; (try clear w); intro k a w hI
  obtain ⟨hS, hk, hno⟩ := hI
  refine c_seq (c_seq (c_region ?_))
  refine L_e hS (e_move rfl) rfl ?_; clear hS a; intro a hS
  refine L_e hS (e_move rfl) rfl ?_; clear hS a; intro a hS
  refine L_e hS (e_len rfl rfl ty_sl41) rfl ?_; clear hS a; intro a hS
  refine L_e hS (e_bin rfl rfl rfl) rfl ?_; clear hS a; intro a hS
  refine L_e hS (e_move rfl) rfl ?_; clear hS a; intro a hS
  refine L_merge 3 11 (.bool (decide (k < l.length ∧ k ≤ 60))) hS ?_ ?_
  · intro hcM11
    (first | refine g_splitD (t := 8) hS rfl ?_ ?_ | refine g_split (t := 8) hS rfl ?_ ?_) <;> (clear hS; intro hg8 hS)
    ·
      refine L_ge hS rfl rfl (e_move rfl) rfl ?_; clear hS a; intro a hS
      refine L_ge hS rfl rfl (e_bin rfl rfl rfl) rfl ?_; clear hS a; intro a hS
      refine L_e hS (e_pk rfl rfl) rfl ?_; clear hS a; intro a hS
      exact hcM11 _ _ (hS.ends 4 11 8 rfl (congrArg Value.bool (by rw [decide_eq_decide]; omega)) rfl rfl (by first | exact congrArg Value.bool (decide_eq_true hg8).symm | exact congrArg Value.bool hg8.symm | simp [hg8]) rfl)
    refine L_skip_t hS rfl rfl rfl ?_; clear hS a; intro a hS
    refine L_skip_t hS rfl rfl rfl ?_; clear hS a; intro a hS
    refine L_e hS (e_pk rfl rfl) rfl ?_; clear hS a; intro a hS
    exact hcM11 _ _ (hS.ends 4 11 8 rfl (congrArg Value.bool (by symm; rw [decide_eq_false_iff_not]; omega)) rfl rfl (by first | exact congrArg Value.bool (decide_eq_false hg8).symm | exact congrArg Value.bool hg8.symm | simp [hg8]) rfl)
  · clear hS a; (try clear w); intro a w hS
    simp only [List.drop_succ_cons, List.drop_zero]
    refine L_nil (n_then ?_)
    first | refine c_ifD hS rfl (fun hc11 => ?_) (fun hc11 => ?_) | refine c_if hS rfl (fun hc11 => ?_) (fun hc11 => ?_)
    ·
      obtain ⟨x, hx⟩ : ∃ x, l[k]? = some x := ⟨l[k]'hc11.1, List.getElem?_eq_getElem hc11.1⟩
      have hx' : (l.map encR)[k]? = some (encR x) := by simp [hx]
      obtain ⟨b, off, rfl⟩ := rowP_some h hx'
      have hxf := hfit x (List.mem_of_getElem? hx)
      have hxs := hxf.1
      refine wp_skip (n_then (c_seq (wp_block (c_seq (c_region ?_)))))
      refine L_e hS (e_move rfl) rfl ?_; clear hS a; intro a hS
      refine L_e hS (e_move rfl) rfl ?_; clear hS a; intro a hS
      refine L_e hS (e_ixN rfl rfl ty_sl41 ty_sz117 (by omega)) rfl ?_; clear hS a; intro a hS
      (first | refine L_e hS (e_fa0 rfl ty_fo117_0) rfl ?_ | refine L_e hS (e_faK rfl ty_fo117_0) rfl ?_); clear hS a; intro a hS
      refine L_e hS (e_loadC rfl ty_sc9 (fun w hh => rowP_get (by repeat constructor) hx' w hh 0 (.string x.1) rfl)) rfl ?_; clear hS a; intro a hS
      refine L_e hS (e_lenS rfl rfl ty_u9) rfl ?_; clear hS a; intro a hS
      refine L_e hS (e_bin rfl rfl rfl) rfl ?_; clear hS a; intro a hS
      refine L_nil (n_then ?_)
      first | refine c_ifD hS rfl (fun hc20 => ?_) (fun hc20 => ?_) | refine c_if hS rfl (fun hc20 => ?_) (fun hc20 => ?_)
      ·
        refine c_seq (c_region ?_)
        refine L_e hS (e_assign rfl) rfl ?_; clear hS a; intro a hS
        refine L_nil (n_then (wp_ret ?_))
        refine r_block (r_then (r_then (r_block (r_then ?_))))
        refine c_ret1 hS Tryz.results14 (.tmp rfl) ?_
        have hn : ¬ fewS l := fun hf => by have := hf.2 x (List.mem_of_getElem? hx); omega
        exact ⟨by rw [decide_eq_false hn], hS.chg⟩
      refine wp_skip (n_block (n_then (c_region ?_)))
      refine L_e hS (e_move rfl) rfl ?_; clear hS a; intro a hS
      (first | refine L_e hS (e_binN rfl rfl rfl (by omega)) rfl ?_ | refine L_e hS (e_bin rfl rfl rfl) rfl ?_); clear hS a; intro a hS
      refine L_e hS (e_assign rfl) rfl ?_; clear hS a; intro a hS
      refine L_nil ?_
      exact ⟨k + 1, by omega, hS.slots (by repeat (first | exact trivial | refine ⟨rfl, ?_⟩)), by omega, fun j hj y hy => by
      by_cases e : j = k
      · subst e; rw [hx] at hy; cases hy; omega
      · exact hno j (by omega) y hy⟩
    refine wp_exit ?_
    refine x_then (x_then (x_hit ?_))
    refine n_then (c_seq (c_region ?_))
    refine L_e hS (e_move rfl) rfl ?_; clear hS a; intro a hS
    refine L_e hS (e_len rfl rfl ty_sl41) rfl ?_; clear hS a; intro a hS
    refine L_e hS (e_bin rfl rfl rfl) rfl ?_; clear hS a; intro a hS
    refine L_e hS (e_assign rfl) rfl ?_; clear hS a; intro a hS
    refine L_nil (n_then (wp_ret ?_))
    refine c_ret1 hS Tryz.results14 (.tmp rfl) ?_
    refine ⟨?_, hS.chg⟩
    have : (l.length : Int) ≤ 60 ↔ fewS l := ⟨fun h => ⟨by omega, fun x hx => by
      obtain ⟨j, hj, rfl⟩ := List.mem_iff_getElem.1 hx
      exact hno j (by omega) _ (List.getElem?_eq_getElem hj)⟩, fun h => by have := h.1; omega⟩
    rw [decide_eq_decide.2 this]
def usd : ByteArray := ⟨#[85, 83, 68]⟩
theorem usd_scale : (scaleR usd).2 = 0 := by decide +kernel
def stepS (own : ByteArray) (st : List (ByteArray × List (Int × Int)) × Int) (x : RR) : List (ByteArray × List (Int × Int)) × Int := setR own st.1 st.2 x.1 x.2.1 x.2.2
def madeF (own : ByteArray) (l : List RR) : List (ByteArray × List (Int × Int)) × Int := l.foldl (stepS own) ([], 0)
inductive RefsOf (own : ByteArray) : List RR → List RR → Prop
  | nil : RefsOf own [] []
  | snoc {l rows rows' : List RR} {x : RR} (h : RefsOf own l rows) (hs : refStep own rows x.1 x.2.1 x.2.2 rows') : RefsOf own (l ++ [x]) rows'
theorem step_len {own c : ByteArray} {rows rows' : List RR} {at_ nano : Int} (h : refStep own rows c at_ nano rows') (hl : rows.length ≤ 500) : rows'.length ≤ 500 := by
  rcases h with ⟨_, rfl⟩ | ⟨hE, k, hk, rfl⟩
  · exact hl
  · have h5 : ¬ 500 ≤ rows.length := fun h5 => by
      unfold refE at hE
      split at hE
      · cases hE
      · split at hE
        · cases hE
        · split at hE
          · cases hE
          · cases hE
    have := hk.1
    simp; omega
structure Both where
  bk : Nat
  mb : Nat
  bw : Nat
  es : List RA
  n : Int
  rows : List RR
  v : Value
def bothA (y : Both) : Asn := .any (fun k => ratesF y.bk y.mb y.es k ∨ refF y.bw y.v k) (fun w => ratesφ y.bk y.mb usd y.es y.n w ∧ refφ y.bw usd y.rows y.v w) true
theorem both_ok {y : Both} {w : World} (h1 : (ratesA y.bk y.mb usd y.es y.n true).ok w) (h2 : (refA y.bw usd y.rows y.v true).ok w) : (bothA y).ok w :=
  ⟨fun b hb => hb.elim (h1.lt b) (h2.lt b), fun w' hw => ⟨h1.hold w' (fun b hb => hw b (.inl hb)), h2.hold w' (fun b hb => hw b (.inr hb))⟩⟩
set_option maxRecDepth 100000 in
theorem fxmade_P (p : Option (Nat × Nat)) (c : Nat) (l : List RR) (hlen : l.length ≤ 4611686018427387904) (hfit : ∀ x ∈ l, rrFits x) (w0 : World) (h : RowP p 3 (l.map encR) w0) (hb : ∀ q, p = some q → q.1 < w0.heap.size) :
    NewC Tryz.prog 16 [sliceV p l.length c] w0 (fun y : { y : Both // (vsT y.es, y.n) = madeF usd l ∧ RefsOf usd l y.rows } => .tuple [.pointer (some ⟨y.1.bk, 0, none⟩), .pointer (some ⟨y.1.bw, 0, none⟩)].toArray) (fun y => bothA y.1) := by
  refine c_enter [(0, sliceV p l.length c)] [rowP p 3 (l.map encR)] noB Tryz.func16 rfl Tryz.ntmps16 ⟨rfl, trivial⟩ rfl (okC (ok_rowP h hb) okN) dis1 (mineC (by rfl) mineN) ?_
  intro a hS
  refine c_seq (c_region ?_)
  refine L_e hS (e_assign rfl) rfl ?_; clear hS a; intro a hS
  refine L_e hS (e_assign rfl) rfl ?_; clear hS a; intro a hS
  refine L_nil (n_then (c_seq (c_region ?_)))
  refine L_op (s_callN hS (.cons rfl .nil) cf47 rfl (fxNew_P usd _ usd_scale) ?_); clear hS a; (try clear w); intro x9 a w hS
  refine L_e hS (e_move rfl) rfl ?_; clear hS a; intro a hS
  refine L_e hS (e_extract rfl rfl) rfl ?_; clear hS a; intro a hS
  refine L_e hS (e_extract rfl rfl) rfl ?_; clear hS a; intro a hS
  refine L_e hS (e_assign rfl) rfl ?_; clear hS a; intro a hS
  refine L_e hS (e_assign rfl) rfl ?_; clear hS a; intro a hS
  refine L_nil (n_then (c_seq (c_region ?_)))
  refine L_e hS (e_build ty_z120 ty_pl120 (.one rfl rfl rfl (by repeat constructor) .nil)) rfl ?_; clear hS a; intro a hS
  refine L_op (s_boxA hS rfl rfl ?_); clear hS a; (try clear w); intro a w b13 hS
  refine L_e hS (e_assign rfl) rfl ?_; clear hS a; intro a hS
  refine L_nil (n_then (c_seq (c_seq (c_region ?_))))
  replace hS := hS.swap (X := .blk b13 [.string usd, .slice none 0 0] 120) (Y := refA b13 usd [] (.slice none 0 0) true) (by repeat constructor) (ref_ok true ⟨hS.get (X := .blk b13 [.string usd, .slice none 0 0] 120) (by repeat constructor), World.ownsRow_nil _ _ _ _⟩) (fun b hb => by rcases hb with hb | hb; exact hb; cases hb) rfl
  refine L_e hS (e_assign rfl) rfl ?_; clear hS a; intro a hS
  refine L_nil (n_then (wp_block ?_))
  skip
  refine c_loop (γ := Nat × (List RA × Int) × (List RR × Value)) (fun s a w => St 60 noB w0 a w [(7, .int .i64 (s.1 : Int)), (0, sliceV p l.length c), (4, .pointer (some ⟨x9.1, 0, none⟩)), (6, .pointer (some ⟨b13, 0, none⟩))] [rowP p 3 (l.map encR), ratesA x9.1 x9.2 usd s.2.1.1 s.2.1.2 true, refA b13 usd s.2.2.1 s.2.2.2 true] ∧ s.1 ≤ l.length ∧ (vsT s.2.1.1, s.2.1.2) = madeF usd (l.take s.1) ∧ RefsOf usd (l.take s.1) s.2.2.1 ∧ s.2.2.1.length ≤ 500) (fun s => l.length - s.1) (0, ([], 0), ([], .slice none 0 0)) ⟨(hS.slots (by repeat (first | exact trivial | refine ⟨rfl, ?_⟩))).pick (by repeat (first | exact Pick.nil | (refine Pick.cons (by repeat (first | exact Rem.head | apply Rem.tail)) ?_))), Nat.zero_le _, rfl, RefsOf.nil, Nat.zero_le _⟩ ?_
  clear hS a; (try clear w); intro s a w hI
  obtain ⟨hS, hk, hm, hr, hrl⟩ := hI
  obtain ⟨k, ⟨es, n⟩, rows, v⟩ := s
  simp only at hS hk hm hr hrl ⊢
  refine c_seq (c_seq (c_region ?_))
  refine L_e hS (e_move rfl) rfl ?_; clear hS a; intro a hS
  refine L_e hS (e_move rfl) rfl ?_; clear hS a; intro a hS
  refine L_e hS (e_len rfl rfl ty_sl41) rfl ?_; clear hS a; intro a hS
  refine L_e hS (e_bin rfl rfl rfl) rfl ?_; clear hS a; intro a hS
  refine L_e hS (e_move rfl) rfl ?_; clear hS a; intro a hS
  refine L_merge 3 21 (.bool (decide (k < l.length))) hS ?_ ?_
  · intro hcM21
    (first | refine g_splitD (t := 18) hS rfl ?_ ?_ | refine g_split (t := 18) hS rfl ?_ ?_) <;> (clear hS; intro hg18 hS)
    ·
      refine L_ge hS rfl rfl (e_move rfl) rfl ?_; clear hS a; intro a hS
      refine L_ge hS rfl rfl (e_nnil rfl ty_u44) rfl ?_; clear hS a; intro a hS
      refine L_e hS (e_pk rfl rfl) rfl ?_; clear hS a; intro a hS
      exact hcM21 _ _ (hS.ends 4 21 18 rfl (congrArg Value.bool (by rw [decide_eq_true (by omega)]; simp)) rfl rfl (by first | exact congrArg Value.bool (decide_eq_true hg18).symm | exact congrArg Value.bool hg18.symm | simp [hg18]) rfl)
    refine L_skip_t hS rfl rfl rfl ?_; clear hS a; intro a hS
    refine L_skip_t hS rfl rfl rfl ?_; clear hS a; intro a hS
    refine L_e hS (e_pk rfl rfl) rfl ?_; clear hS a; intro a hS
    exact hcM21 _ _ (hS.ends 4 21 18 rfl (congrArg Value.bool (by symm; rw [decide_eq_false_iff_not]; omega)) rfl rfl (by first | exact congrArg Value.bool (decide_eq_false hg18).symm | exact congrArg Value.bool hg18.symm | simp [hg18]) rfl)
  · clear hS a; (try clear w); intro a w hS
    simp only [List.drop_succ_cons, List.drop_zero]
    refine L_nil (n_then ?_)
    first | refine c_ifD hS rfl (fun hc21 => ?_) (fun hc21 => ?_) | refine c_if hS rfl (fun hc21 => ?_) (fun hc21 => ?_)
    ·
      obtain ⟨x, hx⟩ : ∃ x, l[k]? = some x := ⟨l[k]'hc21, List.getElem?_eq_getElem hc21⟩
      have hx' : (l.map encR)[k]? = some (encR x) := by simp [hx]
      obtain ⟨b, off, rfl⟩ := rowP_some h hx'
      have hxf := hfit x (List.mem_of_getElem? hx)
      refine wp_skip (n_then (c_seq (wp_block (c_seq ?_))))
      refine c_drawS [] (by kernel_rfl) hS (sub_cons (X := rowP (some (b, off)) 3 (l.map encR)) (by repeat constructor) sub_nil) ?_; clear hS; (try clear w); intro w hS
      simp only [List.length_cons, List.length_nil, Nat.zero_add, Nat.reduceAdd, List.replicate]
      refine Zt0 0 (tf 1 16) hS rfl want_none (e_move rfl) rfl (by kernel_rfl) rfl ?_; clear hS a; intro a hS
      refine Zt0 1 (tf 2 15) hS rfl want_none (e_move rfl) rfl (by kernel_rfl) rfl ?_; clear hS a; intro a hS
      refine Zt0 2 (tf 3 14) hS rfl want_none (e_move rfl) rfl (by kernel_rfl) rfl ?_; clear hS a; intro a hS
      refine Zt0 3 (tf 4 13) hS rfl want_none (e_ixN rfl rfl ty_sl41 ty_sz117 (by omega)) rfl (by kernel_rfl) rfl ?_; clear hS a; intro a hS
      (first | refine Zt0 4 (tf 5 12) hS rfl want_none (e_fa0 rfl ty_fo117_0) rfl (by kernel_rfl) rfl ?_ | refine Zt0 4 (tf 5 12) hS rfl want_none (e_faK rfl ty_fo117_0) rfl (by kernel_rfl) rfl ?_); clear hS a; intro a hS
      refine Zt 5 (tf 6 11) hS rfl want_none (e_loadC rfl ty_sc9 (fun w hh => rowP_get (by repeat constructor) hx' w hh 0 (.string x.1) rfl)) rfl (by kernel_rfl) (sub_cons (by repeat constructor) sub_nil) rfl ?_; clear hS a; intro a hS
      refine Zt0 6 (tf 7 10) hS rfl want_none (e_move rfl) rfl (by kernel_rfl) rfl ?_; clear hS a; intro a hS
      refine Zt0 7 (tf 8 9) hS rfl want_none (e_move rfl) rfl (by kernel_rfl) rfl ?_; clear hS a; intro a hS
      refine Zt0 8 (tf 9 8) hS rfl want_none (e_ixN rfl rfl ty_sl41 ty_sz117 (by omega)) rfl (by kernel_rfl) rfl ?_; clear hS a; intro a hS
      (first | refine Zt0 9 (tf 10 7) hS rfl want_none (e_fa0 rfl ty_fo117_1) rfl (by kernel_rfl) rfl ?_ | refine Zt0 9 (tf 10 7) hS rfl want_none (e_faK rfl ty_fo117_1) rfl (by kernel_rfl) rfl ?_); clear hS a; intro a hS
      refine Zt 10 (tf 11 6) hS rfl want_none (e_loadC rfl ty_sc3 (fun w hh => rowP_get (by repeat constructor) hx' w hh 1 (.int .i64 x.2.1) rfl)) rfl (by kernel_rfl) (sub_cons (by repeat constructor) sub_nil) rfl ?_; clear hS a; intro a hS
      refine Zt0 11 (tf 12 5) hS rfl want_none (e_move rfl) rfl (by kernel_rfl) rfl ?_; clear hS a; intro a hS
      refine Zt0 12 (tf 13 4) hS rfl want_none (e_move rfl) rfl (by kernel_rfl) rfl ?_; clear hS a; intro a hS
      refine Zt0 13 (tf 14 3) hS rfl want_none (e_ixN rfl rfl ty_sl41 ty_sz117 (by omega)) rfl (by kernel_rfl) rfl ?_; clear hS a; intro a hS
      (first | refine Zt0 14 (tf 15 2) hS rfl want_none (e_fa0 rfl ty_fo117_2) rfl (by kernel_rfl) rfl ?_ | refine Zt0 14 (tf 15 2) hS rfl want_none (e_faK rfl ty_fo117_2) rfl (by kernel_rfl) rfl ?_); clear hS a; intro a hS
      refine Zt 15 (tf 16 1) hS rfl want_none (e_loadC rfl ty_sc3 (fun w hh => rowP_get (by repeat constructor) hx' w hh 2 (.int .i64 x.2.2) rfl)) rfl (by kernel_rfl) (sub_cons (by repeat constructor) sub_nil) rfl ?_; clear hS a; intro a hS
      refine Z_one (i := 16) rfl (want_none a hS.sl) (listed' := (tf 17 0)) rfl (by kernel_rfl) (s_callM hS (.cons rfl (.cons rfl (.cons rfl (.cons rfl .nil)))) cf48 rfl (fxSet_P x9.1 x9.2 usd x.1 es n x.2.1 x.2.2 hxf.2.1 _ (hS.get (X := ratesA x9.1 x9.2 usd es n true) (by repeat constructor))) (fun x => (by repeat constructor)) rfl ?_); clear hS a; (try clear w); intro x40 a w hS
      refine Z_and hS (sub_cons (by repeat constructor) sub_nil) ?_
      refine Z_done (by kernel_rfl) ?_
      refine n_then ?_
      refine c_drawS [] (by kernel_rfl) hS (sub_cons (X := rowP (some (b, off)) 3 (l.map encR)) (by repeat constructor) sub_nil) ?_; clear hS; (try clear w); intro w hS
      simp only [List.length_cons, List.length_nil, Nat.zero_add, Nat.reduceAdd, List.replicate]
      refine Zt0 0 (tf 1 16) hS rfl want_none (e_move rfl) rfl (by kernel_rfl) rfl ?_; clear hS a; intro a hS
      refine Zt0 1 (tf 2 15) hS rfl want_none (e_move rfl) rfl (by kernel_rfl) rfl ?_; clear hS a; intro a hS
      refine Zt0 2 (tf 3 14) hS rfl want_none (e_move rfl) rfl (by kernel_rfl) rfl ?_; clear hS a; intro a hS
      refine Zt0 3 (tf 4 13) hS rfl want_none (e_ixN rfl rfl ty_sl41 ty_sz117 (by omega)) rfl (by kernel_rfl) rfl ?_; clear hS a; intro a hS
      (first | refine Zt0 4 (tf 5 12) hS rfl want_none (e_fa0 rfl ty_fo117_0) rfl (by kernel_rfl) rfl ?_ | refine Zt0 4 (tf 5 12) hS rfl want_none (e_faK rfl ty_fo117_0) rfl (by kernel_rfl) rfl ?_); clear hS a; intro a hS
      refine Zt 5 (tf 6 11) hS rfl want_none (e_loadC rfl ty_sc9 (fun w hh => rowP_get (by repeat constructor) hx' w hh 0 (.string x.1) rfl)) rfl (by kernel_rfl) (sub_cons (by repeat constructor) sub_nil) rfl ?_; clear hS a; intro a hS
      refine Zt0 6 (tf 7 10) hS rfl want_none (e_move rfl) rfl (by kernel_rfl) rfl ?_; clear hS a; intro a hS
      refine Zt0 7 (tf 8 9) hS rfl want_none (e_move rfl) rfl (by kernel_rfl) rfl ?_; clear hS a; intro a hS
      refine Zt0 8 (tf 9 8) hS rfl want_none (e_ixN rfl rfl ty_sl41 ty_sz117 (by omega)) rfl (by kernel_rfl) rfl ?_; clear hS a; intro a hS
      (first | refine Zt0 9 (tf 10 7) hS rfl want_none (e_fa0 rfl ty_fo117_1) rfl (by kernel_rfl) rfl ?_ | refine Zt0 9 (tf 10 7) hS rfl want_none (e_faK rfl ty_fo117_1) rfl (by kernel_rfl) rfl ?_); clear hS a; intro a hS
      refine Zt 10 (tf 11 6) hS rfl want_none (e_loadC rfl ty_sc3 (fun w hh => rowP_get (by repeat constructor) hx' w hh 1 (.int .i64 x.2.1) rfl)) rfl (by kernel_rfl) (sub_cons (by repeat constructor) sub_nil) rfl ?_; clear hS a; intro a hS
      refine Zt0 11 (tf 12 5) hS rfl want_none (e_move rfl) rfl (by kernel_rfl) rfl ?_; clear hS a; intro a hS
      refine Zt0 12 (tf 13 4) hS rfl want_none (e_move rfl) rfl (by kernel_rfl) rfl ?_; clear hS a; intro a hS
      refine Zt0 13 (tf 14 3) hS rfl want_none (e_ixN rfl rfl ty_sl41 ty_sz117 (by omega)) rfl (by kernel_rfl) rfl ?_; clear hS a; intro a hS
      (first | refine Zt0 14 (tf 15 2) hS rfl want_none (e_fa0 rfl ty_fo117_2) rfl (by kernel_rfl) rfl ?_ | refine Zt0 14 (tf 15 2) hS rfl want_none (e_faK rfl ty_fo117_2) rfl (by kernel_rfl) rfl ?_); clear hS a; intro a hS
      refine Zt 15 (tf 16 1) hS rfl want_none (e_loadC rfl ty_sc3 (fun w hh => rowP_get (by repeat constructor) hx' w hh 2 (.int .i64 x.2.2) rfl)) rfl (by kernel_rfl) (sub_cons (by repeat constructor) sub_nil) rfl ?_; clear hS a; intro a hS
      refine Z_one (i := 16) rfl (want_none a hS.sl) (listed' := (tf 17 0)) rfl (by kernel_rfl) (s_callM hS (.cons rfl (.cons rfl (.cons rfl (.cons rfl .nil)))) cf51 rfl (rSet_P b13 usd x.1 rows v x.2.1 x.2.2 hrl _ (hS.get (X := refA b13 usd rows v true) (by repeat constructor))) (fun x => (by repeat constructor)) rfl ?_); clear hS a; (try clear w); intro x57 a w hS
      refine Z_and hS (sub_cons (by repeat constructor) sub_nil) ?_
      refine Z_done (by kernel_rfl) ?_
      refine n_block (n_then (c_region ?_))
      refine L_e hS (e_move rfl) rfl ?_; clear hS a; intro a hS
      (first | refine L_e hS (e_binN rfl rfl rfl (by omega)) rfl ?_ | refine L_e hS (e_bin rfl rfl rfl) rfl ?_); clear hS a; intro a hS
      refine L_e hS (e_assign rfl) rfl ?_; clear hS a; intro a hS
      refine L_nil ?_
      have ht : l.take (k + 1) = l.take k ++ [x] := by rw [List.take_add_one, hx]; rfl
      refine ⟨(k + 1, x40.1, x57.1), by simp only; omega, hS.slots (by repeat (first | exact trivial | refine ⟨rfl, ?_⟩)), by simp only; omega, ?_, ?_, step_len x57.2 hrl⟩
      · refine x40.2.trans ?_
        unfold madeF; simp only; rw [ht, List.foldl_append]
        show _ = stepS usd (madeF usd (l.take k)) x
        rw [← hm]; rfl
      · simp only; rw [ht]; exact RefsOf.snoc hr x57.2
    refine wp_exit ?_
    refine x_then (x_then (x_hit ?_))
    refine n_then (c_seq (c_region ?_))
    refine L_e hS (e_move rfl) rfl ?_; clear hS a; intro a hS
    refine L_e hS (e_move rfl) rfl ?_; clear hS a; intro a hS
    refine L_e hS (e_assign rfl) rfl ?_; clear hS a; intro a hS
    refine L_e hS (e_assign rfl) rfl ?_; clear hS a; intro a hS
    refine L_nil (n_then (wp_ret ?_))
    refine c_retN hS Tryz.results16 (.cons (.tmp rfl) (.cons (.tmp rfl) .nil)) rfl ?_
    obtain rfl : k = l.length := by omega
    rw [List.take_length] at hm hr
    refine ⟨⟨⟨x9.1, x9.2, b13, es, n, rows, v⟩, hm, hr⟩, rfl, hS.chg, both_ok (y := ⟨x9.1, x9.2, b13, es, n, rows, v⟩) (hS.ok (ratesA x9.1 x9.2 usd es n true) (by repeat constructor)) (hS.ok (refA b13 usd rows v true) (by repeat constructor)), fun b hb => ?_⟩
    rcases hb with hb | hb
    · exact (hS.mine (ratesA x9.1 x9.2 usd es n true) (by repeat constructor) rfl b hb).resolve_right (fun h => h)
    · exact (hS.mine (refA b13 usd rows v true) (by repeat constructor) rfl b hb).resolve_right (fun h => h)
end Go.Proofs.YtheofhegdjjfgaaGreat
