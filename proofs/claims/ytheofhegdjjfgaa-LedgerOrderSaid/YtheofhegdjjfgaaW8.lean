/- Walks: the quotient of two words by one. -/
import Derived.Test.YtheofhegdjjfgaaW7
import Derived.Test.YtheofhegdjjfgaaWdE
namespace Go.Proofs.Ytheofhegdjjfgaa
open Go.RowKit

theorem lz_w (y : Int) (h0 : 0 < y) (h1 : y < 18446744073709551616) (w : World) :
    Calls Try.prog 121 #[.int .u64 y] w fun e w' => e = .returned (.int .i64 (Wd.lz y : Int)) ∧ w = w' := by
  have hb := (Wd.lz_of y h0 h1).1
  refine (Try.bits_LeadingZeros64 y w (by omega) (by omega)).mono fun e w' ⟨he, hw⟩ => ⟨?_, hw.symm⟩
  rw [he]; unfold Wd.lz
  rw [show ((64 - Lib.bitLen y.toNat : Nat) : Int) = 64 - (Lib.bitLen y.toNat : Int) from by omega]

theorem Wd.words_y (y : Int) (h0 : 0 < y) (h1 : y < 18446744073709551616) : IntKind.u64.wrap (y * 2 ^ Wd.lz y) = Wd.dY y ∧ bits BinOp.and IntKind.u64 (Wd.dY y) 4294967295 = Wd.d0 y := by
  have h := Wd.dY_bd y h0 h1
  refine ⟨?_, Wd.and_mask _ (by omega) h.2⟩
  rw [IntKind.wrap_u64]; show Wd.dY y % _ = _; omega
theorem Wd.words_l (l y : Int) : IntKind.u64.wrap (l * 2 ^ Wd.lz y) = Wd.dL l y ∧ bits BinOp.and IntKind.u64 (Wd.dL l y) 4294967295 = Wd.e0 l y :=
  ⟨by rw [IntKind.wrap_u64]; rfl, Wd.and_mask _ (Wd.dL_bd l y).1 (Wd.dL_bd l y).2⟩
theorem Wd.words_h (x l y : Int) (hx : 0 ≤ x) (hxy : x < y) (hl : 0 ≤ l) (hl1 : l < 18446744073709551616) (h1 : y < 18446744073709551616) :
    bits BinOp.or IntKind.u64 (IntKind.u64.wrap (x * 2 ^ Wd.lz y)) (l / 2 ^ (64 - Wd.lz y)) = Wd.dH x l y := by
  have h := Wd.dY_bd y (by omega) h1
  have hp := Wd.pow_pos (Wd.lz y)
  have hz := (Wd.lz_of y (by omega) h1).2.1
  have hlt : x * 2 ^ Wd.lz y < Wd.dY y := Int.mul_lt_mul_of_pos_right hxy hp
  have h0 : 0 ≤ x * 2 ^ Wd.lz y := Int.mul_nonneg hx (by omega)
  have e : IntKind.u64.wrap (x * 2 ^ Wd.lz y) = x * 2 ^ Wd.lz y := by rw [IntKind.wrap_u64]; omega
  rw [e]
  refine Wd.or_shift x _ _ hx (Int.ediv_nonneg hl (Int.le_of_lt (Wd.pow_pos _))) ?_ (by omega) hz
  refine (Int.ediv_lt_iff_lt_mul (Wd.pow_pos _)).2 ?_
  rw [Int.mul_comm, Wd.pow_split _ (by omega)]; exact hl1

theorem Wd.rest_wrap {y1 y0 u u1 : Int} (d : Wd.KD y1 y0 u u1) (y : Int) (h : y1 * 4294967296 + y0 = Wd.dY y) :
    IntKind.u64.wrap (IntKind.u64.wrap (IntKind.u64.wrap (u * 4294967296) + u1) - IntKind.u64.wrap (Wd.Kq y1 y0 u u1 * Wd.dY y)) = Wd.Kr y1 y0 u u1 := by
  have e := Wd.Kr_wrap d
  rw [h] at e
  generalize Wd.Kq y1 y0 u u1 * Wd.dY y = p at *
  rw [IntKind.wrap_u64, IntKind.wrap_u64, IntKind.wrap_u64, IntKind.wrap_u64]
  omega
theorem Wd.prod_bd {q y0 : Int} (h0 : 0 ≤ q) (h1 : q < 4294967296) (h2 : 0 ≤ y0) (h3 : y0 < 4294967296) : 0 ≤ q * y0 ∧ q * y0 ≤ 18446744065119617025 :=
  ⟨Int.mul_nonneg h0 h2, by have := Int.mul_le_mul (a := q) (b := y0) (c := 4294967295) (d := 4294967295) (by omega) (by omega) h2 (by omega); omega⟩

set_option maxHeartbeats 4000000 in
theorem Div64_k (x l y : Int) (hx : 0 < x) (hxy : x < y) (hl : 0 ≤ l) (hl1 : l < 18446744073709551616) (hy1 : y < 18446744073709551616) (w : World) :
    Calls Try.prog 111 #[.int .u64 x, .int .u64 l, .int .u64 y] w fun e w' => e = .returned (.tuple #[.int .u64 (Wd.Kq (Wd.d1 y) (Wd.d0 y) (Wd.dH x l y) (Wd.e1 l y) * 4294967296 + Wd.Kq (Wd.d1 y) (Wd.d0 y) (Wd.dR x l y) (Wd.e0 l y)), .int .u64 (Wd.Kr (Wd.d1 y) (Wd.d0 y) (Wd.dR x l y) (Wd.e0 l y) / 2 ^ Wd.lz y)]) ∧ w = w' := by
  have hy0 : (y == 0) = false := by simp; omega
  have hx0 : (x == 0) = false := by simp; omega
  have hyx : decide (y ≤ x) = false := by simp; omega
  have hz := (Wd.lz_of y (by omega) hy1).2.1
  obtain ⟨t1, t2⟩ := Wd.words_y y (by omega) hy1
  obtain ⟨t3, t4⟩ := Wd.words_l l y
  have t5 := Wd.words_h x l y (by omega) hxy hl hl1 hy1
  have t6 : Wd.dY y / 4294967296 = Wd.d1 y := rfl
  have t7 : Wd.dL l y / 4294967296 = Wd.e1 l y := rfl
  obtain ⟨b1, b2, b3, b4, _⟩ := Wd.d_bd y (by omega) hy1
  obtain ⟨c1, c2, c3, c4, _⟩ := Wd.e_bd l y
  have D1 := Wd.KD_hi x l y (by omega) hxy hl hl1 hy1
  have D2 := Wd.KD_lo x l y (by omega) hxy hl hl1 hy1
  have n1 : (Wd.d1 y == 0) = false := by simp; omega
  obtain ⟨u0, u1⟩ := Wd.dH_bd x l y (by omega) hxy hl hl1 hy1
  have u2 := (Wd.dY_bd y (by omega) hy1).2
  have m0 : 0 ≤ Wd.dH x l y / Wd.d1 y := Int.ediv_nonneg u0 (by omega)
  have m1 : Wd.dH x l y / Wd.d1 y * Wd.d1 y ≤ Wd.dH x l y := Int.ediv_mul_le _ (by omega)
  have m2 : 0 ≤ Wd.dH x l y / Wd.d1 y * Wd.d1 y := Int.mul_nonneg m0 (by omega)
  obtain ⟨v0, v1⟩ := Wd.Kr_bd D1
  have v1' : Wd.dR x l y < 18446744073709551616 := by show Wd.Kr _ _ _ _ < _; omega
  have v0' : 0 ≤ Wd.dR x l y := v0
  clear v0 v1
  obtain ⟨g0, g1⟩ := Wd.Kq_bd D1
  obtain ⟨g2, g3⟩ := Wd.Kq_bd D2
  obtain ⟨g4, g5⟩ := Wd.Kr_bd D2
  have o0 : 0 ≤ Wd.dR x l y / Wd.d1 y := Int.ediv_nonneg v0' (by omega)
  have o1 : Wd.dR x l y / Wd.d1 y * Wd.d1 y ≤ Wd.dR x l y := Int.ediv_mul_le _ (by omega)
  have o2 : 0 ≤ Wd.dR x l y / Wd.d1 y * Wd.d1 y := Int.mul_nonneg o0 (by omega)
  have o3 : Wd.dR x l y / Wd.d1 y ≤ 4294967297 := (Wd.KI_init D2).2.1
  have w1 := Wd.rest_wrap D1 y (Wd.d_bd y (by omega) hy1).2.2.2.2
  have w1' : IntKind.u64.wrap (IntKind.u64.wrap (IntKind.u64.wrap (Wd.dH x l y * 4294967296) + Wd.e1 l y) - IntKind.u64.wrap (Wd.Kq (Wd.d1 y) (Wd.d0 y) (Wd.dH x l y) (Wd.e1 l y) * Wd.dY y)) = Wd.dR x l y := w1
  have w2 := Wd.rest_wrap D2 y (Wd.d_bd y (by omega) hy1).2.2.2.2
  clear w1
  have m3 : Wd.dH x l y / Wd.d1 y ≤ 4294967297 := (Wd.KI_init D1).2.1
  go_enter Try.func111, Try.ntmps111
  go_wp2_with (first | (go_at_call 121; refine (lz_w y (by omega) hy1 _).mono ?_; rintro e w1 ⟨rfl, rfl⟩))
  go_loop [15, 16] (fun q r => ∃ qi ri : Int, Wd.KI (Wd.d1 y) (Wd.d0 y) (Wd.dH x l y) (Wd.e1 l y) qi ri ∧ q = .int .u64 qi ∧ r = .int .u64 ri) (fun q _ => (intOf q).toNat)
  case atStart => exact ⟨_, _, Wd.KI_init D1, rfl, by rw [Int.emod_def, Int.mul_comm (Wd.d1 y)]⟩
  case round =>
    obtain ⟨q, r, k, rfl, rfl⟩ := hrel
    obtain ⟨k1, k2, k3, k4, _, _⟩ := id k
    by_cases hq : 4294967296 ≤ q
    · have hl := Wd.KI_low k D1 (Or.inl hq)
      have hl2 := hl.2
      clear hl
      by_cases hr : r + Wd.d1 y < 4294967296
      · have ks := Wd.KI_step k D1 (Or.inl hq) hr
        go_wp2
        go_round
        case rel => exact ⟨_, _, ks, rfl, rfl⟩
        case measure => simp [intOf]; omega
      · obtain rfl : q = Wd.Kq (Wd.d1 y) (Wd.d0 y) (Wd.dH x l y) (Wd.e1 l y) + 1 := by have := Wd.KI_break k D1 (Or.inl hq) (by omega); omega
        clear k
        go_wp2
        go_loop [18, 16] (fun q r => ∃ qi ri : Int, Wd.KI (Wd.d1 y) (Wd.d0 y) (Wd.dR x l y) (Wd.e0 l y) qi ri ∧ q = .int .u64 qi ∧ r = .int .u64 ri) (fun q _ => (intOf q).toNat)
        case atStart => exact ⟨_, _, Wd.KI_init D2, rfl, by rw [Int.emod_def, Int.mul_comm (Wd.d1 y)]⟩
        case round =>
          obtain ⟨q, r, k, rfl, rfl⟩ := hrel
          obtain ⟨k1, k2, k3, k4, _, _⟩ := id k
          by_cases hq : 4294967296 ≤ q
          · have hl := Wd.KI_low k D2 (Or.inl hq)
            have hl2 := hl.2
            clear hl
            by_cases hr : r + Wd.d1 y < 4294967296
            · have ks := Wd.KI_step k D2 (Or.inl hq) hr
              go_wp2
              go_round
              case rel => exact ⟨_, _, ks, rfl, rfl⟩
              case measure => simp [intOf]; omega
            · obtain rfl : q = Wd.Kq (Wd.d1 y) (Wd.d0 y) (Wd.dR x l y) (Wd.e0 l y) + 1 := by have := Wd.KI_break k D2 (Or.inl hq) (by omega); omega
              clear k
              go_wp2
              go_ret2
              exact ⟨rfl, rfl⟩
          · obtain ⟨p0, p1⟩ := Wd.prod_bd k1 (by omega) b3 b4
            by_cases ht : 4294967296 * r + Wd.e0 l y < q * Wd.d0 y
            · have hl := Wd.KI_low k D2 (Or.inr ht)
              have hl2 := hl.2
              clear hl
              by_cases hr : r + Wd.d1 y < 4294967296
              · have ks := Wd.KI_step k D2 (Or.inr ht) hr
                go_wp2
                go_round
                case rel => exact ⟨_, _, ks, rfl, rfl⟩
                case measure => simp [intOf]; omega
              · obtain rfl : q = Wd.Kq (Wd.d1 y) (Wd.d0 y) (Wd.dR x l y) (Wd.e0 l y) + 1 := by have := Wd.KI_break k D2 (Or.inr ht) (by omega); omega
                clear k
                go_wp2
                go_ret2
                exact ⟨rfl, rfl⟩
            · obtain rfl : q = Wd.Kq (Wd.d1 y) (Wd.d0 y) (Wd.dR x l y) (Wd.e0 l y) := Wd.KI_exit k D2 (by omega)
              clear k
              go_wp2
              go_ret2
              exact ⟨rfl, rfl⟩
    · obtain ⟨p0, p1⟩ := Wd.prod_bd k1 (by omega) b3 b4
      by_cases ht : 4294967296 * r + Wd.e1 l y < q * Wd.d0 y
      · have hl := Wd.KI_low k D1 (Or.inr ht)
        have hl2 := hl.2
        clear hl
        by_cases hr : r + Wd.d1 y < 4294967296
        · have ks := Wd.KI_step k D1 (Or.inr ht) hr
          go_wp2
          go_round
          case rel => exact ⟨_, _, ks, rfl, rfl⟩
          case measure => simp [intOf]; omega
        · obtain rfl : q = Wd.Kq (Wd.d1 y) (Wd.d0 y) (Wd.dH x l y) (Wd.e1 l y) + 1 := by have := Wd.KI_break k D1 (Or.inr ht) (by omega); omega
          clear k
          go_wp2
          go_loop [18, 16] (fun q r => ∃ qi ri : Int, Wd.KI (Wd.d1 y) (Wd.d0 y) (Wd.dR x l y) (Wd.e0 l y) qi ri ∧ q = .int .u64 qi ∧ r = .int .u64 ri) (fun q _ => (intOf q).toNat)
          case atStart => exact ⟨_, _, Wd.KI_init D2, rfl, by rw [Int.emod_def, Int.mul_comm (Wd.d1 y)]⟩
          case round =>
            obtain ⟨q, r, k, rfl, rfl⟩ := hrel
            obtain ⟨k1, k2, k3, k4, _, _⟩ := id k
            by_cases hq : 4294967296 ≤ q
            · have hl := Wd.KI_low k D2 (Or.inl hq)
              have hl2 := hl.2
              clear hl
              by_cases hr : r + Wd.d1 y < 4294967296
              · have ks := Wd.KI_step k D2 (Or.inl hq) hr
                go_wp2
                go_round
                case rel => exact ⟨_, _, ks, rfl, rfl⟩
                case measure => simp [intOf]; omega
              · obtain rfl : q = Wd.Kq (Wd.d1 y) (Wd.d0 y) (Wd.dR x l y) (Wd.e0 l y) + 1 := by have := Wd.KI_break k D2 (Or.inl hq) (by omega); omega
                clear k
                go_wp2
                go_ret2
                exact ⟨rfl, rfl⟩
            · obtain ⟨p0, p1⟩ := Wd.prod_bd k1 (by omega) b3 b4
              by_cases ht : 4294967296 * r + Wd.e0 l y < q * Wd.d0 y
              · have hl := Wd.KI_low k D2 (Or.inr ht)
                have hl2 := hl.2
                clear hl
                by_cases hr : r + Wd.d1 y < 4294967296
                · have ks := Wd.KI_step k D2 (Or.inr ht) hr
                  go_wp2
                  go_round
                  case rel => exact ⟨_, _, ks, rfl, rfl⟩
                  case measure => simp [intOf]; omega
                · obtain rfl : q = Wd.Kq (Wd.d1 y) (Wd.d0 y) (Wd.dR x l y) (Wd.e0 l y) + 1 := by have := Wd.KI_break k D2 (Or.inr ht) (by omega); omega
                  clear k
                  go_wp2
                  go_ret2
                  exact ⟨rfl, rfl⟩
              · obtain rfl : q = Wd.Kq (Wd.d1 y) (Wd.d0 y) (Wd.dR x l y) (Wd.e0 l y) := Wd.KI_exit k D2 (by omega)
                clear k
                go_wp2
                go_ret2
                exact ⟨rfl, rfl⟩
      · obtain rfl : q = Wd.Kq (Wd.d1 y) (Wd.d0 y) (Wd.dH x l y) (Wd.e1 l y) := Wd.KI_exit k D1 (by omega)
        clear k
        go_wp2
        go_loop [18, 16] (fun q r => ∃ qi ri : Int, Wd.KI (Wd.d1 y) (Wd.d0 y) (Wd.dR x l y) (Wd.e0 l y) qi ri ∧ q = .int .u64 qi ∧ r = .int .u64 ri) (fun q _ => (intOf q).toNat)
        case atStart => exact ⟨_, _, Wd.KI_init D2, rfl, by rw [Int.emod_def, Int.mul_comm (Wd.d1 y)]⟩
        case round =>
          obtain ⟨q, r, k, rfl, rfl⟩ := hrel
          obtain ⟨k1, k2, k3, k4, _, _⟩ := id k
          by_cases hq : 4294967296 ≤ q
          · have hl := Wd.KI_low k D2 (Or.inl hq)
            have hl2 := hl.2
            clear hl
            by_cases hr : r + Wd.d1 y < 4294967296
            · have ks := Wd.KI_step k D2 (Or.inl hq) hr
              go_wp2
              go_round
              case rel => exact ⟨_, _, ks, rfl, rfl⟩
              case measure => simp [intOf]; omega
            · obtain rfl : q = Wd.Kq (Wd.d1 y) (Wd.d0 y) (Wd.dR x l y) (Wd.e0 l y) + 1 := by have := Wd.KI_break k D2 (Or.inl hq) (by omega); omega
              clear k
              go_wp2
              go_ret2
              exact ⟨rfl, rfl⟩
          · obtain ⟨p0, p1⟩ := Wd.prod_bd k1 (by omega) b3 b4
            by_cases ht : 4294967296 * r + Wd.e0 l y < q * Wd.d0 y
            · have hl := Wd.KI_low k D2 (Or.inr ht)
              have hl2 := hl.2
              clear hl
              by_cases hr : r + Wd.d1 y < 4294967296
              · have ks := Wd.KI_step k D2 (Or.inr ht) hr
                go_wp2
                go_round
                case rel => exact ⟨_, _, ks, rfl, rfl⟩
                case measure => simp [intOf]; omega
              · obtain rfl : q = Wd.Kq (Wd.d1 y) (Wd.d0 y) (Wd.dR x l y) (Wd.e0 l y) + 1 := by have := Wd.KI_break k D2 (Or.inr ht) (by omega); omega
                clear k
                go_wp2
                go_ret2
                exact ⟨rfl, rfl⟩
            · obtain rfl : q = Wd.Kq (Wd.d1 y) (Wd.d0 y) (Wd.dR x l y) (Wd.e0 l y) := Wd.KI_exit k D2 (by omega)
              clear k
              go_wp2
              go_ret2
              exact ⟨rfl, rfl⟩

theorem Div64_pos (x l y : Int) (hx : 0 < x) (hxy : x < y) (hl : 0 ≤ l) (hl1 : l < 18446744073709551616) (hy1 : y < 18446744073709551616) (w : World) :
    Calls Try.prog 111 #[.int .u64 x, .int .u64 l, .int .u64 y] w fun e w' => e = .returned (.tuple #[.int .u64 ((x * 18446744073709551616 + l) / y), .int .u64 ((x * 18446744073709551616 + l) % y)]) ∧ w = w' := by
  obtain ⟨h1, h2⟩ := Wd.out_of x l y (by omega) hxy hl hl1 hy1
  rw [← h1, ← h2]
  exact Div64_k x l y hx hxy hl hl1 hy1 w

end Go.Proofs.Ytheofhegdjjfgaa
