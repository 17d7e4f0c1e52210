/- Walks of the leaf functions of package wide, each a contract that says which whole number comes out. -/
import Derived.Test.YtheofhegdjjfgaaRows
import Derived.Test.YtheofhegdjjfgaaWdM
import Derived.WalkKit
import Derived.WalkSpells
import Derived.WalkLawsBesides
import Derived.Shelf.Spec.BitsCarry
import Derived.Deep.RegionHeld3
import Derived.Lib.Hide
import Derived.Deep.DeepCutAuto
import Derived.Deep.QuietTactic
import Derived.BigQuiet
namespace Go.Proofs.Ytheofhegdjjfgaa
open Go.RowKit

theorem below_via {B B' : Nat} {a b c : World} (h2 : Below B' b c) (h1 : Below B a b) (h3 : B ≤ B') : Below B a c := h1.trans (h2.mono h3)

/-- what a contract that only makes memory leaves: all old cells and marks. -/
theorem bcell {W w1 : World} (hb : Below W.heap.size W w1) : (∀ b o, b < W.heap.size → w1.cell? ⟨b, o, none⟩ = W.cell? ⟨b, o, none⟩) ∧ (∀ b o, b < W.heap.size → w1.frozen? ⟨b, o, none⟩ = W.frozen? ⟨b, o, none⟩) :=
  ⟨fun b o h => hb.cell (p := ⟨b, o, none⟩) h, fun b o h => hb.frozen (p := ⟨b, o, none⟩) h⟩

set_option maxHeartbeats 400000 in
theorem below_w (x y : Int) (w : World) :
    Calls Try.prog 91 #[.agg #[.int .u64 x, .int .u64 y]] w fun e w' => e = .returned (.bool (decide (9223372036854775808 ≤ x))) ∧ Below w.heap.size w w' := by
  go_enter Try.func91, Try.ntmps91
  go_wp2
  go_ret
  exact ⟨rfl, (Below.refl _ _).alloc (Nat.le_refl _) _⟩

/-- what a drawn region of reads and of calls that only make memory keeps. -/
theorem keptS {W w1 : World} (hb : Below W.heap.size W w1) : Below W.heap.size W w1 ∧ (∀ b o, b < W.heap.size → w1.cell? ⟨b, o, none⟩ = W.cell? ⟨b, o, none⟩) :=
  ⟨hb, fun b o h => hb.cell (p := ⟨b, o, none⟩) h⟩

theorem keptS1 {W w1 w2 : World} (hb : Below w1.heap.size w1 w2) (hS : Below W.heap.size W w1 ∧ (∀ b o, b < W.heap.size → w1.cell? ⟨b, o, none⟩ = W.cell? ⟨b, o, none⟩)) :
    Below W.heap.size W w2 ∧ (∀ b o, b < W.heap.size → w2.cell? ⟨b, o, none⟩ = W.cell? ⟨b, o, none⟩) :=
  keptS (hS.1.trans (hb.mono hS.1.size))

theorem keptS0 {W w1 : World} (hb : Below W.drew.heap.size W.drew w1) : Below W.heap.size W w1 ∧ (∀ b o, b < W.heap.size → w1.cell? ⟨b, o, none⟩ = W.cell? ⟨b, o, none⟩) :=
  keptS ((Below.drew (Below.refl _ _)).trans hb)

theorem below_two {W w1 w2 : World} (h2 : Below w1.heap.size w1 w2) (h1 : Below W.drew.heap.size W.drew w1) : Below W.heap.size W w2 :=
  (keptS0 h1).1.trans (h2.mono (keptS0 h1).1.size)

theorem run_add64_at (x y c : Int) (hx : 0 ≤ x) (hy : 0 ≤ y) (hc : 0 ≤ c) (hc1 : c ≤ 1) (w : World) :
    (callFunc 90 #[.int .u64 x, .int .u64 y, .int .u64 c]).run Try.prog w =
      .ok (.value (.tuple #[.int .u64 ((x + y + c) % 18446744073709551616), .int .u64 ((x + y + c) / 18446744073709551616)])) w := by
  obtain ⟨x, rfl⟩ := Int.eq_ofNat_of_zero_le hx
  obtain ⟨y, rfl⟩ := Int.eq_ofNat_of_zero_le hy
  obtain ⟨c, rfl⟩ := Int.eq_ofNat_of_zero_le hc
  rw [run_callFunc_extern Try.func90 (by kernel_rfl) (by kernel_rfl) (by kernel_rfl) (e := add64Entry) (by kernel_rfl), run_add64 x y c (by omega) (by omega) (by omega) (by omega)]
  rfl

theorem run_sub64_at (x y c : Int) (hx : 0 ≤ x) (hy : 0 ≤ y) (hy' : y < 18446744073709551616) (hc : 0 ≤ c) (hc1 : c ≤ 1) (w : World) :
    (callFunc 120 #[.int .u64 x, .int .u64 y, .int .u64 c]).run Try.prog w =
      .ok (.value (.tuple #[.int .u64 ((x + 18446744073709551616 - y - c) % 18446744073709551616), .int .u64 (if x < y + c then 1 else 0)])) w := by
  obtain ⟨x, rfl⟩ := Int.eq_ofNat_of_zero_le hx
  obtain ⟨y, rfl⟩ := Int.eq_ofNat_of_zero_le hy
  obtain ⟨c, rfl⟩ := Int.eq_ofNat_of_zero_le hc
  rw [run_callFunc_extern Try.func120 (by kernel_rfl) (by kernel_rfl) (by kernel_rfl) (e := sub64Entry) (by kernel_rfl), run_sub64 x y c (by omega)]
  simp only [Result.andThen]
  have e1 : (((x + 18446744073709551616 - y - c) % 18446744073709551616 : Nat) : Int) = ((x : Int) + 18446744073709551616 - y - c) % 18446744073709551616 := by omega
  have e2 : (((if x < y + c then 1 else 0 : Nat)) : Int) = (if (x : Int) < y + c then 1 else 0) := by split <;> split <;> omega
  rw [e1, e2]

theorem add64_lo (a b : Int) (w : World) : (callFunc 90 #[.int .u64 (Wd.lo a), .int .u64 (Wd.lo b), .int .u64 0]).run Try.prog w = .ok (.value (.tuple #[.int .u64 (Wd.lo (a + b)), .int .u64 (Wd.cy a b)])) w := by
  rw [run_add64_at _ _ _ (Wd.lo_bd a).1 (Wd.lo_bd b).1 (by omega) (by omega), Wd.add_lo]; rfl
theorem add64_hi (a b : Int) (w : World) : (callFunc 90 #[.int .u64 (Wd.hi a), .int .u64 (Wd.hi b), .int .u64 (Wd.cy a b)]).run Try.prog w = .ok (.value (.tuple #[.int .u64 (Wd.hi (a + b)), .int .u64 (Wd.cy2 a b)])) w := by
  rw [run_add64_at _ _ _ (Wd.hi_bd a).1 (Wd.hi_bd b).1 (Wd.cy_bd a b).1 (Wd.cy_bd a b).2, Wd.carry_hi]; rfl
theorem sub64_lo (a b : Int) (w : World) : (callFunc 120 #[.int .u64 (Wd.lo a), .int .u64 (Wd.lo b), .int .u64 0]).run Try.prog w = .ok (.value (.tuple #[.int .u64 (Wd.lo (a - b)), .int .u64 (Wd.bw a b)])) w := by
  rw [run_sub64_at _ _ _ (Wd.lo_bd a).1 (Wd.lo_bd b).1 (Wd.lo_bd b).2 (by omega) (by omega), Wd.sub_lo]; rfl
theorem sub64_hi (a b : Int) (w : World) : (callFunc 120 #[.int .u64 (Wd.hi a), .int .u64 (Wd.hi b), .int .u64 (Wd.bw a b)]).run Try.prog w = .ok (.value (.tuple #[.int .u64 (Wd.hi (a - b)), .int .u64 (Wd.bw2 a b)])) w := by
  rw [run_sub64_at _ _ _ (Wd.hi_bd a).1 (Wd.hi_bd b).1 (Wd.hi_bd b).2 (Wd.bw_bd a b).1 (Wd.bw_bd a b).2, Wd.borrow_hi]; rfl
theorem neg64_lo (b : Int) (w : World) : (callFunc 120 #[.int .u64 0, .int .u64 (Wd.lo b), .int .u64 0]).run Try.prog w = .ok (.value (.tuple #[.int .u64 (Wd.lo (-b)), .int .u64 (Wd.bw 0 b)])) w := by
  have h := sub64_lo 0 b w; rw [Int.zero_sub] at h; exact h
theorem neg64_hi (b : Int) (w : World) : (callFunc 120 #[.int .u64 0, .int .u64 (Wd.hi b), .int .u64 (Wd.bw 0 b)]).run Try.prog w = .ok (.value (.tuple #[.int .u64 (Wd.hi (-b)), .int .u64 (Wd.bw2 0 b)])) w := by
  have h := sub64_hi 0 b w; rw [Int.zero_sub] at h; exact h

set_option maxHeartbeats 400000 in
theorem turned_w (v : Int) (w : World) :
    Calls Try.prog 110 #[Value.agg #[.int .u64 (Wd.hi (v)), .int .u64 (Wd.lo (v))]] w fun e w' => e = .returned (Value.agg #[.int .u64 (Wd.hi (-v)), .int .u64 (Wd.lo (-v))]) ∧ Below w.heap.size w w' := by
  have r1 := fun w => neg64_lo v w
  have r2 := fun w => neg64_hi v w
  go_enter Try.func110, Try.ntmps110
  go_wp2
  exact bodyPost_ret (v := Value.agg #[.int .u64 (Wd.hi (-v)), .int .u64 (Wd.lo (-v))]) (by simp [results, Try.results110, go_sem]) rfl ⟨rfl, by (repeat' (first | exact Below.refl _ _ | assumption | refine Below.drew ?_ | refine Below.alloc ?_ ?_ _ | refine Below.setCell ?_ ?_ _ | (apply below_via; assumption) | (simp; done) | omega | (simp; omega)))⟩

set_option maxHeartbeats 400000 in
theorem size_neg (v : Int) (hf : Wd.fit v) (hn : v < 0) (w : World) :
    Calls Try.prog 88 #[Value.agg #[.int .u64 (Wd.hi (v)), .int .u64 (Wd.lo (v))]] w fun e w' => e = .returned (Value.agg #[.int .u64 (Wd.hi (-v)), .int .u64 (Wd.lo (-v))]) ∧ Below w.heap.size w w' := by
  have hd := Wd.hi_ge v hf hn
  go_enter Try.func88, Try.ntmps88
  go_wp2_with (first | (go_at_call 91; go_must (refine (below_w _ _ _).mono ?_; rintro e w1 ⟨rfl, hb⟩; obtain ⟨hc_hb, hf_hb⟩ := bcell hb; have hz_hb := Below.size hb; (try simp at hz_hb); have z0_hb : w.heap.size < w1.heap.size := (by omega); have z1_hb : w.heap.size + 1 < w1.heap.size := (by omega); have c00_hb := hc_hb (w.heap.size) 0 (by (try simp) <;> omega); have f00_hb := hf_hb (w.heap.size) 0 (by (try simp) <;> omega); have c01_hb := hc_hb (w.heap.size) 1 (by (try simp) <;> omega); have f01_hb := hf_hb (w.heap.size) 1 (by (try simp) <;> omega); have c10_hb := hc_hb (w.heap.size + 1) 0 (by (try simp) <;> omega); have f10_hb := hf_hb (w.heap.size + 1) 0 (by (try simp) <;> omega); have c11_hb := hc_hb (w.heap.size + 1) 1 (by (try simp) <;> omega); have f11_hb := hf_hb (w.heap.size + 1) 1 (by (try simp) <;> omega); clear hc_hb hf_hb; (try simp [*] at c00_hb); (try simp [*] at f00_hb); (try simp [*] at c01_hb); (try simp [*] at f01_hb); (try simp [*] at c10_hb); (try simp [*] at f10_hb); (try simp [*] at c11_hb); (try simp [*] at f11_hb))) | (go_at_call 110; go_must (refine (turned_w _ _).mono ?_; rintro e w2 ⟨rfl, hb2⟩; obtain ⟨hc_hb2, hf_hb2⟩ := bcell hb2; have hz_hb2 := Below.size hb2; (try simp at hz_hb2); have z0_hb2 : w.heap.size < w2.heap.size := (by omega); have z1_hb2 : w.heap.size + 1 < w2.heap.size := (by omega); have c00_hb2 := hc_hb2 (w.heap.size) 0 (by (try simp) <;> omega); have f00_hb2 := hf_hb2 (w.heap.size) 0 (by (try simp) <;> omega); have c01_hb2 := hc_hb2 (w.heap.size) 1 (by (try simp) <;> omega); have f01_hb2 := hf_hb2 (w.heap.size) 1 (by (try simp) <;> omega); have c10_hb2 := hc_hb2 (w.heap.size + 1) 0 (by (try simp) <;> omega); have f10_hb2 := hf_hb2 (w.heap.size + 1) 0 (by (try simp) <;> omega); have c11_hb2 := hc_hb2 (w.heap.size + 1) 1 (by (try simp) <;> omega); have f11_hb2 := hf_hb2 (w.heap.size + 1) 1 (by (try simp) <;> omega); clear hc_hb2 hf_hb2; (try simp [*] at c00_hb2); (try simp [*] at f00_hb2); (try simp [*] at c01_hb2); (try simp [*] at f01_hb2); (try simp [*] at c10_hb2); (try simp [*] at f10_hb2); (try simp [*] at c11_hb2); (try simp [*] at f11_hb2))))
  exact bodyPost_ret (v := Value.agg #[.int .u64 (Wd.hi (-v)), .int .u64 (Wd.lo (-v))]) (by simp [*, results, Try.results88, go_sem]) rfl ⟨rfl, by (repeat' (first | exact Below.refl _ _ | assumption | refine Below.drew ?_ | refine Below.alloc ?_ ?_ _ | refine Below.setCell ?_ ?_ _ | (apply below_via; assumption) | (simp; done) | omega | (simp; omega)))⟩

set_option maxHeartbeats 400000 in
theorem size_pos (v : Int) (hf : Wd.fit v) (hn : 0 ≤ v) (w : World) :
    Calls Try.prog 88 #[Value.agg #[.int .u64 (Wd.hi (v)), .int .u64 (Wd.lo (v))]] w fun e w' => e = .returned (Value.agg #[.int .u64 (Wd.hi (v)), .int .u64 (Wd.lo (v))]) ∧ Below w.heap.size w w' := by
  have hd := Wd.hi_lt v hf hn
  go_enter Try.func88, Try.ntmps88
  go_wp2_with (first | (go_at_call 91; go_must (refine (below_w _ _ _).mono ?_; rintro e w1 ⟨rfl, hb⟩; obtain ⟨hc_hb, hf_hb⟩ := bcell hb; have hz_hb := Below.size hb; (try simp at hz_hb); have z0_hb : w.heap.size < w1.heap.size := (by omega); have z1_hb : w.heap.size + 1 < w1.heap.size := (by omega); have c00_hb := hc_hb (w.heap.size) 0 (by (try simp) <;> omega); have f00_hb := hf_hb (w.heap.size) 0 (by (try simp) <;> omega); have c01_hb := hc_hb (w.heap.size) 1 (by (try simp) <;> omega); have f01_hb := hf_hb (w.heap.size) 1 (by (try simp) <;> omega); have c10_hb := hc_hb (w.heap.size + 1) 0 (by (try simp) <;> omega); have f10_hb := hf_hb (w.heap.size + 1) 0 (by (try simp) <;> omega); have c11_hb := hc_hb (w.heap.size + 1) 1 (by (try simp) <;> omega); have f11_hb := hf_hb (w.heap.size + 1) 1 (by (try simp) <;> omega); clear hc_hb hf_hb; (try simp [*] at c00_hb); (try simp [*] at f00_hb); (try simp [*] at c01_hb); (try simp [*] at f01_hb); (try simp [*] at c10_hb); (try simp [*] at f10_hb); (try simp [*] at c11_hb); (try simp [*] at f11_hb))))
  exact bodyPost_ret (v := Value.agg #[.int .u64 (Wd.hi (v)), .int .u64 (Wd.lo (v))]) (by simp [*, results, Try.results88, go_sem]) rfl ⟨rfl, by (repeat' (first | exact Below.refl _ _ | assumption | refine Below.drew ?_ | refine Below.alloc ?_ ?_ _ | refine Below.setCell ?_ ?_ _ | (apply below_via; assumption) | (simp; done) | omega | (simp; omega)))⟩

/-- what has no sign. -/
theorem size_w (v : Int) (hf : Wd.fit v) (w : World) :
    Calls Try.prog 88 #[Value.agg #[.int .u64 (Wd.hi (v)), .int .u64 (Wd.lo (v))]] w fun e w' => e = .returned (Value.agg #[.int .u64 (Wd.hi (Wd.ab v)), .int .u64 (Wd.lo (Wd.ab v))]) ∧ Below w.heap.size w w' := by
  by_cases hn : v < 0
  · have h := size_neg v hf hn w
    rw [show Wd.ab v = -v from if_pos hn]; exact h
  · have h := size_pos v hf (by omega) w
    rw [show Wd.ab v = v from if_neg hn]; exact h

set_option maxHeartbeats 400000 in
theorem FromInt_w (n : Int) (h1 : -9223372036854775808 ≤ n) (h2 : n < 9223372036854775808) (w : World) :
    Calls Try.prog 92 #[.int .i64 n] w fun e w' => e = .returned (Value.agg #[.int .u64 (Wd.hi (n)), .int .u64 (Wd.lo (n))]) ∧ Below w.heap.size w w' := by
  go_enter Try.func92, Try.ntmps92
  go_wp2
  have e1 := Wd.wrap_lo n
  have e2 := Wd.wrap_hi n h1 h2
  exact bodyPost_ret (v := Value.agg #[.int .u64 (Wd.hi (n)), .int .u64 (Wd.lo (n))]) (by simp [*, results, Try.results92, go_sem]) rfl ⟨rfl, by (repeat' (first | exact Below.refl _ _ | assumption | refine Below.drew ?_ | refine Below.alloc ?_ ?_ _ | refine Below.setCell ?_ ?_ _ | (apply below_via; assumption) | (simp; done) | omega | (simp; omega)))⟩

end Go.Proofs.Ytheofhegdjjfgaa
