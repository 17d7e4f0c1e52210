/- The law WideInts, walked: ints go there and back; products of two are the same either way, and are turned over with one of them. -/
import Derived.Test.YtfiaobhkhedpiaaW13
namespace Go.Proofs.Ytfiaobhkhedpiaa
open Go.RowKit Go.Lib

theorem Wd.mul_fit (n m : Int) (h1 : -9223372036854775808 ≤ n) (h2 : n < 9223372036854775808) (h3 : -9223372036854775808 ≤ m) (h4 : m < 9223372036854775808) : Wd.fit (n * m) := by
  have e := Wd.sv_mul n m
  have a := Wd.ab_bd n h1 h2
  have b := Wd.ab_bd m h3 h4
  have c := Wd.half_mul a.1 a.2 b.1 b.2
  rw [← e]; unfold Wd.sv Wd.fit; split <;> omega

set_option maxRecDepth 100000 in
set_option maxHeartbeats 2000000 in
theorem Ints_self (n m : Int) (h1 : -9223372036854775808 ≤ n) (h2 : n < 9223372036854775808) (h3 : -9223372036854775808 ≤ m) (h4 : m < 9223372036854775808) (hs : (n == wrap64 (-n)) = true) (w : World) :
    Calls Try.prog 9 #[.int .i64 n, .int .i64 m] w fun e w' => e = .returned (.bool true) ∧ Below w.heap.size w w' := by
  have hnn : (n != n) = false := by simp
  have hc : m * n = n * m := Int.mul_comm m n
  have HC := Lib.hid hc
  clear hc
  go_enter Try.func9, Try.ntmps9
  go_wp2_with fail
  refine (wfirst_w _).mono ?_
  rintro e w1 ⟨rfl, hb1⟩
  have s_w1 := hb1.size
  go_wp2_with fail
  refine (FromInt_w n h1 h2 _).mono ?_
  rintro e w2 ⟨rfl, hb2⟩
  have b_w2 : Below w.heap.size w w2 := (below_via hb2 (by (repeat' (first | exact Below.refl _ _ | assumption | refine Below.drew ?_ | refine Below.alloc ?_ ?_ _ | refine Below.setCell ?_ ?_ _ | (apply below_via; assumption) | (simp; done) | omega | (simp; omega)))) (by first | omega | (simp; omega) | (simp; done))); have s_w2 := Below.size b_w2
  go_wp2_with fail
  refine (Int_yes n h1 h2 _).mono ?_
  rintro e w3 ⟨rfl, hb3⟩
  have b_w3 : Below w.heap.size w w3 := (below_via hb3 (by (repeat' (first | exact Below.refl _ _ | assumption | refine Below.drew ?_ | refine Below.alloc ?_ ?_ _ | refine Below.setCell ?_ ?_ _ | (apply below_via; assumption) | (simp; done) | omega | (simp; omega)))) (by first | omega | (simp; omega) | (simp; done))); have s_w3 := Below.size b_w3
  go_wp2_with fail
  refine (Mul_w n m (by omega) h2 h3 h4 _).mono ?_
  rintro e w4 ⟨rfl, hb4⟩
  have b_w4 : Below w.heap.size w w4 := (below_via hb4 (by (repeat' (first | exact Below.refl _ _ | assumption | refine Below.drew ?_ | refine Below.alloc ?_ ?_ _ | refine Below.setCell ?_ ?_ _ | (apply below_via; assumption) | (simp; done) | omega | (simp; omega)))) (by first | omega | (simp; omega) | (simp; done))); have s_w4 := Below.size b_w4
  go_wp2_with fail
  refine (Mul_w m n h3 h4 h1 h2 _).mono ?_
  rintro e w5 ⟨rfl, hb5⟩
  have b_w5 : Below w.heap.size w w5 := (below_via hb5 (by (repeat' (first | exact Below.refl _ _ | assumption | refine Below.drew ?_ | refine Below.alloc ?_ ?_ _ | refine Below.setCell ?_ ?_ _ | (apply below_via; assumption) | (simp; done) | omega | (simp; omega)))) (by first | omega | (simp; omega) | (simp; done))); have s_w5 := Below.size b_w5
  obtain ⟨hc_hb5, hf_hb5⟩ := bcell hb5; have hz_hb5 := Below.size hb5; (try simp at hz_hb5); have zw4_heap_size_hb5 : w4.heap.size < w5.heap.size := (by omega); have cw4_heap_size0_hb5 := hc_hb5 (w4.heap.size) 0 (by (try simp) <;> omega); have fw4_heap_size0_hb5 := hf_hb5 (w4.heap.size) 0 (by (try simp) <;> omega); have cw4_heap_size1_hb5 := hc_hb5 (w4.heap.size) 1 (by (try simp) <;> omega); have fw4_heap_size1_hb5 := hf_hb5 (w4.heap.size) 1 (by (try simp) <;> omega); clear hc_hb5 hf_hb5; (try simp [*, go_sem] at cw4_heap_size0_hb5); (try simp [*, go_sem] at fw4_heap_size0_hb5); (try simp [*, go_sem] at cw4_heap_size1_hb5); (try simp [*, go_sem] at fw4_heap_size1_hb5)
  rw [HC.out]
  go_wp2_with (first | (go_at_call 16; refine (Num_w _ _).mono ?_; rintro e w7 ⟨rfl, rfl⟩))
  go_ret
  refine ⟨rfl, ?_⟩
  (repeat' (first | exact Below.refl _ _ | assumption | refine Below.drew ?_ | refine Below.alloc ?_ ?_ _ | refine Below.setCell ?_ ?_ _ | (apply below_via; assumption) | (simp; done) | omega | (simp; omega)))

set_option maxRecDepth 100000 in
set_option maxHeartbeats 2000000 in
theorem Ints_other (n m : Int) (h1 : -9223372036854775808 < n) (h2 : n < 9223372036854775808) (h3 : -9223372036854775808 ≤ m) (h4 : m < 9223372036854775808) (hs : n ≠ 0) (w : World) :
    Calls Try.prog 9 #[.int .i64 n, .int .i64 m] w fun e w' => e = .returned (.bool true) ∧ Below w.heap.size w w' := by
  have hnn : (n != n) = false := by simp
  have hneg : (n == -n) = false := by simp; omega
  have hc : m * n = n * m := Int.mul_comm m n
  have HC := Lib.hid hc
  have hf := Wd.mul_fit n m (by omega) h2 h3 h4
  have hd : -(-n * m) = n * m := by rw [Int.neg_mul, Int.neg_neg]
  have HD := Lib.hid hd
  have HF := Lib.hid hf
  have hf2 := Wd.mul_fit (-n) m (by omega) (by omega) h3 h4
  clear hc hd hf hs
  go_enter Try.func9, Try.ntmps9
  go_wp2_with fail
  refine (wfirst_w _).mono ?_
  rintro e w1 ⟨rfl, hb1⟩
  have s_w1 := hb1.size
  go_wp2_with fail
  refine (FromInt_w n (by omega) h2 _).mono ?_
  rintro e w2 ⟨rfl, hb2⟩
  have b_w2 : Below w.heap.size w w2 := (below_via hb2 (by (repeat' (first | exact Below.refl _ _ | assumption | refine Below.drew ?_ | refine Below.alloc ?_ ?_ _ | refine Below.setCell ?_ ?_ _ | (apply below_via; assumption) | (simp; done) | omega | (simp; omega)))) (by first | omega | (simp; omega) | (simp; done))); have s_w2 := Below.size b_w2
  go_wp2_with fail
  refine (Int_yes n (by omega) h2 _).mono ?_
  rintro e w3 ⟨rfl, hb3⟩
  have b_w3 : Below w.heap.size w w3 := (below_via hb3 (by (repeat' (first | exact Below.refl _ _ | assumption | refine Below.drew ?_ | refine Below.alloc ?_ ?_ _ | refine Below.setCell ?_ ?_ _ | (apply below_via; assumption) | (simp; done) | omega | (simp; omega)))) (by first | omega | (simp; omega) | (simp; done))); have s_w3 := Below.size b_w3
  go_wp2_with fail
  refine (Mul_w n m (by omega) h2 h3 h4 _).mono ?_
  rintro e w4 ⟨rfl, hb4⟩
  have b_w4 : Below w.heap.size w w4 := (below_via hb4 (by (repeat' (first | exact Below.refl _ _ | assumption | refine Below.drew ?_ | refine Below.alloc ?_ ?_ _ | refine Below.setCell ?_ ?_ _ | (apply below_via; assumption) | (simp; done) | omega | (simp; omega)))) (by first | omega | (simp; omega) | (simp; done))); have s_w4 := Below.size b_w4
  go_wp2_with fail
  refine (Mul_w m n h3 h4 (by omega) h2 _).mono ?_
  rintro e w5 ⟨rfl, hb5⟩
  have b_w5 : Below w.heap.size w w5 := (below_via hb5 (by (repeat' (first | exact Below.refl _ _ | assumption | refine Below.drew ?_ | refine Below.alloc ?_ ?_ _ | refine Below.setCell ?_ ?_ _ | (apply below_via; assumption) | (simp; done) | omega | (simp; omega)))) (by first | omega | (simp; omega) | (simp; done))); have s_w5 := Below.size b_w5
  obtain ⟨hc_hb5, hf_hb5⟩ := bcell hb5; have hz_hb5 := Below.size hb5; (try simp at hz_hb5); have zw4_heap_size_hb5 : w4.heap.size < w5.heap.size := (by omega); have cw4_heap_size0_hb5 := hc_hb5 (w4.heap.size) 0 (by (try simp) <;> omega); have fw4_heap_size0_hb5 := hf_hb5 (w4.heap.size) 0 (by (try simp) <;> omega); have cw4_heap_size1_hb5 := hc_hb5 (w4.heap.size) 1 (by (try simp) <;> omega); have fw4_heap_size1_hb5 := hf_hb5 (w4.heap.size) 1 (by (try simp) <;> omega); clear hc_hb5 hf_hb5; (try simp [*, go_sem] at cw4_heap_size0_hb5); (try simp [*, go_sem] at fw4_heap_size0_hb5); (try simp [*, go_sem] at cw4_heap_size1_hb5); (try simp [*, go_sem] at fw4_heap_size1_hb5)
  rw [HC.out]
  go_wp2_with (first | (go_at_call 44; refine (Mul_w (-n) m (by omega) (by omega) h3 h4 _).mono ?_; rintro e w8 ⟨rfl, hb8⟩; have b_w8 : Below w.heap.size w w8 := (below_via hb8 (by (repeat' (first | exact Below.refl _ _ | assumption | refine Below.drew ?_ | refine Below.alloc ?_ ?_ _ | refine Below.setCell ?_ ?_ _ | (apply below_via; assumption) | (simp; done) | omega | (simp; omega)))) (by first | omega | (simp; omega) | (simp; done))); have s_w8 := Below.size b_w8; obtain ⟨hc_hb8, hf_hb8⟩ := bcell hb8; have hz_hb8 := Below.size hb8; (try simp at hz_hb8); have zw4_heap_size_hb8 : w4.heap.size < w8.heap.size := (by omega); have cw4_heap_size0_hb8 := hc_hb8 (w4.heap.size) 0 (by (try simp) <;> omega); have fw4_heap_size0_hb8 := hf_hb8 (w4.heap.size) 0 (by (try simp) <;> omega); have cw4_heap_size1_hb8 := hc_hb8 (w4.heap.size) 1 (by (try simp) <;> omega); have fw4_heap_size1_hb8 := hf_hb8 (w4.heap.size) 1 (by (try simp) <;> omega); clear hc_hb8 hf_hb8; (try simp [*, go_sem] at cw4_heap_size0_hb8); (try simp [*, go_sem] at fw4_heap_size0_hb8); (try simp [*, go_sem] at cw4_heap_size1_hb8); (try simp [*, go_sem] at fw4_heap_size1_hb8)) | (go_at_call 45; refine (Neg_w (-n * m) hf2 _).mono ?_; rintro e w9 ⟨rfl, hb9⟩; have b_w9 : Below w.heap.size w w9 := (below_via hb9 (by (repeat' (first | exact Below.refl _ _ | assumption | refine Below.drew ?_ | refine Below.alloc ?_ ?_ _ | refine Below.setCell ?_ ?_ _ | (apply below_via; assumption) | (simp; done) | omega | (simp; omega)))) (by first | omega | (simp; omega) | (simp; done))); have s_w9 := Below.size b_w9; obtain ⟨hc_hb9, hf_hb9⟩ := bcell hb9; have hz_hb9 := Below.size hb9; (try simp at hz_hb9); have zw4_heap_size_hb9 : w4.heap.size < w9.heap.size := (by omega); have cw4_heap_size0_hb9 := hc_hb9 (w4.heap.size) 0 (by (try simp) <;> omega); have fw4_heap_size0_hb9 := hf_hb9 (w4.heap.size) 0 (by (try simp) <;> omega); have cw4_heap_size1_hb9 := hc_hb9 (w4.heap.size) 1 (by (try simp) <;> omega); have fw4_heap_size1_hb9 := hf_hb9 (w4.heap.size) 1 (by (try simp) <;> omega); clear hc_hb9 hf_hb9; (try simp [*, go_sem] at cw4_heap_size0_hb9); (try simp [*, go_sem] at fw4_heap_size0_hb9); (try simp [*, go_sem] at cw4_heap_size1_hb9); (try simp [*, go_sem] at fw4_heap_size1_hb9); rw [HD.out, Wd.tr_of HF.out, Wd.er_of HF.out]) | (go_at_call 16; refine (Num_w _ _).mono ?_; rintro e w7 ⟨rfl, rfl⟩))
  go_ret
  refine ⟨rfl, ?_⟩
  (repeat' (first | exact Below.refl _ _ | assumption | refine Below.drew ?_ | refine Below.alloc ?_ ?_ _ | refine Below.setCell ?_ ?_ _ | (apply below_via; assumption) | (simp; done) | omega | (simp; omega)))

theorem WideInts_w (n m : Int) (h1 : -9223372036854775808 ≤ n) (h2 : n < 9223372036854775808) (h3 : -9223372036854775808 ≤ m) (h4 : m < 9223372036854775808) (w : World) :
    Calls Try.prog 9 #[.int .i64 n, .int .i64 m] w fun e w' => e = .returned (.bool true) ∧ Below w.heap.size w w' := by
  by_cases h : n = 0 ∨ n = -9223372036854775808
  · exact Ints_self n m h1 h2 h3 h4 (by unfold wrap64; rw [beq_iff_eq]; omega) w
  · exact Ints_other n m (by omega) h2 h3 h4 (by omega) w

end Go.Proofs.Ytfiaobhkhedpiaa
