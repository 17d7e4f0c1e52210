/- Walks of package wide: the digits. -/
import Derived.Test.YtfiaobhkhedpiaaW10
import Derived.Test.YtfiaobhkhedpiaaWdS
import Derived.Deep.LoopGhost
import Derived.Deep.CutBlock
namespace Go.Proofs.Ytfiaobhkhedpiaa
open Go.RowKit

theorem one_byte (x : Int) (w : World) : (convert 129 9 (.slice (some ⟨w.heap.size, 0, none⟩) 1 1)).run Try.prog (w.alloc (.cells #[.int .u8 x] 5)) = .ok (.string ⟨#[UInt8.ofNat x.toNat]⟩) (w.alloc (.cells #[.int .u8 x] 5)) := by
  have h := run_convert_bytes_arg (P := Try.prog) (w := w.alloc (.cells #[.int .u8 x] 5)) 129 5 Try.underlying129 Try.underlying5 w.heap.size 0 1 1 [x] rfl (fun i hi => by
    obtain rfl : i = 0 := by omega
    simp) 9 Try.underlying9
  exact h
/-- what is left of a number behind k digits. -/
def Wd.sh (n k : Nat) : Nat := n / 10 ^ k
theorem Wd.int_digit (n k : Nat) : (Wd.sh n k : Int) / 10 = (Wd.sh n (k + 1) : Int) := by
  unfold Wd.sh; rw [Nat.pow_succ, ← Nat.div_div_eq_div_mul]; omega
theorem Wd.text_cons (n k : Nat) : Value.string ({ data := #[48 + UInt8.ofNat (Wd.sh n k % 10)] } ++ { data := (Wd.ld k n).toArray }) = Value.string ⟨(Wd.ld (k + 1) n).toArray⟩ := by
  have e : 48 + UInt8.ofNat (Wd.sh n k % 10) = Wd.dig (n / 10 ^ k) := by
    unfold Wd.dig Wd.sh; rw [UInt8.ofNat_add]; rfl
  rw [e, ← Wd.ld_cons]
  congr 1
theorem Wd.sh_zero (n k : Nat) (h : Wd.sh n k = 0) : Wd.sh n (k + 1) = 0 := by
  have := Wd.int_digit n k; omega
theorem Wd.text_zero (n k : Nat) (h : Wd.sh n k = 0) : Value.string ({ data := #[48] } ++ { data := (Wd.ld k n).toArray }) = Value.string ⟨(Wd.ld (k + 1) n).toArray⟩ := by
  have e := Wd.text_cons n k
  rw [h] at e; exact e
theorem Wd.dg_len : ∀ k n, n < 10 ^ k → (Wd.dg n).length ≤ k
  | 0, n, h => by
    have : n = 0 := by simp at h; exact h
    subst this; rw [Wd.dg_zero]; simp
  | k + 1, n, h => by
    by_cases h0 : n = 0
    · subst h0; rw [Wd.dg_zero]; simp
    · rw [Wd.dg_pos n h0]
      have := Wd.dg_len k (n / 10) (by rw [Nat.pow_succ] at h; omega)
      simp; omega
/-- the part that a group gives: all of its digits, or all eighteen. -/
def Wd.part (n : Nat) (nz : Bool) : List UInt8 := if nz = true then Wd.ld 18 (n % 1000000000000000000) else Wd.dg n
theorem Wd.part_zero (n k : Nat) {nz : Bool} (h : nz = false) (hq : n / 1000000000000000000 = 0) (hz : n % 1000000000000000000 / 10 ^ k = 0) (hm : k = 0 ∨ n % 1000000000000000000 / 10 ^ (k - 1) ≠ 0) : Wd.part n nz = Wd.ld k (n % 1000000000000000000) := by
  have e : n % 1000000000000000000 = n := by omega
  rw [e] at hz hm ⊢
  subst h
  exact Wd.dg_all k n hz hm

theorem ret_text (a b : ByteArray) (h : a = b) : Ending.returned (.string a) = Ending.returned (.string b) := by rw [h]
theorem Wd.text_zero_of (v : Int) (h : Wd.ab v = ((0 : Nat) : Int)) : Wd.text v = [48] := by
  unfold Wd.ab at h
  have : v = 0 := by split at h <;> omega
  subst this; rfl
theorem Wd.text_neg (v : Int) (N : Nat) (h : Wd.ab v = (N : Int)) (hv : v < 0) : Wd.text v = 45 :: Wd.dg N := by
  unfold Wd.text; rw [if_neg (by omega), if_pos hv, h]; rfl
theorem Wd.text_pos (v : Int) (N : Nat) (h : Wd.ab v = (N : Int)) (hv : 0 ≤ v) (hN : N ≠ 0) : Wd.text v = Wd.dg N := by
  have h0 : v ≠ 0 := fun e => by subst e; unfold Wd.ab at h; simp at h; omega
  unfold Wd.text; rw [if_neg h0, if_neg (by omega), h]; rfl
theorem Wd.part_out (n : Nat) (o : List UInt8) (N : Nat) (hd : Wd.dg n ++ o = Wd.dg N) (nz : Bool) (h : nz = false) : Wd.part n nz ++ o = Wd.dg N := by
  subst h; exact hd
theorem Wd.part_more (n : Nat) (o : List UInt8) (N : Nat) (hd : Wd.dg n ++ o = Wd.dg N) (nz : Bool) (h : nz = true) (hq : n / 1000000000000000000 ≠ 0) : Wd.dg (n / 1000000000000000000) ++ (Wd.part n nz ++ o) = Wd.dg N := by
  subst h
  rw [← hd, Wd.dg_group n hq, List.append_assoc]; rfl
theorem Wd.part_len (n : Nat) (o : List UInt8) (N : Nat) (hd : Wd.dg n ++ o = Wd.dg N) (hN : N ≤ 170141183460469231731687303715884105728) (nz : Bool) (h : nz = !(n / 1000000000000000000 == 0)) : (Wd.part n nz).length + o.length ≤ 40 := by
  have hl := Wd.dg_len 40 N (Nat.lt_of_le_of_lt hN (by decide))
  by_cases hq : n / 1000000000000000000 = 0
  · have e := Wd.part_out n o N hd nz (by rw [h, hq]; rfl)
    rw [← e] at hl; simpa using hl
  · have e := Wd.part_more n o N hd nz (by rw [h]; simpa using hq) hq
    rw [← e] at hl; simp at hl; omega
theorem Wd.cat_text (a b c : List UInt8) (h : a ++ b = c) : (({ data := a.toArray } : ByteArray) ++ { data := b.toArray }) = ⟨c.toArray⟩ := by
  subst h
  apply ByteArray.ext
  simp

set_option maxRecDepth 100000 in
set_option maxHeartbeats 4000000 in
theorem String_w (v : Int) (hf : Wd.fit v) (w : World) :
    Calls Try.prog 31 #[Value.agg #[.int .u64 (Wd.hi (v)), .int .u64 (Wd.lo (v))]] w fun e w' => e = .returned (.string ⟨(Wd.text v).toArray⟩) ∧ Below w.heap.size w w' := by
  have ba := Wd.ab_nonneg v
  have ba1 := Wd.ab_le v hf
  have ob := fun x W => one_byte x W
  obtain ⟨N, hN⟩ := Int.eq_ofNat_of_zero_le ba
  have hN1 : N ≤ 170141183460469231731687303715884105728 := by omega
  have HN := Lib.hid hN
  go_enter Try.func31, Try.ntmps31
  go_wp2_with fail
  refine (size_w v hf _).mono ?_
  rintro e w1 ⟨rfl, hb1⟩
  obtain ⟨hc_hb1, hf_hb1⟩ := bcell hb1; have hz_hb1 := Below.size hb1; (try simp at hz_hb1); have z0_hb1 : w.heap.size < w1.heap.size := (by omega); have c00_hb1 := hc_hb1 (w.heap.size) 0 (by (try simp) <;> omega); have f00_hb1 := hf_hb1 (w.heap.size) 0 (by (try simp) <;> omega); have c01_hb1 := hc_hb1 (w.heap.size) 1 (by (try simp) <;> omega); have f01_hb1 := hf_hb1 (w.heap.size) 1 (by (try simp) <;> omega); clear hc_hb1 hf_hb1; (try simp [*, go_sem] at c00_hb1); (try simp [*, go_sem] at f00_hb1); (try simp [*, go_sem] at c01_hb1); (try simp [*, go_sem] at f01_hb1)
  rw [hN]
  clear ba ba1 hN
  go_wp2_with fail
  go_loopg [4] (N + 1) (fun k s4 wr => ∃ (n : Nat) (o : List UInt8), s4 = .string ⟨o.toArray⟩ ∧ n < k ∧ n ≤ 170141183460469231731687303715884105728 ∧ Wd.dg n ++ o = Wd.dg N ∧ wr.cell? ⟨w1.heap.size, 0, none⟩ = some (.int .u64 (Wd.hi (n : Int))) ∧ wr.cell? ⟨w1.heap.size, 1, none⟩ = some (.int .u64 (Wd.lo (n : Int))) ∧ wr.frozen? ⟨w1.heap.size, 0, none⟩ = false ∧ wr.frozen? ⟨w1.heap.size, 1, none⟩ = false ∧ w1.heap.size < wr.heap.size ∧ Below w1.heap.size w1 wr)
  case atStart =>
    refine ⟨N, [], rfl, by omega, hN1, by simp, ?_, ?_, ?_, ?_, ?_, ?_⟩
    all_goals first | (go_simp; done) | (simp; done) | skip
    (repeat' (first | exact Below.refl _ _ | assumption | refine Below.drew ?_ | refine Below.alloc ?_ ?_ _ | refine Below.setCell ?_ ?_ _ | (apply below_via; assumption) | (simp; done) | omega | (simp; omega)))
  case round =>
    obtain ⟨n, o, rfl, hk, hn, hd, c0, c1, f0, f1, z1, bW⟩ := hrel
    have a0 := (bW.cell (p := ⟨w.heap.size, 0, none⟩) z0_hb1).trans c00_hb1
    have a1 := (bW.cell (p := ⟨w.heap.size, 1, none⟩) z0_hb1).trans c01_hb1
    have HB := Lib.hid (hb1.trans (bW.mono (by simp; omega)))
    go_wp2_with fail
    refine (quo_w (n : Int) _ (by omega) (by omega) (by omega) (by omega) _).mono ?_
    rintro e w2 ⟨rfl, hb2⟩
    obtain ⟨hc_hb2, hf_hb2⟩ := bcell hb2; have hz_hb2 := Below.size hb2; (try simp at hz_hb2); have z0_hb2 : w.heap.size < w2.heap.size := (by omega); have c00_hb2 := hc_hb2 (w.heap.size) 0 (by (try simp) <;> omega); have f00_hb2 := hf_hb2 (w.heap.size) 0 (by (try simp) <;> omega); have c01_hb2 := hc_hb2 (w.heap.size) 1 (by (try simp) <;> omega); have f01_hb2 := hf_hb2 (w.heap.size) 1 (by (try simp) <;> omega); clear hc_hb2 hf_hb2; (try simp [*, go_sem] at c00_hb2); (try simp [*, go_sem] at f00_hb2); (try simp [*, go_sem] at c01_hb2); (try simp [*, go_sem] at f01_hb2)
    go_upto_block 2 with fail
    rw [show ((n : Int) % 1000000000000000000) = ((n % 1000000000000000000 : Nat) : Int) from by omega]
    have hR0 : n % 1000000000000000000 < 1000000000000000000 := Nat.mod_lt _ (by decide)
    generalize hW : World.alloc _ _ = W
    have d0 : W.cell? ⟨w2.heap.size, 0, none⟩ = some (.int .u64 (Wd.hi ((n : Int) / 1000000000000000000))) := by subst hW; (first | (go_simp; done) | (simp [*]; done))
    have d1 : W.cell? ⟨w2.heap.size, 1, none⟩ = some (.int .u64 (Wd.lo ((n : Int) / 1000000000000000000))) := by subst hW; (first | (go_simp; done) | (simp [*]; done))
    have d8 : w2.heap.size < W.heap.size := by subst hW; simp
    have dW : Below w2.heap.size w2 W := by subst hW; (repeat' (first | exact Below.refl _ _ | assumption | refine Below.drew ?_ | refine Below.alloc ?_ ?_ _ | refine Below.setCell ?_ ?_ _ | (apply below_via; assumption) | (simp; done) | omega | (simp; omega)))
    clear hW
    obtain ⟨nz, hnz⟩ : ∃ nz : Bool, nz = !(n / 1000000000000000000 == 0) := ⟨_, rfl⟩
    have HZ := Lib.hid hnz
    clear hnz
    go_cut [6, 7] from 10 to 43 (fun s6 s7 wx => s7 = .string ⟨(Wd.part n nz).toArray⟩ ∧ Below W.heap.size W wx)
    case first =>
      clear c0 c1 f0 f1 z1 bW a0 a1 hb2 hz_hb2 z0_hb2 f00_hb2 f01_hb2 c00_hb2 c01_hb2 dW hb1 hz_hb1 z0_hb1 c00_hb1 c01_hb1 f00_hb1 f01_hb1
      generalize w2.heap.size = g5 at *
      obtain ⟨R0, hR⟩ : ∃ R0, R0 = n % 1000000000000000000 := ⟨_, rfl⟩
      rw [← hR] at hR0 ⊢
      have HR := Lib.hid hR
      clear hR
      by_cases hq : n / 1000000000000000000 = 0
      · have hqi : ((n : Int) / 1000000000000000000) = 0 := by omega
        rw [hqi, Wd.hi_zero] at d0
        rw [hqi, Wd.lo_zero] at d1
        clear hqi
        have HQ := Lib.hid hq
        clear hq
        go_wp2_with fail
        go_loopg [6, 7] 19 (fun m r p wi => ∃ k : Nat, m = 19 - k ∧ k ≤ 18 ∧ r = .int .u64 (Wd.sh R0 k : Int) ∧ p = .string ⟨(Wd.ld k R0).toArray⟩ ∧ (k = 0 ∨ Wd.sh R0 (k - 1) ≠ 0) ∧ Below W.heap.size W wi)
        case atStart => exact ⟨0, rfl, by omega, by unfold Wd.sh; rw [Nat.pow_zero, Nat.div_one], rfl, Or.inl rfl, Below.refl _ _⟩
        case round =>
          obtain ⟨k, rfl, hk18, rfl, rfl, hmin, bI⟩ := hrel
          obtain ⟨hcI, hfI⟩ := bcell bI
          have zI := bI.size
          have hl := Wd.ld_len k R0
          have hdk : Wd.sh R0 k < 1000000000000000000 := Nat.lt_of_le_of_lt (Nat.div_le_self _ _) hR0
          by_cases hk' : k < 18
          · have ht : decide (((Wd.ld k R0).length : Int) < 18) = true := by rw [hl]; simp; omega
            have hlen : (Wd.ld k R0).length < 18 := by omega
            have HM := Lib.hid hmin
            clear hl hmin
            by_cases h0 : Wd.sh R0 k = 0
            · have ht0 : decide ((0 : Int) < (Wd.sh R0 k : Int)) = false := by rw [h0]; rfl
              have H0 := Lib.hid h0
              clear h0
              go_wp2
              go_meet
              exact ⟨by rw [Wd.part_zero n k (by rw [HZ.out, HQ.out]; rfl) HQ.out (by rw [← HR.out]; exact H0.out) (by rw [← HR.out]; exact HM.out), ← HR.out], bI⟩

            · have hp : (0 : Int) < (Wd.sh R0 k : Int) := by omega
              have H0 := Lib.hid h0
              clear h0
              go_wp2
              go_roundg (18 - k)
              case measure => omega
              case rel => exact ⟨k + 1, by omega, by omega, by rw [Wd.int_digit R0 k], Wd.text_cons R0 k, Or.inr H0.out, (bI.alloc (by omega) _)⟩

          · obtain rfl : k = 18 := by omega
            have ht : decide (((Wd.ld 18 R0).length : Int) < 18) = false := by rw [hl]; rfl
            have HM := Lib.hid hmin
            clear hl hk' hk18 hmin
            go_wp2
            go_meet
            exact ⟨by rw [Wd.part_zero n 18 (by rw [HZ.out, HQ.out]; rfl) HQ.out (by rw [← HR.out]; exact (Nat.div_eq_of_lt (by rw [show 10 ^ 18 = 1000000000000000000 from by decide]; exact hR0))) (by rw [← HR.out]; exact HM.out), ← HR.out], bI⟩

      · have hzt : nz = true := by rw [HZ.out]; simpa using hq
        by_cases hh : Wd.hi ((n : Int) / 1000000000000000000) = 0
        · have hlq : (Wd.lo ((n : Int) / 1000000000000000000) == 0) = false := by
            have : Wd.lo ((n : Int) / 1000000000000000000) ≠ 0 := by unfold Wd.hi at hh; unfold Wd.lo; omega
            simpa using this
          rw [hh] at d0
          have HT := Lib.hid hzt
          clear hq hh hzt
          go_wp2_with fail
          go_loopg [6, 7] 19 (fun m r p wi => ∃ k : Nat, m = 19 - k ∧ k ≤ 18 ∧ r = .int .u64 (Wd.sh R0 k : Int) ∧ p = .string ⟨(Wd.ld k R0).toArray⟩ ∧ True ∧ Below W.heap.size W wi)
          case atStart => exact ⟨0, rfl, by omega, by unfold Wd.sh; rw [Nat.pow_zero, Nat.div_one], rfl, trivial, Below.refl _ _⟩
          case round =>
            obtain ⟨k, rfl, hk18, rfl, rfl, hmin, bI⟩ := hrel
            obtain ⟨hcI, hfI⟩ := bcell bI
            have zI := bI.size
            have hl := Wd.ld_len k R0
            have hdk : Wd.sh R0 k < 1000000000000000000 := Nat.lt_of_le_of_lt (Nat.div_le_self _ _) hR0
            by_cases hk' : k < 18
            · have ht : decide (((Wd.ld k R0).length : Int) < 18) = true := by rw [hl]; simp; omega
              have hlen : (Wd.ld k R0).length < 18 := by omega
              have HM := Lib.hid hmin
              clear hl hmin
              by_cases h0 : Wd.sh R0 k = 0
              · have ht0 : decide ((0 : Int) < (Wd.sh R0 k : Int)) = false := by rw [h0]; rfl
                have H0 := Lib.hid h0
                clear h0
                go_wp2
                go_roundg (18 - k)
                case measure => omega
                case rel => exact ⟨k + 1, by omega, by omega, by rw [Wd.sh_zero R0 k H0.out]; rfl, Wd.text_zero R0 k H0.out, trivial, (bI.alloc (by omega) _)⟩

              · have hp : (0 : Int) < (Wd.sh R0 k : Int) := by omega
                have H0 := Lib.hid h0
                clear h0
                go_wp2
                go_roundg (18 - k)
                case measure => omega
                case rel => exact ⟨k + 1, by omega, by omega, by rw [Wd.int_digit R0 k], Wd.text_cons R0 k, trivial, (bI.alloc (by omega) _)⟩

            · obtain rfl : k = 18 := by omega
              have ht : decide (((Wd.ld 18 R0).length : Int) < 18) = false := by rw [hl]; rfl
              have HM := Lib.hid hmin
              clear hl hk' hk18 hmin
              go_wp2
              go_meet
              exact ⟨by rw [HT.out, HR.out]; rfl, bI⟩

        · have hhq : (Wd.hi ((n : Int) / 1000000000000000000) == 0) = false := by simpa using hh
          have HT := Lib.hid hzt
          clear hq hh hzt
          go_wp2_with fail
          go_loopg [6, 7] 19 (fun m r p wi => ∃ k : Nat, m = 19 - k ∧ k ≤ 18 ∧ r = .int .u64 (Wd.sh R0 k : Int) ∧ p = .string ⟨(Wd.ld k R0).toArray⟩ ∧ True ∧ Below W.heap.size W wi)
          case atStart => exact ⟨0, rfl, by omega, by unfold Wd.sh; rw [Nat.pow_zero, Nat.div_one], rfl, trivial, Below.refl _ _⟩
          case round =>
            obtain ⟨k, rfl, hk18, rfl, rfl, hmin, bI⟩ := hrel
            obtain ⟨hcI, hfI⟩ := bcell bI
            have zI := bI.size
            have hl := Wd.ld_len k R0
            have hdk : Wd.sh R0 k < 1000000000000000000 := Nat.lt_of_le_of_lt (Nat.div_le_self _ _) hR0
            by_cases hk' : k < 18
            · have ht : decide (((Wd.ld k R0).length : Int) < 18) = true := by rw [hl]; simp; omega
              have hlen : (Wd.ld k R0).length < 18 := by omega
              have HM := Lib.hid hmin
              clear hl hmin
              by_cases h0 : Wd.sh R0 k = 0
              · have ht0 : decide ((0 : Int) < (Wd.sh R0 k : Int)) = false := by rw [h0]; rfl
                have H0 := Lib.hid h0
                clear h0
                go_wp2
                go_roundg (18 - k)
                case measure => omega
                case rel => exact ⟨k + 1, by omega, by omega, by rw [Wd.sh_zero R0 k H0.out]; rfl, Wd.text_zero R0 k H0.out, trivial, (bI.alloc (by omega) _)⟩

              · have hp : (0 : Int) < (Wd.sh R0 k : Int) := by omega
                have H0 := Lib.hid h0
                clear h0
                go_wp2
                go_roundg (18 - k)
                case measure => omega
                case rel => exact ⟨k + 1, by omega, by omega, by rw [Wd.int_digit R0 k], Wd.text_cons R0 k, trivial, (bI.alloc (by omega) _)⟩

            · obtain rfl : k = 18 := by omega
              have ht : decide (((Wd.ld 18 R0).length : Int) < 18) = false := by rw [hl]; rfl
              have HM := Lib.hid hmin
              clear hl hk' hk18 hmin
              go_wp2
              go_meet
              exact ⟨by rw [HT.out, HR.out]; rfl, bI⟩

    case rest =>
      obtain ⟨rfl, bX⟩ := hcut
      have xz := bX.size
      have e0 := (bX.cell (p := ⟨w2.heap.size, 0, none⟩) d8).trans d0
      have e1 := (bX.cell (p := ⟨w2.heap.size, 1, none⟩) d8).trans d1
      have zr2 : wr.heap.size ≤ w2.heap.size := hz_hb2
      have zg : w1.heap.size < w2.heap.size := by omega
      have b1 : Below wr.heap.size wr wc := hb2.trans ((dW.trans (bX.mono (by omega))).mono zr2)
      have bL : Below w1.heap.size w1 wc := bW.trans (b1.mono (by omega))
      have k0 := (b1.cell (p := ⟨w1.heap.size, 0, none⟩) z1).trans c0
      have k1 := (b1.cell (p := ⟨w1.heap.size, 1, none⟩) z1).trans c1
      have j0 := (b1.frozen (p := ⟨w1.heap.size, 0, none⟩) z1).trans f0
      have j1 := (b1.frozen (p := ⟨w1.heap.size, 1, none⟩) z1).trans f1
      have l0 := (bL.cell (p := ⟨w.heap.size, 0, none⟩) z0_hb1).trans c00_hb1
      have l1 := (bL.cell (p := ⟨w.heap.size, 1, none⟩) z0_hb1).trans c01_hb1
      have zc2 : w2.heap.size < wc.heap.size := by omega
      have zc1 : w1.heap.size < wc.heap.size := by omega
      have hlen := Wd.part_len n o N hd hN1 nz HZ.out
      clear c0 c1 f0 f1 bW a0 a1 hb2 hz_hb2 z0_hb2 f00_hb2 f01_hb2 c00_hb2 c01_hb2 dW bX d0 d1 b1
      by_cases hq : n / 1000000000000000000 = 0
      · have hqi : ((n : Int) / 1000000000000000000) = 0 := by omega
        rw [hqi, Wd.hi_zero] at e0
        rw [hqi, Wd.lo_zero] at e1
        have hout := Wd.part_out n o N hd nz (by rw [HZ.out, hq]; rfl)
        clear hqi hq
        have HO := Lib.hid hout
        clear hout
        go_upto_region 11 with fail
        rw [Wd.cat_text _ _ _ HO.out]
        clear hlen HO
        have HBW := Lib.hid (hb1.trans (bL.mono (by simp; omega)))
        have hNl := Wd.dg_len 40 N (Nat.lt_of_le_of_lt hN1 (by decide))
        by_cases hN0 : N = 0
        · subst hN0
          rw [Wd.dg_zero]
          go_wp2
          have hv : Wd.text v = [48] := Wd.text_zero_of v HN.out
          rw [hv]
          go_ret
          exact ⟨rfl, (Below.alloc (Below.refl _ _) (Nat.le_refl _) _).trans (HBW.out.mono (by simp))⟩
        · have hne : ¬ Wd.dg N = [] := Wd.dg_ne N hN0
          have hnb : (Wd.dg N).isEmpty = false := by simpa using hne
          by_cases hv : v < 0
          · have hx := Wd.hi_ge v hf hv
            have ht := Wd.text_neg v N HN.out hv
            have HT := Lib.hid ht
            clear ht hN0
            go_wp2_with fail
            refine (below_w _ _ _).mono ?_
            rintro e w5 ⟨rfl, hb5⟩
            go_wp2
            rw [HT.out]
            go_ret
            exact ⟨ret_text _ _ (Wd.cat_text [45] _ _ rfl), ((Below.alloc (Below.refl _ _) (Nat.le_refl _) _).trans (HBW.out.mono (by simp))).trans (hb5.mono (by omega))⟩
          · have hx := Wd.hi_lt v hf (by omega)
            have ht := Wd.text_pos v N HN.out (by omega) hN0
            have HT := Lib.hid ht
            clear ht hN0
            go_wp2_with fail
            refine (below_w _ _ _).mono ?_
            rintro e w5 ⟨rfl, hb5⟩
            go_wp2
            rw [HT.out]
            go_ret
            exact ⟨rfl, ((Below.alloc (Below.refl _ _) (Nat.le_refl _) _).trans (HBW.out.mono (by simp))).trans (hb5.mono (by omega))⟩
      · have hm := Wd.part_more n o N hd nz (by rw [HZ.out]; simpa using hq) hq
        have HM := Lib.hid hm
        have hn2 : n / 1000000000000000000 < gk - 1 := by omega
        clear hm
        by_cases hh : Wd.hi ((n : Int) / 1000000000000000000) = 0
        · have hlq : (Wd.lo ((n : Int) / 1000000000000000000) == 0) = false := by
            have : Wd.lo ((n : Int) / 1000000000000000000) ≠ 0 := by unfold Wd.hi at hh; unfold Wd.lo; omega
            simpa using this
          rw [hh] at e0
          have HH := Lib.hid hh
          clear hh hq
          go_wp2
          go_roundg (n / 1000000000000000000 + 1)
          case measure => omega
          case rel =>
            have eq : ((n / 1000000000000000000 : Nat) : Int) = (n : Int) / 1000000000000000000 := by omega
            refine ⟨n / 1000000000000000000, Wd.part n nz ++ o, by rw [Wd.cat_text _ _ _ rfl], by omega, by omega, HM.out, ?_, ?_, ?_, ?_, ?_, ?_⟩
            · rw [eq, HH.out]; (first | (go_simp; done) | (simp [*]; done))
            · rw [eq]; (first | (go_simp; done) | (simp [*]; done))
            · (first | (go_simp; done) | (simp [*]; done))
            · (first | (go_simp; done) | (simp [*]; done))
            · simp; omega
            · exact (bL.setCell (Nat.le_refl _) _).setCell (Nat.le_refl _) _
        · have hhq : (Wd.hi ((n : Int) / 1000000000000000000) == 0) = false := by simpa using hh
          clear hh hq
          go_wp2
          go_roundg (n / 1000000000000000000 + 1)
          case measure => omega
          case rel =>
            have eq : ((n / 1000000000000000000 : Nat) : Int) = (n : Int) / 1000000000000000000 := by omega
            refine ⟨n / 1000000000000000000, Wd.part n nz ++ o, by rw [Wd.cat_text _ _ _ rfl], by omega, by omega, HM.out, ?_, ?_, ?_, ?_, ?_, ?_⟩
            · rw [eq]; (first | (go_simp; done) | (simp [*]; done))
            · rw [eq]; (first | (go_simp; done) | (simp [*]; done))
            · (first | (go_simp; done) | (simp [*]; done))
            · (first | (go_simp; done) | (simp [*]; done))
            · simp; omega
            · exact (bL.setCell (Nat.le_refl _) _).setCell (Nat.le_refl _) _

end Go.Proofs.Ytfiaobhkhedpiaa
