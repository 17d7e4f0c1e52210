/- Whole numbers by their digits in base 10000, the low one first: plain laws, no program in sight. -/
import Derived.Test.YtfiaobhkhedpiaaSe6
namespace Go.Proofs.Ytfiaobhkhedpiaa

def encD (n : Int) : List Value := [.int .i64 n]
/-- the number of a list of digits. -/
def nv : List Int → Int
  | [] => 0
  | d :: r => d + 10000 * nv r
def inR (l : List Int) : Prop := ∀ d ∈ l, 0 ≤ d ∧ d ≤ 9999
/-- a number's digits. -/
def dgs (n : Nat) : List Int := if n = 0 then [] else ((n % 10000 : Nat) : Int) :: dgs (n / 10000)
 termination_by n
 decreasing_by omega

theorem dgs_zero : dgs 0 = [] := by rw [dgs]; simp
theorem dgs_pos {n : Nat} (h : n ≠ 0) : dgs n = ((n % 10000 : Nat) : Int) :: dgs (n / 10000) := by rw [dgs, if_neg h]
theorem nv_dgs (n : Nat) : nv (dgs n) = n := by
  induction n using Nat.strongRecOn with
  | ind n ih =>
    by_cases h : n = 0
    · subst h; rw [dgs_zero]; rfl
    · rw [dgs_pos h, nv, ih (n / 10000) (by omega)]; omega
theorem inR_dgs (n : Nat) : inR (dgs n) := by
  induction n using Nat.strongRecOn with
  | ind n ih =>
    by_cases h : n = 0
    · subst h; rw [dgs_zero]; intro d hd; cases hd
    · rw [dgs_pos h]
      intro d hd
      rcases List.mem_cons.1 hd with rfl | hd
      · omega
      · exact ih (n / 10000) (by omega) d hd
theorem nv_nonneg {l : List Int} (h : inR l) : 0 ≤ nv l := by
  induction l with
  | nil => exact Int.le_refl _
  | cons d r ih =>
    have h1 := h d (.head _)
    have h2 := ih (fun x hx => h x (.tail _ hx))
    rw [nv]; omega
theorem inR_tail {d : Int} {r : List Int} (h : inR (d :: r)) : inR r := fun x hx => h x (.tail _ hx)
theorem inR_take {l : List Int} (h : inR l) (n : Nat) : inR (l.take n) := fun x hx => h x (List.mem_of_mem_take hx)
theorem inR_snoc {l : List Int} (h : inR l) {d : Int} (hd : 0 ≤ d ∧ d ≤ 9999) : inR (l ++ [d]) := by
  intro x hx
  rcases List.mem_append.1 hx with hx | hx
  · exact h x hx
  · obtain rfl := List.mem_singleton.1 hx; exact hd
theorem nv_append (l r : List Int) : nv (l ++ r) = nv l + 10000 ^ l.length * nv r := by
  induction l with
  | nil => simp [nv]
  | cons d l ih => simp only [List.cons_append, nv, ih, List.length_cons, Int.pow_succ]; rw [Int.mul_add, Int.mul_comm (10000 ^ l.length) 10000, Int.mul_assoc]; omega
theorem nv_snoc (l : List Int) (d : Int) : nv (l ++ [d]) = nv l + 10000 ^ l.length * d := by
  rw [nv_append]; simp [nv]
/-- no 0 at the top: the digits. -/
theorem dgs_of {l : List Int} (h : inR l) (ht : ∀ r d, l = r ++ [d] → d ≠ 0) : l = dgs (nv l).toNat := by
  induction l with
  | nil => simp [nv, dgs_zero]
  | cons d r ih =>
    have h1 := h d (.head _)
    have h2 := nv_nonneg (inR_tail h)
    have ih' := ih (inR_tail h) (fun r' d' e => ht (d :: r') d' (by rw [e]; rfl))
    have hn : (nv (d :: r)).toNat ≠ 0 := by
      rw [nv]
      cases r with
      | nil =>
        have := ht [] d rfl
        simp only [nv]; omega
      | cons d' r' =>
        intro e
        have e1 : nv (d' :: r') = 0 := by omega
        rw [e1] at ih'
        rw [show (0 : Int).toNat = 0 from rfl, dgs_zero] at ih'
        cases ih'
    rw [dgs_pos hn]
    have e1 : ((nv (d :: r)).toNat % 10000 : Nat) = d := by rw [nv]; omega
    have e2 : (nv (d :: r)).toNat / 10000 = (nv r).toNat := by rw [nv]; omega
    rw [e1, e2, ← ih']
/-- zeros at the top make no difference. -/
theorem trim_step {l : List Int} {n : Nat} (hd : l[n]? = some 0) : nv (l.take (n + 1)) = nv (l.take n) := by
  rw [List.take_add_one, hd]
  simp only [Option.toList]
  rw [nv_snoc]; simp
theorem trim_end {l : List Int} (h : inR l) {n : Nat} (hn : n ≤ l.length) (hd : n = 0 ∨ ∃ d, l[n - 1]? = some d ∧ d ≠ 0) (hv : nv (l.take n) = nv l) : l.take n = dgs (nv l).toNat := by
  rw [← hv]
  refine dgs_of (inR_take h n) (fun r d e => ?_)
  rcases hd with rfl | ⟨d', hd', hne⟩
  · simp at e
  · have hl : (l.take n).length = n := by rw [List.length_take]; omega
    have hr : r.length = n - 1 := by
      have := congrArg List.length e
      rw [hl] at this
      simp at this; omega
    have h1 : (l.take n)[n - 1]? = some d := by rw [e, List.getElem?_append_right (by omega), hr]; simp
    rw [List.getElem?_take] at h1
    split at h1
    · rw [hd'] at h1; cases h1; exact hne
    · cases h1
theorem dgs_length_le {n k : Nat} (h : n < 10000 ^ k) : (dgs n).length ≤ k := by
  induction k generalizing n with
  | zero =>
    obtain rfl : n = 0 := by simpa using h
    rw [dgs_zero]; simp
  | succ k ih =>
    by_cases h0 : n = 0
    · subst h0; rw [dgs_zero]; simp
    · rw [dgs_pos h0, List.length_cons]
      have : n / 10000 < 10000 ^ k := by rw [Nat.pow_succ] at h; omega
      have := ih this
      omega
theorem nv_lt {l : List Int} (h : inR l) : nv l < 10000 ^ l.length := by
  induction l with
  | nil => simp [nv]
  | cons d r ih =>
    have h1 := h d (.head _)
    have h2 := ih (inR_tail h)
    rw [nv, List.length_cons, Int.pow_succ]; omega
/-- the comparison from the top. -/
theorem cmp_top {l r : List Int} {d e : Int} {s : List Int} (hl : inR l) (hlen : l.length = r.length) (h : d < e) (hr : inR r) : nv (l ++ d :: s) < nv (r ++ e :: s) := by
  rw [nv_append, nv_append, nv, nv, hlen]
  have h1 := nv_lt hl
  have h2 := nv_nonneg hr
  rw [hlen] at h1
  have h3 : (10000 : Int) ^ r.length * (e + 10000 * nv s) = 10000 ^ r.length * (d + 10000 * nv s) + 10000 ^ r.length * (e - d) := by rw [← Int.mul_add]; congr 1; omega
  have h4 : (10000 : Int) ^ r.length * 1 ≤ 10000 ^ r.length * (e - d) := Int.mul_le_mul_of_nonneg_left (by omega) (Int.le_of_lt (Int.pow_pos (by decide)))
  omega
theorem dgs_pow {n : Nat} (h : n ≠ 0) : (10000 : Int) ^ ((dgs n).length - 1) ≤ n := by
  induction n using Nat.strongRecOn with
  | ind n ih =>
    rw [dgs_pos h, List.length_cons]
    by_cases h0 : n / 10000 = 0
    · rw [h0, dgs_zero]; simp; omega
    · have := ih (n / 10000) (by omega) h0
      have hp : 0 < (dgs (n / 10000)).length := by rw [dgs_pos h0]; simp
      rw [show (dgs (n / 10000)).length + 1 - 1 = ((dgs (n / 10000)).length - 1) + 1 by omega, Int.pow_succ]
      omega
theorem pow_mono {a b : Nat} (h : a ≤ b) : (10000 : Int) ^ a ≤ 10000 ^ b := by
  obtain ⟨k, rfl⟩ := Nat.exists_eq_add_of_le h
  rw [Int.pow_add]
  have h1 : 0 < (10000 : Int) ^ a := Int.pow_pos (by decide)
  have h2 : 1 ≤ (10000 : Int) ^ k := by have : 0 < (10000 : Int) ^ k := Int.pow_pos (by decide); omega
  have := Int.mul_le_mul_of_nonneg_left h2 (Int.le_of_lt h1)
  omega
/-- fewer digits: a lesser number. -/
theorem dgs_lt {m n : Nat} (h : (dgs m).length < (dgs n).length) : m < n := by
  have h1 := nv_lt (inR_dgs m)
  rw [nv_dgs] at h1
  have hn : n ≠ 0 := by rintro rfl; rw [dgs_zero] at h; simp at h
  have h2 := dgs_pow hn
  have h3 := pow_mono (show (dgs m).length ≤ (dgs n).length - 1 by omega)
  omega
theorem dgs_inj {m n : Nat} (h : dgs m = dgs n) : m = n := by
  have h1 := nv_dgs m
  have h2 := nv_dgs n
  rw [h] at h1; omega
theorem dgs_len_mono {m n : Nat} (h : m ≤ n) : (dgs m).length ≤ (dgs n).length := by
  by_cases hh : (dgs n).length < (dgs m).length
  · have := dgs_lt hh; omega
  · omega
theorem dgs_ne {n : Nat} : dgs n ≠ [] ↔ 0 < n := by
  by_cases h : n = 0
  · subst h; simp [dgs_zero]
  · rw [dgs_pos h]; simp; omega
def cmpN (m n : Nat) : Int := if m < n then -1 else if n < m then 1 else 0
end Go.Proofs.Ytfiaobhkhedpiaa
