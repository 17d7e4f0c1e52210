/- Digits of a whole number. Plain. -/
import Derived.Test.YtfiaobhkhedpiaaWdQ
namespace Go.Proofs.Ytfiaobhkhedpiaa
namespace Wd

/-- the byte of a digit. -/
def dig (n : Nat) : UInt8 := UInt8.ofNat (48 + n % 10)
/-- the decimal digits of a number, without 0 at the head; none of 0. -/
def dg (n : Nat) : List UInt8 := if n = 0 then [] else dg (n / 10) ++ [dig n]
 termination_by n
 decreasing_by omega
/-- the last k digits. -/
def ld : Nat → Nat → List UInt8
  | 0, _ => []
  | k + 1, n => ld k (n / 10) ++ [dig n]
theorem dg_zero : dg 0 = [] := by rw [dg]; simp
theorem dg_pos (n : Nat) (h : n ≠ 0) : dg n = dg (n / 10) ++ [dig n] := by rw [dg]; simp [h]
theorem ld_len : ∀ k n, (ld k n).length = k
  | 0, _ => rfl
  | k + 1, n => by simp [ld, ld_len k]
/-- a digit more at the head. -/
theorem ld_cons : ∀ k n, dig (n / 10 ^ k) :: ld k n = ld (k + 1) n
  | 0, n => by simp [ld]
  | k + 1, n => by
    have ih := ld_cons k (n / 10)
    have e : n / 10 ^ (k + 1) = n / 10 / 10 ^ k := by rw [Nat.pow_succ, Nat.mul_comm, Nat.div_div_eq_div_mul]
    rw [e]
    show _ :: (ld k (n / 10) ++ [dig n]) = ld (k + 1) (n / 10) ++ [dig n]
    rw [← ih]; rfl
theorem dg_ld : ∀ k n, dg n = if n / 10 ^ k = 0 then dg n else dg (n / 10 ^ k) ++ ld k n
  | 0, n => by simp [ld]
  | k + 1, n => by
    split
    · rfl
    · rename_i h
      have e : n / 10 ^ (k + 1) = n / 10 / 10 ^ k := by rw [Nat.pow_succ, Nat.mul_comm, Nat.div_div_eq_div_mul]
      have hn : n ≠ 0 := fun h0 => h (by rw [h0]; simp)
      have ih := dg_ld k (n / 10)
      rw [e] at h ⊢
      rw [if_neg h] at ih
      rw [dg_pos n hn, ih]
      simp [ld]
/-- all digits: where nothing is left above them. -/
theorem dg_all : ∀ k n, n / 10 ^ k = 0 → (k = 0 ∨ n / 10 ^ (k - 1) ≠ 0) → dg n = ld k n
  | 0, n, h, _ => by simp at h; subst h; exact dg_zero
  | k + 1, n, h, h1 => by
    have h2 : n / 10 ^ k ≠ 0 := by simpa using h1
    have e := dg_ld k n
    rw [if_neg h2] at e
    rw [e, ← ld_cons, dg_pos _ h2]
    have e2 : n / 10 ^ k / 10 = 0 := by rw [Nat.div_div_eq_div_mul, ← Nat.pow_succ]; exact h
    rw [e2, dg_zero]; rfl
theorem ld_mod : ∀ k n, ld k (n % 10 ^ k) = ld k n
  | 0, _ => rfl
  | k + 1, n => by
    have e1 : n % 10 ^ (k + 1) / 10 = n / 10 % 10 ^ k := by rw [Nat.pow_succ, Nat.mul_comm, Nat.mod_mul_right_div_self]
    have e2 : n % 10 ^ (k + 1) % 10 = n % 10 := Nat.mod_mod_of_dvd n ⟨10 ^ k, by rw [Nat.pow_succ, Nat.mul_comm]⟩
    show ld k (n % 10 ^ (k + 1) / 10) ++ [dig (n % 10 ^ (k + 1))] = ld k (n / 10) ++ [dig n]
    rw [e1, ld_mod k]
    unfold dig
    rw [e2]
/-- a group of eighteen digits. -/
theorem dg_group (n : Nat) (h : n / 1000000000000000000 ≠ 0) : dg n = dg (n / 1000000000000000000) ++ ld 18 (n % 1000000000000000000) := by
  have e := dg_ld 18 n
  have e3 := ld_mod 18 n
  have p : 10 ^ 18 = 1000000000000000000 := by decide
  rw [p] at e e3
  rw [if_neg h] at e
  rw [e3]; exact e

/-- the digits of a whole number, a minus sign ahead below 0. -/
def text (v : Int) : List UInt8 := if v = 0 then [48] else if v < 0 then 45 :: dg (ab v).toNat else dg (ab v).toNat
theorem dg_ne (n : Nat) (h : n ≠ 0) : dg n ≠ [] := by rw [dg_pos n h]; simp

end Wd
end Go.Proofs.Ytfiaobhkhedpiaa
