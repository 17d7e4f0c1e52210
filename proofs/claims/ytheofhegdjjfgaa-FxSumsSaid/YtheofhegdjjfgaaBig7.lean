/- Numbers by digits in base 10000, walked: what a 128-bit Int is worth, and whether a number is one. -/
import Derived.Test.YtheofhegdjjfgaaBig6
import Derived.Test.YtheofhegdjjfgaaWdM
namespace Go.Proofs.Ytheofhegdjjfgaa
open Go.RowKit

section
variable {n : Nat} {F0 : Nat → Prop} {w0 w : World} {a : Act} {L : List (Nat × Value)} {Γ : List Asn}
theorem two_bb (hS : St n F0 w0 a w L Γ) {x y : Int} {b c : Nat} (h1 : bigA x b ∈ Γ) (h2 : bigA y c ∈ Γ) : (twoA (some (b, 0)) (some (c, 0)) (dgs x.natAbs) (dgs y.natAbs)).ok w :=
  two_ok (hS.get h1) (hS.get h2) (fun r e => by cases e; exact (hS.ok _ h1).lt b rfl) (fun r e => by cases e; exact (hS.ok _ h2).lt c rfl)
theorem two_ob (hS : St n F0 w0 a w L Γ) {xs : List Int} {y : Int} {p : Option (Nat × Nat)} {c : Nat} (h1 : oneA p xs ∈ Γ) (h2 : bigA y c ∈ Γ) : (twoA p (some (c, 0)) xs (dgs y.natAbs)).ok w :=
  two_ok (hS.get h1) (hS.get h2) (fun r e => (hS.ok _ h1).lt r.1 ⟨r.2, e⟩) (fun r e => by cases e; exact (hS.ok _ h2).lt c rfl)
theorem two_bo (hS : St n F0 w0 a w L Γ) {xs : List Int} {y : Int} {p : Option (Nat × Nat)} {c : Nat} (h1 : bigA y c ∈ Γ) (h2 : oneA p xs ∈ Γ) : (twoA (some (c, 0)) p (dgs y.natAbs) xs).ok w :=
  two_ok (hS.get h1) (hS.get h2) (fun r e => by cases e; exact (hS.ok _ h1).lt c rfl) (fun r e => (hS.ok _ h2).lt r.1 ⟨r.2, e⟩)
theorem row_b (hS : St n F0 w0 a w L Γ) {x : Int} {b : Nat} (h1 : bigA x b ∈ Γ) : RowP (some (b, 0)) 1 ((dgs x.natAbs).map encD) w ∧ ∀ r, some (b, 0) = some r → r.1 < w.heap.size :=
  ⟨hS.get h1, fun r e => by cases e; exact (hS.ok _ h1).lt b rfl⟩
end

theorem len20 {z : Int} (h : z.natAbs < 100000000000000000000000000000000000000000000000000000000000000000000000000000000) : (dgs z.natAbs).length ≤ 20 := dgs_length_le (Nat.lt_of_lt_of_le h (by decide))

def wV (v : Int) : Value := .agg [.int .u64 (Wd.hi v), .int .u64 (Wd.lo v)].toArray
theorem cmpZ_neg {x y : Int} : cmpZ x y < 0 ↔ x < y := by unfold cmpZ; split <;> (try split) <;> omega
theorem cmpZ_ge {x y : Int} : 0 ≤ cmpZ x y ↔ y ≤ x := by unfold cmpZ; split <;> (try split) <;> omega
theorem cmpZ_eq {x y : Int} : cmpZ x y = 0 ↔ x = y := by unfold cmpZ; split <;> (try split) <;> omega
end Go.Proofs.Ytheofhegdjjfgaa

