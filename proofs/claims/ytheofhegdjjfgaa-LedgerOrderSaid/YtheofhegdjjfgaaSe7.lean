/- Entries picked in whatever order; two slices of digits as one entry. -/
import Derived.Test.YtheofhegdjjfgaaSe6
namespace Go.Proofs.Ytheofhegdjjfgaa
open Go.RowKit
variable {n : Nat} {F0 : Nat → Prop} {w0 w : World} {a : Act} {L : List (Nat × Value)} {Γ : List Asn}

inductive Rem (X : Asn) : List Asn → List Asn → Prop
  | head {Γ : List Asn} : Rem X (X :: Γ) Γ
  | tail {Y : Asn} {Γ Δ : List Asn} (h : Rem X Γ Δ) : Rem X (Y :: Γ) (Y :: Δ)
inductive Pick : List Asn → List Asn → Prop
  | nil {Γ : List Asn} : Pick Γ []
  | cons {X : Asn} {Γ Δ Γ' : List Asn} (h : Rem X Γ Δ) (h2 : Pick Δ Γ') : Pick Γ (X :: Γ')
theorem Rem.perm {X : Asn} {Γ Δ : List Asn} (h : Rem X Γ Δ) : List.Perm Γ (X :: Δ) := by
  induction h with
  | head => exact List.Perm.refl _
  | tail _ ih => exact (List.Perm.cons _ ih).trans (List.Perm.swap _ _ _)
theorem Pick.perm {Γ Γ' : List Asn} (h : Pick Γ Γ') : ∃ Δ, List.Perm Γ (Γ' ++ Δ) := by
  induction h with
  | nil => exact ⟨_, List.Perm.refl _⟩
  | cons h _ ih =>
    obtain ⟨Δ, hd⟩ := ih
    exact ⟨Δ, h.perm.trans (List.Perm.cons _ hd)⟩
/-- some of the entries, in whatever order. -/
theorem St.pick (h : St n F0 w0 a w L Γ) {Γ' : List Asn} (hp : Pick Γ Γ') : St n F0 w0 a w L Γ' := by
  obtain ⟨Δ, hd⟩ := hp.perm
  exact (h.perm hd.symm).drop (List.sublist_append_left _ _)
end Go.Proofs.Ytheofhegdjjfgaa
