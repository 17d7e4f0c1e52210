/- Numbers by digits in base 10000, walked: as an int. -/
import Derived.Test.YtheofhegdjjfgaaBig9
import Derived.Test.YtheofhegdjjfgaaNum2
namespace Go.Proofs.Ytheofhegdjjfgaa
open Go.RowKit

theorem dig_nat (n : Nat) : (Wd.dig n).toNat = 48 + n % 10 := by
  unfold Wd.dig
  rw [UInt8.toNat_ofNat']
  omega
theorem dv_dg (n : Nat) : dv (Wd.dg n) = n := by
  induction n using Nat.strongRecOn with
  | ind n ih =>
    by_cases h : n = 0
    · subst h; rw [Wd.dg_zero]; rfl
    · rw [Wd.dg_pos n h, dv_snoc, ih (n / 10) (by omega), dig_nat]; omega
theorem dg_byte (n : Nat) : ∀ c ∈ Wd.dg n, 48 ≤ c.toNat ∧ c.toNat ≤ 57 := by
  induction n using Nat.strongRecOn with
  | ind n ih =>
    by_cases h : n = 0
    · subst h; rw [Wd.dg_zero]; intro c hc; cases hc
    · rw [Wd.dg_pos n h]
      intro c hc
      rcases List.mem_append.1 hc with hc | hc
      · exact ih (n / 10) (by omega) c hc
      · obtain rfl := List.mem_singleton.1 hc
        rw [dig_nat]; omega
theorem dg_head (n : Nat) (h : n ≠ 0) : 49 ≤ byteAt (Wd.dg n) 0 := by
  induction n using Nat.strongRecOn with
  | ind n ih =>
    rw [Wd.dg_pos n h]
    by_cases h0 : n / 10 = 0
    · rw [h0, Wd.dg_zero]
      show 49 ≤ (Wd.dig n).toNat
      rw [dig_nat]; omega
    · have h1 := ih (n / 10) (by omega) h0
      have h2 := Wd.dg_ne (n / 10) h0
      unfold byteAt at *
      cases hd : Wd.dg (n / 10) with
      | nil => exact absurd hd h2
      | cons c r => rw [hd] at h1; exact h1
theorem byteAt_mem {l : List UInt8} {j : Nat} (h : j < l.length) : ∃ c ∈ l, byteAt l j = c.toNat := by
  refine ⟨l[j], List.getElem_mem h, ?_⟩
  unfold byteAt
  rw [List.getD_eq_getElem?_getD, List.getElem?_eq_getElem h]; rfl
theorem ab_nat (z : Int) : (Wd.ab z).toNat = z.natAbs := by unfold Wd.ab; split <;> omega
theorem text_body (z : Int) (h : z ≠ 0) : numBody (Wd.text z) = Wd.dg z.natAbs ∧ (byteAt (Wd.text z) 0 = 45 ↔ z < 0) ∧ (1 < (Wd.text z).length ∨ 0 ≤ z) := by
  have hn : z.natAbs ≠ 0 := by omega
  have h1 := dg_head z.natAbs hn
  have h2 := Wd.dg_ne z.natAbs hn
  unfold Wd.text
  rw [if_neg h, ab_nat]
  by_cases h0 : z < 0
  · rw [if_pos h0]
    have hl : 0 < (Wd.dg z.natAbs).length := List.length_pos_iff.2 h2
    refine ⟨?_, ⟨fun _ => h0, fun _ => rfl⟩, .inl (by simp; omega)⟩
    unfold numBody
    rw [if_pos ⟨by simp; omega, rfl⟩]; rfl
  · rw [if_neg h0]
    refine ⟨?_, ⟨fun e => by omega, fun e => absurd e h0⟩, .inr (by omega)⟩
    unfold numBody
    rw [if_neg (by rintro ⟨_, e⟩; omega)]
theorem text_form (z : Int) : NumForm (Wd.text z) ∧ numVal (Wd.text z) = z := by
  by_cases h : z = 0
  · subst h; exact ⟨by decide, by decide⟩
  · have hn : z.natAbs ≠ 0 := by omega
    obtain ⟨b1, b2, b3⟩ := text_body z h
    have h1 := dg_head z.natAbs hn
    refine ⟨⟨?_, ?_, ?_, ?_⟩, ?_⟩
    · rw [b1]; exact Wd.dg_ne z.natAbs hn
    · rw [b1]; rintro ⟨_, e⟩; omega
    · rw [b1]; rintro ⟨e, _⟩; rw [e] at h1; exact absurd h1 (by decide)
    · rw [b1]
      intro j hj
      obtain ⟨c, hc, e⟩ := byteAt_mem hj
      rw [e]; exact dg_byte _ c hc
    · unfold numVal
      rw [b1, dv_dg]
      by_cases h0 : z < 0
      · rw [if_pos (b2.2 h0)]; omega
      · rw [if_neg (fun e => h0 (b2.1 e))]; omega
def i64R (z : Int) : Int × Bool := if -9223372036854775808 ≤ z ∧ z ≤ 9223372036854775807 then (z, true) else (0, false)
theorem atoi_text (z : Int) : atoiR (Wd.text z) = i64R z := by
  obtain ⟨h1, h2⟩ := text_form z
  unfold atoiR i64R
  rw [h2]
  by_cases h : -9223372036854775808 ≤ z ∧ z ≤ 9223372036854775807
  · rw [if_pos ⟨h1, h⟩, if_pos h]
  · rw [if_neg (fun e => h e.2), if_neg h]
theorem text_size {z : Int} (hz : (dgs z.natAbs).length ≤ 1000) : (Wd.text z).length ≤ 4001 := by
  have hd := dg_size _ z.natAbs dgs_hi
  unfold Wd.text
  rw [ab_nat]
  split
  · simp
  · split
    · rw [List.length_cons]; omega
    · omega
set_option maxRecDepth 100000 in
theorem BigInt_P (p : Option (Nat × Nat)) (c : Nat) (z : Int) (hz : (dgs z.natAbs).length ≤ 1000) (w0 : World) (h : (oneA p (dgs z.natAbs)).ok w0) :
    PureC Try.prog 118 [bigV z p c] w0 (.tuple [.int .i64 (i64R z).1, .bool (i64R z).2].toArray) := by
  have hsz := text_size hz
  refine c_enter [(0, bigV z p c)] [oneA p (dgs z.natAbs)] noB Try.func118 rfl Try.ntmps118 ⟨rfl, trivial⟩ rfl (by intro X hX; obtain rfl := List.mem_singleton.1 hX; exact h) (by simp) (by intro X hX hm; obtain rfl := List.mem_singleton.1 hX; cases hm) ?_
  intro a hS
  refine c_seq ?_
  refine c_region ?_
  refine L_op (s_boxA hS rfl rfl ?_); clear hS a; (try clear w); intro a w b1 hS
  refine L_op (s_e hS (e_assign rfl) rfl ?_); clear hS a; intro a hS
  refine L_op (s_e hS (e_assign rfl) rfl ?_); clear hS a; intro a hS
  refine L_nil ?_
  refine n_then ?_
  refine c_seq ?_
  refine c_region ?_
  refine L_op (s_e hS (e_loadA rfl (by repeat constructor) ty_st44 ty_sz44 (by rfl)) rfl ?_); clear hS a; intro a hS
  refine L_op (s_callP hS (.cons rfl .nil) cf135 rfl (BigText_P p c z hz _ (hS.ok _ (by repeat (first | exact .head _ | refine .tail _ ?_)))) ?_); clear hS a; (try clear w); intro a w hS
  refine L_op (s_callP hS (.cons rfl .nil) cf134 rfl (Atoi_P ⟨(Wd.text z).toArray⟩ (by show (Wd.text z).toArray.size ≤ _; simp; omega) _) ?_); clear hS a; (try clear w); intro a w hS
  simp only [atoi_text] at hS
  refine L_op (s_e hS (e_extract rfl rfl) rfl ?_); clear hS a; intro a hS
  refine L_op (s_e hS (e_extract rfl rfl) rfl ?_); clear hS a; intro a hS
  refine L_op (s_e hS (e_assign rfl) rfl ?_); clear hS a; intro a hS
  refine L_op (s_e hS (e_assign rfl) rfl ?_); clear hS a; intro a hS
  refine L_nil ?_
  refine n_then ?_
  refine wp_ret ?_
  refine c_retN hS Try.results118 (.cons (.tmp rfl) (.cons (.tmp rfl) .nil)) rfl ?_
  exact ⟨rfl, hS.chg⟩
end Go.Proofs.Ytheofhegdjjfgaa
