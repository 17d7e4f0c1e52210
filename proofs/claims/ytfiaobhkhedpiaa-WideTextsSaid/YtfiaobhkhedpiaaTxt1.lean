/- A text read as a wide number: plain laws. -/
import Derived.Test.YtfiaobhkhedpiaaW12
import Derived.Test.YtfiaobhkhedpiaaNum2
import Derived.Laws.RangeString
import Derived.Laws.RangeAny
namespace Go.Proofs.Ytfiaobhkhedpiaa

theorem byteAt_get (s : ByteArray) (j : Nat) (h : j < s.size) : byteAt s.data.toList j = (s[j]'h).toNat := by
  unfold byteAt
  rw [List.getD_eq_getElem?_getD, List.getElem?_eq_getElem (by simpa using h)]
  rfl
def digit (b : Nat) : Prop := 48 ≤ b ∧ b ≤ 57
instance (b : Nat) : Decidable (digit b) := by unfold digit; infer_instance
theorem odd_digit (x : Nat) : Wd.odd x = true ↔ ¬ digit x := by unfold Wd.odd digit; simp; omega
/-- the first place that is no digit: it is there if there is one. -/
theorem idx_odd (s : ByteArray) : ∀ (f pos : Nat), s.size ≤ pos + f → (0 ≤ Lib.idxFuncFrom Wd.odd true s f pos ↔ ∃ j, pos ≤ j ∧ j < s.size ∧ ¬ digit (byteAt s.data.toList j))
  | 0, pos, h => by
    unfold Lib.idxFuncFrom
    constructor
    · intro h1; omega
    · rintro ⟨j, h1, h2, _⟩; omega
  | f + 1, pos, h => by
    unfold Lib.idxFuncFrom
    by_cases hp : pos < s.size
    · rw [if_pos hp]
      by_cases ha : (s[pos]'hp).toNat < 128
      · rw [Go.decode_ascii s pos hp ha]
        simp only
        by_cases ho : Wd.odd (s[pos]'hp).toNat = true
        · rw [if_pos ho]
          refine ⟨fun _ => ⟨pos, Nat.le_refl _, hp, ?_⟩, fun _ => by omega⟩
          rw [byteAt_get s pos hp]; exact (odd_digit _).1 ho
        · rw [if_neg ho, idx_odd s f (pos + 1) (by omega)]
          constructor
          · rintro ⟨j, h1, h2, h3⟩; exact ⟨j, by omega, h2, h3⟩
          · rintro ⟨j, h1, h2, h3⟩
            refine ⟨j, ?_, h2, h3⟩
            by_cases e : j = pos
            · subst e; rw [byteAt_get s j hp] at h3; exact absurd ((odd_digit _).2 h3) ho
            · omega
      · have hd := (Go.decode_high s pos hp (by omega)).1
        have ho : Wd.odd (Utf8.decode s pos).1 = true := (odd_digit _).2 (by unfold digit; omega)
        rw [if_pos ho]
        refine ⟨fun _ => ⟨pos, Nat.le_refl _, hp, ?_⟩, fun _ => by omega⟩
        rw [byteAt_get s pos hp]; unfold digit; omega
    · rw [if_neg hp]
      constructor
      · intro h1; omega
      · rintro ⟨j, h1, h2, _⟩; omega
theorem idx_form (s : ByteArray) : decide (0 ≤ Lib.idxFunc Wd.odd true s) = decide (¬ ∀ j, j < s.data.toList.length → digit (byteAt s.data.toList j)) := by
  have h := idx_odd s s.size 0 (by omega)
  have hl := size_list s
  rw [decide_eq_decide]
  unfold Lib.idxFunc
  rw [h]
  constructor
  · rintro ⟨j, _, h2, h3⟩ h4; exact h3 (h4 j (by omega))
  · intro h1
    by_cases he : ∃ j, 0 ≤ j ∧ j < s.size ∧ ¬ digit (byteAt s.data.toList j)
    · exact he
    · exfalso
      apply h1
      intro j hj
      by_cases hd : digit (byteAt s.data.toList j)
      · exact hd
      · exact absurd ⟨j, Nat.zero_le _, by omega, hd⟩ he
/-- a minus sign ahead. -/
def minus (l : List UInt8) : Bool := Lib.hasPrefix l [45]
def rest (l : List UInt8) : List UInt8 := Lib.trimPrefix l [45]
theorem minus_iff (l : List UInt8) : minus l = true ↔ byteAt l 0 = 45 := by
  unfold minus Lib.hasPrefix byteAt
  cases l with
  | nil => simp
  | cons c r =>
    simp
    constructor
    · rintro rfl; rfl
    · intro h; exact UInt8.toNat.inj (by simpa using h.symm)
theorem rest_of {l : List UInt8} : rest l = if byteAt l 0 = 45 then l.drop 1 else l := by
  unfold rest Lib.trimPrefix
  have h := minus_iff l
  unfold minus at h
  by_cases h1 : byteAt l 0 = 45
  · rw [if_pos (h.2 h1), if_pos h1]; rfl
  · rw [if_neg (fun e => h1 (h.1 e)), if_neg h1]
/-- what refuses a text. -/
def badText (l : List UInt8) : Prop := (rest l = [] ∨ ¬ ∀ j, j < (rest l).length → digit (byteAt (rest l) j)) ∨ (byteAt (rest l) 0 = 48 ∧ (1 < (rest l).length ∨ minus l = true))
theorem bad_iff (l : List UInt8) : badText l ↔ ¬ NumForm l := by
  unfold badText NumForm numBody
  rw [rest_of, minus_iff]
  by_cases h1 : byteAt l 0 = 45
  · rw [if_pos h1]
    by_cases h2 : 1 < l.length
    · rw [if_pos ⟨h2, h1⟩]
      have hne : l.drop 1 ≠ [] := by intro e; have := congrArg List.length e; simp at this; omega
      constructor
      · rintro ((h | h) | ⟨h, h'⟩) ⟨g1, g2, g3, g4⟩
        · exact g1 h
        · exact h g4
        · rcases Nat.lt_or_ge 1 (l.drop 1).length with h5 | h5
          · exact g2 ⟨h5, h⟩
          · refine g3 ⟨?_, h2⟩
            cases e : l.drop 1 with
            | nil => exact absurd e hne
            | cons c r =>
              rw [e] at h h5
              obtain rfl : r = [] := List.eq_nil_of_length_eq_zero (by simpa using h5)
              unfold byteAt at h
              have : c = 48 := UInt8.toNat.inj (by simpa using h)
              rw [this]
      · intro h
        by_cases h3 : ∀ j, j < (l.drop 1).length → digit (byteAt (l.drop 1) j)
        · by_cases h4 : byteAt (l.drop 1) 0 = 48
          · exact .inr ⟨h4, .inr h1⟩
          · exfalso
            refine h ⟨hne, fun e => h4 e.2, fun e => ?_, h3⟩
            rw [e.1] at h4; exact h4 rfl
        · exact .inl (.inr h3)
    · rw [if_neg (fun e => h2 e.1)]
      have hd : l.drop 1 = [] := List.drop_eq_nil_of_le (by omega)
      refine ⟨fun _ => ?_, fun _ => .inl (.inl hd)⟩
      rintro ⟨g1, g2, g3, g4⟩
      have := g4 0 (List.length_pos_iff.2 g1)
      omega
  · rw [if_neg h1, if_neg (fun e => h1 e.2)]
    constructor
    · rintro ((h | h) | ⟨h, h' | h'⟩) ⟨g1, g2, g3, g4⟩
      · exact g1 h
      · exact h g4
      · exact g2 ⟨h', h⟩
      · exact h1 h'
    · intro h
      by_cases h0 : l = []
      · exact .inl (.inl h0)
      · by_cases h3 : ∀ j, j < l.length → digit (byteAt l j)
        · by_cases h4 : 1 < l.length ∧ byteAt l 0 = 48
          · exact .inr ⟨h4.2, .inl h4.1⟩
          · exfalso
            refine h ⟨h0, h4, fun e => ?_, h3⟩
            rw [e.1] at e; exact absurd e.2 (by decide)
        · exact .inl (.inr h3)
theorem rest_body {l : List UInt8} (h : NumForm l) : rest l = numBody l := by
  rw [rest_of]
  unfold numBody
  by_cases h1 : byteAt l 0 = 45
  · rw [if_pos h1]
    by_cases h2 : 1 < l.length
    · rw [if_pos ⟨h2, h1⟩]
    · exfalso
      obtain ⟨g1, g2, g3, g4⟩ := h
      unfold numBody at g1 g4
      rw [if_neg (fun e => h2 e.1)] at g1 g4
      have := g4 0 (List.length_pos_iff.2 g1)
      omega
  · rw [if_neg h1, if_neg (fun e => h1 e.2)]
/-- what reading a text answers: the number, or 0; and the error. -/
def parseV (l : List UInt8) : Int := if NumForm l then Wd.tr (numVal l) else 0
def parseE (l : List UInt8) : Int := if NumForm l then (if Wd.fit (numVal l) then 0 else 6) else 10
def sgB (below : Bool) (n : Nat) : Int := if below then -(n : Int) else n
theorem num_sg {l : List UInt8} (h : NumForm l) : numVal l = sgB (minus l) (dv (rest l)) := by
  have hm := minus_iff l
  rw [rest_body h]
  unfold numVal sgB
  by_cases h1 : byteAt l 0 = 45
  · rw [if_pos h1, if_pos (hm.2 h1)]
  · rw [if_neg h1, if_neg (fun e => h1 (hm.1 e))]
theorem not_fit_of {b : Bool} {m n : Nat} (h : m ≤ n) (hf : ¬ Wd.fit (sgB b m)) : ¬ Wd.fit (sgB b n) := by
  unfold Wd.fit sgB at *
  cases b <;> simp at * <;> omega
theorem sg_ten {b : Bool} {m : Nat} : sgB b m * 10 = sgB b (10 * m) := by unfold sgB; cases b <;> simp <;> omega
theorem sg_step {b : Bool} {m k : Nat} : sgB b (10 * m) + (if b = true then -(k : Int) else k) = sgB b (10 * m + k) := by unfold sgB; cases b <;> simp <;> omega
theorem dv_long40 {l : List UInt8} (h : 40 < l.length) (h0 : 49 ≤ byteAt l 0) (b : Bool) : ¬ Wd.fit (sgB b (dv l)) := by
  cases l with
  | nil => simp at h
  | cons c r =>
    have h1 := fold_lo r (dvStep 0 c)
    have h2 : 1 ≤ dvStep 0 c := by unfold dvStep; unfold byteAt at h0; simp at h0; omega
    have h3 : 10 ^ 40 ≤ 10 ^ r.length := Nat.pow_le_pow_right (by decide) (by simp at h; omega)
    have h4 := Nat.mul_le_mul h2 h3
    have h5 : 10 ^ 40 ≤ dv (c :: r) := by
      unfold dv
      rw [List.foldl_cons]
      omega
    unfold Wd.fit sgB
    cases b <;> simp <;> omega
end Go.Proofs.Ytfiaobhkhedpiaa
