/- PoolSplits: for every argument the law returns true, and each argument reads afterwards as it read before. No conditions. (text 2 of 4) -/
import Derived.Test.YtjmkjkhcognoeaaGreatDoorLSpC1
import Derived.Lib.AtoiAll
import Derived.Shelf.Strings.CaseAny
import Derived.Lib.AtoiErrMem
import Derived.Shelf.Strings.SlTrimAscii
import Derived.WideLaws
import Derived.RangeFuncOne
import Derived.RangeFuncLeaves
import Derived.OrdersIn
import Derived.Test.YtjmkjkhcognoeaaGreatDoorProg
import Derived.KernelRfl
namespace Go.Proofs.YtjmkjkhcognoeaaGreatDoor
open Go.RowKit

theorem count_words (c : UInt8) : ∀ (f : Nat) (l : List UInt8), l.length < f → (wordsL c l).length = Lib.countFrom [c] f l + 1
  | 0, l, h => absurd h (Nat.not_lt_zero _)
  | f + 1, l, h => by
    unfold Lib.countFrom
    rcases index_cases c l with ⟨h1, h2⟩ | ⟨a, b, rfl, h2, h3⟩
    · rw [h1, if_pos (by decide), words_none h2]; rfl
    · rw [h3, if_neg (by intro e; have := beq_iff_eq.1 e; omega), words_hit h2]
      have e2 : (a ++ c :: b).drop (((a.length : Int)).toNat + [c].length) = b := by simp
      rw [e2, List.length_cons, count_words c f b (by simp at h; omega)]; omega
theorem count_wordsB (c : UInt8) (s : ByteArray) : (wordsB c s).length = Lib.countB s ⟨#[c]⟩ + 1 := by
  unfold wordsB
  rw [List.length_map]
  exact count_words c _ _ (Nat.lt_succ_self _)

/-! ### runes against bytes -/
theorem enc_high {r : Int} (h : ¬ r ≤ 127) : ∃ b ∈ Lib.encodeRune r, 128 ≤ b.toNat := by
  have key : ∃ z ∈ Lib.encodeRuneZ r, 128 ≤ z ∧ z < 256 := by
    have hb := Lib.encodeRuneZ_byte r
    by_cases h2 : r ≤ 2047
    · rw [Lib.encodeRuneZ_two (by omega) h2] at hb ⊢
      exact ⟨_, .head _, by omega, (hb _ (.head _)).2⟩
    by_cases h3 : (2048 ≤ r ∧ r < 55296) ∨ (57343 < r ∧ r ≤ 65535)
    · rw [Lib.encodeRuneZ_three h3] at hb ⊢
      exact ⟨_, .head _, by omega, (hb _ (.head _)).2⟩
    by_cases h4 : 65536 ≤ r ∧ r ≤ 1114111
    · rw [Lib.encodeRuneZ_four h4.1 h4.2] at hb ⊢
      exact ⟨_, .head _, by omega, (hb _ (.head _)).2⟩
    rw [Lib.encodeRuneZ_bad (by omega)]
    exact ⟨239, .head _, by decide, by decide⟩
  obtain ⟨z, hz, h1, h2⟩ := key
  refine ⟨z.toNat.toUInt8, List.mem_map.2 ⟨z, hz, rfl⟩, ?_⟩
  rw [show z.toNat.toUInt8 = UInt8.ofNat z.toNat from rfl, UInt8.toNat_ofNat', Nat.mod_eq_of_lt (by omega)]
  omega
theorem enc_low {r : Int} (h0 : 0 ≤ r) (h : r ≤ 127) : (Lib.encodeRune r).length = 1 := by
  unfold Lib.encodeRune
  rw [Lib.encodeRuneZ_one h0 h]; rfl
theorem low_bad : Lib.toLowerU 65533 = 65533 := by decide +kernel
/-- a rune of more bytes than one, or none. -/
theorem dec_high {b : UInt8} {t : List UInt8} (h : 128 ≤ b.toNat) : (Lib.decodeL (b :: t)).1 = 65533 ∨ 2 ≤ (Lib.decodeL (b :: t)).2 := by
  rw [Lib.decodeL_N]
  have h0 : ((b :: t).getD 0 0).toNat = b.toNat := rfl
  rw [h0]
  generalize (List.getD (b :: t) 1 0).toNat = y1
  generalize (List.getD (b :: t) 2 0).toNat = y2
  generalize (List.getD (b :: t) 3 0).toNat = y3
  unfold Lib.decodeN
  rw [if_neg (by omega)]
  repeat' split
  all_goals first | exact .inl rfl | exact .inr (by simp)
/-- where small letters are as long as what they are of, that is ASCII. -/
theorem low_len : ∀ (n : Nat) (l : List UInt8), l.length ≤ n → (∀ b ∈ Lib.toLowerD l, b.toNat < 128) → (Lib.toLowerD l).length ≤ l.length ∧ ((Lib.toLowerD l).length = l.length → ∀ b ∈ l, b.toNat < 128)
  | 0, l, hn, _ => by
    obtain rfl : l = [] := List.eq_nil_of_length_eq_zero (by omega)
    exact ⟨Nat.le_refl _, fun _ b hb => by cases hb⟩
  | n + 1, [], _, _ => ⟨Nat.le_refl _, fun _ b hb => by cases hb⟩
  | n + 1, b :: t, hn, ha => by
    have hle := Lib.decodeL_le (b :: t) (by simp)
    have hr := Lib.decodeL_rune (b :: t)
    have hst := Lib.mapD_step Lib.toLowerU (b :: t) (by simp)
    rw [if_pos (Lib.toLowerU_range _ hr).1] at hst
    have hst : Lib.toLowerD (b :: t) = Lib.encodeRune (Lib.toLowerU (Lib.decodeL (b :: t)).1) ++ Lib.toLowerD ((b :: t).drop (Lib.decodeL (b :: t)).2) := hst
    rw [hst] at ha ⊢
    have hf : Lib.toLowerU (Lib.decodeL (b :: t)).1 ≤ 127 := by
      apply Classical.byContradiction
      intro h
      obtain ⟨z, hz, h2⟩ := enc_high h
      have := ha z (List.mem_append_left _ hz)
      omega
    have hone := enc_low (Lib.toLowerU_range _ hr).1 hf
    by_cases hb : b.toNat < 128
    · rw [Lib.decodeL_ascii b t hb] at ha hone ⊢
      simp only [List.drop_succ_cons, List.drop_zero] at ha hone ⊢
      obtain ⟨h1, h2⟩ := low_len n t (by simp at hn; omega) (fun x hx => ha x (List.mem_append_right _ hx))
      rw [List.length_append, hone, List.length_cons]
      refine ⟨by omega, fun e x hx => ?_⟩
      rcases List.mem_cons.1 hx with rfl | hx
      · exact hb
      · exact h2 (by omega) x hx
    · have hw : 2 ≤ (Lib.decodeL (b :: t)).2 := by
        rcases dec_high (t := t) (show 128 ≤ b.toNat by omega) with h | h
        · rw [h] at hf
          rw [show Lib.toLowerU ((65533 : Nat) : Int) = 65533 from low_bad] at hf
          omega
        · exact h
      obtain ⟨h1, _⟩ := low_len n ((b :: t).drop (Lib.decodeL (b :: t)).2) (by rw [List.length_drop]; omega) (fun x hx => ha x (List.mem_append_right _ hx))
      rw [List.length_drop] at h1
      rw [List.length_append, hone]
      exact ⟨by omega, fun e => by omega⟩
/-- one of the runes, where all beyond ASCII count: one of the bytes. -/
theorem idx_any (p : Nat → Bool) (hp : ∀ r, 128 ≤ r → p r = true) (s : ByteArray) : ∀ (f pos : Nat), s.size ≤ f + pos → decide (0 ≤ Lib.idxFuncFrom p true s f pos) = (s.data.toList.drop pos).any (fun b => p b.toNat)
  | 0, pos, h => by
    rw [List.drop_eq_nil_of_le (by simp at h ⊢; omega)]; rfl
  | f + 1, pos, h => by
    unfold Lib.idxFuncFrom
    by_cases hpos : pos < s.size
    · rw [if_pos hpos]
      have hd : s.data.toList.drop pos = s[pos] :: s.data.toList.drop (pos + 1) := by
        have hl : pos < s.data.toList.length := by simpa using hpos
        rw [List.drop_eq_getElem_cons hl]; rfl
      rw [hd, List.any_cons]
      by_cases ha : (s[pos]'hpos).toNat < 128
      · rw [Go.decode_ascii s pos hpos ha]
        simp only
        by_cases hb : p (s[pos]'hpos).toNat = true
        · rw [if_pos hb, hb, Bool.true_or]; exact decide_eq_true (by omega)
        · rw [if_neg hb, idx_any p hp s f (pos + 1) (by omega)]
          simp only [Bool.not_eq_true] at hb
          rw [hb, Bool.false_or]
      · have hh := (Go.decode_high s pos hpos (by omega)).1
        rw [if_pos (hp _ hh), hp _ (show 128 ≤ (s[pos]'hpos).toNat by omega), Bool.true_or]; exact decide_eq_true (by omega)
    · rw [if_neg hpos, List.drop_eq_nil_of_le (by simp; omega)]; rfl
theorem idx_all (p : Nat → Bool) (hp : ∀ r, 128 ≤ r → p r = true) (s : ByteArray) : decide (0 ≤ Lib.idxFunc p true s) = s.data.toList.any (fun b => p b.toNat) := by
  have := idx_any p hp s s.size 0 (by omega)
  rw [List.drop_zero] at this; exact this

/-! ### fields -/
def nmC (b : UInt8) : Bool := decide ((65 ≤ b.toNat ∧ b.toNat ≤ 90) ∨ (97 ≤ b.toNat ∧ b.toNat ≤ 122) ∨ (48 ≤ b.toNat ∧ b.toNat ≤ 57) ∨ b.toNat = 45)
def smI (c : Int) : Bool := decide ((97 ≤ c ∧ c ≤ 122) ∨ (48 ≤ c ∧ c ≤ 57) ∨ c = 45)
def oddB (r : Nat) : Bool := decide (r ≠ 9 ∧ (r < 32 ∨ 126 < r))
def fieldF (l : List UInt8) : Option (List UInt8 × List UInt8) :=
  if 1 ≤ (l.takeWhile nmC).length ∧ (l.takeWhile nmC).length ≤ 40 ∧ l[(l.takeWhile nmC).length]? = some 58 then
    if (Lib.trimS (l.drop ((l.takeWhile nmC).length + 1)) [32, 9]).any (fun b => oddB b.toNat) then none
    else some (Lib.toLowerA (l.takeWhile nmC), Lib.trimS (l.drop ((l.takeWhile nmC).length + 1)) [32, 9])
  else none
/-- a name as the program tests it. -/
def nameOk (n : List UInt8) : Prop := (Lib.toLowerD n).length ≠ 0 ∧ (Lib.toLowerD n).length ≤ 40 ∧ (∀ b ∈ Lib.toLowerD n, smI b.toNat = true) ∧ (Lib.toLowerD n).length = n.length
theorem sm_low {b : UInt8} (h : smI (Lib.lowerB b).toNat = true) : nmC b = true := by
  have h := of_decide_eq_true h
  unfold nmC
  apply decide_eq_true
  unfold Lib.lowerB at h
  split at h
  · rename_i hu
    unfold Lib.isUpperB at hu
    simp only [Bool.and_eq_true, decide_eq_true_eq] at hu
    have h1 := UInt8.le_iff_toNat_le.1 hu.1
    have h2 := UInt8.le_iff_toNat_le.1 hu.2
    simp at h1 h2
    omega
  · omega
theorem low_sm {b : UInt8} (h : nmC b = true) : smI (Lib.lowerB b).toNat = true := by
  have h := of_decide_eq_true h
  unfold smI
  apply decide_eq_true
  unfold Lib.lowerB
  split
  · rename_i hu
    unfold Lib.isUpperB at hu
    simp only [Bool.and_eq_true, decide_eq_true_eq] at hu
    have h1 := UInt8.le_iff_toNat_le.1 hu.1
    have h2 := UInt8.le_iff_toNat_le.1 hu.2
    simp at h1 h2
    rw [UInt8.toNat_add]
    simp
    omega
  · rename_i hu
    have h3 : ¬ (65 ≤ b.toNat ∧ b.toNat ≤ 90) := fun ⟨h1, h2⟩ => hu (by
      unfold Lib.isUpperB
      simp only [Bool.and_eq_true, decide_eq_true_eq]
      exact ⟨UInt8.le_iff_toNat_le.2 (by simpa using h1), UInt8.le_iff_toNat_le.2 (by simpa using h2)⟩)
    omega
theorem nm_ascii {b : UInt8} (h : nmC b = true) : b.toNat < 128 := by have h := of_decide_eq_true h; omega
theorem name_ok {n : List UInt8} : nameOk n ↔ 1 ≤ n.length ∧ n.length ≤ 40 ∧ ∀ b ∈ n, nmC b = true := by
  constructor
  · rintro ⟨h1, h2, h3, h4⟩
    have ha : ∀ b ∈ Lib.toLowerD n, b.toNat < 128 := fun b hb => by have := of_decide_eq_true (h3 b hb); omega
    have hn := (low_len n.length n (Nat.le_refl _) ha).2 h4
    rw [Lib.toLowerD_ascii n hn] at h3
    refine ⟨by omega, by omega, fun b hb => sm_low (h3 _ (List.mem_map.2 ⟨b, hb, rfl⟩))⟩
  · rintro ⟨h1, h2, h3⟩
    have hl : Lib.toLowerD n = Lib.toLowerA n := Lib.toLowerD_ascii n (fun b hb => nm_ascii (h3 b hb))
    have hlen : (Lib.toLowerA n).length = n.length := List.length_map ..
    unfold nameOk
    rw [hl, hlen]
    refine ⟨by omega, h2, fun b hb => ?_, rfl⟩
    obtain ⟨x, hx, rfl⟩ := List.mem_map.1 hb
    exact low_sm (h3 x hx)
theorem take_all {p : UInt8 → Bool} : ∀ {a b : List UInt8}, (∀ x ∈ a, p x = true) → (∀ x, b.head? = some x → p x = false) → (a ++ b).takeWhile p = a
  | [], [], _, _ => rfl
  | [], x :: t, _, h => by rw [List.nil_append, List.takeWhile_cons_of_neg (by rw [h x rfl]; decide)]
  | x :: a, b, h, h2 => by rw [List.cons_append, List.takeWhile_cons_of_pos (h x (.head _)), take_all (fun y hy => h y (.tail _ hy)) h2]
theorem take_some {p : UInt8 → Bool} : ∀ {a b : List UInt8}, ¬ (∀ x ∈ a, p x = true) → ∃ x, x ∈ a ∧ (a ++ b)[((a ++ b).takeWhile p).length]? = some x
  | [], _, h => absurd (fun x hx => by cases hx) h
  | x :: a, b, h => by
    by_cases hx : p x = true
    · obtain ⟨y, hy, e⟩ := take_some (a := a) (b := b) (fun h2 => h (fun z hz => by rcases List.mem_cons.1 hz with rfl | hz; exact hx; exact h2 z hz))
      refine ⟨y, .tail _ hy, ?_⟩
      rw [List.cons_append, List.takeWhile_cons_of_pos hx, List.length_cons, List.getElem?_cons_succ, e]
    · refine ⟨x, .head _, ?_⟩
      rw [List.cons_append, List.takeWhile_cons_of_neg hx]; rfl
/-- a header line, cut at the colon. -/
theorem field_cut (l : List UInt8) : (nameOk (Lib.cut l [58]).1 ∧ (Lib.cut l [58]).2.2 = true ∧ (Lib.trimS (Lib.cut l [58]).2.1 [32, 9]).any (fun b => oddB b.toNat) = false ∧ fieldF l = some (Lib.toLowerD (Lib.cut l [58]).1, Lib.trimS (Lib.cut l [58]).2.1 [32, 9])) ∨
    (¬ (nameOk (Lib.cut l [58]).1 ∧ (Lib.cut l [58]).2.2 = true ∧ (Lib.trimS (Lib.cut l [58]).2.1 [32, 9]).any (fun b => oddB b.toNat) = false) ∧ fieldF l = none) := by
  rcases index_cases 58 l with ⟨h1, h2⟩ | ⟨a, b, rfl, h2, h3⟩
  · right
    have hc : Lib.cut l [58] = (l, [], false) := by unfold Lib.cut; rw [h1]; rfl
    rw [hc]
    refine ⟨fun h => (by cases h.2.1), ?_⟩
    unfold fieldF
    rw [if_neg]
    rintro ⟨_, _, h⟩
    exact h2 58 (List.mem_of_getElem? h) rfl
  · have hc : Lib.cut (a ++ 58 :: b) [58] = (a, b, true) := by
      unfold Lib.cut
      rw [h3, if_pos (by omega)]
      simp
    rw [hc]
    simp only
    by_cases ha : ∀ x ∈ a, nmC x = true
    · have ht : (a ++ 58 :: b).takeWhile nmC = a := take_all ha (fun x hx => by simp at hx; subst hx; decide)
      unfold fieldF
      rw [ht]
      have e1 : (a ++ 58 :: b)[a.length]? = some 58 := by simp
      have e2 : (a ++ 58 :: b).drop (a.length + 1) = b := by simp
      rw [e1, e2]
      have hl : Lib.toLowerD a = Lib.toLowerA a := Lib.toLowerD_ascii a (fun b hb => nm_ascii (ha b hb))
      by_cases hk : 1 ≤ a.length ∧ a.length ≤ 40
      · rw [if_pos ⟨hk.1, hk.2, by first | rfl | trivial⟩]
        cases ho : (Lib.trimS b [32, 9]).any (fun b => oddB b.toNat)
        · exact .inl ⟨name_ok.2 ⟨hk.1, hk.2, ha⟩, by trivial, by trivial, by rw [if_neg (by decide), hl]⟩
        · exact .inr ⟨fun h => (by cases h.2.2), by rw [if_pos rfl]⟩
      · rw [if_neg (fun h => hk ⟨h.1, h.2.1⟩)]
        exact .inr ⟨fun h => hk ⟨(name_ok.1 h.1).1, (name_ok.1 h.1).2.1⟩, rfl⟩
    · right
      refine ⟨fun h => ha (name_ok.1 h.1).2.2, ?_⟩
      unfold fieldF
      obtain ⟨x, hx, e⟩ := take_some (b := 58 :: b) ha
      rw [if_neg]
      rintro ⟨_, _, h⟩
      rw [e] at h
      cases h
      exact h2 58 hx rfl

/-! ### a length -/
def lenF (l : List UInt8) : Int × Int := if NumForm l ∧ byteAt l 0 ≠ 45 then if (dv l : Int) ≤ 32768 then ((dv l : Int), 0) else (0, 8) else (0, 10)
theorem form_iff {l : List UInt8} : (NumForm l ∧ byteAt l 0 ≠ 45) ↔ l ≠ [] ∧ (∀ b ∈ l, 48 ≤ b.toNat ∧ b.toNat ≤ 57) ∧ ¬ (1 < l.length ∧ byteAt l 0 = 48) := by
  have hall : (∀ j, j < l.length → 48 ≤ byteAt l j ∧ byteAt l j ≤ 57) ↔ ∀ b ∈ l, 48 ≤ b.toNat ∧ b.toNat ≤ 57 := by
    constructor
    · intro h b hb
      obtain ⟨j, hj⟩ := List.mem_iff_getElem?.1 hb
      have hjl := (List.getElem?_eq_some_iff.1 hj).1
      have := h j hjl
      unfold byteAt at this
      rw [List.getD_eq_getElem?_getD, hj] at this; exact this
    · intro h j hj
      unfold byteAt
      rw [List.getD_eq_getElem?_getD, List.getElem?_eq_getElem hj]
      exact h _ (List.getElem_mem hj)
  constructor
  · rintro ⟨⟨h1, h2, h3, h4⟩, h5⟩
    have hb : numBody l = l := by unfold numBody; rw [if_neg (fun h => h5 h.2)]
    rw [hb] at h1 h2 h3 h4
    exact ⟨h1, hall.1 h4, h2⟩
  · rintro ⟨h1, h2, h3⟩
    have h0 : byteAt l 0 ≠ 45 := by
      cases l with
      | nil => exact absurd rfl h1
      | cons b t => have := h2 b (.head _); unfold byteAt; simp; omega
    have hb : numBody l = l := by unfold numBody; rw [if_neg (fun h => h0 h.2)]
    refine ⟨?_, h0⟩
    unfold NumForm
    rw [hb]
    exact ⟨h1, h3, fun h => by rw [h.1] at h; simp at h, hall.2 h2⟩
theorem mag_dv : ∀ (l : List UInt8) (acc : Nat), (∀ b ∈ l, 48 ≤ b.toNat ∧ b.toNat ≤ 57) → (Lib.parseUint10 acc l = .ok (l.foldl dvStep acc) ∧ (l ≠ [] → l.foldl dvStep acc < 18446744073709551616)) ∨ (Lib.parseUint10 acc l = .range ∧ 18446744073709551616 ≤ l.foldl dvStep acc)
  | [], acc, _ => .inl ⟨rfl, fun h => absurd rfl h⟩
  | b :: t, acc, h => by
    have hb := h b (.head _)
    have hs : dvStep acc b = acc * 10 + (b.toNat - 48) := by unfold dvStep; rw [Nat.mul_comm]
    unfold Lib.parseUint10
    rw [if_pos hb, List.foldl_cons]
    by_cases h1 : 1844674407370955162 ≤ acc
    · rw [if_pos h1]
      exact .inr ⟨rfl, Nat.le_trans (by rw [hs]; omega) (fold_ge t _)⟩
    · rw [if_neg h1]
      by_cases h2 : 18446744073709551616 ≤ acc * 10 + (b.toNat - 48)
      · rw [if_pos h2]
        exact .inr ⟨rfl, Nat.le_trans (by rw [hs]; exact h2) (fold_ge t _)⟩
      · rw [if_neg h2, ← hs]
        rcases mag_dv t (dvStep acc b) (fun x hx => h x (.tail _ hx)) with ⟨e1, e2⟩ | e
        · refine .inl ⟨e1, fun _ => ?_⟩
          cases t with
          | nil => rw [List.foldl_nil, hs]; omega
          | cons _ _ => exact e2 (by simp)
        · exact .inr e
theorem atoi_digits {l : List UInt8} (h0 : l ≠ []) (h : ∀ b ∈ l, 48 ≤ b.toNat ∧ b.toNat ≤ 57) : (Lib.atoiAll l = .ok (dv l : Int) ∧ dv l < 9223372036854775808) ∨ (Lib.atoiAll l = .range ∧ 9223372036854775808 ≤ dv l) := by
  cases l with
  | nil => exact absurd rfl h0
  | cons b t =>
    have hb := h b (.head _)
    have hm := mag_dv (b :: t) 0 h
    unfold Lib.atoiAll
    simp only
    rw [if_neg (show ¬ (b.toNat = 43 ∨ b.toNat = 45) by omega)]
    unfold Lib.parseMag
    rw [if_neg (by simp)]
    have hdv : (b :: t).foldl dvStep 0 = dv (b :: t) := rfl
    rw [hdv] at hm
    rcases hm with ⟨e, h1⟩ | ⟨e, h1⟩
    · rw [e]
      have := h1 (by simp)
      simp only
      by_cases h2 : 9223372036854775808 ≤ dv (b :: t)
      · rw [if_pos ⟨by omega, h2⟩]; exact .inr ⟨rfl, h2⟩
      · rw [if_neg (by omega), if_neg (by omega), if_neg (by omega)]; exact .inl ⟨rfl, by omega⟩
    · rw [e]; exact .inr ⟨rfl, by omega⟩
end Go.Proofs.YtjmkjkhcognoeaaGreatDoor

namespace Go.Proofs.YtjmkjkhcognoeaaGreatDoor
open Go.RowKit

/-- what was there at a start is there. -/
def oldφ (W w : World) : Prop := W.heap.size ≤ w.heap.size ∧ ∀ k, k < W.heap.size → w.heap[k]? = W.heap[k]?
def oldA (W : World) : Asn := .any (fun k => k < W.heap.size) (oldφ W) false
theorem old_ok {W w : World} (h : oldφ W w) : (oldA W).ok w := ⟨fun _ hk => Nat.lt_of_lt_of_le hk h.1, fun w' hw => by
  refine ⟨?_, fun k hk => (hw k hk).trans (h.2 k hk)⟩
  rcases Nat.eq_zero_or_pos W.heap.size with h0 | h0
  · omega
  · have h1 := (hw (W.heap.size - 1) (show W.heap.size - 1 < W.heap.size by omega)).trans (h.2 (W.heap.size - 1) (by omega))
    rw [Array.getElem?_eq_getElem (show W.heap.size - 1 < W.heap.size by omega)] at h1
    have := (Array.getElem?_eq_some_iff.1 h1).1
    omega⟩
theorem old_refl (W : World) : oldφ W W := ⟨Nat.le_refl _, fun _ _ => rfl⟩
theorem old_cell {W w : World} (h : oldφ W w) {a : Addr} {v : Value} (hc : W.cell? a = some v) : w.cell? a = some v := by
  have hlt := World.block_lt_of_cell? W a hc
  unfold World.cell? at *
  rw [h.2 _ hlt]; exact hc
theorem old_by {W w : World} (h : oldφ W w) {v : Value} {l : List Int} (hb : ByAt v l W) : ByAt v l w := hb.keep fun k hk => h.2 k (hb.lt k hk)
set_option maxRecDepth 100000 in
/-- the library's variables. -/
structure Gl (W : World) : Prop where
  m : ∃ m, W.cell? ⟨1, 0, none⟩ = some (.int .i64 m)
  cv : Lib.CaseVar 0 Lib.caseA W
  u8 : Lib.Utf8Tabs 4 5 W
  er : ∃ ev, W.cell? ⟨3, 0, none⟩ = some ev ∧ (ev = .nilIface ∨ ∃ te pe, ev = .iface te pe)
theorem Gl.keep {W w : World} (hG : Gl W) (h : oldφ W w) : Gl w := by
  obtain ⟨m, hm⟩ := hG.m
  obtain ⟨ev, he, he2⟩ := hG.er
  obtain ⟨R, oR, cap, h1, h2⟩ := hG.cv
  exact ⟨⟨m, old_cell h hm⟩, ⟨R, oR, cap, old_cell h h1, fun i hi => ⟨old_cell h (h2 i hi).1, old_cell h (h2 i hi).2.1, old_cell h (h2 i hi).2.2.1, old_cell h (h2 i hi).2.2.2.1, old_cell h (h2 i hi).2.2.2.2⟩⟩,
    ⟨fun c hc => old_cell h (hG.u8.1 c hc), fun i hi => ⟨old_cell h (hG.u8.2 i hi).1, old_cell h (hG.u8.2 i hi).2⟩⟩, ⟨ev, old_cell h he, he2⟩⟩
def tx (l : List UInt8) : ByteArray := ⟨l.toArray⟩
theorem tx_self (s : ByteArray) : tx s.data.toList = s := rfl
theorem tx_list (l : List UInt8) : (tx l).data.toList = l := rfl
theorem tx_size (l : List UInt8) : (tx l).size = l.length := by show l.toArray.size = l.length; simp

/-! ### the library's functions -/
theorem Split_P (s : ByteArray) (hs : s.size < 4294967281) (w : World) (hG : Gl w) : NewC Tryz.prog 66 [.string s, .string sSp] w (fun b : Nat => .slice (some ⟨b, 0, none⟩) (wordsB 32 s).length (wordsB 32 s).length) (fun b => .blk b ((wordsB 32 s).map Value.string) 9) := by
  obtain ⟨m, hm⟩ := hG.m
  have h := Tryz.strings_Split s sSp m w hs hm (by decide)
  have e1 : Lib.splitB sSp 0 (Lib.countB s sSp) s = wordsB 32 s := splitB_words 32 s
  have e2 : Lib.countB s sSp + 1 = (wordsB 32 s).length := (count_wordsB 32 s).symm
  rw [e1, e2] at h
  refine h.mono fun e w' ⟨he, hw⟩ => ⟨w.heap.size, he, hw ▸ Chg.alloc _ _ _, ok_blk ?_, fun b hb => ?_⟩
  · rw [hw]; exact Go.World.alloc_heap_new w _
  · have : b = w.heap.size := hb; omega
def sColon : ByteArray := ⟨#[58]⟩
def sBlank : ByteArray := ⟨#[32, 9]⟩
theorem Cut_P (s : ByteArray) (hs : s.size < 4294967281) (w : World) (hG : Gl w) : PureC Tryz.prog 70 [.string s, .string sColon] w (.tuple [.string (tx (Lib.cut s.data.toList [58]).1), .string (tx (Lib.cut s.data.toList [58]).2.1), .bool (Lib.cut s.data.toList [58]).2.2].toArray) := by
  obtain ⟨m, hm⟩ := hG.m
  refine (Tryz.strings_Cut s sColon m w hs hm).mono fun e w' ⟨he, n, hw⟩ => ⟨he, ?_⟩
  rw [hw]; exact Chg.of_below (Go.Proofs.below_drewNg w n)
theorem Lower_P (s : ByteArray) (hs : s.size < 4294967281) (w : World) (hG : Gl w) : PureC Tryz.prog 56 [.string s] w (.string (tx (Lib.toLowerD s.data.toList))) :=
  (Tryz.strings_ToLower_any s w (by omega) hG.cv hG.u8).mono fun _ _ ⟨he, hb⟩ => ⟨he, Chg.of_below hb⟩
theorem Trim_P (s : ByteArray) (hs : s.size < 4294967281) (w : World) : PureC Tryz.prog 71 [.string s, .string sBlank] w (.string (tx (Lib.trimS s.data.toList [32, 9]))) :=
  (Any.strings_Trim_laid Tryz.lays160 (by kernel_rfl) s sBlank w (by omega) (by decide) (fun j b hj => by
    obtain _ | _ | j := j
    · cases hj; decide
    · cases hj; decide
    · cases hj)).mono fun _ _ ⟨he, hb⟩ => ⟨he, Chg.of_below hb⟩
theorem Contains_P (g : Nat) (p : Nat → Bool) (cfg : CallsTo Tryz.prog g) (hg : ∀ (r : Nat) w, r ≤ 1114111 → PureC Tryz.prog g [.int .i32 (r : Int)] w (.bool (p r))) (hp : ∀ r, 128 ≤ r → p r = true) (s : ByteArray) (w : World) :
    PureC Tryz.prog 75 [.string s, .func (.func g) #[] #[]] w (.bool (s.data.toList.any fun b => p b.toNat)) := by
  have h := Tryz.strings_ContainsFunc_grows g #[] cfg p s w (fun W x hx _ => (hg x W hx).mono fun _ _ ⟨he, hc⟩ => ⟨he, hc.below⟩)
  rw [idx_all p hp s] at h
  exact h.mono fun _ _ ⟨he, hb⟩ => ⟨he, Chg.of_below hb⟩
def isAtoi (l : List UInt8) (x : Int × Value) : Prop := (dv l < 9223372036854775808 ∧ x = ((dv l : Int), .nilIface)) ∨ (9223372036854775808 ≤ dv l ∧ ∃ p, x.2 = .iface 170 p)
def prA (p : Prop) : Asn := .any (fun _ => False) (fun _ => p) true
theorem pr_ok {p : Prop} (h : p) (w : World) : (prA p).ok w := ⟨fun _ h => h.elim, fun _ _ => h⟩
theorem AtoiD_P (s : ByteArray) (hs : s.size < 4294967281) (h0 : s.data.toList ≠ []) (hd : ∀ b ∈ s.data.toList, 48 ≤ b.toNat ∧ b.toNat ≤ 57) (w : World) (hG : Gl w) :
    NewC Tryz.prog 77 [.string s] w (fun x : Int × Value => .tuple [.int .i64 x.1, x.2].toArray) (fun x => prA (isAtoi s.data.toList x)) := by
  rcases atoi_digits h0 hd with ⟨h1, h2⟩ | ⟨h1, h2⟩
  · refine (Tryz.strconv_Atoi_ok s (by omega) _ h1 w).mono fun e w' ⟨he, hw⟩ => ⟨((dv s.data.toList : Int), .nilIface), he, ?_, pr_ok (.inl ⟨h2, rfl⟩) _, fun b hb => hb.elim⟩
    rcases hw with rfl | ⟨t, rfl⟩
    · exact Chg.refl _ _
    · exact Chg.of_below (Lib.bytesWorld_below _ _ _)
  · obtain ⟨ev, he, he2⟩ := hG.er
    refine (Tryz.strconv_Atoi_range s (by omega) h1 ev w he he2).mono fun e w' ⟨N, he, _, _, hb⟩ => ⟨(Lib.atoiSat s.data.toList, .iface 170 (.pointer (some ⟨N, 0, none⟩))), he, Chg.of_below hb, pr_ok (.inr ⟨h2, _, rfl⟩) _, fun b hb => hb.elim⟩
section
variable {P : Program} {n : NN} {a : Act} {L : List (Nat × Value)} {Γ : List Asn} {dst : Option Nat} {ty : Nat} {pos : String} {af : Array Edge} {g : Option (Nat × Bool)}
theorem e_ifNe {t t' : TypeId} {x : Operand} {v : Value} {c : Bool} (hx : ev L x = some v) (hu : P.underlying t = some (.interface (P.methodsAt t))) (hv : (v = .nilIface ∧ c = false) ∨ ((∃ u p, v = .iface u p) ∧ c = true)) : Ex P n a L Γ ⟨dst, .binOp .neq t x (.const .nilIface) t', ty, pos, af, g⟩ (.bool c) := fun hs w hh => by
  rcases hv with ⟨rfl, rfl⟩ | ⟨⟨u, p, rfl⟩, rfl⟩
  · have := run_neq_nil_nil (P := P) w t hu
    have he : a.eval (.const .nilIface) = .nilIface := rfl
    simp [execOp, hs.ev hx, he, eqGuard_nil_constR, this]
  · have := run_neq_held_nil (P := P) w t u p hu
    have he : a.eval (.const .nilIface) = .nilIface := rfl
    simp [execOp, hs.ev hx, he, eqGuard, this]
end

/-! ### the program's -/
theorem oddR_P (r : Nat) (hr : r ≤ 1114111) (w0 : World) : PureC Tryz.prog 72 [.int .i32 (r : Int)] w0 (.bool (oddB r)) := by
  refine c_enter [(0, .int .i32 (r : Int))] [] noB Tryz.func72 rfl Tryz.ntmps72 ⟨rfl, trivial⟩ rfl (by simp) (by simp) (by simp) ?_
  intro a hS
  refine c_seq ?_
  refine c_region ?_
  refine L_op (s_e hS (e_assign rfl) rfl ?_); clear hS a; intro a hS
  refine L_nil ?_
  refine n_then ?_
  refine c_seq ?_
  refine c_region ?_
  refine L_op (s_e hS (e_move rfl) rfl ?_); clear hS a; intro a hS
  refine L_op (s_e hS (e_bin rfl rfl rfl) rfl ?_); clear hS a; intro a hS
  refine L_op (s_e hS (e_move rfl) rfl ?_); clear hS a; intro a hS
  refine L_merge 7 12 (.bool (oddB r)) hS ?_ ?_
  · intro hcM12
    (first | refine g_splitD (t := 5) hS rfl ?_ ?_ | refine g_split (t := 5) hS rfl ?_ ?_) <;> (clear hS; intro hg5 hS)
    ·
      refine L_go hS rfl rfl (s_e hS (e_move rfl) rfl ?_); clear hS a; intro a hS
      refine L_go hS rfl rfl (s_e hS (e_bin rfl rfl rfl) rfl ?_); clear hS a; intro a hS
      refine L_go hS rfl rfl (s_e hS (e_move rfl) rfl ?_); clear hS a; intro a hS
      refine L_merge 3 11 (.bool (decide (r < 32 ∨ 126 < r))) hS ?_ ?_
      · intro hcM11
        (first | refine g_splitD (t := 8) hS rfl ?_ ?_ | refine g_split (t := 8) hS rfl ?_ ?_) <;> (clear hS; intro hg8 hS)
        ·
          refine L_skip_f hS rfl rfl rfl ?_; clear hS a; intro a hS
          refine L_skip_f hS rfl rfl rfl ?_; clear hS a; intro a hS
          first | (refine L_go hS rfl rfl (s_e hS (e_pick_t rfl rfl) rfl ?_); clear hS a; intro a hS) | (refine L_go hS rfl rfl (s_e hS (e_pick_f rfl rfl) rfl ?_); clear hS a; intro a hS)
          exact hcM11 _ _ (hS.ends 4 11 8 rfl (congrArg Value.bool (by first | rfl | (simp [hg8]; done) | (simp [hg8]; omega) | grind)) rfl rfl (by first | exact congrArg Value.bool (decide_eq_true hg8).symm | exact congrArg Value.bool hg8.symm | simp [hg8]) rfl)
        ·
          refine L_go hS rfl rfl (s_e hS (e_move rfl) rfl ?_); clear hS a; intro a hS
          refine L_go hS rfl rfl (s_e hS (e_bin rfl rfl rfl) rfl ?_); clear hS a; intro a hS
          first | (refine L_go hS rfl rfl (s_e hS (e_pick_t rfl rfl) rfl ?_); clear hS a; intro a hS) | (refine L_go hS rfl rfl (s_e hS (e_pick_f rfl rfl) rfl ?_); clear hS a; intro a hS)
          exact hcM11 _ _ (hS.ends 4 11 8 rfl (congrArg Value.bool (by first | rfl | (simp [hg8]; done) | (simp [hg8]; omega) | grind)) rfl rfl (by first | exact congrArg Value.bool (decide_eq_false hg8).symm | exact congrArg Value.bool hg8.symm | simp [hg8]) rfl)
      · clear hS a; (try clear w); intro a w hS
        simp only [List.drop_succ_cons, List.drop_zero]
        first | (refine L_op (s_e hS (e_pick_t rfl rfl) rfl ?_); clear hS a; intro a hS) | (refine L_op (s_e hS (e_pick_f rfl rfl) rfl ?_); clear hS a; intro a hS)
        exact hcM12 _ _ (hS.ends 6 12 5 rfl (congrArg Value.bool (by unfold oddB; exact decide_eq_decide.2 (by omega))) rfl rfl (by first | exact congrArg Value.bool (decide_eq_true hg5).symm | exact congrArg Value.bool hg5.symm | simp [hg5]) rfl)
    ·
      refine L_skip_t hS rfl rfl rfl ?_; clear hS a; intro a hS
      refine L_skip_t hS rfl rfl rfl ?_; clear hS a; intro a hS
      refine L_skip_t hS rfl rfl rfl ?_; clear hS a; intro a hS
      refine L_skip_u hS rfl rfl rfl ?_; clear hS a; intro a hS
      refine L_skip_u hS rfl rfl rfl ?_; clear hS a; intro a hS
      refine L_skip_t hS rfl rfl rfl ?_; clear hS a; intro a hS
      first | (refine L_op (s_e hS (e_pick_t rfl rfl) rfl ?_); clear hS a; intro a hS) | (refine L_op (s_e hS (e_pick_f rfl rfl) rfl ?_); clear hS a; intro a hS)
      exact hcM12 _ _ (hS.ends 8 12 5 rfl (congrArg Value.bool (by unfold oddB; exact (decide_eq_false (by omega)).symm)) rfl rfl (by first | exact congrArg Value.bool (decide_eq_false hg5).symm | exact congrArg Value.bool hg5.symm | simp [hg5]) rfl)
  · clear hS a; (try clear w); intro a w hS
    simp only [List.drop_succ_cons, List.drop_zero]
    refine L_op (s_e hS (e_assign rfl) rfl ?_); clear hS a; intro a hS
    refine L_nil ?_
    refine n_then ?_
    refine wp_ret ?_
    refine c_ret1 hS Tryz.results72 (.tmp rfl) ?_
    exact ⟨rfl, hS.chg⟩
def ndB (r : Nat) : Bool := decide (r < 48 ∨ 57 < r)
set_option maxRecDepth 100000 in
theorem ndR_P (r : Nat) (hr : r ≤ 1114111) (w0 : World) : PureC Tryz.prog 76 [.int .i32 (r : Int)] w0 (.bool (ndB r)) := by
  refine c_enter [(0, .int .i32 (r : Int))] [] noB Tryz.func76 rfl Tryz.ntmps76 ⟨rfl, trivial⟩ rfl (by simp) (by simp) (by simp) ?_
  intro a hS
  refine c_seq ?_
  refine c_region ?_
  refine L_op (s_e hS (e_assign rfl) rfl ?_); clear hS a; intro a hS
  refine L_nil ?_
  refine n_then ?_
  refine c_seq ?_
  refine c_region ?_
  refine L_op (s_e hS (e_move rfl) rfl ?_); clear hS a; intro a hS
  refine L_op (s_e hS (e_bin rfl rfl rfl) rfl ?_); clear hS a; intro a hS
  refine L_op (s_e hS (e_move rfl) rfl ?_); clear hS a; intro a hS
  refine L_merge 3 8 (.bool (ndB r)) hS ?_ ?_
  · intro hcM8
    (first | refine g_splitD (t := 5) hS rfl ?_ ?_ | refine g_split (t := 5) hS rfl ?_ ?_) <;> (clear hS; intro hg5 hS)
    ·
      refine L_skip_f hS rfl rfl rfl ?_; clear hS a; intro a hS
      refine L_skip_f hS rfl rfl rfl ?_; clear hS a; intro a hS
      first | (refine L_op (s_e hS (e_pick_t rfl rfl) rfl ?_); clear hS a; intro a hS) | (refine L_op (s_e hS (e_pick_f rfl rfl) rfl ?_); clear hS a; intro a hS)
      exact hcM8 _ _ (hS.ends 4 8 5 rfl (congrArg Value.bool (by unfold ndB; exact (decide_eq_true (by omega)).symm)) rfl rfl (by first | exact congrArg Value.bool (decide_eq_true hg5).symm | exact congrArg Value.bool hg5.symm | simp [hg5]) rfl)
    ·
      refine L_go hS rfl rfl (s_e hS (e_move rfl) rfl ?_); clear hS a; intro a hS
      refine L_go hS rfl rfl (s_e hS (e_bin rfl rfl rfl) rfl ?_); clear hS a; intro a hS
      first | (refine L_op (s_e hS (e_pick_t rfl rfl) rfl ?_); clear hS a; intro a hS) | (refine L_op (s_e hS (e_pick_f rfl rfl) rfl ?_); clear hS a; intro a hS)
      exact hcM8 _ _ (hS.ends 4 8 5 rfl (congrArg Value.bool (by unfold ndB; exact decide_eq_decide.2 (by omega))) rfl rfl (by first | exact congrArg Value.bool (decide_eq_false hg5).symm | exact congrArg Value.bool hg5.symm | simp [hg5]) rfl)
  · clear hS a; (try clear w); intro a w hS
    simp only [List.drop_succ_cons, List.drop_zero]
    refine L_op (s_e hS (e_assign rfl) rfl ?_); clear hS a; intro a hS
    refine L_nil ?_
    refine n_then ?_
    refine wp_ret ?_
    refine c_ret1 hS Tryz.results76 (.tmp rfl) ?_
    exact ⟨rfl, hS.chg⟩
set_option maxRecDepth 100000 in
theorem digit_P (c : Int) (w0 : World) : PureC Tryz.prog 74 [.int .u8 c] w0 (.bool (decide (48 ≤ c ∧ c ≤ 57))) := by
  refine c_enter [(0, .int .u8 c)] [] noB Tryz.func74 rfl Tryz.ntmps74 ⟨rfl, trivial⟩ rfl (by simp) (by simp) (by simp) ?_
  intro a hS
  refine c_seq ?_
  refine c_region ?_
  refine L_op (s_e hS (e_assign rfl) rfl ?_); clear hS a; intro a hS
  refine L_nil ?_
  refine n_then ?_
  refine c_seq ?_
  refine c_region ?_
  refine L_op (s_e hS (e_move rfl) rfl ?_); clear hS a; intro a hS
  refine L_op (s_e hS (e_bin rfl rfl rfl) rfl ?_); clear hS a; intro a hS
  refine L_op (s_e hS (e_move rfl) rfl ?_); clear hS a; intro a hS
  refine L_merge 3 8 (.bool (decide (48 ≤ c ∧ c ≤ 57))) hS ?_ ?_
  · intro hcM8
    (first | refine g_splitD (t := 5) hS rfl ?_ ?_ | refine g_split (t := 5) hS rfl ?_ ?_) <;> (clear hS; intro hg5 hS)
    ·
      refine L_go hS rfl rfl (s_e hS (e_move rfl) rfl ?_); clear hS a; intro a hS
      refine L_go hS rfl rfl (s_e hS (e_bin rfl rfl rfl) rfl ?_); clear hS a; intro a hS
      first | (refine L_op (s_e hS (e_pick_t rfl rfl) rfl ?_); clear hS a; intro a hS) | (refine L_op (s_e hS (e_pick_f rfl rfl) rfl ?_); clear hS a; intro a hS)
      exact hcM8 _ _ (hS.ends 4 8 5 rfl (congrArg Value.bool (by first | rfl | (simp [hg5]; done) | (simp [hg5]; omega) | grind)) rfl rfl (by first | exact congrArg Value.bool (decide_eq_true hg5).symm | exact congrArg Value.bool hg5.symm | simp [hg5]) rfl)
    ·
      refine L_skip_t hS rfl rfl rfl ?_; clear hS a; intro a hS
      refine L_skip_t hS rfl rfl rfl ?_; clear hS a; intro a hS
      first | (refine L_op (s_e hS (e_pick_t rfl rfl) rfl ?_); clear hS a; intro a hS) | (refine L_op (s_e hS (e_pick_f rfl rfl) rfl ?_); clear hS a; intro a hS)
      exact hcM8 _ _ (hS.ends 4 8 5 rfl (congrArg Value.bool (by first | rfl | (simp [hg5]; done) | (simp [hg5]; omega) | grind)) rfl rfl (by first | exact congrArg Value.bool (decide_eq_false hg5).symm | exact congrArg Value.bool hg5.symm | simp [hg5]) rfl)
  · clear hS a; (try clear w); intro a w hS
    simp only [List.drop_succ_cons, List.drop_zero]
    refine L_op (s_e hS (e_assign rfl) rfl ?_); clear hS a; intro a hS
    refine L_nil ?_
    refine n_then ?_
    refine wp_ret ?_
    refine c_ret1 hS Tryz.results74 (.tmp rfl) ?_
    exact ⟨rfl, hS.chg⟩
set_option maxRecDepth 100000 in
theorem small_P (c : Int) (w0 : World) : PureC Tryz.prog 73 [.int .u8 c] w0 (.bool (smI c)) := by
  refine c_enter [(0, .int .u8 c)] [] noB Tryz.func73 rfl Tryz.ntmps73 ⟨rfl, trivial⟩ rfl (by simp) (by simp) (by simp) ?_
  intro a hS
  refine c_seq ?_
  refine c_region ?_
  refine L_op (s_e hS (e_assign rfl) rfl ?_); clear hS a; intro a hS
  refine L_nil ?_
  refine n_then ?_
  refine c_seq ?_
  refine c_region ?_
  refine L_op (s_e hS (e_move rfl) rfl ?_); clear hS a; intro a hS
  refine L_op (s_e hS (e_bin rfl rfl rfl) rfl ?_); clear hS a; intro a hS
  refine L_op (s_e hS (e_move rfl) rfl ?_); clear hS a; intro a hS
  refine L_merge 3 8 (.bool (decide (97 ≤ c ∧ c ≤ 122))) hS ?_ ?_
  · intro hcM8
    (first | refine g_splitD (t := 5) hS rfl ?_ ?_ | refine g_split (t := 5) hS rfl ?_ ?_) <;> (clear hS; intro hg5 hS)
    ·
      refine L_go hS rfl rfl (s_e hS (e_move rfl) rfl ?_); clear hS a; intro a hS
      refine L_go hS rfl rfl (s_e hS (e_bin rfl rfl rfl) rfl ?_); clear hS a; intro a hS
      first | (refine L_op (s_e hS (e_pick_t rfl rfl) rfl ?_); clear hS a; intro a hS) | (refine L_op (s_e hS (e_pick_f rfl rfl) rfl ?_); clear hS a; intro a hS)
      exact hcM8 _ _ (hS.ends 4 8 5 rfl (congrArg Value.bool (by first | rfl | (simp [hg5]; done) | (simp [hg5]; omega) | grind)) rfl rfl (by first | exact congrArg Value.bool (decide_eq_true hg5).symm | exact congrArg Value.bool hg5.symm | simp [hg5]) rfl)
    ·
      refine L_skip_t hS rfl rfl rfl ?_; clear hS a; intro a hS
      refine L_skip_t hS rfl rfl rfl ?_; clear hS a; intro a hS
      first | (refine L_op (s_e hS (e_pick_t rfl rfl) rfl ?_); clear hS a; intro a hS) | (refine L_op (s_e hS (e_pick_f rfl rfl) rfl ?_); clear hS a; intro a hS)
      exact hcM8 _ _ (hS.ends 4 8 5 rfl (congrArg Value.bool (by first | rfl | (simp [hg5]; done) | (simp [hg5]; omega) | grind)) rfl rfl (by first | exact congrArg Value.bool (decide_eq_false hg5).symm | exact congrArg Value.bool hg5.symm | simp [hg5]) rfl)
  · clear hS a; (try clear w); intro a w hS
    simp only [List.drop_succ_cons, List.drop_zero]
    refine L_op (s_e hS (e_move rfl) rfl ?_); clear hS a; intro a hS
    refine L_merge 3 12 (.bool (decide ((97 ≤ c ∧ c ≤ 122) ∨ (48 ≤ c ∧ c ≤ 57)))) hS ?_ ?_
    · intro hcM12
      (first | refine g_splitD (t := 9) hS rfl ?_ ?_ | refine g_split (t := 9) hS rfl ?_ ?_) <;> (clear hS; intro hg9 hS)
      ·
        refine L_skip_f hS rfl rfl rfl ?_; clear hS a; intro a hS
        refine L_skip_f hS rfl rfl rfl ?_; clear hS a; intro a hS
        first | (refine L_op (s_e hS (e_pick_t rfl rfl) rfl ?_); clear hS a; intro a hS) | (refine L_op (s_e hS (e_pick_f rfl rfl) rfl ?_); clear hS a; intro a hS)
        exact hcM12 _ _ (hS.ends 4 12 9 rfl (congrArg Value.bool (by first | rfl | (simp [hg9]; done) | (simp [hg9]; omega) | grind)) rfl rfl (by first | exact congrArg Value.bool (decide_eq_true hg9).symm | exact congrArg Value.bool hg9.symm | simp [hg9]) rfl)
      ·
        refine L_go hS rfl rfl (s_e hS (e_move rfl) rfl ?_); clear hS a; intro a hS
        refine L_go hS rfl rfl (s_callP hS (.cons rfl .nil) cf74 rfl (digit_P c _) ?_); clear hS a; (try clear w); intro a w hS
        first | (refine L_op (s_e hS (e_pick_t rfl rfl) rfl ?_); clear hS a; intro a hS) | (refine L_op (s_e hS (e_pick_f rfl rfl) rfl ?_); clear hS a; intro a hS)
        exact hcM12 _ _ (hS.ends 4 12 9 rfl (congrArg Value.bool (by first | rfl | (simp [hg9]; done) | (simp [hg9]; omega) | grind)) rfl rfl (by first | exact congrArg Value.bool (decide_eq_false hg9).symm | exact congrArg Value.bool hg9.symm | simp [hg9]) rfl)
    · clear hS a; (try clear w); intro a w hS
      simp only [List.drop_succ_cons, List.drop_zero]
      refine L_op (s_e hS (e_move rfl) rfl ?_); clear hS a; intro a hS
      refine L_merge 3 16 (.bool (smI c)) hS ?_ ?_
      · intro hcM16
        (first | refine g_splitD (t := 13) hS rfl ?_ ?_ | refine g_split (t := 13) hS rfl ?_ ?_) <;> (clear hS; intro hg13 hS)
        ·
          refine L_skip_f hS rfl rfl rfl ?_; clear hS a; intro a hS
          refine L_skip_f hS rfl rfl rfl ?_; clear hS a; intro a hS
          first | (refine L_op (s_e hS (e_pick_t rfl rfl) rfl ?_); clear hS a; intro a hS) | (refine L_op (s_e hS (e_pick_f rfl rfl) rfl ?_); clear hS a; intro a hS)
          exact hcM16 _ _ (hS.ends 4 16 13 rfl (congrArg Value.bool (by unfold smI; exact (decide_eq_true (by omega)).symm)) rfl rfl (by first | exact congrArg Value.bool (decide_eq_true hg13).symm | exact congrArg Value.bool hg13.symm | simp [hg13]) rfl)
        ·
          refine L_go hS rfl rfl (s_e hS (e_move rfl) rfl ?_); clear hS a; intro a hS
          refine L_go hS rfl rfl (s_e hS (e_bin rfl rfl rfl) rfl ?_); clear hS a; intro a hS
          first | (refine L_op (s_e hS (e_pick_t rfl rfl) rfl ?_); clear hS a; intro a hS) | (refine L_op (s_e hS (e_pick_f rfl rfl) rfl ?_); clear hS a; intro a hS)
          exact hcM16 _ _ (hS.ends 4 16 13 rfl (congrArg Value.bool (by unfold smI; exact decide_eq_decide.2 (by omega))) rfl rfl (by first | exact congrArg Value.bool (decide_eq_false hg13).symm | exact congrArg Value.bool hg13.symm | simp [hg13]) rfl)
      · clear hS a; (try clear w); intro a w hS
        simp only [List.drop_succ_cons, List.drop_zero]
        refine L_op (s_e hS (e_assign rfl) rfl ?_); clear hS a; intro a hS
        refine L_nil ?_
        refine n_then ?_
        refine wp_ret ?_
        refine c_ret1 hS Tryz.results73 (.tmp rfl) ?_
        exact ⟨rfl, hS.chg⟩
end Go.Proofs.YtjmkjkhcognoeaaGreatDoor

namespace Go.Proofs.YtjmkjkhcognoeaaGreatDoor
open Go.RowKit

theorem some_iff {s : ByteArray} {most : Int} {p : Int → Bool} : someB s most p = true ↔ s.size ≠ 0 ∧ (s.size : Int) ≤ most ∧ ∀ b ∈ s.data.toList, p (b.toNat : Int) = true := by
  unfold someB
  rw [Bool.and_eq_true, decide_eq_true_eq, List.all_eq_true, and_assoc]
  refine and_congr_right fun _ => and_congr_right fun _ => ?_
  have hl : s.data.toList.length = s.size := by simp
  constructor
  · intro h b hb
    obtain ⟨j, hj⟩ := List.mem_iff_getElem?.1 hb
    have := h j (List.mem_range.2 (by have := (List.getElem?_eq_some_iff.1 hj).1; omega))
    rwa [List.getD_eq_getElem?_getD, hj] at this
  · intro h j hj
    have hj2 : j < s.data.toList.length := by have := List.mem_range.1 hj; omega
    rw [List.getD_eq_getElem?_getD, List.getElem?_eq_getElem hj2]
    exact h _ (List.getElem_mem hj2)
/-- what the program says of a header line. -/
def hdrB (l : List UInt8) : Bool := (((Lib.cut l [58]).2.2 && someB (tx (Lib.toLowerD (Lib.cut l [58]).1)) 40 smI) && decide ((tx (Lib.toLowerD (Lib.cut l [58]).1)).size = (tx (Lib.cut l [58]).1).size)) && !((Lib.trimS (Lib.cut l [58]).2.1 [32, 9]).any fun b => oddB b.toNat)
theorem hdr_iff (l : List UInt8) : hdrB l = true ↔ (nameOk (Lib.cut l [58]).1 ∧ (Lib.cut l [58]).2.2 = true ∧ (Lib.trimS (Lib.cut l [58]).2.1 [32, 9]).any (fun b => oddB b.toNat) = false) := by
  unfold hdrB nameOk
  rw [Bool.and_eq_true, Bool.and_eq_true, Bool.and_eq_true, some_iff, tx_size, tx_size, tx_list, decide_eq_true_eq, Bool.not_eq_true']
  constructor
  · rintro ⟨⟨⟨h1, h2, h3, h4⟩, h5⟩, h6⟩; exact ⟨⟨h2, by omega, h4, h5⟩, h1, h6⟩
  · rintro ⟨⟨h2, h3, h4, h5⟩, h1, h6⟩; exact ⟨⟨⟨h1, h2, by omega, h4⟩, h5⟩, h6⟩
theorem hdr_field (l : List UInt8) : fieldF l = if hdrB l = true then some (Lib.toLowerD (Lib.cut l [58]).1, Lib.trimS (Lib.cut l [58]).2.1 [32, 9]) else none := by
  rcases field_cut l with ⟨h1, h2, h3, h4⟩ | ⟨h1, h2⟩
  · rw [if_pos ((hdr_iff l).2 ⟨h1, h2, h3⟩), h4]
  · rw [if_neg (fun h => h1 ((hdr_iff l).1 h)), h2]
theorem cut_len (l : List UInt8) : (Lib.cut l [58]).1.length ≤ l.length ∧ (Lib.cut l [58]).2.1.length ≤ l.length := by
  unfold Lib.cut
  split
  · simp; omega
  · simp
theorem low_le (l : List UInt8) : (Lib.toLowerD l).length ≤ 4 * l.length := by
  have key : ∀ (n : Nat) (l : List UInt8), l.length ≤ n → (Lib.toLowerD l).length ≤ 4 * l.length := by
    intro n
    induction n with
    | zero => intro l hn; obtain rfl : l = [] := List.eq_nil_of_length_eq_zero (by omega); exact Nat.le_refl _
    | succ n ih =>
      intro l hn
      cases l with
      | nil => exact Nat.le_refl _
      | cons b t =>
        have hw := Lib.decodeL_width (b :: t)
        have hle := Lib.decodeL_le (b :: t) (by simp)
        have hst := Lib.mapD_step Lib.toLowerU (b :: t) (by simp)
        rw [if_pos (Lib.toLowerU_range _ (Lib.decodeL_rune (b :: t))).1] at hst
        have hst : Lib.toLowerD (b :: t) = Lib.encodeRune (Lib.toLowerU (Lib.decodeL (b :: t)).1) ++ Lib.toLowerD ((b :: t).drop (Lib.decodeL (b :: t)).2) := hst
        have h1 := ih ((b :: t).drop (Lib.decodeL (b :: t)).2) (by rw [List.length_drop]; omega)
        rw [List.length_drop] at h1
        have h2 : (Lib.encodeRune (Lib.toLowerU (Lib.decodeL (b :: t)).1)).length ≤ 4 := by unfold Lib.encodeRune; rw [List.length_map]; exact (Lib.encodeRuneZ_length _).2
        rw [hst, List.length_append]; omega
  exact key l.length l (Nat.le_refl _)

set_option maxRecDepth 100000 in
theorem Header_P (W0 : World) (hG : Gl W0) (s : ByteArray) (hs : s.size ≤ 1000000) (w0 : World) (h : oldφ W0 w0) :
    PureC Tryz.prog 54 [.string s] w0 (.tuple [.string (tx (Lib.toLowerD (Lib.cut s.data.toList [58]).1)), .string (tx (Lib.trimS (Lib.cut s.data.toList [58]).2.1 [32, 9])), .bool (hdrB s.data.toList)].toArray) := by
  have hl := size_list s
  obtain ⟨hc1, hc2⟩ := cut_len s.data.toList
  have hlow := low_le (Lib.cut s.data.toList [58]).1
  refine c_enter [(0, .string s)] [oldA W0] noB Tryz.func54 rfl Tryz.ntmps54 ⟨rfl, trivial⟩ rfl (okC (old_ok h) okN) dis1 (mineC (by rfl) mineN) ?_
  intro a hS
  refine c_seq ?_
  refine c_region ?_
  refine L_op (s_e hS (e_assign rfl) rfl ?_); clear hS a; intro a hS
  refine L_op (s_e hS (e_assign rfl) rfl ?_); clear hS a; intro a hS
  refine L_op (s_e hS (e_assign rfl) rfl ?_); clear hS a; intro a hS
  refine L_nil ?_
  refine n_then ?_
  refine c_seq ?_
  refine c_region ?_
  refine L_op (s_e hS (e_move rfl) rfl ?_); clear hS a; intro a hS
  refine L_op (s_callP hS (.cons rfl (.cons rfl .nil)) cf70 rfl (Cut_P s (by omega) _ (hG.keep (hS.get (X := oldA W0) (by repeat constructor)))) ?_); clear hS a; (try clear w); intro a w hS
  refine L_op (s_e hS (e_move rfl) rfl ?_); clear hS a; intro a hS
  refine L_op (s_e hS (e_extract rfl rfl) rfl ?_); clear hS a; intro a hS
  refine L_op (s_e hS (e_extract rfl rfl) rfl ?_); clear hS a; intro a hS
  refine L_op (s_e hS (e_extract rfl rfl) rfl ?_); clear hS a; intro a hS
  refine L_op (s_e hS (e_assign rfl) rfl ?_); clear hS a; intro a hS
  refine L_op (s_e hS (e_assign rfl) rfl ?_); clear hS a; intro a hS
  refine L_op (s_e hS (e_assign rfl) rfl ?_); clear hS a; intro a hS
  refine L_nil ?_
  refine n_then ?_
  refine c_seq ?_
  refine c_region ?_
  refine L_op (s_e hS (e_move rfl) rfl ?_); clear hS a; intro a hS
  refine L_op (s_callP hS (.cons rfl .nil) cf56 rfl (Lower_P (tx (Lib.cut s.data.toList [58]).1) (by rw [tx_size]; omega) _ (hG.keep (hS.get (X := oldA W0) (by repeat constructor)))) ?_); clear hS a; (try clear w); intro a w hS
  refine L_op (s_e hS (e_assign rfl) rfl ?_); clear hS a; intro a hS
  refine L_nil ?_
  refine n_then ?_
  refine c_seq ?_
  refine c_region ?_
  refine L_op (s_e hS (e_move rfl) rfl ?_); clear hS a; intro a hS
  refine L_op (s_callP hS (.cons rfl (.cons rfl .nil)) cf71 rfl (Trim_P (tx (Lib.cut s.data.toList [58]).2.1) (by rw [tx_size]; omega) _) ?_); clear hS a; (try clear w); intro a w hS
  refine L_op (s_e hS (e_assign rfl) rfl ?_); clear hS a; intro a hS
  refine L_nil ?_
  refine n_then ?_
  refine c_seq ?_
  refine c_region ?_
  refine L_op (s_e hS (e_assign rfl) rfl ?_); clear hS a; intro a hS
  refine L_nil ?_
  refine n_then ?_
  refine c_seq ?_
  refine c_region ?_
  refine L_op (s_e hS (e_move rfl) rfl ?_); clear hS a; intro a hS
  refine L_op (s_callP hS (.cons rfl (.cons rfl (.cons rfl .nil))) cf67 rfl (some_P (tx (Lib.toLowerD (Lib.cut s.data.toList [58]).1)) 40 73 smI (by rw [tx_size]; omega) cf73 small_P _) ?_); clear hS a; (try clear w); intro a w hS
  refine L_op (s_e hS (e_assign rfl) rfl ?_); clear hS a; intro a hS
  refine L_nil ?_
  refine n_then ?_
  refine c_seq ?_
  refine c_region ?_
  refine L_op (s_e hS (e_move rfl) rfl ?_); clear hS a; intro a hS
  refine L_op (s_e hS (e_move rfl) rfl ?_); clear hS a; intro a hS
  refine L_op (s_e hS (e_move rfl) rfl ?_); clear hS a; intro a hS
  refine L_op (s_e hS (e_move rfl) rfl ?_); clear hS a; intro a hS
  refine L_merge 2 28 (.bool ((Lib.cut s.data.toList [58]).2.2 && someB (tx (Lib.toLowerD (Lib.cut s.data.toList [58]).1)) 40 smI)) hS ?_ ?_
  · intro hcM28
    (first | refine g_splitD (t := 26) hS rfl ?_ ?_ | refine g_split (t := 26) hS rfl ?_ ?_) <;> (clear hS; intro hg26 hS)
    ·
      refine L_go hS rfl rfl (s_e hS (e_move rfl) rfl ?_); clear hS a; intro a hS
      first | (refine L_op (s_e hS (e_pick_t rfl rfl) rfl ?_); clear hS a; intro a hS) | (refine L_op (s_e hS (e_pick_f rfl rfl) rfl ?_); clear hS a; intro a hS)
      exact hcM28 _ _ (hS.ends 3 28 26 rfl (congrArg Value.bool (by rw [hg26]; rfl)) rfl rfl (by first | exact congrArg Value.bool (decide_eq_true hg26).symm | exact congrArg Value.bool hg26.symm | simp [hg26]) rfl)
    ·
      refine L_skip_t hS rfl rfl rfl ?_; clear hS a; intro a hS
      first | (refine L_op (s_e hS (e_pick_t rfl rfl) rfl ?_); clear hS a; intro a hS) | (refine L_op (s_e hS (e_pick_f rfl rfl) rfl ?_); clear hS a; intro a hS)
      exact hcM28 _ _ (hS.ends 3 28 26 rfl (congrArg Value.bool (by rw [hg26]; rfl)) rfl rfl (by first | exact congrArg Value.bool (decide_eq_false hg26).symm | exact congrArg Value.bool hg26.symm | simp [hg26]) rfl)
  · clear hS a; (try clear w); intro a w hS
    simp only [List.drop_succ_cons, List.drop_zero]
    refine L_op (s_e hS (e_move rfl) rfl ?_); clear hS a; intro a hS
    refine L_merge 6 35 (.bool (((Lib.cut s.data.toList [58]).2.2 && someB (tx (Lib.toLowerD (Lib.cut s.data.toList [58]).1)) 40 smI) && decide ((tx (Lib.toLowerD (Lib.cut s.data.toList [58]).1)).size = (tx (Lib.cut s.data.toList [58]).1).size))) hS ?_ ?_
    · intro hcM35
      (first | refine g_splitD (t := 29) hS rfl ?_ ?_ | refine g_split (t := 29) hS rfl ?_ ?_) <;> (clear hS; intro hg29 hS)
      ·
        refine L_go hS rfl rfl (s_e hS (e_move rfl) rfl ?_); clear hS a; intro a hS
        refine L_go hS rfl rfl (s_e hS (e_lenS rfl rfl ty_u9) rfl ?_); clear hS a; intro a hS
        refine L_go hS rfl rfl (s_e hS (e_move rfl) rfl ?_); clear hS a; intro a hS
        refine L_go hS rfl rfl (s_e hS (e_lenS rfl rfl ty_u9) rfl ?_); clear hS a; intro a hS
        refine L_go hS rfl rfl (s_e hS (e_bin rfl rfl rfl) rfl ?_); clear hS a; intro a hS
        first | (refine L_op (s_e hS (e_pick_t rfl rfl) rfl ?_); clear hS a; intro a hS) | (refine L_op (s_e hS (e_pick_f rfl rfl) rfl ?_); clear hS a; intro a hS)
        exact hcM35 _ _ (hS.ends 7 35 29 rfl (congrArg Value.bool (by rw [hg29, Bool.true_and]; exact decide_eq_decide.2 (by rw [tx_list]; omega))) rfl rfl (by first | exact congrArg Value.bool (decide_eq_true hg29).symm | exact congrArg Value.bool hg29.symm | simp [hg29]) rfl)
      ·
        refine L_skip_t hS rfl rfl rfl ?_; clear hS a; intro a hS
        refine L_skip_t hS rfl rfl rfl ?_; clear hS a; intro a hS
        refine L_skip_t hS rfl rfl rfl ?_; clear hS a; intro a hS
        refine L_skip_t hS rfl rfl rfl ?_; clear hS a; intro a hS
        refine L_skip_t hS rfl rfl rfl ?_; clear hS a; intro a hS
        first | (refine L_op (s_e hS (e_pick_t rfl rfl) rfl ?_); clear hS a; intro a hS) | (refine L_op (s_e hS (e_pick_f rfl rfl) rfl ?_); clear hS a; intro a hS)
        exact hcM35 _ _ (hS.ends 7 35 29 rfl (congrArg Value.bool (by rw [hg29]; rfl)) rfl rfl (by first | exact congrArg Value.bool (decide_eq_false hg29).symm | exact congrArg Value.bool hg29.symm | simp [hg29]) rfl)
    · clear hS a; (try clear w); intro a w hS
      simp only [List.drop_succ_cons, List.drop_zero]
      refine L_op (s_e hS (e_move rfl) rfl ?_); clear hS a; intro a hS
      refine L_merge 5 41 (.bool (hdrB s.data.toList)) hS ?_ ?_
      · intro hcM41
        (first | refine g_splitD (t := 36) hS rfl ?_ ?_ | refine g_split (t := 36) hS rfl ?_ ?_) <;> (clear hS; intro hg36 hS)
        ·
          refine L_go hS rfl rfl (s_e hS (e_move rfl) rfl ?_); clear hS a; intro a hS
          refine L_go hS rfl rfl (s_e hS (e_move rfl) rfl ?_); clear hS a; intro a hS
          refine L_go hS rfl rfl (s_callP hS (.cons rfl (.cons rfl .nil)) cf75 rfl (Contains_P 72 oddB cf72 (fun r w hr => oddR_P r hr w) (fun r hr => decide_eq_true (by omega)) (tx (Lib.trimS (Lib.cut s.data.toList [58]).2.1 [32, 9])) _) ?_); clear hS a; (try clear w); intro a w hS
          refine L_go hS rfl rfl (s_e hS (e_not rfl) rfl ?_); clear hS a; intro a hS
          first | (refine L_op (s_e hS (e_pick_t rfl rfl) rfl ?_); clear hS a; intro a hS) | (refine L_op (s_e hS (e_pick_f rfl rfl) rfl ?_); clear hS a; intro a hS)
          exact hcM41 _ _ (hS.ends 6 41 36 rfl (congrArg Value.bool (by unfold hdrB; rw [hg36, Bool.true_and]; rfl)) rfl rfl (by first | exact congrArg Value.bool (decide_eq_true hg36).symm | exact congrArg Value.bool hg36.symm | simp [hg36]) rfl)
        ·
          refine L_skip_t hS rfl rfl rfl ?_; clear hS a; intro a hS
          refine L_skip_t hS rfl rfl rfl ?_; clear hS a; intro a hS
          refine L_skip_t hS rfl rfl rfl ?_; clear hS a; intro a hS
          refine L_skip_t hS rfl rfl rfl ?_; clear hS a; intro a hS
          first | (refine L_op (s_e hS (e_pick_t rfl rfl) rfl ?_); clear hS a; intro a hS) | (refine L_op (s_e hS (e_pick_f rfl rfl) rfl ?_); clear hS a; intro a hS)
          exact hcM41 _ _ (hS.ends 6 41 36 rfl (congrArg Value.bool (by unfold hdrB; rw [hg36]; rfl)) rfl rfl (by first | exact congrArg Value.bool (decide_eq_false hg36).symm | exact congrArg Value.bool hg36.symm | simp [hg36]) rfl)
      · clear hS a; (try clear w); intro a w hS
        simp only [List.drop_succ_cons, List.drop_zero]
        refine L_op (s_e hS (e_assign rfl) rfl ?_); clear hS a; intro a hS
        refine L_op (s_e hS (e_assign rfl) rfl ?_); clear hS a; intro a hS
        refine L_op (s_e hS (e_assign rfl) rfl ?_); clear hS a; intro a hS
        refine L_nil ?_
        refine n_then ?_
        refine wp_ret ?_
        refine c_retN hS Tryz.results54 (.cons (.tmp rfl) (.cons (.tmp rfl) (.cons (.tmp rfl) .nil))) rfl ?_
        exact ⟨rfl, hS.chg⟩

set_option maxRecDepth 100000 in
theorem Length_P (W0 : World) (hG : Gl W0) (s : ByteArray) (hs : s.size ≤ 1000000) (w0 : World) (h : oldφ W0 w0) :
     PureC Tryz.prog 55 [.string s] w0 (.tuple [.int .i64 (lenF s.data.toList).1, .int .i64 (lenF s.data.toList).2].toArray) := by
   have hl := size_list s
   refine c_enter [(0, .string s)] [oldA W0] noB Tryz.func55 rfl Tryz.ntmps55 ⟨rfl, trivial⟩ rfl (okC (old_ok h) okN) dis1 (mineC (by rfl) mineN) ?_
   intro a hS
   refine c_seq ?_
   refine c_region ?_
   refine L_op (s_e hS (e_assign rfl) rfl ?_); clear hS a; intro a hS
   refine L_op (s_e hS (e_assign rfl) rfl ?_); clear hS a; intro a hS
   refine L_nil ?_
   refine n_then ?_
   refine c_seq ?_
   refine c_seq ?_
   refine c_region ?_
   refine L_op (s_e hS (e_move rfl) rfl ?_); clear hS a; intro a hS
   refine L_op (s_e hS (e_binS rfl rfl rfl) rfl ?_); clear hS a; intro a hS
   refine L_op (s_e hS (e_move rfl) rfl ?_); clear hS a; intro a hS
   refine L_merge 3 11 (.bool (decide (s.data.toList = []) || s.data.toList.any fun b => ndB b.toNat)) hS ?_ ?_
   · intro hcM11
     (first | refine g_splitD (t := 8) hS rfl ?_ ?_ | refine g_split (t := 8) hS rfl ?_ ?_) <;> (clear hS; intro hg8 hS)
     ·
       refine L_skip_f hS rfl rfl rfl ?_; clear hS a; intro a hS
       refine L_skip_f hS rfl rfl rfl ?_; clear hS a; intro a hS
       first | (refine L_op (s_e hS (e_pick_t rfl rfl) rfl ?_); clear hS a; intro a hS) | (refine L_op (s_e hS (e_pick_f rfl rfl) rfl ?_); clear hS a; intro a hS)
       exact hcM11 _ _ (hS.ends 4 11 8 rfl (congrArg Value.bool (by rw [decide_eq_true (nil_list.1 hg8)]; rfl)) rfl rfl (by first | exact congrArg Value.bool (decide_eq_true hg8).symm | exact congrArg Value.bool hg8.symm | simp [hg8]) rfl)
     ·
       refine L_go hS rfl rfl (s_e hS (e_move rfl) rfl ?_); clear hS a; intro a hS
       refine L_go hS rfl rfl (s_callP hS (.cons rfl (.cons rfl .nil)) cf75 rfl (Contains_P 76 ndB cf76 (fun r w hr => ndR_P r hr w) (fun r hr => decide_eq_true (by omega)) s _) ?_); clear hS a; (try clear w); intro a w hS
       first | (refine L_op (s_e hS (e_pick_t rfl rfl) rfl ?_); clear hS a; intro a hS) | (refine L_op (s_e hS (e_pick_f rfl rfl) rfl ?_); clear hS a; intro a hS)
       exact hcM11 _ _ (hS.ends 4 11 8 rfl (congrArg Value.bool (by rw [decide_eq_false (fun h => hg8 (nil_list.2 h))]; rfl)) rfl rfl (by first | exact congrArg Value.bool (decide_eq_false hg8).symm | exact congrArg Value.bool hg8.symm | simp [hg8]) rfl)
   · clear hS a; (try clear w); intro a w hS
     simp only [List.drop_succ_cons, List.drop_zero]
     refine L_op (s_e hS (e_move rfl) rfl ?_); clear hS a; intro a hS
     refine L_merge 9 21 (.bool ((decide (s.data.toList = []) || s.data.toList.any fun b => ndB b.toNat) || (decide (byteAt s.data.toList 0 = 48) && decide (1 < s.data.toList.length)))) hS ?_ ?_
     · intro hcM21
       (first | refine g_splitD (t := 12) hS rfl ?_ ?_ | refine g_split (t := 12) hS rfl ?_ ?_) <;> (clear hS; intro hg12 hS)
       ·
         refine L_skip_f hS rfl rfl rfl ?_; clear hS a; intro a hS
         refine L_skip_f hS rfl rfl rfl ?_; clear hS a; intro a hS
         refine L_skip_f hS rfl rfl rfl ?_; clear hS a; intro a hS
         refine L_skip_f hS rfl rfl rfl ?_; clear hS a; intro a hS
         refine L_skip_u hS rfl rfl rfl ?_; clear hS a; intro a hS
         refine L_skip_u hS rfl rfl rfl ?_; clear hS a; intro a hS
         refine L_skip_u hS rfl rfl rfl ?_; clear hS a; intro a hS
         refine L_skip_f hS rfl rfl rfl ?_; clear hS a; intro a hS
         first | (refine L_op (s_e hS (e_pick_t rfl rfl) rfl ?_); clear hS a; intro a hS) | (refine L_op (s_e hS (e_pick_f rfl rfl) rfl ?_); clear hS a; intro a hS)
         exact hcM21 _ _ (hS.ends 10 21 12 rfl (congrArg Value.bool (by rw [hg12]; rfl)) rfl rfl (by first | exact congrArg Value.bool (decide_eq_true hg12).symm | exact congrArg Value.bool hg12.symm | simp [hg12]) rfl)
       ·
         have hne : s.data.toList ≠ [] := by
           rw [Bool.or_eq_false_iff] at hg12
           exact of_decide_eq_false hg12.1
         have hpos : 0 < s.size := by have := List.length_pos_iff.2 hne; omega
         refine L_go hS rfl rfl (s_e hS (e_move rfl) rfl ?_); clear hS a; intro a hS
         refine L_go hS rfl rfl (s_e hS (e_ixS rfl rfl ty_u9 (by omega)) rfl ?_); clear hS a; intro a hS
         refine L_go hS rfl rfl (s_e hS (e_bin rfl rfl rfl) rfl ?_); clear hS a; intro a hS
         refine L_go hS rfl rfl (s_e hS (e_move rfl) rfl ?_); clear hS a; intro a hS
         refine L_merge 4 20 (.bool (decide (byteAt s.data.toList 0 = 48) && decide (1 < s.data.toList.length))) hS ?_ ?_
         · intro hcM20
           (first | refine g_splitD (t := 16) hS rfl ?_ ?_ | refine g_split (t := 16) hS rfl ?_ ?_) <;> (clear hS; intro hg16 hS)
           ·
             refine L_go hS rfl rfl (s_e hS (e_move rfl) rfl ?_); clear hS a; intro a hS
             refine L_go hS rfl rfl (s_e hS (e_lenS rfl rfl ty_u9) rfl ?_); clear hS a; intro a hS
             refine L_go hS rfl rfl (s_e hS (e_bin rfl rfl rfl) rfl ?_); clear hS a; intro a hS
             first | (refine L_go hS rfl rfl (s_e hS (e_pick_t rfl rfl) rfl ?_); clear hS a; intro a hS) | (refine L_go hS rfl rfl (s_e hS (e_pick_f rfl rfl) rfl ?_); clear hS a; intro a hS)
             exact hcM20 _ _ (hS.ends 5 20 16 rfl (congrArg Value.bool (by rw [decide_eq_true (show byteAt s.data.toList 0 = 48 by unfold byteAt; rw [Int.toNat_zero] at hg16; omega), Bool.true_and]; exact decide_eq_decide.2 (by omega))) rfl rfl (by first | exact congrArg Value.bool (decide_eq_true hg16).symm | exact congrArg Value.bool hg16.symm | simp [hg16]) rfl)
           ·
             refine L_skip_t hS rfl rfl rfl ?_; clear hS a; intro a hS
             refine L_skip_t hS rfl rfl rfl ?_; clear hS a; intro a hS
             refine L_skip_t hS rfl rfl rfl ?_; clear hS a; intro a hS
             first | (refine L_go hS rfl rfl (s_e hS (e_pick_t rfl rfl) rfl ?_); clear hS a; intro a hS) | (refine L_go hS rfl rfl (s_e hS (e_pick_f rfl rfl) rfl ?_); clear hS a; intro a hS)
             exact hcM20 _ _ (hS.ends 5 20 16 rfl (congrArg Value.bool (by rw [decide_eq_false (show ¬ byteAt s.data.toList 0 = 48 by unfold byteAt; rw [Int.toNat_zero] at hg16; omega)]; rfl)) rfl rfl (by first | exact congrArg Value.bool (decide_eq_false hg16).symm | exact congrArg Value.bool hg16.symm | simp [hg16]) rfl)
         · clear hS a; (try clear w); intro a w hS
           simp only [List.drop_succ_cons, List.drop_zero]
           first | (refine L_op (s_e hS (e_pick_t rfl rfl) rfl ?_); clear hS a; intro a hS) | (refine L_op (s_e hS (e_pick_f rfl rfl) rfl ?_); clear hS a; intro a hS)
           exact hcM21 _ _ (hS.ends 7 21 12 rfl (congrArg Value.bool (by rw [hg12, Bool.false_or])) rfl rfl (by first | exact congrArg Value.bool (decide_eq_false hg12).symm | exact congrArg Value.bool hg12.symm | simp [hg12]) rfl)
     · clear hS a; (try clear w); intro a w hS
       simp only [List.drop_succ_cons, List.drop_zero]
       refine L_nil ?_
       refine n_then ?_
       first | refine c_ifD hS rfl (fun hc21 => ?_) (fun hc21 => ?_) | refine c_if hS rfl (fun hc21 => ?_) (fun hc21 => ?_)
       ·
         have hno : ¬ (NumForm s.data.toList ∧ byteAt s.data.toList 0 ≠ 45) := fun hf => by
           obtain ⟨h1, h2, h3⟩ := form_iff.1 hf
           rw [Bool.or_eq_true, Bool.or_eq_true] at hc21
           rcases hc21 with (h4 | h4) | h4
           · exact h1 (of_decide_eq_true h4)
           · obtain ⟨b, hb, h5⟩ := List.any_eq_true.1 h4
             have h6 := of_decide_eq_true h5
             have h7 := h2 b hb
             omega
           · rw [Bool.and_eq_true, decide_eq_true_eq, decide_eq_true_eq] at h4
             exact h3 ⟨h4.2, h4.1⟩
         refine c_seq ?_
         refine c_region ?_
         refine L_op (s_e hS (e_assign rfl) rfl ?_); clear hS a; intro a hS
         refine L_op (s_e hS (e_assign rfl) rfl ?_); clear hS a; intro a hS
         refine L_nil ?_
         refine n_then ?_
         refine wp_ret ?_
         refine r_then ?_
         refine c_retN hS Tryz.results55 (.cons (.tmp rfl) (.cons (.tmp rfl) .nil)) rfl ?_
         exact ⟨by unfold lenF; rw [if_neg hno], hS.chg⟩
       ·
         rw [Bool.or_eq_false_iff, Bool.or_eq_false_iff, decide_eq_false_iff_not] at hc21
         have hdig : ∀ b ∈ s.data.toList, 48 ≤ b.toNat ∧ b.toNat ≤ 57 := fun b hb => by
           have h1 := List.any_eq_false.1 hc21.1.2 b hb
           rw [Bool.not_eq_true] at h1
           have h2 := of_decide_eq_false h1
           omega
         have hyes : NumForm s.data.toList ∧ byteAt s.data.toList 0 ≠ 45 := form_iff.2 ⟨hc21.1.1, hdig, fun h4 => by
           have h5 := hc21.2
           rw [decide_eq_true h4.1, decide_eq_true h4.2] at h5; cases h5⟩
         refine wp_skip ?_
         refine n_then ?_
         refine c_seq ?_
         refine c_region ?_
         refine L_op (s_e hS (e_move rfl) rfl ?_); clear hS a; intro a hS
         refine L_op (s_callN hS (.cons rfl .nil) cf77 rfl (AtoiD_P s (by omega) hc21.1.1 hdig _ (hG.keep (hS.get (X := oldA W0) (by repeat constructor)))) ?_); clear hS a; (try clear w); intro x24 a w hS
         have hx := hS.get (X := prA (isAtoi s.data.toList x24)) (by repeat constructor)
         refine L_op (s_e hS (e_move rfl) rfl ?_); clear hS a; intro a hS
         refine L_op (s_e hS (e_extract rfl rfl) rfl ?_); clear hS a; intro a hS
         refine L_op (s_e hS (e_extract rfl rfl) rfl ?_); clear hS a; intro a hS
         refine L_op (s_e hS (e_assign rfl) rfl ?_); clear hS a; intro a hS
         refine L_op (s_e hS (e_assign rfl) rfl ?_); clear hS a; intro a hS
         refine L_nil ?_
         refine n_then ?_
         refine c_seq ?_
         refine c_seq ?_
         refine c_region ?_
         refine L_op (s_e hS (e_move rfl) rfl ?_); clear hS a; intro a hS
         refine L_op (s_e hS (e_ifNe (c := decide (9223372036854775808 ≤ dv s.data.toList)) rfl (by kernel_rfl) (by
 rcases hx with ⟨h1, h2⟩ | ⟨h1, p, h2⟩
 · exact .inl ⟨by rw [h2], decide_eq_false (by omega)⟩
 · exact .inr ⟨⟨170, p, h2⟩, decide_eq_true h1⟩)) rfl ?_); clear hS a; intro a hS
         refine L_op (s_e hS (e_move rfl) rfl ?_); clear hS a; intro a hS
         refine L_merge 3 32 (.bool (decide (32768 < dv s.data.toList))) hS ?_ ?_
         · intro hcM32
           (first | refine g_splitD (t := 29) hS rfl ?_ ?_ | refine g_split (t := 29) hS rfl ?_ ?_) <;> (clear hS; intro hg29 hS)
           ·
             refine L_skip_f hS rfl rfl rfl ?_; clear hS a; intro a hS
             refine L_skip_f hS rfl rfl rfl ?_; clear hS a; intro a hS
             first | (refine L_op (s_e hS (e_pick_t rfl rfl) rfl ?_); clear hS a; intro a hS) | (refine L_op (s_e hS (e_pick_f rfl rfl) rfl ?_); clear hS a; intro a hS)
             exact hcM32 _ _ (hS.ends 4 32 29 rfl (congrArg Value.bool (by exact (decide_eq_true (by omega)).symm)) rfl rfl (by first | exact congrArg Value.bool (decide_eq_true hg29).symm | exact congrArg Value.bool hg29.symm | simp [hg29]) rfl)
           ·
             refine L_go hS rfl rfl (s_e hS (e_move rfl) rfl ?_); clear hS a; intro a hS
             refine L_go hS rfl rfl (s_e hS (e_bin rfl rfl rfl) rfl ?_); clear hS a; intro a hS
             first | (refine L_op (s_e hS (e_pick_t rfl rfl) rfl ?_); clear hS a; intro a hS) | (refine L_op (s_e hS (e_pick_f rfl rfl) rfl ?_); clear hS a; intro a hS)
             exact hcM32 _ _ (hS.ends 4 32 29 rfl (congrArg Value.bool (by rcases hx with ⟨h1, h2⟩ | ⟨h1, p, h2⟩; (rw [h2]; exact decide_eq_decide.2 (by simp only; omega)); omega)) rfl rfl (by first | exact congrArg Value.bool (decide_eq_false hg29).symm | exact congrArg Value.bool hg29.symm | simp [hg29]) rfl)
         · clear hS a; (try clear w); intro a w hS
           simp only [List.drop_succ_cons, List.drop_zero]
           refine L_nil ?_
           refine n_then ?_
           first | refine c_ifD hS rfl (fun hc32 => ?_) (fun hc32 => ?_) | refine c_if hS rfl (fun hc32 => ?_) (fun hc32 => ?_)
           ·
             refine c_seq ?_
             refine c_region ?_
             refine L_op (s_e hS (e_assign rfl) rfl ?_); clear hS a; intro a hS
             refine L_op (s_e hS (e_assign rfl) rfl ?_); clear hS a; intro a hS
             refine L_nil ?_
             refine n_then ?_
             refine wp_ret ?_
             refine r_then ?_
             refine c_retN hS Tryz.results55 (.cons (.tmp rfl) (.cons (.tmp rfl) .nil)) rfl ?_
             exact ⟨by unfold lenF; rw [if_pos hyes, if_neg (by omega)], hS.chg⟩
           ·
             have hx1 : x24.1 = (dv s.data.toList : Int) := by
               rcases hx with ⟨h1, h2⟩ | ⟨h1, p, h2⟩
               · rw [h2]
               · omega
             refine wp_skip ?_
             refine n_then ?_
             refine c_seq ?_
             refine c_region ?_
             refine L_op (s_e hS (e_move rfl) rfl ?_); clear hS a; intro a hS
             refine L_op (s_e hS (e_assign rfl) rfl ?_); clear hS a; intro a hS
             refine L_op (s_e hS (e_assign rfl) rfl ?_); clear hS a; intro a hS
             refine L_nil ?_
             refine n_then ?_
             refine wp_ret ?_
             refine c_retN hS Tryz.results55 (.cons (.tmp rfl) (.cons (.tmp rfl) .nil)) rfl ?_
             exact ⟨by unfold lenF; rw [if_pos hyes, if_pos (by omega), hx1], hS.chg⟩
end Go.Proofs.YtjmkjkhcognoeaaGreatDoor

namespace Go.Proofs.YtjmkjkhcognoeaaGreatDoor
open Go.RowKit

/-- what one byte decides of the line that it stands in. -/
def lineAt (l : List Int) (i : Nat) : Option (Int × Int) :=
  if l.getD i 0 = 10 ∨ (l.getD i 0 = 13 ∧ i + 1 < l.length ∧ l.getD (i + 1) 0 ≠ 10) then some (-1, 10)
  else if l.getD i 0 = 13 ∧ i + 1 < l.length then some ((i : Int), 0)
  else if l.getD i 0 = 13 then some (-1, 0)
  else if i = 1000 then some (-1, 8) else none
def lineF (l : List Int) : Int × Int := ((List.range l.length).findSome? (lineAt l)).getD (-1, 0)
theorem find_at {α : Type} {f : Nat → Option α} {v : α} {k : Nat} : ∀ {n : Nat}, (∀ j, j < k → f j = none) → f k = some v → k < n → (List.range n).findSome? f = some v := by
  intro n h0 h1 hk
  rw [List.findSome?_eq_some_iff]
  refine ⟨List.range k, k, (List.range' (k + 1) (n - (k + 1))), ?_, h1, fun x hx => h0 x (List.mem_range.1 hx)⟩
  rw [List.range_eq_range', List.range_eq_range', show n = k + (1 + (n - (k + 1))) by omega, ← List.range'_append_1, ← List.range'_append_1]
  simp [Nat.add_comm, Nat.add_left_comm]
  try congr 1 <;> omega
theorem line_at {l : List Int} {k : Nat} {v : Int × Int} (h0 : ∀ j, j < k → lineAt l j = none) (h1 : lineAt l k = some v) (hk : k < l.length) : lineF l = v := by
  unfold lineF; rw [find_at h0 h1 hk]; rfl
theorem line_no {l : List Int} (h0 : ∀ j, j < l.length → lineAt l j = none) : lineF l = (-1, 0) := by
  unfold lineF
  rw [List.findSome?_eq_none_iff.2 (fun x hx => h0 x (List.mem_range.1 hx))]
  rfl

set_option maxRecDepth 100000 in
theorem line_P (v : Value) (l : List Int) (hlen : l.length ≤ 4611686018427387904) (w0 : World) (h : ByAt v l w0) : PureC Tryz.prog 52 [v] w0 (.tuple [.int .i64 (lineF l).1, .int .i64 (lineF l).2].toArray) := by
   obtain ⟨q, c, rfl⟩ := h.shape
   refine c_enter [(0, .slice q l.length c)] [byA (.slice q l.length c) l] noB Tryz.func52 rfl Tryz.ntmps52 ⟨rfl, trivial⟩ rfl (okC (by_ok h) okN) dis1 (mineC (by rfl) mineN) ?_
   intro a hS
   refine c_seq ?_
   refine c_region ?_
   refine L_op (s_e hS (e_assign rfl) rfl ?_); clear hS a; intro a hS
   refine L_op (s_e hS (e_assign rfl) rfl ?_); clear hS a; intro a hS
   refine L_nil ?_
   refine n_then ?_
   refine c_seq ?_
   refine c_seq ?_
   refine c_region ?_
   refine L_op (s_e hS (e_move rfl) rfl ?_); clear hS a; intro a hS
   refine L_op (s_e hS (e_len rfl rfl ty_sl22) rfl ?_); clear hS a; intro a hS
   refine L_op (s_e hS (e_move rfl) rfl ?_); clear hS a; intro a hS
   refine L_nil ?_
   refine n_then ?_
   refine wp_block ?_
   skip
   refine c_loop (γ := Nat) (fun k a w => St 53 noB w0 a w [(8, .int .i64 (k : Int)), (7, .int .i64 (l.length : Int)), (6, .slice q l.length c), (0, .slice q l.length c)] [byA (.slice q l.length c) l] ∧ k ≤ l.length ∧ ∀ j, j < k → lineAt l j = none) (fun k => l.length - k) 0 ⟨hS.slots ⟨rfl, rfl, rfl, rfl, trivial⟩, Nat.zero_le _, fun j hj => by omega⟩ ?_
   clear hS a; (try clear w); intro k a w hI
   obtain ⟨hS, hk, hno⟩ := hI
   refine c_seq ?_
   refine c_region ?_
   refine L_op (s_e hS (e_bin rfl rfl rfl) rfl ?_); clear hS a; intro a hS
   refine L_nil ?_
   refine n_then ?_
   refine c_seq ?_
   first | refine c_ifD hS rfl (fun hc9 => ?_) (fun hc9 => ?_) | refine c_if hS rfl (fun hc9 => ?_) (fun hc9 => ?_)
   ·
     have hkl : k < l.length := by omega
     obtain ⟨x, hx⟩ : ∃ x, l[k]? = some x := ⟨l[k], by simp⟩
     have hgx : l.getD k 0 = x := by rw [List.getD_eq_getElem?_getD, hx]; rfl
     obtain ⟨b, off, c', e1, _, hcell⟩ := h.some (fun e => by rw [e] at hkl; exact absurd hkl (Nat.not_lt_zero _))
     injection e1 with e2 _ e3
     subst e2; subst e3
     refine wp_skip ?_
     refine n_then ?_
     refine c_seq ?_
     refine wp_block ?_
     refine c_seq ?_
     refine c_region ?_
     refine L_op (s_e hS (e_move rfl) rfl ?_); clear hS a; intro a hS
     refine L_op (s_e hS (e_ixN rfl rfl ty_sl22 ty_sz5 (by omega)) rfl ?_); clear hS a; intro a hS
     refine L_op (s_e hS (e_loadC rfl ty_sc5 (fun w hh => by
 obtain ⟨b2, o2, c2, e4, _, hr⟩ := ByAt.some (hh (byA _ l) (by repeat constructor)) (fun e => by rw [e] at hkl; exact absurd hkl (Nat.not_lt_zero _))
 injection e4 with e5; injection e5 with e6; injection e6 with e7 e8; subst e7; subst e8
 rw [Nat.mul_one]; exact hr _ _ hx)) rfl ?_); clear hS a; intro a hS
     refine L_op (s_e hS (e_assign rfl) rfl ?_); clear hS a; intro a hS
     refine L_op (s_e hS (e_assign rfl) rfl ?_); clear hS a; intro a hS
     refine L_nil ?_
     refine n_then ?_
     refine wp_block ?_
     refine c_seq ?_
     refine c_region ?_
     refine L_op (s_e hS (e_move rfl) rfl ?_); clear hS a; intro a hS
     refine L_op (s_e hS (e_bin rfl rfl rfl) rfl ?_); clear hS a; intro a hS
     refine L_op (s_e hS (e_move rfl) rfl ?_); clear hS a; intro a hS
     refine L_merge 18 34 (.bool (decide (x = 10 ∨ (x = 13 ∧ k + 1 < l.length ∧ l.getD (k + 1) 0 ≠ 10)))) hS ?_ ?_
     · intro hcM34
       (first | refine g_splitD (t := 16) hS rfl ?_ ?_ | refine g_split (t := 16) hS rfl ?_ ?_) <;> (clear hS; intro hg16 hS)
       ·
         refine L_skip_f hS rfl rfl rfl ?_; clear hS a; intro a hS
         refine L_skip_f hS rfl rfl rfl ?_; clear hS a; intro a hS
         refine L_skip_f hS rfl rfl rfl ?_; clear hS a; intro a hS
         refine L_skip_u hS rfl rfl rfl ?_; clear hS a; intro a hS
         refine L_skip_u hS rfl rfl rfl ?_; clear hS a; intro a hS
         refine L_skip_u hS rfl rfl rfl ?_; clear hS a; intro a hS
         refine L_skip_u hS rfl rfl rfl ?_; clear hS a; intro a hS
         refine L_skip_u hS rfl rfl rfl ?_; clear hS a; intro a hS
         refine L_skip_f hS rfl rfl rfl ?_; clear hS a; intro a hS
         refine L_skip_f hS rfl rfl rfl ?_; clear hS a; intro a hS
         refine L_skip_u hS rfl rfl rfl ?_; clear hS a; intro a hS
         refine L_skip_u hS rfl rfl rfl ?_; clear hS a; intro a hS
         refine L_skip_u hS rfl rfl rfl ?_; clear hS a; intro a hS
         refine L_skip_u hS rfl rfl rfl ?_; clear hS a; intro a hS
         refine L_skip_u hS rfl rfl rfl ?_; clear hS a; intro a hS
         refine L_skip_u hS rfl rfl rfl ?_; clear hS a; intro a hS
         refine L_skip_f hS rfl rfl rfl ?_; clear hS a; intro a hS
         first | (refine L_op (s_e hS (e_pick_t rfl rfl) rfl ?_); clear hS a; intro a hS) | (refine L_op (s_e hS (e_pick_f rfl rfl) rfl ?_); clear hS a; intro a hS)
         exact hcM34 _ _ (hS.ends 19 34 16 rfl (congrArg Value.bool (by first | rfl | (simp [hg16]; done) | (simp [hg16]; omega) | grind)) rfl rfl (by first | exact congrArg Value.bool (decide_eq_true hg16).symm | exact congrArg Value.bool hg16.symm | simp [hg16]) rfl)
       ·
         refine L_go hS rfl rfl (s_e hS (e_move rfl) rfl ?_); clear hS a; intro a hS
         refine L_go hS rfl rfl (s_e hS (e_bin rfl rfl rfl) rfl ?_); clear hS a; intro a hS
         refine L_go hS rfl rfl (s_e hS (e_move rfl) rfl ?_); clear hS a; intro a hS
         refine L_merge 6 25 (.bool (decide (x = 13 ∧ k + 1 < l.length))) hS ?_ ?_
         · intro hcM25
           (first | refine g_splitD (t := 19) hS rfl ?_ ?_ | refine g_split (t := 19) hS rfl ?_ ?_) <;> (clear hS; intro hg19 hS)
           ·
             refine L_go hS rfl rfl (s_e hS (e_move rfl) rfl ?_); clear hS a; intro a hS
             first | (refine L_go hS rfl rfl (s_e hS (e_binN rfl rfl rfl (by omega)) rfl ?_); clear hS a; intro a hS) | (refine L_go hS rfl rfl (s_e hS (e_bin rfl rfl rfl) rfl ?_); clear hS a; intro a hS)
             refine L_go hS rfl rfl (s_e hS (e_move rfl) rfl ?_); clear hS a; intro a hS
             refine L_go hS rfl rfl (s_e hS (e_len rfl rfl ty_sl22) rfl ?_); clear hS a; intro a hS
             refine L_go hS rfl rfl (s_e hS (e_bin rfl rfl rfl) rfl ?_); clear hS a; intro a hS
             first | (refine L_go hS rfl rfl (s_e hS (e_pick_t rfl rfl) rfl ?_); clear hS a; intro a hS) | (refine L_go hS rfl rfl (s_e hS (e_pick_f rfl rfl) rfl ?_); clear hS a; intro a hS)
             exact hcM25 _ _ (hS.ends 7 25 19 rfl (congrArg Value.bool (by exact decide_eq_decide.2 (by omega))) rfl rfl (by first | exact congrArg Value.bool (decide_eq_true hg19).symm | exact congrArg Value.bool hg19.symm | simp [hg19]) rfl)
           ·
             refine L_skip_t hS rfl rfl rfl ?_; clear hS a; intro a hS
             refine L_skip_t hS rfl rfl rfl ?_; clear hS a; intro a hS
             refine L_skip_t hS rfl rfl rfl ?_; clear hS a; intro a hS
             refine L_skip_t hS rfl rfl rfl ?_; clear hS a; intro a hS
             refine L_skip_t hS rfl rfl rfl ?_; clear hS a; intro a hS
             first | (refine L_go hS rfl rfl (s_e hS (e_pick_t rfl rfl) rfl ?_); clear hS a; intro a hS) | (refine L_go hS rfl rfl (s_e hS (e_pick_f rfl rfl) rfl ?_); clear hS a; intro a hS)
             exact hcM25 _ _ (hS.ends 7 25 19 rfl (congrArg Value.bool (by exact (decide_eq_false (fun h => hg19 h.1)).symm)) rfl rfl (by first | exact congrArg Value.bool (decide_eq_false hg19).symm | exact congrArg Value.bool hg19.symm | simp [hg19]) rfl)
         · clear hS a; (try clear w); intro a w hS
           simp only [List.drop_succ_cons, List.drop_zero]
           refine L_go hS rfl rfl (s_e hS (e_move rfl) rfl ?_); clear hS a; intro a hS
           refine L_merge 7 33 (.bool (decide (x = 13 ∧ k + 1 < l.length ∧ l.getD (k + 1) 0 ≠ 10))) hS ?_ ?_
           · intro hcM33
             (first | refine g_splitD (t := 26) hS rfl ?_ ?_ | refine g_split (t := 26) hS rfl ?_ ?_) <;> (clear hS; intro hg26 hS)
             ·
               obtain ⟨y, hy⟩ : ∃ y, l[k + 1]? = some y := ⟨l[k + 1]'(by omega), List.getElem?_eq_getElem (by omega)⟩
               have hgy : l.getD (k + 1) 0 = y := by rw [List.getD_eq_getElem?_getD, hy]; rfl
               refine L_go hS rfl rfl (s_e hS (e_move rfl) rfl ?_); clear hS a; intro a hS
               refine L_go hS rfl rfl (s_e hS (e_move rfl) rfl ?_); clear hS a; intro a hS
               first | (refine L_go hS rfl rfl (s_e hS (e_binN rfl rfl rfl (by omega)) rfl ?_); clear hS a; intro a hS) | (refine L_go hS rfl rfl (s_e hS (e_bin rfl rfl rfl) rfl ?_); clear hS a; intro a hS)
               refine L_go hS rfl rfl (s_e hS (e_ix rfl rfl ty_sl22 ty_sz5 (by omega)) rfl ?_); clear hS a; intro a hS
               refine L_go hS rfl rfl (s_e hS (e_loadC rfl ty_sc5 (fun w hh => by
 obtain ⟨b2, o2, c2, e4, _, hr⟩ := ByAt.some (hh (byA _ l) (by repeat constructor)) (fun e => by rw [e] at hkl; exact absurd hkl (Nat.not_lt_zero _))
 injection e4 with e5; injection e5 with e6; injection e6 with e7 e8; subst e7; subst e8
 rw [Nat.mul_one, show ((k : Int) + 1).toNat = k + 1 by omega]; exact hr _ _ hy)) rfl ?_); clear hS a; intro a hS
               refine L_go hS rfl rfl (s_e hS (e_bin rfl rfl rfl) rfl ?_); clear hS a; intro a hS
               first | (refine L_go hS rfl rfl (s_e hS (e_pick_t rfl rfl) rfl ?_); clear hS a; intro a hS) | (refine L_go hS rfl rfl (s_e hS (e_pick_f rfl rfl) rfl ?_); clear hS a; intro a hS)
               exact hcM33 _ _ (hS.ends 8 33 26 rfl (congrArg Value.bool (by first | rfl | (simp [hg26]; done) | (simp [hg26]; omega) | grind)) rfl rfl (by first | exact congrArg Value.bool (decide_eq_true hg26).symm | exact congrArg Value.bool hg26.symm | simp [hg26]) rfl)
             ·
               refine L_skip_t hS rfl rfl rfl ?_; clear hS a; intro a hS
               refine L_skip_t hS rfl rfl rfl ?_; clear hS a; intro a hS
               refine L_skip_t hS rfl rfl rfl ?_; clear hS a; intro a hS
               refine L_skip_t hS rfl rfl rfl ?_; clear hS a; intro a hS
               refine L_skip_t hS rfl rfl rfl ?_; clear hS a; intro a hS
               refine L_skip_t hS rfl rfl rfl ?_; clear hS a; intro a hS
               first | (refine L_go hS rfl rfl (s_e hS (e_pick_t rfl rfl) rfl ?_); clear hS a; intro a hS) | (refine L_go hS rfl rfl (s_e hS (e_pick_f rfl rfl) rfl ?_); clear hS a; intro a hS)
               exact hcM33 _ _ (hS.ends 8 33 26 rfl (congrArg Value.bool (by first | rfl | (simp [hg26]; done) | (simp [hg26]; omega) | grind)) rfl rfl (by first | exact congrArg Value.bool (decide_eq_false hg26).symm | exact congrArg Value.bool hg26.symm | simp [hg26]) rfl)
           · clear hS a; (try clear w); intro a w hS
             simp only [List.drop_succ_cons, List.drop_zero]
             first | (refine L_op (s_e hS (e_pick_t rfl rfl) rfl ?_); clear hS a; intro a hS) | (refine L_op (s_e hS (e_pick_f rfl rfl) rfl ?_); clear hS a; intro a hS)
             exact hcM34 _ _ (hS.ends 8 34 16 rfl (congrArg Value.bool (by first | rfl | (simp [hg16]; done) | (simp [hg16]; omega) | grind)) rfl rfl (by first | exact congrArg Value.bool (decide_eq_false hg16).symm | exact congrArg Value.bool hg16.symm | simp [hg16]) rfl)
     · clear hS a; (try clear w); intro a w hS
       simp only [List.drop_succ_cons, List.drop_zero]
       refine L_op (s_e hS (e_assign rfl) rfl ?_); clear hS a; intro a hS
       refine L_nil ?_
       refine n_then ?_
       first | refine c_ifD hS rfl (fun hc13 => ?_) (fun hc13 => ?_) | refine c_if hS rfl (fun hc13 => ?_) (fun hc13 => ?_)
       ·
         refine c_seq ?_
         refine c_region ?_
         refine L_op (s_e hS (e_assign rfl) rfl ?_); clear hS a; intro a hS
         refine L_op (s_e hS (e_assign rfl) rfl ?_); clear hS a; intro a hS
         refine L_nil ?_
         refine n_then ?_
         refine wp_ret ?_
         refine r_block (r_block (r_then (r_then (r_block (r_then ?_)))))
         refine c_retN hS Tryz.results52 (.cons (.tmp rfl) (.cons (.tmp rfl) .nil)) rfl ?_
         exact ⟨by rw [line_at hno (v := (-1, 10)) (by unfold lineAt; rw [hgx, if_pos hc13]) hkl], hS.chg⟩
       ·
         refine c_seq ?_
         refine c_region ?_
         refine L_op (s_e hS (e_move rfl) rfl ?_); clear hS a; intro a hS
         refine L_op (s_e hS (e_bin rfl rfl rfl) rfl ?_); clear hS a; intro a hS
         refine L_op (s_e hS (e_move rfl) rfl ?_); clear hS a; intro a hS
         refine L_merge 6 44 (.bool (decide (x = 13 ∧ k + 1 < l.length))) hS ?_ ?_
         · intro hcM44
           (first | refine g_splitD (t := 38) hS rfl ?_ ?_ | refine g_split (t := 38) hS rfl ?_ ?_) <;> (clear hS; intro hg38 hS)
           ·
             refine L_go hS rfl rfl (s_e hS (e_move rfl) rfl ?_); clear hS a; intro a hS
             first | (refine L_go hS rfl rfl (s_e hS (e_binN rfl rfl rfl (by omega)) rfl ?_); clear hS a; intro a hS) | (refine L_go hS rfl rfl (s_e hS (e_bin rfl rfl rfl) rfl ?_); clear hS a; intro a hS)
             refine L_go hS rfl rfl (s_e hS (e_move rfl) rfl ?_); clear hS a; intro a hS
             refine L_go hS rfl rfl (s_e hS (e_len rfl rfl ty_sl22) rfl ?_); clear hS a; intro a hS
             refine L_go hS rfl rfl (s_e hS (e_bin rfl rfl rfl) rfl ?_); clear hS a; intro a hS
             first | (refine L_op (s_e hS (e_pick_t rfl rfl) rfl ?_); clear hS a; intro a hS) | (refine L_op (s_e hS (e_pick_f rfl rfl) rfl ?_); clear hS a; intro a hS)
             exact hcM44 _ _ (hS.ends 7 44 38 rfl (congrArg Value.bool (by exact decide_eq_decide.2 (by omega))) rfl rfl (by first | exact congrArg Value.bool (decide_eq_true hg38).symm | exact congrArg Value.bool hg38.symm | simp [hg38]) rfl)
           ·
             refine L_skip_t hS rfl rfl rfl ?_; clear hS a; intro a hS
             refine L_skip_t hS rfl rfl rfl ?_; clear hS a; intro a hS
             refine L_skip_t hS rfl rfl rfl ?_; clear hS a; intro a hS
             refine L_skip_t hS rfl rfl rfl ?_; clear hS a; intro a hS
             refine L_skip_t hS rfl rfl rfl ?_; clear hS a; intro a hS
             first | (refine L_op (s_e hS (e_pick_t rfl rfl) rfl ?_); clear hS a; intro a hS) | (refine L_op (s_e hS (e_pick_f rfl rfl) rfl ?_); clear hS a; intro a hS)
             exact hcM44 _ _ (hS.ends 7 44 38 rfl (congrArg Value.bool (by exact (decide_eq_false (fun h => hg38 h.1)).symm)) rfl rfl (by first | exact congrArg Value.bool (decide_eq_false hg38).symm | exact congrArg Value.bool hg38.symm | simp [hg38]) rfl)
         · clear hS a; (try clear w); intro a w hS
           simp only [List.drop_succ_cons, List.drop_zero]
           refine L_op (s_e hS (e_assign rfl) rfl ?_); clear hS a; intro a hS
           refine L_nil ?_
           refine n_then ?_
           first | refine c_ifD hS rfl (fun hc35 => ?_) (fun hc35 => ?_) | refine c_if hS rfl (fun hc35 => ?_) (fun hc35 => ?_)
           ·
             refine c_seq ?_
             refine c_region ?_
             refine L_op (s_e hS (e_move rfl) rfl ?_); clear hS a; intro a hS
             refine L_op (s_e hS (e_assign rfl) rfl ?_); clear hS a; intro a hS
             refine L_op (s_e hS (e_assign rfl) rfl ?_); clear hS a; intro a hS
             refine L_nil ?_
             refine n_then ?_
             refine wp_ret ?_
             refine r_block (r_block (r_then (r_then (r_block (r_then ?_)))))
             refine c_retN hS Tryz.results52 (.cons (.tmp rfl) (.cons (.tmp rfl) .nil)) rfl ?_
             exact ⟨by rw [line_at hno (v := ((k : Int), 0)) (by unfold lineAt; rw [hgx, if_neg hc13, if_pos hc35]) hkl], hS.chg⟩
           ·
             refine c_seq ?_
             refine c_region ?_
             refine L_op (s_e hS (e_move rfl) rfl ?_); clear hS a; intro a hS
             refine L_op (s_e hS (e_bin rfl rfl rfl) rfl ?_); clear hS a; intro a hS
             refine L_op (s_e hS (e_assign rfl) rfl ?_); clear hS a; intro a hS
             refine L_nil ?_
             refine n_then ?_
             first | refine c_ifD hS rfl (fun hc46 => ?_) (fun hc46 => ?_) | refine c_if hS rfl (fun hc46 => ?_) (fun hc46 => ?_)
             ·
               refine c_seq ?_
               refine c_region ?_
               refine L_op (s_e hS (e_assign rfl) rfl ?_); clear hS a; intro a hS
               refine L_op (s_e hS (e_assign rfl) rfl ?_); clear hS a; intro a hS
               refine L_nil ?_
               refine n_then ?_
               refine wp_ret ?_
               refine r_block (r_block (r_then (r_then (r_block (r_then ?_)))))
               refine c_retN hS Tryz.results52 (.cons (.tmp rfl) (.cons (.tmp rfl) .nil)) rfl ?_
               exact ⟨by rw [line_at hno (v := (-1, 0)) (by unfold lineAt; rw [hgx, if_neg hc13, if_neg hc35, if_pos hc46]) hkl], hS.chg⟩
             ·
               refine c_seq ?_
               refine c_region ?_
               refine L_op (s_e hS (e_move rfl) rfl ?_); clear hS a; intro a hS
               refine L_op (s_e hS (e_bin rfl rfl rfl) rfl ?_); clear hS a; intro a hS
               refine L_op (s_e hS (e_assign rfl) rfl ?_); clear hS a; intro a hS
               refine L_nil ?_
               refine n_then ?_
               first | refine c_ifD hS rfl (fun hc49 => ?_) (fun hc49 => ?_) | refine c_if hS rfl (fun hc49 => ?_) (fun hc49 => ?_)
               ·
                 refine c_seq ?_
                 refine c_region ?_
                 refine L_op (s_e hS (e_assign rfl) rfl ?_); clear hS a; intro a hS
                 refine L_op (s_e hS (e_assign rfl) rfl ?_); clear hS a; intro a hS
                 refine L_nil ?_
                 refine n_then ?_
                 refine wp_ret ?_
                 refine r_block (r_block (r_then (r_then (r_block (r_then ?_)))))
                 refine c_retN hS Tryz.results52 (.cons (.tmp rfl) (.cons (.tmp rfl) .nil)) rfl ?_
                 exact ⟨by rw [line_at hno (v := (-1, 8)) (by unfold lineAt; rw [hgx, if_neg hc13, if_neg hc35, if_neg hc46, if_pos (by omega)]) hkl], hS.chg⟩
               ·
                 refine wp_skip ?_
                 refine n_block ?_
                 refine n_block ?_
                 refine n_then ?_
                 refine c_region ?_
                 first | (refine L_op (s_e hS (e_binN rfl rfl rfl (by omega)) rfl ?_); clear hS a; intro a hS) | (refine L_op (s_e hS (e_bin rfl rfl rfl) rfl ?_); clear hS a; intro a hS)
                 refine L_op (s_e hS (e_move rfl) rfl ?_); clear hS a; intro a hS
                 refine L_nil ?_
                 exact ⟨k + 1, by omega, hS.slots ⟨rfl, rfl, rfl, rfl, trivial⟩, by omega, fun j hj => by
                 rcases Nat.lt_or_ge j k with h | h
                 · exact hno j h
                 obtain rfl : j = k := (by omega)
                 unfold lineAt; rw [hgx, if_neg hc13, if_neg hc35, if_neg hc46, if_neg (by omega)]⟩
   ·
     refine wp_exit ?_
     refine x_then (x_then (x_hit ?_))
     refine n_then ?_
     refine c_seq ?_
     refine c_region ?_
     refine L_op (s_e hS (e_assign rfl) rfl ?_); clear hS a; intro a hS
     refine L_op (s_e hS (e_assign rfl) rfl ?_); clear hS a; intro a hS
     refine L_nil ?_
     refine n_then ?_
     refine wp_ret ?_
     refine c_retN hS Tryz.results52 (.cons (.tmp rfl) (.cons (.tmp rfl) .nil)) rfl ?_
     obtain rfl : k = l.length := by omega
     exact ⟨by rw [line_no hno], hS.chg⟩
end Go.Proofs.YtjmkjkhcognoeaaGreatDoor

namespace Go.Proofs.YtjmkjkhcognoeaaGreatDoor
open Go.RowKit

/-- what is said hangs on the blocks below B alone. -/
def AbB {β : Type} (B : Nat) (I : β → World → Prop) : Prop :=
  ∀ s W W', I s W → W'.os = W.os → W'.tape = W.tape → W'.output = W.output → W.heap.size ≤ W'.heap.size → (∀ k, k < B → W'.heap[k]? = W.heap[k]?) → I s W'
theorem AbB.alloc {β : Type} {B : Nat} {I : β → World → Prop} (h : AbB B I) {s : β} {W : World} (hB : B ≤ W.heap.size) (hs : I s W) (o : Obj) : I s (W.alloc o) :=
  h s W _ hs rfl rfl rfl (by simp) (fun k hk => Below.heap_alloc W o k (by omega))
theorem AbB.put {β : Type} {B : Nat} {I : β → World → Prop} (h : AbB B I) {s : β} {W : World} {l : Nat} (hl : B ≤ l) (hs : I s W) (o : Obj) : I s (W.putObj l o) :=
  h s W _ hs rfl rfl rfl (by simp) (fun k hk => World.putObj_heap_other (by omega))

theorem putObj_at {W : World} {l : Nat} {o : Obj} {o' : Obj} (h : W.heap[l]? = some o) : (W.putObj l o').heap[l]? = some o' := World.putObj_heap_same (Array.getElem?_eq_some_iff.1 h).1

/-- one block turned, of those that were. -/
structure Turn (l : Nat) (W W' : World) : Prop where
  os : W'.os = W.os
  tape : W'.tape = W.tape
  output : W'.output = W.output
  size : W'.heap.size = W.heap.size
  same : ∀ k, k ≠ l → W'.heap[k]? = W.heap[k]?
theorem Turn.put (W : World) (l : Nat) (o : Obj) : Turn l W (W.putObj l o) := ⟨rfl, rfl, rfl, by simp, fun _ hk => World.putObj_heap_other hk⟩
end Go.Proofs.YtjmkjkhcognoeaaGreatDoor

namespace Go.Proofs.YtjmkjkhcognoeaaGreatDoor
open Go.RowKit

def FW (r : Option Nat) : Fence := { Fence.wide with round := r }
section
variable {P : Program} {n : NN} {F0 : Nat → Prop} {w0 : World} {a : Act} {w : World} {L : List (Nat × Value)} {Γ : List Asn} {r : Option Nat} {N : Nat}
variable {K : Act → World → Prop} {Q : Exit → Act → World → Prop} {d ty : Nat} {dst : Option Tmp} {pos : String} {af : Array Edge} {g : Option (Nat × Bool)} {op : Op} {rest l : List Oper}

theorem oper_in {o : Oper} (hd : ∀ c, o.op ≠ .defer c) (h : o.wp P a w K Q) : o.wpIn (FW r) N P a w K Q := by
  refine ⟨fun _ _ => trivial, ?_⟩
  rw [Oper.semAt_eq _ _ _ hd]
  unfold Oper.wp at h
  generalize (execOp a.eval o).run P w = res at h
  cases res with
  | ok nx w' =>
    cases nx with
    | value v => exact h
    | skip => exact h
    | defer d => exact h
    | enter f args => exact ⟨fun hh => (by cases hh), CallsIn.mono (F := Fence.wide) (callsIn_wide.2 h) (fun e w2 hr => by cases e <;> exact hr)⟩
    | row nm args => exact ⟨fun hh => (by cases hh), fun c cs _ => let ⟨v, w2, hr, s⟩ := h c cs; ⟨v, w2, hr, stepsIn_wide.2 s⟩⟩
    | _ => exact h.elim
  | halt s w' => cases s <;> first | exact h | exact h.elim

def notDefer : Op → Bool
  | .defer _ => false
  | _ => true
theorem notDefer_ne {o : Op} (h : notDefer o = true) : ∀ c, o ≠ .defer c := fun c e => by subst e; cases h

theorem R_nil {ops : Array Oper} (h : Q .normal a w) : wpListIn (FW r) N P ops Q [] a w := h
theorem R_op {ops : Array Oper} (hd : notDefer op = true) (h : OW P ⟨dst, op, ty, pos, af, none⟩ a w (wpListIn (FW r) N P ops Q rest) Q) : wpListIn (FW r) N P ops Q (⟨dst, op, ty, pos, af, none⟩ :: rest) a w := by
  unfold wpListIn
  rw [if_pos (by simp [Region.wanted])]
  exact oper_in (notDefer_ne hd) h.h
/-- a call of yield. -/
theorem R_yield {ops : Array Oper} {x : Operand} {xs : List Operand} {vs : List Value} {ts : Array TypeId} {y : Nat} {R : Ending → World → Prop} (hS : St n F0 w0 a w L Γ) (hx : ev L x = some (.func (.yield y) #[] #[])) (hxs : Evs L xs vs)
    (hy : YieldAt Fence.wide 0 P y vs.toArray w R) (h : ∀ e w', R e w' → ∃ v, e = .returned v ∧ wpListIn (FW none) 0 P ops Q rest (a.put dst v) w') :
    wpListIn (FW none) 0 P ops Q (⟨dst, .call ⟨.value x, xs.toArray, ts⟩, ty, pos, af, none⟩ :: rest) a w := by
  unfold wpListIn
  rw [if_pos (by simp [Region.wanted])]
  obtain ⟨fn, tmps, assign, body, hrun, hround⟩ := hy
  refine ⟨fun _ _ => trivial, ?_⟩
  have he : (execOp a.eval (⟨dst, .call ⟨.value x, xs.toArray, ts⟩, ty, pos, af, none⟩ : Oper)).run P w = .ok (.round y fn tmps assign body) w := by
    have h1 := hS.sl.evs hxs
    have hr : (resolve a.eval ⟨.value x, xs.toArray, ts⟩ ty).run P w = .ok ⟨.fn (.yield y) #[], #[] ++ vs.toArray⟩ w := by
      simp only [resolve, hS.sl.ev hx, h1, Deferred.ofValue]; rfl
    show ((resolve a.eval ⟨.value x, xs.toArray, ts⟩ ty) >>= fun d => invoke d.target d.args).run P w = _
    rw [Sem.run_bind, hr]
    show (invoke (.fn (.yield y) #[]) (#[] ++ vs.toArray)).run P w = _
    have e1 : (#[] ++ vs.toArray : Array Value) = vs.toArray := by simp
    rw [e1]
    simpa [invoke] using hrun
  rw [Oper.semAt_eq _ _ _ (fun c e => by cases e), he]
  refine ⟨fun hh => (by cases hh), hround.mono fun e w' hR => ?_⟩
  obtain ⟨v, rfl, hK⟩ := h e w' hR
  exact hK

theorem R_region {id : Nat} {l : List Oper} (h : wpListIn (FW r) N P l.toArray Q l a w) : (Code.region id l.toArray false).wpIn (FW r) N P Q a w := wpIn_region_lit h
theorem R_seq {x y : Code} (h : x.wpIn (FW r) N P (Exit.then (y.wpIn (FW r) N P Q) Q) a w) : (Code.seq x y).wpIn (FW r) N P Q a w := wpIn_seq h
theorem R_skip (h : Q .normal a w) : Code.skip.wpIn (FW r) N P Q a w := wpIn_skip h
theorem R_block {id : Nat} {c : Code} (h : c.wpIn (FW r) N P (Exit.inBlock id Q) a w) : (Code.block id c).wpIn (FW r) N P Q a w := wpIn_block h
theorem R_ret (h : Q .ret a w) : Code.ret.wpIn (FW r) N P Q a w := wpIn_ret h
theorem R_exit {id : Nat} (h : Q (.exit id) a w) : (Code.exit id).wpIn (FW r) N P Q a w := wpIn_exit h
theorem R_if_f {c : Operand} {x y : Code} (hS : St n F0 w0 a w L Γ) (hc : ev L c = some (.bool false)) (h : y.wpIn (FW r) N P Q a w) : (Code.cond c x y).wpIn (FW r) N P Q a w := wpIn_cond_false (hS.sl.ev hc) h
theorem R_if {c : Operand} {x y : Code} {b : Bool} (hS : St n F0 w0 a w L Γ) (hc : ev L c = some (.bool b)) (h1 : b = true → x.wpIn (FW r) N P Q a w) (h2 : b = false → y.wpIn (FW r) N P Q a w) : (Code.cond c x y).wpIn (FW r) N P Q a w :=
  wpIn_cond_split (hS.sl.ev hc) h1 h2
theorem R_ifD {c : Operand} {x y : Code} {p : Prop} [hp : Decidable p] (hS : St n F0 w0 a w L Γ) (hc : ev L c = some (.bool (decide p))) (h1 : p → x.wpIn (FW r) N P Q a w) (h2 : ¬ p → y.wpIn (FW r) N P Q a w) : (Code.cond c x y).wpIn (FW r) N P Q a w :=
  wpIn_cond_split (hS.sl.ev hc) (fun h => h1 (of_decide_eq_true h)) (fun h => h2 (of_decide_eq_false h))
/-- a loop, by a measure on what it goes through. -/
theorem R_loop {γ : Type} {c : Code} (I : γ → Act → World → Prop) (μ : γ → Nat) (g0 : γ) (h0 : I g0 a w)
    (round : ∀ g a w, I g a w → c.wpIn (FW r) N P (Exit.then (fun a' w' => ∃ g', μ g' < μ g ∧ I g' a' w') Q) a w) : (Code.loop c).wpIn (FW r) N P Q a w := by
  intro b k cs hro hb hr
  have key : ∀ m g a w, μ g = m → I g a w → ∃ e a' w', Q e a' w' ∧ ArrivesIn (Machine.fenced P (FW r)) P (lone (b.atR a (.code c :: .inLoop c :: k)) cs w) b k cs e a' w' := by
    intro m
    induction m using Nat.strongRecOn with
    | _ m ih =>
      intro g a w hm hI
      obtain ⟨e, a1, w1, hq, harr⟩ := round g a w hI b (.inLoop c :: k) cs hro hb hr
      cases e with
      | normal =>
        obtain ⟨g', hlt, hI'⟩ := hq
        obtain ⟨e2, a2, w2, hq2, harr2⟩ := ih (μ g') (hm ▸ hlt) g' a1 w1 rfl hI'
        exact ⟨e2, a2, w2, hq2, .of_steps (StepsIn.trans harr (.one (fenced_calm hb hr rfl) stepR_inLoop)) harr2⟩
      | exit id => exact ⟨_, a1, w1, hq, .pass (x := .inLoop c) rfl (fun _ _ => .inl (by simp)) harr⟩
      | goto l => exact ⟨_, a1, w1, hq, .pass (x := .inLoop c) rfl (fun _ _ => .inl (by simp)) harr⟩
      | ret => exact ⟨_, a1, w1, hq, .pass (x := .inLoop c) rfl (fun _ _ => .inl (by simp)) harr⟩
      | panic ch => exact ⟨_, a1, w1, hq, .pass (x := .inLoop c) rfl (fun _ _ => .inl (by simp)) harr⟩
      | outgrown => exact ⟨_, a1, w1, hq, .pass (x := .inLoop c) rfl (fun _ _ => .inl (by simp)) harr⟩
  obtain ⟨e, a', w', hq, harr⟩ := key _ g0 a w rfl h0
  exact ⟨e, a', w', hq, .of_steps (.one (fenced_calm hb hr rfl) stepR_loop) harr⟩
theorem callsM_enter {f : FuncId} {fn : Func} {c : Code} {args : List Value} {R : Ending → World → Prop} {m : Nat} (L : List (Nat × Value)) (Γ : List Asn) (F0 : Nat → Prop) (hf : P.funcs[f]? = some fn) (hb : fn.body = some c) (hm : fn.ntmps = m)
    (hA : SubA args L) (hn : Nat.ble args.length m = true) (ok : ∀ X ∈ Γ, X.ok w) (dis : Γ.Pairwise (fun X Y => ∀ b, X.F b → ¬ Y.F b)) (mine : ∀ X ∈ Γ, X.mine = true → ∀ b, X.F b → w.heap.size ≤ b ∨ F0 b)
    (h : ∀ a, St ⟨m, []⟩ F0 w a w L Γ → c.wpIn (FW none) 0 P (bodyPostM Fence.wide 0 P fn R) a w) : Calls P f args.toArray w R := by
  refine callsIn_wide.1 (callsIn_of_wp_marks (n := 0) hf hb trivial (h _ ⟨?_, Chg.refl _ _, ok, dis, mine⟩))
  have hle : args.length ≤ m := Nat.le_of_ble_eq_true hn
  have := Sl.start (l := args) (L := L) (n := m) (m := m - args.length) hA (by omega)
  simpa [hm] using this
/-- the end of a function behind a range over a function. -/
theorem endM {fn : Func} {R : Ending → World → Prop} {D : Nat} {v : Value} {e : Exit} (he : e = .ret ∨ e = .normal) (hd : a.defers = [{ target := .collected D, args := #[] }]) (hD : w.heap[D]? = some (.deferred (some [])))
    (hr : (results fn a.tmps).run P (w.putObj D (.deferred none)) = .ok v (w.putObj D (.deferred none))) (h : R (.returned v) (w.putObj D (.deferred none))) : bodyPostM Fence.wide 0 P fn R e a w := by
  have key : LeavesInM Fence.wide 0 P fn a.tmps R a.defers .returning w := by
    rw [hd]
    exact ⟨by simp, .inl ⟨_, _, rfl, run_takeDeferred hD, v, hr, h⟩⟩
  rcases he with rfl | rfl <;> exact key
theorem callsIn_enter {f : FuncId} {fn : Func} {c : Code} {args : List Value} {R : Ending → World → Prop} {m : Nat} (L : List (Nat × Value)) (Γ : List Asn) (F0 : Nat → Prop) (hf : P.funcs[f]? = some fn) (hb : fn.body = some c) (hm : fn.ntmps = m)
    (hA : SubA args L) (hn : Nat.ble args.length m = true) (ok : ∀ X ∈ Γ, X.ok w) (dis : Γ.Pairwise (fun X Y => ∀ b, X.F b → ¬ Y.F b)) (mine : ∀ X ∈ Γ, X.mine = true → ∀ b, X.F b → w.heap.size ≤ b ∨ F0 b)
    (h : ∀ a, St ⟨m, []⟩ F0 w a w L Γ → c.wpIn (FW none) 0 P (bodyPost P fn R) a w) : CallsIn Fence.wide 0 P f args.toArray w R := by
  refine callsIn_of_wp hf hb trivial (h _ ⟨?_, Chg.refl _ _, ok, dis, mine⟩)
  have hle : args.length ≤ m := Nat.le_of_ble_eq_true hn
  have := Sl.start (l := args) (L := L) (n := m) (m := m - args.length) hA (by omega)
  simpa [hm] using this
/-- the mark of a loop is shut: what is known of other blocks stays. -/
theorem St.putD (hS : St n F0 w0 a w L Γ) {D : Nat} {o : Obj} (hD : w0.heap.size ≤ D) (hn : ∀ X ∈ Γ, ∀ b, X.F b → b ≠ D) : St n F0 w0 a (w.putObj D o) L Γ := by
  have hc : Chg (fun k => k = D) w (w.putObj D o) := ⟨rfl, rfl, rfl, by simp, fun k _ hk => World.putObj_heap_other hk⟩
  exact ⟨hS.sl, hS.chg.trans hc (fun i hi hlt => by omega), fun X hX => (hS.ok X hX).keep hc (fun b hb e => hn X hX b hb e), hS.dis, hS.mine⟩
/-- the end of a function behind a range over a function, by the state. -/
theorem endN {fn : Func} {R : Ending → World → Prop} {D : Nat} {e : Exit} {rs : List ResultVar} {vs : List Value} {m : Nat} (hS : St ⟨m, []⟩ F0 w0 a (w.putObj D (.deferred none)) L Γ) (he : e = .ret ∨ e = .normal) (hD : w.heap[D]? = some (.deferred (some [])))
    (hr : fn.results = rs.toArray) (hv : ResL P L Γ rs vs) (hne : Nat.beq vs.length 1 = false) (h : R (.returned (.tuple vs.toArray)) (w.putObj D (.deferred none))) :
    bodyPostM Fence.wide 0 P fn R e { a with defers := { target := .collected D, args := #[] } :: a.defers } w := by
  refine endM he (by show _ :: a.defers = _; rw [hS.sl.defers]) hD ?_ h
  have h1 := ResL.run hS hv
  have h2 : ¬ vs.toArray.size = 1 := by simpa using nbeq_ne hne
  show (results fn a.tmps).run P _ = _
  rw [results_rvS, hr, List.mapM_toArray, Sem.run_bind, Sem.run_map, h1]
  simp only [Result.andThen_ok, h2, dite_false]
  rfl
end
end Go.Proofs.YtjmkjkhcognoeaaGreatDoor

namespace Go.Proofs.YtjmkjkhcognoeaaGreatDoor
open Go.RowKit

/-- what is said hangs on no block from B up to hi. -/
def AbR {β : Type} (B hi : Nat) (I : β → World → Prop) : Prop :=
  ∀ s W W', I s W → W'.os = W.os → W'.tape = W.tape → W'.output = W.output → W.heap.size ≤ W'.heap.size → (∀ k, k < W.heap.size → (k < B ∨ hi ≤ k) → W'.heap[k]? = W.heap[k]?) → I s W'
theorem AbR.alloc {β : Type} {B hi : Nat} {I : β → World → Prop} (h : AbR B hi I) {s : β} {W : World} (hs : I s W) (o : Obj) : I s (W.alloc o) :=
  h s W _ hs rfl rfl rfl (by simp) (fun k hk _ => Below.heap_alloc W o k hk)
theorem AbR.put {β : Type} {B hi : Nat} {I : β → World → Prop} (h : AbR B hi I) {s : β} {W : World} {l : Nat} (hl : B ≤ l) (hl2 : l < hi) (hs : I s W) (o : Obj) : I s (W.putObj l o) :=
  h s W _ hs rfl rfl rfl (by simp) (fun k _ hk => World.putObj_heap_other (by omega))
/-- what lay from B up to hi lies as it lay. -/
def Kp (B hi : Nat) (W W' : World) : Prop := W.heap.size ≤ W'.heap.size ∧ ∀ k, B ≤ k → k < hi → W'.heap[k]? = W.heap[k]?

/-- how a round's body may be left. -/
def postD {α : Type} (B hi : Nat) (I : List α → World → Prop) (Ix : Code → List α → World → Prop) (xs : List α) (W : World) : Exit → Act → World → Prop
  | .normal, _, W' => Kp B hi W W' ∧ I xs W'
  | .ret, _, W' => Kp B hi W W' ∧ Ix .ret xs W'
  | .exit id, _, W' => Kp B hi W W' ∧ Ix (.exit id) xs W'
  | .goto t, _, W' => Kp B hi W W' ∧ Ix (.goto t) xs W'
  | .panic _, _, _ => False
  | .outgrown, _, _ => False

section
variable {P : Program} {n : NN} {F0 : Nat → Prop} {w0 : World} {a : Act} {w : World} {L : List (Nat × Value)} {Γ : List Asn}
variable {K : Act → World → Prop} {Q : Exit → Act → World → Prop} {d ty : Nat} {pos : String} {af : Array Edge} {g : Option (Nat × Bool)}
end
end Go.Proofs.YtjmkjkhcognoeaaGreatDoor

namespace Go.Proofs.YtjmkjkhcognoeaaGreatDoor
open Go.RowKit

/-- an iterator's contract: its own blocks lie from where it began up to hi. -/
def SeqE {α : Type} (P : Program) (gf : Nat) (lb : Array Value) (encs : α → Array Value) (S Sp : List α → Prop) (G : List α → α → Prop) (K0 : World → Prop) : Prop :=
  ∀ (l : Nat) (J Jx : Nat → List α → World → Prop) (W : World), (∀ hi pre W', J hi pre W' → K0 W') → (∀ hi, W.heap.size ≤ hi → AbR W.heap.size hi (J hi)) → (∀ hi, W.heap.size ≤ hi → AbR W.heap.size hi (Jx hi)) →
    (∀ hi pre x W1, W.heap.size ≤ hi → hi ≤ W1.heap.size → J hi pre W1 → G pre x → YieldAt Fence.wide 0 P l (encs x) W1 fun e W' => Kp W.heap.size hi W1 W' ∧ ((e = .returned (.bool true) ∧ J hi (pre ++ [x]) W') ∨ (e = .returned (.bool false) ∧ Jx hi (pre ++ [x]) W'))) →
    (∀ hi, W.heap.size ≤ hi → J hi [] W) → CallsIn Fence.wide 0 P gf (#[.func (.yield l) #[] #[]] ++ lb) W fun e W' => (∃ v, e = .returned v) ∧ ∃ hi, W.heap.size ≤ hi ∧ ((∃ xs, S xs ∧ J hi xs W') ∨ ∃ pre, Sp pre ∧ Jx hi pre W')

theorem rangeFunc_E {P : Program} {α : Type} {g : Operand} {ps : Array Tmp} {assign body : Code} {Q : Exit → Act → World → Prop} {a : Act} {w : World}
    {gf : Nat} {lb : Array Value} (hg : a.eval g = .func (.func gf) #[] lb) (eg : CallsTo P gf) {encs : α → Array Value} {S Sp : List α → Prop} {G : List α → α → Prop} {K0 : World → Prop}
    (hseq : SeqE P gf lb encs S Sp G K0) (hps : ∀ x, (encs x).size = ps.size) (I : Nat → List α → World → Prop) (Ix : Nat → Code → List α → World → Prop)
    (hI : ∀ hi, w.heap.size + 2 ≤ hi → AbR w.heap.size hi (I hi)) (hIx : ∀ hi c, w.heap.size + 2 ≤ hi → AbR w.heap.size hi (Ix hi c)) (hK : ∀ hi pre W', I hi pre W' → K0 W') (h0 : ∀ hi, w.heap.size + 2 ≤ hi → I hi [] w)
    (hround : ∀ (hi l : Nat) (pre : List α) (x : α) (W : World), w.heap.size + 2 ≤ hi → hi ≤ W.heap.size → I hi pre W → G pre x →
      assign.wpIn (Fence.wide.inRound l) 0 P (Exit.then (fun a1 W1 => Kp w.heap.size hi W W1 ∧ ∀ W2, Turn (w.heap.size + 1) W1 W2 → body.wpIn (Fence.wide.inRound l) 0 P (postD w.heap.size hi (I hi) (Ix hi) (pre ++ [x]) W2) a1 W2) (fun _ _ _ => False))
        { tmps := (ps.zip (encs x)).foldl (fun t (p, v) => t.setIfInBounds p v) a.tmps, defers := [] } W)
    (hdone : ∀ (hi D : Nat) (xs : List α) (W : World), w.heap.size + 2 ≤ hi → w.heap.size ≤ D → D < hi → S xs → I hi xs W → W.heap[D]? = some (.deferred (some [])) → Q .normal { a with defers := { target := .collected D, args := #[] } :: a.defers } W)
    (hstop : ∀ (hi D : Nat) (c : Code) (pre : List α) (W : World), w.heap.size + 2 ≤ hi → w.heap.size ≤ D → D < hi → Sp pre → Ix hi c pre W → W.heap[D]? = some (.deferred (some [])) → c.wpIn Fence.wide 0 P Q { a with defers := { target := .collected D, args := #[] } :: a.defers } W) :
    (Code.rangeFunc g ps assign body).wpIn Fence.wide 0 P Q a w := by
  refine wpIn_rangeFunc fun fn hfn => ?_
  obtain ⟨rec, hrec⟩ : ∃ rec : LoopState → Option Code → Loop, rec = fun st pe => { state := st, pending := pe, fn, tmps := a.tmps, params := ps, assign, body, defers := w.heap.size } := ⟨_, rfl⟩
  obtain ⟨W1, hW1⟩ : ∃ W1, (w.alloc (.deferred (some []))).alloc (.loop (rec .ready none)) = W1 := ⟨_, rfl⟩
  have hs1 : W1.heap.size = w.heap.size + 2 := by rw [← hW1]; simp
  have hL : W1.heap[w.heap.size + 1]? = some (.loop (rec .ready none)) := by
    rw [← hW1]; have := World.alloc_heap_new (w.alloc (.deferred (some []))) (.loop (rec .ready none)); rwa [World.size_alloc] at this
  have hD : W1.heap[w.heap.size]? = some (.deferred (some [])) := by
    rw [← hW1]; exact (Below.heap_alloc _ _ _ (by simp)).trans (World.alloc_heap_new w _)
  have hI1 : ∀ hi, w.heap.size + 2 ≤ hi → I hi [] W1 := fun hi hh => by rw [← hW1]; exact (hI hi hh).alloc ((hI hi hh).alloc (h0 hi hh) _) _
  refine ⟨w.heap.size + 1, [{ target := .collected w.heap.size, args := #[] }], W1, { target := .fn (.func gf) lb, args := #[.func (.yield (w.heap.size + 1)) #[] #[]] }, W1, gf,
    #[.func (.yield (w.heap.size + 1)) #[] #[]] ++ lb, W1, ?_, ?_, fun _ _ => trivial, ?_, fun h => (by cases h), ?_⟩
  · rw [← hW1, hrec]; exact run_enterLoop_outer _ _ _ _ _
  · simp only [resolve, hg]
    simp [go_sem]
  · have := eg (#[.func (.yield (w.heap.size + 1)) #[] #[]] ++ lb) W1
    exact this
  have key := hseq (w.heap.size + 1) (fun hi pre W => w.heap.size + 2 ≤ W.heap.size ∧ I hi pre W ∧ W.heap[w.heap.size + 1]? = some (.loop (rec .ready none)) ∧ W.heap[w.heap.size]? = some (.deferred (some [])))
    (fun hi pre W => w.heap.size + 2 ≤ W.heap.size ∧ ∃ c, Ix hi c pre W ∧ W.heap[w.heap.size + 1]? = some (.loop (rec .done (some c))) ∧ W.heap[w.heap.size]? = some (.deferred (some []))) W1
    (fun hi pre W' h => hK hi pre W' h.2.1)
    (fun hi hh s A B h e1 e2 e3 e4 e5 => by
      have h1 := h.1
      exact ⟨Nat.le_trans h.1 e4, hI hi (by omega) s A B h.2.1 e1 e2 e3 e4 (fun k hk hk2 => e5 k hk (by omega)), (e5 _ (by omega) (by omega)).trans h.2.2.1, (e5 _ (by omega) (by omega)).trans h.2.2.2⟩)
    (fun hi hh s A B h e1 e2 e3 e4 e5 => by
      obtain ⟨hz, c, h1, h2, h3⟩ := h
      exact ⟨Nat.le_trans hz e4, c, hIx hi c (by omega) s A B h1 e1 e2 e3 e4 (fun k hk hk2 => e5 k hk (by omega)), (e5 _ (by omega) (by omega)).trans h2, (e5 _ (by omega) (by omega)).trans h3⟩)
    ?_ (fun hi hh => ⟨by omega, hI1 hi (by omega), hL, hD⟩)
  · refine key.mono ?_
    rintro e W2 ⟨⟨v, rfl⟩, hh, hhl, (⟨xs, hS, hz, hi, hl, hk⟩ | ⟨pre, hSp, hz, c, hi, hl, hk⟩)⟩
    · exact ⟨none, _, by have := run_endLoop (P := P) hl (by rw [hrec]; simp); rw [hrec] at this; exact this, hdone hh _ xs _ (by omega) (Nat.le_refl _) (by omega) hS ((hI hh (by omega)).put (by omega) (by omega) hi _) ((World.putObj_heap_other (by omega)).trans hk)⟩
    · exact ⟨some c, _, by have := run_endLoop (P := P) hl (by rw [hrec]; simp); rw [hrec] at this; exact this, hstop hh _ c pre _ (by omega) (Nat.le_refl _) (by omega) hSp ((hIx hh c (by omega)).put (by omega) (by omega) hi _) ((World.putObj_heap_other (by omega)).trans hk)⟩
  · rintro hh pre x W hhl hhW ⟨hz, hi, hl, hk⟩ hlen
    have hy := run_yield (P := P) (args := encs x) hl (by rw [hrec]; exact hps x)
    rw [hrec] at hy
    refine ⟨fn, _, assign, body, hy, roundIn_of_wpIn hfn (wpIn_mono (hround hh _ pre x W (by omega) hhW hi hlen) ?_)⟩
    rintro e a1 W1' hp1
    cases e with
    | exit _ => exact hp1.elim
    | goto _ => exact hp1.elim
    | ret => exact hp1.elim
    | panic _ => exact hp1.elim
    | outgrown => exact hp1.elim
    | normal => ?_
    obtain ⟨⟨hzz, hkeep⟩, hbody⟩ := hp1
    have hl1 := (hkeep (w.heap.size + 1) (by omega) (by omega)).trans hl
    have hk1 := (hkeep w.heap.size (Nat.le_refl _) (by omega)).trans hk
    refine ⟨_, run_beginRound hl1 (by rw [hrec]), ?_⟩
    obtain ⟨W2, hW2⟩ : ∃ W2, W1'.putObj (w.heap.size + 1) (.loop { rec .ready none with state := .busy }) = W2 := ⟨_, rfl⟩
    have hl2 : W2.heap[w.heap.size + 1]? = some (.loop { rec .ready none with state := .busy }) := by rw [← hW2]; exact putObj_at hl1
    have hk2 : W2.heap[w.heap.size]? = some (.deferred (some [])) := by rw [← hW2]; exact (World.putObj_heap_other (by omega)).trans hk1
    have hz2 : w.heap.size + 2 ≤ W2.heap.size := by rw [← hW2]; simp; omega
    rw [hW2]
    refine wpIn_mono (hbody W2 (by rw [← hW2]; exact Turn.put _ _ _)) ?_
    have fin : ∀ (jump : Option Code) (W3 : World), Kp w.heap.size hh W2 W3 → w.heap.size + 2 ≤ W3.heap.size ∧
        (Instr.endRound (w.heap.size + 1) jump).run P W3 = .ok (.bool jump.isNone) (W3.putObj (w.heap.size + 1) (.loop (rec (if jump.isNone then .ready else .done) jump))) ∧
        (W3.putObj (w.heap.size + 1) (.loop (rec (if jump.isNone then .ready else .done) jump))).heap[w.heap.size + 1]? = some (.loop (rec (if jump.isNone then .ready else .done) jump)) ∧
        (W3.putObj (w.heap.size + 1) (.loop (rec (if jump.isNone then .ready else .done) jump))).heap[w.heap.size]? = some (.deferred (some [])) ∧
        Kp W1.heap.size hh W (W3.putObj (w.heap.size + 1) (.loop (rec (if jump.isNone then .ready else .done) jump))) := fun jump W3 ⟨hsz, hk3⟩ => by
      have hl3 := (hk3 _ (by omega) (by omega)).trans hl2
      have hd3 := (hk3 _ (Nat.le_refl _) (by omega)).trans hk2
      have hr := run_endRound (P := P) jump hl3
      rw [hrec] at hr ⊢
      have hw2 : W2.heap.size = W1'.heap.size := by rw [← hW2]; simp
      refine ⟨by have := (Array.getElem?_eq_some_iff.1 hl3).1; omega, hr, putObj_at hl3, (World.putObj_heap_other (by omega)).trans hd3, by simp; omega, fun k hk1 hk2' => ?_⟩
      rw [World.putObj_heap_other (by omega), hk3 k (by omega) (by omega), ← hW2, World.putObj_heap_other (by omega)]
      exact hkeep k (by omega) hk2'
    rintro e a3 W3 hp
    cases e with
    | normal =>
      obtain ⟨hk3, hi3⟩ := hp
      obtain ⟨hz3, hr, hl4, hk4, hkp⟩ := fin none W3 hk3
      exact ⟨_, _, hr, hkp, .inl ⟨rfl, by simpa using hz3, (hI hh (by omega)).put (by omega) (by omega) hi3 _, hl4, hk4⟩⟩
    | ret =>
      obtain ⟨hk3, hi3⟩ := hp
      obtain ⟨hz3, hr, hl4, hk4, hkp⟩ := fin (some .ret) W3 hk3
      exact ⟨_, _, hr, hkp, .inr ⟨rfl, by simpa using hz3, .ret, (hIx hh _ (by omega)).put (by omega) (by omega) hi3 _, hl4, hk4⟩⟩
    | exit id =>
      obtain ⟨hk3, hi3⟩ := hp
      obtain ⟨hz3, hr, hl4, hk4, hkp⟩ := fin (some (.exit id)) W3 hk3
      exact ⟨_, _, hr, hkp, .inr ⟨rfl, by simpa using hz3, .exit id, (hIx hh _ (by omega)).put (by omega) (by omega) hi3 _, hl4, hk4⟩⟩
    | goto t =>
      obtain ⟨hk3, hi3⟩ := hp
      obtain ⟨hz3, hr, hl4, hk4, hkp⟩ := fin (some (.goto t)) W3 hk3
      exact ⟨_, _, hr, hkp, .inr ⟨rfl, by simpa using hz3, .goto t, (hIx hh _ (by omega)).put (by omega) (by omega) hi3 _, hl4, hk4⟩⟩
    | panic ch => exact hp.elim
    | outgrown => exact hp.elim
theorem rangeFunc_E2 {B : Nat} {P : Program} {α : Type} {g : Operand} {ps : Array Tmp} {assign body : Code} {Q : Exit → Act → World → Prop} {a : Act} {w : World} (hB : w.heap.size = B)
    {gf : Nat} {lb : Array Value} (hg : a.eval g = .func (.func gf) #[] lb) (eg : CallsTo P gf) {encs : α → Array Value} {S Sp : List α → Prop} {G : List α → α → Prop} {K0 : World → Prop}
    (hseq : SeqE P gf lb encs S Sp G K0) (hps : ∀ x, (encs x).size = ps.size) (I : Nat → List α → World → Prop) (Ix : Nat → Code → List α → World → Prop)
    (hI : ∀ hi, B + 2 ≤ hi → AbR B hi (I hi)) (hIx : ∀ hi c, B + 2 ≤ hi → AbR B hi (Ix hi c)) (hK : ∀ hi pre W', I hi pre W' → K0 W') (h0 : ∀ hi, B + 2 ≤ hi → I hi [] w)
    (hround : ∀ (hi l : Nat) (pre : List α) (x : α) (W : World), B + 2 ≤ hi → hi ≤ W.heap.size → I hi pre W → G pre x →
      assign.wpIn (Fence.wide.inRound l) 0 P (Exit.then (fun a1 W1 => Kp B hi W W1 ∧ ∀ W2, Turn (B + 1) W1 W2 → body.wpIn (Fence.wide.inRound l) 0 P (postD B hi (I hi) (Ix hi) (pre ++ [x]) W2) a1 W2) (fun _ _ _ => False))
        { tmps := (ps.zip (encs x)).foldl (fun t (p, v) => t.setIfInBounds p v) a.tmps, defers := [] } W)
    (hdone : ∀ (hi D : Nat) (xs : List α) (W : World), B + 2 ≤ hi → B ≤ D → D < hi → S xs → I hi xs W → W.heap[D]? = some (.deferred (some [])) → Q .normal { a with defers := { target := .collected D, args := #[] } :: a.defers } W)
    (hstop : ∀ (hi D : Nat) (c : Code) (pre : List α) (W : World), B + 2 ≤ hi → B ≤ D → D < hi → Sp pre → Ix hi c pre W → W.heap[D]? = some (.deferred (some [])) → c.wpIn Fence.wide 0 P Q { a with defers := { target := .collected D, args := #[] } :: a.defers } W) :
    (Code.rangeFunc g ps assign body).wpIn Fence.wide 0 P Q a w := by
  subst hB
  exact rangeFunc_E hg eg hseq hps I Ix hI hIx hK h0 hround hdone hstop
end Go.Proofs.YtjmkjkhcognoeaaGreatDoor

namespace Go.Proofs.YtjmkjkhcognoeaaGreatDoor
open Go.RowKit

theorem St.bare {n : NN} {a : Act} {w : World} {L : List (Nat × Value)} (h : Sl n a L) : St n noB w a w L [] := ⟨h, Chg.refl _ _, okN, disN, mineN⟩
theorem St.again {n : NN} {a : Act} {w : World} {L : List (Nat × Value)} (h : Sl n a L) {X : Asn} (hX : X.ok w) (hm : X.mine = false) : St n noB w a w L [X] :=
  ⟨h, Chg.refl _ _, okC hX okN, dis1, mineC hm mineN⟩
theorem lineAt_bd {l : List Int} {i : Nat} {v : Int × Int} (h : lineAt l i = some v) : (v.1 = -1 ∨ (v.1 = i ∧ i + 1 < l.length ∧ v.2 = 0)) ∧ 0 ≤ v.2 ∧ v.2 ≤ 10 := by
  unfold lineAt at h
  split at h
  · cases h; simp
  · split at h
    · rename_i h1 h2; cases h; exact ⟨.inr ⟨rfl, h2.2, rfl⟩, Int.le_refl _, (by decide : (0 : Int) ≤ 10)⟩
    · split at h
      · cases h; simp
      · split at h
        · cases h; simp
        · cases h
theorem line_bd (l : List Int) : ((lineF l).1 = -1 ∨ (0 ≤ (lineF l).1 ∧ (lineF l).1 + 2 ≤ l.length ∧ (lineF l).2 = 0)) ∧ 0 ≤ (lineF l).2 ∧ (lineF l).2 ≤ 10 := by
  unfold lineF
  cases h : (List.range l.length).findSome? (lineAt l) with
  | none => simp
  | some v =>
    obtain ⟨i, hi, hv⟩ := List.exists_of_findSome?_eq_some h
    have := lineAt_bd hv
    simp only [Option.getD_some]
    omega
theorem line_nil : lineF [] = (-1, 0) := rfl
/-- what the iterator hands over, from a place on. -/
def itemsW (q : Option Addr) (c : Nat) (l : List Int) (p : Nat) : List (Int × Value) :=
   if h : 0 ≤ (lineF (l.drop p)).1 ∧ p < l.length then ((p : Int) + ((lineF (l.drop p)).1 + 2), .slice (tailP q p c 1) (lineF (l.drop p)).1.toNat (c - p)) :: itemsW q c l (p + (lineF (l.drop p)).1.toNat + 2)
   else if (lineF (l.drop p)).2 ≠ 0 then [(-(lineF (l.drop p)).2, .slice none 0 0)] else []
 termination_by l.length - p
 decreasing_by omega
theorem items_go {q : Option Addr} {c : Nat} {l : List Int} {p : Nat} (h : 0 ≤ (lineF (l.drop p)).1) : itemsW q c l p = ((p : Int) + ((lineF (l.drop p)).1 + 2), .slice (tailP q p c 1) (lineF (l.drop p)).1.toNat (c - p)) :: itemsW q c l (p + (lineF (l.drop p)).1.toNat + 2) := by
  have hp : p < l.length := by
    rcases Nat.lt_or_ge p l.length with h1 | h1
    · exact h1
    · rw [List.drop_eq_nil_of_le h1, line_nil] at h; exact absurd h (by decide)
  rw [itemsW, dif_pos ⟨h, hp⟩]
theorem items_end {q : Option Addr} {c : Nat} {l : List Int} {p : Nat} (h : (lineF (l.drop p)).1 < 0) : itemsW q c l p = if (lineF (l.drop p)).2 ≠ 0 then [(-(lineF (l.drop p)).2, .slice none 0 0)] else [] := by
  rw [itemsW, dif_neg (fun hh => by omega)]
def encI (x : Int × Value) : Array Value := [.int .i64 x.1, x.2].toArray
/-- what the iterator reads. -/
def linesK (b : Nat) (v : Value) (l : List Int) (w : World) : Prop := w.heap[b]? = some (.cells [v].toArray 22 (0, 0)) ∧ ByAt v l w
def linesA (b : Nat) (v : Value) (l : List Int) : Asn := .any (fun k => k = b ∨ byF v l k) (linesK b v l) false
theorem lines_ok {b : Nat} {v : Value} {l : List Int} {w : World} (h : linesK b v l w) : (linesA b v l).ok w := by
  refine ⟨fun k hk => ?_, fun w' hw => ⟨?_, h.2.keep fun k hk => hw k (.inr hk)⟩⟩
  · rcases hk with rfl | hk
    · exact (Array.getElem?_eq_some_iff.1 h.1).1
    · exact h.2.lt k hk
  · rw [hw b (.inl rfl)]; exact h.1
set_option maxRecDepth 100000 in
theorem lines_P (v : Value) (hv : isOne v = true) (w0 : World) : NewC Tryz.prog 38 [v] w0 (fun b : Nat => .func (.func 51) #[] [.pointer (some ⟨b, 0, none⟩)].toArray) (fun b => .blk b [v] 22) := by
  refine c_enter [(0, v)] [] noB Tryz.func38 rfl Tryz.ntmps38 ⟨rfl, trivial⟩ rfl (by simp) (by simp) (by simp) ?_
  intro a hS
  refine c_seq ?_
  refine c_region ?_
  obtain ⟨b1, hb1⟩ : ∃ b, b = w0.heap.size := ⟨_, rfl⟩
  refine L_op (s_box1 hS rfl hv rfl ?_); clear hS a; intro a w b1 hS
  refine L_op (s_e hS (e_assign rfl) rfl ?_); clear hS a; intro a hS
  refine L_nil ?_
  refine n_then ?_
  refine c_seq ?_
  refine c_region ?_
  refine L_op (s_e hS (e_makeFunc .nil (.cons rfl .nil)) rfl ?_); clear hS a; intro a hS
  refine L_op (s_e hS (e_assign rfl) rfl ?_); clear hS a; intro a hS
  refine L_nil ?_
  refine n_then ?_
  refine wp_ret ?_
  refine c_ret1 hS Tryz.results38 (.tmp rfl) ?_
  exact ⟨b1, rfl, hS.chg, hS.new (.head _) rfl⟩

set_option maxRecDepth 100000 in
theorem lines_seq (b : Nat) (q : Option Addr) (c : Nat) (l : List Int) (hlen : l.length ≤ 1000000) (hlc : l ≠ [] → l.length ≤ c) : SeqE Tryz.prog 51 #[.pointer (some ⟨b, 0, none⟩)] encI (fun xs => xs = itemsW q c l 0) (fun pre => ∃ r, pre ++ r = itemsW q c l 0) (fun pre x => ∃ r, pre ++ x :: r = itemsW q c l 0) (linesK b (.slice q l.length c) l) := by
  intro y J Jx W hK hJ hJx hY h00
  have h0 := h00 W.heap.size (Nat.le_refl _)
  have hk0 := hK _ _ _ h0
  rw [show (#[Value.func (.yield y) #[] #[]] ++ #[Value.pointer (some ⟨b, 0, none⟩)] : Array Value) = [Value.func (.yield y) #[] #[], Value.pointer (some ⟨b, 0, none⟩)].toArray from rfl]
  refine callsIn_enter [(0, .func (.yield y) #[] #[]), (1, .pointer (some ⟨b, 0, none⟩))] [linesA b (.slice q l.length c) l] noB Tryz.func51 rfl Tryz.ntmps51 ⟨rfl, rfl, trivial⟩ rfl (okC (lines_ok hk0) okN) dis1 (mineC (by rfl) mineN) ?_
  intro a hS
  refine R_seq ?_
  refine R_region ?_
  refine R_op rfl (s_e hS (e_assign rfl) rfl ?_); clear hS a; intro a hS
  refine R_nil ?_
  refine n_then ?_
  refine R_block ?_
  skip
  refine R_loop (γ := Nat × List (Int × Value)) (fun pp a w => St 37 noB w a w [(3, .int .i64 (pp.1 : Int)), (0, .func (.yield y) #[] #[]), (1, .pointer (some ⟨b, 0, none⟩))] [linesA b (.slice q l.length c) l] ∧ pp.1 ≤ l.length ∧ W.heap.size ≤ w.heap.size ∧ J W.heap.size pp.2 w ∧ pp.2 ++ itemsW q c l pp.1 = itemsW q c l 0) (fun pp => l.length - pp.1) (0, []) ⟨St.again (hS.sl.sub (by repeat (first | exact trivial | refine ⟨rfl, ?_⟩))) (hS.ok _ (by repeat constructor)) rfl, Nat.zero_le _, Nat.le_refl _, h0, rfl⟩ ?_
  clear hS a; (try clear w); intro pp a w hI
  obtain ⟨p, pre⟩ := pp
  obtain ⟨hS, hp, hz, hj, hpre⟩ := hI
  simp only at hS hj hpre hp
  have hbd := line_bd (l.drop p)
  have hdl : (l.drop p).length = l.length - p := List.length_drop
  have hAt := ((hS.get (X := linesA b (.slice q l.length c) l) (by repeat constructor)) : linesK b (.slice q l.length c) l w).2
  have hpc : ByAt (.slice (tailP q p c 1) (l.length - p) (c - p)) (l.drop p) w := by
    have := hAt.piece (j := p) (k := l.length) hp (Nat.le_refl _)
    rwa [List.take_length] at this
  refine R_block ?_
  refine R_seq ?_
  refine R_region ?_
  refine R_op rfl (s_e hS (e_loadC rfl ty_sc22 (fun w hh => cell_of_blk (cs := [.slice q l.length c]) (hh (linesA b (.slice q l.length c) l) (by repeat constructor)).1 rfl)) rfl ?_); clear hS a; intro a hS
  refine R_op rfl (s_e hS (e_move rfl) rfl ?_); clear hS a; intro a hS
  refine R_op rfl (s_e hS (e_slT rfl rfl ty_sl22 ty_sz5 hp) rfl ?_); clear hS a; intro a hS
  rename World => wo
  refine R_op rfl (s_callP hS (.cons rfl .nil) cf52 rfl (line_P (.slice (tailP q p c 1) (l.length - p) (c - p)) (l.drop p) (by omega) _ hpc) ?_)
  clear hS a
  intro a w hS
  replace hj := hJ W.heap.size (Nat.le_refl _) _ _ w hj hS.chg.os hS.chg.tape hS.chg.output hS.chg.size (fun k hk _ => hS.chg.block k hk (fun h => h))
  replace hz := Nat.le_trans hz hS.chg.size
  replace hS := St.again hS.sl (hS.ok _ (by repeat constructor)) rfl
  clear hAt hpc
  refine R_op rfl (s_e hS (e_move rfl) rfl ?_); clear hS a; intro a hS
  refine R_op rfl (s_e hS (e_extract rfl rfl) rfl ?_); clear hS a; intro a hS
  refine R_op rfl (s_e hS (e_extract rfl rfl) rfl ?_); clear hS a; intro a hS
  refine R_op rfl (s_e hS (e_assign rfl) rfl ?_); clear hS a; intro a hS
  refine R_op rfl (s_e hS (e_assign rfl) rfl ?_); clear hS a; intro a hS
  refine R_nil ?_
  refine n_then ?_
  refine R_seq ?_
  refine R_seq ?_
  refine R_region ?_
  refine R_op rfl (s_e hS (e_move rfl) rfl ?_); clear hS a; intro a hS
  refine R_op rfl (s_e hS (e_bin rfl rfl rfl) rfl ?_); clear hS a; intro a hS
  refine R_nil ?_
  refine n_then ?_
  first | refine R_ifD hS rfl (fun hc15 => ?_) (fun hc15 => ?_) | refine R_if hS rfl (fun hc15 => ?_) (fun hc15 => ?_)
  ·
    have hend := items_end (q := q) (c := c) (l := l) (p := p) hc15
    refine R_seq ?_
    refine R_seq ?_
    refine R_region ?_
    refine R_op rfl (s_e hS (e_move rfl) rfl ?_); clear hS a; intro a hS
    refine R_op rfl (s_e hS (e_bin rfl rfl rfl) rfl ?_); clear hS a; intro a hS
    refine R_nil ?_
    refine n_then ?_
    first | refine R_ifD hS rfl (fun hc17 => ?_) (fun hc17 => ?_) | refine R_if hS rfl (fun hc17 => ?_) (fun hc17 => ?_)
    ·
      rw [if_pos hc17] at hend
      rw [hend] at hpre
      have hwrap : IntKind.i64.wrap (0 - (lineF (l.drop p)).2) = -(lineF (l.drop p)).2 := by rw [IntWalk.i64_in _ (by omega)]; omega
      have hy := hY W.heap.size pre (-(lineF (l.drop p)).2, .slice none 0 0) w (Nat.le_refl _) hz hj ⟨_, hpre⟩
      refine R_region ?_
      refine R_op rfl (s_e hS (e_move rfl) rfl ?_); clear hS a; intro a hS
      refine R_op rfl (s_e hS (e_move rfl) rfl ?_); clear hS a; intro a hS
      refine R_op rfl (s_e hS (e_neg rfl) rfl ?_); clear hS a; intro a hS
      rw [hwrap] at hS
      refine R_yield hS rfl (.cons rfl (.cons rfl .nil)) hy (fun e' w' hR => ?_)
      obtain ⟨z, rfl, hR2⟩ : ∃ z : Bool, e' = .returned (.bool z) ∧ ((z = true ∧ J W.heap.size (pre ++ [(-(lineF (l.drop p)).2, .slice none 0 0)]) w') ∨ (z = false ∧ Jx W.heap.size (pre ++ [(-(lineF (l.drop p)).2, .slice none 0 0)]) w')) := by
        rcases hR.2 with ⟨h1, h2⟩ | ⟨h1, h2⟩
        · exact ⟨true, h1, .inl ⟨rfl, h2⟩⟩
        · exact ⟨false, h1, .inr ⟨rfl, h2⟩⟩
      refine ⟨_, rfl, ?_⟩
      replace hS := St.bare (w := w') (hS.sl.put (d := 21) rfl (.bool z))
      clear hj hy hz hR
      generalize a.put (some 21) (Value.bool z) = a2 at hS ⊢
      clear a; revert a2; intro a hS; clear w; rename World => w
      refine R_nil ?_
      refine n_then ?_
      refine R_ret ?_
      refine r_then (r_block (r_then (r_block ?_)))
      refine c_retN hS Tryz.results51 .nil rfl ?_
      rcases hR2 with ⟨_, h2⟩ | ⟨_, h2⟩
      · exact ⟨⟨_, rfl⟩, _, Nat.le_refl _, .inl ⟨_, hpre, h2⟩⟩
      · exact ⟨⟨_, rfl⟩, _, Nat.le_refl _, .inr ⟨_, ⟨[], by rw [List.append_nil]; exact hpre⟩, h2⟩⟩
    ·
      refine R_skip ?_
      refine n_then ?_
      refine R_ret ?_
      refine r_then (r_block (r_then (r_block ?_)))
      refine c_retN hS Tryz.results51 .nil rfl ?_
      rw [if_neg hc17] at hend
      rw [hend, List.append_nil] at hpre
      exact ⟨⟨_, rfl⟩, _, Nat.le_refl _, .inl ⟨_, hpre, hj⟩⟩
  ·
    have hgo := items_go (q := q) (c := c) (l := l) (p := p) (by omega)
    have hn : ((lineF (l.drop p)).1.toNat : Int) = (lineF (l.drop p)).1 := Int.toNat_of_nonneg (by omega)
    rw [hgo] at hpre
    have hy := hY W.heap.size pre ((p : Int) + ((lineF (l.drop p)).1 + 2), .slice (tailP q p c 1) (lineF (l.drop p)).1.toNat (c - p)) w (Nat.le_refl _) hz hj ⟨_, hpre⟩
    refine R_skip ?_
    refine n_then ?_
    refine R_seq ?_
    refine R_region ?_
    refine R_op rfl (s_e hS (e_move rfl) rfl ?_); clear hS a; intro a hS
    refine R_op rfl (s_e hS (e_assign rfl) rfl ?_); clear hS a; intro a hS
    refine R_nil ?_
    refine n_then ?_
    refine R_seq ?_
    refine R_region ?_
    refine R_op rfl (s_e hS (e_move rfl) rfl ?_); clear hS a; intro a hS
    refine R_op rfl (s_e hS (e_move rfl) rfl ?_); clear hS a; intro a hS
    first | (refine R_op rfl (s_e hS (e_binN rfl rfl rfl (by omega)) rfl ?_); clear hS a; intro a hS) | (refine R_op rfl (s_e hS (e_bin rfl rfl rfl) rfl ?_); clear hS a; intro a hS)
    first | (refine R_op rfl (s_e hS (e_binN rfl rfl rfl (by omega)) rfl ?_); clear hS a; intro a hS) | (refine R_op rfl (s_e hS (e_bin rfl rfl rfl) rfl ?_); clear hS a; intro a hS)
    refine R_op rfl (s_e hS (e_assign rfl) rfl ?_); clear hS a; intro a hS
    refine R_nil ?_
    refine n_then ?_
    refine R_seq ?_
    refine R_region ?_
    refine R_op rfl (s_e hS (e_move rfl) rfl ?_); clear hS a; intro a hS
    refine R_op rfl (s_e hS (e_move rfl) rfl ?_); clear hS a; intro a hS
    refine R_op rfl (s_e hS (e_loadC rfl ty_sc22 (fun w hh => cell_of_blk (cs := [.slice q l.length c]) (hh (linesA b (.slice q l.length c) l) (by repeat constructor)).1 rfl)) rfl ?_); clear hS a; intro a hS
    refine R_op rfl (s_e hS (e_move rfl) rfl ?_); clear hS a; intro a hS
    refine R_op rfl (s_e hS (e_move rfl) rfl ?_); clear hS a; intro a hS
    refine R_op rfl (s_e hS (e_move rfl) rfl ?_); clear hS a; intro a hS
    first | (refine R_op rfl (s_e hS (e_binN rfl rfl rfl (by omega)) rfl ?_); clear hS a; intro a hS) | (refine R_op rfl (s_e hS (e_bin rfl rfl rfl) rfl ?_); clear hS a; intro a hS)
    rw [show (p : Int) + (lineF (l.drop p)).1 = ((p + (lineF (l.drop p)).1.toNat : Nat) : Int) by omega] at hS
    refine R_op rfl (s_e hS (e_slB rfl rfl rfl ty_sl22 ty_sz5 ⟨Nat.le_add_right _ _, by have := hlc (fun e => by subst e; exact hc15 (by rw [List.drop_nil]; decide)); omega⟩) rfl ?_); clear hS a; intro a hS
    rw [Nat.add_sub_cancel_left] at hS
    refine R_yield hS rfl (.cons rfl (.cons rfl .nil)) hy (fun e' w' hR => ?_)
    obtain ⟨z, rfl, hR2⟩ : ∃ z : Bool, e' = .returned (.bool z) ∧ ((z = true ∧ J W.heap.size (pre ++ [((p : Int) + ((lineF (l.drop p)).1 + 2), .slice (tailP q p c 1) (lineF (l.drop p)).1.toNat (c - p))]) w') ∨ (z = false ∧ Jx W.heap.size (pre ++ [((p : Int) + ((lineF (l.drop p)).1 + 2), .slice (tailP q p c 1) (lineF (l.drop p)).1.toNat (c - p))]) w')) := by
      rcases hR.2 with ⟨h1, h2⟩ | ⟨h1, h2⟩
      · exact ⟨true, h1, .inl ⟨rfl, h2⟩⟩
      · exact ⟨false, h1, .inr ⟨rfl, h2⟩⟩
    refine ⟨_, rfl, ?_⟩
    have hz2 := Nat.le_trans hz hR.1.1
    replace hS := St.bare (w := w') (hS.sl.put (d := 35) rfl (.bool z))
    clear hj hy hz hR
    generalize a.put (some 35) (Value.bool z) = a2 at hS ⊢
    clear a; revert a2; intro a hS; clear w; rename World => w
    refine R_op rfl (s_e hS (e_not rfl) rfl ?_); clear hS a; intro a hS
    refine R_nil ?_
    refine n_then ?_
    first | refine R_ifD hS rfl (fun hc36 => ?_) (fun hc36 => ?_) | refine R_if hS rfl (fun hc36 => ?_) (fun hc36 => ?_)
    ·
      refine R_ret ?_
      refine r_block (r_then (r_block ?_))
      refine c_retN hS Tryz.results51 .nil rfl ?_
      have hx2 : Jx W.heap.size (pre ++ [((p : Int) + ((lineF (l.drop p)).1 + 2), .slice (tailP q p c 1) (lineF (l.drop p)).1.toNat (c - p))]) w := by
        rcases hR2 with ⟨h1, _⟩ | ⟨_, h2⟩
        · rw [h1] at hc36; cases hc36
        · exact h2
      exact ⟨⟨_, rfl⟩, _, Nat.le_refl _, .inr ⟨_, ⟨_, by rw [List.append_assoc]; exact hpre⟩, hx2⟩⟩
    ·
      refine R_skip ?_
      refine n_block ?_
      have hx2 : J W.heap.size (pre ++ [((p : Int) + ((lineF (l.drop p)).1 + 2), .slice (tailP q p c 1) (lineF (l.drop p)).1.toNat (c - p))]) w := by
        rcases hR2 with ⟨_, h2⟩ | ⟨h1, _⟩
        · exact h2
        · rw [h1] at hc36; cases hc36
      exact ⟨(p + (lineF (l.drop p)).1.toNat + 2, pre ++ [((p : Int) + ((lineF (l.drop p)).1 + 2), .slice (tailP q p c 1) (lineF (l.drop p)).1.toNat (c - p))]), by simp only; omega, St.again (hS.sl.sub (by rw [show ((p + (lineF (l.drop p)).1.toNat + 2 : Nat) : Int) = (p : Int) + ((lineF (l.drop p)).1 + 2) by omega]; exact (by repeat (first | exact trivial | refine ⟨rfl, ?_⟩)))) (lines_ok (hK _ _ _ hx2)) rfl, by simp only; omega, hz2, hx2, by rw [List.append_assoc]; exact hpre⟩
end Go.Proofs.YtjmkjkhcognoeaaGreatDoor

namespace Go.Proofs.YtjmkjkhcognoeaaGreatDoor
open Go.RowKit

section
variable {P : Program} {n : NN} {F0 : Nat → Prop} {w0 w : World} {a : Act} {L : List (Nat × Value)} {Γ : List Asn}
variable {dst : Option Nat} {K : Act → World → Prop} {Q : Exit → Act → World → Prop} {ty : Nat} {pos : String} {af : Array Edge} {g : Option (Nat × Bool)}
/-- a struct inside a block. -/
theorem e_loadSub {T b k E : Nat} {x : Operand} {cs l : List Value} (hx : ev L x = some (.pointer (some ⟨b, k, none⟩))) (hm : Asn.blk b cs E ∈ Γ) (hT : structT P T = true) (hz : szOf P T = some l.length) (hl : (cs.drop k).take l.length = l) :
    Ex P n a L Γ ⟨dst, .load T x, ty, pos, af, g⟩ (.agg l.toArray) :=
  e_loadAC hx hT hz (fun w hh j v hj => cell_of_blk (E := E) (hh _ hm) (by
    have hjl := (List.getElem?_eq_some_iff.1 hj).1
    rw [← List.getElem?_drop]
    rw [← hl, List.getElem?_take_of_lt hjl] at hj
    exact hj))
theorem storeAt_run {E b k : Nat} : ∀ (vs : List Value) (i : Nat) (w : World) (cs cs' : List Value), w.heap[b]? = some (.cells cs.toArray E (0, 0)) → UpdA cs (k + i) vs cs' → (∀ v ∈ vs, isOne v = true) →
    ∃ w', (storeCells ⟨b, k, none⟩ vs i).run P w = .ok () w' ∧ w'.heap[b]? = some (.cells cs'.toArray E (0, 0)) ∧ Chg (fun k => k = b) w w' := by
  intro vs
  induction vs with
  | nil => intro i w cs cs' hb hu _; cases hu; exact ⟨w, by simp [storeCells], hb, Chg.refl _ _⟩
  | cons v vs ih =>
    intro i w cs cs' hb hu h1
    cases hu with
    | cons h t =>
      obtain ⟨e, hk⟩ := h.eq
      have hv := h1 v (by simp)
      have hc : ∃ u, cs[k + i]? = some u := ⟨cs[k + i], by simp [hk]⟩
      obtain ⟨u, hu⟩ := hc
      have hcell := cell_of_blk hb hu
      have hs := setCell_of_blk (k := k + i) hb v
      rw [← e] at hs
      obtain ⟨w', h2, h3, h4⟩ := ih (i + 1) _ _ _ hs t (fun u hu => h1 u (by simp [hu]))
      refine ⟨w', ?_, h3, (Chg.setCell w ⟨b, k + i, none⟩ v).trans h4 (fun i hi _ => hi)⟩
      simp [storeCells, addr_add, run_store _ _ _ _ _ (isOne_oneCell hv), hcell, frozen_of_blk hb, h2]
/-- a struct stored into a part of a block. -/
theorem s_storeB {T b k m : Nat} {x y : Operand} {cs cs' l : List Value} {E : TypeId} {Γ' : List Asn} (hS : St n F0 w0 a w L Γ) (hx : ev L x = some (.pointer (some ⟨b, k, none⟩))) (hy : ev L y = some (.agg l.toArray))
    (hz : szOf P T = some m) (hr : Rep (.blk b cs E) (.blk b cs' E) Γ Γ') (hl : Nat.beq l.length m = true) (hu : UpdA cs k l cs') (h1 : l.all isOne = true) (h : ∀ w', St n F0 w0 a w' L Γ' → K a w') : OW P ⟨none, .store T x y, ty, pos, af, g⟩ a w K Q := by
  have e2 := Nat.eq_of_beq_eq_true hl
  have hb : w.heap[b]? = some (.cells cs.toArray E (0, 0)) := hS.get hr.mem
  obtain ⟨w', h2, h3, h4⟩ := storeAt_run (P := P) (k := k) l 0 w cs cs' hb hu (by simpa using h1)
  have he : (execOp a.eval (⟨none, .store T x y, ty, pos, af, g⟩ : Oper)).run P w = .ok .skip w' := by
    simp [execOp, hS.sl.ev hx, hS.sl.ev hy, Instr.storeAt, Instr.sureAddr, storeVar, sizeOf_run hz, Value.cells, e2, h2]
  refine ⟨?_⟩
  unfold Oper.wp
  rw [he]
  exact h _ (hS.upd hr h4 (ok_blk h3) (fun i hi => .inl hi) rfl)
end

/-- a reader: the request so far, how many lines, the body's length, the headers, whether the empty line was read. -/
def rdC (m p : ByteArray) (body : Value) (cl : Bool) (n bl : Int) (mp : Nat) (over : Bool) : List Value := [.string m, .string p, body, .bool cl, .int .i64 n, .int .i64 bl, .map (some mp), .bool over]
def sNo : ByteArray := ⟨#[]⟩

set_option maxRecDepth 100000 in
theorem RLine1 (b mp : Nat) (m : Int) (w0 : World) (h : (Asn.blk b (rdC sNo sNo (.slice none 0 0) false 0 0 mp false) 96).φ w0) (hm : w0.cell? ⟨1, 0, none⟩ = some (.int .i64 m)) (hd : b ≠ 1) :
    MutC Tryz.prog 39 [.pointer (some ⟨b, 0, none⟩), .string sReq] w0 (.blk b (rdC sNo sNo (.slice none 0 0) false 0 0 mp false) 96) (fun _ : Unit => .int .i64 0) (fun _ => .blk b (rdC sGet sHealth (.slice none 0 0) false 1 0 mp false) 96) := by
  refine c_enter [(0, .pointer (some ⟨b, 0, none⟩)), (1, .string sReq)] [.blk b (rdC sNo sNo (.slice none 0 0) false 0 0 mp false) 96, ceA 1 0 (.int .i64 m)] (fun k => k = b) Tryz.func39 rfl Tryz.ntmps39 ⟨rfl, rfl, trivial⟩ rfl (okC (ok_blk h) (okC (ce_ok hm) okN)) (disC (sepC (fun k h1 h2 => hd (Eq.trans (Eq.symm h1) h2)) sepN) dis1) (mineO (fun _ hb => hb) (mineC (by rfl) mineN)) ?_
  intro a hS
  refine c_seq ?_
  refine c_region ?_
  refine L_op (s_e hS (e_assign rfl) rfl ?_); clear hS a; intro a hS
  refine L_nil ?_
  refine n_then ?_
  refine c_seq ?_
  refine c_region ?_
  refine L_op (s_e hS (e_move rfl) rfl ?_); clear hS a; intro a hS
  refine L_op (s_e hS (e_nilCheck rfl) rfl ?_); clear hS a; intro a hS
  first | (refine L_op (s_e hS (e_fa0 rfl ty_fo96_1) rfl ?_); clear hS a; intro a hS) | (refine L_op (s_e hS (e_faK rfl ty_fo96_1) rfl ?_); clear hS a; intro a hS)
  refine L_op (s_e hS (e_load rfl (by repeat constructor) ty_sc3 (by rfl)) rfl ?_); clear hS a; intro a hS
  first | (refine L_op (s_e hS (e_binN rfl rfl rfl (by omega)) rfl ?_); clear hS a; intro a hS) | (refine L_op (s_e hS (e_bin rfl rfl rfl) rfl ?_); clear hS a; intro a hS)
  refine L_op (s_e hS (e_nilCheck rfl) rfl ?_); clear hS a; intro a hS
  first | (refine L_op (s_e hS (e_fa0 rfl ty_fo96_1) rfl ?_); clear hS a; intro a hS) | (refine L_op (s_e hS (e_faK rfl ty_fo96_1) rfl ?_); clear hS a; intro a hS)
  refine L_op (s_store hS rfl rfl rfl ty_sz3 (by repeat constructor) (by repeat constructor) ?_); clear hS; (try clear w); intro w hS
  refine L_nil ?_
  refine n_then ?_
  refine c_seq ?_
  refine c_seq ?_
  refine c_region ?_
  refine L_op (s_e hS (e_move rfl) rfl ?_); clear hS a; intro a hS
  refine L_op (s_e hS (e_nilCheck rfl) rfl ?_); clear hS a; intro a hS
  first | (refine L_op (s_e hS (e_fa0 rfl ty_fo96_1) rfl ?_); clear hS a; intro a hS) | (refine L_op (s_e hS (e_faK rfl ty_fo96_1) rfl ?_); clear hS a; intro a hS)
  refine L_op (s_e hS (e_load rfl (by repeat constructor) ty_sc3 (by rfl)) rfl ?_); clear hS a; intro a hS
  refine L_op (s_e hS (e_bin rfl rfl rfl) rfl ?_); clear hS a; intro a hS
  refine L_nil ?_
  refine n_then ?_
  replace hS := hS.is (t := 24) (c := true) rfl ((by decide))
  refine c_if_t hS rfl ?_
  refine c_seq ?_
  refine c_region ?_
  refine L_op (s_e hS (e_move rfl) rfl ?_); clear hS a; intro a hS
  refine L_op (s_callP hS (.cons rfl .nil) cf53 rfl (first_req m _ (hS.get (X := ceA 1 0 (.int .i64 m)) (by repeat constructor))) ?_); clear hS a; (try clear w); intro a w hS
  refine L_op (s_e hS (e_move rfl) rfl ?_); clear hS a; intro a hS
  refine L_op (s_e hS (e_extract rfl rfl) rfl ?_); clear hS a; intro a hS
  refine L_op (s_e hS (e_extract rfl rfl) rfl ?_); clear hS a; intro a hS
  refine L_op (s_alloc hS ty_z35 rfl ?_); clear hS a; (try clear w); intro a w b5 hS
  refine L_op (s_storeA hS rfl rfl ty_sz35 (by repeat constructor) (by rfl) (by rfl) (by rfl) ?_); clear hS; (try clear w); intro w hS
  refine L_op (s_e hS (e_assign rfl) rfl ?_); clear hS a; intro a hS
  refine L_nil ?_
  refine n_then ?_
  refine c_seq ?_
  refine c_region ?_
  refine L_op (s_e hS (e_move rfl) rfl ?_); clear hS a; intro a hS
  refine L_op (s_e hS (e_loadA rfl (by repeat constructor) ty_st35 ty_sz35 (by rfl)) rfl ?_); clear hS a; intro a hS
  refine L_op (s_e hS (e_nilCheck rfl) rfl ?_); clear hS a; intro a hS
  first | (refine L_op (s_e hS (e_fa0 rfl ty_fo96_0) rfl ?_); clear hS a; intro a hS) | (refine L_op (s_e hS (e_faK rfl ty_fo96_0) rfl ?_); clear hS a; intro a hS)
  refine L_op (s_storeB hS rfl rfl ty_sz35 (cs' := rdC sGet sHealth (.slice none 0 0) false 1 0 mp false) (by repeat constructor) rfl (by unfold rdC; exact .cons .z (.cons (.s .z) (.cons (.s (.s .z)) (.cons (.s (.s (.s .z))) .nil)))) rfl ?_); clear hS; (try clear w); intro w hS
  refine L_nil ?_
  refine n_then ?_
  refine c_seq ?_
  refine c_region ?_
  refine L_op (s_e hS (e_move rfl) rfl ?_); clear hS a; intro a hS
  refine L_op (s_e hS (e_assign rfl) rfl ?_); clear hS a; intro a hS
  refine L_nil ?_
  refine n_then ?_
  refine wp_ret ?_
  refine r_then ?_
  refine c_ret1 hS Tryz.results39 (.tmp rfl) ?_
  exact ⟨(), rfl, hS.chg, hS.ok _ (by repeat constructor), fun c hc => .inl hc⟩
set_option maxRecDepth 100000 in
theorem RLine2 (b mp : Nat) (mt pt : ByteArray) (w0 : World) (h : (Asn.blk b (rdC mt pt (.slice none 0 0) false 1 0 mp false) 96).φ w0) :
    MutC Tryz.prog 39 [.pointer (some ⟨b, 0, none⟩), .string sNo] w0 (.blk b (rdC mt pt (.slice none 0 0) false 1 0 mp false) 96) (fun _ : Unit => .int .i64 0) (fun _ => .blk b (rdC mt pt (.slice none 0 0) false 2 0 mp true) 96) := by
  refine c_enter [(0, .pointer (some ⟨b, 0, none⟩)), (1, .string sNo)] [.blk b (rdC mt pt (.slice none 0 0) false 1 0 mp false) 96] (fun k => k = b) Tryz.func39 rfl Tryz.ntmps39 ⟨rfl, rfl, trivial⟩ rfl (okC (ok_blk h) okN) dis1 (mineO (fun _ hb => hb) mineN) ?_
  intro a hS
  refine c_seq ?_
  refine c_region ?_
  refine L_op (s_e hS (e_assign rfl) rfl ?_); clear hS a; intro a hS
  refine L_nil ?_
  refine n_then ?_
  refine c_seq ?_
  refine c_region ?_
  refine L_op (s_e hS (e_move rfl) rfl ?_); clear hS a; intro a hS
  refine L_op (s_e hS (e_nilCheck rfl) rfl ?_); clear hS a; intro a hS
  first | (refine L_op (s_e hS (e_fa0 rfl ty_fo96_1) rfl ?_); clear hS a; intro a hS) | (refine L_op (s_e hS (e_faK rfl ty_fo96_1) rfl ?_); clear hS a; intro a hS)
  refine L_op (s_e hS (e_load rfl (by repeat constructor) ty_sc3 (by rfl)) rfl ?_); clear hS a; intro a hS
  first | (refine L_op (s_e hS (e_binN rfl rfl rfl (by omega)) rfl ?_); clear hS a; intro a hS) | (refine L_op (s_e hS (e_bin rfl rfl rfl) rfl ?_); clear hS a; intro a hS)
  refine L_op (s_e hS (e_nilCheck rfl) rfl ?_); clear hS a; intro a hS
  first | (refine L_op (s_e hS (e_fa0 rfl ty_fo96_1) rfl ?_); clear hS a; intro a hS) | (refine L_op (s_e hS (e_faK rfl ty_fo96_1) rfl ?_); clear hS a; intro a hS)
  refine L_op (s_store hS rfl rfl rfl ty_sz3 (by repeat constructor) (by repeat constructor) ?_); clear hS; (try clear w); intro w hS
  refine L_nil ?_
  refine n_then ?_
  refine c_seq ?_
  refine c_seq ?_
  refine c_region ?_
  refine L_op (s_e hS (e_move rfl) rfl ?_); clear hS a; intro a hS
  refine L_op (s_e hS (e_nilCheck rfl) rfl ?_); clear hS a; intro a hS
  first | (refine L_op (s_e hS (e_fa0 rfl ty_fo96_1) rfl ?_); clear hS a; intro a hS) | (refine L_op (s_e hS (e_faK rfl ty_fo96_1) rfl ?_); clear hS a; intro a hS)
  refine L_op (s_e hS (e_load rfl (by repeat constructor) ty_sc3 (by rfl)) rfl ?_); clear hS a; intro a hS
  refine L_op (s_e hS (e_bin rfl rfl rfl) rfl ?_); clear hS a; intro a hS
  refine L_nil ?_
  refine n_then ?_
  replace hS := hS.is (t := 24) (c := false) rfl ((by decide))
  refine c_if_f hS rfl ?_
  refine wp_skip ?_
  refine n_then ?_
  refine c_seq ?_
  refine c_seq ?_
  refine c_region ?_
  refine L_op (s_e hS (e_move rfl) rfl ?_); clear hS a; intro a hS
  refine L_op (s_e hS (e_binS rfl rfl rfl) rfl ?_); clear hS a; intro a hS
  refine L_nil ?_
  refine n_then ?_
  replace hS := hS.is (t := 36) (c := true) rfl ((by decide))
  refine c_if_t hS rfl ?_
  refine c_seq ?_
  refine c_region ?_
  refine L_op (s_e hS (e_move rfl) rfl ?_); clear hS a; intro a hS
  refine L_op (s_e hS (e_nilCheck rfl) rfl ?_); clear hS a; intro a hS
  first | (refine L_op (s_e hS (e_fa0 rfl ty_fo96_4) rfl ?_); clear hS a; intro a hS) | (refine L_op (s_e hS (e_faK rfl ty_fo96_4) rfl ?_); clear hS a; intro a hS)
  refine L_op (s_store hS rfl rfl rfl ty_sz4 (by repeat constructor) (by repeat constructor) ?_); clear hS; (try clear w); intro w hS
  refine L_nil ?_
  refine n_then ?_
  refine c_seq ?_
  refine c_region ?_
  refine L_op (s_e hS (e_assign rfl) rfl ?_); clear hS a; intro a hS
  refine L_nil ?_
  refine n_then ?_
  refine wp_ret ?_
  refine r_then ?_
  refine c_ret1 hS Tryz.results39 (.tmp rfl) ?_
  exact ⟨(), rfl, hS.chg, hS.ok _ (by repeat constructor), fun c hc => .inl hc⟩
end Go.Proofs.YtjmkjkhcognoeaaGreatDoor

namespace Go.Proofs.YtjmkjkhcognoeaaGreatDoor
open Go.RowKit

theorem words3 {s : ByteArray} (h : (wordsB 32 s).length = 3) : ∃ a b v, wordsB 32 s = [a, b, v] := by
  match hw : wordsB 32 s, h with
  | [a, b, v], _ => exact ⟨a, b, v, rfl⟩
theorem head_no {s : ByteArray} (h : (wordsB 32 s).length ≠ 3) : headF s = (10, ⟨#[]⟩, ⟨#[]⟩) := by
  unfold headF
  split
  · rename_i e; rw [e] at h; simp at h
  · rfl
theorem words_bd {c : UInt8} : ∀ {l x : List UInt8}, x ∈ wordsL c l → x.length ≤ l.length
  | [], x, h => by simp [wordsL] at h; subst h; exact Nat.le_refl _
  | b :: t, x, h => by
    unfold wordsL at h
    split at h
    · rcases List.mem_cons.1 h with rfl | h
      · exact Nat.zero_le _
      · exact Nat.le_succ_of_le (words_bd h)
    · split at h
      · obtain rfl := List.mem_singleton.1 h; simp
      · rename_i w ws e
        rcases List.mem_cons.1 h with rfl | h
        · have := words_bd (c := c) (l := t) (x := w) (by rw [e]; exact .head _)
          simp; omega
        · exact Nat.le_succ_of_le (words_bd (by rw [e]; exact .tail _ h))
theorem wordsB_bd {c : UInt8} {s x : ByteArray} (h : x ∈ wordsB c s) : x.size ≤ s.size := by
  obtain ⟨l, hl, rfl⟩ := List.mem_map.1 h
  have := words_bd hl
  have h2 := size_list s
  have h3 := tx_size l
  unfold tx at h3
  omega
def reqV (s : ByteArray) : Value := .agg [.string (headF s).2.1, .string (headF s).2.2, .slice none 0 0, .bool false].toArray
set_option maxRecDepth 100000 in
theorem first_none (W0 : World) (hG : Gl W0) (s : ByteArray) (hs : s.size ≤ 1000000) (hw : (wordsB 32 s).length ≠ 3) (w0 : World) (h : oldφ W0 w0) : PureC Tryz.prog 53 [.string s] w0 (.tuple [reqV s, .int .i64 (headF s).1].toArray) := by
  refine c_enter [(0, .string s)] [oldA W0] noB Tryz.func53 rfl Tryz.ntmps53 ⟨rfl, trivial⟩ rfl (okC (old_ok h) okN) dis1 (mineC (by rfl) mineN) ?_
  intro a hS
  refine c_seq ?_
  refine c_region ?_
  refine L_op (s_alloc hS ty_z35 rfl ?_); clear hS a; (try clear w); intro a w b2 hS
  refine L_op (s_e hS (e_assign rfl) rfl ?_); clear hS a; intro a hS
  refine L_nil ?_
  refine n_then ?_
  refine c_seq ?_
  refine c_region ?_
  refine L_op (s_e hS (e_move rfl) rfl ?_); clear hS a; intro a hS
  refine L_op (s_callN hS (.cons rfl (.cons rfl .nil)) cf66 rfl (Split_P s (by omega) _ (hG.keep (hS.get (X := oldA W0) (by repeat constructor)))) ?_); clear hS a; (try clear w); intro x6 a w hS
  refine L_op (s_e hS (e_assign rfl) rfl ?_); clear hS a; intro a hS
  refine L_nil ?_
  refine n_then ?_
  refine c_seq ?_
  refine c_seq ?_
  refine c_region ?_
  refine L_op (s_e hS (e_move rfl) rfl ?_); clear hS a; intro a hS
  refine L_op (s_e hS (e_len rfl rfl ty_sl45) rfl ?_); clear hS a; intro a hS
  refine L_op (s_e hS (e_bin rfl rfl rfl) rfl ?_); clear hS a; intro a hS
  refine L_op (s_e hS (e_move rfl) rfl ?_); clear hS a; intro a hS
  replace hS := hS.is (t := 10) (c := true) rfl ((decide_eq_true (by omega)))
  refine L_skip_f hS rfl rfl rfl ?_; clear hS a; intro a hS
  refine L_skip_f hS rfl rfl rfl ?_; clear hS a; intro a hS
  refine L_skip_f hS rfl rfl rfl ?_; clear hS a; intro a hS
  refine L_skip_f hS rfl rfl rfl ?_; clear hS a; intro a hS
  refine L_skip_f hS rfl rfl rfl ?_; clear hS a; intro a hS
  first | (refine L_op (s_e hS (e_pick_t rfl rfl) rfl ?_); clear hS a; intro a hS) | (refine L_op (s_e hS (e_pick_f rfl rfl) rfl ?_); clear hS a; intro a hS)
  refine L_op (s_e hS (e_move rfl) rfl ?_); clear hS a; intro a hS
  refine L_skip_f hS rfl rfl rfl ?_; clear hS a; intro a hS
  refine L_skip_f hS rfl rfl rfl ?_; clear hS a; intro a hS
  refine L_skip_f hS rfl rfl rfl ?_; clear hS a; intro a hS
  refine L_skip_f hS rfl rfl rfl ?_; clear hS a; intro a hS
  refine L_skip_f hS rfl rfl rfl ?_; clear hS a; intro a hS
  first | (refine L_op (s_e hS (e_pick_t rfl rfl) rfl ?_); clear hS a; intro a hS) | (refine L_op (s_e hS (e_pick_f rfl rfl) rfl ?_); clear hS a; intro a hS)
  refine L_op (s_e hS (e_move rfl) rfl ?_); clear hS a; intro a hS
  refine L_skip_f hS rfl rfl rfl ?_; clear hS a; intro a hS
  refine L_skip_f hS rfl rfl rfl ?_; clear hS a; intro a hS
  refine L_skip_f hS rfl rfl rfl ?_; clear hS a; intro a hS
  refine L_skip_f hS rfl rfl rfl ?_; clear hS a; intro a hS
  first | (refine L_op (s_e hS (e_pick_t rfl rfl) rfl ?_); clear hS a; intro a hS) | (refine L_op (s_e hS (e_pick_f rfl rfl) rfl ?_); clear hS a; intro a hS)
  refine L_nil ?_
  refine n_then ?_
  refine c_if_t hS rfl ?_
  refine c_seq ?_
  refine c_region ?_
  refine L_op (s_e hS (e_build ty_z35 ty_pl35 .nil) rfl ?_); clear hS a; intro a hS
  refine L_op (s_storeA hS rfl rfl ty_sz35 (by repeat constructor) (by rfl) (by rfl) (by rfl) ?_); clear hS; (try clear w); intro w hS
  refine L_op (s_e hS (e_assign rfl) rfl ?_); clear hS a; intro a hS
  refine L_nil ?_
  refine n_then ?_
  refine wp_ret ?_
  refine r_then ?_
  refine c_retN hS Tryz.results53 (.cons (.cellA rfl (by repeat constructor) ty_st35 ty_sz35 (by rfl)) (.cons (.tmp rfl) .nil)) rfl ?_
  exact ⟨by unfold reqV; rw [head_no hw], hS.chg⟩
set_option maxRecDepth 100000 in
theorem first_three (W0 : World) (hG : Gl W0) (s a1 b1 v1 : ByteArray) (hs : s.size ≤ 1000000) (hw : wordsB 32 s = [a1, b1, v1]) (w0 : World) (h : oldφ W0 w0) : PureC Tryz.prog 53 [.string s] w0 (.tuple [reqV s, .int .i64 (headF s).1].toArray) := by
  have ha1 : a1.size ≤ s.size := wordsB_bd (c := 32) (by rw [hw]; exact .head _)
  have hb1 : b1.size ≤ s.size := wordsB_bd (c := 32) (by rw [hw]; exact .tail _ (.head _))
  refine c_enter [(0, .string s)] [oldA W0] noB Tryz.func53 rfl Tryz.ntmps53 ⟨rfl, trivial⟩ rfl (okC (old_ok h) okN) dis1 (mineC (by rfl) mineN) ?_
  intro a hS
  refine c_seq ?_
  refine c_region ?_
  refine L_op (s_alloc hS ty_z35 rfl ?_); clear hS a; (try clear w); intro a w b2 hS
  refine L_op (s_e hS (e_assign rfl) rfl ?_); clear hS a; intro a hS
  refine L_nil ?_
  refine n_then ?_
  refine c_seq ?_
  refine c_region ?_
  refine L_op (s_e hS (e_move rfl) rfl ?_); clear hS a; intro a hS
  have hsp := Split_P s (by omega) w (hG.keep (hS.get (X := oldA W0) (by repeat constructor)))
  rw [hw] at hsp
  refine L_op (s_callN hS (.cons rfl (.cons rfl .nil)) cf66 rfl hsp ?_); clear hS a hsp; (try clear w); intro x6 a w hS
  simp only [List.map_cons, List.map_nil, List.length_cons, List.length_nil, Nat.zero_add, Nat.reduceAdd] at hS
  refine L_op (s_e hS (e_assign rfl) rfl ?_); clear hS a; intro a hS
  refine L_nil ?_
  refine n_then ?_
  refine c_seq ?_
  refine c_seq ?_
  refine c_region ?_
  refine L_op (s_e hS (e_move rfl) rfl ?_); clear hS a; intro a hS
  refine L_op (s_e hS (e_len rfl rfl ty_sl45) rfl ?_); clear hS a; intro a hS
  refine L_op (s_e hS (e_bin rfl rfl rfl) rfl ?_); clear hS a; intro a hS
  refine L_op (s_e hS (e_move rfl) rfl ?_); clear hS a; intro a hS
  replace hS := hS.is (t := 10) (c := false) rfl ((by decide))
  refine L_go hS rfl rfl (s_e hS (e_move rfl) rfl ?_); clear hS a; intro a hS
  refine L_go hS rfl rfl (s_e hS (e_ix rfl rfl ty_sl45 ty_sz9 (by omega)) rfl ?_); clear hS a; intro a hS
  refine L_go hS rfl rfl (s_e hS (e_load rfl (by repeat constructor) ty_sc9 (by rfl)) rfl ?_); clear hS a; intro a hS
  refine L_go hS rfl rfl (s_callP hS (.cons rfl (.cons rfl (.cons rfl .nil))) cf67 rfl (some_P a1 10 68 (fun c => decide (65 ≤ c ∧ c ≤ 90)) (by omega) cf68 big_P _) ?_); clear hS a; (try clear w); intro a w hS
  refine L_go hS rfl rfl (s_e hS (e_not rfl) rfl ?_); clear hS a; intro a hS
  first | (refine L_op (s_e hS (e_pick_t rfl rfl) rfl ?_); clear hS a; intro a hS) | (refine L_op (s_e hS (e_pick_f rfl rfl) rfl ?_); clear hS a; intro a hS)
  refine L_op (s_e hS (e_move rfl) rfl ?_); clear hS a; intro a hS
  refine L_merge 6 23 (.bool (!(someB a1 10 (fun c => decide (65 ≤ c ∧ c ≤ 90)) && pathB b1))) hS ?_ ?_
  · intro hcM23
    (first | refine g_splitD (t := 17) hS rfl ?_ ?_ | refine g_split (t := 17) hS rfl ?_ ?_) <;> (clear hS; intro hg17 hS)
    ·
      refine L_skip_f hS rfl rfl rfl ?_; clear hS a; intro a hS
      refine L_skip_f hS rfl rfl rfl ?_; clear hS a; intro a hS
      refine L_skip_f hS rfl rfl rfl ?_; clear hS a; intro a hS
      refine L_skip_f hS rfl rfl rfl ?_; clear hS a; intro a hS
      refine L_skip_f hS rfl rfl rfl ?_; clear hS a; intro a hS
      first | (refine L_op (s_e hS (e_pick_t rfl rfl) rfl ?_); clear hS a; intro a hS) | (refine L_op (s_e hS (e_pick_f rfl rfl) rfl ?_); clear hS a; intro a hS)
      exact hcM23 _ _ (hS.ends 7 23 17 rfl (congrArg Value.bool (by rw [Bool.not_eq_true'] at hg17; rw [hg17]; rfl)) rfl rfl (by first | exact congrArg Value.bool (decide_eq_true hg17).symm | exact congrArg Value.bool hg17.symm | simp [hg17]) rfl)
    ·
      refine L_go hS rfl rfl (s_e hS (e_move rfl) rfl ?_); clear hS a; intro a hS
      refine L_go hS rfl rfl (s_e hS (e_ix rfl rfl ty_sl45 ty_sz9 (by omega)) rfl ?_); clear hS a; intro a hS
      refine L_go hS rfl rfl (s_e hS (e_load rfl (by repeat constructor) ty_sc9 (by rfl)) rfl ?_); clear hS a; intro a hS
      refine L_go hS rfl rfl (s_callP hS (.cons rfl .nil) cf69 rfl (isPath_P b1 (by omega) _) ?_); clear hS a; (try clear w); intro a w hS
      refine L_go hS rfl rfl (s_e hS (e_not rfl) rfl ?_); clear hS a; intro a hS
      first | (refine L_op (s_e hS (e_pick_t rfl rfl) rfl ?_); clear hS a; intro a hS) | (refine L_op (s_e hS (e_pick_f rfl rfl) rfl ?_); clear hS a; intro a hS)
      exact hcM23 _ _ (hS.ends 7 23 17 rfl (congrArg Value.bool (by rw [Bool.not_eq_false'] at hg17; rw [hg17, Bool.true_and])) rfl rfl (by first | exact congrArg Value.bool (decide_eq_false hg17).symm | exact congrArg Value.bool hg17.symm | simp [hg17]) rfl)
  · clear hS a; (try clear w); intro a w hS
    simp only [List.drop_succ_cons, List.drop_zero]
    refine L_op (s_e hS (e_move rfl) rfl ?_); clear hS a; intro a hS
    refine L_merge 5 29 (.bool (!((someB a1 10 (fun c => decide (65 ≤ c ∧ c ≤ 90)) && pathB b1) && decide (v1 = sVer)))) hS ?_ ?_
    · intro hcM29
      (first | refine g_splitD (t := 24) hS rfl ?_ ?_ | refine g_split (t := 24) hS rfl ?_ ?_) <;> (clear hS; intro hg24 hS)
      ·
        refine L_skip_f hS rfl rfl rfl ?_; clear hS a; intro a hS
        refine L_skip_f hS rfl rfl rfl ?_; clear hS a; intro a hS
        refine L_skip_f hS rfl rfl rfl ?_; clear hS a; intro a hS
        refine L_skip_f hS rfl rfl rfl ?_; clear hS a; intro a hS
        first | (refine L_op (s_e hS (e_pick_t rfl rfl) rfl ?_); clear hS a; intro a hS) | (refine L_op (s_e hS (e_pick_f rfl rfl) rfl ?_); clear hS a; intro a hS)
        exact hcM29 _ _ (hS.ends 6 29 24 rfl (congrArg Value.bool (by rw [Bool.not_eq_true'] at hg24; rw [hg24]; rfl)) rfl rfl (by first | exact congrArg Value.bool (decide_eq_true hg24).symm | exact congrArg Value.bool hg24.symm | simp [hg24]) rfl)
      ·
        refine L_go hS rfl rfl (s_e hS (e_move rfl) rfl ?_); clear hS a; intro a hS
        refine L_go hS rfl rfl (s_e hS (e_ix rfl rfl ty_sl45 ty_sz9 (by omega)) rfl ?_); clear hS a; intro a hS
        refine L_go hS rfl rfl (s_e hS (e_load rfl (by repeat constructor) ty_sc9 (by rfl)) rfl ?_); clear hS a; intro a hS
        refine L_go hS rfl rfl (s_e hS (e_binS rfl rfl rfl) rfl ?_); clear hS a; intro a hS
        first | (refine L_op (s_e hS (e_pick_t rfl rfl) rfl ?_); clear hS a; intro a hS) | (refine L_op (s_e hS (e_pick_f rfl rfl) rfl ?_); clear hS a; intro a hS)
        exact hcM29 _ _ (hS.ends 6 29 24 rfl (congrArg Value.bool (by rw [Bool.not_eq_false'] at hg24; rw [hg24, Bool.true_and]; exact decide_not)) rfl rfl (by first | exact congrArg Value.bool (decide_eq_false hg24).symm | exact congrArg Value.bool hg24.symm | simp [hg24]) rfl)
    · clear hS a; (try clear w); intro a w hS
      simp only [List.drop_succ_cons, List.drop_zero]
      refine L_nil ?_
      refine n_then ?_
      first | refine c_ifD hS rfl (fun hc29 => ?_) (fun hc29 => ?_) | refine c_if hS rfl (fun hc29 => ?_) (fun hc29 => ?_)
      ·
        have hno : ¬ (someB a1 10 (fun c => decide (65 ≤ c ∧ c ≤ 90)) = true ∧ pathB b1 = true ∧ v1 = sVer) := fun hh => by
          rw [hh.1, hh.2.1, decide_eq_true hh.2.2] at hc29; cases hc29
        refine c_seq ?_
        refine c_region ?_
        refine L_op (s_e hS (e_build ty_z35 ty_pl35 .nil) rfl ?_); clear hS a; intro a hS
        refine L_op (s_storeA hS rfl rfl ty_sz35 (by repeat constructor) (by rfl) (by rfl) (by rfl) ?_); clear hS; (try clear w); intro w hS
        refine L_op (s_e hS (e_assign rfl) rfl ?_); clear hS a; intro a hS
        refine L_nil ?_
        refine n_then ?_
        refine wp_ret ?_
        refine r_then ?_
        refine c_retN hS Tryz.results53 (.cons (.cellA rfl (by repeat constructor) ty_st35 ty_sz35 (by rfl)) (.cons (.tmp rfl) .nil)) rfl ?_
        exact ⟨by unfold reqV headF; rw [hw]; simp only; rw [if_neg hno], hS.chg⟩
      ·
        have hyes : someB a1 10 (fun c => decide (65 ≤ c ∧ c ≤ 90)) = true ∧ pathB b1 = true ∧ v1 = sVer := by
          rw [Bool.not_eq_false', Bool.and_eq_true, Bool.and_eq_true, decide_eq_true_eq] at hc29
          exact ⟨hc29.1.1, hc29.1.2, hc29.2⟩
        refine wp_skip ?_
        refine n_then ?_
        refine c_seq ?_
        refine c_seq ?_
        refine c_region ?_
        refine L_op (s_e hS (e_move rfl) rfl ?_); clear hS a; intro a hS
        refine L_op (s_e hS (e_ix rfl rfl ty_sl45 ty_sz9 (by omega)) rfl ?_); clear hS a; intro a hS
        refine L_op (s_e hS (e_load rfl (by repeat constructor) ty_sc9 (by rfl)) rfl ?_); clear hS a; intro a hS
        refine L_op (s_e hS (e_binS rfl rfl rfl) rfl ?_); clear hS a; intro a hS
        refine L_op (s_e hS (e_move rfl) rfl ?_); clear hS a; intro a hS
        refine L_merge 5 40 (.bool (decide (¬ (a1 = sGet ∨ a1 = sPost)))) hS ?_ ?_
        · intro hcM40
          (first | refine g_splitD (t := 35) hS rfl ?_ ?_ | refine g_split (t := 35) hS rfl ?_ ?_) <;> (clear hS; intro hg35 hS)
          ·
            refine L_go hS rfl rfl (s_e hS (e_move rfl) rfl ?_); clear hS a; intro a hS
            refine L_go hS rfl rfl (s_e hS (e_ix rfl rfl ty_sl45 ty_sz9 (by omega)) rfl ?_); clear hS a; intro a hS
            refine L_go hS rfl rfl (s_e hS (e_load rfl (by repeat constructor) ty_sc9 (by rfl)) rfl ?_); clear hS a; intro a hS
            refine L_go hS rfl rfl (s_e hS (e_binS rfl rfl rfl) rfl ?_); clear hS a; intro a hS
            first | (refine L_op (s_e hS (e_pick_t rfl rfl) rfl ?_); clear hS a; intro a hS) | (refine L_op (s_e hS (e_pick_f rfl rfl) rfl ?_); clear hS a; intro a hS)
            exact hcM40 _ _ (hS.ends 6 40 35 rfl (congrArg Value.bool (by exact decide_eq_decide.2 ⟨fun h1 h2 => h2.elim hg35 h1, fun h1 h2 => h1 (.inr h2)⟩)) rfl rfl (by first | exact congrArg Value.bool (decide_eq_true hg35).symm | exact congrArg Value.bool hg35.symm | simp [hg35]) rfl)
          ·
            refine L_skip_t hS rfl rfl rfl ?_; clear hS a; intro a hS
            refine L_skip_t hS rfl rfl rfl ?_; clear hS a; intro a hS
            refine L_skip_t hS rfl rfl rfl ?_; clear hS a; intro a hS
            refine L_skip_t hS rfl rfl rfl ?_; clear hS a; intro a hS
            first | (refine L_op (s_e hS (e_pick_t rfl rfl) rfl ?_); clear hS a; intro a hS) | (refine L_op (s_e hS (e_pick_f rfl rfl) rfl ?_); clear hS a; intro a hS)
            exact hcM40 _ _ (hS.ends 6 40 35 rfl (congrArg Value.bool (by exact (decide_eq_false (fun h1 => h1 (.inl (Classical.not_not.1 hg35)))).symm)) rfl rfl (by first | exact congrArg Value.bool (decide_eq_false hg35).symm | exact congrArg Value.bool hg35.symm | simp [hg35]) rfl)
        · clear hS a; (try clear w); intro a w hS
          simp only [List.drop_succ_cons, List.drop_zero]
          refine L_nil ?_
          refine n_then ?_
          first | refine c_ifD hS rfl (fun hc40 => ?_) (fun hc40 => ?_) | refine c_if hS rfl (fun hc40 => ?_) (fun hc40 => ?_)
          ·
            refine c_seq ?_
            refine c_region ?_
            refine L_op (s_e hS (e_build ty_z35 ty_pl35 .nil) rfl ?_); clear hS a; intro a hS
            refine L_op (s_storeA hS rfl rfl ty_sz35 (by repeat constructor) (by rfl) (by rfl) (by rfl) ?_); clear hS; (try clear w); intro w hS
            refine L_op (s_e hS (e_assign rfl) rfl ?_); clear hS a; intro a hS
            refine L_nil ?_
            refine n_then ?_
            refine wp_ret ?_
            refine r_then ?_
            refine c_retN hS Tryz.results53 (.cons (.cellA rfl (by repeat constructor) ty_st35 ty_sz35 (by rfl)) (.cons (.tmp rfl) .nil)) rfl ?_
            exact ⟨by unfold reqV headF; rw [hw]; simp only; rw [if_pos hyes, if_neg hc40], hS.chg⟩
          ·
            refine wp_skip ?_
            refine n_then ?_
            refine c_seq ?_
            refine c_draw1 [7] (by kernel_rfl) hS ?_; clear hS; (try clear w); intro w hS
            simp only [List.length_cons, List.length_nil, Nat.zero_add, Nat.reduceAdd, List.replicate]
            refine Z_take0 (i := 0) hS rfl want_none (e_move rfl) (listed' := [true, false, false, false, false, false, false, false, false]) rfl (by kernel_rfl) (by kernel_rfl) (by kernel_rfl) (fun _ _ _ h => h) rfl ?_; clear hS a; intro a hS
            refine Z_take0 (i := 1) hS rfl want_none (e_ix rfl rfl ty_sl45 ty_sz9 (by omega)) (listed' := [true, true, false, false, false, false, false, false, false]) rfl (by kernel_rfl) (by kernel_rfl) (by kernel_rfl) (fun _ _ _ h => h) rfl ?_; clear hS a; intro a hS
            refine Z_take (i := 2) hS rfl want_none (e_load rfl (by repeat constructor) ty_sc9 (by rfl)) (listed' := [true, true, true, false, false, false, false, false, false]) rfl (by kernel_rfl) (by kernel_rfl) (by kernel_rfl) (by kernel_rfl) (by kernel_rfl) (by intro X hX; repeat (first | exact hX | apply List.Mem.tail)) (fun _ _ _ h => h) rfl ?_; clear hS a; intro a hS
            refine Z_take0 (i := 3) hS rfl want_none (e_move rfl) (listed' := [true, true, true, true, false, false, false, false, false]) rfl (by kernel_rfl) (by kernel_rfl) (by kernel_rfl) (fun _ _ _ h => h) rfl ?_; clear hS a; intro a hS
            refine Z_take0 (i := 4) hS rfl want_none (e_ix rfl rfl ty_sl45 ty_sz9 (by omega)) (listed' := [true, true, true, true, true, false, false, false, false]) rfl (by kernel_rfl) (by kernel_rfl) (by kernel_rfl) (fun _ _ _ h => h) rfl ?_; clear hS a; intro a hS
            refine Z_take (i := 5) hS rfl want_none (e_load rfl (by repeat constructor) ty_sc9 (by rfl)) (listed' := [true, true, true, true, true, true, false, false, false]) rfl (by kernel_rfl) (by kernel_rfl) (by kernel_rfl) (by kernel_rfl) (by kernel_rfl) (by intro X hX; repeat (first | exact hX | apply List.Mem.tail)) (fun _ _ _ h => h) rfl ?_; clear hS a; intro a hS
            refine Z_take0 (i := 6) hS rfl want_none (e_build ty_z35 ty_pl35 (.one rfl rfl rfl (by repeat constructor) (.one rfl rfl rfl (by repeat constructor) .nil))) (listed' := [true, true, true, true, true, true, true, false, false]) rfl (by kernel_rfl) (by kernel_rfl) (by kernel_rfl) (fun _ _ _ h => h) rfl ?_; clear hS a; intro a hS
            refine Z_one (i := 7) rfl (want_none a hS.sl) (listed' := [true, true, true, true, true, true, true, true, false]) rfl (by kernel_rfl) (s_storeA hS rfl rfl ty_sz35 (by repeat constructor) (by rfl) (by rfl) (by rfl) ?_); clear hS; (try clear w); intro w hS
            refine Z_last (by simp) ?_
            refine Z_take0 (i := 8) hS rfl want_none (e_assign rfl) (listed' := [true, true, true, true, true, true, true, true, true]) rfl (by kernel_rfl) (by kernel_rfl) (by kernel_rfl) (fun _ _ _ h => h) rfl ?_; clear hS a; intro a hS
            refine Z_done (by kernel_rfl) ?_
            refine n_then ?_
            refine wp_ret ?_
            refine c_retN hS Tryz.results53 (.cons (.cellA rfl (by repeat constructor) ty_st35 ty_sz35 (by rfl)) (.cons (.tmp rfl) .nil)) rfl ?_
            exact ⟨by unfold reqV headF; rw [hw]; simp only; rw [if_pos hyes, if_pos (Classical.not_not.1 hc40)], hS.chg⟩
theorem First_P (W0 : World) (hG : Gl W0) (s : ByteArray) (hs : s.size ≤ 1000000) (w0 : World) (h : oldφ W0 w0) : PureC Tryz.prog 53 [.string s] w0 (.tuple [reqV s, .int .i64 (headF s).1].toArray) := by
  by_cases hw : (wordsB 32 s).length = 3
  · obtain ⟨a1, b1, v1, e⟩ := words3 hw
    exact first_three W0 hG s a1 b1 v1 hs e w0 h
  · exact first_none W0 hG s hs hw w0 h
end Go.Proofs.YtjmkjkhcognoeaaGreatDoor

namespace Go.Proofs.YtjmkjkhcognoeaaGreatDoor
open Go.RowKit

def sCL : ByteArray := ⟨#[99, 111, 110, 116, 101, 110, 116, 45, 108, 101, 110, 103, 116, 104]⟩
def sCN : ByteArray := ⟨#[99, 111, 110, 110, 101, 99, 116, 105, 111, 110]⟩
def sClose : ByteArray := ⟨#[99, 108, 111, 115, 101]⟩
def sKeep : ByteArray := ⟨#[107, 101, 101, 112, 45, 97, 108, 105, 118, 101]⟩
/-- counts of names. -/
abbrev Cnt := List (ByteArray × Int)
def entV (es : Cnt) : List (ByteArray × Value) := es.map fun e => (e.1, .int .i64 e.2)
def getI (es : Cnt) (k : ByteArray) : Int := match es.find? (fun e => decide (e.1 = k)) with
  | some e => e.2
  | none => 0
def setI : Cnt → ByteArray → Int → Cnt
  | [], k, v => [(k, v)]
  | e :: r, k, v => if e.1 = k then (k, v) :: r else e :: setI r k v
theorem lk_ent (es : Cnt) (k : ByteArray) : lkM (entV es) k (.int .i64 0) = .int .i64 (getI es k) := by
  have key : ∀ (es : Cnt) (m : Nat), (match idxM (entV es) k m with | some (_, v) => v | none => Value.int .i64 0) = .int .i64 (getI es k) := by
    intro es
    induction es with
    | nil => intro m; rfl
    | cons e r ih =>
      intro m
      unfold entV getI
      rw [List.map_cons]
      by_cases h : e.1 = k
      · rw [List.find?_cons_of_pos (by simpa using h)]
        unfold idxM; rw [if_pos h]
      · rw [List.find?_cons_of_neg (by simpa using h)]
        unfold idxM; rw [if_neg h]
        exact ih (m + 1)
  exact key es 0
theorem set_ent (es : Cnt) (k : ByteArray) (v : Int) : setM (entV es) k (.int .i64 v) = entV (setI es k v) := by
  induction es with
  | nil => rfl
  | cons e r ih =>
    show setM ((e.1, _) :: entV r) k _ = entV (setI (e :: r) k v)
    unfold setM setI
    split
    · rfl
    · rw [ih]; rfl
theorem get_set (es : Cnt) (k : ByteArray) (v : Int) (k2 : ByteArray) : getI (setI es k v) k2 = if k = k2 then v else getI es k2 := by
  induction es with
  | nil =>
    unfold setI getI
    by_cases h : k = k2
    · rw [List.find?_cons_of_pos (by simpa using h), if_pos h]
    · rw [List.find?_cons_of_neg (by simpa using h), if_neg h]
  | cons e r ih =>
    unfold setI
    by_cases h1 : e.1 = k
    · rw [if_pos h1]
      unfold getI
      by_cases h : k = k2
      · rw [List.find?_cons_of_pos (by simpa using h), if_pos h]
      · rw [List.find?_cons_of_neg (by simpa using h), List.find?_cons_of_neg (by simpa [h1] using h), if_neg h]
    · rw [if_neg h1]
      unfold getI at ih ⊢
      by_cases h2 : e.1 = k2
      · rw [List.find?_cons_of_pos (by simpa using h2), List.find?_cons_of_pos (by simpa using h2), if_neg (fun e' => h1 (h2.trans e'.symm))]
      · rw [List.find?_cons_of_neg (by simpa using h2), List.find?_cons_of_neg (by simpa using h2)]
        exact ih
/-- a reader. -/
structure RD where
  m : ByteArray
  p : ByteArray
  cl : Bool
  n : Nat
  bl : Int
  over : Bool
  es : Cnt
def rdL (mp : Nat) (D : RD) : List Value := rdC D.m D.p (.slice none 0 0) D.cl (D.n : Int) D.bl mp D.over
def rdX (b mp : Nat) (D : RD) : Asn := duo (.blk b (rdL mp D) 96) (smapA mp (entV D.es))
def lowS (l : List UInt8) : ByteArray := tx (Lib.toLowerD l)
def hName (s : ByteArray) : ByteArray := tx (Lib.toLowerD (Lib.cut s.data.toList [58]).1)
def hVal (s : ByteArray) : ByteArray := tx (Lib.trimS (Lib.cut s.data.toList [58]).2.1 [32, 9])
/-- a line more. -/
def stepP (D : RD) (s : ByteArray) : RD × Int :=
  if D.n = 0 then ({ D with m := (headF s).2.1, p := (headF s).2.2, cl := false, n := 1 }, (headF s).1)
  else if s = ⟨#[]⟩ then ({ D with n := D.n + 1, over := true }, 0)
  else if hdrB s.data.toList = false then ({ D with n := D.n + 1 }, 10)
  else if 20 < D.n then ({ D with n := D.n + 1 }, 9)
  else if hName s ≠ sCL ∧ hName s ≠ sCN then ({ D with n := D.n + 1, es := setI D.es (hName s) (getI D.es (hName s) + 1) }, 0)
  else if 1 < getI D.es (hName s) + 1 then ({ D with n := D.n + 1, es := setI D.es (hName s) (getI D.es (hName s) + 1) }, 12)
  else if hName s = sCL then ({ D with n := D.n + 1, es := setI D.es (hName s) (getI D.es (hName s) + 1), bl := (lenF (hVal s).data.toList).1 }, (lenF (hVal s).data.toList).2)
  else ({ D with n := D.n + 1, es := setI D.es (hName s) (getI D.es (hName s) + 1), cl := decide (lowS (hVal s).data.toList = sClose) },
    if (lowS (hVal s).data.toList).size ≠ (hVal s).size ∨ (lowS (hVal s).data.toList ≠ sClose ∧ lowS (hVal s).data.toList ≠ sKeep) then 10 else 0)
theorem rd_back {b mp : Nat} {D : RD} {cs : List Value} {l : List (ByteArray × Value)} {n : NN} {F0 : Nat → Prop} {w0 w : World} {a : Act} {L : List (Nat × Value)} {Γ : List Asn} (hS : St n F0 w0 a w L Γ) (hp : Pick Γ [.blk b cs 96, smapA mp l]) (hc : cs = rdL mp D) (hl : l = entV D.es) : (rdX b mp D).ok w := by
  subst hc; subst hl
  have h2 := hS.pick hp
  exact duo_ok (h2.ok _ (.head _)) (h2.ok _ (.tail _ (.head _))) (h2.sep .head (.head _))
theorem trim_le (l cs : List UInt8) : (Lib.trimS l cs).length ≤ l.length := by
  unfold Lib.trimS Lib.trimLeftS Lib.trimRightS
  have h1 := (List.dropWhile_sublist (p := fun x => cs.contains x) (l := ((l.reverse.dropWhile (cs.contains ·)).reverse))).length_le
  have h2 := (List.dropWhile_sublist (p := fun x => cs.contains x) (l := l.reverse)).length_le
  simp only [List.length_reverse] at h1 h2
  exact Nat.le_trans h1 h2
theorem hVal_le (s : ByteArray) : (hVal s).size ≤ s.size := by
  have h1 := trim_le (Lib.cut s.data.toList [58]).2.1 [32, 9]
  have h2 := (cut_len s.data.toList).2
  have h3 := size_list s
  unfold hVal; rw [tx_size]; omega
set_option maxHeartbeats 2000000 in
set_option maxRecDepth 100000 in
theorem RLine_M (W0 : World) (hG : Gl W0) (b mp : Nat) (D : RD) (s : ByteArray) (hs : s.size ≤ 1000000) (hn : D.n ≤ 1000000) (hc : ∀ k, 0 ≤ getI D.es k ∧ getI D.es k ≤ 1000000) (w0 : World) (h : (rdX b mp D).ok w0) (ho : oldφ W0 w0) (hb : W0.heap.size ≤ b ∧ W0.heap.size ≤ mp) :
    MutC Tryz.prog 39 [.pointer (some ⟨b, 0, none⟩), .string s] w0 (rdX b mp D) (fun _ : Unit => .int .i64 (stepP D s).2) (fun _ => rdX b mp (stepP D s).1) := by
  obtain ⟨h1, h2, h3⟩ := h.now
  have hlv := hVal_le s
  have hlow := low_le (hVal s).data.toList
  have hlz := size_list (hVal s)
  have hls := tx_size (Lib.toLowerD (hVal s).data.toList)
  have hgc := hc (tx (Lib.toLowerD (Lib.cut s.data.toList [58]).1))
  refine c_enter [(0, .pointer (some ⟨b, 0, none⟩)), (1, .string s)] [.blk b (rdL mp D) 96, smapA mp (entV D.es), oldA W0] (fun k => k = b ∨ k = mp) Tryz.func39 rfl Tryz.ntmps39 ⟨rfl, rfl, trivial⟩ rfl (okC h1 (okC h2 (okC (old_ok ho) okN))) (disC (sepC h3 (sepC (fun k hk hk2 => by have e : k = b := hk; have e2 : k < W0.heap.size := hk2; omega) sepN)) (disC (sepC (fun k hk hk2 => by have e : k = mp := hk; have e2 : k < W0.heap.size := hk2; omega) sepN) dis1)) (mineO (fun k hk => .inl hk) (mineO (fun k hk => .inr hk) (mineC rfl mineN))) ?_
  intro a hS
  refine c_seq ?_
  refine c_region ?_
  refine L_op (s_e hS (e_assign rfl) rfl ?_); clear hS a; intro a hS
  refine L_nil ?_
  refine n_then ?_
  refine c_seq ?_
  refine c_region ?_
  unfold rdL rdC at hS
  refine L_op (s_e hS (e_move rfl) rfl ?_); clear hS a; intro a hS
  refine L_op (s_e hS (e_nilCheck rfl) rfl ?_); clear hS a; intro a hS
  first | (refine L_op (s_e hS (e_fa0 rfl ty_fo96_1) rfl ?_); clear hS a; intro a hS) | (refine L_op (s_e hS (e_faK rfl ty_fo96_1) rfl ?_); clear hS a; intro a hS)
  refine L_op (s_e hS (e_load rfl (by repeat constructor) ty_sc3 (by rfl)) rfl ?_); clear hS a; intro a hS
  first | (refine L_op (s_e hS (e_binN rfl rfl rfl (by omega)) rfl ?_); clear hS a; intro a hS) | (refine L_op (s_e hS (e_bin rfl rfl rfl) rfl ?_); clear hS a; intro a hS)
  refine L_op (s_e hS (e_nilCheck rfl) rfl ?_); clear hS a; intro a hS
  first | (refine L_op (s_e hS (e_fa0 rfl ty_fo96_1) rfl ?_); clear hS a; intro a hS) | (refine L_op (s_e hS (e_faK rfl ty_fo96_1) rfl ?_); clear hS a; intro a hS)
  refine L_op (s_store hS rfl rfl rfl ty_sz3 (by repeat constructor) (by repeat constructor) ?_); clear hS; (try clear w); intro w hS
  refine L_nil ?_
  refine n_then ?_
  refine c_seq ?_
  refine c_seq ?_
  refine c_region ?_
  refine L_op (s_e hS (e_move rfl) rfl ?_); clear hS a; intro a hS
  refine L_op (s_e hS (e_nilCheck rfl) rfl ?_); clear hS a; intro a hS
  first | (refine L_op (s_e hS (e_fa0 rfl ty_fo96_1) rfl ?_); clear hS a; intro a hS) | (refine L_op (s_e hS (e_faK rfl ty_fo96_1) rfl ?_); clear hS a; intro a hS)
  refine L_op (s_e hS (e_load rfl (by repeat constructor) ty_sc3 (by rfl)) rfl ?_); clear hS a; intro a hS
  refine L_op (s_e hS (e_bin rfl rfl rfl) rfl ?_); clear hS a; intro a hS
  refine L_nil ?_
  refine n_then ?_
  first | refine c_ifD hS rfl (fun hc24 => ?_) (fun hc24 => ?_) | refine c_if hS rfl (fun hc24 => ?_) (fun hc24 => ?_)
  ·
    have hn0 : D.n = 0 := by omega
    have e : stepP D s = ({ D with m := (headF s).2.1, p := (headF s).2.2, cl := false, n := 1 }, (headF s).1) := by unfold stepP; rw [if_pos hn0]
    refine c_seq ?_
    refine c_region ?_
    refine L_op (s_e hS (e_move rfl) rfl ?_); clear hS a; intro a hS
    refine L_op (s_callP hS (.cons rfl .nil) cf53 rfl (First_P W0 hG s hs _ (hS.get (X := oldA W0) (by repeat constructor))) ?_); clear hS a; (try clear w); intro a w hS
    unfold reqV at hS
    refine L_op (s_e hS (e_move rfl) rfl ?_); clear hS a; intro a hS
    refine L_op (s_e hS (e_extract rfl rfl) rfl ?_); clear hS a; intro a hS
    refine L_op (s_e hS (e_extract rfl rfl) rfl ?_); clear hS a; intro a hS
    refine L_op (s_alloc hS ty_z35 rfl ?_); clear hS a; (try clear w); intro a w b5 hS
    refine L_op (s_storeA hS rfl rfl ty_sz35 (by repeat constructor) (by rfl) (by rfl) (by rfl) ?_); clear hS; (try clear w); intro w hS
    refine L_op (s_e hS (e_assign rfl) rfl ?_); clear hS a; intro a hS
    refine L_nil ?_
    refine n_then ?_
    refine c_seq ?_
    refine c_region ?_
    refine L_op (s_e hS (e_move rfl) rfl ?_); clear hS a; intro a hS
    refine L_op (s_e hS (e_loadA rfl (by repeat constructor) ty_st35 ty_sz35 (by rfl)) rfl ?_); clear hS a; intro a hS
    refine L_op (s_e hS (e_nilCheck rfl) rfl ?_); clear hS a; intro a hS
    first | (refine L_op (s_e hS (e_fa0 rfl ty_fo96_0) rfl ?_); clear hS a; intro a hS) | (refine L_op (s_e hS (e_faK rfl ty_fo96_0) rfl ?_); clear hS a; intro a hS)
    refine L_op (s_storeB hS rfl rfl ty_sz35 (cs' := [.string (headF s).2.1, .string (headF s).2.2, .slice none 0 0, .bool false, .int .i64 ((D.n : Int) + 1), .int .i64 D.bl, .map (some mp), .bool D.over]) (by repeat constructor) rfl (.cons .z (.cons (.s .z) (.cons (.s (.s .z)) (.cons (.s (.s (.s .z))) .nil)))) rfl ?_); clear hS; (try clear w); intro w hS
    refine L_nil ?_
    refine n_then ?_
    refine c_seq ?_
    refine c_region ?_
    refine L_op (s_e hS (e_move rfl) rfl ?_); clear hS a; intro a hS
    refine L_op (s_e hS (e_assign rfl) rfl ?_); clear hS a; intro a hS
    refine L_nil ?_
    refine n_then ?_
    refine wp_ret ?_
    refine r_then ?_
    refine c_ret1 hS Tryz.results39 (.tmp rfl) ?_
    rw [e]; exact ⟨(), rfl, hS.chg, rd_back (l := entV D.es) (D := { D with m := (headF s).2.1, p := (headF s).2.2, cl := false, n := 1 }) hS (by repeat (first | exact Pick.nil | (refine Pick.cons (by repeat (first | exact Rem.head | apply Rem.tail)) ?_))) (by unfold rdL rdC; rw [hn0]; rfl) rfl, fun _ hb => .inl hb⟩
  ·
    have hn0 : D.n ≠ 0 := by omega
    refine wp_skip ?_
    refine n_then ?_
    refine c_seq ?_
    refine c_seq ?_
    refine c_region ?_
    refine L_op (s_e hS (e_move rfl) rfl ?_); clear hS a; intro a hS
    refine L_op (s_e hS (e_binS rfl rfl rfl) rfl ?_); clear hS a; intro a hS
    refine L_nil ?_
    refine n_then ?_
    first | refine c_ifD hS rfl (fun hc36 => ?_) (fun hc36 => ?_) | refine c_if hS rfl (fun hc36 => ?_) (fun hc36 => ?_)
    ·
      refine c_seq ?_
      refine c_region ?_
      refine L_op (s_e hS (e_move rfl) rfl ?_); clear hS a; intro a hS
      refine L_op (s_e hS (e_nilCheck rfl) rfl ?_); clear hS a; intro a hS
      first | (refine L_op (s_e hS (e_fa0 rfl ty_fo96_4) rfl ?_); clear hS a; intro a hS) | (refine L_op (s_e hS (e_faK rfl ty_fo96_4) rfl ?_); clear hS a; intro a hS)
      refine L_op (s_store hS rfl rfl rfl ty_sz4 (by repeat constructor) (by repeat constructor) ?_); clear hS; (try clear w); intro w hS
      refine L_nil ?_
      refine n_then ?_
      refine c_seq ?_
      refine c_region ?_
      refine L_op (s_e hS (e_assign rfl) rfl ?_); clear hS a; intro a hS
      refine L_nil ?_
      refine n_then ?_
      refine wp_ret ?_
      refine r_then ?_
      refine c_ret1 hS Tryz.results39 (.tmp rfl) ?_
      have e : stepP D s = ({ D with n := D.n + 1, over := true }, 0) := by unfold stepP; rw [if_neg hn0, if_pos hc36]
      rw [e]; exact ⟨(), rfl, hS.chg, rd_back (l := entV D.es) (D := { D with n := D.n + 1, over := true }) hS (by repeat (first | exact Pick.nil | (refine Pick.cons (by repeat (first | exact Rem.head | apply Rem.tail)) ?_))) rfl rfl, fun _ hb => .inl hb⟩
    ·
      refine wp_skip ?_
      refine n_then ?_
      refine c_seq ?_
      refine c_region ?_
      refine L_op (s_e hS (e_move rfl) rfl ?_); clear hS a; intro a hS
      refine L_op (s_callP hS (.cons rfl .nil) cf54 rfl (Header_P W0 hG s hs _ (hS.get (X := oldA W0) (by repeat constructor))) ?_); clear hS a; (try clear w); intro a w hS
      refine L_op (s_e hS (e_move rfl) rfl ?_); clear hS a; intro a hS
      refine L_op (s_e hS (e_extract rfl rfl) rfl ?_); clear hS a; intro a hS
      refine L_op (s_e hS (e_extract rfl rfl) rfl ?_); clear hS a; intro a hS
      refine L_op (s_e hS (e_extract rfl rfl) rfl ?_); clear hS a; intro a hS
      refine L_op (s_e hS (e_assign rfl) rfl ?_); clear hS a; intro a hS
      refine L_op (s_e hS (e_assign rfl) rfl ?_); clear hS a; intro a hS
      refine L_op (s_e hS (e_assign rfl) rfl ?_); clear hS a; intro a hS
      refine L_nil ?_
      refine n_then ?_
      refine c_seq ?_
      refine c_seq ?_
      refine c_region ?_
      refine L_op (s_e hS (e_move rfl) rfl ?_); clear hS a; intro a hS
      refine L_op (s_e hS (e_not rfl) rfl ?_); clear hS a; intro a hS
      refine L_nil ?_
      refine n_then ?_
      first | refine c_ifD hS rfl (fun hc47 => ?_) (fun hc47 => ?_) | refine c_if hS rfl (fun hc47 => ?_) (fun hc47 => ?_)
      ·
        refine c_seq ?_
        refine c_region ?_
        refine L_op (s_e hS (e_assign rfl) rfl ?_); clear hS a; intro a hS
        refine L_nil ?_
        refine n_then ?_
        refine wp_ret ?_
        refine r_then ?_
        refine c_ret1 hS Tryz.results39 (.tmp rfl) ?_
        have e : stepP D s = ({ D with n := D.n + 1 }, 10) := by unfold stepP; rw [if_neg hn0, if_neg hc36, if_pos (by simpa using hc47)]
        rw [e]; exact ⟨(), rfl, hS.chg, rd_back (l := entV D.es) (D := { D with n := D.n + 1 }) hS (by repeat (first | exact Pick.nil | (refine Pick.cons (by repeat (first | exact Rem.head | apply Rem.tail)) ?_))) rfl rfl, fun _ hb => .inl hb⟩
      ·
        have hok : ¬ hdrB s.data.toList = false := by simpa using hc47
        refine wp_skip ?_
        refine n_then ?_
        refine c_seq ?_
        refine c_seq ?_
        refine c_region ?_
        refine L_op (s_e hS (e_move rfl) rfl ?_); clear hS a; intro a hS
        refine L_op (s_e hS (e_nilCheck rfl) rfl ?_); clear hS a; intro a hS
        first | (refine L_op (s_e hS (e_fa0 rfl ty_fo96_1) rfl ?_); clear hS a; intro a hS) | (refine L_op (s_e hS (e_faK rfl ty_fo96_1) rfl ?_); clear hS a; intro a hS)
        refine L_op (s_e hS (e_load rfl (by repeat constructor) ty_sc3 (by rfl)) rfl ?_); clear hS a; intro a hS
        first | (refine L_op (s_e hS (e_binN rfl rfl rfl (by omega)) rfl ?_); clear hS a; intro a hS) | (refine L_op (s_e hS (e_bin rfl rfl rfl) rfl ?_); clear hS a; intro a hS)
        refine L_op (s_e hS (e_bin rfl rfl rfl) rfl ?_); clear hS a; intro a hS
        refine L_nil ?_
        refine n_then ?_
        first | refine c_ifD hS rfl (fun hc53 => ?_) (fun hc53 => ?_) | refine c_if hS rfl (fun hc53 => ?_) (fun hc53 => ?_)
        ·
          refine c_seq ?_
          refine c_region ?_
          refine L_op (s_e hS (e_assign rfl) rfl ?_); clear hS a; intro a hS
          refine L_nil ?_
          refine n_then ?_
          refine wp_ret ?_
          refine r_then ?_
          refine c_ret1 hS Tryz.results39 (.tmp rfl) ?_
          have e : stepP D s = ({ D with n := D.n + 1 }, 9) := by unfold stepP; rw [if_neg hn0, if_neg hc36, if_neg hok, if_pos (by omega)]
          rw [e]; exact ⟨(), rfl, hS.chg, rd_back (l := entV D.es) (D := { D with n := D.n + 1 }) hS (by repeat (first | exact Pick.nil | (refine Pick.cons (by repeat (first | exact Rem.head | apply Rem.tail)) ?_))) rfl rfl, fun _ hb => .inl hb⟩
        ·
          have hfew : ¬ 20 < D.n := by omega
          refine wp_skip ?_
          refine n_then ?_
          refine c_seq ?_
          refine c_region ?_
          refine L_op (s_e hS (e_move rfl) rfl ?_); clear hS a; intro a hS
          refine L_op (s_e hS (e_nilCheck rfl) rfl ?_); clear hS a; intro a hS
          first | (refine L_op (s_e hS (e_fa0 rfl ty_fo96_3) rfl ?_); clear hS a; intro a hS) | (refine L_op (s_e hS (e_faK rfl ty_fo96_3) rfl ?_); clear hS a; intro a hS)
          refine L_op (s_e hS (e_load rfl (by repeat constructor) ty_sc94 (by rfl)) rfl ?_); clear hS a; intro a hS
          refine L_op (s_e hS (e_move rfl) rfl ?_); clear hS a; intro a hS
          refine L_op (s_e hS (e_lookupS rfl rfl ty_mp94 ty_u9 ty_zv3 (by repeat constructor)) rfl ?_); clear hS a; intro a hS
          rw [lk_ent] at hS
          first | (refine L_op (s_e hS (e_binN rfl rfl rfl (by omega)) rfl ?_); clear hS a; intro a hS) | (refine L_op (s_e hS (e_bin rfl rfl rfl) rfl ?_); clear hS a; intro a hS)
          refine L_op (s_mapUp hS rfl rfl rfl ty_mp94 ty_u9 (by repeat constructor) ?_); clear hS; (try clear w); intro w hS
          refine L_nil ?_
          refine n_then ?_
          refine c_seq ?_
          refine c_seq ?_
          refine c_region ?_
          rw [set_ent] at hS
          refine L_op (s_e hS (e_move rfl) rfl ?_); clear hS a; intro a hS
          refine L_op (s_e hS (e_binS rfl rfl rfl) rfl ?_); clear hS a; intro a hS
          refine L_op (s_e hS (e_move rfl) rfl ?_); clear hS a; intro a hS
          refine L_merge 3 66 (.bool (decide (hName s ≠ sCL ∧ hName s ≠ sCN))) hS ?_ ?_
          · intro hcM66
            (first | refine g_splitD (t := 63) hS rfl ?_ ?_ | refine g_split (t := 63) hS rfl ?_ ?_) <;> (clear hS; intro hg63 hS)
            ·
              refine L_go hS rfl rfl (s_e hS (e_move rfl) rfl ?_); clear hS a; intro a hS
              refine L_go hS rfl rfl (s_e hS (e_binS rfl rfl rfl) rfl ?_); clear hS a; intro a hS
              first | (refine L_op (s_e hS (e_pick_t rfl rfl) rfl ?_); clear hS a; intro a hS) | (refine L_op (s_e hS (e_pick_f rfl rfl) rfl ?_); clear hS a; intro a hS)
              exact hcM66 _ _ (hS.ends 4 66 63 rfl (congrArg Value.bool (by exact decide_eq_decide.2 ⟨fun h => ⟨hg63, h⟩, fun h => h.2⟩)) rfl rfl (by first | exact congrArg Value.bool (decide_eq_true hg63).symm | exact congrArg Value.bool hg63.symm | simp [hg63]) rfl)
            ·
              refine L_skip_t hS rfl rfl rfl ?_; clear hS a; intro a hS
              refine L_skip_t hS rfl rfl rfl ?_; clear hS a; intro a hS
              first | (refine L_op (s_e hS (e_pick_t rfl rfl) rfl ?_); clear hS a; intro a hS) | (refine L_op (s_e hS (e_pick_f rfl rfl) rfl ?_); clear hS a; intro a hS)
              exact hcM66 _ _ (hS.ends 4 66 63 rfl (congrArg Value.bool (by exact (decide_eq_false (fun h => hg63 h.1)).symm)) rfl rfl (by first | exact congrArg Value.bool (decide_eq_false hg63).symm | exact congrArg Value.bool hg63.symm | simp [hg63]) rfl)
          · clear hS a; (try clear w); intro a w hS
            simp only [List.drop_succ_cons, List.drop_zero]
            refine L_nil ?_
            refine n_then ?_
            first | refine c_ifD hS rfl (fun hc66 => ?_) (fun hc66 => ?_) | refine c_if hS rfl (fun hc66 => ?_) (fun hc66 => ?_)
            ·
              refine c_seq ?_
              refine c_region ?_
              refine L_op (s_e hS (e_assign rfl) rfl ?_); clear hS a; intro a hS
              refine L_nil ?_
              refine n_then ?_
              refine wp_ret ?_
              refine r_then ?_
              refine c_ret1 hS Tryz.results39 (.tmp rfl) ?_
              have e : stepP D s = ({ D with n := D.n + 1, es := setI D.es (hName s) (getI D.es (hName s) + 1) }, 0) := by unfold stepP; rw [if_neg hn0, if_neg hc36, if_neg hok, if_neg hfew, if_pos hc66]
              rw [e]; exact ⟨(), rfl, hS.chg, rd_back (D := { D with n := D.n + 1, es := setI D.es (hName s) (getI D.es (hName s) + 1) }) hS (by repeat (first | exact Pick.nil | (refine Pick.cons (by repeat (first | exact Rem.head | apply Rem.tail)) ?_))) rfl rfl, fun _ hb => .inl hb⟩
            ·
              refine wp_skip ?_
              refine n_then ?_
              refine c_seq ?_
              refine c_seq ?_
              refine c_region ?_
              refine L_op (s_e hS (e_move rfl) rfl ?_); clear hS a; intro a hS
              refine L_op (s_e hS (e_nilCheck rfl) rfl ?_); clear hS a; intro a hS
              first | (refine L_op (s_e hS (e_fa0 rfl ty_fo96_3) rfl ?_); clear hS a; intro a hS) | (refine L_op (s_e hS (e_faK rfl ty_fo96_3) rfl ?_); clear hS a; intro a hS)
              refine L_op (s_e hS (e_load rfl (by repeat constructor) ty_sc94 (by rfl)) rfl ?_); clear hS a; intro a hS
              refine L_op (s_e hS (e_move rfl) rfl ?_); clear hS a; intro a hS
              refine L_op (s_e hS (e_lookupS rfl rfl ty_mp94 ty_u9 ty_zv3 (by repeat constructor)) rfl ?_); clear hS a; intro a hS
              rw [lk_ent, get_set, if_pos rfl] at hS
              refine L_op (s_e hS (e_bin rfl rfl rfl) rfl ?_); clear hS a; intro a hS
              refine L_nil ?_
              refine n_then ?_
              first | refine c_ifD hS rfl (fun hc73 => ?_) (fun hc73 => ?_) | refine c_if hS rfl (fun hc73 => ?_) (fun hc73 => ?_)
              ·
                refine c_seq ?_
                refine c_region ?_
                refine L_op (s_e hS (e_assign rfl) rfl ?_); clear hS a; intro a hS
                refine L_nil ?_
                refine n_then ?_
                refine wp_ret ?_
                refine r_then ?_
                refine c_ret1 hS Tryz.results39 (.tmp rfl) ?_
                have e : stepP D s = ({ D with n := D.n + 1, es := setI D.es (hName s) (getI D.es (hName s) + 1) }, 12) := by unfold stepP; rw [if_neg hn0, if_neg hc36, if_neg hok, if_neg hfew, if_neg hc66, if_pos (show 1 < getI D.es (hName s) + 1 from hc73)]
                rw [e]; exact ⟨(), rfl, hS.chg, rd_back (D := { D with n := D.n + 1, es := setI D.es (hName s) (getI D.es (hName s) + 1) }) hS (by repeat (first | exact Pick.nil | (refine Pick.cons (by repeat (first | exact Rem.head | apply Rem.tail)) ?_))) rfl rfl, fun _ hb => .inl hb⟩
              ·
                refine wp_skip ?_
                refine n_then ?_
                refine c_seq ?_
                refine c_seq ?_
                refine c_region ?_
                refine L_op (s_e hS (e_move rfl) rfl ?_); clear hS a; intro a hS
                refine L_op (s_e hS (e_binS rfl rfl rfl) rfl ?_); clear hS a; intro a hS
                refine L_nil ?_
                refine n_then ?_
                first | refine c_ifD hS rfl (fun hc75 => ?_) (fun hc75 => ?_) | refine c_if hS rfl (fun hc75 => ?_) (fun hc75 => ?_)
                ·
                  refine c_seq ?_
                  refine c_region ?_
                  refine L_op (s_e hS (e_move rfl) rfl ?_); clear hS a; intro a hS
                  refine L_op (s_callP hS (.cons rfl .nil) cf55 rfl (Length_P W0 hG (hVal s) (by omega) _ (hS.get (X := oldA W0) (by repeat constructor))) ?_); clear hS a; (try clear w); intro a w hS
                  refine L_op (s_e hS (e_move rfl) rfl ?_); clear hS a; intro a hS
                  refine L_op (s_e hS (e_extract rfl rfl) rfl ?_); clear hS a; intro a hS
                  refine L_op (s_e hS (e_extract rfl rfl) rfl ?_); clear hS a; intro a hS
                  refine L_op (s_e hS (e_assign rfl) rfl ?_); clear hS a; intro a hS
                  refine L_op (s_e hS (e_assign rfl) rfl ?_); clear hS a; intro a hS
                  refine L_nil ?_
                  refine n_then ?_
                  refine c_seq ?_
                  refine c_region ?_
                  refine L_op (s_e hS (e_move rfl) rfl ?_); clear hS a; intro a hS
                  refine L_op (s_e hS (e_move rfl) rfl ?_); clear hS a; intro a hS
                  refine L_op (s_e hS (e_nilCheck rfl) rfl ?_); clear hS a; intro a hS
                  first | (refine L_op (s_e hS (e_fa0 rfl ty_fo96_2) rfl ?_); clear hS a; intro a hS) | (refine L_op (s_e hS (e_faK rfl ty_fo96_2) rfl ?_); clear hS a; intro a hS)
                  refine L_op (s_store hS rfl rfl rfl ty_sz3 (by repeat constructor) (by repeat constructor) ?_); clear hS; (try clear w); intro w hS
                  refine L_nil ?_
                  refine n_then ?_
                  refine c_seq ?_
                  refine c_region ?_
                  refine L_op (s_e hS (e_move rfl) rfl ?_); clear hS a; intro a hS
                  refine L_op (s_e hS (e_assign rfl) rfl ?_); clear hS a; intro a hS
                  refine L_nil ?_
                  refine n_then ?_
                  refine wp_ret ?_
                  refine r_then ?_
                  refine c_ret1 hS Tryz.results39 (.tmp rfl) ?_
                  have e : stepP D s = ({ D with n := D.n + 1, es := setI D.es (hName s) (getI D.es (hName s) + 1), bl := (lenF (hVal s).data.toList).1 }, (lenF (hVal s).data.toList).2) := by unfold stepP; rw [if_neg hn0, if_neg hc36, if_neg hok, if_neg hfew, if_neg hc66, if_neg (show ¬ 1 < getI D.es (hName s) + 1 from hc73), if_pos (show hName s = sCL from hc75)]
                  rw [e]; exact ⟨(), rfl, hS.chg, rd_back (D := { D with n := D.n + 1, es := setI D.es (hName s) (getI D.es (hName s) + 1), bl := (lenF (hVal s).data.toList).1 }) hS (by repeat (first | exact Pick.nil | (refine Pick.cons (by repeat (first | exact Rem.head | apply Rem.tail)) ?_))) rfl rfl, fun _ hb => .inl hb⟩
                ·
                  refine wp_skip ?_
                  refine n_then ?_
                  refine c_seq ?_
                  refine c_region ?_
                  refine L_op (s_e hS (e_move rfl) rfl ?_); clear hS a; intro a hS
                  refine L_op (s_callP hS (.cons rfl .nil) cf56 rfl (Lower_P (hVal s) (by omega) _ (hG.keep (hS.get (X := oldA W0) (by repeat constructor)))) ?_); clear hS a; (try clear w); intro a w hS
                  refine L_op (s_e hS (e_assign rfl) rfl ?_); clear hS a; intro a hS
                  refine L_nil ?_
                  refine n_then ?_
                  refine c_seq ?_
                  refine c_region ?_
                  refine L_op (s_e hS (e_move rfl) rfl ?_); clear hS a; intro a hS
                  refine L_op (s_e hS (e_move rfl) rfl ?_); clear hS a; intro a hS
                  refine L_op (s_e hS (e_binS rfl rfl rfl) rfl ?_); clear hS a; intro a hS
                  refine L_op (s_e hS (e_nilCheck rfl) rfl ?_); clear hS a; intro a hS
                  first | (refine L_op (s_e hS (e_fa0 rfl ty_fo96_0) rfl ?_); clear hS a; intro a hS) | (refine L_op (s_e hS (e_faK rfl ty_fo96_0) rfl ?_); clear hS a; intro a hS)
                  first | (refine L_op (s_e hS (e_fa0 rfl ty_fo35_3) rfl ?_); clear hS a; intro a hS) | (refine L_op (s_e hS (e_faK rfl ty_fo35_3) rfl ?_); clear hS a; intro a hS)
                  refine L_op (s_store hS rfl rfl rfl ty_sz4 (by repeat constructor) (by repeat constructor) ?_); clear hS; (try clear w); intro w hS
                  refine L_nil ?_
                  refine n_then ?_
                  refine c_seq ?_
                  refine c_seq ?_
                  refine c_region ?_
                  refine L_op (s_e hS (e_move rfl) rfl ?_); clear hS a; intro a hS
                  refine L_op (s_e hS (e_lenS rfl rfl ty_u9) rfl ?_); clear hS a; intro a hS
                  refine L_op (s_e hS (e_move rfl) rfl ?_); clear hS a; intro a hS
                  refine L_op (s_e hS (e_lenS rfl rfl ty_u9) rfl ?_); clear hS a; intro a hS
                  refine L_op (s_e hS (e_bin rfl rfl rfl) rfl ?_); clear hS a; intro a hS
                  refine L_op (s_e hS (e_move rfl) rfl ?_); clear hS a; intro a hS
                  refine L_merge 11 110 (.bool (decide ((lowS (hVal s).data.toList).size ≠ (hVal s).size ∨ (lowS (hVal s).data.toList ≠ sClose ∧ lowS (hVal s).data.toList ≠ sKeep)))) hS ?_ ?_
                  · intro hcM110
                    (first | refine g_splitD (t := 99) hS rfl ?_ ?_ | refine g_split (t := 99) hS rfl ?_ ?_) <;> (clear hS; intro hg99 hS)
                    ·
                      refine L_skip_f hS rfl rfl rfl ?_; clear hS a; intro a hS
                      refine L_skip_f hS rfl rfl rfl ?_; clear hS a; intro a hS
                      refine L_skip_f hS rfl rfl rfl ?_; clear hS a; intro a hS
                      refine L_skip_f hS rfl rfl rfl ?_; clear hS a; intro a hS
                      refine L_skip_f hS rfl rfl rfl ?_; clear hS a; intro a hS
                      refine L_skip_f hS rfl rfl rfl ?_; clear hS a; intro a hS
                      refine L_skip_f hS rfl rfl rfl ?_; clear hS a; intro a hS
                      refine L_skip_u hS rfl rfl rfl ?_; clear hS a; intro a hS
                      refine L_skip_u hS rfl rfl rfl ?_; clear hS a; intro a hS
                      refine L_skip_f hS rfl rfl rfl ?_; clear hS a; intro a hS
                      first | (refine L_op (s_e hS (e_pick_t rfl rfl) rfl ?_); clear hS a; intro a hS) | (refine L_op (s_e hS (e_pick_f rfl rfl) rfl ?_); clear hS a; intro a hS)
                      exact hcM110 _ _ (hS.ends 12 110 99 rfl (congrArg Value.bool (by exact (decide_eq_true (.inl (fun e => hg99 (congrArg Int.ofNat e)))).symm)) rfl rfl (by first | exact congrArg Value.bool (decide_eq_true hg99).symm | exact congrArg Value.bool hg99.symm | simp [hg99]) rfl)
                    ·
                      refine L_go hS rfl rfl (s_e hS (e_move rfl) rfl ?_); clear hS a; intro a hS
                      refine L_go hS rfl rfl (s_e hS (e_nilCheck rfl) rfl ?_); clear hS a; intro a hS
                      first | (refine L_go hS rfl rfl (s_e hS (e_fa0 rfl ty_fo96_0) rfl ?_); clear hS a; intro a hS) | (refine L_go hS rfl rfl (s_e hS (e_faK rfl ty_fo96_0) rfl ?_); clear hS a; intro a hS)
                      first | (refine L_go hS rfl rfl (s_e hS (e_fa0 rfl ty_fo35_3) rfl ?_); clear hS a; intro a hS) | (refine L_go hS rfl rfl (s_e hS (e_faK rfl ty_fo35_3) rfl ?_); clear hS a; intro a hS)
                      refine L_go hS rfl rfl (s_e hS (e_load rfl (by repeat constructor) ty_sc4 (by rfl)) rfl ?_); clear hS a; intro a hS
                      refine L_go hS rfl rfl (s_e hS (e_not rfl) rfl ?_); clear hS a; intro a hS
                      refine L_go hS rfl rfl (s_e hS (e_move rfl) rfl ?_); clear hS a; intro a hS
                      refine L_merge 3 109 (.bool (decide (lowS (hVal s).data.toList ≠ sClose ∧ lowS (hVal s).data.toList ≠ sKeep))) hS ?_ ?_
                      · intro hcM109
                        (first | refine g_splitD (t := 106) hS rfl ?_ ?_ | refine g_split (t := 106) hS rfl ?_ ?_) <;> (clear hS; intro hg106 hS)
                        ·
                          refine L_go hS rfl rfl (s_e hS (e_move rfl) rfl ?_); clear hS a; intro a hS
                          refine L_go hS rfl rfl (s_e hS (e_binS rfl rfl rfl) rfl ?_); clear hS a; intro a hS
                          first | (refine L_go hS rfl rfl (s_e hS (e_pick_t rfl rfl) rfl ?_); clear hS a; intro a hS) | (refine L_go hS rfl rfl (s_e hS (e_pick_f rfl rfl) rfl ?_); clear hS a; intro a hS)
                          exact hcM109 _ _ (hS.ends 4 109 106 rfl (congrArg Value.bool (by exact decide_eq_decide.2 ⟨fun h => ⟨show ¬ tx (Lib.toLowerD (hVal s).data.toList) = ⟨#[99, 108, 111, 115, 101]⟩ by simpa using hg106, h⟩, fun h => h.2⟩)) rfl rfl (by first | exact congrArg Value.bool (decide_eq_true hg106).symm | exact congrArg Value.bool hg106.symm | simp [hg106]) rfl)
                        ·
                          refine L_skip_t hS rfl rfl rfl ?_; clear hS a; intro a hS
                          refine L_skip_t hS rfl rfl rfl ?_; clear hS a; intro a hS
                          first | (refine L_go hS rfl rfl (s_e hS (e_pick_t rfl rfl) rfl ?_); clear hS a; intro a hS) | (refine L_go hS rfl rfl (s_e hS (e_pick_f rfl rfl) rfl ?_); clear hS a; intro a hS)
                          exact hcM109 _ _ (hS.ends 4 109 106 rfl (congrArg Value.bool (by exact (decide_eq_false (fun h => h.1 (show tx (Lib.toLowerD (hVal s).data.toList) = ⟨#[99, 108, 111, 115, 101]⟩ by simpa using hg106))).symm)) rfl rfl (by first | exact congrArg Value.bool (decide_eq_false hg106).symm | exact congrArg Value.bool hg106.symm | simp [hg106]) rfl)
                      · clear hS a; (try clear w); intro a w hS
                        simp only [List.drop_succ_cons, List.drop_zero]
                        first | (refine L_op (s_e hS (e_pick_t rfl rfl) rfl ?_); clear hS a; intro a hS) | (refine L_op (s_e hS (e_pick_f rfl rfl) rfl ?_); clear hS a; intro a hS)
                        exact hcM110 _ _ (hS.ends 10 110 99 rfl (congrArg Value.bool (by exact decide_eq_decide.2 ⟨fun h => .inr h, fun h => h.resolve_left (fun h2 => hg99 (fun e => h2 (Int.ofNat.inj e)))⟩)) rfl rfl (by first | exact congrArg Value.bool (decide_eq_false hg99).symm | exact congrArg Value.bool hg99.symm | simp [hg99]) rfl)
                  · clear hS a; (try clear w); intro a w hS
                    simp only [List.drop_succ_cons, List.drop_zero]
                    refine L_nil ?_
                    refine n_then ?_
                    first | refine c_ifD hS rfl (fun hc110 => ?_) (fun hc110 => ?_) | refine c_if hS rfl (fun hc110 => ?_) (fun hc110 => ?_)
                    ·
                      refine c_seq ?_
                      refine c_region ?_
                      refine L_op (s_e hS (e_assign rfl) rfl ?_); clear hS a; intro a hS
                      refine L_nil ?_
                      refine n_then ?_
                      refine wp_ret ?_
                      refine r_then ?_
                      refine c_ret1 hS Tryz.results39 (.tmp rfl) ?_
                      have e : stepP D s = ({ D with n := D.n + 1, es := setI D.es (hName s) (getI D.es (hName s) + 1), cl := decide (lowS (hVal s).data.toList = sClose) }, 10) := by unfold stepP; rw [if_neg hn0, if_neg hc36, if_neg hok, if_neg hfew, if_neg hc66, if_neg (show ¬ 1 < getI D.es (hName s) + 1 from hc73), if_neg (show ¬ hName s = sCL from hc75), if_pos hc110]
                      rw [e]; exact ⟨(), rfl, hS.chg, rd_back (D := { D with n := D.n + 1, es := setI D.es (hName s) (getI D.es (hName s) + 1), cl := decide (lowS (hVal s).data.toList = sClose) }) hS (by repeat (first | exact Pick.nil | (refine Pick.cons (by repeat (first | exact Rem.head | apply Rem.tail)) ?_))) rfl rfl, fun _ hb => .inl hb⟩
                    ·
                      refine wp_skip ?_
                      refine n_then ?_
                      refine c_seq ?_
                      refine c_region ?_
                      refine L_op (s_e hS (e_assign rfl) rfl ?_); clear hS a; intro a hS
                      refine L_nil ?_
                      refine n_then ?_
                      refine wp_ret ?_
                      refine c_ret1 hS Tryz.results39 (.tmp rfl) ?_
                      have e : stepP D s = ({ D with n := D.n + 1, es := setI D.es (hName s) (getI D.es (hName s) + 1), cl := decide (lowS (hVal s).data.toList = sClose) }, 0) := by unfold stepP; rw [if_neg hn0, if_neg hc36, if_neg hok, if_neg hfew, if_neg hc66, if_neg (show ¬ 1 < getI D.es (hName s) + 1 from hc73), if_neg (show ¬ hName s = sCL from hc75), if_neg hc110]
                      rw [e]; exact ⟨(), rfl, hS.chg, rd_back (D := { D with n := D.n + 1, es := setI D.es (hName s) (getI D.es (hName s) + 1), cl := decide (lowS (hVal s).data.toList = sClose) }) hS (by repeat (first | exact Pick.nil | (refine Pick.cons (by repeat (first | exact Rem.head | apply Rem.tail)) ?_))) rfl rfl, fun _ hb => .inl hb⟩
end Go.Proofs.YtjmkjkhcognoeaaGreatDoor

namespace Go.Proofs.YtjmkjkhcognoeaaGreatDoor
open Go.RowKit
variable {P : Program} {n : NN} {F0 : Nat → Prop} {w0 w : World} {a : Act} {L : List (Nat × Value)} {Γ : List Asn} {Q : Exit → Act → World → Prop}
end Go.Proofs.YtjmkjkhcognoeaaGreatDoor

namespace Go.Proofs.YtjmkjkhcognoeaaGreatDoor
open Go.RowKit

section
variable {P : Program} {n : NN} {F0 : Nat → Prop} {w0 : World} {a : Act} {w : World} {L : List (Nat × Value)} {Γ : List Asn} {r : Option Nat} {N : Nat} {Q : Exit → Act → World → Prop}
theorem opIn_of {ops : Array Oper} {i : Nat} {K : Act → World → Prop} (hnd : ∀ o, ops[i]? = some o → notDefer o.op = true) (hq : ¬ LetsOut Q) (h : wpOp P ops Q i K a w) : wpOpIn (FW r) N P ops Q i K a w := by
  unfold wpOp at h
  unfold wpOpIn
  cases ho : ops[i]? with
  | none => simpa [ho] using h
  | some o =>
    simp only [ho] at h ⊢
    by_cases hw : Region.wanted o (yielded ops a.tmps) = true
    · rw [if_pos hw] at h ⊢
      rcases h with h | h
      · exact oper_in (notDefer_ne (hnd o ho)) h
      · exact absurd h.2 hq
    · rw [if_neg hw] at h ⊢
      exact ⟨fun _ _ => trivial, h⟩
theorem anyIn_of {ops : Array Oper} (hnd : ∀ (i : Nat) (o : Oper), ops[i]? = some o → notDefer o.op = true) (hq : ¬ LetsOut Q) : ∀ (fuel : Nat) (listed : Array Bool) (a : Act) (w : World), wpAny P .any ops Q fuel listed a w → wpAnyIn (FW r) N P .any ops Q fuel listed a w
  | 0, _, _, _, h => h
  | fuel + 1, _, _, _, h => ⟨h.1, fun i hi => wpOpIn_mono (fun a' w' h' => anyIn_of hnd hq fuel _ a' w' h') (opIn_of (hnd i) hq (h.2 i hi))⟩
theorem R_drawS {id : Nat} {l : List Oper} {Γs : List Asn} (hnd : l.all (fun o => notDefer o.op) = true) (hq : ¬ LetsOut Q) (Z : List Nat) (hm : P.follows .mixedOrders = true) (hS : St n F0 w0 a w L Γ) (_hsub : ∀ X ∈ Γs, X ∈ Γ)
    (h : ∀ w', St n F0 w0 a w' L Γ → wpZ P l.toArray Q (Hd Γs) Z l.length (List.replicate l.length false).toArray a w') : (Code.region id l.toArray true).wpIn (FW r) N P Q a w := by
  refine wpIn_region_any hm (anyIn_of (fun i o ho => List.all_eq_true.1 hnd o (List.mem_of_getElem? (by simpa using ho))) hq _ _ _ _ (wpAny_of_Z (S := Hd Γs) (Z := Z) _ _ _ _ ?_))
  have := h w.drew (hS.ext (Chg.drew _ _))
  simpa using this
theorem R_draw1 {id : Nat} {l : List Oper} (hnd : l.all (fun o => notDefer o.op) = true) (hq : ¬ LetsOut Q) (Z : List Nat) (hm : P.follows .mixedOrders = true) (hS : St n F0 w0 a w L Γ)
    (h : ∀ w', St n F0 w0 a w' L Γ → wpZ P l.toArray Q (Hd Γ) Z l.length (List.replicate l.length false).toArray a w') : (Code.region id l.toArray true).wpIn (FW r) N P Q a w := R_drawS hnd hq Z hm hS (fun _ h => h) h
end
end Go.Proofs.YtjmkjkhcognoeaaGreatDoor

namespace Go.Proofs.YtjmkjkhcognoeaaGreatDoor
open Go.RowKit

def hreq : List Int := [71, 69, 84, 32, 47, 104, 101, 97, 108, 116, 104, 32, 72, 84, 84, 80, 47, 49, 46, 49, 13, 10, 13, 10]
def it0 (g : Nat) : Int × Value := (22, .slice (tailP (some ⟨g, 0, none⟩) 0 24 1) 20 24)
def it1 (g : Nat) : Int × Value := (24, .slice (tailP (some ⟨g, 0, none⟩) 22 24 1) 0 2)
theorem items_req (g : Nat) : itemsW (some ⟨g, 0, none⟩) 24 hreq 0 = [it0 g, it1 g] := by
  have e0 : lineF (hreq.drop 0) = (20, 0) := by decide +kernel
  have e1 : lineF (hreq.drop 22) = (0, 0) := by decide +kernel
  have e2 : lineF (hreq.drop 24) = (-1, 0) := by decide +kernel
  rw [items_go (by rw [e0]; decide), e0]
  show _ :: itemsW (some ⟨g, 0, none⟩) 24 hreq 22 = _
  rw [items_go (by rw [e1]; decide), e1]
  show _ :: _ :: itemsW (some ⟨g, 0, none⟩) 24 hreq 24 = _
  rw [items_end (by rw [e2]; decide), e2]
  rfl
theorem byF_is {g off m c k : Nat} {l : List Int} (h : byF (.slice (some ⟨g, off, none⟩) m c) l k) : k = g := by
  obtain ⟨_, o, m', c', e⟩ := h
  injection e with e1; injection e1 with e2; injection e2 with e3; exact e3.symm
theorem str0 : strOfNums ((hreq.take 20).drop 0) = sReq := by decide +kernel
theorem str1 : strOfNums ((hreq.take 22).drop 22) = sNo := by decide +kernel

/-- what a round only reads. -/
structure roφ (g b1 b6 b12 : Nat) (m : Int) (w : World) : Prop where
  h1 : w.heap[b1]? = some (.cells [Value.slice (some ⟨g, 0, none⟩) 24 24].toArray 22 (0, 0))
  h6 : w.heap[b6]? = some (.cells [Value.pointer (some ⟨b12, 0, none⟩)].toArray 93 (0, 0))
  by_ : ByAt (.slice (some ⟨g, 0, none⟩) 24 24) hreq w
  cm : w.cell? ⟨1, 0, none⟩ = some (.int .i64 m)
def roF (g b1 b6 : Nat) (k : Nat) : Prop := k = b1 ∨ k = b6 ∨ k = g ∨ k = 1
def roK (g b1 b6 b12 : Nat) (m : Int) : Asn := .any (roF g b1 b6) (roφ g b1 b6 b12 m) false
theorem by_in {g : Nat} {l : List Int} {w : World} (hne : l ≠ []) (h : ByAt (.slice (some ⟨g, 0, none⟩) 24 24) l w) : g < w.heap.size := h.lt g ⟨hne, 0, 24, 24, rfl⟩
theorem ro_ok {g b1 b6 b12 : Nat} {m : Int} {w : World} (h : roφ g b1 b6 b12 m w) : (roK g b1 b6 b12 m).ok w := by
  refine ⟨fun k hk => ?_, fun w' hw => ⟨?_, ?_, h.by_.keep fun k hk => hw k (.inr (.inr (.inl (byF_is hk)))), ?_⟩⟩
  · rcases hk with rfl | rfl | rfl | rfl
    · exact (Array.getElem?_eq_some_iff.1 h.h1).1
    · exact (Array.getElem?_eq_some_iff.1 h.h6).1
    · exact by_in (by decide) h.by_
    · exact (ce_ok h.cm).lt _ rfl
  · rw [hw b1 (.inl rfl)]; exact h.h1
  · rw [hw b6 (.inr (.inl rfl))]; exact h.h6
  · exact (ce_ok h.cm).hold w' (fun k hk => by obtain rfl : k = 1 := hk; exact hw _ (.inr (.inr (.inr rfl))))

/-- what holds between two rounds. -/
structure prI (w0 : World) (g x14 b1 b2 b3 b4 b5 b6 b10 b12 : Nat) (m : Int) (hi : Nat) (pre : List (Int × Value)) (W : World) : Prop where
  chg : Chg noB w0 W
  k : linesK x14 (.slice (some ⟨g, 0, none⟩) 24 24) hreq W
  ro : roφ g b1 b6 b12 m W
  h2 : W.heap[b2]? = some (.cells [Value.string ⟨#[]⟩, .string ⟨#[]⟩, .slice none 0 0, .bool false].toArray 35 (0, 0))
  h3 : W.heap[b3]? = some (.cells [Value.int .i64 0].toArray 3 (0, 0))
  h4 : W.heap[b4]? = some (.cells [Value.bool false].toArray 4 (0, 0))
  h5 : W.heap[b5]? = some (.cells [Value.int .i64 0].toArray 25 (0, 0))
  rd : (pre = [] ∧ W.heap[b12]? = some (.cells (rdC sNo sNo (.slice none 0 0) false 0 0 b10 false).toArray 96 (0, 0))) ∨ (pre = [it0 g] ∧ W.heap[b12]? = some (.cells (rdC sGet sHealth (.slice none 0 0) false 1 0 b10 false).toArray 96 (0, 0)))
structure prX (w0 : World) (b2 b3 b4 b5 : Nat) (hi : Nat) (c : Code) (pre : List (Int × Value)) (W : World) : Prop where
  chg : Chg noB w0 W
  ret : c = .ret
  got : ∃ x : Option Addr × Nat, W.heap[b2]? = some (.cells [Value.string sGet, .string sHealth, .slice x.1 0 x.2, .bool false].toArray 35 (0, 0)) ∧ W.heap[b3]? = some (.cells [Value.int .i64 24].toArray 3 (0, 0)) ∧ W.heap[b4]? = some (.cells [Value.bool true].toArray 4 (0, 0)) ∧ W.heap[b5]? = some (.cells [Value.int .i64 0].toArray 25 (0, 0))
theorem chg_low {w0 W W' : World} {B hi : Nat} (h : Chg noB w0 W) (hB : w0.heap.size ≤ B) (e1 : W'.os = W.os) (e2 : W'.tape = W.tape) (e3 : W'.output = W.output) (e4 : W.heap.size ≤ W'.heap.size) (e5 : ∀ k, k < W.heap.size → (k < B ∨ hi ≤ k) → W'.heap[k]? = W.heap[k]?) : Chg noB w0 W' :=
  ⟨e1.trans h.os, e2.trans h.tape, e3.trans h.output, Nat.le_trans h.size e4, fun k hk hn => (e5 k (by have := h.size; omega) (.inl (by omega))).trans (h.block k hk hn)⟩
theorem prI_ab {w0 : World} {g x14 b1 b2 b3 b4 b5 b6 b10 b12 : Nat} {m : Int} {B hi : Nat} (hB : w0.heap.size ≤ B) (lx : x14 < B) (l1 : b1 < B) (l2 : b2 < B) (l3 : b3 < B) (l4 : b4 < B) (l5 : b5 < B) (l6 : b6 < B) (l12 : b12 < B) (lg : g < B) (lm : 1 < B) : AbR B hi (prI w0 g x14 b1 b2 b3 b4 b5 b6 b10 b12 m hi) := fun _ W W' h e1 e2 e3 e4 e5 => by
  have low : ∀ {k : Nat} {o : Obj}, k < B → W.heap[k]? = some o → W'.heap[k]? = some o := fun hk ho => (e5 _ (Array.getElem?_eq_some_iff.1 ho).1 (.inl hk)).trans ho
  have hby : ByAt (.slice (some ⟨g, 0, none⟩) 24 24) hreq W' := h.ro.by_.keep fun k hk => by obtain rfl := byF_is hk; exact e5 _ (by_in (by decide) h.ro.by_) (.inl lg)
  refine ⟨chg_low h.chg hB e1 e2 e3 e4 e5, ⟨low lx h.k.1, hby⟩, ⟨low l1 h.ro.h1, low l6 h.ro.h6, hby, ?_⟩, low l2 h.h2, low l3 h.h3, low l4 h.h4, low l5 h.h5, h.rd.imp (fun q => ⟨q.1, low l12 q.2⟩) (fun q => ⟨q.1, low l12 q.2⟩)⟩
  exact (ce_ok h.ro.cm).hold W' (fun k hk => by obtain rfl : k = 1 := hk; exact e5 _ ((ce_ok h.ro.cm).lt _ rfl) (.inl lm))
theorem prX_ab {w0 : World} {b2 b3 b4 b5 B hi : Nat} {c : Code} (hB : w0.heap.size ≤ B) (l2 : b2 < B) (l3 : b3 < B) (l4 : b4 < B) (l5 : b5 < B) : AbR B hi (prX w0 b2 b3 b4 b5 hi c) := fun _ W W' h e1 e2 e3 e4 e5 => by
  have low : ∀ {k : Nat} {o : Obj}, k < B → W.heap[k]? = some o → W'.heap[k]? = some o := fun hk ho => (e5 _ (Array.getElem?_eq_some_iff.1 ho).1 (.inl hk)).trans ho
  obtain ⟨x, q2, q3, q4, q5⟩ := h.got
  exact ⟨chg_low h.chg hB e1 e2 e3 e4 e5, h.ret, x, low l2 q2, low l3 q3, low l4 q4, low l5 q5⟩
theorem chg_turn {w0 W W1 W2 W3 : World} {B : Nat} {F : Nat → Prop} (h : Chg noB w0 W) (hB : w0.heap.size ≤ B) (h1 : Chg noB W W1) (hT : Turn (B + 1) W1 W2) (h3 : Chg F W2 W3) (hF : ∀ k, F k → w0.heap.size ≤ k) : Chg noB w0 W3 := by
  refine ⟨h3.os.trans (hT.os.trans (h1.os.trans h.os)), h3.tape.trans (hT.tape.trans (h1.tape.trans h.tape)), h3.output.trans (hT.output.trans (h1.output.trans h.output)), ?_, fun k hk _ => ?_⟩
  · have := h.size; have := h1.size; have := hT.size; have := h3.size; omega
  · have e1 := h.block k hk (fun hf => hf)
    have e2 := h1.block k (by have := h.size; omega) (fun hf => hf)
    have e3 := hT.same k (by omega)
    have e4 := h3.block k (by have := h.size; have := h1.size; have := hT.size; omega) (fun hf => by have := hF k hf; omega)
    exact e4.trans (e3.trans (e2.trans e1))

/-- what a round's line is and makes. -/
structure rnd (g b12 b10 : Nat) (m : Int) (pre : List (Int × Value)) (x : Int × Value) (cs0 cs1 : List Value) (ls : List Int) (s : ByteArray) (ov : Bool) : Prop where
  pos : 0 ≤ x.1
  str : strOfNums ls = s
  at_ : ∀ w, ByAt (.slice (some ⟨g, 0, none⟩) 24 24) hreq w → ByAt x.2 ls w
  rl : ∀ w, (Asn.blk b12 cs0 96).φ w → w.cell? ⟨1, 0, none⟩ = some (.int .i64 m) → b12 ≠ 1 → MutC Tryz.prog 39 [.pointer (some ⟨b12, 0, none⟩), .string s] w (.blk b12 cs0 96) (fun _ : Unit => .int .i64 0) (fun _ => .blk b12 cs1 96)
  over : nth cs1 7 = some (.bool ov)
  yes : ov = true → x.1 = 24 ∧ cs1 = rdC sGet sHealth (.slice none 0 0) false 2 0 b10 true
  no : ov = false → pre ++ [x] = [it0 g] ∧ cs1 = rdC sGet sHealth (.slice none 0 0) false 1 0 b10 false
theorem rnd0 (g b12 b10 : Nat) (m : Int) : rnd g b12 b10 m [] (it0 g) (rdC sNo sNo (.slice none 0 0) false 0 0 b10 false) (rdC sGet sHealth (.slice none 0 0) false 1 0 b10 false) ((hreq.take 20).drop 0) sReq false :=
  ⟨Int.natCast_nonneg _, str0, fun _ h => h.piece (j := 0) (k := 20) (by decide) (by decide), fun w h hm hd => RLine1 b12 b10 m w h hm hd, rfl, fun h => (by cases h), fun _ => ⟨rfl, rfl⟩⟩
theorem rnd1 (g b12 b10 : Nat) (m : Int) : rnd g b12 b10 m [it0 g] (it1 g) (rdC sGet sHealth (.slice none 0 0) false 1 0 b10 false) (rdC sGet sHealth (.slice none 0 0) false 2 0 b10 true) ((hreq.take 22).drop 22) sNo true :=
  ⟨Int.natCast_nonneg _, str1, fun _ h => h.piece (j := 22) (k := 22) (by decide) (by decide), fun w h _ _ => RLine2 b12 b10 sGet sHealth w h, rfl, fun _ => ⟨rfl, rfl⟩, fun h => by cases h⟩

structure prN (g x14 b1 b2 b3 b4 b5 b6 b12 : Nat) : Prop where
  n12_2 : b12 ≠ b2
  n12_3 : b12 ≠ b3
  n12_4 : b12 ≠ b4
  n12_5 : b12 ≠ b5
  n2_3 : b2 ≠ b3
  n2_4 : b2 ≠ b4
  n2_5 : b2 ≠ b5
  n3_4 : b3 ≠ b4
  n3_5 : b3 ≠ b5
  n4_5 : b4 ≠ b5
  n1_12 : b1 ≠ b12
  n6_12 : b6 ≠ b12
  nx_12 : x14 ≠ b12
  ng_12 : g ≠ b12
  nc_12 : 1 ≠ b12
  n1_2 : b1 ≠ b2
  n6_2 : b6 ≠ b2
  nx_2 : x14 ≠ b2
  ng_2 : g ≠ b2
  nc_2 : 1 ≠ b2
  n1_3 : b1 ≠ b3
  n6_3 : b6 ≠ b3
  nx_3 : x14 ≠ b3
  ng_3 : g ≠ b3
  nc_3 : 1 ≠ b3
  n1_4 : b1 ≠ b4
  n6_4 : b6 ≠ b4
  nx_4 : x14 ≠ b4
  ng_4 : g ≠ b4
  nc_4 : 1 ≠ b4
  n1_5 : b1 ≠ b5
  n6_5 : b6 ≠ b5
  nx_5 : x14 ≠ b5
  ng_5 : g ≠ b5
  nc_5 : 1 ≠ b5

theorem four_mine {w0 : World} {F0 : Nat → Prop} {b2 b3 b4 b5 E2 E3 E4 E5 : Nat} {l2 l3 l4 l5 : List Value} (m2 : w0.heap.size ≤ b2) (m3 : w0.heap.size ≤ b3) (m4 : w0.heap.size ≤ b4) (m5 : w0.heap.size ≤ b5) : ∀ X ∈ [Asn.blk b2 l2 E2, Asn.blk b3 l3 E3, Asn.blk b4 l4 E4, Asn.blk b5 l5 E5], X.mine = true → ∀ k, X.F k → w0.heap.size ≤ k ∨ F0 k := fun X hX _ k hk => .inl (by
  rcases List.mem_cons.1 hX with rfl | hX
  · have : k = b2 := hk; omega
  rcases List.mem_cons.1 hX with rfl | hX
  · have : k = b3 := hk; omega
  rcases List.mem_cons.1 hX with rfl | hX
  · have : k = b4 := hk; omega
  obtain rfl := List.mem_singleton.1 hX
  have : k = b5 := hk
  omega)
theorem four_ne {D b2 b3 b4 b5 E2 E3 E4 E5 : Nat} {l2 l3 l4 l5 : List Value} (m2 : b2 < D) (m3 : b3 < D) (m4 : b4 < D) (m5 : b5 < D) : ∀ X ∈ [Asn.blk b2 l2 E2, Asn.blk b3 l3 E3, Asn.blk b4 l4 E4, Asn.blk b5 l5 E5], ∀ k, X.F k → k ≠ D := fun X hX k hk => by
  rcases List.mem_cons.1 hX with rfl | hX
  · have : k = b2 := hk; omega
  rcases List.mem_cons.1 hX with rfl | hX
  · have : k = b3 := hk; omega
  rcases List.mem_cons.1 hX with rfl | hX
  · have : k = b4 := hk; omega
  obtain rfl := List.mem_singleton.1 hX
  have : k = b5 := hk
  omega

set_option maxHeartbeats 1000000 in
set_option maxRecDepth 100000 in
theorem Parse_req (g : Nat) (m : Int) (w0 : World) (h : ByAt (.slice (some ⟨g, 0, none⟩) 24 24) hreq w0) (hm : w0.cell? ⟨1, 0, none⟩ = some (.int .i64 m)) (hd : g ≠ 1) :
    NewC Tryz.prog 22 [.slice (some ⟨g, 0, none⟩) 24 24] w0 (fun x : Option Addr × Nat => .tuple [.agg [.string sGet, .string sHealth, .slice x.1 0 x.2, .bool false].toArray, .int .i64 24, .bool true, .int .i64 0].toArray) (fun _ => none_) := by
  refine callsM_enter [(0, .slice (some ⟨g, 0, none⟩) 24 24)] [byA (.slice (some ⟨g, 0, none⟩) 24 24) hreq, ceA 1 0 (.int .i64 m)] noB Tryz.func22 rfl Tryz.ntmps22 ⟨rfl, trivial⟩ rfl (okC (by_ok h) (okC (ce_ok hm) okN)) (disC (sepC (fun b h1 h2 => hd ((byF_is h1).symm.trans h2)) sepN) dis1) (mineC (by rfl) (mineC (by rfl) mineN)) ?_
  intro a hS
  refine R_seq ?_
  refine R_region ?_
  refine R_op rfl (s_box1 hS rfl rfl rfl ?_); clear hS a; (try clear w); intro a w b1 hS
  refine R_op rfl (s_alloc hS ty_z35 rfl ?_); clear hS a; (try clear w); intro a w b2 hS
  refine R_op rfl (s_alloc hS ty_z3 rfl ?_); clear hS a; (try clear w); intro a w b3 hS
  refine R_op rfl (s_alloc hS ty_z4 rfl ?_); clear hS a; (try clear w); intro a w b4 hS
  refine R_op rfl (s_alloc hS ty_z25 rfl ?_); clear hS a; (try clear w); intro a w b5 hS
  refine R_nil ?_
  refine n_then ?_
  refine R_seq ?_
  refine R_region ?_
  refine R_op rfl (s_makeMapS hS rfl ?_); clear hS a; (try clear w); intro a w b10 hS
  refine R_op rfl (s_e hS (e_build ty_z96 ty_pl96 (.one rfl rfl rfl (by repeat constructor) .nil)) rfl ?_); clear hS a; intro a hS
  refine R_op rfl (s_boxA hS rfl rfl ?_); clear hS a; (try clear w); intro a w b12 hS
  refine R_op rfl (s_alloc hS ty_z93 rfl ?_); clear hS a; (try clear w); intro a w b6 hS
  refine R_op rfl (s_store hS rfl rfl rfl ty_sz93 (by repeat constructor) (by repeat constructor) ?_); clear hS; (try clear w); intro w hS
  refine R_nil ?_
  refine n_then ?_
  refine R_seq ?_
  refine R_seq ?_
  refine R_region ?_
  refine R_op rfl (s_e hS (e_load rfl (by repeat constructor) ty_sc22 (by rfl)) rfl ?_); clear hS a; intro a hS
  refine R_op rfl (s_callN hS (.cons rfl .nil) cf38 rfl (lines_P (.slice (some ⟨g, 0, none⟩) 24 24) rfl _) ?_); clear hS a; (try clear w); intro x14 a w hS
  refine R_nil ?_
  refine n_then ?_
  refine R_block ?_
  obtain ⟨B, hB⟩ : ∃ B, w.heap.size = B := ⟨_, rfl⟩
  have g12 := hS.get (X := .blk b12 (rdC sNo sNo (.slice none 0 0) false 0 0 b10 false) 96) (by repeat constructor)
  have g2 := hS.get (X := .blk b2 [.string ⟨#[]⟩, .string ⟨#[]⟩, .slice none 0 0, .bool false] 35) (by repeat constructor)
  have g3 := hS.get (X := .blk b3 [.int .i64 0] 3) (by repeat constructor)
  have g4 := hS.get (X := .blk b4 [.bool false] 4) (by repeat constructor)
  have g5 := hS.get (X := .blk b5 [.int .i64 0] 25) (by repeat constructor)
  have g1 := hS.get (X := .blk b1 [.slice (some ⟨g, 0, none⟩) 24 24] 22) (by repeat constructor)
  have g6 := hS.get (X := .blk b6 [.pointer (some ⟨b12, 0, none⟩)] 93) (by repeat constructor)
  have gx := hS.get (X := .blk x14 [.slice (some ⟨g, 0, none⟩) 24 24] 22) (by repeat constructor)
  have gby : ByAt (.slice (some ⟨g, 0, none⟩) 24 24) hreq w := hS.get (X := byA (.slice (some ⟨g, 0, none⟩) 24 24) hreq) (by repeat constructor)
  have gcm : w.cell? ⟨1, 0, none⟩ = some (.int .i64 m) := hS.get (X := ceA 1 0 (.int .i64 m)) (by repeat constructor)
  have l12 : b12 < B := by rw [← hB]; exact (Array.getElem?_eq_some_iff.1 g12).1
  have m12 : w0.heap.size ≤ b12 := (hS.mine (.blk b12 (rdC sNo sNo (.slice none 0 0) false 0 0 b10 false) 96) (by repeat constructor) rfl b12 rfl).resolve_right (fun h => h)
  have l2 : b2 < B := by rw [← hB]; exact (Array.getElem?_eq_some_iff.1 g2).1
  have m2 : w0.heap.size ≤ b2 := (hS.mine (.blk b2 [.string ⟨#[]⟩, .string ⟨#[]⟩, .slice none 0 0, .bool false] 35) (by repeat constructor) rfl b2 rfl).resolve_right (fun h => h)
  have l3 : b3 < B := by rw [← hB]; exact (Array.getElem?_eq_some_iff.1 g3).1
  have m3 : w0.heap.size ≤ b3 := (hS.mine (.blk b3 [.int .i64 0] 3) (by repeat constructor) rfl b3 rfl).resolve_right (fun h => h)
  have l4 : b4 < B := by rw [← hB]; exact (Array.getElem?_eq_some_iff.1 g4).1
  have m4 : w0.heap.size ≤ b4 := (hS.mine (.blk b4 [.bool false] 4) (by repeat constructor) rfl b4 rfl).resolve_right (fun h => h)
  have l5 : b5 < B := by rw [← hB]; exact (Array.getElem?_eq_some_iff.1 g5).1
  have m5 : w0.heap.size ≤ b5 := (hS.mine (.blk b5 [.int .i64 0] 25) (by repeat constructor) rfl b5 rfl).resolve_right (fun h => h)
  have l1 : b1 < B := by rw [← hB]; exact (Array.getElem?_eq_some_iff.1 g1).1
  have m1 : w0.heap.size ≤ b1 := (hS.mine (.blk b1 [.slice (some ⟨g, 0, none⟩) 24 24] 22) (by repeat constructor) rfl b1 rfl).resolve_right (fun h => h)
  have l6 : b6 < B := by rw [← hB]; exact (Array.getElem?_eq_some_iff.1 g6).1
  have m6 : w0.heap.size ≤ b6 := (hS.mine (.blk b6 [.pointer (some ⟨b12, 0, none⟩)] 93) (by repeat constructor) rfl b6 rfl).resolve_right (fun h => h)
  have lx : x14 < B := by rw [← hB]; exact (Array.getElem?_eq_some_iff.1 gx).1
  have mx : w0.heap.size ≤ x14 := (hS.mine (.blk x14 [.slice (some ⟨g, 0, none⟩) 24 24] 22) (by repeat constructor) rfl x14 rfl).resolve_right (fun h => h)
  have hB0 : w0.heap.size ≤ B := by rw [← hB]; exact hS.chg.size
  have lg0 : g < w0.heap.size := by_in (by decide) h
  have lm0 : 1 < w0.heap.size := (ce_ok hm).lt _ rfl
  have hN : prN g x14 b1 b2 b3 b4 b5 b6 b12 := ⟨fun h => hS.sep (X := .blk b12 (rdC sNo sNo (.slice none 0 0) false 0 0 b10 false) 96) (Y := .blk b2 [.string ⟨#[]⟩, .string ⟨#[]⟩, .slice none 0 0, .bool false] 35) (by repeat (first | exact Rem.head | apply Rem.tail)) (by repeat constructor) b12 rfl h, fun h => hS.sep (X := .blk b12 (rdC sNo sNo (.slice none 0 0) false 0 0 b10 false) 96) (Y := .blk b3 [.int .i64 0] 3) (by repeat (first | exact Rem.head | apply Rem.tail)) (by repeat constructor) b12 rfl h, fun h => hS.sep (X := .blk b12 (rdC sNo sNo (.slice none 0 0) false 0 0 b10 false) 96) (Y := .blk b4 [.bool false] 4) (by repeat (first | exact Rem.head | apply Rem.tail)) (by repeat constructor) b12 rfl h, fun h => hS.sep (X := .blk b12 (rdC sNo sNo (.slice none 0 0) false 0 0 b10 false) 96) (Y := .blk b5 [.int .i64 0] 25) (by repeat (first | exact Rem.head | apply Rem.tail)) (by repeat constructor) b12 rfl h, fun h => hS.sep (X := .blk b2 [.string ⟨#[]⟩, .string ⟨#[]⟩, .slice none 0 0, .bool false] 35) (Y := .blk b3 [.int .i64 0] 3) (by repeat (first | exact Rem.head | apply Rem.tail)) (by repeat constructor) b2 rfl h, fun h => hS.sep (X := .blk b2 [.string ⟨#[]⟩, .string ⟨#[]⟩, .slice none 0 0, .bool false] 35) (Y := .blk b4 [.bool false] 4) (by repeat (first | exact Rem.head | apply Rem.tail)) (by repeat constructor) b2 rfl h, fun h => hS.sep (X := .blk b2 [.string ⟨#[]⟩, .string ⟨#[]⟩, .slice none 0 0, .bool false] 35) (Y := .blk b5 [.int .i64 0] 25) (by repeat (first | exact Rem.head | apply Rem.tail)) (by repeat constructor) b2 rfl h, fun h => hS.sep (X := .blk b3 [.int .i64 0] 3) (Y := .blk b4 [.bool false] 4) (by repeat (first | exact Rem.head | apply Rem.tail)) (by repeat constructor) b3 rfl h, fun h => hS.sep (X := .blk b3 [.int .i64 0] 3) (Y := .blk b5 [.int .i64 0] 25) (by repeat (first | exact Rem.head | apply Rem.tail)) (by repeat constructor) b3 rfl h, fun h => hS.sep (X := .blk b4 [.bool false] 4) (Y := .blk b5 [.int .i64 0] 25) (by repeat (first | exact Rem.head | apply Rem.tail)) (by repeat constructor) b4 rfl h, fun h => hS.sep (X := .blk b1 [.slice (some ⟨g, 0, none⟩) 24 24] 22) (Y := .blk b12 (rdC sNo sNo (.slice none 0 0) false 0 0 b10 false) 96) (by repeat (first | exact Rem.head | apply Rem.tail)) (by repeat constructor) b1 rfl h, fun h => hS.sep (X := .blk b6 [.pointer (some ⟨b12, 0, none⟩)] 93) (Y := .blk b12 (rdC sNo sNo (.slice none 0 0) false 0 0 b10 false) 96) (by repeat (first | exact Rem.head | apply Rem.tail)) (by repeat constructor) b6 rfl h, fun h => hS.sep (X := .blk x14 [.slice (some ⟨g, 0, none⟩) 24 24] 22) (Y := .blk b12 (rdC sNo sNo (.slice none 0 0) false 0 0 b10 false) 96) (by repeat (first | exact Rem.head | apply Rem.tail)) (by repeat constructor) x14 rfl h, Nat.ne_of_lt (Nat.lt_of_lt_of_le lg0 m12), Nat.ne_of_lt (Nat.lt_of_lt_of_le lm0 m12), fun h => hS.sep (X := .blk b1 [.slice (some ⟨g, 0, none⟩) 24 24] 22) (Y := .blk b2 [.string ⟨#[]⟩, .string ⟨#[]⟩, .slice none 0 0, .bool false] 35) (by repeat (first | exact Rem.head | apply Rem.tail)) (by repeat constructor) b1 rfl h, fun h => hS.sep (X := .blk b6 [.pointer (some ⟨b12, 0, none⟩)] 93) (Y := .blk b2 [.string ⟨#[]⟩, .string ⟨#[]⟩, .slice none 0 0, .bool false] 35) (by repeat (first | exact Rem.head | apply Rem.tail)) (by repeat constructor) b6 rfl h, fun h => hS.sep (X := .blk x14 [.slice (some ⟨g, 0, none⟩) 24 24] 22) (Y := .blk b2 [.string ⟨#[]⟩, .string ⟨#[]⟩, .slice none 0 0, .bool false] 35) (by repeat (first | exact Rem.head | apply Rem.tail)) (by repeat constructor) x14 rfl h, Nat.ne_of_lt (Nat.lt_of_lt_of_le lg0 m2), Nat.ne_of_lt (Nat.lt_of_lt_of_le lm0 m2), fun h => hS.sep (X := .blk b1 [.slice (some ⟨g, 0, none⟩) 24 24] 22) (Y := .blk b3 [.int .i64 0] 3) (by repeat (first | exact Rem.head | apply Rem.tail)) (by repeat constructor) b1 rfl h, fun h => hS.sep (X := .blk b6 [.pointer (some ⟨b12, 0, none⟩)] 93) (Y := .blk b3 [.int .i64 0] 3) (by repeat (first | exact Rem.head | apply Rem.tail)) (by repeat constructor) b6 rfl h, fun h => hS.sep (X := .blk x14 [.slice (some ⟨g, 0, none⟩) 24 24] 22) (Y := .blk b3 [.int .i64 0] 3) (by repeat (first | exact Rem.head | apply Rem.tail)) (by repeat constructor) x14 rfl h, Nat.ne_of_lt (Nat.lt_of_lt_of_le lg0 m3), Nat.ne_of_lt (Nat.lt_of_lt_of_le lm0 m3), fun h => hS.sep (X := .blk b1 [.slice (some ⟨g, 0, none⟩) 24 24] 22) (Y := .blk b4 [.bool false] 4) (by repeat (first | exact Rem.head | apply Rem.tail)) (by repeat constructor) b1 rfl h, fun h => hS.sep (X := .blk b6 [.pointer (some ⟨b12, 0, none⟩)] 93) (Y := .blk b4 [.bool false] 4) (by repeat (first | exact Rem.head | apply Rem.tail)) (by repeat constructor) b6 rfl h, fun h => hS.sep (X := .blk x14 [.slice (some ⟨g, 0, none⟩) 24 24] 22) (Y := .blk b4 [.bool false] 4) (by repeat (first | exact Rem.head | apply Rem.tail)) (by repeat constructor) x14 rfl h, Nat.ne_of_lt (Nat.lt_of_lt_of_le lg0 m4), Nat.ne_of_lt (Nat.lt_of_lt_of_le lm0 m4), fun h => hS.sep (X := .blk b1 [.slice (some ⟨g, 0, none⟩) 24 24] 22) (Y := .blk b5 [.int .i64 0] 25) (by repeat (first | exact Rem.head | apply Rem.tail)) (by repeat constructor) b1 rfl h, fun h => hS.sep (X := .blk b6 [.pointer (some ⟨b12, 0, none⟩)] 93) (Y := .blk b5 [.int .i64 0] 25) (by repeat (first | exact Rem.head | apply Rem.tail)) (by repeat constructor) b6 rfl h, fun h => hS.sep (X := .blk x14 [.slice (some ⟨g, 0, none⟩) 24 24] 22) (Y := .blk b5 [.int .i64 0] 25) (by repeat (first | exact Rem.head | apply Rem.tail)) (by repeat constructor) x14 rfl h, Nat.ne_of_lt (Nat.lt_of_lt_of_le lg0 m5), Nat.ne_of_lt (Nat.lt_of_lt_of_le lm0 m5)⟩
  refine rangeFunc_E2 (α := Int × Value) hB (hS.sl.ev rfl) cf51 (lines_seq x14 (some ⟨g, 0, none⟩) 24 hreq (by decide) (fun _ => by decide)) (fun _ => rfl) (prI w0 g x14 b1 b2 b3 b4 b5 b6 b10 b12 m) (prX w0 b2 b3 b4 b5) (fun hi hh => prI_ab hB0 lx l1 l2 l3 l4 l5 l6 l12 (by omega) (by omega)) (fun hi c hh => prX_ab hB0 l2 l3 l4 l5)
    (fun hi pre W h => h.k) (fun hi hh => ⟨hS.chg, ⟨gx, gby⟩, ⟨g1, g6, gby, gcm⟩, g2, g3, g4, g5, .inl ⟨rfl, g12⟩⟩) ?_ ?_ ?_
  · intro hi l pre x W hh hhW hI hx
    obtain ⟨rst, hx⟩ := hx
    rw [items_req] at hx
    obtain ⟨cs0, cs1, ls, s, ov, hrn, hrd⟩ : ∃ cs0 cs1 ls s ov, rnd g b12 b10 m pre x cs0 cs1 ls s ov ∧ W.heap[b12]? = some (.cells cs0.toArray 96 (0, 0)) := by
      rcases hI.rd with ⟨rfl, q⟩ | ⟨rfl, q⟩
      · injection hx with e1 _; subst e1; exact ⟨_, _, _, _, _, rnd0 g b12 b10 m, q⟩
      · injection hx with _ e2; injection e2 with e1 _; subst e1; exact ⟨_, _, _, _, _, rnd1 g b12 b10 m, q⟩
    have hR : St 74 noB W ((a.put (some 15) (.int .i64 x.1)).put (some 16) x.2) W [(16, x.2), (15, .int .i64 x.1), (1, .pointer (some ⟨b1, 0, none⟩)), (2, .pointer (some ⟨b2, 0, none⟩)), (3, .pointer (some ⟨b3, 0, none⟩)), (4, .pointer (some ⟨b4, 0, none⟩)), (5, .pointer (some ⟨b5, 0, none⟩)), (6, .pointer (some ⟨b6, 0, none⟩))] [] :=
      ⟨((hS.sl.put rfl _).put rfl _).sub (by repeat (first | exact trivial | refine ⟨rfl, ?_⟩)), Chg.refl _ _, okN, disN, mineN⟩
    have hact : ({ tmps := (#[15, 16].zip (encI x)).foldl (fun t (p, v) => t.setIfInBounds p v) a.tmps, defers := [] } : Act) = (a.put (some 15) (.int .i64 x.1)).put (some 16) x.2 := by
      have hdf : a.defers = [] := hS.sl.defers
      simp [Act.put, hdf, encI]
    rw [hact]
    clear hS hact g12 g1 g2 g3 g4 g5 g6 gx gby gcm hB
    generalize (a.put (some 15) (.int .i64 x.1)).put (some 16) x.2 = a2 at hR ⊢
    clear a; rename Act => a
    clear w
    have hS := hR
    clear hR
    refine R_seq ?_
    refine R_region ?_
    refine R_op rfl (s_e hS (e_assign rfl) rfl ?_); clear hS a; intro a hS
    refine R_nil ?_
    refine n_then ?_
    refine R_region ?_
    refine R_op rfl (s_e hS (e_assign rfl) rfl ?_); clear hS a; intro a hS
    refine R_nil ?_
    refine n_then ?_
    have hCW := hS.chg
    have hC1 := hCW.size
    refine ⟨⟨hC1, fun k h1 h2 => hCW.block k (by omega) (fun h => h)⟩, fun W2 hT => ?_⟩
    have hT1 := hT.size
    have hlow : ∀ k, k < W.heap.size → (k < B ∨ hi ≤ k) → W2.heap[k]? = W.heap[k]? := fun k hk hk2 => (hT.same k (by omega)).trans (hCW.block k hk (fun h => h))
    have low : ∀ {k : Nat} {o : Obj}, k < B → W.heap[k]? = some o → W2.heap[k]? = some o := fun hk ho => (hlow _ (Array.getElem?_eq_some_iff.1 ho).1 (.inl hk)).trans ho
    have hby2 : ByAt (.slice (some ⟨g, 0, none⟩) 24 24) hreq W2 := hI.ro.by_.keep fun k hk => by obtain rfl := byF_is hk; exact hlow _ (by_in (by decide) hI.ro.by_) (.inl (by omega))
    have hcm2 : W2.cell? ⟨1, 0, none⟩ = some (.int .i64 m) := (ce_ok hI.ro.cm).hold W2 (fun k hk => by obtain rfl : k = 1 := hk; exact hlow _ ((ce_ok hI.ro.cm).lt _ rfl) (.inl (by omega)))
    have hR : St 74 (fun k => k = b12 ∨ k = b2 ∨ k = b3 ∨ k = b4 ∨ k = b5) W2 a W2 [(8, x.2), (7, .int .i64 x.1), (1, .pointer (some ⟨b1, 0, none⟩)), (2, .pointer (some ⟨b2, 0, none⟩)), (3, .pointer (some ⟨b3, 0, none⟩)), (4, .pointer (some ⟨b4, 0, none⟩)), (5, .pointer (some ⟨b5, 0, none⟩)), (6, .pointer (some ⟨b6, 0, none⟩))]
        [.blk b12 cs0 96, .blk b2 [.string ⟨#[]⟩, .string ⟨#[]⟩, .slice none 0 0, .bool false] 35, .blk b3 [.int .i64 0] 3, .blk b4 [.bool false] 4, .blk b5 [.int .i64 0] 25, roK g b1 b6 b12 m] :=
      ⟨hS.sl.sub (by repeat (first | exact trivial | refine ⟨rfl, ?_⟩)), Chg.refl _ _, okC (ok_blk (low l12 hrd)) (okC (ok_blk (low l2 hI.h2)) (okC (ok_blk (low l3 hI.h3)) (okC (ok_blk (low l4 hI.h4)) (okC (ok_blk (low l5 hI.h5)) (okC (ro_ok ⟨low l1 hI.ro.h1, low l6 hI.ro.h6, hby2, hcm2⟩) okN))))),
       (disC (sepC (fun b h1 h2 => hN.n12_2 (h1.symm.trans h2)) (sepC (fun b h1 h2 => hN.n12_3 (h1.symm.trans h2)) (sepC (fun b h1 h2 => hN.n12_4 (h1.symm.trans h2)) (sepC (fun b h1 h2 => hN.n12_5 (h1.symm.trans h2)) (sepC (fun b h1 h2 => h2.elim (fun h => hN.n1_12 (h.symm.trans h1)) fun h2 => h2.elim (fun h => hN.n6_12 (h.symm.trans h1)) fun h2 => h2.elim (fun h => hN.ng_12 (h.symm.trans h1)) fun h => hN.nc_12 (h.symm.trans h1)) sepN))))) (disC (sepC (fun b h1 h2 => hN.n2_3 (h1.symm.trans h2)) (sepC (fun b h1 h2 => hN.n2_4 (h1.symm.trans h2)) (sepC (fun b h1 h2 => hN.n2_5 (h1.symm.trans h2)) (sepC (fun b h1 h2 => h2.elim (fun h => hN.n1_2 (h.symm.trans h1)) fun h2 => h2.elim (fun h => hN.n6_2 (h.symm.trans h1)) fun h2 => h2.elim (fun h => hN.ng_2 (h.symm.trans h1)) fun h => hN.nc_2 (h.symm.trans h1)) sepN)))) (disC (sepC (fun b h1 h2 => hN.n3_4 (h1.symm.trans h2)) (sepC (fun b h1 h2 => hN.n3_5 (h1.symm.trans h2)) (sepC (fun b h1 h2 => h2.elim (fun h => hN.n1_3 (h.symm.trans h1)) fun h2 => h2.elim (fun h => hN.n6_3 (h.symm.trans h1)) fun h2 => h2.elim (fun h => hN.ng_3 (h.symm.trans h1)) fun h => hN.nc_3 (h.symm.trans h1)) sepN))) (disC (sepC (fun b h1 h2 => hN.n4_5 (h1.symm.trans h2)) (sepC (fun b h1 h2 => h2.elim (fun h => hN.n1_4 (h.symm.trans h1)) fun h2 => h2.elim (fun h => hN.n6_4 (h.symm.trans h1)) fun h2 => h2.elim (fun h => hN.ng_4 (h.symm.trans h1)) fun h => hN.nc_4 (h.symm.trans h1)) sepN)) (disC (sepC (fun b h1 h2 => h2.elim (fun h => hN.n1_5 (h.symm.trans h1)) fun h2 => h2.elim (fun h => hN.n6_5 (h.symm.trans h1)) fun h2 => h2.elim (fun h => hN.ng_5 (h.symm.trans h1)) fun h => hN.nc_5 (h.symm.trans h1)) sepN) dis1))))),
       mineO (fun b hb => .inl hb) (mineO (fun b hb => .inr (.inl hb)) (mineO (fun b hb => .inr (.inr (.inl hb))) (mineO (fun b hb => .inr (.inr (.inr (.inl hb)))) (mineO (fun b hb => .inr (.inr (.inr (.inr hb)))) (mineC rfl mineN)))))⟩
    clear hS
    have hS := hR
    clear hR
    refine R_block ?_
    refine R_seq ?_
    refine R_seq ?_
    refine R_region ?_
    refine R_op rfl (s_e hS (e_move rfl) rfl ?_); clear hS a; intro a hS
    refine R_op rfl (s_e hS (e_bin rfl rfl rfl) rfl ?_); clear hS a; intro a hS
    refine R_nil ?_
    refine n_then ?_
    replace hS := hS.is (t := 18) (c := false) rfl ((decide_eq_false (by have := hrn.pos; omega)))
    refine R_if_f hS rfl ?_
    refine R_skip ?_
    refine n_then ?_
    refine R_seq ?_
    refine R_seq ?_
    refine R_region ?_
    refine R_op rfl (s_e hS (e_loadC rfl ty_sc93 (fun w hh => cell_of_blk (cs := [.pointer (some ⟨b12, 0, none⟩)]) (hh (roK g b1 b6 b12 m) (by repeat constructor)).h6 rfl)) rfl ?_); clear hS a; intro a hS
    refine R_op rfl (s_e hS (e_move rfl) rfl ?_); clear hS a; intro a hS
    refine R_op rfl (s_e hS (e_str rfl ty_sl22 ty_u5 ty_u9 (fun w hh => hrn.at_ w (hh (roK g b1 b6 b12 m) (by repeat constructor)).by_)) rfl ?_); clear hS a; intro a hS
    rw [hrn.str] at hS
    refine R_op rfl (s_callM hS (.cons rfl (.cons rfl .nil)) cf39 rfl (hrn.rl _ (hS.get (X := .blk b12 cs0 96) (by repeat constructor)) (hS.get (X := roK g b1 b6 b12 m) (by repeat constructor)).cm (fun e => hN.nc_12 e.symm)) (fun x => (by repeat constructor)) rfl ?_); clear hS a; (try clear w); intro x25 a w hS
    refine R_op rfl (s_e hS (e_assign rfl) rfl ?_); clear hS a; intro a hS
    refine R_nil ?_
    refine n_then ?_
    refine R_seq ?_
    refine R_region ?_
    refine R_op rfl (s_e hS (e_move rfl) rfl ?_); clear hS a; intro a hS
    refine R_op rfl (s_e hS (e_bin rfl rfl rfl) rfl ?_); clear hS a; intro a hS
    refine R_nil ?_
    refine n_then ?_
    replace hS := hS.is (t := 27) (c := false) rfl ((by decide))
    refine R_if_f hS rfl ?_
    refine R_skip ?_
    refine n_then ?_
    refine R_seq ?_
    refine R_seq ?_
    refine R_region ?_
    refine R_op rfl (s_e hS (e_loadC rfl ty_sc93 (fun w hh => cell_of_blk (cs := [.pointer (some ⟨b12, 0, none⟩)]) (hh (roK g b1 b6 b12 m) (by repeat constructor)).h6 rfl)) rfl ?_); clear hS a; intro a hS
    refine R_op rfl (s_e hS (e_nilCheck rfl) rfl ?_); clear hS a; intro a hS
    first | (refine R_op rfl (s_e hS (e_fa0 rfl ty_fo96_4) rfl ?_); clear hS a; intro a hS) | (refine R_op rfl (s_e hS (e_faK rfl ty_fo96_4) rfl ?_); clear hS a; intro a hS)
    refine R_op rfl (s_e hS (e_load rfl (by repeat constructor) ty_sc4 hrn.over) rfl ?_); clear hS a; intro a hS
    refine R_op rfl (s_e hS (e_not rfl) rfl ?_); clear hS a; intro a hS
    refine R_nil ?_
    refine n_then ?_
    first | refine R_ifD hS rfl (fun hc34 => ?_) (fun hc34 => ?_) | refine R_if hS rfl (fun hc34 => ?_) (fun hc34 => ?_)
    ·
      obtain rfl : ov = false := by cases ov <;> first | rfl | cases hc34
      refine R_exit ?_
      refine x_then (x_hit ?_)
      have hC3 := hS.chg
      obtain ⟨hpre, hcs⟩ := hrn.no rfl
      have hrd2 := hS.get (X := .blk b12 cs1 96) (by repeat constructor)
      rw [hcs] at hrd2
      have hro := hS.get (X := roK g b1 b6 b12 m) (by repeat constructor)
      have hx := (hC3.block x14 (by omega) (fun h => h.elim hN.nx_12 fun h => h.elim hN.nx_2 fun h => h.elim hN.nx_3 fun h => h.elim hN.nx_4 hN.nx_5)).trans (low lx hI.k.1)
      exact ⟨⟨hC3.size, fun k h1 h2 => hC3.block k (by omega) (by rintro (h | h | h | h | h) <;> omega)⟩, ⟨chg_turn hI.chg hB0 hCW hT hC3 (by rintro k (h | h | h | h | h) <;> omega), ⟨hx, hro.by_⟩, hro, hS.get (X := .blk b2 [.string ⟨#[]⟩, .string ⟨#[]⟩, .slice none 0 0, .bool false] 35) (by repeat constructor), hS.get (X := .blk b3 [.int .i64 0] 3) (by repeat constructor), hS.get (X := .blk b4 [.bool false] 4) (by repeat constructor), hS.get (X := .blk b5 [.int .i64 0] 25) (by repeat constructor), .inr ⟨hpre, hrd2⟩⟩⟩
    ·
      obtain rfl : ov = true := by cases ov <;> first | rfl | exact absurd rfl hc34 | cases hc34
      obtain ⟨hx1, hcs⟩ := hrn.yes rfl
      rw [hx1] at hS
      subst hcs
      unfold rdC at hS
      refine R_skip ?_
      refine n_then ?_
      refine R_seq ?_
      refine R_seq ?_
      refine R_draw1 (by kernel_rfl) (by rintro ⟨_, _, h⟩; exact h) [] (by kernel_rfl) hS ?_; clear hS; (try clear w); intro w hS
      simp only [List.length_cons, List.length_nil, Nat.zero_add, Nat.reduceAdd, List.replicate]
      refine Z_take (i := 0) hS rfl want_none (e_loadC rfl ty_sc22 (fun w hh => cell_of_blk (cs := [.slice (some ⟨g, 0, none⟩) 24 24]) (hh (roK g b1 b6 b12 m) (by repeat constructor)).h1 rfl)) (listed' := [true, false, false, false, false, false, false, false, false]) rfl (by kernel_rfl) (by kernel_rfl) (by kernel_rfl) (by kernel_rfl) (by kernel_rfl) (by intro X hX; repeat (first | exact hX | apply List.Mem.tail)) (fun _ _ _ h => h) rfl ?_; clear hS a; intro a hS
      refine Z_take0 (i := 1) hS rfl want_none (e_len rfl rfl ty_sl22) (listed' := [true, true, false, false, false, false, false, false, false]) rfl (by kernel_rfl) (by kernel_rfl) (by kernel_rfl) (fun _ _ _ h => h) rfl ?_; clear hS a; intro a hS
      refine Z_take0 (i := 2) hS rfl want_none (e_move rfl) (listed' := [true, true, true, false, false, false, false, false, false]) rfl (by kernel_rfl) (by kernel_rfl) (by kernel_rfl) (fun _ _ _ h => h) rfl ?_; clear hS a; intro a hS
      first | (refine Z_take0 (i := 3) hS rfl want_none (e_binN rfl rfl rfl (by omega)) (listed' := [true, true, true, true, false, false, false, false, false]) rfl (by kernel_rfl) (by kernel_rfl) (by kernel_rfl) (fun _ _ _ h => h) rfl ?_; clear hS a; intro a hS) | (refine Z_take0 (i := 3) hS rfl want_none (e_bin rfl rfl rfl) (listed' := [true, true, true, true, false, false, false, false, false]) rfl (by kernel_rfl) (by kernel_rfl) (by kernel_rfl) (fun _ _ _ h => h) rfl ?_; clear hS a; intro a hS)
      refine Z_take (i := 4) hS rfl want_none (e_loadC rfl ty_sc93 (fun w hh => cell_of_blk (cs := [.pointer (some ⟨b12, 0, none⟩)]) (hh (roK g b1 b6 b12 m) (by repeat constructor)).h6 rfl)) (listed' := [true, true, true, true, true, false, false, false, false]) rfl (by kernel_rfl) (by kernel_rfl) (by kernel_rfl) (by kernel_rfl) (by kernel_rfl) (by intro X hX; repeat (first | exact hX | apply List.Mem.tail)) (fun _ _ _ h => h) rfl ?_; clear hS a; intro a hS
      refine Z_take0 (i := 5) hS rfl want_none (e_nilCheck rfl) (listed' := [true, true, true, true, true, true, false, false, false]) rfl (by kernel_rfl) (by kernel_rfl) (by kernel_rfl) (fun _ _ _ h => h) rfl ?_; clear hS a; intro a hS
      first | (refine Z_take0 (i := 6) hS rfl want_none (e_fa0 rfl ty_fo96_2) (listed' := [true, true, true, true, true, true, true, false, false]) rfl (by kernel_rfl) (by kernel_rfl) (by kernel_rfl) (fun _ _ _ h => h) rfl ?_; clear hS a; intro a hS) | (refine Z_take0 (i := 6) hS rfl want_none (e_faK rfl ty_fo96_2) (listed' := [true, true, true, true, true, true, true, false, false]) rfl (by kernel_rfl) (by kernel_rfl) (by kernel_rfl) (fun _ _ _ h => h) rfl ?_; clear hS a; intro a hS)
      refine Z_take (i := 7) hS rfl want_none (e_load rfl (by repeat constructor) ty_sc3 (by rfl)) (listed' := [true, true, true, true, true, true, true, true, false]) rfl (by kernel_rfl) (by kernel_rfl) (by kernel_rfl) (by kernel_rfl) (by kernel_rfl) (by intro X hX; repeat (first | exact hX | apply List.Mem.tail)) (fun _ _ _ h => h) rfl ?_; clear hS a; intro a hS
      refine Z_take0 (i := 8) hS rfl want_none (e_bin rfl rfl rfl) (listed' := [true, true, true, true, true, true, true, true, true]) rfl (by kernel_rfl) (by kernel_rfl) (by kernel_rfl) (fun _ _ _ h => h) rfl ?_; clear hS a; intro a hS
      refine Z_done (by kernel_rfl) ?_
      refine n_then ?_
      replace hS := hS.is (t := 43) (c := false) rfl ((by decide))
      refine R_if_f hS rfl ?_
      refine R_skip ?_
      refine n_then ?_
      refine R_seq ?_
      refine R_drawS (by kernel_rfl) (by rintro ⟨_, _, h⟩; exact h) [19] (by kernel_rfl) hS (sub_cons (X := .blk b12 [.string sGet, .string sHealth, .slice none 0 0, .bool false, .int .i64 2, .int .i64 0, .map (some b10), .bool true] 96) (by repeat constructor) (sub_cons (X := roK g b1 b6 b12 m) (by repeat constructor) sub_nil)) ?_; clear hS; (try clear w); intro w hS
      simp only [List.length_cons, List.length_nil, Nat.zero_add, Nat.reduceAdd, List.replicate]
      refine Z_take (i := 0) hS rfl want_none (e_loadC rfl ty_sc93 (fun w hh => cell_of_blk (cs := [.pointer (some ⟨b12, 0, none⟩)]) (hh (roK g b1 b6 b12 m) (by repeat constructor)).h6 rfl)) (listed' := [true, false, false, false, false, false, false, false, false, false, false, false, false, false, false, false, false, false, false, false]) rfl (by kernel_rfl) (by kernel_rfl) (by kernel_rfl) (by kernel_rfl) (by kernel_rfl) (sub_cons (by repeat constructor) (sub_cons (by repeat constructor) sub_nil)) (fun _ _ _ h => h) rfl ?_; clear hS a; intro a hS
      refine Z_take (i := 1) hS rfl want_none (e_loadC rfl ty_sc93 (fun w hh => cell_of_blk (cs := [.pointer (some ⟨b12, 0, none⟩)]) (hh (roK g b1 b6 b12 m) (by repeat constructor)).h6 rfl)) (listed' := [true, true, false, false, false, false, false, false, false, false, false, false, false, false, false, false, false, false, false, false]) rfl (by kernel_rfl) (by kernel_rfl) (by kernel_rfl) (by kernel_rfl) (by kernel_rfl) (sub_cons (by repeat constructor) (sub_cons (by repeat constructor) sub_nil)) (fun _ _ _ h => h) rfl ?_; clear hS a; intro a hS
      refine Z_take0 (i := 2) hS rfl want_none (e_nilCheck rfl) (listed' := [true, true, true, false, false, false, false, false, false, false, false, false, false, false, false, false, false, false, false, false]) rfl (by kernel_rfl) (by kernel_rfl) (by kernel_rfl) (fun _ _ _ h => h) rfl ?_; clear hS a; intro a hS
      first | (refine Z_take0 (i := 3) hS rfl want_none (e_fa0 rfl ty_fo96_2) (listed' := [true, true, true, true, false, false, false, false, false, false, false, false, false, false, false, false, false, false, false, false]) rfl (by kernel_rfl) (by kernel_rfl) (by kernel_rfl) (fun _ _ _ h => h) rfl ?_; clear hS a; intro a hS) | (refine Z_take0 (i := 3) hS rfl want_none (e_faK rfl ty_fo96_2) (listed' := [true, true, true, true, false, false, false, false, false, false, false, false, false, false, false, false, false, false, false, false]) rfl (by kernel_rfl) (by kernel_rfl) (by kernel_rfl) (fun _ _ _ h => h) rfl ?_; clear hS a; intro a hS)
      refine Z_take (i := 4) hS rfl want_none (e_load rfl (by repeat constructor) ty_sc3 (by rfl)) (listed' := [true, true, true, true, true, false, false, false, false, false, false, false, false, false, false, false, false, false, false, false]) rfl (by kernel_rfl) (by kernel_rfl) (by kernel_rfl) (by kernel_rfl) (by kernel_rfl) (sub_cons (by repeat constructor) (sub_cons (by repeat constructor) sub_nil)) (fun _ _ _ h => h) rfl ?_; clear hS a; intro a hS
      refine Z_take (i := 6) hS rfl want_none (e_loadC rfl ty_sc22 (fun w hh => cell_of_blk (cs := [.slice (some ⟨g, 0, none⟩) 24 24]) (hh (roK g b1 b6 b12 m) (by repeat constructor)).h1 rfl)) (listed' := [true, true, true, true, true, false, true, false, false, false, false, false, false, false, false, false, false, false, false, false]) rfl (by kernel_rfl) (by kernel_rfl) (by kernel_rfl) (by kernel_rfl) (by kernel_rfl) (sub_cons (by repeat constructor) (sub_cons (by repeat constructor) sub_nil)) (fun _ _ _ h => h) rfl ?_; clear hS a; intro a hS
      refine Z_take0 (i := 7) hS rfl want_none (e_move rfl) (listed' := [true, true, true, true, true, false, true, true, false, false, false, false, false, false, false, false, false, false, false, false]) rfl (by kernel_rfl) (by kernel_rfl) (by kernel_rfl) (fun _ _ _ h => h) rfl ?_; clear hS a; intro a hS
      refine Z_take0 (i := 8) hS rfl want_none (e_move rfl) (listed' := [true, true, true, true, true, false, true, true, true, false, false, false, false, false, false, false, false, false, false, false]) rfl (by kernel_rfl) (by kernel_rfl) (by kernel_rfl) (fun _ _ _ h => h) rfl ?_; clear hS a; intro a hS
      refine Z_take (i := 9) hS rfl want_none (e_loadC rfl ty_sc93 (fun w hh => cell_of_blk (cs := [.pointer (some ⟨b12, 0, none⟩)]) (hh (roK g b1 b6 b12 m) (by repeat constructor)).h6 rfl)) (listed' := [true, true, true, true, true, false, true, true, true, true, false, false, false, false, false, false, false, false, false, false]) rfl (by kernel_rfl) (by kernel_rfl) (by kernel_rfl) (by kernel_rfl) (by kernel_rfl) (sub_cons (by repeat constructor) (sub_cons (by repeat constructor) sub_nil)) (fun _ _ _ h => h) rfl ?_; clear hS a; intro a hS
      refine Z_take0 (i := 10) hS rfl want_none (e_nilCheck rfl) (listed' := [true, true, true, true, true, false, true, true, true, true, true, false, false, false, false, false, false, false, false, false]) rfl (by kernel_rfl) (by kernel_rfl) (by kernel_rfl) (fun _ _ _ h => h) rfl ?_; clear hS a; intro a hS
      first | (refine Z_take0 (i := 11) hS rfl want_none (e_fa0 rfl ty_fo96_2) (listed' := [true, true, true, true, true, false, true, true, true, true, true, true, false, false, false, false, false, false, false, false]) rfl (by kernel_rfl) (by kernel_rfl) (by kernel_rfl) (fun _ _ _ h => h) rfl ?_; clear hS a; intro a hS) | (refine Z_take0 (i := 11) hS rfl want_none (e_faK rfl ty_fo96_2) (listed' := [true, true, true, true, true, false, true, true, true, true, true, true, false, false, false, false, false, false, false, false]) rfl (by kernel_rfl) (by kernel_rfl) (by kernel_rfl) (fun _ _ _ h => h) rfl ?_; clear hS a; intro a hS)
      refine Z_take (i := 12) hS rfl want_none (e_load rfl (by repeat constructor) ty_sc3 (by rfl)) (listed' := [true, true, true, true, true, false, true, true, true, true, true, true, true, false, false, false, false, false, false, false]) rfl (by kernel_rfl) (by kernel_rfl) (by kernel_rfl) (by kernel_rfl) (by kernel_rfl) (sub_cons (by repeat constructor) (sub_cons (by repeat constructor) sub_nil)) (fun _ _ _ h => h) rfl ?_; clear hS a; intro a hS
      first | (refine Z_take0 (i := 13) hS rfl want_none (e_binN rfl rfl rfl (by omega)) (listed' := [true, true, true, true, true, false, true, true, true, true, true, true, true, true, false, false, false, false, false, false]) rfl (by kernel_rfl) (by kernel_rfl) (by kernel_rfl) (fun _ _ _ h => h) rfl ?_; clear hS a; intro a hS) | (refine Z_take0 (i := 13) hS rfl want_none (e_bin rfl rfl rfl) (listed' := [true, true, true, true, true, false, true, true, true, true, true, true, true, true, false, false, false, false, false, false]) rfl (by kernel_rfl) (by kernel_rfl) (by kernel_rfl) (fun _ _ _ h => h) rfl ?_; clear hS a; intro a hS)
      refine Z_take0 (i := 14) hS rfl want_none (e_slB (i := 24) (j := 24) rfl rfl rfl ty_sl22 ty_sz5 (by decide)) (listed' := [true, true, true, true, true, false, true, true, true, true, true, true, true, true, true, false, false, false, false, false]) rfl (by kernel_rfl) (by kernel_rfl) (by kernel_rfl) (fun _ _ _ h => h) rfl ?_; clear hS a; intro a hS
      refine Z_one (i := 5) rfl (want_none a hS.sl) (listed' := [true, true, true, true, true, true, true, true, true, true, true, true, true, true, true, false, false, false, false, false]) rfl (by kernel_rfl) (s_make0 (c := 0) hS rfl rfl ty_sl22 ty_sz5 ty_by5 ty_z5 rfl (by decide) ?_); clear hS a; (try clear w); intro x49 a w hS
      refine Z_and hS (sub_cons (by repeat constructor) (sub_cons (by repeat constructor) sub_nil)) ?_
      refine Z_one (i := 15) rfl (want_none a hS.sl) (listed' := [true, true, true, true, true, true, true, true, true, true, true, true, true, true, true, true, false, false, false, false]) rfl (by kernel_rfl) (s_appendL hS rfl rfl ty_sl22 ty_sz5 ty_by5 ty_z5 rfl rfl rfl (by repeat constructor) (ys := []) rfl (.inl ⟨rfl, rfl⟩) (fun u hu => by cases hu) (by omega) (fun _ => (by repeat constructor)) ?_); clear hS a; (try clear w); intro v59 a w hv59 hS
      obtain ⟨q59, c59, rfl⟩ := own_slice (hS.get (X := ownA 5 1 v59 (0 + 0) ([] ++ [])) (by repeat constructor))
      refine Z_and hS (sub_cons (by repeat constructor) (sub_cons (by repeat constructor) sub_nil)) ?_
      refine Z_take0 (i := 16) hS rfl want_none (e_nilCheck rfl) (listed' := [true, true, true, true, true, true, true, true, true, true, true, true, true, true, true, true, true, false, false, false]) rfl (by kernel_rfl) (by kernel_rfl) (by kernel_rfl) (fun _ _ _ h => h) rfl ?_; clear hS a; intro a hS
      first | (refine Z_take0 (i := 17) hS rfl want_none (e_fa0 rfl ty_fo96_0) (listed' := [true, true, true, true, true, true, true, true, true, true, true, true, true, true, true, true, true, true, false, false]) rfl (by kernel_rfl) (by kernel_rfl) (by kernel_rfl) (fun _ _ _ h => h) rfl ?_; clear hS a; intro a hS) | (refine Z_take0 (i := 17) hS rfl want_none (e_faK rfl ty_fo96_0) (listed' := [true, true, true, true, true, true, true, true, true, true, true, true, true, true, true, true, true, true, false, false]) rfl (by kernel_rfl) (by kernel_rfl) (by kernel_rfl) (fun _ _ _ h => h) rfl ?_; clear hS a; intro a hS)
      first | (refine Z_take0 (i := 18) hS rfl want_none (e_fa0 rfl ty_fo35_2) (listed' := [true, true, true, true, true, true, true, true, true, true, true, true, true, true, true, true, true, true, true, false]) rfl (by kernel_rfl) (by kernel_rfl) (by kernel_rfl) (fun _ _ _ h => h) rfl ?_; clear hS a; intro a hS) | (refine Z_take0 (i := 18) hS rfl want_none (e_faK rfl ty_fo35_2) (listed' := [true, true, true, true, true, true, true, true, true, true, true, true, true, true, true, true, true, true, true, false]) rfl (by kernel_rfl) (by kernel_rfl) (by kernel_rfl) (fun _ _ _ h => h) rfl ?_; clear hS a; intro a hS)
      refine Z_one (i := 19) rfl (want_none a hS.sl) (listed' := [true, true, true, true, true, true, true, true, true, true, true, true, true, true, true, true, true, true, true, true]) rfl (by kernel_rfl) (s_store hS rfl rfl rfl ty_sz22 (by repeat constructor) (by repeat constructor) ?_); clear hS; (try clear w); intro w hS
      refine Z_last (by simp) ?_
      refine Z_done (by kernel_rfl) ?_
      refine n_then ?_
      refine R_seq ?_
      refine R_drawS (by kernel_rfl) (by rintro ⟨_, _, h⟩; exact h) [] (by kernel_rfl) hS (sub_cons (X := .blk b12 [.string sGet, .string sHealth, .slice q59 (0 + 0) c59, .bool false, .int .i64 2, .int .i64 0, .map (some b10), .bool true] 96) (by repeat constructor) (sub_cons (X := roK g b1 b6 b12 m) (by repeat constructor) sub_nil)) ?_; clear hS; (try clear w); intro w hS
      simp only [List.length_cons, List.length_nil, Nat.zero_add, Nat.reduceAdd, List.replicate]
      refine Z_take (i := 0) hS rfl want_none (e_loadC rfl ty_sc93 (fun w hh => cell_of_blk (cs := [.pointer (some ⟨b12, 0, none⟩)]) (hh (roK g b1 b6 b12 m) (by repeat constructor)).h6 rfl)) (listed' := [true, false, false, false, false, false, false, false, false, false, false, false, false, false]) rfl (by kernel_rfl) (by kernel_rfl) (by kernel_rfl) (by kernel_rfl) (by kernel_rfl) (sub_cons (by repeat constructor) (sub_cons (by repeat constructor) sub_nil)) (fun _ _ _ h => h) rfl ?_; clear hS a; intro a hS
      refine Z_take0 (i := 1) hS rfl want_none (e_nilCheck rfl) (listed' := [true, true, false, false, false, false, false, false, false, false, false, false, false, false]) rfl (by kernel_rfl) (by kernel_rfl) (by kernel_rfl) (fun _ _ _ h => h) rfl ?_; clear hS a; intro a hS
      first | (refine Z_take0 (i := 2) hS rfl want_none (e_fa0 rfl ty_fo96_0) (listed' := [true, true, true, false, false, false, false, false, false, false, false, false, false, false]) rfl (by kernel_rfl) (by kernel_rfl) (by kernel_rfl) (fun _ _ _ h => h) rfl ?_; clear hS a; intro a hS) | (refine Z_take0 (i := 2) hS rfl want_none (e_faK rfl ty_fo96_0) (listed' := [true, true, true, false, false, false, false, false, false, false, false, false, false, false]) rfl (by kernel_rfl) (by kernel_rfl) (by kernel_rfl) (fun _ _ _ h => h) rfl ?_; clear hS a; intro a hS)
      refine Z_take (i := 3) hS rfl want_none (e_loadSub (b := b12) (cs := [.string sGet, .string sHealth, .slice q59 (0 + 0) c59, .bool false, .int .i64 2, .int .i64 0, .map (some b10), .bool true]) (l := [.string sGet, .string sHealth, .slice q59 (0 + 0) c59, .bool false]) rfl (by repeat constructor) ty_st35 ty_sz35 rfl) (listed' := [true, true, true, true, false, false, false, false, false, false, false, false, false, false]) rfl (by kernel_rfl) (by kernel_rfl) (by kernel_rfl) (by kernel_rfl) (by kernel_rfl) (sub_cons (by repeat constructor) (sub_cons (by repeat constructor) sub_nil)) (fun _ _ _ h => h) rfl ?_; clear hS a; intro a hS
      refine Z_take0 (i := 4) hS rfl want_none (e_move rfl) (listed' := [true, true, true, true, true, false, false, false, false, false, false, false, false, false]) rfl (by kernel_rfl) (by kernel_rfl) (by kernel_rfl) (fun _ _ _ h => h) rfl ?_; clear hS a; intro a hS
      refine Z_take (i := 5) hS rfl want_none (e_loadC rfl ty_sc93 (fun w hh => cell_of_blk (cs := [.pointer (some ⟨b12, 0, none⟩)]) (hh (roK g b1 b6 b12 m) (by repeat constructor)).h6 rfl)) (listed' := [true, true, true, true, true, true, false, false, false, false, false, false, false, false]) rfl (by kernel_rfl) (by kernel_rfl) (by kernel_rfl) (by kernel_rfl) (by kernel_rfl) (sub_cons (by repeat constructor) (sub_cons (by repeat constructor) sub_nil)) (fun _ _ _ h => h) rfl ?_; clear hS a; intro a hS
      refine Z_take0 (i := 6) hS rfl want_none (e_nilCheck rfl) (listed' := [true, true, true, true, true, true, true, false, false, false, false, false, false, false]) rfl (by kernel_rfl) (by kernel_rfl) (by kernel_rfl) (fun _ _ _ h => h) rfl ?_; clear hS a; intro a hS
      first | (refine Z_take0 (i := 7) hS rfl want_none (e_fa0 rfl ty_fo96_2) (listed' := [true, true, true, true, true, true, true, true, false, false, false, false, false, false]) rfl (by kernel_rfl) (by kernel_rfl) (by kernel_rfl) (fun _ _ _ h => h) rfl ?_; clear hS a; intro a hS) | (refine Z_take0 (i := 7) hS rfl want_none (e_faK rfl ty_fo96_2) (listed' := [true, true, true, true, true, true, true, true, false, false, false, false, false, false]) rfl (by kernel_rfl) (by kernel_rfl) (by kernel_rfl) (fun _ _ _ h => h) rfl ?_; clear hS a; intro a hS)
      refine Z_take (i := 8) hS rfl want_none (e_load rfl (by repeat constructor) ty_sc3 (by rfl)) (listed' := [true, true, true, true, true, true, true, true, true, false, false, false, false, false]) rfl (by kernel_rfl) (by kernel_rfl) (by kernel_rfl) (by kernel_rfl) (by kernel_rfl) (sub_cons (by repeat constructor) (sub_cons (by repeat constructor) sub_nil)) (fun _ _ _ h => h) rfl ?_; clear hS a; intro a hS
      first | (refine Z_take0 (i := 9) hS rfl want_none (e_binN rfl rfl rfl (by omega)) (listed' := [true, true, true, true, true, true, true, true, true, true, false, false, false, false]) rfl (by kernel_rfl) (by kernel_rfl) (by kernel_rfl) (fun _ _ _ h => h) rfl ?_; clear hS a; intro a hS) | (refine Z_take0 (i := 9) hS rfl want_none (e_bin rfl rfl rfl) (listed' := [true, true, true, true, true, true, true, true, true, true, false, false, false, false]) rfl (by kernel_rfl) (by kernel_rfl) (by kernel_rfl) (fun _ _ _ h => h) rfl ?_; clear hS a; intro a hS)
      refine Z_one (i := 10) rfl (want_none a hS.sl) (listed' := [true, true, true, true, true, true, true, true, true, true, true, false, false, false]) rfl (by kernel_rfl) (s_storeA hS rfl rfl ty_sz35 (by repeat constructor) (by rfl) (by rfl) (by rfl) ?_); clear hS; (try clear w); intro w hS
      refine Z_and hS (sub_cons (by repeat constructor) (sub_cons (by repeat constructor) sub_nil)) ?_
      refine Z_one (i := 11) rfl (want_none a hS.sl) (listed' := [true, true, true, true, true, true, true, true, true, true, true, true, false, false]) rfl (by kernel_rfl) (s_store hS rfl rfl rfl ty_sz3 (by repeat constructor) (by repeat constructor) ?_); clear hS; (try clear w); intro w hS
      refine Z_and hS (sub_cons (by repeat constructor) (sub_cons (by repeat constructor) sub_nil)) ?_
      refine Z_one (i := 12) rfl (want_none a hS.sl) (listed' := [true, true, true, true, true, true, true, true, true, true, true, true, true, false]) rfl (by kernel_rfl) (s_store hS rfl rfl rfl ty_sz4 (by repeat constructor) (by repeat constructor) ?_); clear hS; (try clear w); intro w hS
      refine Z_and hS (sub_cons (by repeat constructor) (sub_cons (by repeat constructor) sub_nil)) ?_
      refine Z_one (i := 13) rfl (want_none a hS.sl) (listed' := [true, true, true, true, true, true, true, true, true, true, true, true, true, true]) rfl (by kernel_rfl) (s_store hS rfl rfl rfl ty_sz25 (by repeat constructor) (by repeat constructor) ?_); clear hS; (try clear w); intro w hS
      refine Z_and hS (sub_cons (by repeat constructor) (sub_cons (by repeat constructor) sub_nil)) ?_
      refine Z_done (by kernel_rfl) ?_
      refine n_then ?_
      refine R_ret ?_
      refine r_block ?_
      have hC3 := hS.chg
      rw [show (24 : Int) + 0 = 24 from rfl] at hS
      exact ⟨⟨hC3.size, fun k h1 h2 => hC3.block k (by omega) (by rintro (h | h | h | h | h) <;> omega)⟩, ⟨chg_turn hI.chg hB0 hCW hT hC3 (by rintro k (h | h | h | h | h) <;> omega), rfl, (q59, c59), hS.get (X := .blk b2 [.string sGet, .string sHealth, .slice q59 (0 + 0) c59, .bool false] 35) (by repeat constructor), hS.get (X := .blk b3 [.int .i64 24] 3) (by repeat constructor), hS.get (X := .blk b4 [.bool true] 4) (by repeat constructor), hS.get (X := .blk b5 [.int .i64 0] 25) (by repeat constructor)⟩⟩
  · intro hi D xs W hh hBD hDh hxs hI hDc
    exfalso
    have hxs2 : xs = itemsW (some ⟨g, 0, none⟩) 24 hreq 0 := hxs
    rw [items_req] at hxs2
    rcases hI.rd with ⟨e, _⟩ | ⟨e, _⟩
    · rw [hxs2] at e; cases e
    · rw [hxs2] at e; injection e with _ e2; cases e2
  · intro hi D c pre W hh hBD hDh hSp hX hDc
    obtain rfl := hX.ret
    obtain ⟨x, q2, q3, q4, q5⟩ := hX.got
    have hd : St 74 noB w0 a W [(2, .pointer (some ⟨b2, 0, none⟩)), (3, .pointer (some ⟨b3, 0, none⟩)), (4, .pointer (some ⟨b4, 0, none⟩)), (5, .pointer (some ⟨b5, 0, none⟩))] [.blk b2 [.string sGet, .string sHealth, .slice x.1 0 x.2, .bool false] 35, .blk b3 [.int .i64 24] 3, .blk b4 [.bool true] 4, .blk b5 [.int .i64 0] 25] :=
      ⟨hS.sl.sub (by repeat (first | exact trivial | refine ⟨rfl, ?_⟩)), hX.chg, okC (ok_blk q2) (okC (ok_blk q3) (okC (ok_blk q4) (okC (ok_blk q5) okN))), disC (sepC (fun b h1 h2 => hN.n2_3 (h1.symm.trans h2)) (sepC (fun b h1 h2 => hN.n2_4 (h1.symm.trans h2)) (sepC (fun b h1 h2 => hN.n2_5 (h1.symm.trans h2)) sepN)))
        (disC (sepC (fun b h1 h2 => hN.n3_4 (h1.symm.trans h2)) (sepC (fun b h1 h2 => hN.n3_5 (h1.symm.trans h2)) sepN)) (disC (sepC (fun b h1 h2 => hN.n4_5 (h1.symm.trans h2)) sepN) dis1)),
       four_mine m2 m3 m4 m5⟩
    refine R_ret ?_
    refine r_block (r_then ?_)
    have hd3 := hd.putD (D := D) (o := .deferred none) (by omega) (four_ne (by omega) (by omega) (by omega) (by omega))
    exact endN hd3 (.inl rfl) hDc Tryz.results22 (.cons (.cellA rfl (by repeat constructor) ty_st35 ty_sz35 rfl) (.cons (.cell rfl (by repeat constructor) ty_sc3 rfl) (.cons (.cell rfl (by repeat constructor) ty_sc4 rfl) (.cons (.cell rfl (by repeat constructor) ty_sc25 rfl) .nil)))) rfl ⟨x, rfl, hd3.chg, none_ok _, fun b hb => hb.elim⟩
end Go.Proofs.YtjmkjkhcognoeaaGreatDoor

namespace Go.Proofs.YtjmkjkhcognoeaaGreatDoor
abbrev muLink : Go.Conc.Locks.MuLink := { lock := 35, unlock := 36, ilock := 48, iunlock := 49, lockSlow := 61, unlockSlow := 64, disable := 57, enable := 59, acquire := 60, relMerge := 62, cas32 := 58, add32 := 63, tMutex := 77, tIMutex := 75, tPMutex := 109, tPIMutex := 117, tPI32 := 119, tUP := 121, tNoCopy := 69, tU32 := 71 }
theorem muLib : Go.Conc.Locks.MuLib Tryz.prog muLink :=
  ⟨Tryz.func35, Tryz.func36, Tryz.func48, Tryz.func49, Tryz.func57, Tryz.func59, Tryz.func60, Tryz.func62, Tryz.func58, Tryz.func63, Tryz.underlying75, Tryz.runUnderlying75, Tryz.sizeOf75, Tryz.isAgg75, Tryz.zeroValue75, Tryz.underlying77, Tryz.runUnderlying77, Tryz.sizeOf77, Tryz.isAgg77, Tryz.zeroValue77, Tryz.underlying109, Tryz.runUnderlying109, Tryz.sizeOf109, Tryz.isAgg109, Tryz.zeroValue109, Tryz.underlying117, Tryz.runUnderlying117, Tryz.sizeOf117, Tryz.isAgg117, Tryz.zeroValue117, Tryz.underlying119, Tryz.runUnderlying119, Tryz.sizeOf119, Tryz.isAgg119, Tryz.zeroValue119, Tryz.underlying121, Tryz.runUnderlying121, Tryz.sizeOf121, Tryz.isAgg121, Tryz.zeroValue121, Tryz.underlying69, Tryz.runUnderlying69, Tryz.sizeOf69, Tryz.isAgg69, Tryz.zeroValue69, Tryz.underlying21, Tryz.runUnderlying21, Tryz.sizeOf21, Tryz.isAgg21, Tryz.zeroValue21, (by kernel_rfl)⟩
end Go.Proofs.YtjmkjkhcognoeaaGreatDoor

namespace Go.Proofs.YtjmkjkhcognoeaaGreatDoor
open Go.RowKit

def encN (s : ByteArray) : List Value := [.string s]
/-- a slice of texts, wherever it lies. -/
def NmAt (v : Value) (l : List ByteArray) (w : World) : Prop := (l = [] ∧ ∃ a c, v = .slice a 0 c) ∨ ∃ b off c, l ≠ [] ∧ v = .slice (some ⟨b, off, none⟩) l.length c ∧ RowAt b off 1 (l.map encN) w ∧ b < w.heap.size
def nmF (v : Value) (l : List ByteArray) (k : Nat) : Prop := l ≠ [] ∧ ∃ off m c, v = .slice (some ⟨k, off, none⟩) m c
theorem NmAt.shape {v : Value} {l : List ByteArray} {w : World} (h : NmAt v l w) : ∃ a c, v = .slice a l.length c := by
  rcases h with ⟨rfl, a, c, rfl⟩ | ⟨b, off, c, _, rfl, _, _⟩
  · exact ⟨a, c, rfl⟩
  · exact ⟨_, c, rfl⟩
theorem NmAt.some {v : Value} {l : List ByteArray} {w : World} (h : NmAt v l w) (hne : l ≠ []) : ∃ b off c, v = .slice (some ⟨b, off, none⟩) l.length c ∧ RowAt b off 1 (l.map encN) w := by
  rcases h with ⟨h0, _⟩ | ⟨b, off, c, _, h1, h2, _⟩
  · exact absurd h0 hne
  · exact ⟨b, off, c, h1, h2⟩
theorem NmAt.lt {v : Value} {l : List ByteArray} {w : World} (h : NmAt v l w) (k : Nat) (hk : nmF v l k) : k < w.heap.size := by
  obtain ⟨hne, off, m, c, e⟩ := hk
  rcases h with ⟨h0, _⟩ | ⟨b, off', c', _, h1, _, h3⟩
  · exact absurd h0 hne
  · rw [h1] at e; injection e with e1; injection e1 with e2; injection e2 with e3; omega
theorem NmAt.keep {v : Value} {l : List ByteArray} {w w' : World} (h : NmAt v l w) (hw : ∀ k, nmF v l k → w'.heap[k]? = w.heap[k]?) : NmAt v l w' := by
  rcases h with h | ⟨b, off, c, h0, h1, h2, h3⟩
  · exact .inl h
  · have hb := hw b ⟨h0, off, _, c, h1⟩
    refine .inr ⟨b, off, c, h0, h1, h2.keep hb, ?_⟩
    rw [Array.getElem?_eq_getElem h3] at hb
    exact (Array.getElem?_eq_some_iff.1 hb).1
def nmA (v : Value) (l : List ByteArray) : Asn := .any (nmF v l) (NmAt v l) false
theorem nm_ok {v : Value} {l : List ByteArray} {w : World} (h : NmAt v l w) : (nmA v l).ok w := ⟨h.lt, fun _ hw => h.keep hw⟩
def nm2A (va : Value) (a : List ByteArray) (vb : Value) (b : List ByteArray) : Asn := .any (fun k => nmF va a k ∨ nmF vb b k) (fun w => NmAt va a w ∧ NmAt vb b w) false
theorem nm2_ok {va vb : Value} {a b : List ByteArray} {w : World} (h : NmAt va a w) (h2 : NmAt vb b w) : (nm2A va a vb b).ok w :=
  ⟨fun k hk => hk.elim (h.lt k) (h2.lt k), fun _ hw => ⟨h.keep fun k hk => hw k (.inl hk), h2.keep fun k hk => hw k (.inr hk)⟩⟩
theorem nm_cell {b off : Nat} {l : List ByteArray} {w : World} (h : RowAt b off 1 (l.map encN) w) {i : Nat} {x : ByteArray} (hx : l[i]? = some x) : w.cell? ⟨b, off + i * 1, none⟩ = some (.string x) := by
  have := h i (encN x) (by simp [hx]) 0 (.string x) rfl
  exact this
/-- a row of one's own is such a slice. -/
theorem nm_own {E : Nat} {v : Value} {l : List ByteArray} {w : World} (h : w.ownsRow 0 E 1 v l.length (l.flatMap encN)) : NmAt v l w := by
  rcases h.2 with ⟨rfl, e2⟩ | ⟨g, cap, cur, rfl, _⟩
  · refine .inl ⟨List.eq_nil_of_length_eq_zero e2, none, 0, rfl⟩
  · by_cases hl : l = []
    · subst hl; exact .inl ⟨rfl, _, _, rfl⟩
    · exact .inr ⟨g, 0, cap, hl, rfl, row_of_own (enc := encN) (fun _ => rfl) h, (World.ownsRow.lt h g rfl).2⟩
def meetsF (A B : List ByteArray) : Prop := ∃ x ∈ A, x ∈ B
instance (A B : List ByteArray) : Decidable (meetsF A B) := decidable_of_iff (A.any (fun x => B.any fun y => decide (x = y)) = true) (by unfold meetsF; simp)

set_option maxRecDepth 100000 in
theorem meets_P (va vb : Value) (A B : List ByteArray) (ha : A.length ≤ 4611686018427387904) (hb : B.length ≤ 4611686018427387904) (w0 : World) (h1 : NmAt va A w0) (h2 : NmAt vb B w0) : PureC Tryz.prog 65 [va, vb] w0 (.bool (decide (meetsF A B))) := by
   obtain ⟨pa, ca, rfl⟩ := h1.shape
   obtain ⟨pb, cb, rfl⟩ := h2.shape
   refine c_enter [(0, .slice pa A.length ca), (1, .slice pb B.length cb)] [nm2A (.slice pa A.length ca) A (.slice pb B.length cb) B] noB Tryz.func65 rfl Tryz.ntmps65 ⟨rfl, rfl, trivial⟩ rfl (okC (nm2_ok h1 h2) okN) dis1 (mineC (by rfl) mineN) ?_
   intro a hS
   refine c_seq ?_
   refine c_region ?_
   refine L_op (s_e hS (e_assign rfl) rfl ?_); clear hS a; intro a hS
   refine L_nil ?_
   refine n_then ?_
   refine c_seq ?_
   refine c_seq ?_
   refine c_region ?_
   refine L_op (s_e hS (e_move rfl) rfl ?_); clear hS a; intro a hS
   refine L_op (s_e hS (e_len rfl rfl ty_sl45) rfl ?_); clear hS a; intro a hS
   refine L_op (s_e hS (e_move rfl) rfl ?_); clear hS a; intro a hS
   refine L_nil ?_
   refine n_then ?_
   refine wp_block ?_
   skip
   refine c_loop (γ := Nat) (fun k a w => St 26 noB w0 a w [(11, .int .i64 (k : Int)), (10, .int .i64 (A.length : Int)), (9, .slice pa A.length ca), (1, .slice pb B.length cb)] [nm2A (.slice pa A.length ca) A (.slice pb B.length cb) B] ∧ k ≤ A.length ∧ ∀ j, j < k → ∀ x, A[j]? = some x → x ∉ B) (fun k => A.length - k) 0 ⟨hS.slots ⟨rfl, rfl, rfl, rfl, trivial⟩, Nat.zero_le _, fun j hj => by omega⟩ ?_
   clear hS a; (try clear w); intro k a w hI
   obtain ⟨hS, hk, hno⟩ := hI
   refine c_seq ?_
   refine c_region ?_
   refine L_op (s_e hS (e_bin rfl rfl rfl) rfl ?_); clear hS a; intro a hS
   refine L_nil ?_
   refine n_then ?_
   refine c_seq ?_
   first | refine c_ifD hS rfl (fun hc12 => ?_) (fun hc12 => ?_) | refine c_if hS rfl (fun hc12 => ?_) (fun hc12 => ?_)
   ·
     have hkl : k < A.length := by omega
     obtain ⟨x, hx⟩ : ∃ x, A[k]? = some x := ⟨A[k], by simp⟩
     obtain ⟨ba, oa, ca', e1, _⟩ := h1.some (fun e => by rw [e] at hkl; exact absurd hkl (Nat.not_lt_zero _))
     injection e1 with e2 _ e3
     subst e2; subst e3
     refine wp_skip ?_
     refine n_then ?_
     refine c_seq ?_
     refine wp_block ?_
     refine c_seq ?_
     refine c_region ?_
     refine L_op (s_e hS (e_ixN rfl rfl ty_sl45 ty_sz9 (by omega)) rfl ?_); clear hS a; intro a hS
     refine L_op (s_e hS (e_loadC rfl ty_sc9 (fun w hh => by
 obtain ⟨b2, o2, c2, e4, hr⟩ := NmAt.some (hh (nm2A _ A _ B) (by repeat constructor)).1 (fun e => by rw [e] at hkl; exact absurd hkl (Nat.not_lt_zero _))
 injection e4 with e5; injection e5 with e6; injection e6 with e7 e8; subst e7; subst e8
 exact nm_cell hr hx)) rfl ?_); clear hS a; intro a hS
     refine L_op (s_e hS (e_assign rfl) rfl ?_); clear hS a; intro a hS
     refine L_nil ?_
     refine n_then ?_
     refine c_seq ?_
     refine c_region ?_
     refine L_op (s_e hS (e_move rfl) rfl ?_); clear hS a; intro a hS
     refine L_op (s_e hS (e_len rfl rfl ty_sl45) rfl ?_); clear hS a; intro a hS
     refine L_op (s_e hS (e_move rfl) rfl ?_); clear hS a; intro a hS
     refine L_nil ?_
     refine n_then ?_
     refine wp_block ?_
     skip
     refine c_loop (γ := Nat) (fun l a w => St 26 noB w0 a w [(17, .int .i64 (l : Int)), (16, .int .i64 (B.length : Int)), (15, .slice pb B.length cb), (6, .string x), (11, .int .i64 (k : Int)), (10, .int .i64 (A.length : Int)), (9, .slice (some ⟨ba, oa, none⟩) A.length ca), (1, .slice pb B.length cb)] [nm2A (.slice (some ⟨ba, oa, none⟩) A.length ca) A (.slice pb B.length cb) B] ∧ l ≤ B.length ∧ ∀ j, j < l → ∀ y, B[j]? = some y → x ≠ y) (fun l => B.length - l) 0 ⟨hS.slots ⟨rfl, rfl, rfl, rfl, rfl, rfl, rfl, rfl, trivial⟩, Nat.zero_le _, fun j hj => by omega⟩ ?_
     clear hS a; (try clear w); intro l a w hI
     obtain ⟨hS, hl, hno2⟩ := hI
     refine c_seq ?_
     refine c_region ?_
     refine L_op (s_e hS (e_bin rfl rfl rfl) rfl ?_); clear hS a; intro a hS
     refine L_nil ?_
     refine n_then ?_
     refine c_seq ?_
     first | refine c_ifD hS rfl (fun hc18 => ?_) (fun hc18 => ?_) | refine c_if hS rfl (fun hc18 => ?_) (fun hc18 => ?_)
     ·
       have hll : l < B.length := by omega
       obtain ⟨y, hy⟩ : ∃ y, B[l]? = some y := ⟨B[l], by simp⟩
       obtain ⟨bb, ob, cb', e1, _⟩ := h2.some (fun e => by rw [e] at hll; exact absurd hll (Nat.not_lt_zero _))
       injection e1 with e2 _ e3
       subst e2; subst e3
       refine wp_skip ?_
       refine n_then ?_
       refine c_seq ?_
       refine wp_block ?_
       refine c_seq ?_
       refine c_region ?_
       refine L_op (s_e hS (e_ixN rfl rfl ty_sl45 ty_sz9 (by omega)) rfl ?_); clear hS a; intro a hS
       refine L_op (s_e hS (e_loadC rfl ty_sc9 (fun w hh => by
 obtain ⟨b2, o2, c2, e4, hr⟩ := NmAt.some (hh (nm2A _ A _ B) (by repeat constructor)).2 (fun e => by rw [e] at hll; exact absurd hll (Nat.not_lt_zero _))
 injection e4 with e5; injection e5 with e6; injection e6 with e7 e8; subst e7; subst e8
 exact nm_cell hr hy)) rfl ?_); clear hS a; intro a hS
       refine L_op (s_e hS (e_assign rfl) rfl ?_); clear hS a; intro a hS
       refine L_nil ?_
       refine n_then ?_
       refine c_seq ?_
       refine c_region ?_
       refine L_op (s_e hS (e_move rfl) rfl ?_); clear hS a; intro a hS
       refine L_op (s_e hS (e_move rfl) rfl ?_); clear hS a; intro a hS
       refine L_op (s_e hS (e_binS rfl rfl rfl) rfl ?_); clear hS a; intro a hS
       refine L_nil ?_
       refine n_then ?_
       first | refine c_ifD hS rfl (fun hc23 => ?_) (fun hc23 => ?_) | refine c_if hS rfl (fun hc23 => ?_) (fun hc23 => ?_)
       ·
         refine c_seq ?_
         refine c_region ?_
         refine L_op (s_e hS (e_assign rfl) rfl ?_); clear hS a; intro a hS
         refine L_nil ?_
         refine n_then ?_
         refine wp_ret ?_
         refine r_block (r_then (r_then (r_block (r_block (r_then (r_then (r_block (r_then ?_))))))))
         refine c_ret1 hS Tryz.results65 (.tmp rfl) ?_
         have : meetsF A B := ⟨x, List.mem_of_getElem? hx, hc23 ▸ List.mem_of_getElem? hy⟩
         exact ⟨by rw [decide_eq_true this], hS.chg⟩
       ·
         refine wp_skip ?_
         refine n_block ?_
         refine n_then ?_
         refine c_region ?_
         first | (refine L_op (s_e hS (e_binN rfl rfl rfl (by omega)) rfl ?_); clear hS a; intro a hS) | (refine L_op (s_e hS (e_bin rfl rfl rfl) rfl ?_); clear hS a; intro a hS)
         refine L_op (s_e hS (e_move rfl) rfl ?_); clear hS a; intro a hS
         refine L_nil ?_
         exact ⟨l + 1, by omega, hS.slots ⟨rfl, rfl, rfl, rfl, rfl, rfl, rfl, rfl, trivial⟩, by omega, fun j hj z hz => by
         rcases Nat.lt_or_ge j l with h | h
         · exact hno2 j h z hz
         obtain rfl : j = l := (by omega); rw [hy] at hz; cases hz; exact hc23⟩
     ·
       refine wp_exit ?_
       refine x_then (x_then (x_hit ?_))
       refine n_block ?_
       refine n_then ?_
       refine c_region ?_
       first | (refine L_op (s_e hS (e_binN rfl rfl rfl (by omega)) rfl ?_); clear hS a; intro a hS) | (refine L_op (s_e hS (e_bin rfl rfl rfl) rfl ?_); clear hS a; intro a hS)
       refine L_op (s_e hS (e_move rfl) rfl ?_); clear hS a; intro a hS
       refine L_nil ?_
       have hxb : x ∉ B := fun hm => by
         obtain ⟨j, hj⟩ := List.mem_iff_getElem?.1 hm
         exact hno2 j (by have := (List.getElem?_eq_some_iff.1 hj).1; omega) x hj rfl
       exact ⟨k + 1, by omega, hS.slots ⟨rfl, rfl, rfl, rfl, trivial⟩, by omega, fun j hj z hz => by
         rcases Nat.lt_or_ge j k with h | h
         · exact hno j h z hz
         obtain rfl : j = k := (by omega); rw [hx] at hz; cases hz; exact hxb⟩
   ·
     refine wp_exit ?_
     refine x_then (x_then (x_hit ?_))
     refine n_then ?_
     refine c_seq ?_
     refine c_region ?_
     refine L_op (s_e hS (e_assign rfl) rfl ?_); clear hS a; intro a hS
     refine L_nil ?_
     refine n_then ?_
     refine wp_ret ?_
     refine c_ret1 hS Tryz.results65 (.tmp rfl) ?_
     have : ¬ meetsF A B := fun ⟨x, h3, h4⟩ => by
       obtain ⟨j, hj⟩ := List.mem_iff_getElem?.1 h3
       exact hno j (by have := (List.getElem?_eq_some_iff.1 hj).1; omega) x hj h4
     exact ⟨by rw [decide_eq_false this], hS.chg⟩
end Go.Proofs.YtjmkjkhcognoeaaGreatDoor

namespace Go.Proofs.YtjmkjkhcognoeaaGreatDoor
open Go.RowKit

/-- what a ticket holds: its names, whether alone, the slice that holds the names, when it came. -/
structure HE where
  t : Int
  names : List ByteArray
  alone : Bool
  v : Value
  b : Nat
def entI (l : List HE) : List IE := l.map fun e => ⟨e.t, .agg [e.v, .bool e.alone].toArray, e.b⟩
def holdT (e : HE) (w : World) : Prop := w.ownsRow 0 9 1 e.v e.names.length (e.names.flatMap encN)
def holdsT (l : List HE) : Asn := .any (fun k => ∃ e ∈ l, e.v.ownBlock = some k) (fun w => ∀ e ∈ l, holdT e w) true
theorem holds_ok {l : List HE} {w : World} (h : ∀ e ∈ l, holdT e w) : (holdsT l).ok w := by
  refine ⟨fun b hb => ?_, fun w' hw e he => (ok_own (h e he)).hold w' (fun b hb => hw b ⟨e, he, hb⟩)⟩
  obtain ⟨e, he, hb⟩ := hb
  exact (World.ownsRow.lt (h e he) b hb).2
theorem nodup_lt : ∀ (n : Nat) (l : List Nat), l.Nodup → (∀ x ∈ l, x < n) → l.length ≤ n := by
  intro n
  induction n with
  | zero => intro l _ h; cases l with
    | nil => simp
    | cons x l => exact absurd (h x (.head _)) (Nat.not_lt_zero _)
  | succ n ih =>
    intro l hn h
    have h1 := ih (l.erase n) (hn.erase _) (fun x hx => by
      have h2 := h x (List.mem_of_mem_erase hx)
      have h3 : x ≠ n := fun e => by subst e; exact (List.Nodup.not_mem_erase hn) hx
      omega)
    have h4 : l.length ≤ (l.erase n).length + 1 := by rw [List.length_erase]; split <;> omega
    omega
theorem nodup_inj {α β : Type} {f : α → β} (l : List α) (h : (l.map f).Nodup) : ∀ x ∈ l, ∀ y ∈ l, f x = f y → x = y := by
  induction l with
  | nil => intro x hx; cases hx
  | cons z l ih =>
    have h' := List.nodup_cons.1 (show (f z :: l.map f).Nodup from h)
    intro x hx y hy e
    rcases List.mem_cons.1 hx with hx2 | hx2 <;> rcases List.mem_cons.1 hy with hy2 | hy2
    · rw [hx2, hy2]
    · exact absurd (show f z ∈ l.map f from List.mem_map.2 ⟨y, hy2, by rw [← e, hx2]⟩) h'.1
    · exact absurd (show f z ∈ l.map f from List.mem_map.2 ⟨x, hx2, by rw [e, hy2]⟩) h'.1
    · exact ih h'.2 x hx2 y hy2 e
/-- may names be held with what is held? -/
def mayF (l : List HE) (nm : List ByteArray) (al : Bool) : Prop := ∀ e ∈ l, ¬ ((al = true ∨ e.alone = true) ∧ meetsF nm e.names)
instance (l : List HE) (nm : List ByteArray) (al : Bool) : Decidable (mayF l nm al) :=
  decidable_of_iff ((l.all fun e => decide (¬ ((al = true ∨ e.alone = true) ∧ meetsF nm e.names))) = true) (by unfold mayF; rw [List.all_eq_true]; exact ⟨fun h e he => of_decide_eq_true (h e he), fun h e he => decide_eq_true (h e he)⟩)

/-- what may reads. -/
structure mayφ (k mb : Nat) (l : List HE) (c : Nat) (w : World) : Prop where
  held : w.cell? ⟨k, 2, none⟩ = some (.map (some mb))
  mp : w.heap[mb]? = some (.map (mkI (entI l)).toArray c)
  rows : ∀ e ∈ l, holdT e w
def mayK (k mb : Nat) (l : List HE) (i : Nat) : Prop := i = k ∨ i = mb ∨ ∃ e ∈ l, e.v.ownBlock = some i
def mayA (k mb : Nat) (l : List HE) (c : Nat) : Asn := .any (mayK k mb l) (mayφ k mb l c) false
theorem may_ok {k mb : Nat} {l : List HE} {c : Nat} {w : World} (h : mayφ k mb l c w) : (mayA k mb l c).ok w := by
  refine ⟨fun i hi => ?_, fun w' hw => ⟨?_, ?_, fun e he => (ok_own (h.rows e he)).hold w' (fun b hb => hw b (.inr (.inr ⟨e, he, hb⟩)))⟩⟩
  · rcases hi with rfl | rfl | ⟨e, he, hb⟩
    · exact (ce_ok h.held).lt i rfl
    · exact (Array.getElem?_eq_some_iff.1 h.mp).1
    · exact (World.ownsRow.lt (h.rows e he) i hb).2
  · exact (ce_ok h.held).hold w' (fun b hb => by obtain rfl : b = k := hb; exact hw b (.inl rfl))
  · rw [hw mb (.inr (.inl rfl))]; exact h.mp

set_option maxRecDepth 100000 in
theorem may_P (k mb : Nat) (l : List HE) (c : Nat) (nv : Value) (nm : List ByteArray) (al : Bool) (hnm : nm.length ≤ 4611686018427387904) (hl : ∀ e ∈ l, e.names.length ≤ 4611686018427387904) (hg : goodI (entI l) c) (w0 : World) (h : mayφ k mb l c w0) (hn : NmAt nv nm w0) (hd : ∀ i, mayK k mb l i → ¬ nmF nv nm i) :
    PureC Tryz.prog 50 [.pointer (some ⟨k, 0, none⟩), nv, .bool al] w0 (.bool (decide (mayF l nm al))) := by
  refine c_enter [(0, .pointer (some ⟨k, 0, none⟩)), (1, nv), (2, .bool al)] [mayA k mb l c, nmA nv nm] noB Tryz.func50 rfl Tryz.ntmps50 ⟨rfl, rfl, rfl, trivial⟩ rfl (okC (may_ok h) (okC (nm_ok hn) okN)) (disC (sepC hd sepN) dis1) (mineC (by rfl) (mineC (by rfl) mineN)) ?_
  intro a hS
  refine c_seq ?_
  refine c_region ?_
  refine L_op (s_e hS (e_assign rfl) rfl ?_); clear hS a; intro a hS
  refine L_nil ?_
  refine n_then ?_
  refine c_seq ?_
  refine c_seq ?_
  refine c_region ?_
  refine L_op (s_e hS (e_move rfl) rfl ?_); clear hS a; intro a hS
  refine L_op (s_e hS (e_nilCheck rfl) rfl ?_); clear hS a; intro a hS
  first | (refine L_op (s_e hS (e_fa0 rfl ty_fo87_1) rfl ?_); clear hS a; intro a hS) | (refine L_op (s_e hS (e_faK rfl ty_fo87_1) rfl ?_); clear hS a; intro a hS)
  refine L_op (s_e hS (e_loadC rfl ty_sc84 (fun w hh => (hh (mayA k mb l c) (by repeat constructor)).held)) rfl ?_); clear hS a; intro a hS
  refine L_op (s_rangeI (l := entI l) (c := c) hS rfl ty_mp84 (fun w hh => (hh (mayA k mb l c) (by repeat constructor)).mp) (by rfl) ?_); clear hS a; (try clear w); intro a w it hS
  refine L_nil ?_
  refine n_then ?_
  refine wp_block ?_
  skip
  refine c_loop (γ := List Nat) (fun sn a w => St 29 noB w0 a w [(13, .pointer (some ⟨it, 0, none⟩)), (1, nv), (2, .bool al)] [itA it mb sn c, mayA k mb l c, nmA nv nm] ∧ sn.Nodup ∧ (∀ i ∈ sn, i < c) ∧ ∀ e ∈ l, e.b ∈ sn → ¬ ((al = true ∨ e.alone = true) ∧ meetsF nm e.names)) (fun sn => c - sn.length) [] ⟨(hS.slots (by repeat (first | exact trivial | refine ⟨rfl, ?_⟩))).pick (by repeat (first | exact Pick.nil | (refine Pick.cons (by repeat (first | exact Rem.head | apply Rem.tail)) ?_))), .nil, fun i hi => (by cases hi), fun e he hi => (by cases hi)⟩ ?_
  clear hS a; (try clear w); intro sn a w hI
  obtain ⟨hS, hnd, hlt, hno⟩ := hI
  refine c_seq ?_
  refine c_region ?_
  refine L_op (s_nextI (l := entI l) hS rfl (fun w hh => (hh (mayA k mb l c) (by repeat constructor)).mp) hg (by rfl) (fun _ => .head) ?_); intro o ho a1 w1 hS1; clear hS a; revert a1; intro a hS
  refine L_op (s_e hS (e_extract rfl (ny0 o)) rfl ?_); clear hS a; intro a hS
  refine L_nil ?_
  refine n_then ?_
  refine c_seq ?_
  first | refine c_ifD hS rfl (fun hc15 => ?_) (fun hc15 => ?_) | refine c_if hS rfl (fun hc15 => ?_) (fun hc15 => ?_)
  ·
    obtain ⟨ie, rfl⟩ : ∃ q, o = some q := Option.isSome_iff_exists.1 hc15
    obtain ⟨hie, hns⟩ := ho
    obtain ⟨e, he, rfl⟩ := List.mem_map.1 (show ie ∈ l.map fun e => (⟨e.t, .agg [e.v, .bool e.alone].toArray, e.b⟩ : IE) from hie)
    simp only [nyS] at hS
    have hnd2 : (sn ++ [e.b]).Nodup := List.nodup_append.2 ⟨hnd, by simp, fun x hx y hy => by obtain rfl := List.mem_singleton.1 hy; exact fun e => hns (e ▸ hx)⟩
    have hlt2 : ∀ j ∈ sn ++ [e.b], j < c := fun j hj => by
      rcases List.mem_append.1 hj with hj | hj
      · exact hlt j hj
      · obtain rfl := List.mem_singleton.1 hj; exact hg.lt _ hie
    have hsl := nodup_lt _ _ hnd2 hlt2
    rw [List.length_append, List.length_singleton] at hsl
    have hel := hl e he
    obtain ⟨q, cq, hev⟩ := (nm_own (h.rows e he)).shape
    refine wp_skip ?_
    refine n_then ?_
    refine wp_block ?_
    refine c_seq ?_
    refine c_region ?_
    refine L_op (s_e hS (e_entryI (l := entI l) (seen := sn) (e := ⟨e.t, .agg [e.v, .bool e.alone].toArray, e.b⟩) rfl (fun w hh => (hh (mayA k mb l c) (by repeat constructor)).mp) (by repeat constructor) hie hg) rfl ?_); clear hS a; intro a hS
    rw [hev] at hS
    refine L_op (s_e hS (e_extract rfl rfl) rfl ?_); clear hS a; intro a hS
    refine L_op (s_alloc hS ty_z89 rfl ?_); clear hS a; (try clear w); intro a w b8 hS
    refine L_op (s_storeA hS rfl rfl ty_sz89 (by repeat constructor) (by rfl) (by rfl) (by rfl) ?_); clear hS; (try clear w); intro w hS
    refine L_nil ?_
    refine n_then ?_
    refine c_seq ?_
    refine c_region ?_
    refine L_op (s_e hS (e_move rfl) rfl ?_); clear hS a; intro a hS
    refine L_op (s_e hS (e_move rfl) rfl ?_); clear hS a; intro a hS
    refine L_merge 3 22 (.bool (al || e.alone)) hS ?_ ?_
    · intro hcM22
      (first | refine g_splitD (t := 19) hS rfl ?_ ?_ | refine g_split (t := 19) hS rfl ?_ ?_) <;> (clear hS; intro hg19 hS)
      ·
        refine L_skip_f hS rfl rfl rfl ?_; clear hS a; intro a hS
        refine L_skip_f hS rfl rfl rfl ?_; clear hS a; intro a hS
        first | (refine L_op (s_e hS (e_pick_t rfl rfl) rfl ?_); clear hS a; intro a hS) | (refine L_op (s_e hS (e_pick_f rfl rfl) rfl ?_); clear hS a; intro a hS)
        exact hcM22 _ _ (hS.ends 4 22 19 rfl (congrArg Value.bool (by first | rfl | (simp [hg19]; done) | (simp [hg19]; omega) | grind)) rfl rfl (by first | exact congrArg Value.bool (decide_eq_true hg19).symm | exact congrArg Value.bool hg19.symm | simp [hg19]) rfl)
      ·
        first | (refine L_go hS rfl rfl (s_e hS (e_fa0 rfl ty_fo89_1) rfl ?_); clear hS a; intro a hS) | (refine L_go hS rfl rfl (s_e hS (e_faK rfl ty_fo89_1) rfl ?_); clear hS a; intro a hS)
        refine L_go hS rfl rfl (s_e hS (e_load rfl (by repeat constructor) ty_sc4 (by rfl)) rfl ?_); clear hS a; intro a hS
        first | (refine L_op (s_e hS (e_pick_t rfl rfl) rfl ?_); clear hS a; intro a hS) | (refine L_op (s_e hS (e_pick_f rfl rfl) rfl ?_); clear hS a; intro a hS)
        exact hcM22 _ _ (hS.ends 4 22 19 rfl (congrArg Value.bool (by first | rfl | (simp [hg19]; done) | (simp [hg19]; omega) | grind)) rfl rfl (by first | exact congrArg Value.bool (decide_eq_false hg19).symm | exact congrArg Value.bool hg19.symm | simp [hg19]) rfl)
    · clear hS a; (try clear w); intro a w hS
      simp only [List.drop_succ_cons, List.drop_zero]
      refine L_op (s_e hS (e_move rfl) rfl ?_); clear hS a; intro a hS
      refine L_merge 5 28 (.bool (decide ((al = true ∨ e.alone = true) ∧ meetsF nm e.names))) hS ?_ ?_
      · intro hcM28
        (first | refine g_splitD (t := 23) hS rfl ?_ ?_ | refine g_split (t := 23) hS rfl ?_ ?_) <;> (clear hS; intro hg23 hS)
        ·
          refine L_go hS rfl rfl (s_e hS (e_move rfl) rfl ?_); clear hS a; intro a hS
          first | (refine L_go hS rfl rfl (s_e hS (e_fa0 rfl ty_fo89_0) rfl ?_); clear hS a; intro a hS) | (refine L_go hS rfl rfl (s_e hS (e_faK rfl ty_fo89_0) rfl ?_); clear hS a; intro a hS)
          refine L_go hS rfl rfl (s_e hS (e_load rfl (by repeat constructor) ty_sc45 (by rfl)) rfl ?_); clear hS a; intro a hS
          refine L_go hS rfl rfl (s_callP hS (.cons rfl (.cons rfl .nil)) cf65 rfl (meets_P nv (.slice q e.names.length cq) nm e.names hnm hel _ (hS.get (X := nmA nv nm) (by repeat constructor)) (hev ▸ nm_own ((hS.get (X := mayA k mb l c) (by repeat constructor)).rows e he))) ?_); clear hS a; (try clear w); intro a w hS
          first | (refine L_op (s_e hS (e_pick_t rfl rfl) rfl ?_); clear hS a; intro a hS) | (refine L_op (s_e hS (e_pick_f rfl rfl) rfl ?_); clear hS a; intro a hS)
          exact hcM28 _ _ (hS.ends 6 28 23 rfl (congrArg Value.bool (by first | rfl | (simp [hg23]; done) | (simp [hg23]; omega) | grind)) rfl rfl (by first | exact congrArg Value.bool (decide_eq_true hg23).symm | exact congrArg Value.bool hg23.symm | simp [hg23]) rfl)
        ·
          refine L_skip_t hS rfl rfl rfl ?_; clear hS a; intro a hS
          refine L_skip_t hS rfl rfl rfl ?_; clear hS a; intro a hS
          refine L_skip_t hS rfl rfl rfl ?_; clear hS a; intro a hS
          refine L_skip_t hS rfl rfl rfl ?_; clear hS a; intro a hS
          first | (refine L_op (s_e hS (e_pick_t rfl rfl) rfl ?_); clear hS a; intro a hS) | (refine L_op (s_e hS (e_pick_f rfl rfl) rfl ?_); clear hS a; intro a hS)
          exact hcM28 _ _ (hS.ends 6 28 23 rfl (congrArg Value.bool (by first | rfl | (simp [hg23]; done) | (simp [hg23]; omega) | grind)) rfl rfl (by first | exact congrArg Value.bool (decide_eq_false hg23).symm | exact congrArg Value.bool hg23.symm | simp [hg23]) rfl)
      · clear hS a; (try clear w); intro a w hS
        simp only [List.drop_succ_cons, List.drop_zero]
        refine L_nil ?_
        refine n_then ?_
        first | refine c_ifD hS rfl (fun hc28 => ?_) (fun hc28 => ?_) | refine c_if hS rfl (fun hc28 => ?_) (fun hc28 => ?_)
        ·
          refine c_seq ?_
          refine c_region ?_
          refine L_op (s_e hS (e_assign rfl) rfl ?_); clear hS a; intro a hS
          refine L_nil ?_
          refine n_then ?_
          refine wp_ret ?_
          refine r_block (r_then (r_block (r_then ?_)))
          refine c_ret1 hS Tryz.results50 (.tmp rfl) ?_
          have : ¬ mayF l nm al := fun hh => hh e he hc28
          exact ⟨by rw [decide_eq_false this], hS.chg⟩
        ·
          refine wp_skip ?_
          refine n_block ?_
          exact ⟨sn ++ [e.b], by simp only [List.length_append, List.length_singleton]; omega, (hS.slots (by repeat (first | exact trivial | refine ⟨rfl, ?_⟩))).pick (by repeat (first | exact Pick.nil | (refine Pick.cons (by repeat (first | exact Rem.head | apply Rem.tail)) ?_))), hnd2, hlt2, fun x hx hxs => by
          rcases List.mem_append.1 hxs with hxs | hxs
          · exact hno x hx hxs
          · have hbx : x.b = e.b := List.mem_singleton.1 hxs
            have : x = e := nodup_inj (f := HE.b) l (by have := hg.nd; unfold entI at this; rw [List.map_map] at this; exact this) x hx e he hbx
            subst this; exact hc28⟩
  ·
    refine wp_exit ?_
    refine x_then (x_then (x_hit ?_))
    refine n_then ?_
    refine c_seq ?_
    refine c_region ?_
    refine L_op (s_e hS (e_assign rfl) rfl ?_); clear hS a; intro a hS
    refine L_nil ?_
    refine n_then ?_
    refine wp_ret ?_
    refine c_ret1 hS Tryz.results50 (.tmp rfl) ?_
    have hall : ∀ e ∈ l, e.b ∈ sn := by
      cases o with
      | some _ => cases hc15
      | none => exact fun e he => ho _ (List.mem_map.2 ⟨e, he, rfl⟩)
    have : mayF l nm al := fun e he => hno e he (hall e he)
    exact ⟨by rw [decide_eq_true this], hS.chg⟩
end Go.Proofs.YtjmkjkhcognoeaaGreatDoor
