/- LedgerStays: for every argument the law returns true, and each argument reads afterwards as it read before. No conditions. (text 1 of 2) -/
import Derived.Test.YtheofhegdjjfgaaLTimC4
import Derived.Deep.Slices
import Derived.Deep.Fields
import Derived.ChangeSame
import Derived.SizedLaws
import Derived.OpenShut
import Derived.Lib.SmallJoins
namespace Go.Proofs.Ytheofhegdjjfgaa
open Go.RowKit

/-! ### accounts by their codes -/
theorem srt_of (xs : List ByteArray) : (srt xs).Perm xs := by
  unfold srt
  refine (List.Perm.map _ (List.mergeSort_perm _ _)).trans ?_
  unfold bytesL
  rw [List.map_map]
  have e : xs.map ((fun l : List UInt8 => (⟨l.toArray⟩ : ByteArray)) ∘ fun x : ByteArray => x.data.toList) = xs := by
    conv => rhs; rw [← List.map_id xs]
    exact List.map_congr_left fun x _ => rfl
  rw [e]
theorem accOf_mem {acs : List Acc} {k : ByteArray} (h : k ∈ codesA acs) : accOf acs k ∈ acs ∧ (accOf acs k).code = k := by
  unfold accOf findA
  obtain ⟨a, ha, hk⟩ := List.mem_map.1 h
  cases e : acs.find? fun a => decide (a.code = k) with
  | none => exact absurd (by simpa using hk) (List.find?_eq_none.1 e a ha)
  | some x => exact ⟨List.mem_of_find?_eq_some e, by simpa using List.find?_some e⟩
theorem accs_codes (acs : List Acc) : (accsL acs).map (·.code) = srt (codesA acs) := by
  unfold accsL
  rw [List.map_map]
  conv => rhs; rw [← List.map_id (srt (codesA acs))]
  exact List.map_congr_left fun k hk => (accOf_mem ((srt_of _).mem_iff.1 hk)).2
theorem accs_nodup {acs : List Acc} (h : (codesA acs).Nodup) : ((accsL acs).map (·.code)).Nodup := by rw [accs_codes]; exact (srt_of _).nodup_iff.2 h
theorem accs_mem {acs : List Acc} {a : Acc} (h : a ∈ accsL acs) : a ∈ acs ∧ accOf acs a.code = a := by
  unfold accsL at h
  obtain ⟨k, hk, rfl⟩ := List.mem_map.1 h
  have h1 := accOf_mem ((srt_of _).mem_iff.1 hk)
  exact ⟨h1.1, by rw [h1.2]⟩
theorem accs_of {acs : List Acc} {k : ByteArray} (h : (findA acs k).isSome = true) : accOf acs k ∈ accsL acs ∧ (accOf acs k).code = k := by
  obtain ⟨x, hx⟩ := Option.isSome_iff_exists.1 h
  unfold findA at hx
  have hm : k ∈ codesA acs := List.mem_map.2 ⟨x, List.mem_of_find?_eq_some hx, by simpa using List.find?_some hx⟩
  exact ⟨List.mem_map.2 ⟨k, (srt_of _).mem_iff.2 hm, rfl⟩, (accOf_mem hm).2⟩

/-! ### sums over accounts -/
def sumA (f : Acc → Int) : List Acc → Int
  | [] => 0
  | a :: r => f a + sumA f r
theorem sumA_append (f : Acc → Int) (l r : List Acc) : sumA f (l ++ r) = sumA f l + sumA f r := by
  induction l with
  | nil => simp [sumA]
  | cons a l ih => simp only [List.cons_append, sumA, ih]; omega
theorem sumA_take (f : Acc → Int) {l : List Acc} {i : Nat} {x : Acc} (h : l[i]? = some x) : sumA f (l.take (i + 1)) = sumA f (l.take i) + f x := by
  rw [List.take_add_one, h, sumA_append]; simp [sumA]
theorem sumA_add (f g : Acc → Int) (l : List Acc) : sumA (fun a => f a + g a) l = sumA f l + sumA g l := by
  induction l with
  | nil => rfl
  | cons a l ih => simp only [sumA, ih]; omega
theorem sumA_congr {f g : Acc → Int} {l : List Acc} (h : ∀ a ∈ l, f a = g a) : sumA f l = sumA g l := by
  induction l with
  | nil => rfl
  | cons a l ih => simp only [sumA]; rw [h a (.head _), ih (fun b hb => h b (.tail _ hb))]
theorem sumA_zero (l : List Acc) : sumA (fun _ => 0) l = 0 := by
  induction l with
  | nil => rfl
  | cons a l ih => simp only [sumA, ih]; rfl
theorem sumA_bd {f : Acc → Int} {l : List Acc} {m : Nat} (h : ∀ a ∈ l, -(m : Int) ≤ f a ∧ f a ≤ m) : -((l.length * m : Nat) : Int) ≤ sumA f l ∧ sumA f l ≤ (l.length * m : Nat) := by
  induction l with
  | nil => simp [sumA]
  | cons a l ih =>
    have h1 := h a (.head _)
    have h2 := ih (fun b hb => h b (.tail _ hb))
    simp only [sumA, List.length_cons, Nat.add_mul, Nat.one_mul]
    omega
/-- only one account has the code. -/
theorem sumA_one (q : Acc → Prop) [DecidablePred q] (v : Int) {k : ByteArray} : ∀ {l : List Acc}, (l.map (·.code)).Nodup → ∀ x ∈ l, x.code = k → sumA (fun a => if q a then (if k = a.code then v else 0) else 0) l = if q x then v else 0
  | a :: r, hn, x, hx, hk => by
    have h2 := List.nodup_cons.1 hn
    simp only [sumA]
    rcases List.mem_cons.1 hx with rfl | hx
    · have e : sumA (fun a => if q a then (if k = a.code then v else 0) else 0) r = 0 := by
        refine (sumA_congr (g := fun _ => 0) fun b hb => ?_).trans (sumA_zero r)
        have hne : ¬ k = b.code := fun e => h2.1 (by show x.code ∈ _; rw [show x.code = b.code from hk.trans e]; exact List.mem_map.2 ⟨b, hb, rfl⟩)
        rw [if_neg hne]; split <;> rfl
      rw [e, if_pos hk.symm]; omega
    · have hne : ¬ k = a.code := fun e => h2.1 (by show a.code ∈ _; rw [← e, ← hk]; exact List.mem_map.2 ⟨x, hx, rfl⟩)
      rw [if_neg hne, sumA_one q v h2.2 x hx hk]; split <;> split <;> omega
theorem sum_units (acs : List Acc) (hn : (codesA acs).Nodup) (c : ByteArray) : ∀ L : List Pst, (∀ p ∈ L, (findA acs p.acc).isSome = true) → sumA (fun a => if a.cur = c then (balD a.code L).1 else 0) (accsL acs) = curSum acs c L
  | [], _ => by
    exact (sumA_congr (g := fun _ => 0) fun a _ => by simp [balD]).trans (sumA_zero _)
  | p :: r, h => by
    have h1 := accs_of (h p (.head _))
    rw [curSum_cons, ← sum_units acs hn c r (fun q hq => h q (.tail _ hq))]
    have h2 := sumA_one (fun a => a.cur = c) p.u (accs_nodup hn) _ h1.1 h1.2
    rw [show curOf acs p.acc = (accOf acs p.acc).cur from rfl, ← h2, ← sumA_add]
    refine sumA_congr fun a _ => ?_
    rw [balD_cons]
    unfold balStep addS
    by_cases e : a.cur = c
    · simp only [if_pos e]; by_cases e2 : p.acc = a.code
      · rw [if_pos e2, if_pos e2]; simp
      · rw [if_neg e2, if_neg e2]
    · simp only [if_neg e]; rfl
theorem sum_funcs (acs : List Acc) (hn : (codesA acs).Nodup) : ∀ L : List Pst, (∀ p ∈ L, (findA acs p.acc).isSome = true) → sumA (fun a => (balD a.code L).2) (accsL acs) = sumFn L
  | [], _ => by
    exact (sumA_congr (g := fun _ => 0) fun a _ => by simp [balD]).trans (sumA_zero _)
  | p :: r, h => by
    have h1 := accs_of (h p (.head _))
    rw [sumFn_cons, ← sum_funcs acs hn r (fun q hq => h q (.tail _ hq))]
    have h2 := sumA_one (fun _ => True) p.f (accs_nodup hn) _ h1.1 h1.2
    rw [if_pos trivial] at h2
    rw [← h2, ← sumA_add]
    refine sumA_congr fun a _ => ?_
    rw [balD_cons, if_pos trivial]
    unfold balStep addS
    by_cases e2 : p.acc = a.code
    · rw [if_pos e2, if_pos e2]; simp
    · rw [if_neg e2, if_neg e2]
theorem curSum_append (acs : List Acc) (c : ByteArray) (l r : List Pst) : curSum acs c (l ++ r) = curSum acs c l + curSum acs c r := by
  induction l with
  | nil => simp [curSum]
  | cons p l ih => rw [List.cons_append, curSum_cons, curSum_cons, ih]; omega
theorem sumFn_append (l r : List Pst) : sumFn (l ++ r) = sumFn l + sumFn r := by
  induction l with
  | nil => simp [sumFn]
  | cons p l ih => rw [List.cons_append, sumFn_cons, sumFn_cons, ih]; omega
theorem even_all (acs : List Acc) : ∀ es : List Ent, (∀ x ∈ es, goodE acs x.ps) → ∀ at_, (∀ c, curSum acs c (postsAt es at_) = 0) ∧ sumFn (postsAt es at_) = 0 ∧ ∀ p ∈ postsAt es at_, (findA acs p.acc).isSome = true
  | [], _, _ => ⟨fun _ => rfl, rfl, fun p hp => (by cases hp)⟩
  | x :: r, h, at_ => by
    obtain ⟨i1, i2, i3⟩ := even_all acs r (fun y hy => h y (.tail _ hy)) at_
    have hx := h x (.head _)
    have e : postsAt (x :: r) at_ = (if x.at_ ≤ at_ then x.ps else []) ++ postsAt r at_ := by
      unfold postsAt upTo
      rw [List.filter_cons]
      by_cases e : x.at_ ≤ at_
      · rw [if_pos (by simpa using e), if_pos e, List.flatMap_cons]
      · rw [if_neg (by simpa using e), if_neg e, List.nil_append]
    rw [e]
    by_cases e : x.at_ ≤ at_
    · rw [if_pos e]
      refine ⟨fun c => by rw [curSum_append, i1 c, hx.even.1 c]; rfl, by rw [sumFn_append, i2, hx.even.2]; rfl, fun p hp => ?_⟩
      rcases List.mem_append.1 hp with hp | hp
      · exact (hx.each p hp).1
      · exact i3 p hp
    · rw [if_neg e, List.nil_append]; exact ⟨i1, i2, i3⟩

/-! ### the six currencies -/
def cur6 : List ByteArray := [⟨#[67, 72, 70]⟩, ⟨#[69, 85, 82]⟩, ⟨#[71, 66, 80]⟩, ⟨#[74, 80, 89]⟩, ⟨#[75, 87, 68]⟩, ⟨#[85, 83, 68]⟩]
theorem cur6_nodup : cur6.Nodup := by decide +kernel
theorem scale_mem {s : ByteArray} (h : (scaleR s).2 = 0) : s ∈ cur6 := by
  unfold scaleR at h
  split at h
  · cases h
  · rename_i h1
    rcases firstIdx_cases (fun x : ByteArray × Int => decide (x.1 = s)) curs with ⟨i, x, hi, hx, hp⟩ | h2
    · have hm := List.mem_of_getElem? hx
      have e : x.1 = s := by simpa using hp
      rw [← e]
      have : cur6 = curs.map (·.1) := by decide +kernel
      rw [this]
      exact List.mem_map.2 ⟨x, hm, rfl⟩
    · exfalso; have := h2.1; exact h1 (by show curIdx s < 0; unfold curIdx; omega)
def wfC (P : PL) : Prop := ∀ a ∈ P.acs, a.cur ∈ cur6
theorem wfC_step {P : PL} (h : wfC P) (o : LO) : wfC (stepP P o) := by
  unfold stepP
  split
  · unfold openP
    split
    · rename_i hE
      intro a ha
      rcases List.mem_append.1 ha with ha | ha
      · exact h a ha
      · obtain rfl := List.mem_singleton.1 ha
        refine scale_mem (Classical.byContradiction fun e => ?_)
        unfold openEP at hE
        split at hE
        · cases hE
        · first | (exact absurd hE (by decide)) | (rw [if_pos e] at hE; cases hE)
    · exact h
  · split
    · unfold postP; split <;> exact h
    · split
      · unfold closeP; split <;> exact h
      · exact h
theorem wfC_made (l : List LO) : wfC (madeP l) := by
  unfold madeP
  have h4 : wfC P4 := by
    intro a ha
    have : chartL.map (·.cur) = [usdL, usdL, eurL, eurL] := rfl
    have h1 : a.cur ∈ chartL.map (·.cur) := List.mem_map.2 ⟨a, ha, rfl⟩
    rw [this] at h1
    have h2 : a.cur = usdL ∨ a.cur = eurL := by simp at h1; exact h1
    rcases h2 with e | e <;> rw [e]
    · exact .tail _ (.tail _ (.tail _ (.tail _ (.tail _ (.head _)))))
    · exact .tail _ (.head _)
  generalize P4 = P at h4
  induction l generalizing P with
  | nil => exact h4
  | cons o r ih => exact ih _ (wfC_step h4 o)
def sumC (f : ByteArray → Int) : List ByteArray → Int
  | [] => 0
  | a :: r => f a + sumC f r
theorem sumC_append (f : ByteArray → Int) (l r : List ByteArray) : sumC f (l ++ r) = sumC f l + sumC f r := by
  induction l with
  | nil => simp [sumC]
  | cons a l ih => simp only [List.cons_append, sumC, ih]; omega
theorem sumC_take (f : ByteArray → Int) {l : List ByteArray} {i : Nat} {x : ByteArray} (h : l[i]? = some x) : sumC f (l.take (i + 1)) = sumC f (l.take i) + f x := by
  rw [List.take_add_one, h, sumC_append]; simp [sumC]
theorem sumC_none (v : Int) (k : ByteArray) : ∀ cs : List ByteArray, ¬ k ∈ cs → sumC (fun c => if k = c then v else 0) cs = 0
  | [], _ => rfl
  | c :: r, h => by
    simp only [sumC]
    rw [if_neg (fun e => h (by rw [e]; exact .head _)), sumC_none v k r (fun e => h (.tail _ e))]; rfl
theorem sumC_one (v : Int) (k : ByteArray) : ∀ cs : List ByteArray, cs.Nodup → k ∈ cs → sumC (fun c => if k = c then v else 0) cs = v
  | c :: r, hn, h => by
    have h2 := List.nodup_cons.1 hn
    simp only [sumC]
    by_cases e : k = c
    · rw [if_pos e, sumC_none v k r (by rw [e]; exact h2.1)]; omega
    · rw [if_neg e, sumC_one v k r h2.2 (by rcases List.mem_cons.1 h with h | h; exact absurd h e; exact h)]; omega
theorem sum_swap (f : ByteArray → Acc → Int) (l : List Acc) : ∀ cs : List ByteArray, sumC (fun c => sumA (f c) l) cs = sumA (fun a => sumC (fun c => f c a) cs) l
  | [] => (sumA_zero l).symm
  | c :: r => by
    simp only [sumC]
    rw [sum_swap f l r, sumA_add]

/-! ### the law's sums -/
def valT (P : PL) (at_ : Int) (a : Acc) : SM := balV (totOf (triT P at_) a.code)
def unitsOf (P : PL) (at_ : Int) (c : ByteArray) (a : Acc) : Int := if a.cur = c then (valT P at_ a).1 else 0
def worthOf (P : PL) (at_ : Int) (c : ByteArray) (a : Acc) : Int := if a.cur = c then (valT P at_ a).2 else 0
theorem valT_bd (P : PL) (at_ : Int) (a : Acc) : inU (valT P at_ a).1 ∧ inU (valT P at_ a).2 := by
  unfold valT balV
  split
  · assumption
  · exact ⟨by unfold inU; omega, by unfold inU; omega⟩
theorem units_bd (P : PL) (at_ : Int) (c : ByteArray) (a : Acc) : -((4611686018427387904 : Nat) : Int) ≤ unitsOf P at_ c a ∧ unitsOf P at_ c a ≤ (4611686018427387904 : Nat) := by
  have h := (valT_bd P at_ a).1
  unfold unitsOf; unfold inU at h
  split <;> omega
theorem worth_bd (P : PL) (at_ : Int) (c : ByteArray) (a : Acc) : -((4611686018427387904 : Nat) : Int) ≤ worthOf P at_ c a ∧ worthOf P at_ c a ≤ (4611686018427387904 : Nat) := by
  have h := (valT_bd P at_ a).2
  unfold worthOf; unfold inU at h
  split <;> omega
structure zeros (P : PL) (at_ : Int) : Prop where
  units : ∀ c, sumA (unitsOf P at_ c) (accsL P.acs) = 0
  worth : sumC (fun c => sumA (worthOf P at_ c) (accsL P.acs)) cur6 = 0
/-- where no balance is beyond its bounds, all sums are zero. -/
theorem zeros_of {P : PL} {n : Nat} (h : wfP P n) (hc : wfC P) {at_ : Int} (hi : inst at_) (hok : ∀ a ∈ accsL P.acs, okS (sumAt P a.code at_)) : zeros P at_ := by
  obtain ⟨e1, e2, e3⟩ := even_all P.acs P.es h.evn at_
  have hv : ∀ a ∈ accsL P.acs, valT P at_ a = balD a.code (postsAt P.es at_) := fun a ha => by
    unfold valT
    rw [triT_of, if_pos hi]
    exact if_pos (hok a ha)
  constructor
  · intro c
    rw [← e1 c, ← sum_units P.acs h.nod c _ e3]
    refine sumA_congr fun a ha => ?_
    unfold unitsOf
    rw [hv a ha]
  · rw [sum_swap, ← e2, ← sum_funcs P.acs h.nod _ e3]
    refine sumA_congr fun a ha => ?_
    unfold worthOf
    rw [sumC_one _ _ _ cur6_nodup (hc a (accs_mem ha).1), hv a ha]
theorem bal_of {P : PL} {at_ : Int} (hi : inst at_) {a : Acc} (ha : a ∈ accsL P.acs) : (balF P a.code at_).2 = if okS (sumAt P a.code at_) then 0 else 16 := by
  have h1 : (findA P.acs a.code).isSome = true := by
    have h2 := accs_mem ha
    unfold findA
    rw [List.find?_isSome]
    exact ⟨a, h2.1, by simp⟩
  unfold balF
  rw [if_neg (by rw [h1]; decide), if_neg (fun e => e hi)]
  split <;> rfl
end Go.Proofs.Ytheofhegdjjfgaa

namespace Go.Proofs.Ytheofhegdjjfgaa
open Go.RowKit

/-- a later state of a ledger. -/
structure later (P Q : PL) : Prop where
  es : ∃ r : List Ent, Q.es = P.es ++ r ∧ ∀ x ∈ r, P.closed < x.at_
  acs : ∃ r : List Acc, Q.acs = P.acs ++ r
  closed : P.closed ≤ Q.closed
theorem later_refl (P : PL) : later P P := ⟨⟨[], by simp, by simp⟩, ⟨[], by simp⟩, Int.le_refl _⟩
theorem later_step {P Q : PL} (h : later P Q) (o : LO) : later P (stepP Q o) := by
  obtain ⟨⟨r, hr, hx⟩, ⟨ra, ha⟩, hc⟩ := h
  unfold stepP
  split
  · unfold openP
    split
    · exact ⟨⟨r, hr, hx⟩, ⟨ra ++ [o.a], by simp only; rw [ha, List.append_assoc]⟩, hc⟩
    · exact ⟨⟨r, hr, hx⟩, ⟨ra, ha⟩, hc⟩
  · split
    · unfold postP
      split
      · rename_i hE
        have hO := ((check_iff Q o.at_ o.memo o.ps).1 hE).open_
        refine ⟨⟨r ++ [⟨(Q.es.length : Int) + 1, o.at_, o.memo, o.ps⟩], by simp only; rw [hr, List.append_assoc], fun x hm => ?_⟩, ⟨ra, ha⟩, hc⟩
        rcases List.mem_append.1 hm with hm | hm
        · exact hx x hm
        · obtain rfl := List.mem_singleton.1 hm
          simp only; omega
      · exact ⟨⟨r, hr, hx⟩, ⟨ra, ha⟩, hc⟩
    · split
      · unfold closeP
        split
        · rename_i hE
          refine ⟨⟨r, hr, hx⟩, ⟨ra, ha⟩, ?_⟩
          unfold closeEP at hE
          split at hE
          · cases hE
          · split at hE
            · cases hE
            · simp only; omega
        · exact ⟨⟨r, hr, hx⟩, ⟨ra, ha⟩, hc⟩
      · exact ⟨⟨r, hr, hx⟩, ⟨ra, ha⟩, hc⟩
/-- the instant through which a ledger is closed. -/
def clOk (P : PL) : Prop := P.closed = -1 ∨ inst P.closed
theorem clOk_step {P : PL} (h : clOk P) (o : LO) : clOk (stepP P o) := by
  unfold stepP
  split
  · unfold openP; split <;> exact h
  · split
    · unfold postP; split <;> exact h
    · split
      · unfold closeP
        split
        · rename_i hE
          unfold closeEP at hE
          split at hE
          · cases hE
          · rename_i hn
            exact .inr (Classical.byContradiction hn)
        · exact h
      · exact h
theorem clOk_made (l : List LO) : clOk (madeP l) := by
  unfold madeP
  have h4 : clOk P4 := .inl rfl
  generalize P4 = P at h4
  induction l generalizing P with
  | nil => exact h4
  | cons o r ih => exact ih _ (clOk_step h4 o)
theorem stay_posts {P Q : PL} (h : later P Q) {t : Int} (ht : t ≤ P.closed) : postsAt Q.es t = postsAt P.es t := by
  obtain ⟨r, hr, hx⟩ := h.es
  have e : upTo t r = [] := List.filter_eq_nil_iff.2 fun x hm => by
    have := hx x hm
    simp only [decide_eq_true_eq]; omega
  unfold postsAt
  rw [hr, show upTo t (P.es ++ r) = upTo t P.es ++ upTo t r from List.filter_append .., e, List.append_nil]
theorem stay_bal {P Q : PL} (h : later P Q) {t : Int} (hi : inst t) (ht : t ≤ P.closed) {a : Acc} (ha : a ∈ accsL P.acs) : (balF Q a.code t).1.2 = valT P t a := by
  obtain ⟨ra, hra⟩ := h.acs
  have hm := (accs_mem ha).1
  have hf : (findA Q.acs a.code).isSome = true := by
    unfold findA
    rw [List.find?_isSome]
    exact ⟨a, by rw [hra]; exact List.mem_append_left _ hm, by simp⟩
  have hs : sumAt Q a.code t = totOf (triT P t) a.code := by
    rw [triT_of, if_pos hi]
    unfold sumAt
    rw [stay_posts h ht]; rfl
  unfold balF valT
  rw [if_neg (by rw [hf]; decide), if_neg (fun e => e hi), hs]
  by_cases hk : okS (totOf (triT P t) a.code)
  · have hk2 : inU (totOf (triT P t) a.code).1 ∧ inU (totOf (triT P t) a.code).2 := hk
    rw [if_pos hk]; unfold balV; rw [if_pos hk2]
  · have hk2 : ¬ (inU (totOf (triT P t) a.code).1 ∧ inU (totOf (triT P t) a.code).2) := hk
    rw [if_neg hk]; unfold balV; rw [if_neg hk2]; rfl
/-- what a ledger says of an entry's number, it says of it later. -/
theorem stay_ent {P Q : PL} (h : later P Q) (hid : idN P) {f t : Int} {vs : List Ent} (hE : EntsOf P.es f t vs) {x : Ent} (hx : x ∈ vs) : ∃ k : Nat, x.id = (k : Int) + 1 ∧ Q.es[k]? = some x := by
  obtain ⟨k, hk⟩ := List.getElem?_of_mem (hE.mem hx).1
  obtain ⟨r, hr, _⟩ := h.es
  refine ⟨k, hid k x hk, ?_⟩
  rw [hr, List.getElem?_append_left (List.getElem?_eq_some_iff.1 hk).1]; exact hk
/-- an error changes nothing. -/
theorem bad_open {P : PL} {o : LO} (h0 : o.kind = 0) (h : openEP P o.a ≠ 0) : stepP P o = P := by
  unfold stepP; rw [if_pos h0]; exact if_neg h
theorem bad_post {P : PL} {o : LO} (h1 : o.kind = 1) (h : checkE P o.at_ o.memo o.ps ≠ 0) : stepP P o = P := by
  unfold stepP; rw [if_neg (by omega), if_pos h1]; exact if_neg h
theorem bad_close {P : PL} {o : LO} (h2 : o.kind = 2) (h : closeEP P o.at_ ≠ 0) : stepP P o = P := by
  unfold stepP; rw [if_neg (by omega), if_neg (by omega), if_pos h2]; exact if_neg h
end Go.Proofs.Ytheofhegdjjfgaa

namespace Go.Proofs.Ytheofhegdjjfgaa
open Go.RowKit

section
variable {P : Program} {n : Nat} {a : Act} {L : List (Nat × Value)} {Γ : List Asn} {dst : Option Nat} {ty : Nat} {pos : String} {af : Array Edge} {g : Option (Nat × Bool)}
theorem e_max {ts : Array TypeId} {x y : Operand} {k : IntKind} {i j : Int} (hx : ev L x = some (.int k i)) (hy : ev L y = some (.int k j)) : Ex P n a L Γ ⟨dst, .call ⟨.builtin .max, #[x, y], ts⟩, ty, pos, af, g⟩ (.int k (if j > i then j else i)) := fun hs w hh => by
  simp [execOp, resolve, invoke, builtin, Builtin.max_, Builtin.max2, hs.ev hx, hs.ev hy]
end

set_option maxRecDepth 100000 in
theorem lEntry_P (B : LB) (s : LS) (k : Nat) (x : EA) (hx : s.es[k]? = some x) (hes : s.es.length ≤ 100000) (hpl : x.v.ps.length ≤ 100000) (w0 : World) (h : ledφ B s w0) :
    NewC Try.prog 46 [.pointer (some ⟨B.lb, 0, none⟩), .int .i64 ((k : Int) + 1)] w0 (fun y : Nat × Nat => .tuple [.agg (encE ⟨x.v, y.1, y.2⟩).toArray, .bool true].toArray) (fun y => ownA 63 3 (psO x.v.ps y) x.v.ps.length (x.v.ps.flatMap encP)) := by
  obtain ⟨qs, cs, hsv⟩ := own_slice h.row
  have hkl := (List.getElem?_eq_some_iff.1 hx).1
  have hxm := List.mem_of_getElem? hx
  obtain ⟨gs, rfl⟩ : ∃ g, qs = some ⟨g, 0, none⟩ := own_at (w := w0) (by rw [← hsv]; exact h.row) (by omega)
  refine c_enter [(0, .pointer (some ⟨B.lb, 0, none⟩)), (1, .int .i64 ((k : Int) + 1))] [ledA B s false] noB Try.func46 rfl Try.ntmps46 ⟨rfl, rfl, trivial⟩ rfl (okC (led_ok false h) okN) dis1 (mineC (by rfl) mineN) ?_
  intro a hS
  refine c_seq ?_
  refine c_region ?_
  refine L_op (s_alloc hS ty_z58 rfl ?_); clear hS a; (try clear w); intro a w b4 hS
  refine L_op (s_e hS (e_assign rfl) rfl ?_); clear hS a; intro a hS
  refine L_nil ?_
  refine n_then ?_
  refine c_seq ?_
  refine c_seq ?_
  refine c_region ?_
  refine L_op (s_e hS (e_move rfl) rfl ?_); clear hS a; intro a hS
  refine L_op (s_e hS (e_bin rfl rfl rfl) rfl ?_); clear hS a; intro a hS
  refine L_op (s_e hS (e_move rfl) rfl ?_); clear hS a; intro a hS
  replace hS := hS.is (t := 8) (c := false) rfl ((decide_eq_false (by omega)))
  refine L_go hS rfl rfl (s_e hS (e_move rfl) rfl ?_); clear hS a; intro a hS
  refine L_go hS rfl rfl (s_e hS (e_move rfl) rfl ?_); clear hS a; intro a hS
  refine L_go hS rfl rfl (s_e hS (e_nilCheck rfl) rfl ?_); clear hS a; intro a hS
  first | (refine L_go hS rfl rfl (s_e hS (e_fa0 rfl ty_fo129_2) rfl ?_); clear hS a; intro a hS) | (refine L_go hS rfl rfl (s_e hS (e_faK rfl ty_fo129_2) rfl ?_); clear hS a; intro a hS)
  refine L_go hS rfl rfl (s_e hS (e_loadC rfl ty_sc54 (led_cell (k := 2) (by repeat constructor) rfl)) rfl ?_); clear hS a; intro a hS
  rw [hsv] at hS
  refine L_go hS rfl rfl (s_e hS (e_len rfl rfl ty_sl54) rfl ?_); clear hS a; intro a hS
  refine L_go hS rfl rfl (s_e hS (e_bin rfl rfl rfl) rfl ?_); clear hS a; intro a hS
  first | (refine L_op (s_e hS (e_pick_t rfl rfl) rfl ?_); clear hS a; intro a hS) | (refine L_op (s_e hS (e_pick_f rfl rfl) rfl ?_); clear hS a; intro a hS)
  refine L_nil ?_
  refine n_then ?_
  replace hS := hS.is (t := 16) (c := false) rfl ((decide_eq_false (by omega)))
  refine c_if_f hS rfl ?_
  refine wp_skip ?_
  refine n_then ?_
  refine c_seq ?_
  refine c_region ?_
  refine L_op (s_e hS (e_move rfl) rfl ?_); clear hS a; intro a hS
  refine L_op (s_e hS (e_nilCheck rfl) rfl ?_); clear hS a; intro a hS
  first | (refine L_op (s_e hS (e_fa0 rfl ty_fo129_2) rfl ?_); clear hS a; intro a hS) | (refine L_op (s_e hS (e_faK rfl ty_fo129_2) rfl ?_); clear hS a; intro a hS)
  refine L_op (s_e hS (e_loadC rfl ty_sc54 (led_cell (k := 2) (by repeat constructor) rfl)) rfl ?_); clear hS a; intro a hS
  rw [hsv] at hS
  refine L_op (s_e hS (e_move rfl) rfl ?_); clear hS a; intro a hS
  first | (refine L_op (s_e hS (e_binN rfl rfl rfl (by omega)) rfl ?_); clear hS a; intro a hS) | (refine L_op (s_e hS (e_bin rfl rfl rfl) rfl ?_); clear hS a; intro a hS)
  rw [show (k : Int) + 1 - 1 = (k : Int) from by omega] at hS
  refine L_op (s_e hS (e_ixN rfl rfl ty_sl54 ty_sz58 (by omega)) rfl ?_); clear hS a; intro a hS
  refine L_op (s_e hS (e_loadAC (l := encE x) rfl ty_st58 ty_sz58 (row_getE hsv (by repeat constructor) hx)) rfl ?_); clear hS a; intro a hS
  refine L_op (s_callN hS (.cons rfl .nil) cf63 rfl (lown_P x (by omega) _ ((hS.get (X := ledA B s false) (by repeat constructor)).ps x hxm)) ?_); clear hS a; (try clear w); intro x26 a w hS
  refine L_op (s_storeA hS rfl rfl ty_sz58 (by repeat constructor) (by rfl) (by rfl) (by rfl) ?_); clear hS; (try clear w); intro w hS
  refine L_op (s_e hS (e_assign rfl) rfl ?_); clear hS a; intro a hS
  refine L_nil ?_
  refine n_then ?_
  refine wp_ret ?_
  refine c_retN hS Try.results46 (.cons (.cellA rfl (by repeat constructor) ty_st58 ty_sz58 (by rfl)) (.cons (.tmp rfl) .nil)) rfl ?_
  exact ⟨x26, rfl, hS.chg, hS.new (X := ownA 63 3 (psO x.v.ps x26) x.v.ps.length (x.v.ps.flatMap encP)) (by repeat constructor) rfl⟩

/-! ### postings for the document -/
def psAtF (v : Value) (l : List Pst) (k : Nat) : Prop := l ≠ [] ∧ v.ownBlock = some k
def psAtA (v : Value) (l : List Pst) : Asn := .any (psAtF v l) (PsAt v l) false
theorem psAt_ok {v : Value} {l : List Pst} {w : World} (h : PsAt v l w) : (psAtA v l).ok w := by
  refine ⟨fun k hk => ?_, fun w' hw => h.keep (fun k hne hk => hw k ⟨hne, hk⟩)⟩
  obtain ⟨hne, hk⟩ := hk
  obtain ⟨b, off, c, rfl, _, hb⟩ := h.some hne
  cases hk; exact hb
theorem psAt_pos {a : Option Addr} {c : Nat} {l : List Pst} {w : World} (h : PsAt (.slice a l.length c) l w) (hne : l ≠ []) : ∃ b off, a = some ⟨b, off, none⟩ := by
  obtain ⟨b, off, c', e, _, _⟩ := h.some hne
  injection e with e1
  exact ⟨b, off, e1⟩
theorem psAt_get {Γ : List Asn} {b off c : Nat} {l : List Pst} (hm : psAtA (.slice (some ⟨b, off, none⟩) l.length c) l ∈ Γ) {i : Nat} {x : Pst} (hx : l[i]? = some x) : ∀ w, Hd Γ w → ∀ j v, (encP x)[j]? = some v → w.cell? ⟨b, off + i * 3 + j, none⟩ = some v := by
  intro w hh j v hj
  have h : PsAt _ l w := hh _ hm
  have hne : l ≠ [] := fun e => by rw [e] at hx; cases hx
  obtain ⟨b', off', c', e, hr, _⟩ := h.some hne
  injection e with e1
  cases e1
  exact hr i (encP x) (by simp [hx]) j v hj

set_option maxHeartbeats 1000000 in
set_option maxRecDepth 100000 in
theorem lPosts_P (v : Value) (ps : List Pst) (hpl : ps.length ≤ 100000) (w0 : World) (h : PsAt v ps w0) :
    NewC Try.prog 48 [v] w0 (fun ov : Value => ov) (fun ov => ownA 157 3 ov ps.length (ps.flatMap encP)) := by
  obtain ⟨ad, c, rfl⟩ := h.shape
  refine c_enter [(0, .slice ad ps.length c)] [psAtA (.slice ad ps.length c) ps] noB Try.func48 rfl Try.ntmps48 ⟨rfl, trivial⟩ rfl (okC (psAt_ok h) okN) dis1 (mineC (by rfl) mineN) ?_
  intro a hS
  refine c_seq ?_
  refine c_region ?_
  refine L_op (s_e hS (e_assign rfl) rfl ?_); clear hS a; intro a hS
  refine L_nil ?_
  refine n_then ?_
  refine c_seq ?_
  refine c_region ?_
  refine L_op (s_e hS (e_assign rfl) rfl ?_); clear hS a; intro a hS
  refine L_nil ?_
  refine n_then ?_
  refine c_seq ?_
  refine c_seq ?_
  refine c_region ?_
  refine L_op (s_e hS (e_assign rfl) rfl ?_); clear hS a; intro a hS
  refine L_nil ?_
  refine n_then ?_
  refine wp_block ?_
  replace hS := hS.own_nil 157 3
  refine c_loop (γ := Nat × Value) (fun G a w => St 31 noB w0 a w [(4, .int .i64 (G.1 : Int)), (3, G.2), (0, .slice ad ps.length c)] [ownA 157 3 G.2 (ps.take G.1).length ((ps.take G.1).flatMap encP), psAtA (.slice ad ps.length c) ps] ∧ G.1 ≤ ps.length) (fun G => ps.length - G.1) (0, .slice none 0 0) ⟨(hS.slots (by repeat (first | exact trivial | refine ⟨rfl, ?_⟩))).pick (by repeat (first | exact Pick.nil | (refine Pick.cons (by repeat (first | exact Rem.head | apply Rem.tail)) ?_))), Nat.zero_le _⟩ ?_
  clear hS a; (try clear w); intro G a w hI
  obtain ⟨i, out⟩ := G
  obtain ⟨hS, hi⟩ := hI
  simp only at hS hi
  refine c_seq ?_
  refine c_seq ?_
  refine c_region ?_
  refine L_op (s_e hS (e_move rfl) rfl ?_); clear hS a; intro a hS
  refine L_op (s_e hS (e_move rfl) rfl ?_); clear hS a; intro a hS
  refine L_op (s_e hS (e_len rfl rfl ty_sl56) rfl ?_); clear hS a; intro a hS
  refine L_op (s_e hS (e_bin rfl rfl rfl) rfl ?_); clear hS a; intro a hS
  refine L_nil ?_
  refine n_then ?_
  first | refine c_ifD hS rfl (fun hc8 => ?_) (fun hc8 => ?_) | refine c_if hS rfl (fun hc8 => ?_) (fun hc8 => ?_)
  ·
    have hik : i < ps.length := by omega
    obtain ⟨x, hx⟩ : ∃ x, ps[i]? = some x := ⟨ps[i], List.getElem?_eq_getElem hik⟩
    obtain ⟨b, off, rfl⟩ := psAt_pos (hS.get (X := psAtA (.slice ad ps.length c) ps) (by repeat constructor)) (fun e => by rw [e] at hik; simp at hik)
    have htk : ps.take (i + 1) = ps.take i ++ [x] := by rw [List.take_add_one, hx]; rfl
    have htl : (ps.take i).length = i := by rw [List.length_take]; omega
    refine wp_skip ?_
    refine n_then ?_
    refine c_seq ?_
    refine wp_block ?_
    refine c_drawS [18] (by kernel_rfl) hS (sub_cons (X := psAtA (.slice (some ⟨b, off, none⟩) ps.length c) ps) (by repeat constructor) sub_nil) ?_; clear hS; (try clear w); intro w hS
    simp only [List.length_cons, List.length_nil, Nat.zero_add, Nat.reduceAdd, List.replicate]
    refine Z_take0 (i := 0) hS rfl want_none (e_move rfl) (listed' := [true, false, false, false, false, false, false, false, false, false, false, false, false, false, false, false, false, false, false, false]) rfl (by kernel_rfl) (by kernel_rfl) (by kernel_rfl) (fun _ _ _ h => h) rfl ?_; clear hS a; intro a hS
    refine Z_take0 (i := 1) hS rfl want_none (e_move rfl) (listed' := [true, true, false, false, false, false, false, false, false, false, false, false, false, false, false, false, false, false, false, false]) rfl (by kernel_rfl) (by kernel_rfl) (by kernel_rfl) (fun _ _ _ h => h) rfl ?_; clear hS a; intro a hS
    refine Z_take0 (i := 2) hS rfl want_none (e_move rfl) (listed' := [true, true, true, false, false, false, false, false, false, false, false, false, false, false, false, false, false, false, false, false]) rfl (by kernel_rfl) (by kernel_rfl) (by kernel_rfl) (fun _ _ _ h => h) rfl ?_; clear hS a; intro a hS
    refine Z_take0 (i := 3) hS rfl want_none (e_ixN rfl rfl ty_sl56 ty_sz63 (by omega)) (listed' := [true, true, true, true, false, false, false, false, false, false, false, false, false, false, false, false, false, false, false, false]) rfl (by kernel_rfl) (by kernel_rfl) (by kernel_rfl) (fun _ _ _ h => h) rfl ?_; clear hS a; intro a hS
    first | (refine Z_take0 (i := 4) hS rfl want_none (e_fa0 rfl ty_fo63_0) (listed' := [true, true, true, true, true, false, false, false, false, false, false, false, false, false, false, false, false, false, false, false]) rfl (by kernel_rfl) (by kernel_rfl) (by kernel_rfl) (fun _ _ _ h => h) rfl ?_; clear hS a; intro a hS) | (refine Z_take0 (i := 4) hS rfl want_none (e_faK rfl ty_fo63_0) (listed' := [true, true, true, true, true, false, false, false, false, false, false, false, false, false, false, false, false, false, false, false]) rfl (by kernel_rfl) (by kernel_rfl) (by kernel_rfl) (fun _ _ _ h => h) rfl ?_; clear hS a; intro a hS)
    refine Z_take (i := 5) hS rfl want_none (e_loadC rfl ty_sc9 (fun w hh => psAt_get (by repeat constructor) hx w hh 0 (.string x.acc) rfl)) (listed' := [true, true, true, true, true, true, false, false, false, false, false, false, false, false, false, false, false, false, false, false]) rfl (by kernel_rfl) (by kernel_rfl) (by kernel_rfl) (by kernel_rfl) (by kernel_rfl) (sub_cons (by repeat constructor) sub_nil) (fun _ _ _ h => h) rfl ?_; clear hS a; intro a hS
    refine Z_take0 (i := 6) hS rfl want_none (e_move rfl) (listed' := [true, true, true, true, true, true, true, false, false, false, false, false, false, false, false, false, false, false, false, false]) rfl (by kernel_rfl) (by kernel_rfl) (by kernel_rfl) (fun _ _ _ h => h) rfl ?_; clear hS a; intro a hS
    refine Z_take0 (i := 7) hS rfl want_none (e_move rfl) (listed' := [true, true, true, true, true, true, true, true, false, false, false, false, false, false, false, false, false, false, false, false]) rfl (by kernel_rfl) (by kernel_rfl) (by kernel_rfl) (fun _ _ _ h => h) rfl ?_; clear hS a; intro a hS
    refine Z_take0 (i := 8) hS rfl want_none (e_ixN rfl rfl ty_sl56 ty_sz63 (by omega)) (listed' := [true, true, true, true, true, true, true, true, true, false, false, false, false, false, false, false, false, false, false, false]) rfl (by kernel_rfl) (by kernel_rfl) (by kernel_rfl) (fun _ _ _ h => h) rfl ?_; clear hS a; intro a hS
    first | (refine Z_take0 (i := 9) hS rfl want_none (e_fa0 rfl ty_fo63_1) (listed' := [true, true, true, true, true, true, true, true, true, true, false, false, false, false, false, false, false, false, false, false]) rfl (by kernel_rfl) (by kernel_rfl) (by kernel_rfl) (fun _ _ _ h => h) rfl ?_; clear hS a; intro a hS) | (refine Z_take0 (i := 9) hS rfl want_none (e_faK rfl ty_fo63_1) (listed' := [true, true, true, true, true, true, true, true, true, true, false, false, false, false, false, false, false, false, false, false]) rfl (by kernel_rfl) (by kernel_rfl) (by kernel_rfl) (fun _ _ _ h => h) rfl ?_; clear hS a; intro a hS)
    refine Z_take (i := 10) hS rfl want_none (e_loadC rfl ty_sc3 (fun w hh => psAt_get (by repeat constructor) hx w hh 1 (.int .i64 x.u) rfl)) (listed' := [true, true, true, true, true, true, true, true, true, true, true, false, false, false, false, false, false, false, false, false]) rfl (by kernel_rfl) (by kernel_rfl) (by kernel_rfl) (by kernel_rfl) (by kernel_rfl) (sub_cons (by repeat constructor) sub_nil) (fun _ _ _ h => h) rfl ?_; clear hS a; intro a hS
    refine Z_take0 (i := 11) hS rfl want_none (e_move rfl) (listed' := [true, true, true, true, true, true, true, true, true, true, true, true, false, false, false, false, false, false, false, false]) rfl (by kernel_rfl) (by kernel_rfl) (by kernel_rfl) (fun _ _ _ h => h) rfl ?_; clear hS a; intro a hS
    refine Z_take0 (i := 12) hS rfl want_none (e_move rfl) (listed' := [true, true, true, true, true, true, true, true, true, true, true, true, true, false, false, false, false, false, false, false]) rfl (by kernel_rfl) (by kernel_rfl) (by kernel_rfl) (fun _ _ _ h => h) rfl ?_; clear hS a; intro a hS
    refine Z_take0 (i := 13) hS rfl want_none (e_ixN rfl rfl ty_sl56 ty_sz63 (by omega)) (listed' := [true, true, true, true, true, true, true, true, true, true, true, true, true, true, false, false, false, false, false, false]) rfl (by kernel_rfl) (by kernel_rfl) (by kernel_rfl) (fun _ _ _ h => h) rfl ?_; clear hS a; intro a hS
    first | (refine Z_take0 (i := 14) hS rfl want_none (e_fa0 rfl ty_fo63_2) (listed' := [true, true, true, true, true, true, true, true, true, true, true, true, true, true, true, false, false, false, false, false]) rfl (by kernel_rfl) (by kernel_rfl) (by kernel_rfl) (fun _ _ _ h => h) rfl ?_; clear hS a; intro a hS) | (refine Z_take0 (i := 14) hS rfl want_none (e_faK rfl ty_fo63_2) (listed' := [true, true, true, true, true, true, true, true, true, true, true, true, true, true, true, false, false, false, false, false]) rfl (by kernel_rfl) (by kernel_rfl) (by kernel_rfl) (fun _ _ _ h => h) rfl ?_; clear hS a; intro a hS)
    refine Z_take (i := 15) hS rfl want_none (e_loadC rfl ty_sc3 (fun w hh => psAt_get (by repeat constructor) hx w hh 2 (.int .i64 x.f) rfl)) (listed' := [true, true, true, true, true, true, true, true, true, true, true, true, true, true, true, true, false, false, false, false]) rfl (by kernel_rfl) (by kernel_rfl) (by kernel_rfl) (by kernel_rfl) (by kernel_rfl) (sub_cons (by repeat constructor) sub_nil) (fun _ _ _ h => h) rfl ?_; clear hS a; intro a hS
    refine Z_take0 (i := 16) hS rfl want_none (e_build ty_z157 ty_pl157 (.one rfl rfl rfl (by repeat constructor) (.one rfl rfl rfl (by repeat constructor) (.one rfl rfl rfl (by repeat constructor) .nil)))) (listed' := [true, true, true, true, true, true, true, true, true, true, true, true, true, true, true, true, true, false, false, false]) rfl (by kernel_rfl) (by kernel_rfl) (by kernel_rfl) (fun _ _ _ h => h) rfl ?_; clear hS a; intro a hS
    refine Z_one (i := 17) rfl (want_none a hS.sl) (listed' := [true, true, true, true, true, true, true, true, true, true, true, true, true, true, true, true, true, true, false, false]) rfl (by kernel_rfl) (s_bslice hS ty_sl101 ty_sz157 ty_z157 rfl rfl rfl rfl (.agg rfl rfl .nil) rfl ?_); clear hS a; (try clear w); intro a w b28 hS
    refine Z_and hS (sub_cons (by repeat constructor) sub_nil) ?_
    refine Z_one (i := 18) rfl (want_none a hS.sl) (listed' := [true, true, true, true, true, true, true, true, true, true, true, true, true, true, true, true, true, true, true, false]) rfl (by kernel_rfl) (s_append1 hS rfl rfl ty_sl101 ty_sz157 ty_by157 ty_z157 rfl rfl rfl (by repeat constructor) (by repeat constructor) (by rfl) (by rfl) (fun _ => (by repeat constructor)) (by omega) ?_); clear hS a; (try clear w); intro v29 a w hv29 hS
    refine Z_last (by simp) ?_
    refine Z_take0 (i := 19) hS rfl want_none (e_assign rfl) (listed' := [true, true, true, true, true, true, true, true, true, true, true, true, true, true, true, true, true, true, true, true]) rfl (by kernel_rfl) (by kernel_rfl) (by kernel_rfl) (fun _ _ _ h => h) rfl ?_; clear hS a; intro a hS
    refine Z_done (by kernel_rfl) ?_
    refine n_block ?_
    refine n_then ?_
    refine c_region ?_
    refine L_op (s_e hS (e_move rfl) rfl ?_); clear hS a; intro a hS
    first | (refine L_op (s_e hS (e_binN rfl rfl rfl (by omega)) rfl ?_); clear hS a; intro a hS) | (refine L_op (s_e hS (e_bin rfl rfl rfl) rfl ?_); clear hS a; intro a hS)
    refine L_op (s_e hS (e_assign rfl) rfl ?_); clear hS a; intro a hS
    refine L_nil ?_
    have e1 : (ps.take (i + 1)).length = (ps.take i).length + 1 := by rw [htk]; simp
    have e2 : (ps.take (i + 1)).flatMap encP = (ps.take i).flatMap encP ++ encP x := by rw [htk, List.flatMap_append]; simp
    refine ⟨(i + 1, v29), by simp only; omega, ?_, by simp only; omega⟩
    simp only
    rw [e1, e2]
    exact (hS.slots (by repeat (first | exact trivial | refine ⟨rfl, ?_⟩))).pick (by repeat (first | exact Pick.nil | (refine Pick.cons (by repeat (first | exact Rem.head | apply Rem.tail)) ?_)))
  ·
    refine wp_exit ?_
    refine x_then (x_then (x_hit ?_))
    refine n_then ?_
    refine c_seq ?_
    refine c_region ?_
    refine L_op (s_e hS (e_move rfl) rfl ?_); clear hS a; intro a hS
    refine L_op (s_e hS (e_assign rfl) rfl ?_); clear hS a; intro a hS
    refine L_nil ?_
    refine n_then ?_
    refine wp_ret ?_
    refine c_ret1 hS Try.results48 (.tmp rfl) ?_
    obtain rfl : i = ps.length := by omega
    rw [List.take_length] at hS
    exact ⟨out, rfl, hS.chg, hS.new (X := ownA 157 3 out ps.length (ps.flatMap encP)) (by repeat constructor) rfl⟩

/-- the program's postings and the document's. -/
def twoPA (v u : Value) (l : List Pst) : Asn := .any (fun k => psAtF v l k ∨ u.ownBlock = some k) (fun w => PsAt v l w ∧ w.ownsRow 0 157 3 u l.length (l.flatMap encP)) false
theorem twoP_ok {v u : Value} {l : List Pst} {w : World} (h : PsAt v l w) (h2 : w.ownsRow 0 157 3 u l.length (l.flatMap encP)) : (twoPA v u l).ok w := by
  have a := psAt_ok h
  exact ⟨fun k hk => hk.elim (fun hk => a.lt k hk) (fun hk => (World.ownsRow.lt h2 k hk).2), fun w' hw => ⟨a.hold w' (fun k hk => hw k (.inl hk)), owns_keepL h2 (fun k hk => hw k (.inr hk))⟩⟩
theorem twoP_get {Γ : List Asn} {b off c : Nat} {u : Value} {l : List Pst} (hm : twoPA (.slice (some ⟨b, off, none⟩) l.length c) u l ∈ Γ) {i : Nat} {x : Pst} (hx : l[i]? = some x) : ∀ w, Hd Γ w → ∀ j v, (encP x)[j]? = some v → w.cell? ⟨b, off + i * 3 + j, none⟩ = some v := by
  intro w hh j v hj
  have h : PsAt _ l w := (hh _ hm).1
  have hne : l ≠ [] := fun e => by rw [e] at hx; cases hx
  obtain ⟨b', off', c', e, hr, _⟩ := h.some hne
  injection e with e1
  cases e1
  exact hr i (encP x) (by simp [hx]) j v hj
theorem twoP_getU {Γ : List Asn} {g c : Nat} {v : Value} {l : List Pst} (hm : twoPA v (.slice (some ⟨g, 0, none⟩) l.length c) l ∈ Γ) {i : Nat} {x : Pst} (hx : l[i]? = some x) : ∀ w, Hd Γ w → ∀ j v, (encP x)[j]? = some v → w.cell? ⟨g, 0 + i * 3 + j, none⟩ = some v := by
  intro w hh j v hj
  have h := (hh _ hm).2
  have h1 := flat_get encP 3 (fun _ => rfl) l i x hx j v hj
  have h2 := World.ownsRow.cells h (g := g) rfl _ _ h1
  rw [addr_add] at h2
  rw [← h2]; congr 2; omega
set_option maxHeartbeats 1000000 in
set_option maxRecDepth 100000 in
theorem lSame_P (v u : Value) (ps : List Pst) (hpl : ps.length ≤ 100000) (w0 : World) (h : PsAt v ps w0) (h2 : w0.ownsRow 0 157 3 u ps.length (ps.flatMap encP)) :
    PureC Try.prog 47 [v, u] w0 (.bool true) := by
  obtain ⟨ad, c, rfl⟩ := h.shape
  obtain ⟨qu, cu, rfl⟩ := own_slice h2
  refine c_enter [(0, .slice ad ps.length c), (1, .slice qu ps.length cu)] [twoPA (.slice ad ps.length c) (.slice qu ps.length cu) ps] noB Try.func47 rfl Try.ntmps47 ⟨rfl, rfl, trivial⟩ rfl (okC (twoP_ok h h2) okN) dis1 (mineC (by rfl) mineN) ?_
  intro a hS
  refine c_seq ?_
  refine c_region ?_
  refine L_op (s_e hS (e_assign rfl) rfl ?_); clear hS a; intro a hS
  refine L_nil ?_
  refine n_then ?_
  refine c_seq ?_
  refine c_seq ?_
  refine c_region ?_
  refine L_op (s_e hS (e_move rfl) rfl ?_); clear hS a; intro a hS
  refine L_op (s_e hS (e_len rfl rfl ty_sl56) rfl ?_); clear hS a; intro a hS
  refine L_op (s_e hS (e_move rfl) rfl ?_); clear hS a; intro a hS
  refine L_op (s_e hS (e_len rfl rfl ty_sl101) rfl ?_); clear hS a; intro a hS
  refine L_op (s_e hS (e_bin rfl rfl rfl) rfl ?_); clear hS a; intro a hS
  refine L_nil ?_
  refine n_then ?_
  replace hS := hS.is (t := 10) (c := false) rfl ((by simp))
  refine c_if_f hS rfl ?_
  refine wp_skip ?_
  refine n_then ?_
  refine c_seq ?_
  refine c_seq ?_
  refine c_region ?_
  refine L_op (s_e hS (e_assign rfl) rfl ?_); clear hS a; intro a hS
  refine L_nil ?_
  refine n_then ?_
  refine wp_block ?_
  skip
  refine c_loop (γ := Nat) (fun i a w => St 54 noB w0 a w [(5, .int .i64 (i : Int)), (0, .slice ad ps.length c), (1, .slice qu ps.length cu)] [twoPA (.slice ad ps.length c) (.slice qu ps.length cu) ps] ∧ i ≤ ps.length) (fun i => ps.length - i) 0 ⟨hS.slots (by repeat (first | exact trivial | refine ⟨rfl, ?_⟩)), Nat.zero_le _⟩ ?_
  clear hS a; (try clear w); intro i a w hI
  obtain ⟨hS, hi⟩ := hI
  refine c_seq ?_
  refine c_seq ?_
  refine c_region ?_
  refine L_op (s_e hS (e_move rfl) rfl ?_); clear hS a; intro a hS
  refine L_op (s_e hS (e_move rfl) rfl ?_); clear hS a; intro a hS
  refine L_op (s_e hS (e_len rfl rfl ty_sl56) rfl ?_); clear hS a; intro a hS
  refine L_op (s_e hS (e_bin rfl rfl rfl) rfl ?_); clear hS a; intro a hS
  refine L_nil ?_
  refine n_then ?_
  first | refine c_ifD hS rfl (fun hc14 => ?_) (fun hc14 => ?_) | refine c_if hS rfl (fun hc14 => ?_) (fun hc14 => ?_)
  ·
    have hik : i < ps.length := by omega
    obtain ⟨x, hx⟩ : ∃ x, ps[i]? = some x := ⟨ps[i], List.getElem?_eq_getElem hik⟩
    obtain ⟨b, off, rfl⟩ := psAt_pos (hS.get (X := twoPA (.slice ad ps.length c) (.slice qu ps.length cu) ps) (by repeat constructor)).1 (fun e => by rw [e] at hik; simp at hik)
    obtain ⟨g, rfl⟩ : ∃ g, qu = some ⟨g, 0, none⟩ := own_at (hS.get (X := twoPA (.slice (some ⟨b, off, none⟩) ps.length c) (.slice qu ps.length cu) ps) (by repeat constructor)).2 (by omega)
    refine wp_skip ?_
    refine n_then ?_
    refine c_seq ?_
    refine wp_block ?_
    refine c_seq ?_
    refine c_drawS [] (by kernel_rfl) hS (sub_cons (X := twoPA (.slice (some ⟨b, off, none⟩) ps.length c) (.slice (some ⟨g, 0, none⟩) ps.length cu) ps) (by repeat constructor) sub_nil) ?_; clear hS; (try clear w); intro w hS
    simp only [List.length_cons, List.length_nil, Nat.zero_add, Nat.reduceAdd, List.replicate]
    refine Z_take0 (i := 0) hS rfl want_none (e_move rfl) (listed' := [true, false, false, false, false, false, false, false, false, false, false, false, false, false, false, false, false, false, false, false, false, false, false, false, false, false, false, false, false, false, false, false, false, false, false, false, false]) rfl (by kernel_rfl) (by kernel_rfl) (by kernel_rfl) (fun _ _ _ h => h) rfl ?_; clear hS a; intro a hS
    refine Z_take0 (i := 1) hS rfl want_none (e_move rfl) (listed' := [true, true, false, false, false, false, false, false, false, false, false, false, false, false, false, false, false, false, false, false, false, false, false, false, false, false, false, false, false, false, false, false, false, false, false, false, false]) rfl (by kernel_rfl) (by kernel_rfl) (by kernel_rfl) (fun _ _ _ h => h) rfl ?_; clear hS a; intro a hS
    refine Z_take0 (i := 2) hS rfl want_none (e_ixN rfl rfl ty_sl56 ty_sz63 (by omega)) (listed' := [true, true, true, false, false, false, false, false, false, false, false, false, false, false, false, false, false, false, false, false, false, false, false, false, false, false, false, false, false, false, false, false, false, false, false, false, false]) rfl (by kernel_rfl) (by kernel_rfl) (by kernel_rfl) (fun _ _ _ h => h) rfl ?_; clear hS a; intro a hS
    first | (refine Z_take0 (i := 3) hS rfl want_none (e_fa0 rfl ty_fo63_0) (listed' := [true, true, true, true, false, false, false, false, false, false, false, false, false, false, false, false, false, false, false, false, false, false, false, false, false, false, false, false, false, false, false, false, false, false, false, false, false]) rfl (by kernel_rfl) (by kernel_rfl) (by kernel_rfl) (fun _ _ _ h => h) rfl ?_; clear hS a; intro a hS) | (refine Z_take0 (i := 3) hS rfl want_none (e_faK rfl ty_fo63_0) (listed' := [true, true, true, true, false, false, false, false, false, false, false, false, false, false, false, false, false, false, false, false, false, false, false, false, false, false, false, false, false, false, false, false, false, false, false, false, false]) rfl (by kernel_rfl) (by kernel_rfl) (by kernel_rfl) (fun _ _ _ h => h) rfl ?_; clear hS a; intro a hS)
    refine Z_take (i := 4) hS rfl want_none (e_loadC rfl ty_sc9 (fun w hh => twoP_get (by repeat constructor) hx w hh 0 (.string x.acc) rfl)) (listed' := [true, true, true, true, true, false, false, false, false, false, false, false, false, false, false, false, false, false, false, false, false, false, false, false, false, false, false, false, false, false, false, false, false, false, false, false, false]) rfl (by kernel_rfl) (by kernel_rfl) (by kernel_rfl) (by kernel_rfl) (by kernel_rfl) (sub_cons (by repeat constructor) sub_nil) (fun _ _ _ h => h) rfl ?_; clear hS a; intro a hS
    refine Z_take0 (i := 5) hS rfl want_none (e_move rfl) (listed' := [true, true, true, true, true, true, false, false, false, false, false, false, false, false, false, false, false, false, false, false, false, false, false, false, false, false, false, false, false, false, false, false, false, false, false, false, false]) rfl (by kernel_rfl) (by kernel_rfl) (by kernel_rfl) (fun _ _ _ h => h) rfl ?_; clear hS a; intro a hS
    refine Z_take0 (i := 6) hS rfl want_none (e_move rfl) (listed' := [true, true, true, true, true, true, true, false, false, false, false, false, false, false, false, false, false, false, false, false, false, false, false, false, false, false, false, false, false, false, false, false, false, false, false, false, false]) rfl (by kernel_rfl) (by kernel_rfl) (by kernel_rfl) (fun _ _ _ h => h) rfl ?_; clear hS a; intro a hS
    refine Z_take0 (i := 7) hS rfl want_none (e_ixN rfl rfl ty_sl101 ty_sz157 (by omega)) (listed' := [true, true, true, true, true, true, true, true, false, false, false, false, false, false, false, false, false, false, false, false, false, false, false, false, false, false, false, false, false, false, false, false, false, false, false, false, false]) rfl (by kernel_rfl) (by kernel_rfl) (by kernel_rfl) (fun _ _ _ h => h) rfl ?_; clear hS a; intro a hS
    first | (refine Z_take0 (i := 8) hS rfl want_none (e_fa0 rfl ty_fo157_0) (listed' := [true, true, true, true, true, true, true, true, true, false, false, false, false, false, false, false, false, false, false, false, false, false, false, false, false, false, false, false, false, false, false, false, false, false, false, false, false]) rfl (by kernel_rfl) (by kernel_rfl) (by kernel_rfl) (fun _ _ _ h => h) rfl ?_; clear hS a; intro a hS) | (refine Z_take0 (i := 8) hS rfl want_none (e_faK rfl ty_fo157_0) (listed' := [true, true, true, true, true, true, true, true, true, false, false, false, false, false, false, false, false, false, false, false, false, false, false, false, false, false, false, false, false, false, false, false, false, false, false, false, false]) rfl (by kernel_rfl) (by kernel_rfl) (by kernel_rfl) (fun _ _ _ h => h) rfl ?_; clear hS a; intro a hS)
    refine Z_take (i := 9) hS rfl want_none (e_loadC rfl ty_sc9 (fun w hh => twoP_getU (by repeat constructor) hx w hh 0 (.string x.acc) rfl)) (listed' := [true, true, true, true, true, true, true, true, true, true, false, false, false, false, false, false, false, false, false, false, false, false, false, false, false, false, false, false, false, false, false, false, false, false, false, false, false]) rfl (by kernel_rfl) (by kernel_rfl) (by kernel_rfl) (by kernel_rfl) (by kernel_rfl) (sub_cons (by repeat constructor) sub_nil) (fun _ _ _ h => h) rfl ?_; clear hS a; intro a hS
    refine Z_take0 (i := 10) hS rfl want_none (e_binS rfl rfl rfl) (listed' := [true, true, true, true, true, true, true, true, true, true, true, false, false, false, false, false, false, false, false, false, false, false, false, false, false, false, false, false, false, false, false, false, false, false, false, false, false]) rfl (by kernel_rfl) (by kernel_rfl) (by kernel_rfl) (fun _ _ _ h => h) rfl ?_; clear hS a; intro a hS
    refine Z_take0 (i := 11) hS rfl want_none (e_move rfl) (listed' := [true, true, true, true, true, true, true, true, true, true, true, true, false, false, false, false, false, false, false, false, false, false, false, false, false, false, false, false, false, false, false, false, false, false, false, false, false]) rfl (by kernel_rfl) (by kernel_rfl) (by kernel_rfl) (fun _ _ _ h => h) rfl ?_; clear hS a; intro a hS
    replace hS := hS.is (t := 28) (c := false) rfl ((by simp))
    refine Z_take0 (i := 12) hS rfl (want_go rfl rfl) (e_move rfl) (listed' := [true, true, true, true, true, true, true, true, true, true, true, true, true, false, false, false, false, false, false, false, false, false, false, false, false, false, false, false, false, false, false, false, false, false, false, false, false]) rfl (by kernel_rfl) (by kernel_rfl) (by kernel_rfl) (fun _ _ _ h => h) rfl ?_; clear hS a; intro a hS
    refine Z_take0 (i := 13) hS rfl (want_go rfl rfl) (e_move rfl) (listed' := [true, true, true, true, true, true, true, true, true, true, true, true, true, true, false, false, false, false, false, false, false, false, false, false, false, false, false, false, false, false, false, false, false, false, false, false, false]) rfl (by kernel_rfl) (by kernel_rfl) (by kernel_rfl) (fun _ _ _ h => h) rfl ?_; clear hS a; intro a hS
    refine Z_take0 (i := 14) hS rfl (want_go rfl rfl) (e_ixN rfl rfl ty_sl56 ty_sz63 (by omega)) (listed' := [true, true, true, true, true, true, true, true, true, true, true, true, true, true, true, false, false, false, false, false, false, false, false, false, false, false, false, false, false, false, false, false, false, false, false, false, false]) rfl (by kernel_rfl) (by kernel_rfl) (by kernel_rfl) (fun _ _ _ h => h) rfl ?_; clear hS a; intro a hS
    first | (refine Z_take0 (i := 15) hS rfl (want_go rfl rfl) (e_fa0 rfl ty_fo63_1) (listed' := [true, true, true, true, true, true, true, true, true, true, true, true, true, true, true, true, false, false, false, false, false, false, false, false, false, false, false, false, false, false, false, false, false, false, false, false, false]) rfl (by kernel_rfl) (by kernel_rfl) (by kernel_rfl) (fun _ _ _ h => h) rfl ?_; clear hS a; intro a hS) | (refine Z_take0 (i := 15) hS rfl (want_go rfl rfl) (e_faK rfl ty_fo63_1) (listed' := [true, true, true, true, true, true, true, true, true, true, true, true, true, true, true, true, false, false, false, false, false, false, false, false, false, false, false, false, false, false, false, false, false, false, false, false, false]) rfl (by kernel_rfl) (by kernel_rfl) (by kernel_rfl) (fun _ _ _ h => h) rfl ?_; clear hS a; intro a hS)
    refine Z_take (i := 16) hS rfl (want_go rfl rfl) (e_loadC rfl ty_sc3 (fun w hh => twoP_get (by repeat constructor) hx w hh 1 (.int .i64 x.u) rfl)) (listed' := [true, true, true, true, true, true, true, true, true, true, true, true, true, true, true, true, true, false, false, false, false, false, false, false, false, false, false, false, false, false, false, false, false, false, false, false, false]) rfl (by kernel_rfl) (by kernel_rfl) (by kernel_rfl) (by kernel_rfl) (by kernel_rfl) (sub_cons (by repeat constructor) sub_nil) (fun _ _ _ h => h) rfl ?_; clear hS a; intro a hS
    refine Z_take0 (i := 17) hS rfl (want_go rfl rfl) (e_move rfl) (listed' := [true, true, true, true, true, true, true, true, true, true, true, true, true, true, true, true, true, true, false, false, false, false, false, false, false, false, false, false, false, false, false, false, false, false, false, false, false]) rfl (by kernel_rfl) (by kernel_rfl) (by kernel_rfl) (fun _ _ _ h => h) rfl ?_; clear hS a; intro a hS
    refine Z_take0 (i := 18) hS rfl (want_go rfl rfl) (e_move rfl) (listed' := [true, true, true, true, true, true, true, true, true, true, true, true, true, true, true, true, true, true, true, false, false, false, false, false, false, false, false, false, false, false, false, false, false, false, false, false, false]) rfl (by kernel_rfl) (by kernel_rfl) (by kernel_rfl) (fun _ _ _ h => h) rfl ?_; clear hS a; intro a hS
    refine Z_take0 (i := 19) hS rfl (want_go rfl rfl) (e_ixN rfl rfl ty_sl101 ty_sz157 (by omega)) (listed' := [true, true, true, true, true, true, true, true, true, true, true, true, true, true, true, true, true, true, true, true, false, false, false, false, false, false, false, false, false, false, false, false, false, false, false, false, false]) rfl (by kernel_rfl) (by kernel_rfl) (by kernel_rfl) (fun _ _ _ h => h) rfl ?_; clear hS a; intro a hS
    first | (refine Z_take0 (i := 20) hS rfl (want_go rfl rfl) (e_fa0 rfl ty_fo157_1) (listed' := [true, true, true, true, true, true, true, true, true, true, true, true, true, true, true, true, true, true, true, true, true, false, false, false, false, false, false, false, false, false, false, false, false, false, false, false, false]) rfl (by kernel_rfl) (by kernel_rfl) (by kernel_rfl) (fun _ _ _ h => h) rfl ?_; clear hS a; intro a hS) | (refine Z_take0 (i := 20) hS rfl (want_go rfl rfl) (e_faK rfl ty_fo157_1) (listed' := [true, true, true, true, true, true, true, true, true, true, true, true, true, true, true, true, true, true, true, true, true, false, false, false, false, false, false, false, false, false, false, false, false, false, false, false, false]) rfl (by kernel_rfl) (by kernel_rfl) (by kernel_rfl) (fun _ _ _ h => h) rfl ?_; clear hS a; intro a hS)
    refine Z_take (i := 21) hS rfl (want_go rfl rfl) (e_loadC rfl ty_sc3 (fun w hh => twoP_getU (by repeat constructor) hx w hh 1 (.int .i64 x.u) rfl)) (listed' := [true, true, true, true, true, true, true, true, true, true, true, true, true, true, true, true, true, true, true, true, true, true, false, false, false, false, false, false, false, false, false, false, false, false, false, false, false]) rfl (by kernel_rfl) (by kernel_rfl) (by kernel_rfl) (by kernel_rfl) (by kernel_rfl) (sub_cons (by repeat constructor) sub_nil) (fun _ _ _ h => h) rfl ?_; clear hS a; intro a hS
    refine Z_take0 (i := 22) hS rfl (want_go rfl rfl) (e_bin rfl rfl rfl) (listed' := [true, true, true, true, true, true, true, true, true, true, true, true, true, true, true, true, true, true, true, true, true, true, true, false, false, false, false, false, false, false, false, false, false, false, false, false, false]) rfl (by kernel_rfl) (by kernel_rfl) (by kernel_rfl) (fun _ _ _ h => h) rfl ?_; clear hS a; intro a hS
    first | (refine Z_take0 (i := 23) hS rfl want_none (e_pick_t rfl rfl) (listed' := [true, true, true, true, true, true, true, true, true, true, true, true, true, true, true, true, true, true, true, true, true, true, true, true, false, false, false, false, false, false, false, false, false, false, false, false, false]) rfl (by kernel_rfl) (by kernel_rfl) (by kernel_rfl) (fun _ _ _ h => h) rfl ?_; clear hS a; intro a hS) | (refine Z_take0 (i := 23) hS rfl want_none (e_pick_f rfl rfl) (listed' := [true, true, true, true, true, true, true, true, true, true, true, true, true, true, true, true, true, true, true, true, true, true, true, true, false, false, false, false, false, false, false, false, false, false, false, false, false]) rfl (by kernel_rfl) (by kernel_rfl) (by kernel_rfl) (fun _ _ _ h => h) rfl ?_; clear hS a; intro a hS)
    refine Z_take0 (i := 24) hS rfl want_none (e_move rfl) (listed' := [true, true, true, true, true, true, true, true, true, true, true, true, true, true, true, true, true, true, true, true, true, true, true, true, true, false, false, false, false, false, false, false, false, false, false, false, false]) rfl (by kernel_rfl) (by kernel_rfl) (by kernel_rfl) (fun _ _ _ h => h) rfl ?_; clear hS a; intro a hS
    replace hS := hS.is (t := 41) (c := false) rfl ((by simp))
    refine Z_take0 (i := 25) hS rfl (want_go rfl rfl) (e_move rfl) (listed' := [true, true, true, true, true, true, true, true, true, true, true, true, true, true, true, true, true, true, true, true, true, true, true, true, true, true, false, false, false, false, false, false, false, false, false, false, false]) rfl (by kernel_rfl) (by kernel_rfl) (by kernel_rfl) (fun _ _ _ h => h) rfl ?_; clear hS a; intro a hS
    refine Z_take0 (i := 26) hS rfl (want_go rfl rfl) (e_move rfl) (listed' := [true, true, true, true, true, true, true, true, true, true, true, true, true, true, true, true, true, true, true, true, true, true, true, true, true, true, true, false, false, false, false, false, false, false, false, false, false]) rfl (by kernel_rfl) (by kernel_rfl) (by kernel_rfl) (fun _ _ _ h => h) rfl ?_; clear hS a; intro a hS
    refine Z_take0 (i := 27) hS rfl (want_go rfl rfl) (e_ixN rfl rfl ty_sl56 ty_sz63 (by omega)) (listed' := [true, true, true, true, true, true, true, true, true, true, true, true, true, true, true, true, true, true, true, true, true, true, true, true, true, true, true, true, false, false, false, false, false, false, false, false, false]) rfl (by kernel_rfl) (by kernel_rfl) (by kernel_rfl) (fun _ _ _ h => h) rfl ?_; clear hS a; intro a hS
    first | (refine Z_take0 (i := 28) hS rfl (want_go rfl rfl) (e_fa0 rfl ty_fo63_2) (listed' := [true, true, true, true, true, true, true, true, true, true, true, true, true, true, true, true, true, true, true, true, true, true, true, true, true, true, true, true, true, false, false, false, false, false, false, false, false]) rfl (by kernel_rfl) (by kernel_rfl) (by kernel_rfl) (fun _ _ _ h => h) rfl ?_; clear hS a; intro a hS) | (refine Z_take0 (i := 28) hS rfl (want_go rfl rfl) (e_faK rfl ty_fo63_2) (listed' := [true, true, true, true, true, true, true, true, true, true, true, true, true, true, true, true, true, true, true, true, true, true, true, true, true, true, true, true, true, false, false, false, false, false, false, false, false]) rfl (by kernel_rfl) (by kernel_rfl) (by kernel_rfl) (fun _ _ _ h => h) rfl ?_; clear hS a; intro a hS)
    refine Z_take (i := 29) hS rfl (want_go rfl rfl) (e_loadC rfl ty_sc3 (fun w hh => twoP_get (by repeat constructor) hx w hh 2 (.int .i64 x.f) rfl)) (listed' := [true, true, true, true, true, true, true, true, true, true, true, true, true, true, true, true, true, true, true, true, true, true, true, true, true, true, true, true, true, true, false, false, false, false, false, false, false]) rfl (by kernel_rfl) (by kernel_rfl) (by kernel_rfl) (by kernel_rfl) (by kernel_rfl) (sub_cons (by repeat constructor) sub_nil) (fun _ _ _ h => h) rfl ?_; clear hS a; intro a hS
    refine Z_take0 (i := 30) hS rfl (want_go rfl rfl) (e_move rfl) (listed' := [true, true, true, true, true, true, true, true, true, true, true, true, true, true, true, true, true, true, true, true, true, true, true, true, true, true, true, true, true, true, true, false, false, false, false, false, false]) rfl (by kernel_rfl) (by kernel_rfl) (by kernel_rfl) (fun _ _ _ h => h) rfl ?_; clear hS a; intro a hS
    refine Z_take0 (i := 31) hS rfl (want_go rfl rfl) (e_move rfl) (listed' := [true, true, true, true, true, true, true, true, true, true, true, true, true, true, true, true, true, true, true, true, true, true, true, true, true, true, true, true, true, true, true, true, false, false, false, false, false]) rfl (by kernel_rfl) (by kernel_rfl) (by kernel_rfl) (fun _ _ _ h => h) rfl ?_; clear hS a; intro a hS
    refine Z_take0 (i := 32) hS rfl (want_go rfl rfl) (e_ixN rfl rfl ty_sl101 ty_sz157 (by omega)) (listed' := [true, true, true, true, true, true, true, true, true, true, true, true, true, true, true, true, true, true, true, true, true, true, true, true, true, true, true, true, true, true, true, true, true, false, false, false, false]) rfl (by kernel_rfl) (by kernel_rfl) (by kernel_rfl) (fun _ _ _ h => h) rfl ?_; clear hS a; intro a hS
    first | (refine Z_take0 (i := 33) hS rfl (want_go rfl rfl) (e_fa0 rfl ty_fo157_2) (listed' := [true, true, true, true, true, true, true, true, true, true, true, true, true, true, true, true, true, true, true, true, true, true, true, true, true, true, true, true, true, true, true, true, true, true, false, false, false]) rfl (by kernel_rfl) (by kernel_rfl) (by kernel_rfl) (fun _ _ _ h => h) rfl ?_; clear hS a; intro a hS) | (refine Z_take0 (i := 33) hS rfl (want_go rfl rfl) (e_faK rfl ty_fo157_2) (listed' := [true, true, true, true, true, true, true, true, true, true, true, true, true, true, true, true, true, true, true, true, true, true, true, true, true, true, true, true, true, true, true, true, true, true, false, false, false]) rfl (by kernel_rfl) (by kernel_rfl) (by kernel_rfl) (fun _ _ _ h => h) rfl ?_; clear hS a; intro a hS)
    refine Z_take (i := 34) hS rfl (want_go rfl rfl) (e_loadC rfl ty_sc3 (fun w hh => twoP_getU (by repeat constructor) hx w hh 2 (.int .i64 x.f) rfl)) (listed' := [true, true, true, true, true, true, true, true, true, true, true, true, true, true, true, true, true, true, true, true, true, true, true, true, true, true, true, true, true, true, true, true, true, true, true, false, false]) rfl (by kernel_rfl) (by kernel_rfl) (by kernel_rfl) (by kernel_rfl) (by kernel_rfl) (sub_cons (by repeat constructor) sub_nil) (fun _ _ _ h => h) rfl ?_; clear hS a; intro a hS
    refine Z_take0 (i := 35) hS rfl (want_go rfl rfl) (e_bin rfl rfl rfl) (listed' := [true, true, true, true, true, true, true, true, true, true, true, true, true, true, true, true, true, true, true, true, true, true, true, true, true, true, true, true, true, true, true, true, true, true, true, true, false]) rfl (by kernel_rfl) (by kernel_rfl) (by kernel_rfl) (fun _ _ _ h => h) rfl ?_; clear hS a; intro a hS
    first | (refine Z_take0 (i := 36) hS rfl want_none (e_pick_t rfl rfl) (listed' := [true, true, true, true, true, true, true, true, true, true, true, true, true, true, true, true, true, true, true, true, true, true, true, true, true, true, true, true, true, true, true, true, true, true, true, true, true]) rfl (by kernel_rfl) (by kernel_rfl) (by kernel_rfl) (fun _ _ _ h => h) rfl ?_; clear hS a; intro a hS) | (refine Z_take0 (i := 36) hS rfl want_none (e_pick_f rfl rfl) (listed' := [true, true, true, true, true, true, true, true, true, true, true, true, true, true, true, true, true, true, true, true, true, true, true, true, true, true, true, true, true, true, true, true, true, true, true, true, true]) rfl (by kernel_rfl) (by kernel_rfl) (by kernel_rfl) (fun _ _ _ h => h) rfl ?_; clear hS a; intro a hS)
    refine Z_done (by kernel_rfl) ?_
    refine n_then ?_
    replace hS := hS.is (t := 53) (c := false) rfl ((by simp))
    refine c_if_f hS rfl ?_
    refine wp_skip ?_
    refine n_block ?_
    refine n_then ?_
    refine c_region ?_
    refine L_op (s_e hS (e_move rfl) rfl ?_); clear hS a; intro a hS
    first | (refine L_op (s_e hS (e_binN rfl rfl rfl (by omega)) rfl ?_); clear hS a; intro a hS) | (refine L_op (s_e hS (e_bin rfl rfl rfl) rfl ?_); clear hS a; intro a hS)
    refine L_op (s_e hS (e_assign rfl) rfl ?_); clear hS a; intro a hS
    refine L_nil ?_
    exact ⟨i + 1, by omega, hS.slots (by repeat (first | exact trivial | refine ⟨rfl, ?_⟩)), by omega⟩
  ·
    refine wp_exit ?_
    refine x_then (x_then (x_hit ?_))
    refine n_then ?_
    refine c_seq ?_
    refine c_region ?_
    refine L_op (s_e hS (e_assign rfl) rfl ?_); clear hS a; intro a hS
    refine L_nil ?_
    refine n_then ?_
    refine wp_ret ?_
    refine c_ret1 hS Try.results47 (.tmp rfl) ?_
    exact ⟨rfl, hS.chg⟩
end Go.Proofs.Ytheofhegdjjfgaa

namespace Go.Proofs.Ytheofhegdjjfgaa
open Go.RowKit

/-- a number as the program holds it. -/
def bigV (z : Int) (p : Option (Nat × Nat)) (c : Nat) : Value := .agg [.bool (decide (z < 0)), sliceV p (dgs z.natAbs).length c].toArray
def bigA (z : Int) (b : Nat) : Asn := .any (fun k => k = b) (RowP (some (b, 0)) 1 ((dgs z.natAbs).map encD)) true
/-- a number of that sign and size. -/
def sgn (neg : Bool) (v : Int) : Int := if neg then -v else v
theorem sgn_abs {neg : Bool} {v : Int} (h : 0 ≤ v) : (sgn neg v).natAbs = v.toNat := by unfold sgn; split <;> omega
theorem trim_val {neg : Bool} {v : Int} (h : 0 ≤ v) {p : Option (Nat × Nat)} {c k : Nat} (hk : (dgs v.toNat).length = k) : bigV (sgn neg v) p c = .agg [.bool (neg && decide (0 < (k : Int))), sliceV p k c].toArray := by
  unfold bigV
  rw [sgn_abs h, hk]
  have h2 : 0 < k ↔ 0 < v := by
    have := dgs_ne (n := v.toNat)
    rw [← List.length_pos_iff, hk] at this
    rw [this]; omega
  have : decide (sgn neg v < 0) = (neg && decide (0 < (k : Int))) := by
    cases neg <;> simp [sgn] <;> omega
  rw [this]
theorem digOne (l : List Int) : ∀ u ∈ l.flatMap encD, isOne u = true := by
  intro u hu
  obtain ⟨x, _, hx⟩ := List.mem_flatMap.1 hu
  simp only [encD, List.mem_cons, List.not_mem_nil, or_false] at hx
  rw [hx]; rfl
theorem dig_flat {b off : Nat} {l : List Int} {w : World} (h : RowAt b off 1 (l.map encD) w) : ∀ j u, (l.flatMap encD)[j]? = some u → w.cell? ⟨b, off + j, none⟩ = some u := by
  intro j u hu
  have hlt := (List.getElem?_eq_some_iff.1 hu).1
  rw [flat_len encD 1 (fun _ => rfl)] at hlt
  have hx : (l.map encD)[j]? = some (encD l[j]) := by simp [show j < l.length by omega]
  have hj := flat_get encD 1 (fun _ => rfl) l j l[j] (by simp) 0 (.int .i64 l[j]) rfl
  rw [Nat.mul_one, Nat.add_zero, hu] at hj
  have := h j _ hx 0 u (by rw [hj]; rfl)
  simpa using this
theorem rowAt_take {b off s k : Nat} {xs : List (List Value)} {w : World} (h : RowAt b off s xs w) : RowAt b off s (xs.take k) w := by
  intro i x hx
  rw [List.getElem?_take] at hx
  split at hx
  · exact h i x hx
  · cases hx
theorem big_of_own {w : World} {b c m : Nat} {z : Int} {l : List Int} (hl : l = dgs z.natAbs) (h : w.ownsRow 0 3 1 (.slice (some ⟨b, 0, none⟩) m c) m (l.flatMap encD)) : (bigA z b).ok w := by
  subst hl
  exact ⟨fun k hk => by obtain rfl : k = b := hk; exact (World.ownsRow.lt h k rfl).2, fun w' hw => RowAt.keep (row_of_own (enc := encD) (fun _ => rfl) h) (hw b rfl)⟩

theorem big_zero (b c : Nat) : bigV 0 (some (b, 0)) c = .agg [.bool false, .slice (some ⟨b, 0, none⟩) 0 c].toArray := by
  unfold bigV
  rw [show (0 : Int).natAbs = 0 from rfl, dgs_zero]; rfl
theorem own_le {w : World} {E s b c m : Nat} {xs : List Value} (h : w.ownsRow 0 E s (.slice (some ⟨b, 0, none⟩) m c) m xs) : m ≤ c := by
  rcases h.2 with ⟨e, _⟩ | ⟨g, cap, cur, e, _, _, h1, _⟩
  · cases e
  · cases e; exact h1
/-- where a number's digits lie, and how far they may grow. -/
abbrev At (z : Int) := { y : Nat × Nat // (dgs z.natAbs).length ≤ y.2 }
set_option maxRecDepth 100000 in
theorem trim_none (neg : Bool) (w0 : World) : NewC Try.prog 57 [.bool neg, .slice none 0 0] w0 (fun y : At 0 => bigV 0 (some (y.1.1, 0)) y.1.2) (fun y => bigA 0 y.1.1) := by
  refine c_enter [(0, .bool neg), (1, .slice none 0 0)] [] noB Try.func57 rfl Try.ntmps57 ⟨rfl, rfl, trivial⟩ rfl (by simp) (by simp) (by simp) ?_
  intro a hS
  refine c_seq ?_
  refine c_region ?_
  refine L_op (s_alloc hS ty_z44 rfl ?_); clear hS a; (try clear w); intro a w b4 hS
  refine L_nil ?_
  refine n_then ?_
  refine c_seq ?_
  refine c_region ?_
  refine L_op (s_e hS (e_move rfl) rfl ?_); clear hS a; intro a hS
  refine L_op (s_e hS (e_len rfl rfl ty_sl42) rfl ?_); clear hS a; intro a hS
  refine L_op (s_e hS (e_assign rfl) rfl ?_); clear hS a; intro a hS
  refine L_nil ?_
  refine n_then ?_
  refine c_seq ?_
  refine wp_block ?_
  skip
  refine c_loop (γ := Nat) (fun k a w => St 31 noB w0 a w [(5, .int .i64 0), (4, .pointer (some ⟨b4, 0, none⟩)), (0, .bool neg), (1, .slice none 0 0)] [.blk b4 [.bool false, .slice none 0 0] 44] ∧ k = 0) (fun k => k) 0 ⟨hS.slots ⟨rfl, rfl, rfl, rfl, trivial⟩, rfl⟩ ?_
  clear hS a; (try clear w); intro k a w hI
  obtain ⟨hS, hk⟩ := hI
  refine c_seq ?_
  refine c_seq ?_
  refine c_region ?_
  refine L_op (s_e hS (e_move rfl) rfl ?_); clear hS a; intro a hS
  refine L_op (s_e hS (e_bin rfl rfl rfl) rfl ?_); clear hS a; intro a hS
  refine L_op (s_e hS (e_move rfl) rfl ?_); clear hS a; intro a hS
  replace hS := hS.is (t := 10) (c := false) rfl ((by decide))
  refine L_skip_t hS rfl rfl rfl ?_; clear hS a; intro a hS
  refine L_skip_t hS rfl rfl rfl ?_; clear hS a; intro a hS
  refine L_skip_t hS rfl rfl rfl ?_; clear hS a; intro a hS
  refine L_skip_t hS rfl rfl rfl ?_; clear hS a; intro a hS
  refine L_skip_t hS rfl rfl rfl ?_; clear hS a; intro a hS
  refine L_skip_t hS rfl rfl rfl ?_; clear hS a; intro a hS
  first | (refine L_op (s_e hS (e_pick_t rfl rfl) rfl ?_); clear hS a; intro a hS) | (refine L_op (s_e hS (e_pick_f rfl rfl) rfl ?_); clear hS a; intro a hS)
  refine L_nil ?_
  refine n_then ?_
  refine c_if_f hS rfl ?_
  refine wp_exit ?_
  refine x_then (x_then (x_hit ?_))
  refine n_then ?_
  refine c_seq ?_
  refine c_region ?_
  refine L_op (s_e hS (e_move rfl) rfl ?_); clear hS a; intro a hS
  refine L_op (s_e hS (e_move rfl) rfl ?_); clear hS a; intro a hS
  (first | refine g_splitD (t := 21) hS rfl ?_ ?_ | refine g_split (t := 21) hS rfl ?_ ?_) <;> (clear hS; intro hg21 hS)
  ·
    refine L_go hS rfl rfl (s_e hS (e_move rfl) rfl ?_); clear hS a; intro a hS
    refine L_go hS rfl rfl (s_e hS (e_bin rfl rfl rfl) rfl ?_); clear hS a; intro a hS
    first | (refine L_op (s_e hS (e_pick_t rfl rfl) rfl ?_); clear hS a; intro a hS) | (refine L_op (s_e hS (e_pick_f rfl rfl) rfl ?_); clear hS a; intro a hS)
    refine L_op (s_bslice hS ty_sl42 ty_sz3 ty_z3 rfl rfl rfl rfl .nil rfl ?_); clear hS a; (try clear w); intro a w b25 hS
    refine L_op (s_e hS (e_move rfl) rfl ?_); clear hS a; intro a hS
    refine L_op (s_e hS (e_move rfl) rfl ?_); clear hS a; intro a hS
    refine L_op (s_e hS (e_slH (j := 0) rfl rfl ty_sl42 ty_sz3 (Nat.le_refl _)) rfl ?_); clear hS a; intro a hS
    replace hS := hS.swap (X := .blk b25 [] 3) (Y := ownA 3 1 (.slice (some ⟨b25, 0, none⟩) 0 0) 0 []) (by repeat (first | apply Rep.head | apply Rep.tail)) (own_empty (hS.get (X := .blk b25 [] 3) (by repeat (first | exact .head _ | refine .tail _ ?_)))) (fun b hb => by simpa [ownA, Asn.F, Value.ownBlock, eq_comm] using hb) rfl
    refine L_op (s_e hS (e_append0 rfl rfl ty_sl42 ty_sz3 ty_by3 ty_z3 (by repeat (first | exact .head _ | refine .tail _ ?_))) rfl ?_); clear hS a; intro a hS
    refine L_op (s_e hS (e_build ty_z44 ty_pl44 (.one rfl rfl rfl (by repeat constructor) (.one rfl rfl rfl (by repeat constructor) .nil))) rfl ?_); clear hS a; intro a hS
    refine L_op (s_storeA hS rfl rfl ty_sz44 (by repeat constructor) (by rfl) (by rfl) (by rfl) ?_); clear hS; (try clear w); intro w hS
    refine L_nil ?_
    refine n_then ?_
    refine wp_ret ?_
    refine c_ret1 hS Try.results57 (.cellA rfl (by repeat constructor) ty_st44 ty_sz44 (by rfl)) ?_
    have hn := hS.new (X := ownA 3 1 (.slice (some ⟨b25, 0, none⟩) 0 0) 0 []) (by repeat (first | exact .head _ | refine .tail _ ?_)) rfl
    refine ⟨⟨(b25, 0), by rw [show (0 : Int).natAbs = 0 from rfl, dgs_zero]; exact Nat.le_refl _⟩, (congrArg Ending.returned (big_zero b25 0)).symm, hS.chg, big_of_own (c := 0) (m := 0) (l := []) (by rw [show (0 : Int).natAbs = 0 from rfl, dgs_zero]) hn.1.now, fun q hq => hn.2 q (by obtain rfl : q = b25 := hq; rfl)⟩
  ·
    refine L_skip_t hS rfl rfl rfl ?_; clear hS a; intro a hS
    refine L_skip_t hS rfl rfl rfl ?_; clear hS a; intro a hS
    first | (refine L_op (s_e hS (e_pick_t rfl rfl) rfl ?_); clear hS a; intro a hS) | (refine L_op (s_e hS (e_pick_f rfl rfl) rfl ?_); clear hS a; intro a hS)
    refine L_op (s_bslice hS ty_sl42 ty_sz3 ty_z3 rfl rfl rfl rfl .nil rfl ?_); clear hS a; (try clear w); intro a w b25 hS
    refine L_op (s_e hS (e_move rfl) rfl ?_); clear hS a; intro a hS
    refine L_op (s_e hS (e_move rfl) rfl ?_); clear hS a; intro a hS
    refine L_op (s_e hS (e_slH (j := 0) rfl rfl ty_sl42 ty_sz3 (Nat.le_refl _)) rfl ?_); clear hS a; intro a hS
    replace hS := hS.swap (X := .blk b25 [] 3) (Y := ownA 3 1 (.slice (some ⟨b25, 0, none⟩) 0 0) 0 []) (by repeat (first | apply Rep.head | apply Rep.tail)) (own_empty (hS.get (X := .blk b25 [] 3) (by repeat (first | exact .head _ | refine .tail _ ?_)))) (fun b hb => by simpa [ownA, Asn.F, Value.ownBlock, eq_comm] using hb) rfl
    refine L_op (s_e hS (e_append0 rfl rfl ty_sl42 ty_sz3 ty_by3 ty_z3 (by repeat (first | exact .head _ | refine .tail _ ?_))) rfl ?_); clear hS a; intro a hS
    refine L_op (s_e hS (e_build ty_z44 ty_pl44 (.one rfl rfl rfl (by repeat constructor) (.one rfl rfl rfl (by repeat constructor) .nil))) rfl ?_); clear hS a; intro a hS
    refine L_op (s_storeA hS rfl rfl ty_sz44 (by repeat constructor) (by rfl) (by rfl) (by rfl) ?_); clear hS; (try clear w); intro w hS
    refine L_nil ?_
    refine n_then ?_
    refine wp_ret ?_
    refine c_ret1 hS Try.results57 (.cellA rfl (by repeat constructor) ty_st44 ty_sz44 (by rfl)) ?_
    have hn := hS.new (X := ownA 3 1 (.slice (some ⟨b25, 0, none⟩) 0 0) 0 []) (by repeat (first | exact .head _ | refine .tail _ ?_)) rfl
    refine ⟨⟨(b25, 0), by rw [show (0 : Int).natAbs = 0 from rfl, dgs_zero]; exact Nat.le_refl _⟩, (congrArg Ending.returned (big_zero b25 0)).symm, hS.chg, big_of_own (c := 0) (m := 0) (l := []) (by rw [show (0 : Int).natAbs = 0 from rfl, dgs_zero]) hn.1.now, fun q hq => hn.2 q (by obtain rfl : q = b25 := hq; rfl)⟩

set_option maxRecDepth 100000 in
theorem trim_some (neg : Bool) (b off c : Nat) (ds : List Int) (hin : inR ds) (hc : ds.length ≤ c) (hlen : ds.length ≤ 1000000) (w0 : World) (hrow : RowAt b off 1 (ds.map encD) w0) (hb : b < w0.heap.size) :
    NewC Try.prog 57 [.bool neg, sliceV (some (b, off)) ds.length c] w0 (fun y : At (sgn neg (nv ds)) => bigV (sgn neg (nv ds)) (some (y.1.1, 0)) y.1.2) (fun y => bigA (sgn neg (nv ds)) y.1.1) := by
  refine c_enter [(0, .bool neg), (1, sliceV (some (b, off)) ds.length c)] [rowA b off 1 (ds.map encD)] noB Try.func57 rfl Try.ntmps57 ⟨rfl, rfl, trivial⟩ rfl (by intro X hX; obtain rfl := List.mem_singleton.1 hX; exact ok_row hrow hb) (by simp) (by intro X hX hm; obtain rfl := List.mem_singleton.1 hX; cases hm) ?_
  intro a hS
  refine c_seq ?_
  refine c_region ?_
  refine L_op (s_alloc hS ty_z44 rfl ?_); clear hS a; (try clear w); intro a w b4 hS
  refine L_nil ?_
  refine n_then ?_
  refine c_seq ?_
  refine c_region ?_
  refine L_op (s_e hS (e_move rfl) rfl ?_); clear hS a; intro a hS
  refine L_op (s_e hS (e_len rfl rfl ty_sl42) rfl ?_); clear hS a; intro a hS
  refine L_op (s_e hS (e_assign rfl) rfl ?_); clear hS a; intro a hS
  refine L_nil ?_
  refine n_then ?_
  refine c_seq ?_
  refine wp_block ?_
  skip
  refine c_loop (γ := Nat) (fun k a w => St 31 noB w0 a w [(5, .int .i64 (k : Int)), (4, .pointer (some ⟨b4, 0, none⟩)), (0, .bool neg), (1, sliceV (some (b, off)) ds.length c)] [.blk b4 [.bool false, .slice none 0 0] 44, rowA b off 1 (ds.map encD)] ∧ k ≤ ds.length ∧ nv (ds.take k) = nv ds) (fun k => k) ds.length ⟨hS.slots ⟨rfl, rfl, rfl, rfl, trivial⟩, Nat.le_refl _, by rw [List.take_length]⟩ ?_
  clear hS a; (try clear w); intro k a w hI
  obtain ⟨hS, hk, hv⟩ := hI
  refine c_seq ?_
  refine c_seq ?_
  refine c_region ?_
  refine L_op (s_e hS (e_move rfl) rfl ?_); clear hS a; intro a hS
  refine L_op (s_e hS (e_bin rfl rfl rfl) rfl ?_); clear hS a; intro a hS
  refine L_op (s_e hS (e_move rfl) rfl ?_); clear hS a; intro a hS
  try (
    have hk1 : 0 < k := by omega
    have hkn : ((k : Int) - 1).toNat = k - 1 := by omega
    obtain ⟨d, hd⟩ : ∃ d, ds[k - 1]? = some d := ⟨ds[k - 1]'(by omega), List.getElem?_eq_getElem (by omega)⟩
    have hd' : (ds.map encD)[k - 1]? = some (encD d) := by simp [hd])
  (first | refine g_splitD (t := 10) hS rfl ?_ ?_ | refine g_split (t := 10) hS rfl ?_ ?_) <;> (clear hS; intro hg10 hS)
  ·
    try (
      have hk1 : 0 < k := by omega
      have hkn : ((k : Int) - 1).toNat = k - 1 := by omega
      obtain ⟨d, hd⟩ : ∃ d, ds[k - 1]? = some d := ⟨ds[k - 1]'(by omega), List.getElem?_eq_getElem (by omega)⟩
      have hd' : (ds.map encD)[k - 1]? = some (encD d) := by simp [hd])
    refine L_go hS rfl rfl (s_e hS (e_move rfl) rfl ?_); clear hS a; intro a hS
    refine L_go hS rfl rfl (s_e hS (e_move rfl) rfl ?_); clear hS a; intro a hS
    first | (refine L_go hS rfl rfl (s_e hS (e_binN rfl rfl rfl (by omega)) rfl ?_); clear hS a; intro a hS) | (refine L_go hS rfl rfl (s_e hS (e_bin rfl rfl rfl) rfl ?_); clear hS a; intro a hS)
    refine L_go hS rfl rfl (s_e hS (e_ix rfl rfl ty_sl42 ty_sz3 (by omega)) rfl ?_); clear hS a; intro a hS
    refine L_go hS rfl rfl (s_e hS (e_loadC rfl ty_sc3 (fun w hh => by rw [hkn]; exact row_get (by repeat (first | exact .head _ | refine .tail _ ?_)) hd' w hh 0 (.int .i64 d) rfl)) rfl ?_); clear hS a; intro a hS
    refine L_go hS rfl rfl (s_e hS (e_bin rfl rfl rfl) rfl ?_); clear hS a; intro a hS
    first | (refine L_op (s_e hS (e_pick_t rfl rfl) rfl ?_); clear hS a; intro a hS) | (refine L_op (s_e hS (e_pick_f rfl rfl) rfl ?_); clear hS a; intro a hS)
    refine L_nil ?_
    refine n_then ?_
    first | refine c_ifD hS rfl (fun hc17 => ?_) (fun hc17 => ?_) | refine c_if hS rfl (fun hc17 => ?_) (fun hc17 => ?_)
    ·
      refine wp_skip ?_
      refine n_then ?_
      refine wp_block ?_
      refine c_region ?_
      refine L_op (s_e hS (e_move rfl) rfl ?_); clear hS a; intro a hS
      first | (refine L_op (s_e hS (e_binN rfl rfl rfl (by omega)) rfl ?_); clear hS a; intro a hS) | (refine L_op (s_e hS (e_bin rfl rfl rfl) rfl ?_); clear hS a; intro a hS)
      refine L_op (s_e hS (e_assign rfl) rfl ?_); clear hS a; intro a hS
      refine L_nil ?_
      refine n_block ?_
      exact ⟨k - 1, by omega, by rw [show ((k - 1 : Nat) : Int) = (k : Int) - 1 by omega]; exact hS.slots (by exact ⟨rfl, rfl, rfl, rfl, trivial⟩), by omega, by subst hc17; have := trim_step hd; rw [show k - 1 + 1 = k by omega] at this; rw [← this]; exact hv⟩
    ·
      refine wp_exit ?_
      refine x_then (x_then (x_hit ?_))
      refine n_then ?_
      refine c_seq ?_
      refine c_region ?_
      have hT : ds.take k = dgs (nv ds).toNat := trim_end hin hk (by first | exact .inl (by omega) | exact .inr ⟨d, hd, hc17⟩) hv
      refine L_op (s_e hS (e_move rfl) rfl ?_); clear hS a; intro a hS
      refine L_op (s_e hS (e_move rfl) rfl ?_); clear hS a; intro a hS
      (first | refine g_splitD (t := 21) hS rfl ?_ ?_ | refine g_split (t := 21) hS rfl ?_ ?_) <;> (clear hS; intro hg21 hS)
      ·
        refine L_go hS rfl rfl (s_e hS (e_move rfl) rfl ?_); clear hS a; intro a hS
        refine L_go hS rfl rfl (s_e hS (e_bin rfl rfl rfl) rfl ?_); clear hS a; intro a hS
        first | (refine L_op (s_e hS (e_pick_t rfl rfl) rfl ?_); clear hS a; intro a hS) | (refine L_op (s_e hS (e_pick_f rfl rfl) rfl ?_); clear hS a; intro a hS)
        refine L_op (s_bslice hS ty_sl42 ty_sz3 ty_z3 rfl rfl rfl rfl .nil rfl ?_); clear hS a; (try clear w); intro a w b25 hS
        refine L_op (s_e hS (e_move rfl) rfl ?_); clear hS a; intro a hS
        refine L_op (s_e hS (e_move rfl) rfl ?_); clear hS a; intro a hS
        refine L_op (s_e hS (e_slH rfl rfl ty_sl42 ty_sz3 (by omega)) rfl ?_); clear hS a; intro a hS
        replace hS := hS.swap (X := .blk b25 [] 3) (Y := ownA 3 1 (.slice (some ⟨b25, 0, none⟩) 0 0) 0 []) (by repeat (first | apply Rep.head | apply Rep.tail)) (own_empty (hS.get (X := .blk b25 [] 3) (by repeat (first | exact .head _ | refine .tail _ ?_)))) (fun b hb => by simpa [ownA, Asn.F, Value.ownBlock, eq_comm] using hb) rfl
        refine L_op (s_append hS rfl rfl ty_sl42 ty_sz3 ty_by3 ty_z3 rfl rfl rfl (by repeat (first | exact .head _ | refine .tail _ ?_)) (ys := (ds.take k).flatMap encD) (by rw [flat_len encD 1 (fun _ => rfl), List.length_take]; omega) (by have := dig_flat (l := ds.take k) (by rw [List.map_take]; exact rowAt_take (hS.get (X := rowA b off 1 (ds.map encD)) (by repeat (first | exact .head _ | refine .tail _ ?_)))); exact this) (digOne _) (by omega) (fun _ => (by repeat (first | apply Rep.head | apply Rep.tail))) ?_); clear hS a; (try clear w); intro v29 a w hv29 hS
        obtain ⟨lb, c', rfl⟩ := own_some (hS.get (.head _)) (fun e => by have := (hv29.1 e).1; cases this)
        rw [Nat.zero_add, List.nil_append] at hS
        clear hv29
        refine L_op (s_e hS (e_build ty_z44 ty_pl44 (.one rfl rfl rfl (by repeat constructor) (.one rfl rfl rfl (by repeat constructor) .nil))) rfl ?_); clear hS a; intro a hS
        refine L_op (s_storeA hS rfl rfl ty_sz44 (by repeat constructor) (by rfl) (by rfl) (by rfl) ?_); clear hS; (try clear w); intro w hS
        refine L_nil ?_
        refine n_then ?_
        refine wp_ret ?_
        refine c_ret1 hS Try.results57 (.cellA rfl (by repeat constructor) ty_st44 ty_sz44 (by rfl)) ?_
        have hlk : (dgs (nv ds).toNat).length = k := by rw [← hT, List.length_take]; omega
        have hn := hS.new (X := ownA 3 1 (.slice (some ⟨lb, 0, none⟩) k c') k ((ds.take k).flatMap encD)) (by repeat (first | exact .head _ | refine .tail _ ?_)) rfl
        refine ⟨⟨(lb, c'), by rw [sgn_abs (nv_nonneg hin), hlk]; exact own_le hn.1.now⟩, ?_, hS.chg, big_of_own (by rw [sgn_abs (nv_nonneg hin)]; exact hT) hn.1.now, fun q hq => hn.2 q (by obtain rfl : q = lb := hq; rfl)⟩
        show _ = Ending.returned (bigV (sgn neg (nv ds)) (some (lb, 0)) c')
        rw [trim_val (nv_nonneg hin) hlk, hg21]
        simp [sliceV]
      ·
        refine L_skip_t hS rfl rfl rfl ?_; clear hS a; intro a hS
        refine L_skip_t hS rfl rfl rfl ?_; clear hS a; intro a hS
        first | (refine L_op (s_e hS (e_pick_t rfl rfl) rfl ?_); clear hS a; intro a hS) | (refine L_op (s_e hS (e_pick_f rfl rfl) rfl ?_); clear hS a; intro a hS)
        refine L_op (s_bslice hS ty_sl42 ty_sz3 ty_z3 rfl rfl rfl rfl .nil rfl ?_); clear hS a; (try clear w); intro a w b25 hS
        refine L_op (s_e hS (e_move rfl) rfl ?_); clear hS a; intro a hS
        refine L_op (s_e hS (e_move rfl) rfl ?_); clear hS a; intro a hS
        refine L_op (s_e hS (e_slH rfl rfl ty_sl42 ty_sz3 (by omega)) rfl ?_); clear hS a; intro a hS
        replace hS := hS.swap (X := .blk b25 [] 3) (Y := ownA 3 1 (.slice (some ⟨b25, 0, none⟩) 0 0) 0 []) (by repeat (first | apply Rep.head | apply Rep.tail)) (own_empty (hS.get (X := .blk b25 [] 3) (by repeat (first | exact .head _ | refine .tail _ ?_)))) (fun b hb => by simpa [ownA, Asn.F, Value.ownBlock, eq_comm] using hb) rfl
        refine L_op (s_append hS rfl rfl ty_sl42 ty_sz3 ty_by3 ty_z3 rfl rfl rfl (by repeat (first | exact .head _ | refine .tail _ ?_)) (ys := (ds.take k).flatMap encD) (by rw [flat_len encD 1 (fun _ => rfl), List.length_take]; omega) (by have := dig_flat (l := ds.take k) (by rw [List.map_take]; exact rowAt_take (hS.get (X := rowA b off 1 (ds.map encD)) (by repeat (first | exact .head _ | refine .tail _ ?_)))); exact this) (digOne _) (by omega) (fun _ => (by repeat (first | apply Rep.head | apply Rep.tail))) ?_); clear hS a; (try clear w); intro v29 a w hv29 hS
        obtain ⟨lb, c', rfl⟩ := own_some (hS.get (.head _)) (fun e => by have := (hv29.1 e).1; cases this)
        rw [Nat.zero_add, List.nil_append] at hS
        clear hv29
        refine L_op (s_e hS (e_build ty_z44 ty_pl44 (.one rfl rfl rfl (by repeat constructor) (.one rfl rfl rfl (by repeat constructor) .nil))) rfl ?_); clear hS a; intro a hS
        refine L_op (s_storeA hS rfl rfl ty_sz44 (by repeat constructor) (by rfl) (by rfl) (by rfl) ?_); clear hS; (try clear w); intro w hS
        refine L_nil ?_
        refine n_then ?_
        refine wp_ret ?_
        refine c_ret1 hS Try.results57 (.cellA rfl (by repeat constructor) ty_st44 ty_sz44 (by rfl)) ?_
        have hlk : (dgs (nv ds).toNat).length = k := by rw [← hT, List.length_take]; omega
        have hn := hS.new (X := ownA 3 1 (.slice (some ⟨lb, 0, none⟩) k c') k ((ds.take k).flatMap encD)) (by repeat (first | exact .head _ | refine .tail _ ?_)) rfl
        refine ⟨⟨(lb, c'), by rw [sgn_abs (nv_nonneg hin), hlk]; exact own_le hn.1.now⟩, ?_, hS.chg, big_of_own (by rw [sgn_abs (nv_nonneg hin)]; exact hT) hn.1.now, fun q hq => hn.2 q (by obtain rfl : q = lb := hq; rfl)⟩
        show _ = Ending.returned (bigV (sgn neg (nv ds)) (some (lb, 0)) c')
        rw [trim_val (nv_nonneg hin) hlk, hg21]
        simp [sliceV]
  ·
    try (
      have hk1 : 0 < k := by omega
      have hkn : ((k : Int) - 1).toNat = k - 1 := by omega
      obtain ⟨d, hd⟩ : ∃ d, ds[k - 1]? = some d := ⟨ds[k - 1]'(by omega), List.getElem?_eq_getElem (by omega)⟩
      have hd' : (ds.map encD)[k - 1]? = some (encD d) := by simp [hd])
    refine L_skip_t hS rfl rfl rfl ?_; clear hS a; intro a hS
    refine L_skip_t hS rfl rfl rfl ?_; clear hS a; intro a hS
    refine L_skip_t hS rfl rfl rfl ?_; clear hS a; intro a hS
    refine L_skip_t hS rfl rfl rfl ?_; clear hS a; intro a hS
    refine L_skip_t hS rfl rfl rfl ?_; clear hS a; intro a hS
    refine L_skip_t hS rfl rfl rfl ?_; clear hS a; intro a hS
    first | (refine L_op (s_e hS (e_pick_t rfl rfl) rfl ?_); clear hS a; intro a hS) | (refine L_op (s_e hS (e_pick_f rfl rfl) rfl ?_); clear hS a; intro a hS)
    refine L_nil ?_
    refine n_then ?_
    refine c_if_f hS rfl ?_
    refine wp_exit ?_
    refine x_then (x_then (x_hit ?_))
    refine n_then ?_
    refine c_seq ?_
    refine c_region ?_
    have hT : ds.take k = dgs (nv ds).toNat := trim_end hin hk (by first | exact .inl (by omega) | exact .inr ⟨d, hd, hc17⟩) hv
    refine L_op (s_e hS (e_move rfl) rfl ?_); clear hS a; intro a hS
    refine L_op (s_e hS (e_move rfl) rfl ?_); clear hS a; intro a hS
    (first | refine g_splitD (t := 21) hS rfl ?_ ?_ | refine g_split (t := 21) hS rfl ?_ ?_) <;> (clear hS; intro hg21 hS)
    ·
      refine L_go hS rfl rfl (s_e hS (e_move rfl) rfl ?_); clear hS a; intro a hS
      refine L_go hS rfl rfl (s_e hS (e_bin rfl rfl rfl) rfl ?_); clear hS a; intro a hS
      first | (refine L_op (s_e hS (e_pick_t rfl rfl) rfl ?_); clear hS a; intro a hS) | (refine L_op (s_e hS (e_pick_f rfl rfl) rfl ?_); clear hS a; intro a hS)
      refine L_op (s_bslice hS ty_sl42 ty_sz3 ty_z3 rfl rfl rfl rfl .nil rfl ?_); clear hS a; (try clear w); intro a w b25 hS
      refine L_op (s_e hS (e_move rfl) rfl ?_); clear hS a; intro a hS
      refine L_op (s_e hS (e_move rfl) rfl ?_); clear hS a; intro a hS
      refine L_op (s_e hS (e_slH rfl rfl ty_sl42 ty_sz3 (by omega)) rfl ?_); clear hS a; intro a hS
      replace hS := hS.swap (X := .blk b25 [] 3) (Y := ownA 3 1 (.slice (some ⟨b25, 0, none⟩) 0 0) 0 []) (by repeat (first | apply Rep.head | apply Rep.tail)) (own_empty (hS.get (X := .blk b25 [] 3) (by repeat (first | exact .head _ | refine .tail _ ?_)))) (fun b hb => by simpa [ownA, Asn.F, Value.ownBlock, eq_comm] using hb) rfl
      refine L_op (s_append hS rfl rfl ty_sl42 ty_sz3 ty_by3 ty_z3 rfl rfl rfl (by repeat (first | exact .head _ | refine .tail _ ?_)) (ys := (ds.take k).flatMap encD) (by rw [flat_len encD 1 (fun _ => rfl), List.length_take]; omega) (by have := dig_flat (l := ds.take k) (by rw [List.map_take]; exact rowAt_take (hS.get (X := rowA b off 1 (ds.map encD)) (by repeat (first | exact .head _ | refine .tail _ ?_)))); exact this) (digOne _) (by omega) (fun _ => (by repeat (first | apply Rep.head | apply Rep.tail))) ?_); clear hS a; (try clear w); intro v29 a w hv29 hS
      obtain ⟨lb, c', rfl⟩ := own_some (hS.get (.head _)) (fun e => by have := (hv29.1 e).1; cases this)
      rw [Nat.zero_add, List.nil_append] at hS
      clear hv29
      refine L_op (s_e hS (e_build ty_z44 ty_pl44 (.one rfl rfl rfl (by repeat constructor) (.one rfl rfl rfl (by repeat constructor) .nil))) rfl ?_); clear hS a; intro a hS
      refine L_op (s_storeA hS rfl rfl ty_sz44 (by repeat constructor) (by rfl) (by rfl) (by rfl) ?_); clear hS; (try clear w); intro w hS
      refine L_nil ?_
      refine n_then ?_
      refine wp_ret ?_
      refine c_ret1 hS Try.results57 (.cellA rfl (by repeat constructor) ty_st44 ty_sz44 (by rfl)) ?_
      have hlk : (dgs (nv ds).toNat).length = k := by rw [← hT, List.length_take]; omega
      have hn := hS.new (X := ownA 3 1 (.slice (some ⟨lb, 0, none⟩) k c') k ((ds.take k).flatMap encD)) (by repeat (first | exact .head _ | refine .tail _ ?_)) rfl
      refine ⟨⟨(lb, c'), by rw [sgn_abs (nv_nonneg hin), hlk]; exact own_le hn.1.now⟩, ?_, hS.chg, big_of_own (by rw [sgn_abs (nv_nonneg hin)]; exact hT) hn.1.now, fun q hq => hn.2 q (by obtain rfl : q = lb := hq; rfl)⟩
      show _ = Ending.returned (bigV (sgn neg (nv ds)) (some (lb, 0)) c')
      rw [trim_val (nv_nonneg hin) hlk, hg21]
      simp [sliceV]
    ·
      refine L_skip_t hS rfl rfl rfl ?_; clear hS a; intro a hS
      refine L_skip_t hS rfl rfl rfl ?_; clear hS a; intro a hS
      first | (refine L_op (s_e hS (e_pick_t rfl rfl) rfl ?_); clear hS a; intro a hS) | (refine L_op (s_e hS (e_pick_f rfl rfl) rfl ?_); clear hS a; intro a hS)
      refine L_op (s_bslice hS ty_sl42 ty_sz3 ty_z3 rfl rfl rfl rfl .nil rfl ?_); clear hS a; (try clear w); intro a w b25 hS
      refine L_op (s_e hS (e_move rfl) rfl ?_); clear hS a; intro a hS
      refine L_op (s_e hS (e_move rfl) rfl ?_); clear hS a; intro a hS
      refine L_op (s_e hS (e_slH rfl rfl ty_sl42 ty_sz3 (by omega)) rfl ?_); clear hS a; intro a hS
      replace hS := hS.swap (X := .blk b25 [] 3) (Y := ownA 3 1 (.slice (some ⟨b25, 0, none⟩) 0 0) 0 []) (by repeat (first | apply Rep.head | apply Rep.tail)) (own_empty (hS.get (X := .blk b25 [] 3) (by repeat (first | exact .head _ | refine .tail _ ?_)))) (fun b hb => by simpa [ownA, Asn.F, Value.ownBlock, eq_comm] using hb) rfl
      refine L_op (s_append hS rfl rfl ty_sl42 ty_sz3 ty_by3 ty_z3 rfl rfl rfl (by repeat (first | exact .head _ | refine .tail _ ?_)) (ys := (ds.take k).flatMap encD) (by rw [flat_len encD 1 (fun _ => rfl), List.length_take]; omega) (by have := dig_flat (l := ds.take k) (by rw [List.map_take]; exact rowAt_take (hS.get (X := rowA b off 1 (ds.map encD)) (by repeat (first | exact .head _ | refine .tail _ ?_)))); exact this) (digOne _) (by omega) (fun _ => (by repeat (first | apply Rep.head | apply Rep.tail))) ?_); clear hS a; (try clear w); intro v29 a w hv29 hS
      obtain ⟨lb, c', rfl⟩ := own_some (hS.get (.head _)) (fun e => by have := (hv29.1 e).1; cases this)
      rw [Nat.zero_add, List.nil_append] at hS
      clear hv29
      refine L_op (s_e hS (e_build ty_z44 ty_pl44 (.one rfl rfl rfl (by repeat constructor) (.one rfl rfl rfl (by repeat constructor) .nil))) rfl ?_); clear hS a; intro a hS
      refine L_op (s_storeA hS rfl rfl ty_sz44 (by repeat constructor) (by rfl) (by rfl) (by rfl) ?_); clear hS; (try clear w); intro w hS
      refine L_nil ?_
      refine n_then ?_
      refine wp_ret ?_
      refine c_ret1 hS Try.results57 (.cellA rfl (by repeat constructor) ty_st44 ty_sz44 (by rfl)) ?_
      have hlk : (dgs (nv ds).toNat).length = k := by rw [← hT, List.length_take]; omega
      have hn := hS.new (X := ownA 3 1 (.slice (some ⟨lb, 0, none⟩) k c') k ((ds.take k).flatMap encD)) (by repeat (first | exact .head _ | refine .tail _ ?_)) rfl
      refine ⟨⟨(lb, c'), by rw [sgn_abs (nv_nonneg hin), hlk]; exact own_le hn.1.now⟩, ?_, hS.chg, big_of_own (by rw [sgn_abs (nv_nonneg hin)]; exact hT) hn.1.now, fun q hq => hn.2 q (by obtain rfl : q = lb := hq; rfl)⟩
      show _ = Ending.returned (bigV (sgn neg (nv ds)) (some (lb, 0)) c')
      rw [trim_val (nv_nonneg hin) hlk, hg21]
      simp [sliceV]
theorem trim_P (neg : Bool) (p : Option (Nat × Nat)) (c : Nat) (hp : p = none → c = 0) (ds : List Int) (hin : inR ds) (hc : ds.length ≤ c) (hlen : ds.length ≤ 1000000) (w0 : World) (hrow : RowP p 1 (ds.map encD) w0) (hb : ∀ q, p = some q → q.1 < w0.heap.size) :
    NewC Try.prog 57 [.bool neg, sliceV p ds.length c] w0 (fun y : At (sgn neg (nv ds)) => bigV (sgn neg (nv ds)) (some (y.1.1, 0)) y.1.2) (fun y => bigA (sgn neg (nv ds)) y.1.1) := by
  cases p with
  | none =>
    obtain rfl := hp rfl
    obtain rfl : ds = [] := by simpa [RowP] using hrow
    have e : sgn neg (nv []) = 0 := by cases neg <;> rfl
    rw [e]
    exact trim_none neg w0
  | some q => exact trim_some neg q.1 q.2 c ds hin hc hlen w0 hrow (hb q rfl)
/-- a row of digits of the walk's own, as a slice that is read. -/
theorem own_digs {w : World} {v : Value} {l : List Int} (h : w.ownsRow 0 3 1 v l.length (l.flatMap encD)) :
    ∃ p c, v = sliceV p l.length c ∧ (p = none → c = 0) ∧ l.length ≤ c ∧ RowP p 1 (l.map encD) w ∧ ∀ q, p = some q → q.1 < w.heap.size := by
  rcases h.2 with ⟨rfl, e⟩ | ⟨g, cap, cur, rfl, _, _, hc, _⟩
  · refine ⟨none, 0, by rw [e]; rfl, fun _ => rfl, by omega, ?_, by simp⟩
    rw [List.eq_nil_of_length_eq_zero e]; rfl
  · refine ⟨some (g, 0), cap, rfl, by simp, hc, row_of_own (enc := encD) (fun _ => rfl) h, fun q hq => ?_⟩
    cases hq
    exact (World.ownsRow.lt h g rfl).2
theorem sliceV_inj {p q : Option (Nat × Nat)} {m c d : Nat} (h : sliceV p m c = sliceV q m d) : p = q ∧ c = d := by
  unfold sliceV at h
  simp only [Value.slice.injEq, true_and] at h
  refine ⟨?_, h.2⟩
  cases p <;> cases q <;> simp_all
  exact Prod.ext h.1.1 h.1.2
theorem sgn_of {z v : Int} (h : v = z.natAbs) : sgn (decide (z < 0)) v = z := by
  unfold sgn
  by_cases h0 : z < 0 <;> simp [h0] <;> omega
end Go.Proofs.Ytheofhegdjjfgaa

namespace Go.Proofs.Ytheofhegdjjfgaa
open Go.RowKit

theorem wrap_fit {m : Int} (h : -9223372036854775808 ≤ m ∧ m ≤ 9223372036854775807) : IntKind.i64.wrap m = m := IntWalk.i64_in _ (by omega)
theorem quo_abs (n : Int) : (n.tdiv 10000).natAbs = n.natAbs / 10000 := Int.natAbs_tdiv n 10000
theorem rem_abs (n : Int) : (n.tmod 10000).natAbs = n.natAbs % 10000 := Int.natAbs_tmod n 10000

set_option maxRecDepth 100000 in
theorem BigOf_P (z : Int) (hz : -9223372036854775808 ≤ z ∧ z ≤ 9223372036854775807) (w0 : World) :
    NewC Try.prog 22 [.int .i64 z] w0 (fun y : At z => bigV z (some (y.1.1, 0)) y.1.2) (fun y => bigA z y.1.1) := by
  have hlz : (dgs z.natAbs).length ≤ 5 := dgs_length_le (by omega)
  refine c_enter [(0, .int .i64 z)] [] noB Try.func22 rfl Try.ntmps22 ⟨rfl, trivial⟩ rfl (by simp) (by simp) (by simp) ?_
  intro a hS
  refine c_seq ?_
  refine c_region ?_
  refine L_op (s_alloc hS ty_z44 rfl ?_); clear hS a; (try clear w); intro a w b2 hS
  refine L_nil ?_
  refine n_then ?_
  refine c_seq ?_
  refine c_region ?_
  refine L_op (s_e hS (e_move rfl) rfl ?_); clear hS a; intro a hS
  refine L_op (s_e hS (e_bin rfl rfl rfl) rfl ?_); clear hS a; intro a hS
  refine L_op (s_e hS (e_assign rfl) rfl ?_); clear hS a; intro a hS
  refine L_nil ?_
  refine n_then ?_
  refine c_seq ?_
  refine c_region ?_
  refine L_op (s_e hS (e_assign rfl) rfl ?_); clear hS a; intro a hS
  refine L_nil ?_
  refine n_then ?_
  refine c_seq ?_
  refine wp_block ?_
  skip
  refine c_loop (γ := (Int × List Int × Value)) (fun G a w => St 25 noB w0 a w [(0, .int .i64 G.1), (2, .pointer (some ⟨b2, 0, none⟩)), (3, .bool (decide (z < 0))), (4, G.2.2)] [ownA 3 1 G.2.2 G.2.1.length (G.2.1.flatMap encD), .blk b2 [.bool false, .slice none 0 0] 44] ∧ G.2.1 ++ dgs G.1.natAbs = dgs z.natAbs ∧ -9223372036854775808 ≤ G.1 ∧ G.1 ≤ 9223372036854775807) (fun G => G.1.natAbs) (z, [], .slice none 0 0) ⟨(hS.own_nil 3 1).slots ⟨rfl, rfl, rfl, rfl, trivial⟩, rfl, hz⟩ ?_
  clear hS a; (try clear w); intro G a w hI
  obtain ⟨n, l, sv⟩ := G
  obtain ⟨hS, hl, hn⟩ := hI
  simp only at hS hl hn
  refine c_seq ?_
  refine c_seq ?_
  refine c_region ?_
  refine L_op (s_e hS (e_move rfl) rfl ?_); clear hS a; intro a hS
  refine L_op (s_e hS (e_bin rfl rfl rfl) rfl ?_); clear hS a; intro a hS
  refine L_nil ?_
  refine n_then ?_
  first | refine c_ifD hS rfl (fun hc9 => ?_) (fun hc9 => ?_) | refine c_if hS rfl (fun hc9 => ?_) (fun hc9 => ?_)
  ·
    have hn0 : n.natAbs ≠ 0 := by omega
    have hll : l.length < 5 := by
      have := congrArg List.length hl
      rw [dgs_pos hn0, List.length_append, List.length_cons] at this
      omega
    have hq := quo_abs n
    have hr := rem_abs n
    refine wp_skip ?_
    refine n_then ?_
    refine wp_block ?_
    refine c_seq ?_
    refine c_region ?_
    refine L_op (s_e hS (e_move rfl) rfl ?_); clear hS a; intro a hS
    refine L_op (s_e hS (e_rem rfl rfl (by decide)) rfl ?_); clear hS a; intro a hS
    refine L_op (s_e hS (e_assign rfl) rfl ?_); clear hS a; intro a hS
    refine L_nil ?_
    refine n_then ?_
    refine c_cut (fun a w => ∃ d : Int, St 25 noB w0 a w [(5, .int .i64 d), (0, .int .i64 n), (2, .pointer (some ⟨b2, 0, none⟩)), (3, .bool (decide (z < 0))), (4, sv)] [ownA 3 1 sv l.length (l.flatMap encD), .blk b2 [.bool false, .slice none 0 0] 44] ∧ d = (n.natAbs % 10000 : Nat)) ?_ ?_
    ·
      refine c_seq ?_
      refine c_region ?_
      refine L_op (s_e hS (e_move rfl) rfl ?_); clear hS a; intro a hS
      refine L_op (s_e hS (e_bin rfl rfl rfl) rfl ?_); clear hS a; intro a hS
      refine L_nil ?_
      refine n_then ?_
      first | refine c_ifD hS rfl (fun hc13 => ?_) (fun hc13 => ?_) | refine c_if hS rfl (fun hc13 => ?_) (fun hc13 => ?_)
      ·
        refine c_region ?_
        refine L_op (s_e hS (e_move rfl) rfl ?_); clear hS a; intro a hS
        refine L_op (s_e hS (e_neg rfl) rfl ?_); clear hS a; intro a hS
        rw [wrap_fit (by omega)] at hS
        refine L_op (s_e hS (e_assign rfl) rfl ?_); clear hS a; intro a hS
        refine L_nil ?_
        exact ⟨_, hS.slots (by exact ⟨rfl, rfl, rfl, rfl, rfl, trivial⟩), by omega⟩
      ·
        refine wp_skip ?_
        exact ⟨_, hS.slots (by exact ⟨rfl, rfl, rfl, rfl, rfl, trivial⟩), by omega⟩
    ·
      clear hS a; (try clear w); intro a w hS
      obtain ⟨d, hS, hd⟩ := hS
      have e1 : (l ++ [d]).flatMap encD = l.flatMap encD ++ [.int .i64 d] := by simp [encD]
      refine c_seq ?_
      refine c_region ?_
      refine L_op (s_e hS (e_move rfl) rfl ?_); clear hS a; intro a hS
      refine L_op (s_e hS (e_move rfl) rfl ?_); clear hS a; intro a hS
      refine L_op (s_bslice hS ty_sl42 ty_sz3 ty_z3 rfl rfl rfl rfl (.one rfl rfl rfl .nil) rfl ?_); clear hS a; (try clear w); intro a w b18 hS
      refine L_op (s_append1 hS rfl rfl ty_sl42 ty_sz3 ty_by3 ty_z3 rfl rfl rfl (by repeat constructor) (by repeat constructor) (by rfl) (by rfl) (fun _ => (by repeat constructor)) (by omega) ?_); clear hS a; (try clear w); intro v19 a w hv19 hS
      refine L_op (s_e hS (e_assign rfl) rfl ?_); clear hS a; intro a hS
      refine L_nil ?_
      refine n_then ?_
      refine c_region ?_
      refine L_op (s_e hS (e_move rfl) rfl ?_); clear hS a; intro a hS
      refine L_op (s_e hS (e_quo rfl rfl (by decide)) rfl ?_); clear hS a; intro a hS
      rw [wrap_fit (by omega)] at hS
      refine L_op (s_e hS (e_assign rfl) rfl ?_); clear hS a; intro a hS
      refine L_nil ?_
      refine n_block ?_
      have hq1 : (n.tdiv 10000).natAbs < n.natAbs := by omega
      refine ⟨(n.tdiv 10000, l ++ [d], v19), hq1, ?_, ?_, ?_⟩
      · simp only [List.length_append, List.length_cons, List.length_nil, Nat.zero_add, e1]
        exact (hS.drop (by repeat (first | exact List.Sublist.refl _ | apply List.Sublist.cons_cons | apply List.Sublist.cons))).slots (by exact ⟨rfl, rfl, rfl, rfl, trivial⟩)
      · show l ++ [d] ++ dgs (n.tdiv 10000).natAbs = _
        rw [← hl, dgs_pos hn0, hq, hd]; simp
      · simp only; omega
  ·
    obtain rfl : n = 0 := by omega
    rw [show (0 : Int).natAbs = 0 from rfl, dgs_zero, List.append_nil] at hl
    obtain ⟨p4, c4, rfl, h4, h5, _, _⟩ := own_digs (hS.get (X := ownA 3 1 sv l.length (l.flatMap encD)) (by repeat (first | exact .head _ | refine .tail _ ?_)))
    refine wp_exit ?_
    refine x_then (x_then (x_hit ?_))
    refine n_then ?_
    refine c_seq ?_
    refine c_region ?_
    refine L_op (s_e hS (e_move rfl) rfl ?_); clear hS a; intro a hS
    refine L_op (s_e hS (e_move rfl) rfl ?_); clear hS a; intro a hS
    obtain ⟨p5, c5, e5, _, _, h6, h7⟩ := own_digs (hS.get (X := ownA 3 1 (sliceV p4 l.length c4) l.length (l.flatMap encD)) (by repeat (first | exact .head _ | refine .tail _ ?_)))
    obtain ⟨rfl, rfl⟩ := sliceV_inj e5
    have hT := trim_P (decide (z < 0)) p4 c4 h4 l (by rw [hl]; exact inR_dgs _) h5 (by rw [hl]; omega) w h6 h7
    rw [sgn_of (by rw [hl, nv_dgs])] at hT
    clear e5
    refine L_op (s_callN hS (.cons rfl (.cons rfl .nil)) cf57 rfl (hT) ?_); clear hS a; (try clear w); intro x24 a w hS
    refine L_op (s_storeA hS rfl rfl ty_sz44 (by repeat constructor) (by rfl) (by rfl) (by rfl) ?_); clear hS; (try clear w); intro w hS
    refine L_nil ?_
    refine n_then ?_
    refine wp_ret ?_
    refine c_ret1 hS Try.results22 (.cellA rfl (by repeat constructor) ty_st44 ty_sz44 (by rfl)) ?_
    exact ⟨x24, rfl, hS.chg, hS.new (X := bigA z x24.1.1) (by repeat (first | exact .head _ | refine .tail _ ?_)) rfl⟩

/-- two slices of digits that came in. -/
def twoA (p q : Option (Nat × Nat)) (xs ys : List Int) : Asn := .any (fun b => (∃ off, p = some (b, off)) ∨ ∃ off, q = some (b, off)) (fun w => RowP p 1 (xs.map encD) w ∧ RowP q 1 (ys.map encD) w) false
theorem two_ok {p q : Option (Nat × Nat)} {xs ys : List Int} {w : World} (h1 : RowP p 1 (xs.map encD) w) (h2 : RowP q 1 (ys.map encD) w) (b1 : ∀ r, p = some r → r.1 < w.heap.size) (b2 : ∀ r, q = some r → r.1 < w.heap.size) : (twoA p q xs ys).ok w := by
  refine ⟨fun b hb => ?_, fun w' hw => ⟨(ok_rowP h1 b1).hold w' (fun b hb => hw b (.inl hb)), (ok_rowP h2 b2).hold w' (fun b hb => hw b (.inr hb))⟩⟩
  rcases hb with ⟨off, e⟩ | ⟨off, e⟩
  · exact b1 _ e
  · exact b2 _ e
theorem two_l {b off : Nat} {q : Option (Nat × Nat)} {xs ys : List Int} {Γ : List Asn} (hm : twoA (some (b, off)) q xs ys ∈ Γ) {i : Nat} {d : Int} (hd : xs[i]? = some d) : ∀ w, Hd Γ w → w.cell? ⟨b, off + i * 1, none⟩ = some (.int .i64 d) := fun w hh => by
  have := (hh _ hm).1 i (encD d) (by simp [hd]) 0 (.int .i64 d) rfl
  simpa using this
theorem two_r {b off : Nat} {q : Option (Nat × Nat)} {xs ys : List Int} {Γ : List Asn} (hm : twoA q (some (b, off)) xs ys ∈ Γ) {i : Nat} {d : Int} (hd : ys[i]? = some d) : ∀ w, Hd Γ w → w.cell? ⟨b, off + i * 1, none⟩ = some (.int .i64 d) := fun w hh => by
  have := (hh _ hm).2 i (encD d) (by simp [hd]) 0 (.int .i64 d) rfl
  simpa using this
theorem two_pos {p : Option (Nat × Nat)} {xs : List Int} {w : World} (h : RowP p 1 (xs.map encD) w) (hx : xs ≠ []) : ∃ b off, p = some (b, off) := by
  cases p with
  | none => simp only [RowP, List.map_eq_nil_iff] at h; exact absurd h hx
  | some r => exact ⟨r.1, r.2, rfl⟩
theorem drop_at {l : List Int} {k : Nat} {d : Int} (h : l[k]? = some d) : l.drop k = d :: l.drop (k + 1) := by
  obtain ⟨h1, h2⟩ := List.getElem?_eq_some_iff.1 h
  rw [List.drop_eq_getElem_cons h1, h2]
theorem cmp_at {m n k : Nat} {d e : Int} (hd : (dgs m)[k]? = some d) (he : (dgs n)[k]? = some e) (ht : (dgs m).drop (k + 1) = (dgs n).drop (k + 1)) (hlt : d < e) : m < n := by
  have h1 := List.take_append_drop k (dgs m)
  have h2 := List.take_append_drop k (dgs n)
  rw [drop_at hd, ht] at h1
  rw [drop_at he] at h2
  have l1 := (List.getElem?_eq_some_iff.1 hd).1
  have l2 := (List.getElem?_eq_some_iff.1 he).1
  have := cmp_top (s := (dgs n).drop (k + 1)) (inR_take (inR_dgs m) k) (show ((dgs m).take k).length = ((dgs n).take k).length by rw [List.length_take, List.length_take]; omega) hlt (inR_take (inR_dgs n) k)
  rw [h1, h2, nv_dgs, nv_dgs] at this
  omega

set_option maxRecDepth 100000 in
theorem cmp_P (p q : Option (Nat × Nat)) (c1 c2 m n : Nat) (hm : (dgs m).length ≤ 1000000) (w0 : World) (h : (twoA p q (dgs m) (dgs n)).ok w0) :
    PureC Try.prog 59 [sliceV p (dgs m).length c1, sliceV q (dgs n).length c2] w0 (.int .i64 (cmpN m n)) := by
  have hp := h.now.1
  have hq := h.now.2
  refine c_enter [(0, sliceV p (dgs m).length c1), (1, sliceV q (dgs n).length c2)] [twoA p q (dgs m) (dgs n)] noB Try.func59 rfl Try.ntmps59 ⟨rfl, rfl, trivial⟩ rfl (by intro X hX; obtain rfl := List.mem_singleton.1 hX; exact h) (by simp) (by intro X hX hm; obtain rfl := List.mem_singleton.1 hX; cases hm) ?_
  intro a hS
  refine c_seq ?_
  refine c_region ?_
  refine L_op (s_e hS (e_assign rfl) rfl ?_); clear hS a; intro a hS
  refine L_nil ?_
  refine n_then ?_
  refine c_seq ?_
  refine c_seq ?_
  refine c_region ?_
  refine L_op (s_e hS (e_move rfl) rfl ?_); clear hS a; intro a hS
  refine L_op (s_e hS (e_len rfl rfl ty_sl42) rfl ?_); clear hS a; intro a hS
  refine L_op (s_e hS (e_move rfl) rfl ?_); clear hS a; intro a hS
  refine L_op (s_e hS (e_len rfl rfl ty_sl42) rfl ?_); clear hS a; intro a hS
  refine L_op (s_e hS (e_bin rfl rfl rfl) rfl ?_); clear hS a; intro a hS
  refine L_nil ?_
  refine n_then ?_
  first | refine c_ifD hS rfl (fun hc10 => ?_) (fun hc10 => ?_) | refine c_if hS rfl (fun hc10 => ?_) (fun hc10 => ?_)
  ·
    refine c_seq ?_
    refine c_seq ?_
    refine c_region ?_
    refine L_op (s_e hS (e_move rfl) rfl ?_); clear hS a; intro a hS
    refine L_op (s_e hS (e_len rfl rfl ty_sl42) rfl ?_); clear hS a; intro a hS
    refine L_op (s_e hS (e_move rfl) rfl ?_); clear hS a; intro a hS
    refine L_op (s_e hS (e_len rfl rfl ty_sl42) rfl ?_); clear hS a; intro a hS
    refine L_op (s_e hS (e_bin rfl rfl rfl) rfl ?_); clear hS a; intro a hS
    refine L_nil ?_
    refine n_then ?_
    first | refine c_ifD hS rfl (fun hc15 => ?_) (fun hc15 => ?_) | refine c_if hS rfl (fun hc15 => ?_) (fun hc15 => ?_)
    ·
      refine c_seq ?_
      refine c_region ?_
      refine L_op (s_e hS (e_assign rfl) rfl ?_); clear hS a; intro a hS
      refine L_nil ?_
      refine n_then ?_
      refine wp_ret ?_
      refine r_then (r_then ?_)
      refine c_ret1 hS Try.results59 (.tmp rfl) ?_
      exact ⟨by rw [cmpN, if_pos (dgs_lt (by omega))], hS.chg⟩
    ·
      refine wp_skip ?_
      refine n_then ?_
      refine c_seq ?_
      refine c_region ?_
      refine L_op (s_e hS (e_assign rfl) rfl ?_); clear hS a; intro a hS
      refine L_nil ?_
      refine n_then ?_
      refine wp_ret ?_
      refine r_then ?_
      refine c_ret1 hS Try.results59 (.tmp rfl) ?_
      have h1 := dgs_lt (m := n) (n := m) (by omega)
      exact ⟨by rw [cmpN, if_neg (by omega), if_pos h1], hS.chg⟩
  ·
    refine wp_skip ?_
    refine n_then ?_
    refine c_seq ?_
    refine c_seq ?_
    refine c_region ?_
    refine L_op (s_e hS (e_move rfl) rfl ?_); clear hS a; intro a hS
    refine L_op (s_e hS (e_len rfl rfl ty_sl42) rfl ?_); clear hS a; intro a hS
    first | (refine L_op (s_e hS (e_binN rfl rfl rfl (by omega)) rfl ?_); clear hS a; intro a hS) | (refine L_op (s_e hS (e_bin rfl rfl rfl) rfl ?_); clear hS a; intro a hS)
    refine L_op (s_e hS (e_assign rfl) rfl ?_); clear hS a; intro a hS
    refine L_nil ?_
    refine n_then ?_
    refine wp_block ?_
    skip
    refine c_loop (γ := Nat) (fun k a w => St 41 noB w0 a w [(5, .int .i64 ((k : Int) - 1)), (4, .int .i64 0), (0, sliceV p (dgs m).length c1), (1, sliceV q (dgs n).length c2)] [twoA p q (dgs m) (dgs n)] ∧ k ≤ (dgs m).length ∧ (dgs m).drop k = (dgs n).drop k) (fun k => k) (dgs m).length ⟨hS.slots ⟨rfl, rfl, rfl, rfl, trivial⟩, Nat.le_refl _, by rw [List.drop_length, List.drop_eq_nil_of_le (by omega)]⟩ ?_
    clear hS a; (try clear w); intro k a w hI
    obtain ⟨hS, hk, ht⟩ := hI
    refine c_seq ?_
    refine c_seq ?_
    refine c_region ?_
    refine L_op (s_e hS (e_move rfl) rfl ?_); clear hS a; intro a hS
    refine L_op (s_e hS (e_bin rfl rfl rfl) rfl ?_); clear hS a; intro a hS
    refine L_nil ?_
    refine n_then ?_
    first | refine c_ifD hS rfl (fun hc20 => ?_) (fun hc20 => ?_) | refine c_if hS rfl (fun hc20 => ?_) (fun hc20 => ?_)
    ·
      have hk1 : 0 < k := by omega
      obtain ⟨d, hd⟩ : ∃ d, (dgs m)[k - 1]? = some d := ⟨(dgs m)[k - 1]'(by omega), List.getElem?_eq_getElem (by omega)⟩
      obtain ⟨e, he⟩ : ∃ e, (dgs n)[k - 1]? = some e := ⟨(dgs n)[k - 1]'(by omega), List.getElem?_eq_getElem (by omega)⟩
      obtain ⟨b1, o1, rfl⟩ := two_pos hp (fun e => by rw [e] at hd; cases hd)
      obtain ⟨b2, o2, rfl⟩ := two_pos hq (fun e => by rw [e] at he; cases he)
      have hkn : ((k : Int) - 1).toNat = k - 1 := by omega
      have ht' : (dgs m).drop (k - 1 + 1) = (dgs n).drop (k - 1 + 1) := by rw [show k - 1 + 1 = k by omega]; exact ht
      refine wp_skip ?_
      refine n_then ?_
      refine c_seq ?_
      refine wp_block ?_
      refine c_seq ?_
      refine c_seq ?_
      refine c_draw1 [] (by kernel_rfl) hS ?_; clear hS; (try clear w); intro w hS
      simp only [List.length_cons, List.length_nil, Nat.zero_add, Nat.reduceAdd, List.replicate]
      refine Z_take0 (i := 0) hS rfl want_none (e_move rfl) (listed' := [true, false, false, false, false, false, false, false, false]) rfl (by kernel_rfl) (by kernel_rfl) (by kernel_rfl) (fun _ _ _ h => h) rfl ?_; clear hS a; intro a hS
      refine Z_take0 (i := 1) hS rfl want_none (e_move rfl) (listed' := [true, true, false, false, false, false, false, false, false]) rfl (by kernel_rfl) (by kernel_rfl) (by kernel_rfl) (fun _ _ _ h => h) rfl ?_; clear hS a; intro a hS
      refine Z_take0 (i := 2) hS rfl want_none (e_ix rfl rfl ty_sl42 ty_sz3 (by omega)) (listed' := [true, true, true, false, false, false, false, false, false]) rfl (by kernel_rfl) (by kernel_rfl) (by kernel_rfl) (fun _ _ _ h => h) rfl ?_; clear hS a; intro a hS
      refine Z_take (i := 3) hS rfl want_none (e_loadC rfl ty_sc3 (fun w hh => by rw [hkn]; exact two_l (by repeat (first | exact .head _ | refine .tail _ ?_)) hd w hh)) (listed' := [true, true, true, true, false, false, false, false, false]) rfl (by kernel_rfl) (by kernel_rfl) (by kernel_rfl) (by kernel_rfl) (by kernel_rfl) (by intro X hX; repeat (first | exact hX | apply List.Mem.tail)) (fun _ _ _ h => h) rfl ?_; clear hS a; intro a hS
      refine Z_take0 (i := 4) hS rfl want_none (e_move rfl) (listed' := [true, true, true, true, true, false, false, false, false]) rfl (by kernel_rfl) (by kernel_rfl) (by kernel_rfl) (fun _ _ _ h => h) rfl ?_; clear hS a; intro a hS
      refine Z_take0 (i := 5) hS rfl want_none (e_move rfl) (listed' := [true, true, true, true, true, true, false, false, false]) rfl (by kernel_rfl) (by kernel_rfl) (by kernel_rfl) (fun _ _ _ h => h) rfl ?_; clear hS a; intro a hS
      refine Z_take0 (i := 6) hS rfl want_none (e_ix rfl rfl ty_sl42 ty_sz3 (by omega)) (listed' := [true, true, true, true, true, true, true, false, false]) rfl (by kernel_rfl) (by kernel_rfl) (by kernel_rfl) (fun _ _ _ h => h) rfl ?_; clear hS a; intro a hS
      refine Z_take (i := 7) hS rfl want_none (e_loadC rfl ty_sc3 (fun w hh => by rw [hkn]; exact two_r (by repeat (first | exact .head _ | refine .tail _ ?_)) he w hh)) (listed' := [true, true, true, true, true, true, true, true, false]) rfl (by kernel_rfl) (by kernel_rfl) (by kernel_rfl) (by kernel_rfl) (by kernel_rfl) (by intro X hX; repeat (first | exact hX | apply List.Mem.tail)) (fun _ _ _ h => h) rfl ?_; clear hS a; intro a hS
      refine Z_take0 (i := 8) hS rfl want_none (e_bin rfl rfl rfl) (listed' := [true, true, true, true, true, true, true, true, true]) rfl (by kernel_rfl) (by kernel_rfl) (by kernel_rfl) (fun _ _ _ h => h) rfl ?_; clear hS a; intro a hS
      refine Z_done (by kernel_rfl) ?_
      refine n_then ?_
      first | refine c_ifD hS rfl (fun hc31 => ?_) (fun hc31 => ?_) | refine c_if hS rfl (fun hc31 => ?_) (fun hc31 => ?_)
      ·
        refine c_seq ?_
        refine c_region ?_
        refine L_op (s_e hS (e_assign rfl) rfl ?_); clear hS a; intro a hS
        refine L_nil ?_
        refine n_then ?_
        refine wp_ret ?_
        refine r_then (r_block (r_then (r_then (r_block (r_then ?_)))))
        refine c_ret1 hS Try.results59 (.tmp rfl) ?_
        exact ⟨by rw [cmpN, if_pos (cmp_at hd he ht' (by omega))], hS.chg⟩
      ·
        refine wp_skip ?_
        refine n_then ?_
        refine c_seq ?_
        refine c_draw1 [] (by kernel_rfl) hS ?_; clear hS; (try clear w); intro w hS
        simp only [List.length_cons, List.length_nil, Nat.zero_add, Nat.reduceAdd, List.replicate]
        refine Z_take0 (i := 0) hS rfl want_none (e_move rfl) (listed' := [true, false, false, false, false, false, false, false, false]) rfl (by kernel_rfl) (by kernel_rfl) (by kernel_rfl) (fun _ _ _ h => h) rfl ?_; clear hS a; intro a hS
        refine Z_take0 (i := 1) hS rfl want_none (e_move rfl) (listed' := [true, true, false, false, false, false, false, false, false]) rfl (by kernel_rfl) (by kernel_rfl) (by kernel_rfl) (fun _ _ _ h => h) rfl ?_; clear hS a; intro a hS
        refine Z_take0 (i := 2) hS rfl want_none (e_ix rfl rfl ty_sl42 ty_sz3 (by omega)) (listed' := [true, true, true, false, false, false, false, false, false]) rfl (by kernel_rfl) (by kernel_rfl) (by kernel_rfl) (fun _ _ _ h => h) rfl ?_; clear hS a; intro a hS
        refine Z_take (i := 3) hS rfl want_none (e_loadC rfl ty_sc3 (fun w hh => by rw [hkn]; exact two_l (by repeat (first | exact .head _ | refine .tail _ ?_)) hd w hh)) (listed' := [true, true, true, true, false, false, false, false, false]) rfl (by kernel_rfl) (by kernel_rfl) (by kernel_rfl) (by kernel_rfl) (by kernel_rfl) (by intro X hX; repeat (first | exact hX | apply List.Mem.tail)) (fun _ _ _ h => h) rfl ?_; clear hS a; intro a hS
        refine Z_take0 (i := 4) hS rfl want_none (e_move rfl) (listed' := [true, true, true, true, true, false, false, false, false]) rfl (by kernel_rfl) (by kernel_rfl) (by kernel_rfl) (fun _ _ _ h => h) rfl ?_; clear hS a; intro a hS
        refine Z_take0 (i := 5) hS rfl want_none (e_move rfl) (listed' := [true, true, true, true, true, true, false, false, false]) rfl (by kernel_rfl) (by kernel_rfl) (by kernel_rfl) (fun _ _ _ h => h) rfl ?_; clear hS a; intro a hS
        refine Z_take0 (i := 6) hS rfl want_none (e_ix rfl rfl ty_sl42 ty_sz3 (by omega)) (listed' := [true, true, true, true, true, true, true, false, false]) rfl (by kernel_rfl) (by kernel_rfl) (by kernel_rfl) (fun _ _ _ h => h) rfl ?_; clear hS a; intro a hS
        refine Z_take (i := 7) hS rfl want_none (e_loadC rfl ty_sc3 (fun w hh => by rw [hkn]; exact two_r (by repeat (first | exact .head _ | refine .tail _ ?_)) he w hh)) (listed' := [true, true, true, true, true, true, true, true, false]) rfl (by kernel_rfl) (by kernel_rfl) (by kernel_rfl) (by kernel_rfl) (by kernel_rfl) (by intro X hX; repeat (first | exact hX | apply List.Mem.tail)) (fun _ _ _ h => h) rfl ?_; clear hS a; intro a hS
        refine Z_take0 (i := 8) hS rfl want_none (e_bin rfl rfl rfl) (listed' := [true, true, true, true, true, true, true, true, true]) rfl (by kernel_rfl) (by kernel_rfl) (by kernel_rfl) (fun _ _ _ h => h) rfl ?_; clear hS a; intro a hS
        refine Z_done (by kernel_rfl) ?_
        refine n_then ?_
        first | refine c_ifD hS rfl (fun hc40 => ?_) (fun hc40 => ?_) | refine c_if hS rfl (fun hc40 => ?_) (fun hc40 => ?_)
        ·
          refine c_seq ?_
          refine c_region ?_
          refine L_op (s_e hS (e_assign rfl) rfl ?_); clear hS a; intro a hS
          refine L_nil ?_
          refine n_then ?_
          refine wp_ret ?_
          refine r_block (r_then (r_then (r_block (r_then ?_))))
          refine c_ret1 hS Try.results59 (.tmp rfl) ?_
          have h1 := cmp_at he hd ht'.symm (by omega)
          exact ⟨by rw [cmpN, if_neg (by omega), if_pos h1], hS.chg⟩
        ·
          refine wp_skip ?_
          refine n_block ?_
          refine n_then ?_
          refine c_region ?_
          refine L_op (s_e hS (e_move rfl) rfl ?_); clear hS a; intro a hS
          first | (refine L_op (s_e hS (e_binN rfl rfl rfl (by omega)) rfl ?_); clear hS a; intro a hS) | (refine L_op (s_e hS (e_bin rfl rfl rfl) rfl ?_); clear hS a; intro a hS)
          refine L_op (s_e hS (e_assign rfl) rfl ?_); clear hS a; intro a hS
          refine L_nil ?_
          exact ⟨k - 1, by omega, hS.slots (by exact ⟨by show lk _ 5 = _; rw [show ((k - 1 : Nat) : Int) = (k : Int) - 1 by omega]; rfl, rfl, rfl, rfl, trivial⟩), by omega, by rw [drop_at hd, drop_at he, ht']; congr 1; omega⟩
    ·
      obtain rfl : k = 0 := by omega
      rw [List.drop_zero, List.drop_zero] at ht
      obtain rfl := dgs_inj ht
      refine wp_exit ?_
      refine x_then (x_then (x_hit ?_))
      refine n_then ?_
      refine c_seq ?_
      refine c_region ?_
      refine L_op (s_e hS (e_assign rfl) rfl ?_); clear hS a; intro a hS
      refine L_nil ?_
      refine n_then ?_
      refine wp_ret ?_
      refine c_ret1 hS Try.results59 (.tmp rfl) ?_
      exact ⟨by rw [cmpN, if_neg (by omega), if_neg (by omega)], hS.chg⟩
end Go.Proofs.Ytheofhegdjjfgaa

namespace Go.Proofs.Ytheofhegdjjfgaa
open Go.RowKit

def cmpZ (x y : Int) : Int := if x < y then -1 else if y < x then 1 else 0
theorem cmpN_Z {m n : Nat} : (m < n → cmpN m n = -1) ∧ (n < m → cmpN m n = 1) ∧ (m = n → cmpN m n = 0) := by
  unfold cmpN
  refine ⟨fun h => by rw [if_pos h], fun h => by rw [if_neg (by omega), if_pos h], fun h => by rw [if_neg (by omega), if_neg (by omega)]⟩
theorem cmpZ_a {x y : Int} (h : decide (x < 0) ≠ decide (y < 0)) (hx : x < 0) : cmpZ x y = -1 := by
  have : ¬ y < 0 := fun hy => h (by simp [hx, hy])
  rw [cmpZ, if_pos (by omega)]
theorem cmpZ_b {x y : Int} (h : decide (x < 0) ≠ decide (y < 0)) (hx : ¬ x < 0) : cmpZ x y = 1 := by
  have : y < 0 := Decidable.byContradiction fun hy => h (by simp [hx, hy])
  rw [cmpZ, if_neg (by omega), if_pos (by omega)]
theorem same_sgn {x y : Int} (h : ¬ decide (x < 0) ≠ decide (y < 0)) : x < 0 ↔ y < 0 := by
  have := Decidable.not_not.1 h
  simpa using this
theorem cmpZ_c {x y : Int} (h : ¬ decide (x < 0) ≠ decide (y < 0)) (hx : x < 0) : IntKind.i64.wrap (0 - cmpN x.natAbs y.natAbs) = cmpZ x y := by
  have h1 := same_sgn h
  unfold cmpN cmpZ
  rw [wrap_fit (by split <;> (try split) <;> omega)]
  split <;> split <;> (try split) <;> (try split) <;> omega
theorem cmpZ_d {x y : Int} (h : ¬ decide (x < 0) ≠ decide (y < 0)) (hx : ¬ x < 0) : cmpN x.natAbs y.natAbs = cmpZ x y := by
  have h1 := same_sgn h
  unfold cmpN cmpZ
  split <;> split <;> (try split) <;> (try split) <;> omega
set_option maxRecDepth 100000 in
theorem BigCmp_P (p q : Option (Nat × Nat)) (c1 c2 : Nat) (x y : Int) (hx : (dgs x.natAbs).length ≤ 1000000) (w0 : World) (h : (twoA p q (dgs x.natAbs) (dgs y.natAbs)).ok w0) :
    PureC Try.prog 24 [bigV x p c1, bigV y q c2] w0 (.int .i64 (cmpZ x y)) := by
  refine c_enter [(0, bigV x p c1), (1, bigV y q c2)] [twoA p q (dgs x.natAbs) (dgs y.natAbs)] noB Try.func24 rfl Try.ntmps24 ⟨rfl, rfl, trivial⟩ rfl (by intro X hX; obtain rfl := List.mem_singleton.1 hX; exact h) (by simp) (by intro X hX hm; obtain rfl := List.mem_singleton.1 hX; cases hm) ?_
  intro a hS
  refine c_seq ?_
  refine c_region ?_
  refine L_op (s_boxA hS rfl rfl ?_); clear hS a; (try clear w); intro a w b2 hS
  refine L_op (s_boxA hS rfl rfl ?_); clear hS a; (try clear w); intro a w b3 hS
  refine L_op (s_e hS (e_assign rfl) rfl ?_); clear hS a; intro a hS
  refine L_nil ?_
  refine n_then ?_
  refine c_seq ?_
  refine c_seq ?_
  refine c_region ?_
  first | (refine L_op (s_e hS (e_fa0 rfl ty_fo44_0) rfl ?_); clear hS a; intro a hS) | (refine L_op (s_e hS (e_faK rfl ty_fo44_0) rfl ?_); clear hS a; intro a hS)
  refine L_op (s_e hS (e_load rfl (by repeat constructor) ty_sc4 (by rfl)) rfl ?_); clear hS a; intro a hS
  first | (refine L_op (s_e hS (e_fa0 rfl ty_fo44_0) rfl ?_); clear hS a; intro a hS) | (refine L_op (s_e hS (e_faK rfl ty_fo44_0) rfl ?_); clear hS a; intro a hS)
  refine L_op (s_e hS (e_load rfl (by repeat constructor) ty_sc4 (by rfl)) rfl ?_); clear hS a; intro a hS
  refine L_op (s_e hS (e_binBn rfl rfl ty_u4) rfl ?_); clear hS a; intro a hS
  refine L_nil ?_
  refine n_then ?_
  first | refine c_ifD hS rfl (fun hc10 => ?_) (fun hc10 => ?_) | refine c_if hS rfl (fun hc10 => ?_) (fun hc10 => ?_)
  ·
    refine c_seq ?_
    refine c_seq ?_
    refine c_region ?_
    first | (refine L_op (s_e hS (e_fa0 rfl ty_fo44_0) rfl ?_); clear hS a; intro a hS) | (refine L_op (s_e hS (e_faK rfl ty_fo44_0) rfl ?_); clear hS a; intro a hS)
    refine L_op (s_e hS (e_load rfl (by repeat constructor) ty_sc4 (by rfl)) rfl ?_); clear hS a; intro a hS
    refine L_nil ?_
    refine n_then ?_
    first | refine c_ifD hS rfl (fun hc12 => ?_) (fun hc12 => ?_) | refine c_if hS rfl (fun hc12 => ?_) (fun hc12 => ?_)
    ·
      refine c_seq ?_
      refine c_region ?_
      refine L_op (s_e hS (e_assign rfl) rfl ?_); clear hS a; intro a hS
      refine L_nil ?_
      refine n_then ?_
      refine wp_ret ?_
      refine r_then (r_then ?_)
      refine c_ret1 hS Try.results24 (.tmp rfl) ?_
      exact ⟨by rw [cmpZ_a hc10 hc12], hS.chg⟩
    ·
      refine wp_skip ?_
      refine n_then ?_
      refine c_seq ?_
      refine c_region ?_
      refine L_op (s_e hS (e_assign rfl) rfl ?_); clear hS a; intro a hS
      refine L_nil ?_
      refine n_then ?_
      refine wp_ret ?_
      refine r_then ?_
      refine c_ret1 hS Try.results24 (.tmp rfl) ?_
      exact ⟨by rw [cmpZ_b hc10 hc12], hS.chg⟩
  ·
    refine wp_skip ?_
    refine n_then ?_
    refine c_seq ?_
    refine c_region ?_
    first | (refine L_op (s_e hS (e_fa0 rfl ty_fo44_1) rfl ?_); clear hS a; intro a hS) | (refine L_op (s_e hS (e_faK rfl ty_fo44_1) rfl ?_); clear hS a; intro a hS)
    refine L_op (s_e hS (e_load rfl (by repeat constructor) ty_sc42 (by rfl)) rfl ?_); clear hS a; intro a hS
    first | (refine L_op (s_e hS (e_fa0 rfl ty_fo44_1) rfl ?_); clear hS a; intro a hS) | (refine L_op (s_e hS (e_faK rfl ty_fo44_1) rfl ?_); clear hS a; intro a hS)
    refine L_op (s_e hS (e_load rfl (by repeat constructor) ty_sc42 (by rfl)) rfl ?_); clear hS a; intro a hS
    refine L_op (s_callP hS (.cons rfl (.cons rfl .nil)) cf59 rfl (cmp_P p q c1 c2 x.natAbs y.natAbs hx _ (hS.ok _ (by repeat (first | exact .head _ | refine .tail _ ?_)))) ?_); clear hS a; (try clear w); intro a w hS
    refine L_op (s_e hS (e_assign rfl) rfl ?_); clear hS a; intro a hS
    refine L_nil ?_
    refine n_then ?_
    refine c_seq ?_
    refine c_seq ?_
    refine c_region ?_
    first | (refine L_op (s_e hS (e_fa0 rfl ty_fo44_0) rfl ?_); clear hS a; intro a hS) | (refine L_op (s_e hS (e_faK rfl ty_fo44_0) rfl ?_); clear hS a; intro a hS)
    refine L_op (s_e hS (e_load rfl (by repeat constructor) ty_sc4 (by rfl)) rfl ?_); clear hS a; intro a hS
    refine L_nil ?_
    refine n_then ?_
    first | refine c_ifD hS rfl (fun hc19 => ?_) (fun hc19 => ?_) | refine c_if hS rfl (fun hc19 => ?_) (fun hc19 => ?_)
    ·
      refine c_seq ?_
      refine c_region ?_
      refine L_op (s_e hS (e_move rfl) rfl ?_); clear hS a; intro a hS
      refine L_op (s_e hS (e_neg rfl) rfl ?_); clear hS a; intro a hS
      refine L_op (s_e hS (e_assign rfl) rfl ?_); clear hS a; intro a hS
      refine L_nil ?_
      refine n_then ?_
      refine wp_ret ?_
      refine r_then ?_
      refine c_ret1 hS Try.results24 (.tmp rfl) ?_
      exact ⟨by rw [← cmpZ_c hc10 hc19], hS.chg⟩
    ·
      refine wp_skip ?_
      refine n_then ?_
      refine c_seq ?_
      refine c_region ?_
      refine L_op (s_e hS (e_move rfl) rfl ?_); clear hS a; intro a hS
      refine L_op (s_e hS (e_assign rfl) rfl ?_); clear hS a; intro a hS
      refine L_nil ?_
      refine n_then ?_
      refine wp_ret ?_
      refine c_ret1 hS Try.results24 (.tmp rfl) ?_
      exact ⟨by rw [← cmpZ_d hc10 hc19], hS.chg⟩

def gd (xs : List Int) (i : Nat) : Int := (xs[i]?).getD 0
theorem gd_in {xs : List Int} (h : inR xs) (i : Nat) : 0 ≤ gd xs i ∧ gd xs i ≤ 9999 := by
  unfold gd
  cases hx : xs[i]? with
  | none => simp
  | some d => exact h d (List.mem_of_getElem? hx)
theorem nv_drop (xs : List Int) (i : Nat) : nv (xs.drop i) = gd xs i + 10000 * nv (xs.drop (i + 1)) := by
  unfold gd
  cases hx : xs[i]? with
  | none =>
    have := List.getElem?_eq_none_iff.1 hx
    rw [List.drop_eq_nil_of_le this, List.drop_eq_nil_of_le (by omega)]; simp [nv]
  | some d => rw [drop_at hx]; rfl
theorem add_step {S P o c A B a b A' B' x : Int} (h : S = o + P * (c + A + B)) (hA : A = a + 10000 * A') (hB : B = b + 10000 * B') (hx : x = c + a + b) : S = (o + P * (x % 10000)) + P * 10000 * (x / 10000 + A' + B') := by
  have e : c + A + B = x % 10000 + 10000 * (x / 10000 + A' + B') := by omega
  rw [h, e, Int.mul_add, Int.mul_assoc]; omega
/-- digits of the walk's own. -/
abbrev Digs := List Int × Value
def digA (r : Digs) : Asn := ownA 3 1 r.2 r.1.length (r.1.flatMap encD)

set_option maxRecDepth 100000 in
theorem add_P (p q : Option (Nat × Nat)) (c1 c2 : Nat) (xs ys : List Int) (hx : inR xs) (hy : inR ys) (N : Nat) (hN : N ≤ 1000000) (hlx : xs.length ≤ N) (hly : ys.length ≤ N) (w0 : World) (h : (twoA p q xs ys).ok w0) :
    NewC Try.prog 58 [sliceV p xs.length c1, sliceV q ys.length c2] w0 (fun r : { r : Digs // inR r.1 ∧ nv r.1 = nv xs + nv ys ∧ r.1.length ≤ N + 1 } => r.1.2) (fun r => digA r.1) := by
  have hp := h.now.1
  have hq := h.now.2
  refine c_enter [(0, sliceV p xs.length c1), (1, sliceV q ys.length c2)] [twoA p q xs ys] noB Try.func58 rfl Try.ntmps58 ⟨rfl, rfl, trivial⟩ rfl (by intro X hX; obtain rfl := List.mem_singleton.1 hX; exact h) (by simp) (by intro X hX hm; obtain rfl := List.mem_singleton.1 hX; cases hm) ?_
  intro a hS
  refine c_seq ?_
  refine c_region ?_
  refine L_op (s_e hS (e_assign rfl) rfl ?_); clear hS a; intro a hS
  refine L_nil ?_
  refine n_then ?_
  refine c_seq ?_
  refine c_region ?_
  refine L_op (s_e hS (e_assign rfl) rfl ?_); clear hS a; intro a hS
  refine L_nil ?_
  refine n_then ?_
  refine c_seq ?_
  refine c_region ?_
  refine L_op (s_e hS (e_assign rfl) rfl ?_); clear hS a; intro a hS
  refine L_nil ?_
  refine n_then ?_
  refine c_seq ?_
  refine c_seq ?_
  refine c_region ?_
  refine L_op (s_e hS (e_assign rfl) rfl ?_); clear hS a; intro a hS
  refine L_nil ?_
  refine n_then ?_
  refine wp_block ?_
  skip
  refine c_loop (γ := (Int × List Int × Value)) (fun G a w => St 54 noB w0 a w [(0, sliceV p xs.length c1), (1, sliceV q ys.length c2), (5, G.2.2), (6, .int .i64 G.1), (7, .int .i64 (G.2.1.length : Int))] [ownA 3 1 G.2.2 G.2.1.length (G.2.1.flatMap encD), twoA p q xs ys] ∧ inR G.2.1 ∧ 0 ≤ G.1 ∧ G.1 ≤ 1 ∧ G.2.1.length ≤ N + 1 ∧ (G.2.1.length = N + 1 → G.1 = 0) ∧ nv xs + nv ys = nv G.2.1 + 10000 ^ G.2.1.length * (G.1 + nv (xs.drop G.2.1.length) + nv (ys.drop G.2.1.length))) (fun G => N + 2 - G.2.1.length) (0, [], .slice none 0 0) ⟨(hS.own_nil 3 1).slots ⟨rfl, rfl, rfl, rfl, rfl, trivial⟩, (by intro d hd; cases hd), by decide, by decide, Nat.zero_le _, fun _ => rfl, by simp [nv]⟩ ?_
  clear hS a; (try clear w); intro G a w hI
  obtain ⟨cy, l, sv⟩ := G
  obtain ⟨hS, hin, hc0, hc1, hll, hlN, hsum⟩ := hI
  simp only at hS hin hc0 hc1 hll hlN hsum
  have ga := gd_in hx l.length
  have gb := gd_in hy l.length
  have da := nv_drop xs l.length
  have db := nv_drop ys l.length
  refine c_seq ?_
  refine c_seq ?_
  refine c_region ?_
  refine L_op (s_e hS (e_move rfl) rfl ?_); clear hS a; intro a hS
  refine L_op (s_e hS (e_move rfl) rfl ?_); clear hS a; intro a hS
  refine L_op (s_e hS (e_len rfl rfl ty_sl42) rfl ?_); clear hS a; intro a hS
  refine L_op (s_e hS (e_bin rfl rfl rfl) rfl ?_); clear hS a; intro a hS
  refine L_op (s_e hS (e_move rfl) rfl ?_); clear hS a; intro a hS
  (first | refine g_splitD (t := 13) hS rfl ?_ ?_ | refine g_split (t := 13) hS rfl ?_ ?_) <;> (clear hS; intro hg13 hS)
  ·
    refine L_skip_f hS rfl rfl rfl ?_; clear hS a; intro a hS
    refine L_skip_f hS rfl rfl rfl ?_; clear hS a; intro a hS
    refine L_skip_f hS rfl rfl rfl ?_; clear hS a; intro a hS
    refine L_skip_f hS rfl rfl rfl ?_; clear hS a; intro a hS
    first | (refine L_op (s_e hS (e_pick_t rfl rfl) rfl ?_); clear hS a; intro a hS) | (refine L_op (s_e hS (e_pick_f rfl rfl) rfl ?_); clear hS a; intro a hS)
    refine L_op (s_e hS (e_move rfl) rfl ?_); clear hS a; intro a hS
    refine L_skip_f hS rfl rfl rfl ?_; clear hS a; intro a hS
    refine L_skip_f hS rfl rfl rfl ?_; clear hS a; intro a hS
    first | (refine L_op (s_e hS (e_pick_t rfl rfl) rfl ?_); clear hS a; intro a hS) | (refine L_op (s_e hS (e_pick_f rfl rfl) rfl ?_); clear hS a; intro a hS)
    refine L_nil ?_
    refine n_then ?_
    refine c_if_t hS rfl ?_
    refine wp_skip ?_
    refine n_then ?_
    refine c_seq ?_
    refine wp_block ?_
    refine c_seq ?_
    refine c_region ?_
    refine L_op (s_e hS (e_move rfl) rfl ?_); clear hS a; intro a hS
    refine L_op (s_e hS (e_assign rfl) rfl ?_); clear hS a; intro a hS
    refine L_nil ?_
    refine n_then ?_
    refine c_cut (fun a w => ∃ d1 : Int, St 54 noB w0 a w [(8, .int .i64 d1), (0, sliceV p xs.length c1), (1, sliceV q ys.length c2), (5, sv), (6, .int .i64 cy), (7, .int .i64 (l.length : Int))] [ownA 3 1 sv l.length (l.flatMap encD), twoA p q xs ys] ∧ d1 = cy + gd xs l.length) ?_ ?_
    ·
      refine c_seq ?_
      refine c_region ?_
      refine L_op (s_e hS (e_move rfl) rfl ?_); clear hS a; intro a hS
      refine L_op (s_e hS (e_move rfl) rfl ?_); clear hS a; intro a hS
      refine L_op (s_e hS (e_len rfl rfl ty_sl42) rfl ?_); clear hS a; intro a hS
      refine L_op (s_e hS (e_bin rfl rfl rfl) rfl ?_); clear hS a; intro a hS
      refine L_nil ?_
      refine n_then ?_
      first | refine c_ifD hS rfl (fun hc29 => ?_) (fun hc29 => ?_) | refine c_if hS rfl (fun hc29 => ?_) (fun hc29 => ?_)
      ·
        obtain ⟨d, hd⟩ : ∃ d, xs[l.length]? = some d := ⟨xs[l.length]'(by omega), List.getElem?_eq_getElem (by omega)⟩
        obtain ⟨b1, o1, rfl⟩ := two_pos hp (fun e => by rw [e] at hd; cases hd)
        have hgd : gd xs l.length = d := by unfold gd; rw [hd]; rfl
        refine c_region ?_
        refine L_op (s_e hS (e_move rfl) rfl ?_); clear hS a; intro a hS
        refine L_op (s_e hS (e_move rfl) rfl ?_); clear hS a; intro a hS
        refine L_op (s_e hS (e_move rfl) rfl ?_); clear hS a; intro a hS
        refine L_op (s_e hS (e_ixN rfl rfl ty_sl42 ty_sz3 (by omega)) rfl ?_); clear hS a; intro a hS
        refine L_op (s_e hS (e_loadC rfl ty_sc3 (two_l (by repeat (first | exact .head _ | refine .tail _ ?_)) hd)) rfl ?_); clear hS a; intro a hS
        first | (refine L_op (s_e hS (e_binN rfl rfl rfl (by omega)) rfl ?_); clear hS a; intro a hS) | (refine L_op (s_e hS (e_bin rfl rfl rfl) rfl ?_); clear hS a; intro a hS)
        refine L_op (s_e hS (e_assign rfl) rfl ?_); clear hS a; intro a hS
        refine L_nil ?_
        exact ⟨_, hS.slots (by exact ⟨rfl, rfl, rfl, rfl, rfl, rfl, trivial⟩), by omega⟩
      ·
        have hgd : gd xs l.length = 0 := by unfold gd; rw [List.getElem?_eq_none (by omega)]; rfl
        refine wp_skip ?_
        exact ⟨_, hS.slots (by exact ⟨rfl, rfl, rfl, rfl, rfl, rfl, trivial⟩), by omega⟩
    ·
      clear hS a; (try clear w); intro a w hS
      obtain ⟨d1, hS, hd1⟩ := hS
      refine c_cut (fun a w => ∃ d2 : Int, St 54 noB w0 a w [(8, .int .i64 d2), (0, sliceV p xs.length c1), (1, sliceV q ys.length c2), (5, sv), (6, .int .i64 cy), (7, .int .i64 (l.length : Int))] [ownA 3 1 sv l.length (l.flatMap encD), twoA p q xs ys] ∧ d2 = cy + gd xs l.length + gd ys l.length) ?_ ?_
      ·
        refine c_seq ?_
        refine c_region ?_
        refine L_op (s_e hS (e_move rfl) rfl ?_); clear hS a; intro a hS
        refine L_op (s_e hS (e_move rfl) rfl ?_); clear hS a; intro a hS
        refine L_op (s_e hS (e_len rfl rfl ty_sl42) rfl ?_); clear hS a; intro a hS
        refine L_op (s_e hS (e_bin rfl rfl rfl) rfl ?_); clear hS a; intro a hS
        refine L_nil ?_
        refine n_then ?_
        first | refine c_ifD hS rfl (fun hc39 => ?_) (fun hc39 => ?_) | refine c_if hS rfl (fun hc39 => ?_) (fun hc39 => ?_)
        ·
          obtain ⟨d, hd⟩ : ∃ d, ys[l.length]? = some d := ⟨ys[l.length]'(by omega), List.getElem?_eq_getElem (by omega)⟩
          obtain ⟨b2, o2, rfl⟩ := two_pos hq (fun e => by rw [e] at hd; cases hd)
          have hgd : gd ys l.length = d := by unfold gd; rw [hd]; rfl
          refine c_region ?_
          refine L_op (s_e hS (e_move rfl) rfl ?_); clear hS a; intro a hS
          refine L_op (s_e hS (e_move rfl) rfl ?_); clear hS a; intro a hS
          refine L_op (s_e hS (e_move rfl) rfl ?_); clear hS a; intro a hS
          refine L_op (s_e hS (e_ixN rfl rfl ty_sl42 ty_sz3 (by omega)) rfl ?_); clear hS a; intro a hS
          refine L_op (s_e hS (e_loadC rfl ty_sc3 (two_r (by repeat (first | exact .head _ | refine .tail _ ?_)) hd)) rfl ?_); clear hS a; intro a hS
          first | (refine L_op (s_e hS (e_binN rfl rfl rfl (by omega)) rfl ?_); clear hS a; intro a hS) | (refine L_op (s_e hS (e_bin rfl rfl rfl) rfl ?_); clear hS a; intro a hS)
          refine L_op (s_e hS (e_assign rfl) rfl ?_); clear hS a; intro a hS
          refine L_nil ?_
          exact ⟨_, hS.slots (by exact ⟨rfl, rfl, rfl, rfl, rfl, rfl, trivial⟩), by omega⟩
        ·
          have hgd : gd ys l.length = 0 := by unfold gd; rw [List.getElem?_eq_none (by omega)]; rfl
          refine wp_skip ?_
          exact ⟨_, hS.slots (by exact ⟨rfl, rfl, rfl, rfl, rfl, rfl, trivial⟩), by omega⟩
      ·
        clear hS a; (try clear w); intro a w hS
        obtain ⟨d2, hS, hd2⟩ := hS
        have e1 : (l ++ [d2 % 10000]).flatMap encD = l.flatMap encD ++ [.int .i64 (d2 % 10000)] := by simp [encD]
        have hs2 := add_step hsum da db hd2
        refine c_seq ?_
        refine c_region ?_
        refine L_op (s_e hS (e_move rfl) rfl ?_); clear hS a; intro a hS
        refine L_op (s_e hS (e_move rfl) rfl ?_); clear hS a; intro a hS
        first | (refine L_op (s_e hS (e_remN rfl rfl (by omega)) rfl ?_); clear hS a; intro a hS) | (refine L_op (s_e hS (e_rem rfl rfl (by omega)) rfl ?_); clear hS a; intro a hS)
        refine L_op (s_bslice hS ty_sl42 ty_sz3 ty_z3 rfl rfl rfl rfl (.one rfl rfl rfl .nil) rfl ?_); clear hS a; (try clear w); intro a w b49 hS
        refine L_op (s_append1 hS rfl rfl ty_sl42 ty_sz3 ty_by3 ty_z3 rfl rfl rfl (by repeat constructor) (by repeat constructor) (by rfl) (by rfl) (fun _ => (by repeat constructor)) (by omega) ?_); clear hS a; (try clear w); intro v50 a w hv50 hS
        refine L_op (s_e hS (e_assign rfl) rfl ?_); clear hS a; intro a hS
        refine L_nil ?_
        refine n_then ?_
        refine c_region ?_
        refine L_op (s_e hS (e_move rfl) rfl ?_); clear hS a; intro a hS
        first | (refine L_op (s_e hS (e_quoN rfl rfl (by omega)) rfl ?_); clear hS a; intro a hS) | (refine L_op (s_e hS (e_quo rfl rfl (by omega)) rfl ?_); clear hS a; intro a hS)
        refine L_op (s_e hS (e_assign rfl) rfl ?_); clear hS a; intro a hS
        refine L_nil ?_
        refine n_block ?_
        refine n_then ?_
        refine c_region ?_
        refine L_op (s_e hS (e_move rfl) rfl ?_); clear hS a; intro a hS
        first | (refine L_op (s_e hS (e_binN rfl rfl rfl (by omega)) rfl ?_); clear hS a; intro a hS) | (refine L_op (s_e hS (e_bin rfl rfl rfl) rfl ?_); clear hS a; intro a hS)
        refine L_op (s_e hS (e_assign rfl) rfl ?_); clear hS a; intro a hS
        refine L_nil ?_
        have hlN2 : l.length ≤ N := by
          rcases Nat.lt_or_ge l.length (N + 1) with h1 | h1
          · omega
          · have := hlN (by omega)
            omega
        refine ⟨(d2 / 10000, l ++ [d2 % 10000], v50), by simp only [List.length_append, List.length_cons, List.length_nil]; omega, ?_, inR_snoc hin (by omega), by simp only; omega, by simp only; omega, by simp only [List.length_append, List.length_cons, List.length_nil]; omega, ?_, ?_⟩
        · simp only [List.length_append, List.length_cons, List.length_nil, Nat.zero_add, e1]
          exact (hS.drop (by repeat (first | exact List.Sublist.refl _ | apply List.Sublist.cons_cons | apply List.Sublist.cons))).slots (by exact ⟨rfl, rfl, rfl, rfl, rfl, trivial⟩)
        · simp only [List.length_append, List.length_cons, List.length_nil, Nat.zero_add]
          intro h1
          have za : gd xs l.length = 0 := by unfold gd; rw [List.getElem?_eq_none (by omega)]; rfl
          have zb : gd ys l.length = 0 := by unfold gd; rw [List.getElem?_eq_none (by omega)]; rfl
          omega
        · simp only [List.length_append, List.length_cons, List.length_nil, Nat.zero_add]
          rw [nv_snoc, hs2, Int.pow_succ]
  ·
    refine L_go hS rfl rfl (s_e hS (e_move rfl) rfl ?_); clear hS a; intro a hS
    refine L_go hS rfl rfl (s_e hS (e_move rfl) rfl ?_); clear hS a; intro a hS
    refine L_go hS rfl rfl (s_e hS (e_len rfl rfl ty_sl42) rfl ?_); clear hS a; intro a hS
    refine L_go hS rfl rfl (s_e hS (e_bin rfl rfl rfl) rfl ?_); clear hS a; intro a hS
    first | (refine L_op (s_e hS (e_pick_t rfl rfl) rfl ?_); clear hS a; intro a hS) | (refine L_op (s_e hS (e_pick_f rfl rfl) rfl ?_); clear hS a; intro a hS)
    refine L_op (s_e hS (e_move rfl) rfl ?_); clear hS a; intro a hS
    (first | refine g_splitD (t := 19) hS rfl ?_ ?_ | refine g_split (t := 19) hS rfl ?_ ?_) <;> (clear hS; intro hg19 hS)
    ·
      refine L_skip_f hS rfl rfl rfl ?_; clear hS a; intro a hS
      refine L_skip_f hS rfl rfl rfl ?_; clear hS a; intro a hS
      first | (refine L_op (s_e hS (e_pick_t rfl rfl) rfl ?_); clear hS a; intro a hS) | (refine L_op (s_e hS (e_pick_f rfl rfl) rfl ?_); clear hS a; intro a hS)
      refine L_nil ?_
      refine n_then ?_
      refine c_if_t hS rfl ?_
      refine wp_skip ?_
      refine n_then ?_
      refine c_seq ?_
      refine wp_block ?_
      refine c_seq ?_
      refine c_region ?_
      refine L_op (s_e hS (e_move rfl) rfl ?_); clear hS a; intro a hS
      refine L_op (s_e hS (e_assign rfl) rfl ?_); clear hS a; intro a hS
      refine L_nil ?_
      refine n_then ?_
      refine c_cut (fun a w => ∃ d1 : Int, St 54 noB w0 a w [(8, .int .i64 d1), (0, sliceV p xs.length c1), (1, sliceV q ys.length c2), (5, sv), (6, .int .i64 cy), (7, .int .i64 (l.length : Int))] [ownA 3 1 sv l.length (l.flatMap encD), twoA p q xs ys] ∧ d1 = cy + gd xs l.length) ?_ ?_
      ·
        refine c_seq ?_
        refine c_region ?_
        refine L_op (s_e hS (e_move rfl) rfl ?_); clear hS a; intro a hS
        refine L_op (s_e hS (e_move rfl) rfl ?_); clear hS a; intro a hS
        refine L_op (s_e hS (e_len rfl rfl ty_sl42) rfl ?_); clear hS a; intro a hS
        refine L_op (s_e hS (e_bin rfl rfl rfl) rfl ?_); clear hS a; intro a hS
        refine L_nil ?_
        refine n_then ?_
        first | refine c_ifD hS rfl (fun hc29 => ?_) (fun hc29 => ?_) | refine c_if hS rfl (fun hc29 => ?_) (fun hc29 => ?_)
        ·
          obtain ⟨d, hd⟩ : ∃ d, xs[l.length]? = some d := ⟨xs[l.length]'(by omega), List.getElem?_eq_getElem (by omega)⟩
          obtain ⟨b1, o1, rfl⟩ := two_pos hp (fun e => by rw [e] at hd; cases hd)
          have hgd : gd xs l.length = d := by unfold gd; rw [hd]; rfl
          refine c_region ?_
          refine L_op (s_e hS (e_move rfl) rfl ?_); clear hS a; intro a hS
          refine L_op (s_e hS (e_move rfl) rfl ?_); clear hS a; intro a hS
          refine L_op (s_e hS (e_move rfl) rfl ?_); clear hS a; intro a hS
          refine L_op (s_e hS (e_ixN rfl rfl ty_sl42 ty_sz3 (by omega)) rfl ?_); clear hS a; intro a hS
          refine L_op (s_e hS (e_loadC rfl ty_sc3 (two_l (by repeat (first | exact .head _ | refine .tail _ ?_)) hd)) rfl ?_); clear hS a; intro a hS
          first | (refine L_op (s_e hS (e_binN rfl rfl rfl (by omega)) rfl ?_); clear hS a; intro a hS) | (refine L_op (s_e hS (e_bin rfl rfl rfl) rfl ?_); clear hS a; intro a hS)
          refine L_op (s_e hS (e_assign rfl) rfl ?_); clear hS a; intro a hS
          refine L_nil ?_
          exact ⟨_, hS.slots (by exact ⟨rfl, rfl, rfl, rfl, rfl, rfl, trivial⟩), by omega⟩
        ·
          have hgd : gd xs l.length = 0 := by unfold gd; rw [List.getElem?_eq_none (by omega)]; rfl
          refine wp_skip ?_
          exact ⟨_, hS.slots (by exact ⟨rfl, rfl, rfl, rfl, rfl, rfl, trivial⟩), by omega⟩
      ·
        clear hS a; (try clear w); intro a w hS
        obtain ⟨d1, hS, hd1⟩ := hS
        refine c_cut (fun a w => ∃ d2 : Int, St 54 noB w0 a w [(8, .int .i64 d2), (0, sliceV p xs.length c1), (1, sliceV q ys.length c2), (5, sv), (6, .int .i64 cy), (7, .int .i64 (l.length : Int))] [ownA 3 1 sv l.length (l.flatMap encD), twoA p q xs ys] ∧ d2 = cy + gd xs l.length + gd ys l.length) ?_ ?_
        ·
          refine c_seq ?_
          refine c_region ?_
          refine L_op (s_e hS (e_move rfl) rfl ?_); clear hS a; intro a hS
          refine L_op (s_e hS (e_move rfl) rfl ?_); clear hS a; intro a hS
          refine L_op (s_e hS (e_len rfl rfl ty_sl42) rfl ?_); clear hS a; intro a hS
          refine L_op (s_e hS (e_bin rfl rfl rfl) rfl ?_); clear hS a; intro a hS
          refine L_nil ?_
          refine n_then ?_
          first | refine c_ifD hS rfl (fun hc39 => ?_) (fun hc39 => ?_) | refine c_if hS rfl (fun hc39 => ?_) (fun hc39 => ?_)
          ·
            obtain ⟨d, hd⟩ : ∃ d, ys[l.length]? = some d := ⟨ys[l.length]'(by omega), List.getElem?_eq_getElem (by omega)⟩
            obtain ⟨b2, o2, rfl⟩ := two_pos hq (fun e => by rw [e] at hd; cases hd)
            have hgd : gd ys l.length = d := by unfold gd; rw [hd]; rfl
            refine c_region ?_
            refine L_op (s_e hS (e_move rfl) rfl ?_); clear hS a; intro a hS
            refine L_op (s_e hS (e_move rfl) rfl ?_); clear hS a; intro a hS
            refine L_op (s_e hS (e_move rfl) rfl ?_); clear hS a; intro a hS
            refine L_op (s_e hS (e_ixN rfl rfl ty_sl42 ty_sz3 (by omega)) rfl ?_); clear hS a; intro a hS
            refine L_op (s_e hS (e_loadC rfl ty_sc3 (two_r (by repeat (first | exact .head _ | refine .tail _ ?_)) hd)) rfl ?_); clear hS a; intro a hS
            first | (refine L_op (s_e hS (e_binN rfl rfl rfl (by omega)) rfl ?_); clear hS a; intro a hS) | (refine L_op (s_e hS (e_bin rfl rfl rfl) rfl ?_); clear hS a; intro a hS)
            refine L_op (s_e hS (e_assign rfl) rfl ?_); clear hS a; intro a hS
            refine L_nil ?_
            exact ⟨_, hS.slots (by exact ⟨rfl, rfl, rfl, rfl, rfl, rfl, trivial⟩), by omega⟩
          ·
            have hgd : gd ys l.length = 0 := by unfold gd; rw [List.getElem?_eq_none (by omega)]; rfl
            refine wp_skip ?_
            exact ⟨_, hS.slots (by exact ⟨rfl, rfl, rfl, rfl, rfl, rfl, trivial⟩), by omega⟩
        ·
          clear hS a; (try clear w); intro a w hS
          obtain ⟨d2, hS, hd2⟩ := hS
          have e1 : (l ++ [d2 % 10000]).flatMap encD = l.flatMap encD ++ [.int .i64 (d2 % 10000)] := by simp [encD]
          have hs2 := add_step hsum da db hd2
          refine c_seq ?_
          refine c_region ?_
          refine L_op (s_e hS (e_move rfl) rfl ?_); clear hS a; intro a hS
          refine L_op (s_e hS (e_move rfl) rfl ?_); clear hS a; intro a hS
          first | (refine L_op (s_e hS (e_remN rfl rfl (by omega)) rfl ?_); clear hS a; intro a hS) | (refine L_op (s_e hS (e_rem rfl rfl (by omega)) rfl ?_); clear hS a; intro a hS)
          refine L_op (s_bslice hS ty_sl42 ty_sz3 ty_z3 rfl rfl rfl rfl (.one rfl rfl rfl .nil) rfl ?_); clear hS a; (try clear w); intro a w b49 hS
          refine L_op (s_append1 hS rfl rfl ty_sl42 ty_sz3 ty_by3 ty_z3 rfl rfl rfl (by repeat constructor) (by repeat constructor) (by rfl) (by rfl) (fun _ => (by repeat constructor)) (by omega) ?_); clear hS a; (try clear w); intro v50 a w hv50 hS
          refine L_op (s_e hS (e_assign rfl) rfl ?_); clear hS a; intro a hS
          refine L_nil ?_
          refine n_then ?_
          refine c_region ?_
          refine L_op (s_e hS (e_move rfl) rfl ?_); clear hS a; intro a hS
          first | (refine L_op (s_e hS (e_quoN rfl rfl (by omega)) rfl ?_); clear hS a; intro a hS) | (refine L_op (s_e hS (e_quo rfl rfl (by omega)) rfl ?_); clear hS a; intro a hS)
          refine L_op (s_e hS (e_assign rfl) rfl ?_); clear hS a; intro a hS
          refine L_nil ?_
          refine n_block ?_
          refine n_then ?_
          refine c_region ?_
          refine L_op (s_e hS (e_move rfl) rfl ?_); clear hS a; intro a hS
          first | (refine L_op (s_e hS (e_binN rfl rfl rfl (by omega)) rfl ?_); clear hS a; intro a hS) | (refine L_op (s_e hS (e_bin rfl rfl rfl) rfl ?_); clear hS a; intro a hS)
          refine L_op (s_e hS (e_assign rfl) rfl ?_); clear hS a; intro a hS
          refine L_nil ?_
          have hlN2 : l.length ≤ N := by
            rcases Nat.lt_or_ge l.length (N + 1) with h1 | h1
            · omega
            · have := hlN (by omega)
              omega
          refine ⟨(d2 / 10000, l ++ [d2 % 10000], v50), by simp only [List.length_append, List.length_cons, List.length_nil]; omega, ?_, inR_snoc hin (by omega), by simp only; omega, by simp only; omega, by simp only [List.length_append, List.length_cons, List.length_nil]; omega, ?_, ?_⟩
          · simp only [List.length_append, List.length_cons, List.length_nil, Nat.zero_add, e1]
            exact (hS.drop (by repeat (first | exact List.Sublist.refl _ | apply List.Sublist.cons_cons | apply List.Sublist.cons))).slots (by exact ⟨rfl, rfl, rfl, rfl, rfl, trivial⟩)
          · simp only [List.length_append, List.length_cons, List.length_nil, Nat.zero_add]
            intro h1
            have za : gd xs l.length = 0 := by unfold gd; rw [List.getElem?_eq_none (by omega)]; rfl
            have zb : gd ys l.length = 0 := by unfold gd; rw [List.getElem?_eq_none (by omega)]; rfl
            omega
          · simp only [List.length_append, List.length_cons, List.length_nil, Nat.zero_add]
            rw [nv_snoc, hs2, Int.pow_succ]
    ·
      refine L_go hS rfl rfl (s_e hS (e_move rfl) rfl ?_); clear hS a; intro a hS
      refine L_go hS rfl rfl (s_e hS (e_bin rfl rfl rfl) rfl ?_); clear hS a; intro a hS
      first | (refine L_op (s_e hS (e_pick_t rfl rfl) rfl ?_); clear hS a; intro a hS) | (refine L_op (s_e hS (e_pick_f rfl rfl) rfl ?_); clear hS a; intro a hS)
      refine L_nil ?_
      refine n_then ?_
      first | refine c_ifD hS rfl (fun hc22 => ?_) (fun hc22 => ?_) | refine c_if hS rfl (fun hc22 => ?_) (fun hc22 => ?_)
      ·
        refine wp_skip ?_
        refine n_then ?_
        refine c_seq ?_
        refine wp_block ?_
        refine c_seq ?_
        refine c_region ?_
        refine L_op (s_e hS (e_move rfl) rfl ?_); clear hS a; intro a hS
        refine L_op (s_e hS (e_assign rfl) rfl ?_); clear hS a; intro a hS
        refine L_nil ?_
        refine n_then ?_
        refine c_cut (fun a w => ∃ d1 : Int, St 54 noB w0 a w [(8, .int .i64 d1), (0, sliceV p xs.length c1), (1, sliceV q ys.length c2), (5, sv), (6, .int .i64 cy), (7, .int .i64 (l.length : Int))] [ownA 3 1 sv l.length (l.flatMap encD), twoA p q xs ys] ∧ d1 = cy + gd xs l.length) ?_ ?_
        ·
          refine c_seq ?_
          refine c_region ?_
          refine L_op (s_e hS (e_move rfl) rfl ?_); clear hS a; intro a hS
          refine L_op (s_e hS (e_move rfl) rfl ?_); clear hS a; intro a hS
          refine L_op (s_e hS (e_len rfl rfl ty_sl42) rfl ?_); clear hS a; intro a hS
          refine L_op (s_e hS (e_bin rfl rfl rfl) rfl ?_); clear hS a; intro a hS
          refine L_nil ?_
          refine n_then ?_
          first | refine c_ifD hS rfl (fun hc29 => ?_) (fun hc29 => ?_) | refine c_if hS rfl (fun hc29 => ?_) (fun hc29 => ?_)
          ·
            obtain ⟨d, hd⟩ : ∃ d, xs[l.length]? = some d := ⟨xs[l.length]'(by omega), List.getElem?_eq_getElem (by omega)⟩
            obtain ⟨b1, o1, rfl⟩ := two_pos hp (fun e => by rw [e] at hd; cases hd)
            have hgd : gd xs l.length = d := by unfold gd; rw [hd]; rfl
            refine c_region ?_
            refine L_op (s_e hS (e_move rfl) rfl ?_); clear hS a; intro a hS
            refine L_op (s_e hS (e_move rfl) rfl ?_); clear hS a; intro a hS
            refine L_op (s_e hS (e_move rfl) rfl ?_); clear hS a; intro a hS
            refine L_op (s_e hS (e_ixN rfl rfl ty_sl42 ty_sz3 (by omega)) rfl ?_); clear hS a; intro a hS
            refine L_op (s_e hS (e_loadC rfl ty_sc3 (two_l (by repeat (first | exact .head _ | refine .tail _ ?_)) hd)) rfl ?_); clear hS a; intro a hS
            first | (refine L_op (s_e hS (e_binN rfl rfl rfl (by omega)) rfl ?_); clear hS a; intro a hS) | (refine L_op (s_e hS (e_bin rfl rfl rfl) rfl ?_); clear hS a; intro a hS)
            refine L_op (s_e hS (e_assign rfl) rfl ?_); clear hS a; intro a hS
            refine L_nil ?_
            exact ⟨_, hS.slots (by exact ⟨rfl, rfl, rfl, rfl, rfl, rfl, trivial⟩), by omega⟩
          ·
            have hgd : gd xs l.length = 0 := by unfold gd; rw [List.getElem?_eq_none (by omega)]; rfl
            refine wp_skip ?_
            exact ⟨_, hS.slots (by exact ⟨rfl, rfl, rfl, rfl, rfl, rfl, trivial⟩), by omega⟩
        ·
          clear hS a; (try clear w); intro a w hS
          obtain ⟨d1, hS, hd1⟩ := hS
          refine c_cut (fun a w => ∃ d2 : Int, St 54 noB w0 a w [(8, .int .i64 d2), (0, sliceV p xs.length c1), (1, sliceV q ys.length c2), (5, sv), (6, .int .i64 cy), (7, .int .i64 (l.length : Int))] [ownA 3 1 sv l.length (l.flatMap encD), twoA p q xs ys] ∧ d2 = cy + gd xs l.length + gd ys l.length) ?_ ?_
          ·
            refine c_seq ?_
            refine c_region ?_
            refine L_op (s_e hS (e_move rfl) rfl ?_); clear hS a; intro a hS
            refine L_op (s_e hS (e_move rfl) rfl ?_); clear hS a; intro a hS
            refine L_op (s_e hS (e_len rfl rfl ty_sl42) rfl ?_); clear hS a; intro a hS
            refine L_op (s_e hS (e_bin rfl rfl rfl) rfl ?_); clear hS a; intro a hS
            refine L_nil ?_
            refine n_then ?_
            first | refine c_ifD hS rfl (fun hc39 => ?_) (fun hc39 => ?_) | refine c_if hS rfl (fun hc39 => ?_) (fun hc39 => ?_)
            ·
              obtain ⟨d, hd⟩ : ∃ d, ys[l.length]? = some d := ⟨ys[l.length]'(by omega), List.getElem?_eq_getElem (by omega)⟩
              obtain ⟨b2, o2, rfl⟩ := two_pos hq (fun e => by rw [e] at hd; cases hd)
              have hgd : gd ys l.length = d := by unfold gd; rw [hd]; rfl
              refine c_region ?_
              refine L_op (s_e hS (e_move rfl) rfl ?_); clear hS a; intro a hS
              refine L_op (s_e hS (e_move rfl) rfl ?_); clear hS a; intro a hS
              refine L_op (s_e hS (e_move rfl) rfl ?_); clear hS a; intro a hS
              refine L_op (s_e hS (e_ixN rfl rfl ty_sl42 ty_sz3 (by omega)) rfl ?_); clear hS a; intro a hS
              refine L_op (s_e hS (e_loadC rfl ty_sc3 (two_r (by repeat (first | exact .head _ | refine .tail _ ?_)) hd)) rfl ?_); clear hS a; intro a hS
              first | (refine L_op (s_e hS (e_binN rfl rfl rfl (by omega)) rfl ?_); clear hS a; intro a hS) | (refine L_op (s_e hS (e_bin rfl rfl rfl) rfl ?_); clear hS a; intro a hS)
              refine L_op (s_e hS (e_assign rfl) rfl ?_); clear hS a; intro a hS
              refine L_nil ?_
              exact ⟨_, hS.slots (by exact ⟨rfl, rfl, rfl, rfl, rfl, rfl, trivial⟩), by omega⟩
            ·
              have hgd : gd ys l.length = 0 := by unfold gd; rw [List.getElem?_eq_none (by omega)]; rfl
              refine wp_skip ?_
              exact ⟨_, hS.slots (by exact ⟨rfl, rfl, rfl, rfl, rfl, rfl, trivial⟩), by omega⟩
          ·
            clear hS a; (try clear w); intro a w hS
            obtain ⟨d2, hS, hd2⟩ := hS
            have e1 : (l ++ [d2 % 10000]).flatMap encD = l.flatMap encD ++ [.int .i64 (d2 % 10000)] := by simp [encD]
            have hs2 := add_step hsum da db hd2
            refine c_seq ?_
            refine c_region ?_
            refine L_op (s_e hS (e_move rfl) rfl ?_); clear hS a; intro a hS
            refine L_op (s_e hS (e_move rfl) rfl ?_); clear hS a; intro a hS
            first | (refine L_op (s_e hS (e_remN rfl rfl (by omega)) rfl ?_); clear hS a; intro a hS) | (refine L_op (s_e hS (e_rem rfl rfl (by omega)) rfl ?_); clear hS a; intro a hS)
            refine L_op (s_bslice hS ty_sl42 ty_sz3 ty_z3 rfl rfl rfl rfl (.one rfl rfl rfl .nil) rfl ?_); clear hS a; (try clear w); intro a w b49 hS
            refine L_op (s_append1 hS rfl rfl ty_sl42 ty_sz3 ty_by3 ty_z3 rfl rfl rfl (by repeat constructor) (by repeat constructor) (by rfl) (by rfl) (fun _ => (by repeat constructor)) (by omega) ?_); clear hS a; (try clear w); intro v50 a w hv50 hS
            refine L_op (s_e hS (e_assign rfl) rfl ?_); clear hS a; intro a hS
            refine L_nil ?_
            refine n_then ?_
            refine c_region ?_
            refine L_op (s_e hS (e_move rfl) rfl ?_); clear hS a; intro a hS
            first | (refine L_op (s_e hS (e_quoN rfl rfl (by omega)) rfl ?_); clear hS a; intro a hS) | (refine L_op (s_e hS (e_quo rfl rfl (by omega)) rfl ?_); clear hS a; intro a hS)
            refine L_op (s_e hS (e_assign rfl) rfl ?_); clear hS a; intro a hS
            refine L_nil ?_
            refine n_block ?_
            refine n_then ?_
            refine c_region ?_
            refine L_op (s_e hS (e_move rfl) rfl ?_); clear hS a; intro a hS
            first | (refine L_op (s_e hS (e_binN rfl rfl rfl (by omega)) rfl ?_); clear hS a; intro a hS) | (refine L_op (s_e hS (e_bin rfl rfl rfl) rfl ?_); clear hS a; intro a hS)
            refine L_op (s_e hS (e_assign rfl) rfl ?_); clear hS a; intro a hS
            refine L_nil ?_
            have hlN2 : l.length ≤ N := by
              rcases Nat.lt_or_ge l.length (N + 1) with h1 | h1
              · omega
              · have := hlN (by omega)
                omega
            refine ⟨(d2 / 10000, l ++ [d2 % 10000], v50), by simp only [List.length_append, List.length_cons, List.length_nil]; omega, ?_, inR_snoc hin (by omega), by simp only; omega, by simp only; omega, by simp only [List.length_append, List.length_cons, List.length_nil]; omega, ?_, ?_⟩
            · simp only [List.length_append, List.length_cons, List.length_nil, Nat.zero_add, e1]
              exact (hS.drop (by repeat (first | exact List.Sublist.refl _ | apply List.Sublist.cons_cons | apply List.Sublist.cons))).slots (by exact ⟨rfl, rfl, rfl, rfl, rfl, trivial⟩)
            · simp only [List.length_append, List.length_cons, List.length_nil, Nat.zero_add]
              intro h1
              have za : gd xs l.length = 0 := by unfold gd; rw [List.getElem?_eq_none (by omega)]; rfl
              have zb : gd ys l.length = 0 := by unfold gd; rw [List.getElem?_eq_none (by omega)]; rfl
              omega
            · simp only [List.length_append, List.length_cons, List.length_nil, Nat.zero_add]
              rw [nv_snoc, hs2, Int.pow_succ]
      ·
        refine wp_exit ?_
        refine x_then (x_then (x_hit ?_))
        refine n_then ?_
        refine c_seq ?_
        refine c_region ?_
        refine L_op (s_e hS (e_move rfl) rfl ?_); clear hS a; intro a hS
        refine L_op (s_e hS (e_assign rfl) rfl ?_); clear hS a; intro a hS
        refine L_nil ?_
        refine n_then ?_
        refine wp_ret ?_
        refine c_ret1 hS Try.results58 (.tmp rfl) ?_
        refine ⟨⟨(l, sv), hin, ?_, hll⟩, rfl, hS.chg, hS.new (X := ownA 3 1 sv l.length (l.flatMap encD)) (by repeat (first | exact .head _ | refine .tail _ ?_)) rfl⟩
        rw [hsum, List.drop_eq_nil_of_le (by omega), List.drop_eq_nil_of_le (by omega), show cy = 0 by omega]
        simp [nv]

theorem sub_step {S P o c A B a b A' B' x c' : Int} (h : S = o + P * (A - B - c)) (hA : A = a + 10000 * A') (hB : B = b + 10000 * B') (hx : x = a - c - b + 10000 * c') : S = (o + P * x) + P * 10000 * (A' - B' - c') := by
  have e : A - B - c = x + 10000 * (A' - B' - c') := by omega
  rw [h, e, Int.mul_add, Int.mul_assoc]; omega
set_option maxRecDepth 100000 in
theorem sub_P (p q : Option (Nat × Nat)) (c1 c2 : Nat) (xs ys : List Int) (hx : inR xs) (hy : inR ys) (hN : xs.length ≤ 1000000) (hly : ys.length ≤ xs.length) (hle : nv ys ≤ nv xs) (w0 : World) (h : (twoA p q xs ys).ok w0) :
    NewC Try.prog 60 [sliceV p xs.length c1, sliceV q ys.length c2] w0 (fun r : { r : Digs // inR r.1 ∧ nv r.1 = nv xs - nv ys ∧ r.1.length ≤ xs.length } => r.1.2) (fun r => digA r.1) := by
  have hp := h.now.1
  have hq := h.now.2
  refine c_enter [(0, sliceV p xs.length c1), (1, sliceV q ys.length c2)] [twoA p q xs ys] noB Try.func60 rfl Try.ntmps60 ⟨rfl, rfl, trivial⟩ rfl (by intro X hX; obtain rfl := List.mem_singleton.1 hX; exact h) (by simp) (by intro X hX hm; obtain rfl := List.mem_singleton.1 hX; cases hm) ?_
  intro a hS
  refine c_seq ?_
  refine c_region ?_
  refine L_op (s_e hS (e_assign rfl) rfl ?_); clear hS a; intro a hS
  refine L_nil ?_
  refine n_then ?_
  refine c_seq ?_
  refine c_region ?_
  refine L_op (s_e hS (e_assign rfl) rfl ?_); clear hS a; intro a hS
  refine L_nil ?_
  refine n_then ?_
  refine c_seq ?_
  refine c_region ?_
  refine L_op (s_e hS (e_assign rfl) rfl ?_); clear hS a; intro a hS
  refine L_nil ?_
  refine n_then ?_
  refine c_seq ?_
  refine c_seq ?_
  refine c_region ?_
  refine L_op (s_e hS (e_assign rfl) rfl ?_); clear hS a; intro a hS
  refine L_nil ?_
  refine n_then ?_
  refine wp_block ?_
  skip
  refine c_loop (γ := (Int × List Int × Value)) (fun G a w => St 40 noB w0 a w [(0, sliceV p xs.length c1), (1, sliceV q ys.length c2), (5, G.2.2), (6, .int .i64 G.1), (7, .int .i64 (G.2.1.length : Int))] [ownA 3 1 G.2.2 G.2.1.length (G.2.1.flatMap encD), twoA p q xs ys] ∧ inR G.2.1 ∧ 0 ≤ G.1 ∧ G.1 ≤ 1 ∧ G.2.1.length ≤ xs.length ∧ nv xs - nv ys = nv G.2.1 + 10000 ^ G.2.1.length * (nv (xs.drop G.2.1.length) - nv (ys.drop G.2.1.length) - G.1)) (fun G => xs.length - G.2.1.length) (0, [], .slice none 0 0) ⟨(hS.own_nil 3 1).slots ⟨rfl, rfl, rfl, rfl, rfl, trivial⟩, (by intro d hd; cases hd), by decide, by decide, Nat.zero_le _, by simp [nv]⟩ ?_
  clear hS a; (try clear w); intro G a w hI
  obtain ⟨cy, l, sv⟩ := G
  obtain ⟨hS, hin, hc0, hc1, hll, hsum⟩ := hI
  simp only at hS hin hc0 hc1 hll hsum
  have ga := gd_in hx l.length
  have gb := gd_in hy l.length
  have da := nv_drop xs l.length
  have db := nv_drop ys l.length
  refine c_seq ?_
  refine c_seq ?_
  refine c_region ?_
  refine L_op (s_e hS (e_move rfl) rfl ?_); clear hS a; intro a hS
  refine L_op (s_e hS (e_move rfl) rfl ?_); clear hS a; intro a hS
  refine L_op (s_e hS (e_len rfl rfl ty_sl42) rfl ?_); clear hS a; intro a hS
  refine L_op (s_e hS (e_bin rfl rfl rfl) rfl ?_); clear hS a; intro a hS
  refine L_nil ?_
  refine n_then ?_
  first | refine c_ifD hS rfl (fun hc12 => ?_) (fun hc12 => ?_) | refine c_if hS rfl (fun hc12 => ?_) (fun hc12 => ?_)
  ·
    obtain ⟨d, hd⟩ : ∃ d, xs[l.length]? = some d := ⟨xs[l.length]'(by omega), List.getElem?_eq_getElem (by omega)⟩
    obtain ⟨b1, o1, rfl⟩ := two_pos hp (fun e => by rw [e] at hd; cases hd)
    have hga : gd xs l.length = d := by unfold gd; rw [hd]; rfl
    refine wp_skip ?_
    refine n_then ?_
    refine c_seq ?_
    refine wp_block ?_
    refine c_seq ?_
    refine c_region ?_
    refine L_op (s_e hS (e_move rfl) rfl ?_); clear hS a; intro a hS
    refine L_op (s_e hS (e_move rfl) rfl ?_); clear hS a; intro a hS
    refine L_op (s_e hS (e_ixN rfl rfl ty_sl42 ty_sz3 (by omega)) rfl ?_); clear hS a; intro a hS
    refine L_op (s_e hS (e_loadC rfl ty_sc3 (two_l (by repeat (first | exact .head _ | refine .tail _ ?_)) hd)) rfl ?_); clear hS a; intro a hS
    refine L_op (s_e hS (e_move rfl) rfl ?_); clear hS a; intro a hS
    first | (refine L_op (s_e hS (e_binN rfl rfl rfl (by omega)) rfl ?_); clear hS a; intro a hS) | (refine L_op (s_e hS (e_bin rfl rfl rfl) rfl ?_); clear hS a; intro a hS)
    refine L_op (s_e hS (e_assign rfl) rfl ?_); clear hS a; intro a hS
    refine L_nil ?_
    refine n_then ?_
    refine c_cut (fun a w => ∃ d1 : Int, St 40 noB w0 a w [(8, .int .i64 d1), (0, sliceV (some (b1, o1)) xs.length c1), (1, sliceV q ys.length c2), (5, sv), (6, .int .i64 cy), (7, .int .i64 (l.length : Int))] [ownA 3 1 sv l.length (l.flatMap encD), twoA (some (b1, o1)) q xs ys] ∧ d1 = gd xs l.length - cy - gd ys l.length) ?_ ?_
    ·
      refine c_seq ?_
      refine c_region ?_
      refine L_op (s_e hS (e_move rfl) rfl ?_); clear hS a; intro a hS
      refine L_op (s_e hS (e_move rfl) rfl ?_); clear hS a; intro a hS
      refine L_op (s_e hS (e_len rfl rfl ty_sl42) rfl ?_); clear hS a; intro a hS
      refine L_op (s_e hS (e_bin rfl rfl rfl) rfl ?_); clear hS a; intro a hS
      refine L_nil ?_
      refine n_then ?_
      first | refine c_ifD hS rfl (fun hc24 => ?_) (fun hc24 => ?_) | refine c_if hS rfl (fun hc24 => ?_) (fun hc24 => ?_)
      ·
        obtain ⟨e, he⟩ : ∃ d, ys[l.length]? = some d := ⟨ys[l.length]'(by omega), List.getElem?_eq_getElem (by omega)⟩
        obtain ⟨b2, o2, rfl⟩ := two_pos hq (fun e => by rw [e] at he; cases he)
        have hgd : gd ys l.length = e := by unfold gd; rw [he]; rfl
        refine c_region ?_
        refine L_op (s_e hS (e_move rfl) rfl ?_); clear hS a; intro a hS
        refine L_op (s_e hS (e_move rfl) rfl ?_); clear hS a; intro a hS
        refine L_op (s_e hS (e_move rfl) rfl ?_); clear hS a; intro a hS
        refine L_op (s_e hS (e_ixN rfl rfl ty_sl42 ty_sz3 (by omega)) rfl ?_); clear hS a; intro a hS
        refine L_op (s_e hS (e_loadC rfl ty_sc3 (two_r (by repeat (first | exact .head _ | refine .tail _ ?_)) he)) rfl ?_); clear hS a; intro a hS
        first | (refine L_op (s_e hS (e_binN rfl rfl rfl (by omega)) rfl ?_); clear hS a; intro a hS) | (refine L_op (s_e hS (e_bin rfl rfl rfl) rfl ?_); clear hS a; intro a hS)
        refine L_op (s_e hS (e_assign rfl) rfl ?_); clear hS a; intro a hS
        refine L_nil ?_
        exact ⟨_, hS.slots (by exact ⟨rfl, rfl, rfl, rfl, rfl, rfl, trivial⟩), by omega⟩
      ·
        have hgd : gd ys l.length = 0 := by unfold gd; rw [List.getElem?_eq_none (by omega)]; rfl
        refine wp_skip ?_
        exact ⟨_, hS.slots (by exact ⟨rfl, rfl, rfl, rfl, rfl, rfl, trivial⟩), by omega⟩
    ·
      clear hS a; (try clear w); intro a w hS
      obtain ⟨d1, hS, hd1⟩ := hS
      refine c_seq ?_
      refine c_region ?_
      refine L_op (s_e hS (e_assign rfl) rfl ?_); clear hS a; intro a hS
      refine L_nil ?_
      refine n_then ?_
      refine c_cut (fun a w => ∃ d2 c' : Int, St 40 noB w0 a w [(8, .int .i64 d2), (0, sliceV (some (b1, o1)) xs.length c1), (1, sliceV q ys.length c2), (5, sv), (6, .int .i64 c'), (7, .int .i64 (l.length : Int))] [ownA 3 1 sv l.length (l.flatMap encD), twoA (some (b1, o1)) q xs ys] ∧ (0 ≤ d2 ∧ d2 ≤ 9999) ∧ (0 ≤ c' ∧ c' ≤ 1) ∧ d2 = gd xs l.length - cy - gd ys l.length + 10000 * c') ?_ ?_
      ·
        refine c_seq ?_
        refine c_region ?_
        refine L_op (s_e hS (e_move rfl) rfl ?_); clear hS a; intro a hS
        refine L_op (s_e hS (e_bin rfl rfl rfl) rfl ?_); clear hS a; intro a hS
        refine L_nil ?_
        refine n_then ?_
        first | refine c_ifD hS rfl (fun hc32 => ?_) (fun hc32 => ?_) | refine c_if hS rfl (fun hc32 => ?_) (fun hc32 => ?_)
        ·
          refine c_seq ?_
          refine c_region ?_
          refine L_op (s_e hS (e_move rfl) rfl ?_); clear hS a; intro a hS
          first | (refine L_op (s_e hS (e_binN rfl rfl rfl (by omega)) rfl ?_); clear hS a; intro a hS) | (refine L_op (s_e hS (e_bin rfl rfl rfl) rfl ?_); clear hS a; intro a hS)
          refine L_op (s_e hS (e_assign rfl) rfl ?_); clear hS a; intro a hS
          refine L_nil ?_
          refine n_then ?_
          refine c_region ?_
          refine L_op (s_e hS (e_assign rfl) rfl ?_); clear hS a; intro a hS
          refine L_nil ?_
          exact ⟨_, _, hS.slots (by exact ⟨rfl, rfl, rfl, rfl, rfl, rfl, trivial⟩), by omega, by decide, by omega⟩
        ·
          refine wp_skip ?_
          exact ⟨_, _, hS.slots (by exact ⟨rfl, rfl, rfl, rfl, rfl, rfl, trivial⟩), by omega, by decide, by omega⟩
      ·
        clear hS a; (try clear w); intro a w hS
        obtain ⟨d2, c', hS, hb2, hbc, hd2⟩ := hS
        have e1 : (l ++ [d2]).flatMap encD = l.flatMap encD ++ [.int .i64 d2] := by simp [encD]
        have hs2 := sub_step hsum da db hd2
        refine c_region ?_
        refine L_op (s_e hS (e_move rfl) rfl ?_); clear hS a; intro a hS
        refine L_op (s_e hS (e_move rfl) rfl ?_); clear hS a; intro a hS
        refine L_op (s_bslice hS ty_sl42 ty_sz3 ty_z3 rfl rfl rfl rfl (.one rfl rfl rfl .nil) rfl ?_); clear hS a; (try clear w); intro a w b37 hS
        refine L_op (s_append1 hS rfl rfl ty_sl42 ty_sz3 ty_by3 ty_z3 rfl rfl rfl (by repeat constructor) (by repeat constructor) (by rfl) (by rfl) (fun _ => (by repeat constructor)) (by omega) ?_); clear hS a; (try clear w); intro v38 a w hv38 hS
        refine L_op (s_e hS (e_assign rfl) rfl ?_); clear hS a; intro a hS
        refine L_nil ?_
        refine n_block ?_
        refine n_then ?_
        refine c_region ?_
        refine L_op (s_e hS (e_move rfl) rfl ?_); clear hS a; intro a hS
        first | (refine L_op (s_e hS (e_binN rfl rfl rfl (by omega)) rfl ?_); clear hS a; intro a hS) | (refine L_op (s_e hS (e_bin rfl rfl rfl) rfl ?_); clear hS a; intro a hS)
        refine L_op (s_e hS (e_assign rfl) rfl ?_); clear hS a; intro a hS
        refine L_nil ?_
        refine ⟨(c', l ++ [d2], v38), by simp only [List.length_append, List.length_cons, List.length_nil]; omega, ?_, inR_snoc hin hb2, hbc.1, hbc.2, by simp only [List.length_append, List.length_cons, List.length_nil]; omega, ?_⟩
        · simp only [List.length_append, List.length_cons, List.length_nil, Nat.zero_add, e1]
          exact (hS.drop (by repeat (first | exact List.Sublist.refl _ | apply List.Sublist.cons_cons | apply List.Sublist.cons))).slots (by exact ⟨rfl, rfl, rfl, rfl, rfl, trivial⟩)
        · simp only [List.length_append, List.length_cons, List.length_nil, Nat.zero_add]
          rw [nv_snoc, hs2, Int.pow_succ]
  ·
    refine wp_exit ?_
    refine x_then (x_then (x_hit ?_))
    refine n_then ?_
    refine c_seq ?_
    refine c_region ?_
    refine L_op (s_e hS (e_move rfl) rfl ?_); clear hS a; intro a hS
    refine L_op (s_e hS (e_assign rfl) rfl ?_); clear hS a; intro a hS
    refine L_nil ?_
    refine n_then ?_
    refine wp_ret ?_
    refine c_ret1 hS Try.results60 (.tmp rfl) ?_
    refine ⟨⟨(l, sv), hin, ?_, hll⟩, rfl, hS.chg, hS.new (X := ownA 3 1 sv l.length (l.flatMap encD)) (by repeat (first | exact .head _ | refine .tail _ ?_)) rfl⟩
    rw [List.drop_eq_nil_of_le (show xs.length ≤ l.length by omega), List.drop_eq_nil_of_le (show ys.length ≤ l.length by omega)] at hsum
    have h1 := nv_lt hin
    simp only [nv, Int.sub_self, Int.zero_sub] at hsum
    have h2 : cy = 0 := by
      rcases (show cy = 0 ∨ cy = 1 by omega) with h2 | rfl
      · exact h2
      · rw [Int.mul_neg, Int.mul_one] at hsum; omega
    subst h2
    simp only [Int.neg_zero, Int.mul_zero, Int.add_zero] at hsum
    exact hsum.symm
end Go.Proofs.Ytheofhegdjjfgaa

namespace Go.Proofs.Ytheofhegdjjfgaa
open Go.RowKit

theorem two_swap {p q : Option (Nat × Nat)} {xs ys : List Int} {w : World} (h : (twoA p q xs ys).ok w) : (twoA q p ys xs).ok w :=
  two_ok h.now.2 h.now.1 (fun r e => h.lt r.1 (.inr ⟨r.2, e⟩)) (fun r e => h.lt r.1 (.inl ⟨r.2, e⟩))
set_option maxHeartbeats 1000000 in
set_option maxRecDepth 100000 in
theorem BigAdd_P (p q : Option (Nat × Nat)) (c1 c2 : Nat) (x y : Int) (N : Nat) (hN : N ≤ 100000) (hx : (dgs x.natAbs).length ≤ N) (hy : (dgs y.natAbs).length ≤ N) (w0 : World) (h : (twoA p q (dgs x.natAbs) (dgs y.natAbs)).ok w0) :
    NewC Try.prog 23 [bigV x p c1, bigV y q c2] w0 (fun r : At (x + y) => bigV (x + y) (some (r.1.1, 0)) r.1.2) (fun r => bigA (x + y) r.1.1) := by
  refine c_enter [(0, bigV x p c1), (1, bigV y q c2)] [twoA p q (dgs x.natAbs) (dgs y.natAbs)] noB Try.func23 rfl Try.ntmps23 ⟨rfl, rfl, trivial⟩ rfl (by intro X hX; obtain rfl := List.mem_singleton.1 hX; exact h) (by simp) (by intro X hX hm; obtain rfl := List.mem_singleton.1 hX; cases hm) ?_
  intro a hS
  refine c_seq ?_
  refine c_region ?_
  refine L_op (s_boxA hS rfl rfl ?_); clear hS a; (try clear w); intro a w b2 hS
  refine L_op (s_boxA hS rfl rfl ?_); clear hS a; (try clear w); intro a w b3 hS
  refine L_op (s_alloc hS ty_z44 rfl ?_); clear hS a; (try clear w); intro a w b4 hS
  refine L_nil ?_
  refine n_then ?_
  refine c_seq ?_
  refine c_seq ?_
  refine c_region ?_
  first | (refine L_op (s_e hS (e_fa0 rfl ty_fo44_0) rfl ?_); clear hS a; intro a hS) | (refine L_op (s_e hS (e_faK rfl ty_fo44_0) rfl ?_); clear hS a; intro a hS)
  refine L_op (s_e hS (e_load rfl (by repeat constructor) ty_sc4 (by rfl)) rfl ?_); clear hS a; intro a hS
  first | (refine L_op (s_e hS (e_fa0 rfl ty_fo44_0) rfl ?_); clear hS a; intro a hS) | (refine L_op (s_e hS (e_faK rfl ty_fo44_0) rfl ?_); clear hS a; intro a hS)
  refine L_op (s_e hS (e_load rfl (by repeat constructor) ty_sc4 (by rfl)) rfl ?_); clear hS a; intro a hS
  refine L_op (s_e hS (e_binB rfl rfl ty_u4 rfl) rfl ?_); clear hS a; intro a hS
  refine L_nil ?_
  refine n_then ?_
  first | refine c_ifD hS rfl (fun hc9 => ?_) (fun hc9 => ?_) | refine c_if hS rfl (fun hc9 => ?_) (fun hc9 => ?_)
  ·
    have hsame : x < 0 ↔ y < 0 := by simpa using hc9
    refine c_seq ?_
    refine c_drawS [8] (by kernel_rfl) hS (sub_cons (X := .blk b2 _ _) (by repeat constructor) (sub_cons (X := .blk b3 _ _) (by repeat constructor) sub_nil)) ?_; clear hS; (try clear w); intro w hS
    simp only [List.length_cons, List.length_nil, Nat.zero_add, Nat.reduceAdd, List.replicate]
    first | (refine Z_take0 (i := 0) hS rfl want_none (e_fa0 rfl ty_fo44_0) (listed' := [true, false, false, false, false, false, false, false, false]) rfl (by kernel_rfl) (by kernel_rfl) (by kernel_rfl) (fun _ _ _ h => h) rfl ?_; clear hS a; intro a hS) | (refine Z_take0 (i := 0) hS rfl want_none (e_faK rfl ty_fo44_0) (listed' := [true, false, false, false, false, false, false, false, false]) rfl (by kernel_rfl) (by kernel_rfl) (by kernel_rfl) (fun _ _ _ h => h) rfl ?_; clear hS a; intro a hS)
    refine Z_take (i := 1) hS rfl want_none (e_load rfl (by repeat constructor) ty_sc4 (by rfl)) (listed' := [true, true, false, false, false, false, false, false, false]) rfl (by kernel_rfl) (by kernel_rfl) (by kernel_rfl) (by kernel_rfl) (by kernel_rfl) (sub_cons (by repeat constructor) (sub_cons (by repeat constructor) sub_nil)) (fun _ _ _ h => h) rfl ?_; clear hS a; intro a hS
    first | (refine Z_take0 (i := 2) hS rfl want_none (e_fa0 rfl ty_fo44_1) (listed' := [true, true, true, false, false, false, false, false, false]) rfl (by kernel_rfl) (by kernel_rfl) (by kernel_rfl) (fun _ _ _ h => h) rfl ?_; clear hS a; intro a hS) | (refine Z_take0 (i := 2) hS rfl want_none (e_faK rfl ty_fo44_1) (listed' := [true, true, true, false, false, false, false, false, false]) rfl (by kernel_rfl) (by kernel_rfl) (by kernel_rfl) (fun _ _ _ h => h) rfl ?_; clear hS a; intro a hS)
    refine Z_take (i := 3) hS rfl want_none (e_load rfl (by repeat constructor) ty_sc42 (by rfl)) (listed' := [true, true, true, true, false, false, false, false, false]) rfl (by kernel_rfl) (by kernel_rfl) (by kernel_rfl) (by kernel_rfl) (by kernel_rfl) (sub_cons (by repeat constructor) (sub_cons (by repeat constructor) sub_nil)) (fun _ _ _ h => h) rfl ?_; clear hS a; intro a hS
    first | (refine Z_take0 (i := 4) hS rfl want_none (e_fa0 rfl ty_fo44_1) (listed' := [true, true, true, true, true, false, false, false, false]) rfl (by kernel_rfl) (by kernel_rfl) (by kernel_rfl) (fun _ _ _ h => h) rfl ?_; clear hS a; intro a hS) | (refine Z_take0 (i := 4) hS rfl want_none (e_faK rfl ty_fo44_1) (listed' := [true, true, true, true, true, false, false, false, false]) rfl (by kernel_rfl) (by kernel_rfl) (by kernel_rfl) (fun _ _ _ h => h) rfl ?_; clear hS a; intro a hS)
    refine Z_take (i := 5) hS rfl want_none (e_load rfl (by repeat constructor) ty_sc42 (by rfl)) (listed' := [true, true, true, true, true, true, false, false, false]) rfl (by kernel_rfl) (by kernel_rfl) (by kernel_rfl) (by kernel_rfl) (by kernel_rfl) (sub_cons (by repeat constructor) (sub_cons (by repeat constructor) sub_nil)) (fun _ _ _ h => h) rfl ?_; clear hS a; intro a hS
    refine Z_one (i := 6) rfl (want_none a hS.sl) (listed' := [true, true, true, true, true, true, true, false, false]) rfl (by kernel_rfl) (s_callN hS (.cons rfl (.cons rfl .nil)) cf58 rfl (add_P p q c1 c2 (dgs x.natAbs) (dgs y.natAbs) (inR_dgs _) (inR_dgs _) N (by omega) hx hy _ (hS.ok _ (by repeat (first | exact .head _ | refine .tail _ ?_)))) ?_); clear hS a; (try clear w); intro x16 a w hS
    obtain ⟨⟨l, sv⟩, hin, hnv, hll⟩ := x16
    simp only at hin hnv hll
    obtain ⟨p5, c5, e5, h4, h5, h6, h7⟩ := own_digs (hS.get (X := digA (l, sv)) (by repeat (first | exact .head _ | refine .tail _ ?_)))
    have e5 : sv = sliceV p5 l.length c5 := e5
    subst e5
    have hT := trim_P (decide (x < 0)) p5 c5 h4 l hin h5 (by omega) w h6 h7
    rw [show sgn (decide (x < 0)) (nv l) = x + y by rw [nv_dgs, nv_dgs] at hnv; unfold sgn; by_cases hneg : x < 0 <;> simp [hneg] <;> omega] at hT
    refine Z_and hS (sub_cons (by repeat constructor) (sub_cons (by repeat constructor) sub_nil)) ?_
    refine Z_one (i := 7) rfl (want_none a hS.sl) (listed' := [true, true, true, true, true, true, true, true, false]) rfl (by kernel_rfl) (s_callN hS (.cons rfl (.cons rfl .nil)) cf57 rfl (hT) ?_); clear hS a; (try clear w); intro x17 a w hS
    refine Z_and hS (sub_cons (by repeat constructor) (sub_cons (by repeat constructor) sub_nil)) ?_
    refine Z_one (i := 8) rfl (want_none a hS.sl) (listed' := [true, true, true, true, true, true, true, true, true]) rfl (by kernel_rfl) (s_storeA hS rfl rfl ty_sz44 (by repeat constructor) (by rfl) (by rfl) (by rfl) ?_); clear hS; (try clear w); intro w hS
    refine Z_last (by simp) ?_
    refine Z_done (by kernel_rfl) ?_
    refine n_then ?_
    refine wp_ret ?_
    refine r_then ?_
    refine c_ret1 hS Try.results23 (.cellA rfl (by repeat constructor) ty_st44 ty_sz44 (by rfl)) ?_
    exact ⟨x17, rfl, hS.chg, hS.new (X := bigA (x + y) x17.1.1) (by repeat (first | exact .head _ | refine .tail _ ?_)) rfl⟩
  ·
    have hdiff : ¬ (x < 0 ↔ y < 0) := by simpa using hc9
    refine wp_skip ?_
    refine n_then ?_
    refine c_seq ?_
    refine c_seq ?_
    refine c_region ?_
    first | (refine L_op (s_e hS (e_fa0 rfl ty_fo44_1) rfl ?_); clear hS a; intro a hS) | (refine L_op (s_e hS (e_faK rfl ty_fo44_1) rfl ?_); clear hS a; intro a hS)
    refine L_op (s_e hS (e_load rfl (by repeat constructor) ty_sc42 (by rfl)) rfl ?_); clear hS a; intro a hS
    first | (refine L_op (s_e hS (e_fa0 rfl ty_fo44_1) rfl ?_); clear hS a; intro a hS) | (refine L_op (s_e hS (e_faK rfl ty_fo44_1) rfl ?_); clear hS a; intro a hS)
    refine L_op (s_e hS (e_load rfl (by repeat constructor) ty_sc42 (by rfl)) rfl ?_); clear hS a; intro a hS
    refine L_op (s_callP hS (.cons rfl (.cons rfl .nil)) cf59 rfl (cmp_P p q c1 c2 x.natAbs y.natAbs (by omega) _ (hS.ok _ (by repeat (first | exact .head _ | refine .tail _ ?_)))) ?_); clear hS a; (try clear w); intro a w hS
    refine L_op (s_e hS (e_bin rfl rfl rfl) rfl ?_); clear hS a; intro a hS
    refine L_nil ?_
    refine n_then ?_
    first | refine c_ifD hS rfl (fun hc23 => ?_) (fun hc23 => ?_) | refine c_if hS rfl (fun hc23 => ?_) (fun hc23 => ?_)
    ·
      have hge : y.natAbs ≤ x.natAbs := by
        unfold cmpN at hc23
        split at hc23
        · omega
        · omega
      have hlm := dgs_len_mono hge
      refine c_seq ?_
      refine c_drawS [8] (by kernel_rfl) hS (sub_cons (X := .blk b2 _ _) (by repeat constructor) (sub_cons (X := .blk b3 _ _) (by repeat constructor) sub_nil)) ?_; clear hS; (try clear w); intro w hS
      simp only [List.length_cons, List.length_nil, Nat.zero_add, Nat.reduceAdd, List.replicate]
      first | (refine Z_take0 (i := 0) hS rfl want_none (e_fa0 rfl ty_fo44_0) (listed' := [true, false, false, false, false, false, false, false, false]) rfl (by kernel_rfl) (by kernel_rfl) (by kernel_rfl) (fun _ _ _ h => h) rfl ?_; clear hS a; intro a hS) | (refine Z_take0 (i := 0) hS rfl want_none (e_faK rfl ty_fo44_0) (listed' := [true, false, false, false, false, false, false, false, false]) rfl (by kernel_rfl) (by kernel_rfl) (by kernel_rfl) (fun _ _ _ h => h) rfl ?_; clear hS a; intro a hS)
      refine Z_take (i := 1) hS rfl want_none (e_load rfl (by repeat constructor) ty_sc4 (by rfl)) (listed' := [true, true, false, false, false, false, false, false, false]) rfl (by kernel_rfl) (by kernel_rfl) (by kernel_rfl) (by kernel_rfl) (by kernel_rfl) (sub_cons (by repeat constructor) (sub_cons (by repeat constructor) sub_nil)) (fun _ _ _ h => h) rfl ?_; clear hS a; intro a hS
      first | (refine Z_take0 (i := 2) hS rfl want_none (e_fa0 rfl ty_fo44_1) (listed' := [true, true, true, false, false, false, false, false, false]) rfl (by kernel_rfl) (by kernel_rfl) (by kernel_rfl) (fun _ _ _ h => h) rfl ?_; clear hS a; intro a hS) | (refine Z_take0 (i := 2) hS rfl want_none (e_faK rfl ty_fo44_1) (listed' := [true, true, true, false, false, false, false, false, false]) rfl (by kernel_rfl) (by kernel_rfl) (by kernel_rfl) (fun _ _ _ h => h) rfl ?_; clear hS a; intro a hS)
      refine Z_take (i := 3) hS rfl want_none (e_load rfl (by repeat constructor) ty_sc42 (by rfl)) (listed' := [true, true, true, true, false, false, false, false, false]) rfl (by kernel_rfl) (by kernel_rfl) (by kernel_rfl) (by kernel_rfl) (by kernel_rfl) (sub_cons (by repeat constructor) (sub_cons (by repeat constructor) sub_nil)) (fun _ _ _ h => h) rfl ?_; clear hS a; intro a hS
      first | (refine Z_take0 (i := 4) hS rfl want_none (e_fa0 rfl ty_fo44_1) (listed' := [true, true, true, true, true, false, false, false, false]) rfl (by kernel_rfl) (by kernel_rfl) (by kernel_rfl) (fun _ _ _ h => h) rfl ?_; clear hS a; intro a hS) | (refine Z_take0 (i := 4) hS rfl want_none (e_faK rfl ty_fo44_1) (listed' := [true, true, true, true, true, false, false, false, false]) rfl (by kernel_rfl) (by kernel_rfl) (by kernel_rfl) (fun _ _ _ h => h) rfl ?_; clear hS a; intro a hS)
      refine Z_take (i := 5) hS rfl want_none (e_load rfl (by repeat constructor) ty_sc42 (by rfl)) (listed' := [true, true, true, true, true, true, false, false, false]) rfl (by kernel_rfl) (by kernel_rfl) (by kernel_rfl) (by kernel_rfl) (by kernel_rfl) (sub_cons (by repeat constructor) (sub_cons (by repeat constructor) sub_nil)) (fun _ _ _ h => h) rfl ?_; clear hS a; intro a hS
      refine Z_one (i := 6) rfl (want_none a hS.sl) (listed' := [true, true, true, true, true, true, true, false, false]) rfl (by kernel_rfl) (s_callN hS (.cons rfl (.cons rfl .nil)) cf60 rfl (sub_P p q c1 c2 (dgs x.natAbs) (dgs y.natAbs) (inR_dgs _) (inR_dgs _) (by omega) hlm (by rw [nv_dgs, nv_dgs]; omega) _ (hS.ok _ (by repeat (first | exact .head _ | refine .tail _ ?_)))) ?_); clear hS a; (try clear w); intro x30 a w hS
      obtain ⟨⟨l, sv⟩, hin, hnv, hll⟩ := x30
      simp only at hin hnv hll
      obtain ⟨p5, c5, e5, h4, h5, h6, h7⟩ := own_digs (hS.get (X := digA (l, sv)) (by repeat (first | exact .head _ | refine .tail _ ?_)))
      have e5 : sv = sliceV p5 l.length c5 := e5
      subst e5
      have hT := trim_P (decide (x < 0)) p5 c5 h4 l hin h5 (by omega) w h6 h7
      rw [show sgn (decide (x < 0)) (nv l) = x + y by rw [nv_dgs, nv_dgs] at hnv; unfold sgn; by_cases hneg : x < 0 <;> simp [hneg] <;> omega] at hT
      refine Z_and hS (sub_cons (by repeat constructor) (sub_cons (by repeat constructor) sub_nil)) ?_
      refine Z_one (i := 7) rfl (want_none a hS.sl) (listed' := [true, true, true, true, true, true, true, true, false]) rfl (by kernel_rfl) (s_callN hS (.cons rfl (.cons rfl .nil)) cf57 rfl (hT) ?_); clear hS a; (try clear w); intro x31 a w hS
      refine Z_and hS (sub_cons (by repeat constructor) (sub_cons (by repeat constructor) sub_nil)) ?_
      refine Z_one (i := 8) rfl (want_none a hS.sl) (listed' := [true, true, true, true, true, true, true, true, true]) rfl (by kernel_rfl) (s_storeA hS rfl rfl ty_sz44 (by repeat constructor) (by rfl) (by rfl) (by rfl) ?_); clear hS; (try clear w); intro w hS
      refine Z_last (by simp) ?_
      refine Z_done (by kernel_rfl) ?_
      refine n_then ?_
      refine wp_ret ?_
      refine r_then ?_
      refine c_ret1 hS Try.results23 (.cellA rfl (by repeat constructor) ty_st44 ty_sz44 (by rfl)) ?_
      exact ⟨x31, rfl, hS.chg, hS.new (X := bigA (x + y) x31.1.1) (by repeat (first | exact .head _ | refine .tail _ ?_)) rfl⟩
    ·
      have hge : x.natAbs ≤ y.natAbs := by
        unfold cmpN at hc23
        split at hc23
        · omega
        · split at hc23 <;> omega
      have hlm := dgs_len_mono hge
      refine wp_skip ?_
      refine n_then ?_
      refine c_seq ?_
      refine c_drawS [8] (by kernel_rfl) hS (sub_cons (X := .blk b2 _ _) (by repeat constructor) (sub_cons (X := .blk b3 _ _) (by repeat constructor) sub_nil)) ?_; clear hS; (try clear w); intro w hS
      simp only [List.length_cons, List.length_nil, Nat.zero_add, Nat.reduceAdd, List.replicate]
      first | (refine Z_take0 (i := 0) hS rfl want_none (e_fa0 rfl ty_fo44_0) (listed' := [true, false, false, false, false, false, false, false, false]) rfl (by kernel_rfl) (by kernel_rfl) (by kernel_rfl) (fun _ _ _ h => h) rfl ?_; clear hS a; intro a hS) | (refine Z_take0 (i := 0) hS rfl want_none (e_faK rfl ty_fo44_0) (listed' := [true, false, false, false, false, false, false, false, false]) rfl (by kernel_rfl) (by kernel_rfl) (by kernel_rfl) (fun _ _ _ h => h) rfl ?_; clear hS a; intro a hS)
      refine Z_take (i := 1) hS rfl want_none (e_load rfl (by repeat constructor) ty_sc4 (by rfl)) (listed' := [true, true, false, false, false, false, false, false, false]) rfl (by kernel_rfl) (by kernel_rfl) (by kernel_rfl) (by kernel_rfl) (by kernel_rfl) (sub_cons (by repeat constructor) (sub_cons (by repeat constructor) sub_nil)) (fun _ _ _ h => h) rfl ?_; clear hS a; intro a hS
      first | (refine Z_take0 (i := 2) hS rfl want_none (e_fa0 rfl ty_fo44_1) (listed' := [true, true, true, false, false, false, false, false, false]) rfl (by kernel_rfl) (by kernel_rfl) (by kernel_rfl) (fun _ _ _ h => h) rfl ?_; clear hS a; intro a hS) | (refine Z_take0 (i := 2) hS rfl want_none (e_faK rfl ty_fo44_1) (listed' := [true, true, true, false, false, false, false, false, false]) rfl (by kernel_rfl) (by kernel_rfl) (by kernel_rfl) (fun _ _ _ h => h) rfl ?_; clear hS a; intro a hS)
      refine Z_take (i := 3) hS rfl want_none (e_load rfl (by repeat constructor) ty_sc42 (by rfl)) (listed' := [true, true, true, true, false, false, false, false, false]) rfl (by kernel_rfl) (by kernel_rfl) (by kernel_rfl) (by kernel_rfl) (by kernel_rfl) (sub_cons (by repeat constructor) (sub_cons (by repeat constructor) sub_nil)) (fun _ _ _ h => h) rfl ?_; clear hS a; intro a hS
      first | (refine Z_take0 (i := 4) hS rfl want_none (e_fa0 rfl ty_fo44_1) (listed' := [true, true, true, true, true, false, false, false, false]) rfl (by kernel_rfl) (by kernel_rfl) (by kernel_rfl) (fun _ _ _ h => h) rfl ?_; clear hS a; intro a hS) | (refine Z_take0 (i := 4) hS rfl want_none (e_faK rfl ty_fo44_1) (listed' := [true, true, true, true, true, false, false, false, false]) rfl (by kernel_rfl) (by kernel_rfl) (by kernel_rfl) (fun _ _ _ h => h) rfl ?_; clear hS a; intro a hS)
      refine Z_take (i := 5) hS rfl want_none (e_load rfl (by repeat constructor) ty_sc42 (by rfl)) (listed' := [true, true, true, true, true, true, false, false, false]) rfl (by kernel_rfl) (by kernel_rfl) (by kernel_rfl) (by kernel_rfl) (by kernel_rfl) (sub_cons (by repeat constructor) (sub_cons (by repeat constructor) sub_nil)) (fun _ _ _ h => h) rfl ?_; clear hS a; intro a hS
      refine Z_one (i := 6) rfl (want_none a hS.sl) (listed' := [true, true, true, true, true, true, true, false, false]) rfl (by kernel_rfl) (s_callN hS (.cons rfl (.cons rfl .nil)) cf60 rfl (sub_P q p c2 c1 (dgs y.natAbs) (dgs x.natAbs) (inR_dgs _) (inR_dgs _) (by omega) hlm (by rw [nv_dgs, nv_dgs]; omega) _ (two_swap (hS.ok (twoA p q _ _) (by repeat (first | exact .head _ | refine .tail _ ?_))))) ?_); clear hS a; (try clear w); intro x38 a w hS
      obtain ⟨⟨l, sv⟩, hin, hnv, hll⟩ := x38
      simp only at hin hnv hll
      obtain ⟨p5, c5, e5, h4, h5, h6, h7⟩ := own_digs (hS.get (X := digA (l, sv)) (by repeat (first | exact .head _ | refine .tail _ ?_)))
      have e5 : sv = sliceV p5 l.length c5 := e5
      subst e5
      have hT := trim_P (decide (y < 0)) p5 c5 h4 l hin h5 (by omega) w h6 h7
      rw [show sgn (decide (y < 0)) (nv l) = x + y by rw [nv_dgs, nv_dgs] at hnv; unfold sgn; by_cases hneg : y < 0 <;> simp [hneg] <;> omega] at hT
      refine Z_and hS (sub_cons (by repeat constructor) (sub_cons (by repeat constructor) sub_nil)) ?_
      refine Z_one (i := 7) rfl (want_none a hS.sl) (listed' := [true, true, true, true, true, true, true, true, false]) rfl (by kernel_rfl) (s_callN hS (.cons rfl (.cons rfl .nil)) cf57 rfl (hT) ?_); clear hS a; (try clear w); intro x39 a w hS
      refine Z_and hS (sub_cons (by repeat constructor) (sub_cons (by repeat constructor) sub_nil)) ?_
      refine Z_one (i := 8) rfl (want_none a hS.sl) (listed' := [true, true, true, true, true, true, true, true, true]) rfl (by kernel_rfl) (s_storeA hS rfl rfl ty_sz44 (by repeat constructor) (by rfl) (by rfl) (by rfl) ?_); clear hS; (try clear w); intro w hS
      refine Z_last (by simp) ?_
      refine Z_done (by kernel_rfl) ?_
      refine n_then ?_
      refine wp_ret ?_
      refine c_ret1 hS Try.results23 (.cellA rfl (by repeat constructor) ty_st44 ty_sz44 (by rfl)) ?_
      exact ⟨x39, rfl, hS.chg, hS.new (X := bigA (x + y) x39.1.1) (by repeat (first | exact .head _ | refine .tail _ ?_)) rfl⟩
/-- one slice of digits that came in. -/
def oneA (p : Option (Nat × Nat)) (xs : List Int) : Asn := rowP p 1 (xs.map encD)
section
variable {n : Nat} {F0 : Nat → Prop} {w0 w : World} {a : Act} {L : List (Nat × Value)} {Γ : List Asn}
theorem two_bb (hS : St n F0 w0 a w L Γ) {x y : Int} {b c : Nat} (h1 : bigA x b ∈ Γ) (h2 : bigA y c ∈ Γ) : (twoA (some (b, 0)) (some (c, 0)) (dgs x.natAbs) (dgs y.natAbs)).ok w :=
  two_ok (hS.get h1) (hS.get h2) (fun r e => by cases e; exact (hS.ok _ h1).lt b rfl) (fun r e => by cases e; exact (hS.ok _ h2).lt c rfl)
theorem two_ob (hS : St n F0 w0 a w L Γ) {xs : List Int} {y : Int} {p : Option (Nat × Nat)} {c : Nat} (h1 : oneA p xs ∈ Γ) (h2 : bigA y c ∈ Γ) : (twoA p (some (c, 0)) xs (dgs y.natAbs)).ok w :=
  two_ok (hS.get h1) (hS.get h2) (fun r e => (hS.ok _ h1).lt r.1 ⟨r.2, e⟩) (fun r e => by cases e; exact (hS.ok _ h2).lt c rfl)
theorem two_bo (hS : St n F0 w0 a w L Γ) {xs : List Int} {y : Int} {p : Option (Nat × Nat)} {c : Nat} (h1 : bigA y c ∈ Γ) (h2 : oneA p xs ∈ Γ) : (twoA (some (c, 0)) p (dgs y.natAbs) xs).ok w :=
  two_ok (hS.get h1) (hS.get h2) (fun r e => by cases e; exact (hS.ok _ h1).lt c rfl) (fun r e => (hS.ok _ h2).lt r.1 ⟨r.2, e⟩)
theorem row_b (hS : St n F0 w0 a w L Γ) {x : Int} {b : Nat} (h1 : bigA x b ∈ Γ) : RowP (some (b, 0)) 1 ((dgs x.natAbs).map encD) w ∧ ∀ r, some (b, 0) = some r → r.1 < w.heap.size :=
  ⟨hS.get h1, fun r e => by cases e; exact (hS.ok _ h1).lt b rfl⟩
end

theorem len20 {z : Int} (h : z.natAbs < 100000000000000000000000000000000000000000000000000000000000000000000000000000000) : (dgs z.natAbs).length ≤ 20 := dgs_length_le (Nat.lt_of_lt_of_le h (by decide))
end Go.Proofs.Ytheofhegdjjfgaa

namespace Go.Proofs.Ytheofhegdjjfgaa
open Go.RowKit

/-- the digits of a number, the walk's own or none. -/
def dgP (z : Int) (p : Option (Nat × Nat)) : Asn := .any (fun k => ∃ off, p = some (k, off)) (RowP p 1 ((dgs z.natAbs).map encD)) true
theorem dgP_of {w : World} {z : Int} {b : Nat} (h : (bigA z b).ok w) : (dgP z (some (b, 0))).ok w :=
  ⟨fun k hk => by obtain ⟨off, e⟩ := hk; cases e; exact h.lt _ rfl, fun w' hw => h.hold w' (fun k hk => by obtain rfl : k = b := hk; exact hw _ ⟨0, rfl⟩)⟩
theorem dgP0 {w : World} : (dgP 0 none).ok w := ⟨fun k hk => (by obtain ⟨off, e⟩ := hk; cases e), fun w' _ => (by show _ = []; rw [show (0 : Int).natAbs = 0 from rfl, dgs_zero]; rfl)⟩
theorem dg_len0 : (dgs (0 : Int).natAbs).length = 0 := by rw [show (0 : Int).natAbs = 0 from rfl, dgs_zero]; rfl

theorem own_getT {Γ : List Asn} {g c m : Nat} {xs : List BL} (hm : ownA 60 3 (.slice (some ⟨g, 0, none⟩) m c) m (xs.flatMap encBl) ∈ Γ) {i : Nat} {x : BL} (hx : xs[i]? = some x) : ∀ w, Hd Γ w → ∀ j v, (encBl x)[j]? = some v → w.cell? ⟨g, 0 + i * 3 + j, none⟩ = some v := own_getL (enc := encBl) (s := 3) (fun _ => rfl) hm hx
end Go.Proofs.Ytheofhegdjjfgaa

namespace Go.Proofs.Ytheofhegdjjfgaa
open Go.RowKit

theorem ents_get {Γ : List Asn} {g m c : Nat} {L : List EA} (hm : entsA (.slice (some ⟨g, 0, none⟩) m c) L ∈ Γ) {i : Nat} {x : EA} (hx : L[i]? = some x) : ∀ w, Hd Γ w → ∀ j v, (encE x)[j]? = some v → w.cell? ⟨g, 0 + i * 4 + j, none⟩ = some v := by
  intro w hh j v hj
  have h := entsφ.row (hh _ hm)
  have h1 := flat_get encE 4 (fun _ => rfl) L i x hx j v hj
  have h2 := World.ownsRow.cells h (g := g) rfl _ _ h1
  rw [addr_add] at h2
  rw [← h2]; congr 2; omega
theorem ents_ps {Γ : List Asn} {v : Value} {L : List EA} (hm : entsA v L ∈ Γ) {x : EA} (hx : x ∈ L) {j : Nat} {p : Pst} (hp : x.v.ps[j]? = some p) : ∀ w, Hd Γ w → ∀ k v, (encP p)[k]? = some v → w.cell? ⟨x.b, 0 + j * 3 + k, none⟩ = some v := by
  intro w hh k v hk
  have h := entsφ.ps (hh _ hm) x hx
  have h1 := flat_get encP 3 (fun _ => rfl) x.v.ps j p hp k v hk
  have h2 := World.ownsRow.cells h (g := x.b) rfl _ _ h1
  rw [addr_add] at h2
  rw [← h2]; congr 2; omega
theorem row_read {w : World} {E s m c : Nat} {q : Option Addr} {xs : List Value} (h : w.ownsRow 0 E s (.slice q m c) m xs) (hl : xs.length = m * s) : (m = 0 ∧ xs = []) ∨ ∃ bx ox, q = some ⟨bx, ox, none⟩ ∧ ∀ j u, xs[j]? = some u → w.cell? ⟨bx, ox + j, none⟩ = some u := by
  rcases h.2 with ⟨_, e2⟩ | ⟨g, cap, cur, e, _⟩
  · left; subst e2; exact ⟨rfl, by simpa using hl⟩
  · right
    injection e with e1
    subst e1
    refine ⟨g, 0, rfl, fun j u hu => ?_⟩
    have h2 := World.ownsRow.cells h (g := g) rfl j u hu
    rw [addr_add] at h2
    rw [← h2]
theorem balD_snoc (c : ByteArray) (L : List Pst) (p : Pst) : balD c (L ++ [p]) = ((balD c L).1 + (if p.acc = c then p.u else 0), (balD c L).2 + (if p.acc = c then p.f else 0)) := by
  rw [balD_append]
  have e : balD c [p] = ((if p.acc = c then p.u else 0), (if p.acc = c then p.f else 0)) := by
    show balStep c (0, 0) p = _
    unfold balStep addS
    split <;> simp
  rw [e]
theorem flat_le : ∀ (l : List Ent), (∀ x ∈ l, x.ps.length ≤ 50) → (l.flatMap (·.ps)).length ≤ l.length * 50
  | [], _ => by simp
  | a :: r, h => by
    have h1 := flat_le r (fun x hx => h x (.tail _ hx))
    have h2 := h a (.head _)
    rw [List.flatMap_cons, List.length_append, List.length_cons]; omega
theorem bal_okS {P : PL} {c : ByteArray} {t : Int} (h : (balF P c t).2 = 0) : inU (balD c (postsAt P.es t)).1 ∧ inU (balD c (postsAt P.es t)).2 := by
  unfold balF at h
  split at h
  · cases h
  · split at h
    · cases h
    · split at h
      · rename_i h3; exact h3
      · cases h
/-- what the first entries, and the first postings of the next, say. -/
def pre (V : List Ent) (j : Nat) (r : List Pst) (k : Nat) : List Pst := (V.take j).flatMap (·.ps) ++ r.take k
theorem pre_zero (V : List Ent) (j : Nat) (r : List Pst) : pre V j r 0 = pre V j [] 0 := by unfold pre; simp
theorem pre_step {V : List Ent} {j k : Nat} {r : List Pst} {p : Pst} (hp : r[k]? = some p) : pre V j r (k + 1) = pre V j r k ++ [p] := by
  unfold pre; rw [List.take_add_one, hp, List.append_assoc]; rfl
theorem pre_next {V : List Ent} {j : Nat} {x : Ent} (hx : V[j]? = some x) : pre V (j + 1) [] 0 = pre V j x.ps x.ps.length := by
  unfold pre; rw [List.take_add_one, hx]; simp
theorem pre_bd {V : List Ent} (hV : ∀ x ∈ V, x.ps.length ≤ 50) (hf : ∀ x ∈ V, ∀ p ∈ x.ps, p.fits) (hl : V.length ≤ 1000) (c : ByteArray) (j : Nat) {r : List Pst} (hr : r.length ≤ 50) (hrf : ∀ p ∈ r, p.fits) (k : Nat) :
    (-1000000000000000000000000 ≤ (balD c (pre V j r k)).1 ∧ (balD c (pre V j r k)).1 ≤ 1000000000000000000000000) ∧ (-1000000000000000000000000 ≤ (balD c (pre V j r k)).2 ∧ (balD c (pre V j r k)).2 ≤ 1000000000000000000000000) := by
  have h1 := flat_le (V.take j) (fun x hx => hV x (List.mem_of_mem_take hx))
  have h2 : (V.take j).length ≤ 1000 := by rw [List.length_take]; omega
  have h3 : (pre V j r k).length ≤ 60000 := by unfold pre; rw [List.length_append, List.length_take]; omega
  have hfit : ∀ p ∈ pre V j r k, p.fits := fun p hp => by
    unfold pre at hp
    rcases List.mem_append.1 hp with hp | hp
    · obtain ⟨x, hx, hpx⟩ := List.mem_flatMap.1 hp
      exact hf x (List.mem_of_mem_take hx) p hpx
    · exact hrf p (List.mem_of_mem_take hp)
  have h4 := bal_fold (code := c) (pre V j r k) (0, 0) 0 hfit bdS_zero
  obtain ⟨h5, h6⟩ := h4
  unfold balD
  rw [Nat.zero_add] at h5 h6
  omega
end Go.Proofs.Ytheofhegdjjfgaa

namespace Go.Proofs.Ytheofhegdjjfgaa
open Go.RowKit

/-- two lists of operations. -/
def twoL (p : Option (Nat × Nat)) (l : List LO) (q : Option (Nat × Nat)) (m : List LO) : Asn := .any (fun k => losF p l k ∨ losF q m k) (fun w => losφ p l w ∧ losφ q m w) false
theorem twoL_ok {p q : Option (Nat × Nat)} {l m : List LO} {w : World} (h : losφ p l w) (hb : ∀ r, p = some r → r.1 < w.heap.size) (h2 : losφ q m w) (hq : ∀ r, q = some r → r.1 < w.heap.size) : (twoL p l q m).ok w := by
  have h1 := los_ok h hb
  have h3 := los_ok h2 hq
  exact ⟨fun k hk => hk.elim (h1.lt k) (h3.lt k), fun w' hw => ⟨h1.hold w' (fun k hk => hw k (.inl hk)), h3.hold w' (fun k hk => hw k (.inr hk))⟩⟩
theorem twoL_get {Γ : List Asn} {p : Option (Nat × Nat)} {b off : Nat} {l m : List LO} (hm : twoL p l (some (b, off)) m ∈ Γ) {i : Nat} {x : LO} (hx : m[i]? = some x) : ∀ w, Hd Γ w → ∀ j v, (encLO x)[j]? = some v → w.cell? ⟨b, off + i * 8 + j, none⟩ = some v :=
  fun _ hh j v hj => (hh _ hm).2.1 i (encLO x) (by simp [hx]) j v hj
theorem made_app (l m : List LO) : madeP (l ++ m) = m.foldl stepP (madeP l) := by unfold madeP; rw [List.foldl_append]
theorem made_snoc {l m : List LO} {i : Nat} {o : LO} (ho : m[i]? = some o) : madeP (l ++ m.take (i + 1)) = stepP (madeP (l ++ m.take i)) o := by
  rw [made_app, made_app, List.take_add_one, ho, List.foldl_append]; rfl

set_option maxHeartbeats 2000000 in
set_option maxRecDepth 100000 in
theorem LedgerStays_P (p : Option (Nat × Nat)) (c : Nat) (l : List LO) (hlen : l.length ≤ 4611686018427387904) (hfit : ∀ x ∈ l, x.fits) (q : Option (Nat × Nat)) (cq : Nat) (m : List LO) (hlem : m.length ≤ 4611686018427387904) (hfim : ∀ x ∈ m, x.fits)
     (w0 : World) (h : losφ p l w0) (hb : ∀ r, p = some r → r.1 < w0.heap.size) (h2 : losφ q m w0) (hq : ∀ r, q = some r → r.1 < w0.heap.size) :
     PureC Try.prog 11 [sliceV p l.length c, sliceV q m.length cq] w0 (.bool true) := by
   refine c_enter [(0, sliceV p l.length c), (1, sliceV q m.length cq)] [twoL p l q m] noB Try.func11 rfl Try.ntmps11 ⟨rfl, rfl, trivial⟩ rfl (okC (twoL_ok h hb h2 hq) okN) dis1 (mineC (by rfl) mineN) ?_
   intro a hS
   refine c_seq ?_
   refine c_region ?_
   refine L_op (s_e hS (e_assign rfl) rfl ?_); clear hS a; intro a hS
   refine L_nil ?_
   refine n_then ?_
   refine c_seq ?_
   refine c_region ?_
   refine L_op (s_callP hS .nil cf25 rfl (lfirst_P _) ?_); clear hS a; (try clear w); intro a w hS
   refine L_op (s_e hS (e_assign rfl) rfl ?_); clear hS a; intro a hS
   refine L_nil ?_
   refine n_then ?_
   refine c_seq ?_
   refine c_region ?_
   refine L_op (s_e hS (e_move rfl) rfl ?_); clear hS a; intro a hS
   refine L_op (s_callP hS (.cons rfl .nil) cf26 rfl (lFew_P p c l hlen hfit _ (hS.get (X := twoL p l q m) (by repeat constructor)).1 (fun r hr => (hS.ok (twoL p l q m) (by repeat constructor)).lt r.1 (.inl (.inl ⟨r.2, hr⟩)))) ?_); clear hS a; (try clear w); intro a w hS
   refine L_op (s_e hS (e_move rfl) rfl ?_); clear hS a; intro a hS
   refine L_merge 3 30 (.bool (decide (fewLs l ∧ fewLs m))) hS ?_ ?_
   · intro hcM30
     (first | refine g_splitD (t := 27) hS rfl ?_ ?_ | refine g_split (t := 27) hS rfl ?_ ?_) <;> (clear hS; intro hg27 hS)
     ·
       refine L_go hS rfl rfl (s_e hS (e_move rfl) rfl ?_); clear hS a; intro a hS
       refine L_go hS rfl rfl (s_callP hS (.cons rfl .nil) cf26 rfl (lFew_P q cq m hlem hfim _ (hS.get (X := twoL p l q m) (by repeat constructor)).2 (fun r hr => (hS.ok (twoL p l q m) (by repeat constructor)).lt r.1 (.inr (.inl ⟨r.2, hr⟩)))) ?_); clear hS a; (try clear w); intro a w hS
       first | (refine L_op (s_e hS (e_pick_t rfl rfl) rfl ?_); clear hS a; intro a hS) | (refine L_op (s_e hS (e_pick_f rfl rfl) rfl ?_); clear hS a; intro a hS)
       exact hcM30 _ _ (hS.ends 4 30 27 rfl (congrArg Value.bool (by exact (decide_eq_decide (p := fewLs m) (q := fewLs l ∧ fewLs m)).2 ⟨fun e => ⟨hg27, e⟩, fun e => e.2⟩)) rfl rfl (by first | exact congrArg Value.bool (decide_eq_true hg27).symm | exact congrArg Value.bool hg27.symm | simp [hg27]) rfl)
     ·
       refine L_skip_t hS rfl rfl rfl ?_; clear hS a; intro a hS
       refine L_skip_t hS rfl rfl rfl ?_; clear hS a; intro a hS
       first | (refine L_op (s_e hS (e_pick_t rfl rfl) rfl ?_); clear hS a; intro a hS) | (refine L_op (s_e hS (e_pick_f rfl rfl) rfl ?_); clear hS a; intro a hS)
       exact hcM30 _ _ (hS.ends 4 30 27 rfl (congrArg Value.bool (by exact (decide_eq_false (fun e => hg27 e.1)).symm)) rfl rfl (by first | exact congrArg Value.bool (decide_eq_false hg27).symm | exact congrArg Value.bool hg27.symm | simp [hg27]) rfl)
   · clear hS a; (try clear w); intro a w hS
     simp only [List.drop_succ_cons, List.drop_zero]
     refine L_op (s_e hS (e_assign rfl) rfl ?_); clear hS a; intro a hS
     refine L_nil ?_
     refine n_then ?_
     refine c_seq ?_
     refine c_seq ?_
     refine c_region ?_
     refine L_op (s_e hS (e_move rfl) rfl ?_); clear hS a; intro a hS
     refine L_op (s_e hS (e_not rfl) rfl ?_); clear hS a; intro a hS
     refine L_op (s_e hS (e_move rfl) rfl ?_); clear hS a; intro a hS
     replace hS := hS.is (t := 33) (c := false) rfl (rfl)
     refine L_go hS rfl rfl (s_e hS (e_move rfl) rfl ?_); clear hS a; intro a hS
     refine L_go hS rfl rfl (s_e hS (e_not rfl) rfl ?_); clear hS a; intro a hS
     first | (refine L_op (s_e hS (e_pick_t rfl rfl) rfl ?_); clear hS a; intro a hS) | (refine L_op (s_e hS (e_pick_f rfl rfl) rfl ?_); clear hS a; intro a hS)
     refine L_nil ?_
     refine n_then ?_
     first | refine c_ifD hS rfl (fun hc36 => ?_) (fun hc36 => ?_) | refine c_if hS rfl (fun hc36 => ?_) (fun hc36 => ?_)
     ·
       refine c_seq ?_
       refine c_region ?_
       refine L_op (s_e hS (e_move rfl) rfl ?_); clear hS a; intro a hS
       refine L_op (s_e hS (e_assign rfl) rfl ?_); clear hS a; intro a hS
       refine L_nil ?_
       refine n_then ?_
       refine wp_ret ?_
       refine r_then ?_
       refine c_ret1 hS Try.results11 (.tmp rfl) ?_
       exact ⟨rfl, hS.chg⟩
     ·
       have hsm : fewLs l ∧ fewLs m := by simpa using hc36
       have hll := hsm.1.1
       have hlm := hsm.2.1
       refine wp_skip ?_
       refine n_then ?_
       refine c_seq ?_
       refine c_region ?_
       refine L_op (s_e hS (e_move rfl) rfl ?_); clear hS a; intro a hS
       refine L_op (s_callN hS (.cons rfl .nil) cf27 rfl (lMade_P p c l hll hfit _ (hS.get (X := twoL p l q m) (by repeat constructor)).1 (fun r hr => (hS.ok (twoL p l q m) (by repeat constructor)).lt r.1 (.inl (.inl ⟨r.2, hr⟩)))) ?_); clear hS a; (try clear w); intro x39 a w hS
       obtain ⟨⟨B, s⟩, hpl0⟩ := x39
       simp only at hS hpl0
       have hwf := wf_made hfit l.length (Nat.le_refl _)
       rw [List.take_length, ← hpl0] at hwf
       have hes : s.es.length ≤ 60 := by have h1 := hwf.le; simp [pl] at h1; omega
       have hal : s.acs.length ≤ 100 := by have h1 := hwf.la; simp [pl] at h1; omega
       have hid : idN (pl s) := by rw [hpl0]; exact idN_made l
       have hco : clOk (pl s) := by rw [hpl0]; exact clOk_made l
       have hps : ∀ x ∈ s.es, x.v.ps.length ≤ 50 := fun x hx => hwf.ps x.v (List.mem_map.2 ⟨x, hx, rfl⟩)
       have hfa : ∀ o ∈ l ++ m, o.fits := fun o ho => (List.mem_append.1 ho).elim (hfit o) (hfim o)
       have htl : (trialF (pl s) (if 0 > s.closed then 0 else s.closed)).length = (accsL s.acs).length := by unfold trialF; rw [List.length_map]; rfl
       have haL := accs_len s.acs
       refine L_op (s_e hS (e_assign rfl) rfl ?_); clear hS a; intro a hS
       refine L_nil ?_
       refine n_then ?_
       refine c_seq ?_
       refine c_seq ?_
       refine c_region ?_
       refine L_op (s_e hS (e_move rfl) rfl ?_); clear hS a; intro a hS
       refine L_op (s_e hS (e_nil rfl ty_u52) rfl ?_); clear hS a; intro a hS
       refine L_nil ?_
       refine n_then ?_
       replace hS := hS.is (t := 41) (c := false) rfl (rfl)
       refine c_if_f hS rfl ?_
       refine wp_skip ?_
       refine n_then ?_
       refine c_seq ?_
       refine c_region ?_
       refine L_op (s_e hS (e_move rfl) rfl ?_); clear hS a; intro a hS
       refine L_op (s_callP hS (.cons rfl .nil) cf43 rfl (lClosed_P B s _ (hS.get (X := ledA B s true) (by repeat constructor))) ?_); clear hS a; (try clear w); intro a w hS
       refine L_op (s_e hS (e_assign rfl) rfl ?_); clear hS a; intro a hS
       refine L_nil ?_
       refine n_then ?_
       refine c_seq ?_
       refine c_region ?_
       refine L_op (s_e hS (e_move rfl) rfl ?_); clear hS a; intro a hS
       refine L_op (s_e hS (e_move rfl) rfl ?_); clear hS a; intro a hS
       refine L_op (s_e hS (e_max rfl rfl) rfl ?_); clear hS a; intro a hS
       refine L_op (s_callN hS (.cons rfl (.cons rfl .nil)) cf35 rfl (lTrial_P B s (if 0 > s.closed then 0 else s.closed) (by omega) (hwf.fitL (by omega)) _ (hS.get (X := ledA B s true) (by repeat constructor))) ?_); clear hS a; (try clear w); intro x47 a w hS
       obtain ⟨q9, c9, rfl⟩ := own_slice (hS.get (X := ownA 60 3 x47 (trialF (pl s) (if 0 > s.closed then 0 else s.closed)).length ((trialF (pl s) (if 0 > s.closed then 0 else s.closed)).flatMap encBl)) (by repeat constructor))
       generalize hT : (if 0 > s.closed then 0 else s.closed) = T at hS htl
       rw [htl] at hS
       refine L_op (s_e hS (e_assign rfl) rfl ?_); clear hS a; intro a hS
       refine L_nil ?_
       refine n_then ?_
       refine c_seq ?_
       refine c_region ?_
       refine L_op (s_e hS (e_move rfl) rfl ?_); clear hS a; intro a hS
       refine L_op (s_callN hS (.cons rfl (.cons rfl (.cons rfl .nil))) cf28 rfl (lEntries_P B s 0 1099511627777 hid.ids (by omega) hps _ (hS.get (X := ledA B s true) (by repeat constructor))) ?_); clear hS a; (try clear w); intro x49 a w hS
       obtain ⟨⟨v10, L⟩, hE⟩ := x49
       simp only at hS hE
       obtain ⟨q10, c10, rfl⟩ := own_slice (hS.get (X := entsA v10 L) (by repeat constructor)).row
       have hLl : L.length ≤ 60 := by have h1 := hE.len; rw [List.length_map] at h1; simp [pl] at h1; omega
       refine L_op (s_e hS (e_assign rfl) rfl ?_); clear hS a; intro a hS
       refine L_nil ?_
       refine n_then ?_
       refine c_seq ?_
       refine c_seq ?_
       refine c_region ?_
       refine L_op (s_e hS (e_assign rfl) rfl ?_); clear hS a; intro a hS
       refine L_nil ?_
       refine n_then ?_
       refine wp_block ?_
       skip
       refine c_loop (γ := Nat × LS) (fun G a w => St 222 noB w0 a w [(11, .int .i64 (G.1 : Int)), (10, .slice q10 L.length c10), (9, .slice q9 (accsL s.acs).length c9), (8, .int .i64 s.closed), (7, .pointer (some ⟨B.lb, 0, none⟩)), (1, sliceV q m.length cq)] [ledA B G.2 true, entsA (.slice q10 L.length c10) L, ownA 60 3 (.slice q9 (accsL s.acs).length c9) (accsL s.acs).length ((trialF (pl s) T).flatMap encBl), twoL p l q m] ∧ G.1 ≤ m.length ∧ pl G.2 = madeP (l ++ m.take G.1) ∧ later (pl s) (pl G.2)) (fun G => m.length - G.1) (0, s) ⟨(hS.slots (by repeat (first | exact trivial | refine ⟨rfl, ?_⟩))).pick (by repeat (first | exact Pick.nil | (refine Pick.cons (by repeat (first | exact Rem.head | apply Rem.tail)) ?_))), Nat.zero_le _, by simp only; rw [List.take_zero, List.append_nil]; exact hpl0, later_refl _⟩ ?_
       clear hS a; (try clear w); intro G a w hI
       obtain ⟨i, s1⟩ := G
       obtain ⟨hS, hi, hpl1, hlat⟩ := hI
       simp only at hS hi hpl1 hlat
       have hw1 := wf_made hfa (l.length + i) (by rw [List.length_append]; omega)
       rw [List.take_length_add_append, ← hpl1] at hw1
       have hes1 : s1.es.length ≤ 120 := by have h1 := hw1.le; simp [pl] at h1; omega
       have hal1 : s1.acs.length ≤ 200 := by have h1 := hw1.la; simp [pl] at h1; omega
       refine c_seq ?_
       refine c_seq ?_
       refine c_region ?_
       refine L_op (s_e hS (e_move rfl) rfl ?_); clear hS a; intro a hS
       refine L_op (s_e hS (e_move rfl) rfl ?_); clear hS a; intro a hS
       refine L_op (s_e hS (e_len rfl rfl ty_sl50) rfl ?_); clear hS a; intro a hS
       refine L_op (s_e hS (e_bin rfl rfl rfl) rfl ?_); clear hS a; intro a hS
       refine L_nil ?_
       refine n_then ?_
       first | refine c_ifD hS rfl (fun hc53 => ?_) (fun hc53 => ?_) | refine c_if hS rfl (fun hc53 => ?_) (fun hc53 => ?_)
       ·
         have him : i < m.length := by omega
         obtain ⟨o, ho⟩ : ∃ o, m[i]? = some o := ⟨m[i], List.getElem?_eq_getElem him⟩
         have hom := List.mem_of_getElem? ho
         have hof := hfim o hom
         obtain ⟨b, off, rfl⟩ := los_pos (hS.get (X := twoL p l q m) (by repeat constructor)).2 ho
         have hmt := made_snoc (l := l) ho
         rw [← hpl1] at hmt
         refine wp_skip ?_
         refine n_then ?_
         refine c_seq ?_
         refine wp_block ?_
         refine c_seq ?_
         refine c_region ?_
         refine L_op (s_e hS (e_move rfl) rfl ?_); clear hS a; intro a hS
         refine L_op (s_callP hS (.cons rfl .nil) cf34 rfl (lLen_P B s1 _ (hS.get (X := ledA B s1 true) (by repeat constructor))) ?_); clear hS a; (try clear w); intro a w hS
         refine L_op (s_e hS (e_assign rfl) rfl ?_); clear hS a; intro a hS
         refine L_nil ?_
         refine n_then ?_
         refine c_seq ?_
         refine c_region ?_
         refine L_op (s_e hS (e_move rfl) rfl ?_); clear hS a; intro a hS
         refine L_op (s_callN hS (.cons rfl .nil) cf30 rfl (lAccs_P B s1 (by omega) _ (hS.get (X := ledA B s1 true) (by repeat constructor))) ?_); clear hS a; (try clear w); intro x59 a w hS
         obtain ⟨q59, c59, rfl⟩ := own_slice (hS.get (X := ownA 68 4 x59 (accsL s1.acs).length ((accsL s1.acs).flatMap encAc)) (by repeat constructor))
         rw [accs_len s1.acs] at hS
         replace hS := hS.drop (Γ' := [ledA B s1 true, entsA (.slice q10 L.length c10) L, ownA 60 3 (.slice q9 (accsL s.acs).length c9) (accsL s.acs).length ((trialF (pl s) T).flatMap encBl), twoL p l (some (b, off)) m]) (.cons _ (.refl _))
         refine L_op (s_e hS (e_len rfl rfl ty_sl65) rfl ?_); clear hS a; intro a hS
         refine L_op (s_e hS (e_assign rfl) rfl ?_); clear hS a; intro a hS
         refine L_nil ?_
         refine n_then ?_
         refine c_seq ?_
         refine c_region ?_
         refine L_op (s_e hS (e_move rfl) rfl ?_); clear hS a; intro a hS
         refine L_op (s_callP hS (.cons rfl .nil) cf43 rfl (lClosed_P B s1 _ (hS.get (X := ledA B s1 true) (by repeat constructor))) ?_); clear hS a; (try clear w); intro a w hS
         refine L_op (s_e hS (e_assign rfl) rfl ?_); clear hS a; intro a hS
         refine L_nil ?_
         refine n_then ?_
         refine c_seq ?_
         refine c_region ?_
         refine L_op (s_e hS (e_assign rfl) rfl ?_); clear hS a; intro a hS
         refine L_nil ?_
         refine n_then ?_
         refine c_cut (fun a w => ∃ (s2 : LS) (bad : Bool), St 222 noB w0 a w [(15, .bool bad), (14, .int .i64 s1.closed), (13, .int .i64 (s1.acs.length : Int)), (12, .int .i64 (s1.es.length : Int)), (11, .int .i64 (i : Int)), (10, .slice q10 L.length c10), (9, .slice q9 (accsL s.acs).length c9), (8, .int .i64 s.closed), (7, .pointer (some ⟨B.lb, 0, none⟩)), (1, sliceV (some (b, off)) m.length cq)] [ledA B s2 true, entsA (.slice q10 L.length c10) L, ownA 60 3 (.slice q9 (accsL s.acs).length c9) (accsL s.acs).length ((trialF (pl s) T).flatMap encBl), twoL p l (some (b, off)) m] ∧ pl s2 = stepP (pl s1) o ∧ (bad = true → pl s2 = pl s1)) ?_ ?_
         ·
           refine c_seq ?_
           refine c_region ?_
           refine L_op (s_e hS (e_move rfl) rfl ?_); clear hS a; intro a hS
           refine L_op (s_e hS (e_move rfl) rfl ?_); clear hS a; intro a hS
           refine L_op (s_e hS (e_ixN rfl rfl ty_sl50 ty_sz72 (by omega)) rfl ?_); clear hS a; intro a hS
           first | (refine L_op (s_e hS (e_fa0 rfl ty_fo72_0) rfl ?_); clear hS a; intro a hS) | (refine L_op (s_e hS (e_faK rfl ty_fo72_0) rfl ?_); clear hS a; intro a hS)
           refine L_op (s_e hS (e_loadC rfl ty_sc3 (fun w hh => twoL_get (by repeat constructor) ho w hh 0 (.int .i64 o.kind) rfl)) rfl ?_); clear hS a; intro a hS
           refine L_nil ?_
           refine n_then ?_
           refine wp_block ?_
           refine c_seq ?_
           refine c_region ?_
           refine L_op (s_e hS (e_bin rfl rfl rfl) rfl ?_); clear hS a; intro a hS
           refine L_op (s_e hS (e_assign rfl) rfl ?_); clear hS a; intro a hS
           refine L_nil ?_
           refine n_then ?_
           first | refine c_ifD hS rfl (fun hc68 => ?_) (fun hc68 => ?_) | refine c_if hS rfl (fun hc68 => ?_) (fun hc68 => ?_)
           ·
             refine c_region ?_
             refine L_op (s_e hS (e_move rfl) rfl ?_); clear hS a; intro a hS
             refine L_op (s_e hS (e_move rfl) rfl ?_); clear hS a; intro a hS
             refine L_op (s_e hS (e_move rfl) rfl ?_); clear hS a; intro a hS
             refine L_op (s_e hS (e_ixN rfl rfl ty_sl50 ty_sz72 (by omega)) rfl ?_); clear hS a; intro a hS
             first | (refine L_op (s_e hS (e_fa0 rfl ty_fo72_2) rfl ?_); clear hS a; intro a hS) | (refine L_op (s_e hS (e_faK rfl ty_fo72_2) rfl ?_); clear hS a; intro a hS)
             refine L_op (s_e hS (e_loadAC (l := encAc o.a) rfl ty_st68 ty_sz68 (fun w hh j v hj => by
 rw [Nat.add_assoc]
 refine twoL_get (by repeat constructor) ho w hh (2 + j) v ?_
 have hjl := (List.getElem?_eq_some_iff.1 hj).1
 match j, hj with
 | 0, hj => exact hj
 | 1, hj => exact hj
 | 2, hj => exact hj
 | 3, hj => exact hj
 | (k + 4), hj => simp [encAc] at hj)) rfl ?_); clear hS a; intro a hS
             refine L_op (s_callM hS (.cons rfl (.cons rfl .nil)) cf44 rfl (lOpen_P B s1 o.a hof.code _ (hS.get (X := ledA B s1 true) (by repeat constructor))) (fun x => (by repeat constructor)) rfl ?_); clear hS a; (try clear w); intro x76 a w hS
             refine L_op (s_callP hS (.cons rfl .nil) cf16 rfl (Num_w _ _) ?_); clear hS a; (try clear w); intro a w hS
             refine L_op (s_e hS (e_bin rfl rfl rfl) rfl ?_); clear hS a; intro a hS
             refine L_op (s_e hS (e_assign rfl) rfl ?_); clear hS a; intro a hS
             refine L_nil ?_
             refine n_block ?_
             first
             | (have hx := x98
                refine ⟨x98.1, _, (hS.slots (by repeat (first | exact trivial | refine ⟨rfl, ?_⟩))).pick (by repeat (first | exact Pick.nil | (refine Pick.cons (by repeat (first | exact Rem.head | apply Rem.tail)) ?_))), by rw [x98.2]; unfold stepP; rw [if_neg hc68, if_pos hc79], fun e => ?_⟩
                have e2 := of_decide_eq_true e
                rw [x98.2]
                exact if_neg e2)
             | (have hk2 : o.kind = 2 := hc104
                refine ⟨closeL s1 o.at_, _, (hS.slots (by repeat (first | exact trivial | refine ⟨rfl, ?_⟩))).pick (by repeat (first | exact Pick.nil | (refine Pick.cons (by repeat (first | exact Rem.head | apply Rem.tail)) ?_))), by rw [pl_close]; unfold stepP; rw [if_neg hc68, if_neg hc79, if_pos hc104], fun e => ?_⟩
                have e2 := of_decide_eq_true e
                rw [pl_close]
                exact if_neg e2)
             | (have hk2 : ¬ o.kind = 2 := hc104
                exact ⟨s1, false, (hS.slots (by repeat (first | exact trivial | refine ⟨rfl, ?_⟩))).pick (by repeat (first | exact Pick.nil | (refine Pick.cons (by repeat (first | exact Rem.head | apply Rem.tail)) ?_))), by unfold stepP; rw [if_neg hc68, if_neg hc79, if_neg hc104], fun e => rfl⟩)
             | (have hk0 : o.kind = 0 := hc68
                refine ⟨openL s1 o.a, _, (hS.slots (by repeat (first | exact trivial | refine ⟨rfl, ?_⟩))).pick (by repeat (first | exact Pick.nil | (refine Pick.cons (by repeat (first | exact Rem.head | apply Rem.tail)) ?_))), by rw [pl_open]; exact (if_pos hc68).symm, fun e => ?_⟩
                have e2 := of_decide_eq_true e
                rw [pl_open]
                exact if_neg e2)
           ·
             refine c_seq ?_
             refine c_region ?_
             refine L_op (s_e hS (e_bin rfl rfl rfl) rfl ?_); clear hS a; intro a hS
             refine L_op (s_e hS (e_assign rfl) rfl ?_); clear hS a; intro a hS
             refine L_nil ?_
             refine n_then ?_
             first | refine c_ifD hS rfl (fun hc79 => ?_) (fun hc79 => ?_) | refine c_if hS rfl (fun hc79 => ?_) (fun hc79 => ?_)
             ·
               refine c_seq ?_
               refine c_drawS [] (by kernel_rfl) hS (sub_cons (X := twoL p l (some (b, off)) m) (by repeat constructor) sub_nil) ?_; clear hS; (try clear w); intro w hS
               simp only [List.length_cons, List.length_nil, Nat.zero_add, Nat.reduceAdd, List.replicate]
               refine Z_take0 (i := 0) hS rfl want_none (e_move rfl) (listed' := [true, false, false, false, false, false, false, false, false, false, false, false, false, false, false, false, false, false, false, false, false, false]) rfl (by kernel_rfl) (by kernel_rfl) (by kernel_rfl) (fun _ _ _ h => h) rfl ?_; clear hS a; intro a hS
               refine Z_take0 (i := 1) hS rfl want_none (e_move rfl) (listed' := [true, true, false, false, false, false, false, false, false, false, false, false, false, false, false, false, false, false, false, false, false, false]) rfl (by kernel_rfl) (by kernel_rfl) (by kernel_rfl) (fun _ _ _ h => h) rfl ?_; clear hS a; intro a hS
               refine Z_take0 (i := 2) hS rfl want_none (e_move rfl) (listed' := [true, true, true, false, false, false, false, false, false, false, false, false, false, false, false, false, false, false, false, false, false, false]) rfl (by kernel_rfl) (by kernel_rfl) (by kernel_rfl) (fun _ _ _ h => h) rfl ?_; clear hS a; intro a hS
               refine Z_take0 (i := 3) hS rfl want_none (e_ixN rfl rfl ty_sl50 ty_sz72 (by omega)) (listed' := [true, true, true, true, false, false, false, false, false, false, false, false, false, false, false, false, false, false, false, false, false, false]) rfl (by kernel_rfl) (by kernel_rfl) (by kernel_rfl) (fun _ _ _ h => h) rfl ?_; clear hS a; intro a hS
               first | (refine Z_take0 (i := 4) hS rfl want_none (e_fa0 rfl ty_fo72_1) (listed' := [true, true, true, true, true, false, false, false, false, false, false, false, false, false, false, false, false, false, false, false, false, false]) rfl (by kernel_rfl) (by kernel_rfl) (by kernel_rfl) (fun _ _ _ h => h) rfl ?_; clear hS a; intro a hS) | (refine Z_take0 (i := 4) hS rfl want_none (e_faK rfl ty_fo72_1) (listed' := [true, true, true, true, true, false, false, false, false, false, false, false, false, false, false, false, false, false, false, false, false, false]) rfl (by kernel_rfl) (by kernel_rfl) (by kernel_rfl) (fun _ _ _ h => h) rfl ?_; clear hS a; intro a hS)
               refine Z_take (i := 5) hS rfl want_none (e_loadC rfl ty_sc3 (fun w hh => twoL_get (by repeat constructor) ho w hh 1 (.int .i64 o.at_) rfl)) (listed' := [true, true, true, true, true, true, false, false, false, false, false, false, false, false, false, false, false, false, false, false, false, false]) rfl (by kernel_rfl) (by kernel_rfl) (by kernel_rfl) (by kernel_rfl) (by kernel_rfl) (sub_cons (by repeat constructor) sub_nil) (fun _ _ _ h => h) rfl ?_; clear hS a; intro a hS
               refine Z_take0 (i := 6) hS rfl want_none (e_move rfl) (listed' := [true, true, true, true, true, true, true, false, false, false, false, false, false, false, false, false, false, false, false, false, false, false]) rfl (by kernel_rfl) (by kernel_rfl) (by kernel_rfl) (fun _ _ _ h => h) rfl ?_; clear hS a; intro a hS
               refine Z_take0 (i := 7) hS rfl want_none (e_move rfl) (listed' := [true, true, true, true, true, true, true, true, false, false, false, false, false, false, false, false, false, false, false, false, false, false]) rfl (by kernel_rfl) (by kernel_rfl) (by kernel_rfl) (fun _ _ _ h => h) rfl ?_; clear hS a; intro a hS
               refine Z_take0 (i := 8) hS rfl want_none (e_ixN rfl rfl ty_sl50 ty_sz72 (by omega)) (listed' := [true, true, true, true, true, true, true, true, true, false, false, false, false, false, false, false, false, false, false, false, false, false]) rfl (by kernel_rfl) (by kernel_rfl) (by kernel_rfl) (fun _ _ _ h => h) rfl ?_; clear hS a; intro a hS
               first | (refine Z_take0 (i := 9) hS rfl want_none (e_fa0 rfl ty_fo72_3) (listed' := [true, true, true, true, true, true, true, true, true, true, false, false, false, false, false, false, false, false, false, false, false, false]) rfl (by kernel_rfl) (by kernel_rfl) (by kernel_rfl) (fun _ _ _ h => h) rfl ?_; clear hS a; intro a hS) | (refine Z_take0 (i := 9) hS rfl want_none (e_faK rfl ty_fo72_3) (listed' := [true, true, true, true, true, true, true, true, true, true, false, false, false, false, false, false, false, false, false, false, false, false]) rfl (by kernel_rfl) (by kernel_rfl) (by kernel_rfl) (fun _ _ _ h => h) rfl ?_; clear hS a; intro a hS)
               refine Z_take (i := 10) hS rfl want_none (e_loadC rfl ty_sc9 (fun w hh => twoL_get (by repeat constructor) ho w hh 6 (.string o.memo) rfl)) (listed' := [true, true, true, true, true, true, true, true, true, true, true, false, false, false, false, false, false, false, false, false, false, false]) rfl (by kernel_rfl) (by kernel_rfl) (by kernel_rfl) (by kernel_rfl) (by kernel_rfl) (sub_cons (by repeat constructor) sub_nil) (fun _ _ _ h => h) rfl ?_; clear hS a; intro a hS
               refine Z_take0 (i := 11) hS rfl want_none (e_move rfl) (listed' := [true, true, true, true, true, true, true, true, true, true, true, true, false, false, false, false, false, false, false, false, false, false]) rfl (by kernel_rfl) (by kernel_rfl) (by kernel_rfl) (fun _ _ _ h => h) rfl ?_; clear hS a; intro a hS
               refine Z_take0 (i := 12) hS rfl want_none (e_move rfl) (listed' := [true, true, true, true, true, true, true, true, true, true, true, true, true, false, false, false, false, false, false, false, false, false]) rfl (by kernel_rfl) (by kernel_rfl) (by kernel_rfl) (fun _ _ _ h => h) rfl ?_; clear hS a; intro a hS
               refine Z_take0 (i := 13) hS rfl want_none (e_ixN rfl rfl ty_sl50 ty_sz72 (by omega)) (listed' := [true, true, true, true, true, true, true, true, true, true, true, true, true, true, false, false, false, false, false, false, false, false]) rfl (by kernel_rfl) (by kernel_rfl) (by kernel_rfl) (fun _ _ _ h => h) rfl ?_; clear hS a; intro a hS
               first | (refine Z_take0 (i := 14) hS rfl want_none (e_fa0 rfl ty_fo72_4) (listed' := [true, true, true, true, true, true, true, true, true, true, true, true, true, true, true, false, false, false, false, false, false, false]) rfl (by kernel_rfl) (by kernel_rfl) (by kernel_rfl) (fun _ _ _ h => h) rfl ?_; clear hS a; intro a hS) | (refine Z_take0 (i := 14) hS rfl want_none (e_faK rfl ty_fo72_4) (listed' := [true, true, true, true, true, true, true, true, true, true, true, true, true, true, true, false, false, false, false, false, false, false]) rfl (by kernel_rfl) (by kernel_rfl) (by kernel_rfl) (fun _ _ _ h => h) rfl ?_; clear hS a; intro a hS)
               refine Z_take (i := 15) hS rfl want_none (e_loadC rfl ty_sc56 (fun w hh => twoL_get (by repeat constructor) ho w hh 7 o.pv rfl)) (listed' := [true, true, true, true, true, true, true, true, true, true, true, true, true, true, true, true, false, false, false, false, false, false]) rfl (by kernel_rfl) (by kernel_rfl) (by kernel_rfl) (by kernel_rfl) (by kernel_rfl) (sub_cons (by repeat constructor) sub_nil) (fun _ _ _ h => h) rfl ?_; clear hS a; intro a hS
               refine Z_one (i := 16) rfl (want_none a hS.sl) (listed' := [true, true, true, true, true, true, true, true, true, true, true, true, true, true, true, true, true, false, false, false, false, false]) rfl (by kernel_rfl) (s_callM hS (.cons rfl (.cons rfl (.cons rfl (.cons rfl .nil)))) cf32 rfl (postAny_P B s1 o.pv o.at_ o.memo o.ps hof.ps.2 hof.ps.1 hw1.bal (by omega) _ (hS.get (X := ledA B s1 true) (by repeat constructor)) ((hS.get (X := twoL p l (some (b, off)) m) (by repeat constructor)).2.2 o hom) (fun k hne hk hl => hS.sep (X := ledA B s1 true) (Y := twoL p l (some (b, off)) m) (by repeat (first | exact Rem.head | apply Rem.tail)) (by repeat constructor) k hl (.inr (.inr ⟨o, hom, hne, hk⟩)))) (fun x => (by repeat constructor)) rfl ?_); clear hS a; (try clear w); intro x98 a w hS
               refine Z_and hS (sub_cons (by repeat constructor) sub_nil) ?_
               refine Z_take0 (i := 17) hS rfl want_none (e_move rfl) (listed' := [true, true, true, true, true, true, true, true, true, true, true, true, true, true, true, true, true, true, false, false, false, false]) rfl (by kernel_rfl) (by kernel_rfl) (by kernel_rfl) (fun _ _ _ h => h) rfl ?_; clear hS a; intro a hS
               refine Z_take0 (i := 18) hS rfl want_none (e_extract rfl rfl) (listed' := [true, true, true, true, true, true, true, true, true, true, true, true, true, true, true, true, true, true, true, false, false, false]) rfl (by kernel_rfl) (by kernel_rfl) (by kernel_rfl) (fun _ _ _ h => h) rfl ?_; clear hS a; intro a hS
               refine Z_take0 (i := 19) hS rfl want_none (e_extract rfl rfl) (listed' := [true, true, true, true, true, true, true, true, true, true, true, true, true, true, true, true, true, true, true, true, false, false]) rfl (by kernel_rfl) (by kernel_rfl) (by kernel_rfl) (fun _ _ _ h => h) rfl ?_; clear hS a; intro a hS
               refine Z_take0 (i := 20) hS rfl want_none (e_assign rfl) (listed' := [true, true, true, true, true, true, true, true, true, true, true, true, true, true, true, true, true, true, true, true, true, false]) rfl (by kernel_rfl) (by kernel_rfl) (by kernel_rfl) (fun _ _ _ h => h) rfl ?_; clear hS a; intro a hS
               refine Z_take0 (i := 21) hS rfl want_none (e_assign rfl) (listed' := [true, true, true, true, true, true, true, true, true, true, true, true, true, true, true, true, true, true, true, true, true, true]) rfl (by kernel_rfl) (by kernel_rfl) (by kernel_rfl) (fun _ _ _ h => h) rfl ?_; clear hS a; intro a hS
               refine Z_done (by kernel_rfl) ?_
               refine n_then ?_
               refine c_region ?_
               refine L_op (s_e hS (e_move rfl) rfl ?_); clear hS a; intro a hS
               refine L_op (s_callP hS (.cons rfl .nil) cf16 rfl (Num_w _ _) ?_); clear hS a; (try clear w); intro a w hS
               refine L_op (s_e hS (e_bin rfl rfl rfl) rfl ?_); clear hS a; intro a hS
               refine L_op (s_e hS (e_assign rfl) rfl ?_); clear hS a; intro a hS
               refine L_nil ?_
               refine n_block ?_
               first
               | (have hx := x98
                  refine ⟨x98.1, _, (hS.slots (by repeat (first | exact trivial | refine ⟨rfl, ?_⟩))).pick (by repeat (first | exact Pick.nil | (refine Pick.cons (by repeat (first | exact Rem.head | apply Rem.tail)) ?_))), by rw [x98.2]; unfold stepP; rw [if_neg hc68, if_pos hc79], fun e => ?_⟩
                  have e2 := of_decide_eq_true e
                  rw [x98.2]
                  exact if_neg e2)
               | (have hk2 : o.kind = 2 := hc104
                  refine ⟨closeL s1 o.at_, _, (hS.slots (by repeat (first | exact trivial | refine ⟨rfl, ?_⟩))).pick (by repeat (first | exact Pick.nil | (refine Pick.cons (by repeat (first | exact Rem.head | apply Rem.tail)) ?_))), by rw [pl_close]; unfold stepP; rw [if_neg hc68, if_neg hc79, if_pos hc104], fun e => ?_⟩
                  have e2 := of_decide_eq_true e
                  rw [pl_close]
                  exact if_neg e2)
               | (have hk2 : ¬ o.kind = 2 := hc104
                  exact ⟨s1, false, (hS.slots (by repeat (first | exact trivial | refine ⟨rfl, ?_⟩))).pick (by repeat (first | exact Pick.nil | (refine Pick.cons (by repeat (first | exact Rem.head | apply Rem.tail)) ?_))), by unfold stepP; rw [if_neg hc68, if_neg hc79, if_neg hc104], fun e => rfl⟩)
               | (have hk0 : o.kind = 0 := hc68
                  refine ⟨openL s1 o.a, _, (hS.slots (by repeat (first | exact trivial | refine ⟨rfl, ?_⟩))).pick (by repeat (first | exact Pick.nil | (refine Pick.cons (by repeat (first | exact Rem.head | apply Rem.tail)) ?_))), by rw [pl_open]; exact (if_pos hc68).symm, fun e => ?_⟩
                  have e2 := of_decide_eq_true e
                  rw [pl_open]
                  exact if_neg e2)
             ·
               refine c_seq ?_
               refine c_region ?_
               refine L_op (s_e hS (e_bin rfl rfl rfl) rfl ?_); clear hS a; intro a hS
               refine L_op (s_e hS (e_assign rfl) rfl ?_); clear hS a; intro a hS
               refine L_nil ?_
               refine n_then ?_
               first | refine c_ifD hS rfl (fun hc104 => ?_) (fun hc104 => ?_) | refine c_if hS rfl (fun hc104 => ?_) (fun hc104 => ?_)
               ·
                 refine c_region ?_
                 refine L_op (s_e hS (e_move rfl) rfl ?_); clear hS a; intro a hS
                 refine L_op (s_e hS (e_move rfl) rfl ?_); clear hS a; intro a hS
                 refine L_op (s_e hS (e_move rfl) rfl ?_); clear hS a; intro a hS
                 refine L_op (s_e hS (e_ixN rfl rfl ty_sl50 ty_sz72 (by omega)) rfl ?_); clear hS a; intro a hS
                 first | (refine L_op (s_e hS (e_fa0 rfl ty_fo72_1) rfl ?_); clear hS a; intro a hS) | (refine L_op (s_e hS (e_faK rfl ty_fo72_1) rfl ?_); clear hS a; intro a hS)
                 refine L_op (s_e hS (e_loadC rfl ty_sc3 (fun w hh => twoL_get (by repeat constructor) ho w hh 1 (.int .i64 o.at_) rfl)) rfl ?_); clear hS a; intro a hS
                 refine L_op (s_callM hS (.cons rfl (.cons rfl .nil)) cf45 rfl (lClose_P B s1 o.at_ _ (hS.get (X := ledA B s1 true) (by repeat constructor))) (fun x => (by repeat constructor)) rfl ?_); clear hS a; (try clear w); intro x112 a w hS
                 refine L_op (s_callP hS (.cons rfl .nil) cf16 rfl (Num_w _ _) ?_); clear hS a; (try clear w); intro a w hS
                 refine L_op (s_e hS (e_bin rfl rfl rfl) rfl ?_); clear hS a; intro a hS
                 refine L_op (s_e hS (e_assign rfl) rfl ?_); clear hS a; intro a hS
                 refine L_nil ?_
                 refine n_block ?_
                 first
                 | (have hx := x98
                    refine ⟨x98.1, _, (hS.slots (by repeat (first | exact trivial | refine ⟨rfl, ?_⟩))).pick (by repeat (first | exact Pick.nil | (refine Pick.cons (by repeat (first | exact Rem.head | apply Rem.tail)) ?_))), by rw [x98.2]; unfold stepP; rw [if_neg hc68, if_pos hc79], fun e => ?_⟩
                    have e2 := of_decide_eq_true e
                    rw [x98.2]
                    exact if_neg e2)
                 | (have hk2 : o.kind = 2 := hc104
                    refine ⟨closeL s1 o.at_, _, (hS.slots (by repeat (first | exact trivial | refine ⟨rfl, ?_⟩))).pick (by repeat (first | exact Pick.nil | (refine Pick.cons (by repeat (first | exact Rem.head | apply Rem.tail)) ?_))), by rw [pl_close]; unfold stepP; rw [if_neg hc68, if_neg hc79, if_pos hc104], fun e => ?_⟩
                    have e2 := of_decide_eq_true e
                    rw [pl_close]
                    exact if_neg e2)
                 | (have hk2 : ¬ o.kind = 2 := hc104
                    exact ⟨s1, false, (hS.slots (by repeat (first | exact trivial | refine ⟨rfl, ?_⟩))).pick (by repeat (first | exact Pick.nil | (refine Pick.cons (by repeat (first | exact Rem.head | apply Rem.tail)) ?_))), by unfold stepP; rw [if_neg hc68, if_neg hc79, if_neg hc104], fun e => rfl⟩)
                 | (have hk0 : o.kind = 0 := hc68
                    refine ⟨openL s1 o.a, _, (hS.slots (by repeat (first | exact trivial | refine ⟨rfl, ?_⟩))).pick (by repeat (first | exact Pick.nil | (refine Pick.cons (by repeat (first | exact Rem.head | apply Rem.tail)) ?_))), by rw [pl_open]; exact (if_pos hc68).symm, fun e => ?_⟩
                    have e2 := of_decide_eq_true e
                    rw [pl_open]
                    exact if_neg e2)
               ·
                 refine wp_skip ?_
                 refine n_block ?_
                 first
                 | (have hx := x98
                    refine ⟨x98.1, _, (hS.slots (by repeat (first | exact trivial | refine ⟨rfl, ?_⟩))).pick (by repeat (first | exact Pick.nil | (refine Pick.cons (by repeat (first | exact Rem.head | apply Rem.tail)) ?_))), by rw [x98.2]; unfold stepP; rw [if_neg hc68, if_pos hc79], fun e => ?_⟩
                    have e2 := of_decide_eq_true e
                    rw [x98.2]
                    exact if_neg e2)
                 | (have hk2 : o.kind = 2 := hc104
                    refine ⟨closeL s1 o.at_, _, (hS.slots (by repeat (first | exact trivial | refine ⟨rfl, ?_⟩))).pick (by repeat (first | exact Pick.nil | (refine Pick.cons (by repeat (first | exact Rem.head | apply Rem.tail)) ?_))), by rw [pl_close]; unfold stepP; rw [if_neg hc68, if_neg hc79, if_pos hc104], fun e => ?_⟩
                    have e2 := of_decide_eq_true e
                    rw [pl_close]
                    exact if_neg e2)
                 | (have hk2 : ¬ o.kind = 2 := hc104
                    exact ⟨s1, false, (hS.slots (by repeat (first | exact trivial | refine ⟨rfl, ?_⟩))).pick (by repeat (first | exact Pick.nil | (refine Pick.cons (by repeat (first | exact Rem.head | apply Rem.tail)) ?_))), by unfold stepP; rw [if_neg hc68, if_neg hc79, if_neg hc104], fun e => rfl⟩)
                 | (have hk0 : o.kind = 0 := hc68
                    refine ⟨openL s1 o.a, _, (hS.slots (by repeat (first | exact trivial | refine ⟨rfl, ?_⟩))).pick (by repeat (first | exact Pick.nil | (refine Pick.cons (by repeat (first | exact Rem.head | apply Rem.tail)) ?_))), by rw [pl_open]; exact (if_pos hc68).symm, fun e => ?_⟩
                    have e2 := of_decide_eq_true e
                    rw [pl_open]
                    exact if_neg e2)
         ·
           clear hS a; (try clear w); intro a w hS
           obtain ⟨s2, bad, hS, hp2, hbad⟩ := hS
           have hpl2 : pl s2 = madeP (l ++ m.take (i + 1)) := by rw [hp2, hmt]
           have hal2 : s2.acs.length ≤ 200 := by
             have hw2 := wf_made hfa (l.length + (i + 1)) (by rw [List.length_append]; omega)
             rw [List.take_length_add_append, ← hpl2] at hw2
             have h1 := hw2.la; simp [pl] at h1; omega
           refine c_seq ?_
           refine c_region ?_
           refine L_op (s_e hS (e_move rfl) rfl ?_); clear hS a; intro a hS
           refine L_op (s_e hS (e_move rfl) rfl ?_); clear hS a; intro a hS
           refine L_merge 18 134 (.bool (false)) hS ?_ ?_
           · intro hcM134
             (first | refine g_splitD (t := 116) hS rfl ?_ ?_ | refine g_split (t := 116) hS rfl ?_ ?_) <;> (clear hS; intro hg116 hS)
             ·
               have hsame := hbad (by simpa using hg116)
               have e1 : s2.es.length = s1.es.length := by have h1 := congrArg (fun P : PL => P.es.length) hsame; simpa [pl] using h1
               have e2 : s2.acs = s1.acs := congrArg PL.acs hsame
               have e3 : s2.closed = s1.closed := congrArg PL.closed hsame
               refine L_go hS rfl rfl (s_e hS (e_move rfl) rfl ?_); clear hS a; intro a hS
               refine L_go hS rfl rfl (s_callP hS (.cons rfl .nil) cf34 rfl (lLen_P B s2 _ (hS.get (X := ledA B s2 true) (by repeat constructor))) ?_); clear hS a; (try clear w); intro a w hS
               rw [e1] at hS
               refine L_go hS rfl rfl (s_e hS (e_move rfl) rfl ?_); clear hS a; intro a hS
               refine L_go hS rfl rfl (s_e hS (e_bin rfl rfl rfl) rfl ?_); clear hS a; intro a hS
               refine L_go hS rfl rfl (s_e hS (e_move rfl) rfl ?_); clear hS a; intro a hS
               replace hS := hS.is (t := 121) (c := false) rfl ((by simp))
               refine L_go hS rfl rfl (s_e hS (e_move rfl) rfl ?_); clear hS a; intro a hS
               refine L_go hS rfl rfl (s_callN hS (.cons rfl .nil) cf30 rfl (lAccs_P B s2 (by omega) _ (hS.get (X := ledA B s2 true) (by repeat constructor))) ?_); clear hS a; (try clear w); intro x123 a w hS
               obtain ⟨q123, c123, rfl⟩ := own_slice (hS.get (X := ownA 68 4 x123 (accsL s2.acs).length ((accsL s2.acs).flatMap encAc)) (by repeat constructor))
               rw [accs_len s2.acs, e2] at hS
               replace hS := hS.drop (Γ' := [ledA B s2 true, entsA (.slice q10 L.length c10) L, ownA 60 3 (.slice q9 (accsL s.acs).length c9) (accsL s.acs).length ((trialF (pl s) T).flatMap encBl), twoL p l (some (b, off)) m]) (.cons _ (.refl _))
               refine L_go hS rfl rfl (s_e hS (e_len rfl rfl ty_sl65) rfl ?_); clear hS a; intro a hS
               refine L_go hS rfl rfl (s_e hS (e_move rfl) rfl ?_); clear hS a; intro a hS
               refine L_go hS rfl rfl (s_e hS (e_bin rfl rfl rfl) rfl ?_); clear hS a; intro a hS
               first | (refine L_go hS rfl rfl (s_e hS (e_pick_t rfl rfl) rfl ?_); clear hS a; intro a hS) | (refine L_go hS rfl rfl (s_e hS (e_pick_f rfl rfl) rfl ?_); clear hS a; intro a hS)
               refine L_go hS rfl rfl (s_e hS (e_move rfl) rfl ?_); clear hS a; intro a hS
               replace hS := hS.is (t := 128) (c := false) rfl ((by simp))
               refine L_go hS rfl rfl (s_e hS (e_move rfl) rfl ?_); clear hS a; intro a hS
               refine L_go hS rfl rfl (s_callP hS (.cons rfl .nil) cf43 rfl (lClosed_P B s2 _ (hS.get (X := ledA B s2 true) (by repeat constructor))) ?_); clear hS a; (try clear w); intro a w hS
               rw [e3] at hS
               refine L_go hS rfl rfl (s_e hS (e_move rfl) rfl ?_); clear hS a; intro a hS
               refine L_go hS rfl rfl (s_e hS (e_bin rfl rfl rfl) rfl ?_); clear hS a; intro a hS
               first | (refine L_go hS rfl rfl (s_e hS (e_pick_t rfl rfl) rfl ?_); clear hS a; intro a hS) | (refine L_go hS rfl rfl (s_e hS (e_pick_f rfl rfl) rfl ?_); clear hS a; intro a hS)
               first | (refine L_op (s_e hS (e_pick_t rfl rfl) rfl ?_); clear hS a; intro a hS) | (refine L_op (s_e hS (e_pick_f rfl rfl) rfl ?_); clear hS a; intro a hS)
               exact hcM134 _ _ (hS.ends 21 134 116 rfl (congrArg Value.bool (by simp)) rfl rfl (by first | exact congrArg Value.bool (decide_eq_true hg116).symm | exact congrArg Value.bool hg116.symm | simp [hg116]) rfl)
             ·
               refine L_skip_t hS rfl rfl rfl ?_; clear hS a; intro a hS
               refine L_skip_t hS rfl rfl rfl ?_; clear hS a; intro a hS
               refine L_skip_t hS rfl rfl rfl ?_; clear hS a; intro a hS
               refine L_skip_t hS rfl rfl rfl ?_; clear hS a; intro a hS
               refine L_skip_t hS rfl rfl rfl ?_; clear hS a; intro a hS
               refine L_skip_u hS rfl rfl rfl ?_; clear hS a; intro a hS
               refine L_skip_u hS rfl rfl rfl ?_; clear hS a; intro a hS
               refine L_skip_u hS rfl rfl rfl ?_; clear hS a; intro a hS
               refine L_skip_u hS rfl rfl rfl ?_; clear hS a; intro a hS
               refine L_skip_u hS rfl rfl rfl ?_; clear hS a; intro a hS
               refine L_skip_t hS rfl rfl rfl ?_; clear hS a; intro a hS
               refine L_skip_t hS rfl rfl rfl ?_; clear hS a; intro a hS
               refine L_skip_u hS rfl rfl rfl ?_; clear hS a; intro a hS
               refine L_skip_u hS rfl rfl rfl ?_; clear hS a; intro a hS
               refine L_skip_u hS rfl rfl rfl ?_; clear hS a; intro a hS
               refine L_skip_u hS rfl rfl rfl ?_; clear hS a; intro a hS
               refine L_skip_t hS rfl rfl rfl ?_; clear hS a; intro a hS
               first | (refine L_op (s_e hS (e_pick_t rfl rfl) rfl ?_); clear hS a; intro a hS) | (refine L_op (s_e hS (e_pick_f rfl rfl) rfl ?_); clear hS a; intro a hS)
               exact hcM134 _ _ (hS.ends 19 134 116 rfl (congrArg Value.bool (by rfl)) rfl rfl (by first | exact congrArg Value.bool (decide_eq_false hg116).symm | exact congrArg Value.bool hg116.symm | simp [hg116]) rfl)
           · clear hS a; (try clear w); intro a w hS
             simp only [List.drop_succ_cons, List.drop_zero]
             refine L_nil ?_
             refine n_then ?_
             replace hS := hS.is (t := 134) (c := false) rfl (rfl)
             refine c_if_f hS rfl ?_
             refine wp_skip ?_
             refine n_block ?_
             refine n_then ?_
             refine c_region ?_
             refine L_op (s_e hS (e_move rfl) rfl ?_); clear hS a; intro a hS
             first | (refine L_op (s_e hS (e_binN rfl rfl rfl (by omega)) rfl ?_); clear hS a; intro a hS) | (refine L_op (s_e hS (e_bin rfl rfl rfl) rfl ?_); clear hS a; intro a hS)
             refine L_op (s_e hS (e_assign rfl) rfl ?_); clear hS a; intro a hS
             refine L_nil ?_
             exact ⟨(i + 1, s2), by simp only; omega, (hS.slots (by repeat (first | exact trivial | refine ⟨rfl, ?_⟩))).pick (by repeat (first | exact Pick.nil | (refine Pick.cons (by repeat (first | exact Rem.head | apply Rem.tail)) ?_))), by simp only; omega, hpl2, by simp only; rw [hp2]; exact later_step hlat o⟩
       ·
         obtain rfl : i = m.length := by omega
         refine wp_exit ?_
         refine x_then (x_then (x_hit ?_))
         refine n_then ?_
         refine c_seq ?_
         refine c_seq ?_
         refine c_region ?_
         refine L_op (s_e hS (e_assign rfl) rfl ?_); clear hS a; intro a hS
         refine L_nil ?_
         refine n_then ?_
         refine wp_block ?_
         skip
         refine c_loop (γ := Nat) (fun k a w => St 222 noB w0 a w [(18, .int .i64 (k : Int)), (10, .slice q10 L.length c10), (9, .slice q9 (accsL s.acs).length c9), (8, .int .i64 s.closed), (7, .pointer (some ⟨B.lb, 0, none⟩))] [ledA B s1 true, entsA (.slice q10 L.length c10) L, ownA 60 3 (.slice q9 (accsL s.acs).length c9) (accsL s.acs).length ((trialF (pl s) T).flatMap encBl)] ∧ k ≤ L.length) (fun k => L.length - k) 0 ⟨(hS.slots (by repeat (first | exact trivial | refine ⟨rfl, ?_⟩))).pick (by repeat (first | exact Pick.nil | (refine Pick.cons (by repeat (first | exact Rem.head | apply Rem.tail)) ?_))), Nat.zero_le _⟩ ?_
         clear hS a; (try clear w); intro k a w hI
         obtain ⟨hS, hk⟩ := hI
         refine c_seq ?_
         refine c_seq ?_
         refine c_region ?_
         refine L_op (s_e hS (e_move rfl) rfl ?_); clear hS a; intro a hS
         refine L_op (s_e hS (e_move rfl) rfl ?_); clear hS a; intro a hS
         refine L_op (s_e hS (e_len rfl rfl ty_sl54) rfl ?_); clear hS a; intro a hS
         refine L_op (s_e hS (e_bin rfl rfl rfl) rfl ?_); clear hS a; intro a hS
         refine L_nil ?_
         refine n_then ?_
         first | refine c_ifD hS rfl (fun hc138 => ?_) (fun hc138 => ?_) | refine c_if hS rfl (fun hc138 => ?_) (fun hc138 => ?_)
         ·
           have hkl : k < L.length := by omega
           obtain ⟨⟨xv, xb, xc⟩, hx⟩ : ∃ x, L[k]? = some x := ⟨L[k], List.getElem?_eq_getElem hkl⟩
           have hxm := List.mem_of_getElem? hx
           obtain ⟨j, hxid, hje⟩ := stay_ent hlat hid hE (List.mem_map.2 ⟨_, hxm, rfl⟩)
           simp only at hxid hje
           obtain ⟨⟨yv, yb, yc⟩, hy, hyx⟩ : ∃ y, s1.es[j]? = some y ∧ y.v = xv := by
             unfold pl at hje
             simp only [List.getElem?_map, Option.map_eq_some_iff] at hje
             exact hje
           simp only at hyx
           subst hyx
           have hyl := hw1.ps yv (List.mem_map.2 ⟨_, List.mem_of_getElem? hy, rfl⟩)
           obtain ⟨g10, rfl⟩ : ∃ g, q10 = some ⟨g, 0, none⟩ := own_at (hS.get (X := entsA (.slice q10 L.length c10) L) (by repeat constructor)).row (by omega)
           refine wp_skip ?_
           refine n_then ?_
           refine c_seq ?_
           refine wp_block ?_
           refine c_seq ?_
           refine c_region ?_
           refine L_op (s_e hS (e_move rfl) rfl ?_); clear hS a; intro a hS
           refine L_op (s_e hS (e_move rfl) rfl ?_); clear hS a; intro a hS
           refine L_op (s_e hS (e_move rfl) rfl ?_); clear hS a; intro a hS
           refine L_op (s_e hS (e_ixN rfl rfl ty_sl54 ty_sz58 (by omega)) rfl ?_); clear hS a; intro a hS
           first | (refine L_op (s_e hS (e_fa0 rfl ty_fo58_0) rfl ?_); clear hS a; intro a hS) | (refine L_op (s_e hS (e_faK rfl ty_fo58_0) rfl ?_); clear hS a; intro a hS)
           refine L_op (s_e hS (e_loadC rfl ty_sc3 (fun w hh => ents_get (by repeat constructor) hx w hh 0 (.int .i64 yv.id) rfl)) rfl ?_); clear hS a; intro a hS
           rw [hxid] at hS
           refine L_op (s_callN hS (.cons rfl (.cons rfl .nil)) cf46 rfl (lEntry_P B s1 j ⟨yv, yb, yc⟩ hy (by omega) (by simp only; omega) _ (hS.get (X := ledA B s1 true) (by repeat constructor))) ?_); clear hS a; (try clear w); intro x148 a w hS
           refine L_op (s_e hS (e_move rfl) rfl ?_); clear hS a; intro a hS
           refine L_op (s_e hS (e_extract rfl rfl) rfl ?_); clear hS a; intro a hS
           refine L_op (s_e hS (e_extract rfl rfl) rfl ?_); clear hS a; intro a hS
           refine L_op (s_alloc hS ty_z58 rfl ?_); clear hS a; (try clear w); intro a w b19 hS
           refine L_op (s_storeA hS rfl rfl ty_sz58 (by repeat constructor) (by rfl) (by rfl) (by rfl) ?_); clear hS; (try clear w); intro w hS
           refine L_op (s_e hS (e_assign rfl) rfl ?_); clear hS a; intro a hS
           refine L_nil ?_
           refine n_then ?_
           refine c_seq ?_
           refine c_drawS [] (by kernel_rfl) hS (sub_cons (X := .blk b19 _ _) (by repeat constructor) (sub_cons (X := entsA (.slice (some ⟨g10, 0, none⟩) L.length c10) L) (by repeat constructor) sub_nil)) ?_; clear hS; (try clear w); intro w hS
           simp only [List.length_cons, List.length_nil, Nat.zero_add, Nat.reduceAdd, List.replicate]
           refine Z_take0 (i := 0) hS rfl want_none (e_move rfl) (listed' := [true, false, false, false, false, false, false, false, false, false, false, false, false, false, false, false, false, false, false, false, false, false, false, false, false, false, false, false, false, false, false, false, false, false]) rfl (by kernel_rfl) (by kernel_rfl) (by kernel_rfl) (fun _ _ _ h => h) rfl ?_; clear hS a; intro a hS
           refine Z_take0 (i := 1) hS rfl want_none (e_not rfl) (listed' := [true, true, false, false, false, false, false, false, false, false, false, false, false, false, false, false, false, false, false, false, false, false, false, false, false, false, false, false, false, false, false, false, false, false]) rfl (by kernel_rfl) (by kernel_rfl) (by kernel_rfl) (fun _ _ _ h => h) rfl ?_; clear hS a; intro a hS
           refine Z_take0 (i := 2) hS rfl want_none (e_move rfl) (listed' := [true, true, true, false, false, false, false, false, false, false, false, false, false, false, false, false, false, false, false, false, false, false, false, false, false, false, false, false, false, false, false, false, false, false]) rfl (by kernel_rfl) (by kernel_rfl) (by kernel_rfl) (fun _ _ _ h => h) rfl ?_; clear hS a; intro a hS
           replace hS := hS.is (t := 153) (c := false) rfl (rfl)
           first | (refine Z_take0 (i := 3) hS rfl (want_go rfl rfl) (e_fa0 rfl ty_fo58_1) (listed' := [true, true, true, true, false, false, false, false, false, false, false, false, false, false, false, false, false, false, false, false, false, false, false, false, false, false, false, false, false, false, false, false, false, false]) rfl (by kernel_rfl) (by kernel_rfl) (by kernel_rfl) (fun _ _ _ h => h) rfl ?_; clear hS a; intro a hS) | (refine Z_take0 (i := 3) hS rfl (want_go rfl rfl) (e_faK rfl ty_fo58_1) (listed' := [true, true, true, true, false, false, false, false, false, false, false, false, false, false, false, false, false, false, false, false, false, false, false, false, false, false, false, false, false, false, false, false, false, false]) rfl (by kernel_rfl) (by kernel_rfl) (by kernel_rfl) (fun _ _ _ h => h) rfl ?_; clear hS a; intro a hS)
           refine Z_take (i := 4) hS rfl (want_go rfl rfl) (e_load rfl (by repeat constructor) ty_sc3 (by rfl)) (listed' := [true, true, true, true, true, false, false, false, false, false, false, false, false, false, false, false, false, false, false, false, false, false, false, false, false, false, false, false, false, false, false, false, false, false]) rfl (by kernel_rfl) (by kernel_rfl) (by kernel_rfl) (by kernel_rfl) (by kernel_rfl) (sub_cons (by repeat constructor) (sub_cons (by repeat constructor) sub_nil)) (fun _ _ _ h => h) rfl ?_; clear hS a; intro a hS
           refine Z_take0 (i := 5) hS rfl (want_go rfl rfl) (e_move rfl) (listed' := [true, true, true, true, true, true, false, false, false, false, false, false, false, false, false, false, false, false, false, false, false, false, false, false, false, false, false, false, false, false, false, false, false, false]) rfl (by kernel_rfl) (by kernel_rfl) (by kernel_rfl) (fun _ _ _ h => h) rfl ?_; clear hS a; intro a hS
           refine Z_take0 (i := 6) hS rfl (want_go rfl rfl) (e_move rfl) (listed' := [true, true, true, true, true, true, true, false, false, false, false, false, false, false, false, false, false, false, false, false, false, false, false, false, false, false, false, false, false, false, false, false, false, false]) rfl (by kernel_rfl) (by kernel_rfl) (by kernel_rfl) (fun _ _ _ h => h) rfl ?_; clear hS a; intro a hS
           refine Z_take0 (i := 7) hS rfl (want_go rfl rfl) (e_ixN rfl rfl ty_sl54 ty_sz58 (by omega)) (listed' := [true, true, true, true, true, true, true, true, false, false, false, false, false, false, false, false, false, false, false, false, false, false, false, false, false, false, false, false, false, false, false, false, false, false]) rfl (by kernel_rfl) (by kernel_rfl) (by kernel_rfl) (fun _ _ _ h => h) rfl ?_; clear hS a; intro a hS
           first | (refine Z_take0 (i := 8) hS rfl (want_go rfl rfl) (e_fa0 rfl ty_fo58_1) (listed' := [true, true, true, true, true, true, true, true, true, false, false, false, false, false, false, false, false, false, false, false, false, false, false, false, false, false, false, false, false, false, false, false, false, false]) rfl (by kernel_rfl) (by kernel_rfl) (by kernel_rfl) (fun _ _ _ h => h) rfl ?_; clear hS a; intro a hS) | (refine Z_take0 (i := 8) hS rfl (want_go rfl rfl) (e_faK rfl ty_fo58_1) (listed' := [true, true, true, true, true, true, true, true, true, false, false, false, false, false, false, false, false, false, false, false, false, false, false, false, false, false, false, false, false, false, false, false, false, false]) rfl (by kernel_rfl) (by kernel_rfl) (by kernel_rfl) (fun _ _ _ h => h) rfl ?_; clear hS a; intro a hS)
           refine Z_take (i := 9) hS rfl (want_go rfl rfl) (e_loadC rfl ty_sc3 (fun w hh => ents_get (by repeat constructor) hx w hh 1 (.int .i64 yv.at_) rfl)) (listed' := [true, true, true, true, true, true, true, true, true, true, false, false, false, false, false, false, false, false, false, false, false, false, false, false, false, false, false, false, false, false, false, false, false, false]) rfl (by kernel_rfl) (by kernel_rfl) (by kernel_rfl) (by kernel_rfl) (by kernel_rfl) (sub_cons (by repeat constructor) (sub_cons (by repeat constructor) sub_nil)) (fun _ _ _ h => h) rfl ?_; clear hS a; intro a hS
           refine Z_take0 (i := 10) hS rfl (want_go rfl rfl) (e_bin rfl rfl rfl) (listed' := [true, true, true, true, true, true, true, true, true, true, true, false, false, false, false, false, false, false, false, false, false, false, false, false, false, false, false, false, false, false, false, false, false, false]) rfl (by kernel_rfl) (by kernel_rfl) (by kernel_rfl) (fun _ _ _ h => h) rfl ?_; clear hS a; intro a hS
           first | (refine Z_take0 (i := 11) hS rfl want_none (e_pick_t rfl rfl) (listed' := [true, true, true, true, true, true, true, true, true, true, true, true, false, false, false, false, false, false, false, false, false, false, false, false, false, false, false, false, false, false, false, false, false, false]) rfl (by kernel_rfl) (by kernel_rfl) (by kernel_rfl) (fun _ _ _ h => h) rfl ?_; clear hS a; intro a hS) | (refine Z_take0 (i := 11) hS rfl want_none (e_pick_f rfl rfl) (listed' := [true, true, true, true, true, true, true, true, true, true, true, true, false, false, false, false, false, false, false, false, false, false, false, false, false, false, false, false, false, false, false, false, false, false]) rfl (by kernel_rfl) (by kernel_rfl) (by kernel_rfl) (fun _ _ _ h => h) rfl ?_; clear hS a; intro a hS)
           refine Z_take0 (i := 12) hS rfl want_none (e_move rfl) (listed' := [true, true, true, true, true, true, true, true, true, true, true, true, true, false, false, false, false, false, false, false, false, false, false, false, false, false, false, false, false, false, false, false, false, false]) rfl (by kernel_rfl) (by kernel_rfl) (by kernel_rfl) (fun _ _ _ h => h) rfl ?_; clear hS a; intro a hS
           replace hS := hS.is (t := 163) (c := false) rfl ((by simp))
           first | (refine Z_take0 (i := 13) hS rfl (want_go rfl rfl) (e_fa0 rfl ty_fo58_2) (listed' := [true, true, true, true, true, true, true, true, true, true, true, true, true, true, false, false, false, false, false, false, false, false, false, false, false, false, false, false, false, false, false, false, false, false]) rfl (by kernel_rfl) (by kernel_rfl) (by kernel_rfl) (fun _ _ _ h => h) rfl ?_; clear hS a; intro a hS) | (refine Z_take0 (i := 13) hS rfl (want_go rfl rfl) (e_faK rfl ty_fo58_2) (listed' := [true, true, true, true, true, true, true, true, true, true, true, true, true, true, false, false, false, false, false, false, false, false, false, false, false, false, false, false, false, false, false, false, false, false]) rfl (by kernel_rfl) (by kernel_rfl) (by kernel_rfl) (fun _ _ _ h => h) rfl ?_; clear hS a; intro a hS)
           refine Z_take (i := 14) hS rfl (want_go rfl rfl) (e_load rfl (by repeat constructor) ty_sc9 (by rfl)) (listed' := [true, true, true, true, true, true, true, true, true, true, true, true, true, true, true, false, false, false, false, false, false, false, false, false, false, false, false, false, false, false, false, false, false, false]) rfl (by kernel_rfl) (by kernel_rfl) (by kernel_rfl) (by kernel_rfl) (by kernel_rfl) (sub_cons (by repeat constructor) (sub_cons (by repeat constructor) sub_nil)) (fun _ _ _ h => h) rfl ?_; clear hS a; intro a hS
           refine Z_take0 (i := 15) hS rfl (want_go rfl rfl) (e_move rfl) (listed' := [true, true, true, true, true, true, true, true, true, true, true, true, true, true, true, true, false, false, false, false, false, false, false, false, false, false, false, false, false, false, false, false, false, false]) rfl (by kernel_rfl) (by kernel_rfl) (by kernel_rfl) (fun _ _ _ h => h) rfl ?_; clear hS a; intro a hS
           refine Z_take0 (i := 16) hS rfl (want_go rfl rfl) (e_move rfl) (listed' := [true, true, true, true, true, true, true, true, true, true, true, true, true, true, true, true, true, false, false, false, false, false, false, false, false, false, false, false, false, false, false, false, false, false]) rfl (by kernel_rfl) (by kernel_rfl) (by kernel_rfl) (fun _ _ _ h => h) rfl ?_; clear hS a; intro a hS
           refine Z_take0 (i := 17) hS rfl (want_go rfl rfl) (e_ixN rfl rfl ty_sl54 ty_sz58 (by omega)) (listed' := [true, true, true, true, true, true, true, true, true, true, true, true, true, true, true, true, true, true, false, false, false, false, false, false, false, false, false, false, false, false, false, false, false, false]) rfl (by kernel_rfl) (by kernel_rfl) (by kernel_rfl) (fun _ _ _ h => h) rfl ?_; clear hS a; intro a hS
           first | (refine Z_take0 (i := 18) hS rfl (want_go rfl rfl) (e_fa0 rfl ty_fo58_2) (listed' := [true, true, true, true, true, true, true, true, true, true, true, true, true, true, true, true, true, true, true, false, false, false, false, false, false, false, false, false, false, false, false, false, false, false]) rfl (by kernel_rfl) (by kernel_rfl) (by kernel_rfl) (fun _ _ _ h => h) rfl ?_; clear hS a; intro a hS) | (refine Z_take0 (i := 18) hS rfl (want_go rfl rfl) (e_faK rfl ty_fo58_2) (listed' := [true, true, true, true, true, true, true, true, true, true, true, true, true, true, true, true, true, true, true, false, false, false, false, false, false, false, false, false, false, false, false, false, false, false]) rfl (by kernel_rfl) (by kernel_rfl) (by kernel_rfl) (fun _ _ _ h => h) rfl ?_; clear hS a; intro a hS)
           refine Z_take (i := 19) hS rfl (want_go rfl rfl) (e_loadC rfl ty_sc9 (fun w hh => ents_get (by repeat constructor) hx w hh 2 (.string yv.memo) rfl)) (listed' := [true, true, true, true, true, true, true, true, true, true, true, true, true, true, true, true, true, true, true, true, false, false, false, false, false, false, false, false, false, false, false, false, false, false]) rfl (by kernel_rfl) (by kernel_rfl) (by kernel_rfl) (by kernel_rfl) (by kernel_rfl) (sub_cons (by repeat constructor) (sub_cons (by repeat constructor) sub_nil)) (fun _ _ _ h => h) rfl ?_; clear hS a; intro a hS
           refine Z_take0 (i := 20) hS rfl (want_go rfl rfl) (e_binS rfl rfl rfl) (listed' := [true, true, true, true, true, true, true, true, true, true, true, true, true, true, true, true, true, true, true, true, true, false, false, false, false, false, false, false, false, false, false, false, false, false]) rfl (by kernel_rfl) (by kernel_rfl) (by kernel_rfl) (fun _ _ _ h => h) rfl ?_; clear hS a; intro a hS
           first | (refine Z_take0 (i := 21) hS rfl want_none (e_pick_t rfl rfl) (listed' := [true, true, true, true, true, true, true, true, true, true, true, true, true, true, true, true, true, true, true, true, true, true, false, false, false, false, false, false, false, false, false, false, false, false]) rfl (by kernel_rfl) (by kernel_rfl) (by kernel_rfl) (fun _ _ _ h => h) rfl ?_; clear hS a; intro a hS) | (refine Z_take0 (i := 21) hS rfl want_none (e_pick_f rfl rfl) (listed' := [true, true, true, true, true, true, true, true, true, true, true, true, true, true, true, true, true, true, true, true, true, true, false, false, false, false, false, false, false, false, false, false, false, false]) rfl (by kernel_rfl) (by kernel_rfl) (by kernel_rfl) (fun _ _ _ h => h) rfl ?_; clear hS a; intro a hS)
           refine Z_take0 (i := 22) hS rfl want_none (e_move rfl) (listed' := [true, true, true, true, true, true, true, true, true, true, true, true, true, true, true, true, true, true, true, true, true, true, true, false, false, false, false, false, false, false, false, false, false, false]) rfl (by kernel_rfl) (by kernel_rfl) (by kernel_rfl) (fun _ _ _ h => h) rfl ?_; clear hS a; intro a hS
           replace hS := hS.is (t := 173) (c := false) rfl ((by simp))
           first | (refine Z_take0 (i := 23) hS rfl (want_go rfl rfl) (e_fa0 rfl ty_fo58_3) (listed' := [true, true, true, true, true, true, true, true, true, true, true, true, true, true, true, true, true, true, true, true, true, true, true, true, false, false, false, false, false, false, false, false, false, false]) rfl (by kernel_rfl) (by kernel_rfl) (by kernel_rfl) (fun _ _ _ h => h) rfl ?_; clear hS a; intro a hS) | (refine Z_take0 (i := 23) hS rfl (want_go rfl rfl) (e_faK rfl ty_fo58_3) (listed' := [true, true, true, true, true, true, true, true, true, true, true, true, true, true, true, true, true, true, true, true, true, true, true, true, false, false, false, false, false, false, false, false, false, false]) rfl (by kernel_rfl) (by kernel_rfl) (by kernel_rfl) (fun _ _ _ h => h) rfl ?_; clear hS a; intro a hS)
           refine Z_take (i := 24) hS rfl (want_go rfl rfl) (e_load rfl (by repeat constructor) ty_sc56 (by rfl)) (listed' := [true, true, true, true, true, true, true, true, true, true, true, true, true, true, true, true, true, true, true, true, true, true, true, true, true, false, false, false, false, false, false, false, false, false]) rfl (by kernel_rfl) (by kernel_rfl) (by kernel_rfl) (by kernel_rfl) (by kernel_rfl) (sub_cons (by repeat constructor) (sub_cons (by repeat constructor) sub_nil)) (fun _ _ _ h => h) rfl ?_; clear hS a; intro a hS
           refine Z_take0 (i := 25) hS rfl (want_go rfl rfl) (e_move rfl) (listed' := [true, true, true, true, true, true, true, true, true, true, true, true, true, true, true, true, true, true, true, true, true, true, true, true, true, true, false, false, false, false, false, false, false, false]) rfl (by kernel_rfl) (by kernel_rfl) (by kernel_rfl) (fun _ _ _ h => h) rfl ?_; clear hS a; intro a hS
           refine Z_take0 (i := 26) hS rfl (want_go rfl rfl) (e_move rfl) (listed' := [true, true, true, true, true, true, true, true, true, true, true, true, true, true, true, true, true, true, true, true, true, true, true, true, true, true, true, false, false, false, false, false, false, false]) rfl (by kernel_rfl) (by kernel_rfl) (by kernel_rfl) (fun _ _ _ h => h) rfl ?_; clear hS a; intro a hS
           refine Z_take0 (i := 27) hS rfl (want_go rfl rfl) (e_ixN rfl rfl ty_sl54 ty_sz58 (by omega)) (listed' := [true, true, true, true, true, true, true, true, true, true, true, true, true, true, true, true, true, true, true, true, true, true, true, true, true, true, true, true, false, false, false, false, false, false]) rfl (by kernel_rfl) (by kernel_rfl) (by kernel_rfl) (fun _ _ _ h => h) rfl ?_; clear hS a; intro a hS
           first | (refine Z_take0 (i := 28) hS rfl (want_go rfl rfl) (e_fa0 rfl ty_fo58_3) (listed' := [true, true, true, true, true, true, true, true, true, true, true, true, true, true, true, true, true, true, true, true, true, true, true, true, true, true, true, true, true, false, false, false, false, false]) rfl (by kernel_rfl) (by kernel_rfl) (by kernel_rfl) (fun _ _ _ h => h) rfl ?_; clear hS a; intro a hS) | (refine Z_take0 (i := 28) hS rfl (want_go rfl rfl) (e_faK rfl ty_fo58_3) (listed' := [true, true, true, true, true, true, true, true, true, true, true, true, true, true, true, true, true, true, true, true, true, true, true, true, true, true, true, true, true, false, false, false, false, false]) rfl (by kernel_rfl) (by kernel_rfl) (by kernel_rfl) (fun _ _ _ h => h) rfl ?_; clear hS a; intro a hS)
           refine Z_take (i := 29) hS rfl (want_go rfl rfl) (e_loadC rfl ty_sc56 (fun w hh => ents_get (by repeat constructor) hx w hh 3 (psV ⟨yv, xb, xc⟩) rfl)) (listed' := [true, true, true, true, true, true, true, true, true, true, true, true, true, true, true, true, true, true, true, true, true, true, true, true, true, true, true, true, true, true, false, false, false, false]) rfl (by kernel_rfl) (by kernel_rfl) (by kernel_rfl) (by kernel_rfl) (by kernel_rfl) (sub_cons (by repeat constructor) (sub_cons (by repeat constructor) sub_nil)) (fun _ _ _ h => h) rfl ?_; clear hS a; intro a hS
           refine Z_one (i := 30) rfl (want_go rfl rfl a hS.sl) (listed' := [true, true, true, true, true, true, true, true, true, true, true, true, true, true, true, true, true, true, true, true, true, true, true, true, true, true, true, true, true, true, true, false, false, false]) rfl (by kernel_rfl) (s_callN hS (.cons rfl .nil) cf48 rfl (lPosts_P (psV ⟨yv, xb, xc⟩) yv.ps (by omega) _ (psAt_own ((hS.get (X := entsA (.slice (some ⟨g10, 0, none⟩) L.length c10) L) (by repeat constructor)).ps ⟨yv, xb, xc⟩ hxm))) ?_); clear hS a; (try clear w); intro x181 a w hS
           refine Z_and hS (sub_cons (by repeat constructor) (sub_cons (by repeat constructor) sub_nil)) ?_
           refine Z_one (i := 31) rfl (want_go rfl rfl a hS.sl) (listed' := [true, true, true, true, true, true, true, true, true, true, true, true, true, true, true, true, true, true, true, true, true, true, true, true, true, true, true, true, true, true, true, true, false, false]) rfl (by kernel_rfl) (s_callP hS (.cons rfl (.cons rfl .nil)) cf47 rfl (lSame_P (psV ⟨yv, x148.1, x148.2⟩) x181 yv.ps (by omega) _ (psAt_own (hS.get (X := ownA 63 3 (psO yv.ps x148) yv.ps.length (yv.ps.flatMap encP)) (by repeat constructor))) (hS.get (X := ownA 157 3 x181 yv.ps.length (yv.ps.flatMap encP)) (by repeat constructor))) ?_); clear hS a; (try clear w); intro a w hS
           refine Z_and hS (sub_cons (by repeat constructor) (sub_cons (by repeat constructor) sub_nil)) ?_
           refine Z_take0 (i := 32) hS rfl (want_go rfl rfl) (e_not rfl) (listed' := [true, true, true, true, true, true, true, true, true, true, true, true, true, true, true, true, true, true, true, true, true, true, true, true, true, true, true, true, true, true, true, true, true, false]) rfl (by kernel_rfl) (by kernel_rfl) (by kernel_rfl) (fun _ _ _ h => h) rfl ?_; clear hS a; intro a hS
           first | (refine Z_take0 (i := 33) hS rfl want_none (e_pick_t rfl rfl) (listed' := [true, true, true, true, true, true, true, true, true, true, true, true, true, true, true, true, true, true, true, true, true, true, true, true, true, true, true, true, true, true, true, true, true, true]) rfl (by kernel_rfl) (by kernel_rfl) (by kernel_rfl) (fun _ _ _ h => h) rfl ?_; clear hS a; intro a hS) | (refine Z_take0 (i := 33) hS rfl want_none (e_pick_f rfl rfl) (listed' := [true, true, true, true, true, true, true, true, true, true, true, true, true, true, true, true, true, true, true, true, true, true, true, true, true, true, true, true, true, true, true, true, true, true]) rfl (by kernel_rfl) (by kernel_rfl) (by kernel_rfl) (fun _ _ _ h => h) rfl ?_; clear hS a; intro a hS)
           refine Z_done (by kernel_rfl) ?_
           refine n_then ?_
           replace hS := hS.is (t := 184) (c := false) rfl (rfl)
           refine c_if_f hS rfl ?_
           refine wp_skip ?_
           refine n_block ?_
           refine n_then ?_
           refine c_region ?_
           refine L_op (s_e hS (e_move rfl) rfl ?_); clear hS a; intro a hS
           first | (refine L_op (s_e hS (e_binN rfl rfl rfl (by omega)) rfl ?_); clear hS a; intro a hS) | (refine L_op (s_e hS (e_bin rfl rfl rfl) rfl ?_); clear hS a; intro a hS)
           refine L_op (s_e hS (e_assign rfl) rfl ?_); clear hS a; intro a hS
           refine L_nil ?_
           exact ⟨k + 1, by omega, (hS.slots (by repeat (first | exact trivial | refine ⟨rfl, ?_⟩))).pick (by repeat (first | exact Pick.nil | (refine Pick.cons (by repeat (first | exact Rem.head | apply Rem.tail)) ?_))), by omega⟩
         ·
           refine wp_exit ?_
           refine x_then (x_then (x_hit ?_))
           refine n_then ?_
           refine c_seq ?_
           refine c_seq ?_
           refine c_region ?_
           refine L_op (s_e hS (e_move rfl) rfl ?_); clear hS a; intro a hS
           refine L_op (s_e hS (e_bin rfl rfl rfl) rfl ?_); clear hS a; intro a hS
           refine L_nil ?_
           refine n_then ?_
           first | refine c_ifD hS rfl (fun hc186 => ?_) (fun hc186 => ?_) | refine c_if hS rfl (fun hc186 => ?_) (fun hc186 => ?_)
           ·
             refine c_seq ?_
             refine c_region ?_
             refine L_op (s_e hS (e_assign rfl) rfl ?_); clear hS a; intro a hS
             refine L_nil ?_
             refine n_then ?_
             refine wp_ret ?_
             refine r_then ?_
             refine c_ret1 hS Try.results11 (.tmp rfl) ?_
             exact ⟨rfl, hS.chg⟩
           ·
             have hcn : ¬ s.closed < 0 := hc186
             have hci : inst s.closed := by
               rcases hco with e | e
               · exact absurd (show s.closed < 0 from by rw [show s.closed = -1 from e]; decide) hcn
               · exact e
             have hTc : T = s.closed := by rw [← hT]; exact if_neg (by omega)
             rw [hTc] at hS
             refine wp_skip ?_
             refine n_then ?_
             refine c_seq ?_
             refine c_seq ?_
             refine c_region ?_
             refine L_op (s_e hS (e_assign rfl) rfl ?_); clear hS a; intro a hS
             refine L_nil ?_
             refine n_then ?_
             refine wp_block ?_
             skip
             refine c_loop (γ := Nat) (fun k a w => St 222 noB w0 a w [(21, .int .i64 (k : Int)), (9, .slice q9 (accsL s.acs).length c9), (8, .int .i64 s.closed), (7, .pointer (some ⟨B.lb, 0, none⟩))] [ledA B s1 true, ownA 60 3 (.slice q9 (accsL s.acs).length c9) (accsL s.acs).length ((trialF (pl s) s.closed).flatMap encBl)] ∧ k ≤ (accsL s.acs).length) (fun k => (accsL s.acs).length - k) 0 ⟨(hS.slots (by repeat (first | exact trivial | refine ⟨rfl, ?_⟩))).pick (by repeat (first | exact Pick.nil | (refine Pick.cons (by repeat (first | exact Rem.head | apply Rem.tail)) ?_))), Nat.zero_le _⟩ ?_
             clear hS a; (try clear w); intro k a w hI
             obtain ⟨hS, hk⟩ := hI
             refine c_seq ?_
             refine c_seq ?_
             refine c_region ?_
             refine L_op (s_e hS (e_move rfl) rfl ?_); clear hS a; intro a hS
             refine L_op (s_e hS (e_move rfl) rfl ?_); clear hS a; intro a hS
             refine L_op (s_e hS (e_len rfl rfl ty_sl76) rfl ?_); clear hS a; intro a hS
             refine L_op (s_e hS (e_bin rfl rfl rfl) rfl ?_); clear hS a; intro a hS
             refine L_nil ?_
             refine n_then ?_
             first | refine c_ifD hS rfl (fun hc190 => ?_) (fun hc190 => ?_) | refine c_if hS rfl (fun hc190 => ?_) (fun hc190 => ?_)
             ·
               have hkl : k < (accsL s.acs).length := by omega
               obtain ⟨x, hx⟩ : ∃ x, (accsL s.acs)[k]? = some x := ⟨(accsL s.acs)[k], List.getElem?_eq_getElem hkl⟩
               have hxt : (trialF (pl s) s.closed)[k]? = some (x.code, valT (pl s) s.closed x) := by
                 unfold trialF
                 rw [List.getElem?_map, show (accsL (pl s).acs)[k]? = some x from hx]; rfl
               obtain ⟨g9, rfl⟩ : ∃ g, q9 = some ⟨g, 0, none⟩ := own_at (hS.get (X := ownA 60 3 (.slice q9 (accsL s.acs).length c9) (accsL s.acs).length ((trialF (pl s) s.closed).flatMap encBl)) (by repeat constructor)) (by omega)
               have hst := stay_bal hlat hci (Int.le_refl _) (a := x) (List.mem_of_getElem? hx)
               have hb1 : (balF (pl s1) x.code s.closed).1 = ((balF (pl s1) x.code s.closed).1.1, valT (pl s) s.closed x) := by
                 have h1 : (balF (pl s1) x.code s.closed).1.2 = valT (pl s) s.closed x := hst
                 rw [← h1]
               refine wp_skip ?_
               refine n_then ?_
               refine c_seq ?_
               refine wp_block ?_
               refine c_seq ?_
               refine c_region ?_
               refine L_op (s_e hS (e_move rfl) rfl ?_); clear hS a; intro a hS
               refine L_op (s_e hS (e_move rfl) rfl ?_); clear hS a; intro a hS
               refine L_op (s_e hS (e_move rfl) rfl ?_); clear hS a; intro a hS
               refine L_op (s_e hS (e_ixN rfl rfl ty_sl76 ty_sz60 (by omega)) rfl ?_); clear hS a; intro a hS
               first | (refine L_op (s_e hS (e_fa0 rfl ty_fo60_0) rfl ?_); clear hS a; intro a hS) | (refine L_op (s_e hS (e_faK rfl ty_fo60_0) rfl ?_); clear hS a; intro a hS)
               refine L_op (s_e hS (e_loadC rfl ty_sc9 (fun w hh => own_getT (by repeat constructor) hxt w hh 0 (.string x.code) rfl)) rfl ?_); clear hS a; intro a hS
               refine L_op (s_e hS (e_move rfl) rfl ?_); clear hS a; intro a hS
               refine L_op (s_callP hS (.cons rfl (.cons rfl (.cons rfl .nil))) cf29 rfl (lBal_P B s1 x.code s.closed (hw1.fitL (by omega)) _ (hS.get (X := ledA B s1 true) (by repeat constructor))) ?_); clear hS a; (try clear w); intro a w hS
               rw [hb1] at hS
               refine L_op (s_e hS (e_move rfl) rfl ?_); clear hS a; intro a hS
               refine L_op (s_e hS (e_extract rfl rfl) rfl ?_); clear hS a; intro a hS
               refine L_op (s_e hS (e_extract rfl rfl) rfl ?_); clear hS a; intro a hS
               refine L_op (s_alloc hS ty_z60 rfl ?_); clear hS a; (try clear w); intro a w b22 hS
               refine L_op (s_storeA hS rfl rfl ty_sz60 (by repeat constructor) (by rfl) (by rfl) (by rfl) ?_); clear hS; (try clear w); intro w hS
               refine L_op (s_e hS (e_assign rfl) rfl ?_); clear hS a; intro a hS
               refine L_nil ?_
               refine n_then ?_
               refine c_seq ?_
               refine c_drawS [] (by kernel_rfl) hS (sub_cons (X := .blk b22 _ _) (by repeat constructor) (sub_cons (X := ownA 60 3 (.slice (some ⟨g9, 0, none⟩) (accsL s.acs).length c9) (accsL s.acs).length ((trialF (pl s) s.closed).flatMap encBl)) (by repeat constructor) sub_nil)) ?_; clear hS; (try clear w); intro w hS
               simp only [List.length_cons, List.length_nil, Nat.zero_add, Nat.reduceAdd, List.replicate]
               first | (refine Z_take0 (i := 0) hS rfl want_none (e_fa0 rfl ty_fo60_1) (listed' := [true, false, false, false, false, false, false, false, false, false, false, false, false, false, false, false, false, false]) rfl (by kernel_rfl) (by kernel_rfl) (by kernel_rfl) (fun _ _ _ h => h) rfl ?_; clear hS a; intro a hS) | (refine Z_take0 (i := 0) hS rfl want_none (e_faK rfl ty_fo60_1) (listed' := [true, false, false, false, false, false, false, false, false, false, false, false, false, false, false, false, false, false]) rfl (by kernel_rfl) (by kernel_rfl) (by kernel_rfl) (fun _ _ _ h => h) rfl ?_; clear hS a; intro a hS)
               refine Z_take (i := 1) hS rfl want_none (e_load rfl (by repeat constructor) ty_sc3 (by rfl)) (listed' := [true, true, false, false, false, false, false, false, false, false, false, false, false, false, false, false, false, false]) rfl (by kernel_rfl) (by kernel_rfl) (by kernel_rfl) (by kernel_rfl) (by kernel_rfl) (sub_cons (by repeat constructor) (sub_cons (by repeat constructor) sub_nil)) (fun _ _ _ h => h) rfl ?_; clear hS a; intro a hS
               refine Z_take0 (i := 2) hS rfl want_none (e_move rfl) (listed' := [true, true, true, false, false, false, false, false, false, false, false, false, false, false, false, false, false, false]) rfl (by kernel_rfl) (by kernel_rfl) (by kernel_rfl) (fun _ _ _ h => h) rfl ?_; clear hS a; intro a hS
               refine Z_take0 (i := 3) hS rfl want_none (e_move rfl) (listed' := [true, true, true, true, false, false, false, false, false, false, false, false, false, false, false, false, false, false]) rfl (by kernel_rfl) (by kernel_rfl) (by kernel_rfl) (fun _ _ _ h => h) rfl ?_; clear hS a; intro a hS
               refine Z_take0 (i := 4) hS rfl want_none (e_ixN rfl rfl ty_sl76 ty_sz60 (by omega)) (listed' := [true, true, true, true, true, false, false, false, false, false, false, false, false, false, false, false, false, false]) rfl (by kernel_rfl) (by kernel_rfl) (by kernel_rfl) (fun _ _ _ h => h) rfl ?_; clear hS a; intro a hS
               first | (refine Z_take0 (i := 5) hS rfl want_none (e_fa0 rfl ty_fo60_1) (listed' := [true, true, true, true, true, true, false, false, false, false, false, false, false, false, false, false, false, false]) rfl (by kernel_rfl) (by kernel_rfl) (by kernel_rfl) (fun _ _ _ h => h) rfl ?_; clear hS a; intro a hS) | (refine Z_take0 (i := 5) hS rfl want_none (e_faK rfl ty_fo60_1) (listed' := [true, true, true, true, true, true, false, false, false, false, false, false, false, false, false, false, false, false]) rfl (by kernel_rfl) (by kernel_rfl) (by kernel_rfl) (fun _ _ _ h => h) rfl ?_; clear hS a; intro a hS)
               refine Z_take (i := 6) hS rfl want_none (e_loadC rfl ty_sc3 (fun w hh => own_getT (by repeat constructor) hxt w hh 1 (.int .i64 (valT (pl s) s.closed x).1) rfl)) (listed' := [true, true, true, true, true, true, true, false, false, false, false, false, false, false, false, false, false, false]) rfl (by kernel_rfl) (by kernel_rfl) (by kernel_rfl) (by kernel_rfl) (by kernel_rfl) (sub_cons (by repeat constructor) (sub_cons (by repeat constructor) sub_nil)) (fun _ _ _ h => h) rfl ?_; clear hS a; intro a hS
               refine Z_take0 (i := 7) hS rfl want_none (e_bin rfl rfl rfl) (listed' := [true, true, true, true, true, true, true, true, false, false, false, false, false, false, false, false, false, false]) rfl (by kernel_rfl) (by kernel_rfl) (by kernel_rfl) (fun _ _ _ h => h) rfl ?_; clear hS a; intro a hS
               refine Z_take0 (i := 8) hS rfl want_none (e_move rfl) (listed' := [true, true, true, true, true, true, true, true, true, false, false, false, false, false, false, false, false, false]) rfl (by kernel_rfl) (by kernel_rfl) (by kernel_rfl) (fun _ _ _ h => h) rfl ?_; clear hS a; intro a hS
               replace hS := hS.is (t := 212) (c := false) rfl ((by simp))
               first | (refine Z_take0 (i := 9) hS rfl (want_go rfl rfl) (e_fa0 rfl ty_fo60_2) (listed' := [true, true, true, true, true, true, true, true, true, true, false, false, false, false, false, false, false, false]) rfl (by kernel_rfl) (by kernel_rfl) (by kernel_rfl) (fun _ _ _ h => h) rfl ?_; clear hS a; intro a hS) | (refine Z_take0 (i := 9) hS rfl (want_go rfl rfl) (e_faK rfl ty_fo60_2) (listed' := [true, true, true, true, true, true, true, true, true, true, false, false, false, false, false, false, false, false]) rfl (by kernel_rfl) (by kernel_rfl) (by kernel_rfl) (fun _ _ _ h => h) rfl ?_; clear hS a; intro a hS)
               refine Z_take (i := 10) hS rfl (want_go rfl rfl) (e_load rfl (by repeat constructor) ty_sc3 (by rfl)) (listed' := [true, true, true, true, true, true, true, true, true, true, true, false, false, false, false, false, false, false]) rfl (by kernel_rfl) (by kernel_rfl) (by kernel_rfl) (by kernel_rfl) (by kernel_rfl) (sub_cons (by repeat constructor) (sub_cons (by repeat constructor) sub_nil)) (fun _ _ _ h => h) rfl ?_; clear hS a; intro a hS
               refine Z_take0 (i := 11) hS rfl (want_go rfl rfl) (e_move rfl) (listed' := [true, true, true, true, true, true, true, true, true, true, true, true, false, false, false, false, false, false]) rfl (by kernel_rfl) (by kernel_rfl) (by kernel_rfl) (fun _ _ _ h => h) rfl ?_; clear hS a; intro a hS
               refine Z_take0 (i := 12) hS rfl (want_go rfl rfl) (e_move rfl) (listed' := [true, true, true, true, true, true, true, true, true, true, true, true, true, false, false, false, false, false]) rfl (by kernel_rfl) (by kernel_rfl) (by kernel_rfl) (fun _ _ _ h => h) rfl ?_; clear hS a; intro a hS
               refine Z_take0 (i := 13) hS rfl (want_go rfl rfl) (e_ixN rfl rfl ty_sl76 ty_sz60 (by omega)) (listed' := [true, true, true, true, true, true, true, true, true, true, true, true, true, true, false, false, false, false]) rfl (by kernel_rfl) (by kernel_rfl) (by kernel_rfl) (fun _ _ _ h => h) rfl ?_; clear hS a; intro a hS
               first | (refine Z_take0 (i := 14) hS rfl (want_go rfl rfl) (e_fa0 rfl ty_fo60_2) (listed' := [true, true, true, true, true, true, true, true, true, true, true, true, true, true, true, false, false, false]) rfl (by kernel_rfl) (by kernel_rfl) (by kernel_rfl) (fun _ _ _ h => h) rfl ?_; clear hS a; intro a hS) | (refine Z_take0 (i := 14) hS rfl (want_go rfl rfl) (e_faK rfl ty_fo60_2) (listed' := [true, true, true, true, true, true, true, true, true, true, true, true, true, true, true, false, false, false]) rfl (by kernel_rfl) (by kernel_rfl) (by kernel_rfl) (fun _ _ _ h => h) rfl ?_; clear hS a; intro a hS)
               refine Z_take (i := 15) hS rfl (want_go rfl rfl) (e_loadC rfl ty_sc3 (fun w hh => own_getT (by repeat constructor) hxt w hh 2 (.int .i64 (valT (pl s) s.closed x).2) rfl)) (listed' := [true, true, true, true, true, true, true, true, true, true, true, true, true, true, true, true, false, false]) rfl (by kernel_rfl) (by kernel_rfl) (by kernel_rfl) (by kernel_rfl) (by kernel_rfl) (sub_cons (by repeat constructor) (sub_cons (by repeat constructor) sub_nil)) (fun _ _ _ h => h) rfl ?_; clear hS a; intro a hS
               refine Z_take0 (i := 16) hS rfl (want_go rfl rfl) (e_bin rfl rfl rfl) (listed' := [true, true, true, true, true, true, true, true, true, true, true, true, true, true, true, true, true, false]) rfl (by kernel_rfl) (by kernel_rfl) (by kernel_rfl) (fun _ _ _ h => h) rfl ?_; clear hS a; intro a hS
               first | (refine Z_take0 (i := 17) hS rfl want_none (e_pick_t rfl rfl) (listed' := [true, true, true, true, true, true, true, true, true, true, true, true, true, true, true, true, true, true]) rfl (by kernel_rfl) (by kernel_rfl) (by kernel_rfl) (fun _ _ _ h => h) rfl ?_; clear hS a; intro a hS) | (refine Z_take0 (i := 17) hS rfl want_none (e_pick_f rfl rfl) (listed' := [true, true, true, true, true, true, true, true, true, true, true, true, true, true, true, true, true, true]) rfl (by kernel_rfl) (by kernel_rfl) (by kernel_rfl) (fun _ _ _ h => h) rfl ?_; clear hS a; intro a hS)
               refine Z_done (by kernel_rfl) ?_
               refine n_then ?_
               replace hS := hS.is (t := 221) (c := false) rfl ((by simp))
               refine c_if_f hS rfl ?_
               refine wp_skip ?_
               refine n_block ?_
               refine n_then ?_
               refine c_region ?_
               refine L_op (s_e hS (e_move rfl) rfl ?_); clear hS a; intro a hS
               first | (refine L_op (s_e hS (e_binN rfl rfl rfl (by omega)) rfl ?_); clear hS a; intro a hS) | (refine L_op (s_e hS (e_bin rfl rfl rfl) rfl ?_); clear hS a; intro a hS)
               refine L_op (s_e hS (e_assign rfl) rfl ?_); clear hS a; intro a hS
               refine L_nil ?_
               exact ⟨k + 1, by omega, (hS.slots (by repeat (first | exact trivial | refine ⟨rfl, ?_⟩))).pick (by repeat (first | exact Pick.nil | (refine Pick.cons (by repeat (first | exact Rem.head | apply Rem.tail)) ?_))), by omega⟩
             ·
               refine wp_exit ?_
               refine x_then (x_then (x_hit ?_))
               refine n_then ?_
               refine c_seq ?_
               refine c_region ?_
               refine L_op (s_e hS (e_assign rfl) rfl ?_); clear hS a; intro a hS
               refine L_nil ?_
               refine n_then ?_
               refine wp_ret ?_
               refine c_ret1 hS Try.results11 (.tmp rfl) ?_
               exact ⟨rfl, hS.chg⟩
end Go.Proofs.Ytheofhegdjjfgaa

namespace Go.Proofs.Ytheofhegdjjfgaa.Open
set_option maxRecDepth 100000
open Go.ChangeShapes Go.WideShapes Go.Deep
section
variable {H : Type} {enc : TypeId × Value → H} {P : Program} {w : World} {base : Nat} {spare : Nat → Bool} {held : Bool}
theorem open_slice_fields {t e : TypeId} {fs : Array Field} {fuel : Nat} {cs : List Value} {x : DataW H × List MemPlace} (ht : P.underlying t = some (.slice e)) (he : P.underlying e = some (.struct fs))
    (hone : oneCellFields P fs = true) (hC : P.cellsOf e = fs.size) (h : DataW.trod enc P w base spare held fuel t cs = some x) :
    (cs = [.slice none 0 0] ∧ x = (.nil, [])) ∨
    ∃ (a : Addr) (len cap m : Nat) (D : Nat → DataW H) (Pl : Nat → List MemPlace), cs = [.slice (some a) len cap] ∧ base ≤ a.block ∧ len ≤ cap ∧ cap ≤ maxLen ∧ m = (if spare a.block then cap else len) ∧
      x = (.slice ((List.range len).map D) ((List.range (m - len)).map fun j => D (len + j)), MemPlace.row a (m * fs.size) ++ (List.range m).flatMap Pl) ∧
      ∀ i, i < m → ∃ (ys : List (DataW H × List MemPlace)) (n : Nat), D i = .agg (ys.map (·.1)) ∧ Pl i = ys.flatMap (·.2) ∧ ys.length = fs.size ∧
        ∀ (j : Nat) (f : Field), fs[j]? = some f → ∃ (v : Value) (y : DataW H × List MemPlace), w.cell? (a.add (i * fs.size + j)) = some v ∧ ys[j]? = some y ∧ DataW.trod enc P w base spare held n f.type [v] = some y := by
  rcases open_slice ht h with h0 | ⟨a, len, cap, m, n, D, Pl, hcs, hb, hl, hm, hmm, hx, hi⟩
  · exact .inl h0
  · refine .inr ⟨a, len, cap, m, D, Pl, hcs, hb, hl, hm, hmm, by rw [hC] at hx; exact hx, fun i him => ?_⟩
    obtain ⟨cs', hc, ht'⟩ := hi i him
    rw [hC] at hc
    obtain ⟨ys, n', hn', hy, hlen, hyl, hf⟩ := DataW.trod_struct he ht'
    obtain ⟨_, hcl, hat⟩ := World.cells?_some hc
    simp only [Prod.mk.injEq] at hy
    refine ⟨ys, n', hy.1, hy.2, hyl, fun j f hj => ?_⟩
    obtain ⟨ho, hk⟩ := hone_of hone j f hj
    have hjl : j < fs.size := (Array.getElem?_eq_some_iff.1 hj).1
    have hcell := hat j hjl
    have hv : cs'[j]? = some (cs'[j]'(by omega)) := List.getElem?_eq_getElem (by omega)
    have h1 := hf j f hj
    rw [ho, hk] at h1
    have hone' : (cs'.drop j).take 1 = [cs'[j]'(by omega)] := by
      rw [List.drop_eq_getElem_cons (by omega)]
      rfl
    rw [hone'] at h1
    have hys : ys[j]? = some (ys[j]'(by omega)) := List.getElem?_eq_getElem (by omega)
    refine ⟨_, _, ?_, hys, h1.trans hys⟩
    rw [← Go.Deep.add_add, hcell, hv]
end

section
variable {H : Type} {enc : TypeId × Value → H}
theorem weights_all {P : Program} {e : TypeId} {d : DataW H} {n : Nat} (hn : n ∈ d.weights P e) : ∀ {l : List (DataW H)}, d ∈ l → n ∈ DataW.weightsAll P e l
  | x :: r, h => by
    simp only [DataW.weightsAll, List.mem_append]
    rcases List.mem_cons.1 h with rfl | h
    · exact .inl hn
    · exact .inr (weights_all hn h)

theorem shape_lt {w : World} {b : Nat} {x : TypeId × Nat} (h : w.shape? b = some x) : b < w.heap.size := by
  unfold World.shape? at h
  by_cases hb : b < w.heap.size
  · exact hb
  · rw [Array.getElem?_eq_none (by omega)] at h; cases h

theorem add_spot {a : Addr} (h : a.spot = none) (n : Nat) : a.add n = ⟨a.block, a.off + n, none⟩ := by
  unfold Addr.add
  split
  · next h0 => subst h0; cases a; simp_all
  · rfl


/-- a slice's outer form, as it came in. -/
theorem slice_has {W : World} {base : Nat} {t e : TypeId} {a : Addr} {len cap : Nat} (hu : Try.prog.underlying t = some (.slice e)) (h : Value.okWide Try.prog W .any base t (.slice (some a) len cap)) : a.spot = none ∧ a.block < W.heap.size := by
  unfold Value.okWide at h
  rw [hu] at h
  simp only at h
  unfold Cell.okWide at h
  rw [hu] at h
  simp only at h
  unfold Cell.ok at h
  rw [hu] at h
  simp only at h
  obtain ⟨_, _, _, hs, row, cells, hsh, _⟩ := h
  exact ⟨hs, shape_lt hsh⟩
end
end Go.Proofs.Ytheofhegdjjfgaa.Open
