/- A book of invoices as plain data: what each call answers, and what it makes of the list. -/
import Derived.Test.YtfiaobhkhedpiaaInv9
import Derived.Test.YtfiaobhkhedpiaaLPays
import Derived.Test.YtfiaobhkhedpiaaSe8
namespace Go.Proofs.Ytfiaobhkhedpiaa
open Go.RowKit

def vs (its : List IA) : List Inv := its.map (·.v)
theorem vs_len (its : List IA) : (vs its).length = its.length := by simp [vs]
theorem vs_get {its : List IA} {k : Nat} {x : IA} (h : its[k]? = some x) : (vs its)[k]? = some x.v := by simp [vs, h]
theorem vs_set {its : List IA} {k : Nat} {x : IA} : vs (its.set k x) = (vs its).set k x.v := by simp [vs, List.map_set]
theorem vs_snoc {its : List IA} {x : IA} : vs (its ++ [x]) = vs its ++ [x.v] := by simp [vs]

/-- the error of an issue. -/
def issE (l : List Inv) (account cur : ByteArray) (at_ f t : Int) (ln : List RLine) : Int :=
  if askE account cur at_ f t ln.length l.length ≠ 0 then askE account cur at_ f t ln.length l.length
  else if firstErr ln ≠ 0 then firstErr ln
  else if (sumR ln).2.2 ≠ 0 then (sumR ln).2.2
  else if l.filter (billedB account f t) ≠ [] then 3 else 0
theorem issE_eq (its : List IA) (account cur : ByteArray) (at_ f t : Int) (ln : List RLine) : issueE its account cur at_ f t ln = issE (vs its) account cur at_ f t ln := by
  unfold issueE issE someL; rw [vs_len]; rfl
def issF (l : List Inv) (account cur : ByteArray) (at_ f t : Int) (ln : List RLine) : List Inv × Int × Int :=
  if issE l account cur at_ f t ln = 0 then (l ++ [newInv l.length account cur at_ f t ln], l.length + 1, 0) else (l, 0, issE l account cur at_ f t ln)
def payV (add : Inv → Int → Inv) (v : Inv) (u : Int) : Inv × Int × Int :=
  if v.state ≠ 1 then (v, 0, 25) else if u < 1 ∨ leftI v < u then (v, 0, 6) else (doneI (add v u), leftI (add v u), 0)
def voidV (v : Inv) : Inv × Int := if v.state ≠ 1 ∨ 0 < v.paid + v.credited then (v, 25) else (voidI v, 0)
def payF (add : Inv → Int → Inv) (l : List Inv) (number u : Int) : List Inv × Int × Int :=
  if number < 1 then (l, 0, 2) else match l[(number - 1).toNat]? with
  | none => (l, 0, 2)
  | some v => (l.set (number - 1).toNat (payV add v u).1, (payV add v u).2.1, (payV add v u).2.2)
def voidF (l : List Inv) (number : Int) : List Inv × Int :=
  if number < 1 then (l, 2) else match l[(number - 1).toNat]? with
  | none => (l, 2)
  | some v => (l.set (number - 1).toNat (voidV v).1, (voidV v).2)

theorem payF_none {add : Inv → Int → Inv} {l : List Inv} {number u : Int} (h : number < 1 ∨ (l.length : Int) < number) : payF add l number u = (l, 0, 2) := by
  unfold payF
  by_cases h1 : number < 1
  · rw [if_pos h1]
  · rw [if_neg h1, List.getElem?_eq_none (by omega)]
theorem payF_some {add : Inv → Int → Inv} {l : List Inv} {k : Nat} {u : Int} {v : Inv} (h : l[k]? = some v) : payF add l ((k : Int) + 1) u = (l.set k (payV add v u).1, (payV add v u).2.1, (payV add v u).2.2) := by
  unfold payF
  rw [if_neg (by omega), show ((k : Int) + 1 - 1).toNat = k by omega, h]
theorem voidF_none {l : List Inv} {number : Int} (h : number < 1 ∨ (l.length : Int) < number) : voidF l number = (l, 2) := by
  unfold voidF
  by_cases h1 : number < 1
  · rw [if_pos h1]
  · rw [if_neg h1, List.getElem?_eq_none (by omega)]
theorem voidF_some {l : List Inv} {k : Nat} {v : Inv} (h : l[k]? = some v) : voidF l ((k : Int) + 1) = (l.set k (voidV v).1, (voidV v).2) := by
  unfold voidF
  rw [if_neg (by omega), show ((k : Int) + 1 - 1).toNat = k by omega, h]
theorem payRel_V {add : Inv → Int → Inv} {x y : IA} {u m f : Int} (h : PayRel add x u y m f) : payV add x.v u = (y.v, m, f) := by
  unfold payV
  rcases h with ⟨h1, rfl, rfl, rfl⟩ | ⟨h1, h2, rfl, rfl, rfl⟩ | ⟨h1, h2, rfl, rfl, rfl⟩
  · rw [if_pos (by omega)]
  · rw [if_neg (by simp [h1]), if_pos h2]
  · rw [if_neg (by simp [h1]), if_neg (by omega)]
theorem voidRel_V {x y : IA} {f : Int} (h : VoidRel x y f) : voidV x.v = (y.v, f) := by
  unfold voidV
  rcases h with ⟨h1, rfl, rfl⟩ | ⟨h1, h2, rfl, rfl⟩
  · rw [if_pos h1]
  · rw [if_neg (by omega)]

theorem its_get {its : List IA} {number : Int} (h1 : ¬ number < 1) (h2 : number ≤ its.length) : ∃ (k : Nat) (x : IA), number = (k : Int) + 1 ∧ its[k]? = some x :=
  ⟨(number - 1).toNat, its[(number - 1).toNat]'(by omega), by omega, List.getElem?_eq_getElem (by omega)⟩

theorem Pay_F (bk : Nat) (sv : Value) (its : List IA) (hg : ∀ x ∈ its, goodI x.v) (number units : Int) (hn : its.length ≤ 1000000) (w0 : World) (h : bookφ bk sv its w0) :
    MutC Try.prog 18 [.pointer (some ⟨bk, 0, none⟩), .int .i64 number, .int .i64 units] w0 (bookA bk sv its true) (fun _ : { y : List IA // vs y = (payF addP (vs its) number units).1 } => .tuple [.int .i64 (payF addP (vs its) number units).2.1, .int .i64 (payF addP (vs its) number units).2.2].toArray) (fun y => bookA bk sv y.1 true) := by
  by_cases h0 : number < 1 ∨ (its.length : Int) < number
  · have e := payF_none (add := addP) (l := vs its) (u := units) (by rw [vs_len]; exact h0)
    exact pure_mut (Pay_none bk sv its number units hn w0 h h0) (book_ok true h) ⟨its, by rw [e]⟩ (by rw [e]) rfl
  · obtain ⟨k, x, rfl, hx⟩ := its_get (its := its) (number := number) (by omega) (by omega)
    have e := payF_some (add := addP) (u := units) (vs_get hx)
    exact (Pay_any bk sv its k x hx (hg x (List.mem_of_getElem? hx)) units hn w0 h).mono fun e' w' ⟨⟨(y, m, f), hr⟩, he, hc, hY, hF⟩ => by
      have e2 := payRel_V hr
      refine ⟨⟨its.set k y, by rw [e, vs_set, e2]⟩, ?_, hc, hY, hF⟩
      dsimp only; rw [e, e2]; exact he
theorem Credit_F (bk : Nat) (sv : Value) (its : List IA) (hg : ∀ x ∈ its, goodI x.v) (number units : Int) (hn : its.length ≤ 1000000) (w0 : World) (h : bookφ bk sv its w0) :
    MutC Try.prog 19 [.pointer (some ⟨bk, 0, none⟩), .int .i64 number, .int .i64 units] w0 (bookA bk sv its true) (fun _ : { y : List IA // vs y = (payF addC (vs its) number units).1 } => .tuple [.int .i64 (payF addC (vs its) number units).2.1, .int .i64 (payF addC (vs its) number units).2.2].toArray) (fun y => bookA bk sv y.1 true) := by
  by_cases h0 : number < 1 ∨ (its.length : Int) < number
  · have e := payF_none (add := addC) (l := vs its) (u := units) (by rw [vs_len]; exact h0)
    exact pure_mut (Credit_none bk sv its number units hn w0 h h0) (book_ok true h) ⟨its, by rw [e]⟩ (by rw [e]) rfl
  · obtain ⟨k, x, rfl, hx⟩ := its_get (its := its) (number := number) (by omega) (by omega)
    have e := payF_some (add := addC) (u := units) (vs_get hx)
    exact (Credit_any bk sv its k x hx (hg x (List.mem_of_getElem? hx)) units hn w0 h).mono fun e' w' ⟨⟨(y, m, f), hr⟩, he, hc, hY, hF⟩ => by
      have e2 := payRel_V hr
      refine ⟨⟨its.set k y, by rw [e, vs_set, e2]⟩, ?_, hc, hY, hF⟩
      dsimp only; rw [e, e2]; exact he
theorem Void_F (bk : Nat) (sv : Value) (its : List IA) (hg : ∀ x ∈ its, goodI x.v) (number : Int) (hn : its.length ≤ 1000000) (w0 : World) (h : bookφ bk sv its w0) :
    MutC Try.prog 22 [.pointer (some ⟨bk, 0, none⟩), .int .i64 number] w0 (bookA bk sv its true) (fun _ : { y : List IA // vs y = (voidF (vs its) number).1 } => .int .i64 (voidF (vs its) number).2) (fun y => bookA bk sv y.1 true) := by
  by_cases h0 : number < 1 ∨ (its.length : Int) < number
  · have e := voidF_none (l := vs its) (by rw [vs_len]; exact h0)
    exact pure_mut (Void_none bk sv its number hn w0 h h0) (book_ok true h) ⟨its, by rw [e]⟩ (by rw [e]) rfl
  · obtain ⟨k, x, rfl, hx⟩ := its_get (its := its) (number := number) (by omega) (by omega)
    have e := voidF_some (vs_get hx)
    exact (Void_any bk sv its k x hx (hg x (List.mem_of_getElem? hx)) hn w0 h).mono fun e' w' ⟨⟨(y, f), hr⟩, he, hc, hY, hF⟩ => by
      have e2 := voidRel_V hr
      refine ⟨⟨its.set k y, by rw [e, vs_set, e2]⟩, ?_, hc, hY, hF⟩
      dsimp only; rw [e, e2]; exact he
theorem Issue_F (bk : Nat) (sv : Value) (its : List IA) (account cur : ByteArray) (at_ f t : Int) (p : Option (Nat × Nat)) (c : Nat) (hc : p = none → c = 0) (l : List RLine) (hs : account.size ≤ 4611686018427387904) (hn : its.length ≤ 1000000) (hls : ∀ x ∈ its, x.v.lines.length ≤ 1000000)
    (hlen : l.length ≤ 1000000) (hfit : ∀ x ∈ l, x.fits) (w0 : World) (h : bookφ bk sv its w0) (hrow : RowP p 4 (l.map encL) w0) (hpb : ∀ q, p = some q → q.1 < w0.heap.size ∧ ¬ bookF bk sv its q.1) :
    MutC Try.prog 15 [.pointer (some ⟨bk, 0, none⟩), .string account, .string cur, .int .i64 at_, .int .i64 f, .int .i64 t, sliceV p l.length c] w0 (bookA bk sv its true) (fun _ : { y : Value × List IA // vs y.2 = (issF (vs its) account cur at_ f t l).1 } => .tuple [.int .i64 (issF (vs its) account cur at_ f t l).2.1, .int .i64 (issF (vs its) account cur at_ f t l).2.2].toArray) (fun y => bookA bk y.1.1 y.1.2 true) := by
  by_cases h0 : issueE its account cur at_ f t l = 0
  · have e : issF (vs its) account cur at_ f t l = (vs its ++ [newInv its.length account cur at_ f t l], (its.length : Int) + 1, 0) := by
      unfold issF; rw [← issE_eq, if_pos h0, vs_len]
    exact (Issue_ok bk sv its account cur at_ f t p c hc l hs hls hfit w0 h hrow hpb h0).mono fun e' w' ⟨⟨(sv', x), hv⟩, he, hc, hY, hF⟩ => by
      refine ⟨⟨(sv', its ++ [x]), by rw [e, vs_snoc, show x.v = _ from hv]⟩, ?_, hc, hY, hF⟩
      dsimp only; rw [e]; exact he
  · have e : issF (vs its) account cur at_ f t l = (vs its, 0, issueE its account cur at_ f t l) := by
      unfold issF; rw [← issE_eq, if_neg h0]
    exact pure_mut (Issue_err bk sv its account cur at_ f t p c l hs hn hls hlen hfit w0 h hrow hpb h0) (book_ok true h) ⟨(sv, its), by rw [e]⟩ (by rw [e]) rfl

/-! ### what holds in each state -/
def meet (x y : Inv) : Prop := x.account = y.account ∧ x.state ≠ 3 ∧ y.state ≠ 3 ∧ x.from_ < y.to_ ∧ y.from_ < x.to_
/-- an invoice's own numbers are right. -/
structure rightI (v : Inv) : Prop extends goodI v where
  net : v.net = sumN v.lines
  tax : v.tax = sumT v.lines
  total : v.total = v.net + v.tax
  done : v.state ≠ 3 → (v.paid + v.credited = v.total ↔ v.state = 2)
  fit : ∀ x ∈ v.lines, x.fits
  pos : 0 ≤ v.net ∧ 0 ≤ v.tax
structure rightB (l : List Inv) : Prop where
  num : ∀ (k : Nat) v, l[k]? = some v → v.number = (k : Int) + 1
  each : ∀ v ∈ l, rightI v
  apart : ∀ (j k : Nat) x y, j < k → l[j]? = some x → l[k]? = some y → ¬ meet x y
/-- what a call leaves as it was. -/
structure stays (bad : Bool) (x y : Inv) : Prop where
  same : y.at_ = x.at_ ∧ y.from_ = x.from_ ∧ y.to_ = x.to_ ∧ y.total = x.total ∧ y.account = x.account ∧ y.lines = x.lines ∧ y.number = x.number ∧ y.net = x.net ∧ y.tax = x.tax
  shut : bad = true ∨ x.state ≠ 1 → y.state = x.state ∧ y.paid = x.paid ∧ y.credited = x.credited
  void : x.state = 3 → y.state = 3
structure goes (bad : Bool) (l l' : List Inv) : Prop where
  len : l.length ≤ l'.length ∧ (bad = true → l'.length = l.length)
  kept : ∀ (k : Nat) x, l[k]? = some x → ∃ y, l'[k]? = some y ∧ stays bad x y

theorem stays_refl (bad : Bool) (x : Inv) : stays bad x x := ⟨⟨rfl, rfl, rfl, rfl, rfl, rfl, rfl, rfl, rfl⟩, fun _ => ⟨rfl, rfl, rfl⟩, fun h => h⟩
theorem goes_refl (bad : Bool) (l : List Inv) : goes bad l l := ⟨⟨Nat.le_refl _, fun _ => rfl⟩, fun _ x h => ⟨x, h, stays_refl bad x⟩⟩
theorem right_nil : rightB [] := ⟨fun _ _ h => (by simp at h), fun _ h => (by cases h), fun _ _ _ _ _ h => (by simp at h)⟩

/-- one invoice turned. -/
theorem right_set {l : List Inv} (h : rightB l) {k : Nat} {x y : Inv} (hx : l[k]? = some x) (hy : rightI y) (hs : stays false x y) : rightB (l.set k y) := by
  have hlt := (List.getElem?_eq_some_iff.1 hx).1
  have key : ∀ (j : Nat) v, (l.set k y)[j]? = some v → ∃ u, l[j]? = some u ∧ stays false u v := fun j v hv => by
    by_cases e : k = j
    · subst e; rw [List.getElem?_set_self hlt] at hv; cases hv; exact ⟨x, hx, hs⟩
    · rw [List.getElem?_set_ne e] at hv; exact ⟨v, hv, stays_refl _ _⟩
  refine ⟨fun j v hv => ?_, fun v hv => ?_, fun i j u v hij hu hv => ?_⟩
  · obtain ⟨u, hu, hs⟩ := key j v hv
    rw [hs.same.2.2.2.2.2.2.1, h.num j u hu]
  · rcases List.mem_or_eq_of_mem_set hv with hv | rfl
    · exact h.each v hv
    · exact hy
  · obtain ⟨u', hu', su⟩ := key i u hu
    obtain ⟨v', hv', sv⟩ := key j v hv
    have hn := h.apart i j u' v' hij hu' hv'
    rintro ⟨m1, m2, m3, m4, m5⟩
    refine hn ⟨?_, fun e => m2 (su.void e), fun e => m3 (sv.void e), ?_, ?_⟩
    · rw [← su.same.2.2.2.2.1, ← sv.same.2.2.2.2.1]; exact m1
    · rw [← su.same.2.1, ← sv.same.2.2.1]; exact m4
    · rw [← sv.same.2.1, ← su.same.2.2.1]; exact m5
theorem goes_set {l : List Inv} {k : Nat} {x y : Inv} (hx : l[k]? = some x) {bad : Bool} (hs : stays bad x y) : goes bad l (l.set k y) := by
  have hlt := (List.getElem?_eq_some_iff.1 hx).1
  refine ⟨by simp, fun j u hu => ?_⟩
  by_cases e : k = j
  · subst e; rw [hx] at hu; cases hu; exact ⟨y, by simp [hlt], hs⟩
  · exact ⟨u, by rw [List.getElem?_set_ne e]; exact hu, stays_refl _ _⟩

theorem pay_right {v : Inv} (h : rightI v) (u : Int) : rightI (payV addP v u).1 ∧ stays (decide ((payV addP v u).2.2 ≠ 0)) v (payV addP v u).1 := by
  unfold payV
  split
  · exact ⟨h, stays_refl _ _⟩
  · split
    · exact ⟨h, stays_refl _ _⟩
    · rename_i hs hu
      have h1 := h.paid; have h2 := h.cred; have h3 := h.sum; have h4 := h.tot; have h5 := h.lines; have h7 := h.net; have h8 := h.tax; have h9 := h.total; have h10 := h.fit
      have hu' : ¬ (u < 1 ∨ v.total - v.paid - v.credited < u) := hu
      have hst : v.state = 1 := by omega
      unfold doneI
      split
      · rename_i hz
        have hz' : v.total - (v.paid + u) - v.credited = 0 := hz
        refine ⟨⟨⟨by show 0 ≤ v.paid + u; omega, h2, by show v.paid + u + v.credited ≤ v.total; omega, h4, h5, .inr (.inl rfl)⟩, h7, h8, h9, fun _ => ⟨fun _ => rfl, fun _ => by show v.paid + u + v.credited = v.total; omega⟩, h10, h.pos⟩, ⟨rfl, rfl, rfl, rfl, rfl, rfl, rfl, rfl, rfl⟩, fun hh => ?_, fun hh => by omega⟩
        simp at hh; omega
      · rename_i hz
        have hz' : ¬ v.total - (v.paid + u) - v.credited = 0 := hz
        refine ⟨⟨⟨by show 0 ≤ v.paid + u; omega, h2, by show v.paid + u + v.credited ≤ v.total; omega, h4, h5, .inl hst⟩, h7, h8, h9, fun _ => ⟨fun e => by have e' : v.paid + u + v.credited = v.total := e; omega, fun e => by have e' : v.state = 2 := e; omega⟩, h10, h.pos⟩, ⟨rfl, rfl, rfl, rfl, rfl, rfl, rfl, rfl, rfl⟩, fun hh => ?_, fun hh => by omega⟩
        simp at hh; omega
theorem cred_right {v : Inv} (h : rightI v) (u : Int) : rightI (payV addC v u).1 ∧ stays (decide ((payV addC v u).2.2 ≠ 0)) v (payV addC v u).1 := by
  unfold payV
  split
  · exact ⟨h, stays_refl _ _⟩
  · split
    · exact ⟨h, stays_refl _ _⟩
    · rename_i hs hu
      have h1 := h.paid; have h2 := h.cred; have h3 := h.sum; have h4 := h.tot; have h5 := h.lines; have h7 := h.net; have h8 := h.tax; have h9 := h.total; have h10 := h.fit
      have hu' : ¬ (u < 1 ∨ v.total - v.paid - v.credited < u) := hu
      have hst : v.state = 1 := by omega
      unfold doneI
      split
      · rename_i hz
        have hz' : v.total - v.paid - (v.credited + u) = 0 := hz
        refine ⟨⟨⟨h1, by show 0 ≤ v.credited + u; omega, by show v.paid + (v.credited + u) ≤ v.total; omega, h4, h5, .inr (.inl rfl)⟩, h7, h8, h9, fun _ => ⟨fun _ => rfl, fun _ => by show v.paid + (v.credited + u) = v.total; omega⟩, h10, h.pos⟩, ⟨rfl, rfl, rfl, rfl, rfl, rfl, rfl, rfl, rfl⟩, fun hh => ?_, fun hh => by omega⟩
        simp at hh; omega
      · rename_i hz
        have hz' : ¬ v.total - v.paid - (v.credited + u) = 0 := hz
        refine ⟨⟨⟨h1, by show 0 ≤ v.credited + u; omega, by show v.paid + (v.credited + u) ≤ v.total; omega, h4, h5, .inl hst⟩, h7, h8, h9, fun _ => ⟨fun e => by have e' : v.paid + (v.credited + u) = v.total := e; omega, fun e => by have e' : v.state = 2 := e; omega⟩, h10, h.pos⟩, ⟨rfl, rfl, rfl, rfl, rfl, rfl, rfl, rfl, rfl⟩, fun hh => ?_, fun hh => by omega⟩
        simp at hh; omega
theorem void_right {v : Inv} (h : rightI v) : rightI (voidV v).1 ∧ stays (decide ((voidV v).2 ≠ 0)) v (voidV v).1 := by
  unfold voidV
  split
  · exact ⟨h, stays_refl _ _⟩
  · refine ⟨⟨⟨h.paid, h.cred, h.sum, h.tot, h.lines, .inr (.inr rfl)⟩, h.net, h.tax, h.total, fun hh => absurd rfl hh, h.fit, h.pos⟩, ⟨rfl, rfl, rfl, rfl, rfl, rfl, rfl, rfl, rfl⟩, fun hh => ?_, fun _ => rfl⟩
    simp at hh; omega
theorem stays_any {bad : Bool} {x y : Inv} (h : stays bad x y) : stays false x y := ⟨h.same, fun hh => h.shut (.inr (by simpa using hh)), h.void⟩

theorem payF_right {l : List Inv} (h : rightB l) (number u : Int) : rightB (payF addP l number u).1 ∧ goes (decide ((payF addP l number u).2.2 ≠ 0)) l (payF addP l number u).1 := by
  unfold payF
  split
  · exact ⟨h, goes_refl _ _⟩
  · split
    · exact ⟨h, goes_refl _ _⟩
    · next v hv =>
      obtain ⟨r, s⟩ := pay_right (h.each v (List.mem_of_getElem? hv)) u
      exact ⟨right_set h hv r (stays_any s), goes_set hv s⟩
theorem credF_right {l : List Inv} (h : rightB l) (number u : Int) : rightB (payF addC l number u).1 ∧ goes (decide ((payF addC l number u).2.2 ≠ 0)) l (payF addC l number u).1 := by
  unfold payF
  split
  · exact ⟨h, goes_refl _ _⟩
  · split
    · exact ⟨h, goes_refl _ _⟩
    · next v hv =>
      obtain ⟨r, s⟩ := cred_right (h.each v (List.mem_of_getElem? hv)) u
      exact ⟨right_set h hv r (stays_any s), goes_set hv s⟩
theorem voidF_right {l : List Inv} (h : rightB l) (number : Int) : rightB (voidF l number).1 ∧ goes (decide ((voidF l number).2 ≠ 0)) l (voidF l number).1 := by
  unfold voidF
  split
  · exact ⟨h, goes_refl _ _⟩
  · split
    · exact ⟨h, goes_refl _ _⟩
    · next v hv =>
      obtain ⟨r, s⟩ := void_right (h.each v (List.mem_of_getElem? hv))
      exact ⟨right_set h hv r (stays_any s), goes_set hv s⟩

theorem new_right {n : Nat} {account cur : ByteArray} {at_ f t : Int} {ln : List RLine} {l : List Inv} (h : issE l account cur at_ f t ln = 0) (hfit : ∀ x ∈ ln, x.fits) : rightI (newInv n account cur at_ f t ln) ∧ l.filter (billedB account f t) = [] := by
  have hE : askE account cur at_ f t ln.length l.length = 0 ∧ firstErr ln = 0 ∧ (sumR ln).2.2 = 0 ∧ l.filter (billedB account f t) = [] := by
    unfold issE at h
    by_cases h1 : askE account cur at_ f t ln.length l.length = 0
    · by_cases h2 : firstErr ln = 0
      · by_cases h3 : (sumR ln).2.2 = 0
        · by_cases h4 : l.filter (billedB account f t) = []
          · exact ⟨h1, h2, h3, h4⟩
          · simp only [h1, h2, h3] at h; simp [h4] at h
        · simp [h1, h2, h3] at h
      · simp [h1, h2] at h
    · simp [h1] at h
  obtain ⟨e1, e2, e3, e4⟩ := hE
  obtain ⟨n1, n2, n3⟩ := askE_lines e1
  obtain ⟨⟨u1, u2, u3⟩, e5⟩ := (sumR_err ln).2 e3
  obtain ⟨s1, s2⟩ := sums_nonneg e2
  unfold inU at u3
  refine ⟨⟨⟨by simp [newInv], by simp [newInv], by simp only [newInv]; omega, by simp only [newInv]; omega, by simp only [newInv]; omega, by simp only [newInv]; split <;> simp⟩, rfl, rfl, rfl, fun _ => ?_, hfit, ⟨s1, s2⟩⟩, e4⟩
  simp only [newInv]
  split <;> simp <;> omega
theorem issF_right {l : List Inv} (h : rightB l) (account cur : ByteArray) (at_ f t : Int) (ln : List RLine) (hfit : ∀ x ∈ ln, x.fits) :
    rightB (issF l account cur at_ f t ln).1 ∧ goes (decide ((issF l account cur at_ f t ln).2.2 ≠ 0)) l (issF l account cur at_ f t ln).1 := by
  unfold issF
  split
  · next hE =>
    obtain ⟨hr, hf⟩ := new_right (n := l.length) hE hfit
    refine ⟨⟨fun k v hv => ?_, fun v hv => ?_, fun j k x y hjk hx hy => ?_⟩, ⟨by simp, fun hb => by simp at hb⟩, fun k x hx => ⟨x, by rw [List.getElem?_append_left (List.getElem?_eq_some_iff.1 hx).1]; exact hx, stays_refl _ _⟩⟩
    · rcases Nat.lt_or_ge k l.length with hk | hk
      · rw [List.getElem?_append_left hk] at hv; exact h.num k v hv
      · rw [List.getElem?_append_right hk] at hv
        cases hkl : k - l.length with
        | zero => rw [hkl] at hv; simp at hv; subst hv; simp only [newInv]; omega
        | succ m => rw [hkl] at hv; simp at hv
    · rcases List.mem_append.1 hv with hv | hv
      · exact h.each v hv
      · obtain rfl := List.mem_singleton.1 hv; exact hr
    · rcases Nat.lt_or_ge k l.length with hk | hk
      · rw [List.getElem?_append_left hk] at hy
        rw [List.getElem?_append_left (by omega)] at hx
        exact h.apart j k x y hjk hx hy
      · rw [List.getElem?_append_right hk] at hy
        cases hkl : k - l.length with
        | zero =>
          rw [hkl] at hy; simp at hy; subst hy
          rw [List.getElem?_append_left (by omega)] at hx
          rintro ⟨m1, m2, m3, m4, m5⟩
          have := List.filter_eq_nil_iff.1 hf x (List.mem_of_getElem? hx)
          apply this
          unfold billedB
          simp only [Bool.and_eq_true, decide_eq_true_eq]
          exact ⟨⟨⟨m1, m2⟩, m5⟩, m4⟩
        | succ m => rw [hkl] at hy; simp at hy
  · next hE => exact ⟨h, goes_refl _ _⟩
end Go.Proofs.Ytfiaobhkhedpiaa
