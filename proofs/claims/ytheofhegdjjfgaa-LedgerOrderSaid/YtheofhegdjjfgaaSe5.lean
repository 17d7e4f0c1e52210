/- Small words for the ends of walks: what is new, rows that are only read, first index. -/
import Derived.Test.YtheofhegdjjfgaaSe4
namespace Go.Proofs.Ytheofhegdjjfgaa
open Go.RowKit

section
variable {P : Program} {n : Nat} {F0 : Nat → Prop} {w0 : World} {a : Act} {w : World} {L : List (Nat × Value)} {Γ : List Asn}

/-- an entry of a walk that changes nothing old is of new blocks. -/
theorem St.new (h : St n noB w0 a w L Γ) {X : Asn} (hX : X ∈ Γ) (hm : X.mine = true) : X.ok w ∧ ∀ b, X.F b → w0.heap.size ≤ b :=
  ⟨h.ok X hX, fun b hb => (h.mine X hX hm b hb).resolve_right (fun hf => hf)⟩

/-- a row that is only read. -/
def rowA (b off s : Nat) (xs : List (List Value)) : Asn := .any (fun k => k = b) (RowAt b off s xs) false
theorem RowAt.keep {b off s : Nat} {xs : List (List Value)} {w w' : World} (h : RowAt b off s xs w) (hw : w'.heap[b]? = w.heap[b]?) : RowAt b off s xs w' := by
  intro i x hi j v hj
  rw [World.cell?_of_block (w := w) hw]; exact h i x hi j v hj
theorem ok_row {b off s : Nat} {xs : List (List Value)} {w : World} (h : RowAt b off s xs w) (hb : b < w.heap.size) : (rowA b off s xs).ok w :=
  ⟨fun k hk => by obtain rfl : k = b := hk; exact hb, fun w' hw => h.keep (hw b rfl)⟩
theorem row_get {b off s : Nat} {xs : List (List Value)} (hm : rowA b off s xs ∈ Γ) {i : Nat} {x : List Value} (hx : xs[i]? = some x) : ∀ w, Hd Γ w → ∀ j v, x[j]? = some v → w.cell? ⟨b, off + i * s + j, none⟩ = some v :=
  fun _ hh j v hj => hh _ hm i x hx j v hj
theorem row_of_blk {w : World} {b E s : Nat} {xs : List (List Value)} {cs : List Value} (h : w.heap[b]? = some (.cells cs.toArray E (0, 0))) (hx : ∀ i x, xs[i]? = some x → ∀ j v, x[j]? = some v → cs[i * s + j]? = some v) : RowAt b 0 s xs w := by
  intro i x hi j v hj
  rw [Nat.zero_add]; exact cell_of_blk h (hx i x hi j v hj)

/-- a slice value that came in: none, or a row at a place. -/
def sliceV (p : Option (Nat × Nat)) (m c : Nat) : Value := .slice (p.map fun q => ⟨q.1, q.2, none⟩) m c
def RowP (p : Option (Nat × Nat)) (s : Nat) (xs : List (List Value)) (w : World) : Prop := match p with | none => xs = [] | some q => RowAt q.1 q.2 s xs w
def rowP (p : Option (Nat × Nat)) (s : Nat) (xs : List (List Value)) : Asn := .any (fun k => ∃ off, p = some (k, off)) (RowP p s xs) false
theorem ok_rowP {p : Option (Nat × Nat)} {s : Nat} {xs : List (List Value)} {w : World} (h : RowP p s xs w) (hb : ∀ q, p = some q → q.1 < w.heap.size) : (rowP p s xs).ok w := by
  refine ⟨fun k hk => ?_, fun w' hw => ?_⟩
  · obtain ⟨off, rfl⟩ := hk; exact hb _ rfl
  · show RowP p s xs w'
    cases p with
    | none => exact h
    | some q => exact RowAt.keep h (hw q.1 ⟨q.2, rfl⟩)
theorem rowP_get {b off s : Nat} {xs : List (List Value)} (hm : rowP (some (b, off)) s xs ∈ Γ) {i : Nat} {x : List Value} (hx : xs[i]? = some x) : ∀ w, Hd Γ w → ∀ j v, x[j]? = some v → w.cell? ⟨b, off + i * s + j, none⟩ = some v :=
  fun _ hh j v hj => hh _ hm i x hx j v hj
theorem rowP_some {p : Option (Nat × Nat)} {s : Nat} {xs : List (List Value)} {w : World} (h : RowP p s xs w) {i : Nat} {x : List Value} (hx : xs[i]? = some x) : ∃ b off, p = some (b, off) := by
  cases p with
  | none => simp only [RowP] at h; subst h; simp at hx
  | some q => exact ⟨q.1, q.2, rfl⟩

/-- cells of a row of structs laid end to end. -/
theorem flat_get {α : Type} (enc : α → List Value) (s : Nat) (hl : ∀ x, (enc x).length = s) : ∀ (xs : List α) (i : Nat) (x : α), xs[i]? = some x → ∀ j v, (enc x)[j]? = some v → (xs.flatMap enc)[i * s + j]? = some v := by
  intro xs
  induction xs with
  | nil => intro i x h; simp at h
  | cons y ys ih =>
    intro i x h j v hj
    cases i with
    | zero =>
      simp at h; subst h
      rw [List.flatMap_cons, Nat.zero_mul, Nat.zero_add, List.getElem?_append_left]
      · exact hj
      · exact (List.getElem?_eq_some_iff.1 hj).1
    | succ i =>
      simp at h
      rw [List.flatMap_cons, List.getElem?_append_right (by rw [hl, Nat.add_mul]; omega)]
      have := ih i x h j v hj
      rw [hl, show (i + 1) * s + j - s = i * s + j by rw [Nat.add_mul]; omega]
      exact this
theorem flat_len {α : Type} (enc : α → List Value) (s : Nat) (hl : ∀ x, (enc x).length = s) (xs : List α) : (xs.flatMap enc).length = xs.length * s := by
  induction xs with
  | nil => simp
  | cons y ys ih => rw [List.flatMap_cons, List.length_append, ih, hl, List.length_cons, Nat.add_mul]; omega

theorem blkrow_get {α : Type} {enc : α → List Value} {s b E : Nat} {xs : List α} (hm : Asn.blk b (xs.flatMap enc) E ∈ Γ) (hl : ∀ x, (enc x).length = s) {i : Nat} {x : α} (hx : xs[i]? = some x) :
    ∀ w, Hd Γ w → ∀ j v, (enc x)[j]? = some v → w.cell? ⟨b, 0 + i * s + j, none⟩ = some v := fun _ hh j v hj => by
  rw [Nat.zero_add]; exact cell_of_blk (hh _ hm) (flat_get enc s hl xs i x hx j v hj)

theorem row_of_flat {α : Type} {enc : α → List Value} {s : Nat} (hl : ∀ x, (enc x).length = s) {w : World} {b E : Nat} {xs : List α} (h : w.heap[b]? = some (.cells (xs.flatMap enc).toArray E (0, 0))) : RowAt b 0 s (xs.map enc) w := by
  refine row_of_blk h fun i x hx j v hj => ?_
  rw [List.getElem?_map] at hx
  cases hy : xs[i]? with
  | none => simp [hy] at hx
  | some y => simp [hy] at hx; subst hx; exact flat_get enc s hl xs i y hy j v hj

/-- a row of the walk's own, read. -/
theorem row_of_own {α : Type} {enc : α → List Value} {s : Nat} (hl : ∀ x, (enc x).length = s) {w : World} {b c E m : Nat} {xs : List α} (h : w.ownsRow 0 E s (.slice (some ⟨b, 0, none⟩) m c) m (xs.flatMap enc)) : RowAt b 0 s (xs.map enc) w := by
  intro i x hx j v hj
  rw [List.getElem?_map] at hx
  cases hy : xs[i]? with
  | none => simp [hy] at hx
  | some y =>
    simp [hy] at hx; subst hx
    have h1 := flat_get enc s hl xs i y hy j v hj
    have h2 := h.cells (g := b) rfl _ _ h1
    rw [addr_add] at h2
    rw [← h2]; congr 2; omega

/-- a slice of the walk's own that is not none. -/
theorem own_some {w : World} {E s : Nat} {v : Value} {m : Nat} {xs : List Value} (h : w.ownsRow 0 E s v m xs) (hn : v ≠ .slice none 0 0) : ∃ b c, v = .slice (some ⟨b, 0, none⟩) m c := by
  rcases h.2 with ⟨rfl, rfl⟩ | ⟨g, cap, cur, rfl, _⟩
  · exact absurd rfl hn
  · exact ⟨_, _, rfl⟩

/-- one entry is taken apart. -/
theorem St.split (h : St n F0 w0 a w L Γ) {X Y Z : Asn} {Γ' : List Asn} (hr : Rep Z Y Γ Γ') (hX : X.ok w) (hY : Y.ok w) (hXF : ∀ b, X.F b → Z.F b) (hYF : ∀ b, Y.F b → Z.F b) (hd : ∀ b, X.F b → ¬ Y.F b) (hm : Z.mine = true) : St n F0 w0 a w L (X :: Γ') := by
  have key : ∀ {Γ Γ' : List Asn}, Rep Z Y Γ Γ' → (∀ V ∈ Γ, V.ok w) → Γ.Pairwise (fun X Y => ∀ b, X.F b → ¬ Y.F b) → (∀ V ∈ Γ', V.ok w) ∧ Γ'.Pairwise (fun X Y => ∀ b, X.F b → ¬ Y.F b) ∧ ∀ V ∈ Γ', ∀ b, X.F b → ¬ V.F b := by
    intro Γ Γ' hr
    induction hr with
    | head =>
      intro hok hp
      have hp' := List.pairwise_cons.1 hp
      refine ⟨fun V hV => ?_, List.pairwise_cons.2 ⟨fun V hV b hb hb' => hp'.1 V hV b (hYF b hb) hb', hp'.2⟩, fun V hV b hb hb' => ?_⟩
      · rcases List.mem_cons.1 hV with rfl | hV
        · exact hY
        · exact hok V (.tail _ hV)
      · rcases List.mem_cons.1 hV with rfl | hV
        · exact hd b hb hb'
        · exact hp'.1 V hV b (hXF b hb) hb'
    | @tail U Γ Γ' hr ih =>
      intro hok hp
      have hp' := List.pairwise_cons.1 hp
      obtain ⟨h1, h2, h3⟩ := ih (fun V hV => hok V (.tail _ hV)) hp'.2
      refine ⟨fun V hV => ?_, List.pairwise_cons.2 ⟨fun V hV b hb hb' => ?_, h2⟩, fun V hV b hb hb' => ?_⟩
      · rcases List.mem_cons.1 hV with rfl | hV
        · exact hok _ (.head _)
        · exact h1 V hV
      · rcases hr.new V hV with rfl | hV
        · exact hp'.1 Z hr.mem b hb (hYF b hb')
        · exact hp'.1 V hV b hb hb'
      · rcases List.mem_cons.1 hV with rfl | hV
        · exact hp'.1 Z hr.mem b hb' (hXF b hb)
        · exact h3 V hV b hb hb'
  obtain ⟨h1, h2, h3⟩ := key hr h.ok h.dis
  refine ⟨h.sl, h.chg, fun V hV => ?_, List.pairwise_cons.2 ⟨h3, h2⟩, fun V hV hmV b hb => ?_⟩
  · rcases List.mem_cons.1 hV with rfl | hV
    · exact hX
    · exact h1 V hV
  · rcases List.mem_cons.1 hV with rfl | hV
    · exact h.mine Z hr.mem hm b (hXF b hb)
    · rcases hr.new V hV with rfl | hV
      · exact h.mine Z hr.mem hm b (hYF b hb)
      · exact h.mine V hV hmV b hb

def anyB : Nat → Prop := fun _ => True
/-- a call of which only its own word is kept. -/
theorem s_callR {K : Act → World → Prop} {Q : Exit → Act → World → Prop} {d ty : Nat} {pos : String} {af : Array Edge} {g : Option (Nat × Bool)} {f : FuncId} {xs : List Operand} {vs : List Value} {ts : Array TypeId} {R : Ending → World → Prop} (hS : St n F0 w0 a w L Γ) (hx : Evs L xs vs) (hf : CallsTo P f)
    (hc : Calls P f vs.toArray w R) (h : ∀ e w', R e w' → ∃ v, e = .returned v ∧ K (a.put (some d) v) w') : OW P ⟨some d, .call ⟨.value (.func f), xs.toArray, ts⟩, ty, pos, af, g⟩ a w K Q :=
  s_call hS hx hf hc h
theorem s_callvR {K : Act → World → Prop} {Q : Exit → Act → World → Prop} {d ty : Nat} {pos : String} {af : Array Edge} {g : Option (Nat × Bool)} {f : FuncId} {x : Operand} {cs : List Value} {xs : List Operand} {vs : List Value} {ts : Array TypeId} {R : Ending → World → Prop} (hS : St n F0 w0 a w L Γ) (hv : ev L x = some (.func (.func f) #[] cs.toArray)) (hx : Evs L xs vs) (hf : CallsTo P f) (hn : Nat.blt d n = true)
    (hc : Calls P f (vs ++ cs).toArray w R) (hR : ∀ e w', R e w' → ∃ v, e = .returned v ∧ Chg anyB w w') (h : ∀ v a' w', R (.returned v) w' → St n anyB w0 a' w' ((d, v) :: L) [] → K a' w') : OW P ⟨some d, .call ⟨.value x, xs.toArray, ts⟩, ty, pos, af, g⟩ a w K Q :=
  s_callv hS hv hx hf hc fun e w' hr => by
    obtain ⟨v, rfl, hch⟩ := hR e w' hr
    exact ⟨v, rfl, h v _ w' hr ⟨hS.sl.put hn v, (hS.chg.mono (fun _ _ => trivial)).trans hch (fun _ _ _ => trivial), fun _ hX => (by cases hX), .nil, fun _ hX => (by cases hX)⟩⟩

/-- a store into a row of the walk's own. -/
theorem s_storeO {K : Act → World → Prop} {Q : Exit → Act → World → Prop} {ty : Nat} {pos : String} {af : Array Edge} {g : Option (Nat × Bool)} {T gb j s m c E : Nat} {x y : Operand} {cs : List Value} {v : Value} {Γ' : List Asn} (hS : St n F0 w0 a w L Γ) (hx : ev L x = some (.pointer (some ⟨gb, j, none⟩))) (hy : ev L y = some v) (h1 : isOne v = true)
    (hz : szOf P T = some 1) (hr : Rep (ownA E s (.slice (some ⟨gb, 0, none⟩) m c) m cs) (ownA E s (.slice (some ⟨gb, 0, none⟩) m c) m (cs.set j v)) Γ Γ') (hj : j < m * s) (h : ∀ w', St n F0 w0 a w' L Γ' → K a w') : OW P ⟨none, .store T x y, ty, pos, af, g⟩ a w K Q := by
  have hown : w.ownsRow 0 E s (.slice (some ⟨gb, 0, none⟩) m c) m cs := hS.get hr.mem
  have hcell : w.cell? ⟨gb, j, none⟩ = cs[j]? := World.ownsRow.cellAt hown j hj
  have hjl : j < cs.length := by rw [hown.1]; exact hj
  rw [List.getElem?_eq_getElem hjl] at hcell
  have hfz := World.ownsRow.frozenAt hown j
  have he : (execOp a.eval (⟨none, .store T x y, ty, pos, af, g⟩ : Oper)).run P w = .ok .skip (w.setCell ⟨gb, j, none⟩ v) := by
    simp [execOp, hS.sl.ev hx, hS.sl.ev hy, Instr.storeAt, Instr.sureAddr, storeVar, isOne_cells h1, sizeOf_run hz, storeCells, addr_add, run_store _ _ _ _ _ (isOne_oneCell h1), hcell, hfz]
  refine ⟨?_⟩
  unfold Oper.wp
  rw [he]
  refine h _ (hS.upd hr ((Chg.setCell w ⟨gb, j, none⟩ v).mono (fun i hi => ?_)) (ok_own (World.ownsRow.stored hown j v).1) (fun i hi => .inl hi) rfl)
  show Value.ownBlock _ = some i
  rw [hi]; rfl

theorem flat_set {α : Type} (enc : α → List Value) (s : Nat) (hl : ∀ x, (enc x).length = s) : ∀ (xs : List α) (i : Nat) (x y : α) (j : Nat) (v : Value), xs[i]? = some x → j < s → (enc x).set j v = enc y → (xs.flatMap enc).set (i * s + j) v = (xs.set i y).flatMap enc := by
  intro xs
  induction xs with
  | nil => intro i x y j v h; simp at h
  | cons z zs ih =>
    intro i x y j v h hj he
    cases i with
    | zero =>
      simp at h; subst h
      rw [List.flatMap_cons, Nat.zero_mul, Nat.zero_add, List.set_append_left _ _ (by rw [hl]; exact hj), he]
      rfl
    | succ i =>
      simp at h
      rw [List.flatMap_cons, List.set_append_right _ _ (by rw [hl, Nat.add_mul]; omega)]
      rw [hl, show (i + 1) * s + j - s = i * s + j by rw [Nat.add_mul]; omega]
      rw [ih i x y j v h hj he]
      rfl

def firstIdx {α : Type} (p : α → Bool) (xs : List α) : Int := match xs.findIdx? p with | some i => (i : Int) | none => -1

theorem firstIdx_some {α : Type} {p : α → Bool} {xs : List α} {i : Nat} {x : α} (hx : xs[i]? = some x) (hp : p x = true) (hn : ∀ j, j < i → ∀ y, xs[j]? = some y → p y = false) : firstIdx p xs = (i : Int) := by
  have hlt := (List.getElem?_eq_some_iff.1 hx).1
  have : xs.findIdx? p = some i := by
    rw [List.findIdx?_eq_some_iff_getElem]
    refine ⟨hlt, ?_, fun j hj => ?_⟩
    · rw [(List.getElem?_eq_some_iff.1 hx).2]; exact hp
    · have := hn j hj xs[j] (by simp)
      simp [this]
  simp [firstIdx, this]
theorem firstIdx_none {α : Type} {p : α → Bool} {xs : List α} (hn : ∀ j, j < xs.length → ∀ y, xs[j]? = some y → p y = false) : firstIdx p xs = -1 := by
  have : xs.findIdx? p = none := by
    rw [List.findIdx?_eq_none_iff]
    intro x hx
    obtain ⟨j, hj, rfl⟩ := List.mem_iff_getElem.1 hx
    exact hn j hj _ (by simp)
  simp [firstIdx, this]

theorem firstIdx_cases {α : Type} (p : α → Bool) (xs : List α) : (∃ i x, firstIdx p xs = ((i : Nat) : Int) ∧ xs[i]? = some x ∧ p x = true) ∨ (firstIdx p xs = -1 ∧ ∀ x ∈ xs, p x = false) := by
  unfold firstIdx
  cases h : xs.findIdx? p with
  | none => right; exact ⟨rfl, fun x hx => by simpa using (List.findIdx?_eq_none_iff.1 h) x hx⟩
  | some i =>
    left
    obtain ⟨hlt, hp, _⟩ := List.findIdx?_eq_some_iff_getElem.1 h
    exact ⟨i, xs[i], rfl, by simp, hp⟩

theorem size_pos_of_ne {s : ByteArray} (h : ¬ s = ⟨#[]⟩) : 0 < s.size := by
  rcases Nat.eq_zero_or_pos s.size with h0 | h0
  · exfalso; apply h
    cases s with
    | mk d => simp [ByteArray.size] at h0; subst h0; rfl
  · exact h0
theorem PureC.of_below {f : FuncId} {args : List Value} {v : Value} (h : Calls P f args.toArray w fun e w' => e = .returned v ∧ Below w.heap.size w w') : PureC P f args w v :=
  h.mono fun _ _ ⟨he, hb⟩ => ⟨he, Chg.of_below hb⟩
theorem PureC.of_same {f : FuncId} {args : List Value} {v : Value} (h : Calls P f args.toArray w fun e w' => e = .returned v ∧ w = w') : PureC P f args w v :=
  h.mono fun _ _ ⟨he, hb⟩ => ⟨he, by subst hb; exact Chg.refl _ _⟩
end
end Go.Proofs.Ytheofhegdjjfgaa
