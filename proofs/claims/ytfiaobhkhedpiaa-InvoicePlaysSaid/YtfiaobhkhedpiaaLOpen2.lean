/- The book laws' arguments opened: a slice of operations, each with a slice of lines. -/
import Derived.Test.YtfiaobhkhedpiaaLOpen
import Derived.Test.YtfiaobhkhedpiaaInv10
import Derived.Laws.LoneSync
namespace Go.Proofs.Ytfiaobhkhedpiaa
open Go.RowKit

/-- a slice value that holds those lines; an empty one may stand anywhere. -/
def LnAt (v : Value) (l : List RLine) (w : World) : Prop :=
  (l = [] ∧ ∃ a c, v = .slice a 0 c) ∨ ∃ b off c, l ≠ [] ∧ v = sliceV (some (b, off)) l.length c ∧ RowAt b off 4 (l.map encL) w ∧ b < w.heap.size
structure ROp where
  kind : Int
  at_ : Int
  from_ : Int
  to_ : Int
  account : ByteArray
  cur : ByteArray
  lines : List RLine
  lv : Value
  number : Int
  units : Int
def encO (x : ROp) : List Value := [.int .i64 x.kind, .int .i64 x.at_, .int .i64 x.from_, .int .i64 x.to_, .string x.account, .string x.cur, x.lv, .int .i64 x.number, .int .i64 x.units]
def i64b (n : Int) : Prop := -9223372036854775808 ≤ n ∧ n ≤ 9223372036854775807
structure ROp.fits (x : ROp) : Prop where
  kind : i64b x.kind
  at_ : i64b x.at_
  from_ : i64b x.from_
  to_ : i64b x.to_
  account : x.account.size ≤ 4611686018427387904
  cur : x.cur.size ≤ 4611686018427387904
  lines : (∀ y ∈ x.lines, y.fits) ∧ x.lines.length ≤ 4611686018427387904
  number : i64b x.number
  units : i64b x.units
/-- the operations as they came in. -/
def opsφ (p : Option (Nat × Nat)) (l : List ROp) (w : World) : Prop := RowP p 9 (l.map encO) w ∧ ∀ x ∈ l, LnAt x.lv x.lines w
def opsF (p : Option (Nat × Nat)) (l : List ROp) (k : Nat) : Prop := (∃ off, p = some (k, off)) ∨ ∃ x ∈ l, x.lines ≠ [] ∧ x.lv.ownBlock = some k
def opsA (p : Option (Nat × Nat)) (l : List ROp) : Asn := .any (opsF p l) (opsφ p l) false
theorem LnAt.keep {v : Value} {l : List RLine} {w w' : World} (h : LnAt v l w) (hs : w.heap.size ≤ w'.heap.size) (hw : ∀ k, l ≠ [] → v.ownBlock = some k → w'.heap[k]? = w.heap[k]?) : LnAt v l w' := by
  rcases h with h | ⟨b, off, c, h1, rfl, h2, h3⟩
  · exact .inl h
  · exact .inr ⟨b, off, c, h1, rfl, h2.keep (hw b h1 rfl), Nat.lt_of_lt_of_le h3 hs⟩
theorem heap_lt_of {w w' : World} {b : Nat} (h : b < w.heap.size) (hw : w'.heap[b]? = w.heap[b]?) : b < w'.heap.size := by
  rw [Array.getElem?_eq_getElem h] at hw
  exact (Array.getElem?_eq_some_iff.1 hw).1
theorem LnAt.keep' {v : Value} {l : List RLine} {w w' : World} (h : LnAt v l w) (hw : ∀ k, l ≠ [] → v.ownBlock = some k → w'.heap[k]? = w.heap[k]?) : LnAt v l w' := by
  rcases h with h | ⟨b, off, c, h1, rfl, h2, h3⟩
  · exact .inl h
  · exact .inr ⟨b, off, c, h1, rfl, h2.keep (hw b h1 rfl), heap_lt_of h3 (hw b h1 rfl)⟩
theorem ops_ok {p : Option (Nat × Nat)} {l : List ROp} {w : World} (h : opsφ p l w) (hb : ∀ q, p = some q → q.1 < w.heap.size) : (opsA p l).ok w := by
  refine ⟨fun k hk => ?_, fun w' hw => ⟨(ok_rowP h.1 hb).hold w' (fun k hk => hw k (.inl hk)), fun x hx => (h.2 x hx).keep' (fun k hk hk2 => hw k (.inr ⟨x, hx, hk, hk2⟩))⟩⟩
  rcases hk with ⟨off, e⟩ | ⟨x, hx, hne, e⟩
  · exact hb _ e
  · rcases h.2 x hx with ⟨h0, _⟩ | ⟨b, off, c, _, ev, _, h3⟩
    · exact absurd h0 hne
    · rw [ev] at e; cases e; exact h3
end Go.Proofs.Ytfiaobhkhedpiaa
namespace Go.Proofs.Ytfiaobhkhedpiaa.Open
set_option maxRecDepth 100000
open Go.ChangeShapes Go.WideShapes Go.Deep
section
variable {H : Type} {enc : TypeId × Value → H}
theorem open_lines_raw {W : World} {n0 : Nat} {v : Value} {y : DataW H × List MemPlace} (h : DataW.trod enc Try.prog W 0 (fun _ => true) true n0 22 [v] = some y) (hw : ∀ n ∈ y.1.weights Try.prog 22, n ≤ reachBytes) :
    ∃ l : List RLine, LnAt v l W ∧ (∀ x ∈ l, x.fits) ∧ l.length ≤ 4611686018427387904 := by
  have hu := Try.underlying22
  rcases open_slice_fields hu Try.underlying26 (by kernel_rfl) (by kernel_rfl) h with ⟨hc, _⟩ | ⟨a, len, cap, m, D, Pl, hc, _, hl, hm, hmm, hx, hi⟩
  · simp only [List.cons.injEq, and_true] at hc
    subst hc
    exact ⟨[], .inl ⟨rfl, _, _, rfl⟩, by simp, by simp⟩
  · simp only [List.cons.injEq, and_true] at hc
    subst hc
    have hx : y.1 = _ := congrArg (·.1) hx
    simp only at hx
    simp only [if_true] at hmm
    rw [hmm] at hx hi
    have each : ∀ i, i < len → ∃ x : RLine, x.fits ∧ ∀ j u, (encL x)[j]? = some u → W.cell? (a.add (i * 4 + j)) = some u := by
      intro i hil
      obtain ⟨ys, n, hD, _, hys, hfl⟩ := hi i (by omega)
      obtain ⟨v0, y0, c0, g0, t0⟩ := hfl 0 _ rfl
      obtain ⟨v1, y1, c1, g1, t1⟩ := hfl 1 _ rfl
      obtain ⟨v2, y2, c2, g2, t2⟩ := hfl 2 _ rfl
      obtain ⟨v3, y3, c3, g3, t3⟩ := hfl 3 _ rfl
      obtain ⟨s, e0, z0, w0⟩ := DataW.trod_string Try.underlying9 t0
      obtain ⟨n1, e1, z1, w1⟩ := DataW.trod_int Try.underlying3 t1
      obtain ⟨n2, e2, z2, w2⟩ := DataW.trod_int Try.underlying3 t2
      obtain ⟨n3, e3, z3, w3⟩ := DataW.trod_int Try.underlying3 t3
      simp only [List.cons.injEq, and_true] at e0 e1 e2 e3
      subst e0 e1 e2 e3
      have hs : s.size ≤ reachBytes := by
        refine hw _ ?_
        rw [hx]
        have h1 : s.size ∈ (D i).weights Try.prog 26 := by
          rw [hD]
          simp only [DataW.weights, Try.underlying26]
          refine DataW.weights_mem_each (j := 0) rfl (d := .lit (.string s.data.toList)) (by rw [List.getElem?_map, g0, z0]; rfl) _ ?_
          simp only [DataW.weights, List.mem_singleton]
          rfl
        have h2 := weights_all h1 (l := (List.range len).map D) (List.mem_map.2 ⟨i, List.mem_range.2 hil, rfl⟩)
        simp only [DataW.weights, hu, List.mem_cons, List.mem_append]
        exact .inr (.inl h2)
      have b1 := bounds_i64 w1
      have b2 := bounds_i64 w2
      have b3 := bounds_i64 w3
      refine ⟨⟨s, n1, n2, n3⟩, ⟨Nat.le_trans hs (by decide), b1, b2, b3⟩, fun j u hj => ?_⟩
      match j, hj with
      | 0, hj => cases hj; exact c0
      | 1, hj => cases hj; exact c1
      | 2, hj => cases hj; exact c2
      | 3, hj => cases hj; exact c3
      | (k + 4), hj => simp [encL] at hj
    have hlen : (len + (cap - len)) * 40 ≤ reachBytes := by
      have := hw ((len + (cap - len)) * Try.prog.bytesOf 26) (by rw [hx]; simp [DataW.weights, hu])
      rwa [bytesLine] at this
    simp only [reachBytes] at hlen
    haveI : Inhabited RLine := ⟨⟨ByteArray.empty, 0, 0, 0⟩⟩
    obtain ⟨f, hfn⟩ := choose_lt each
    refine ⟨(List.range len).map f, ?_, ?_, by simp only [List.length_map, List.length_range]; omega⟩
    · by_cases h0 : len = 0
      · subst h0; exact .inl ⟨rfl, _, _, rfl⟩
      · have hc0 := (hfn 0 (by omega)).2 0 _ rfl
        obtain ⟨_, _, hsh, _, hsp⟩ := World.shape?_of_cell? hc0
        have hsp : a.spot = none := by
          have e : a.add (0 * 4 + 0) = a := by unfold Addr.add; rw [if_pos (by omega)]
          rw [e] at hsp; exact hsp
        have hlt : a.block < W.heap.size := by
          have e : a.add (0 * 4 + 0) = a := by unfold Addr.add; rw [if_pos (by omega)]
          rw [e] at hsh; exact shape_lt hsh
        refine .inr ⟨a.block, a.off, cap, ?_, ?_, ?_, hlt⟩
        · intro e
          have := congrArg List.length e
          simp at this; omega
        · unfold sliceV
          cases a
          simp only at hsp
          subst hsp
          simp
        · intro i x hx j u hj
          simp only [List.getElem?_map, Option.map_eq_some_iff] at hx
          obtain ⟨y, ⟨k, hk, rfl⟩, rfl⟩ := hx
          obtain ⟨hk1, hk2⟩ := List.getElem?_eq_some_iff.1 hk
          simp only [List.length_range] at hk1
          simp only [List.getElem_range] at hk2
          subst hk2
          have := (hfn i hk1).2 j u hj
          rw [add_spot hsp] at this
          rw [← this]
          simp only [Nat.add_assoc]
    · intro x hx
      obtain ⟨i, hi', rfl⟩ := List.mem_map.1 hx
      exact (hfn i (List.mem_range.1 hi')).1

theorem bytesOp : Try.prog.bytesOf 44 = 104 := by kernel_rfl
theorem open_ops {W : World} {base : Nat} {v : Value} {d : DataW H} {pl : List MemPlace} (hval : Value.okWide Try.prog W .any base 39 v) (h : DataW.Trod enc Try.prog W 0 (fun _ => true) true 39 v d pl) (hw : ∀ n ∈ d.weights Try.prog 39, n ≤ reachBytes) :
    ∃ (p : Option (Nat × Nat)) (l : List ROp) (c : Nat), v = sliceV p l.length c ∧ (p = none → c = 0) ∧ (∀ x ∈ l, x.fits) ∧ l.length ≤ 4611686018427387904 ∧ opsφ p l W ∧ ∀ r, p = some r → r.1 < W.heap.size := by
  obtain ⟨fuel, hf⟩ := h
  have hu := Try.underlying39
  have hsl : ∃ a len cap, v = .slice a len cap := okWide_slice hu hval
  obtain ⟨a0, len0, cap0, rfl⟩ := hsl
  rcases open_slice_fields hu Try.underlying44 (by kernel_rfl) (by kernel_rfl) hf with ⟨hc, _⟩ | ⟨a, len, cap, m, D, Pl, hc, _, hl, hm, hmm, hx, hi⟩
  · simp only [Value.cells, List.cons.injEq, and_true] at hc
    rw [hc]
    exact ⟨none, [], 0, rfl, fun _ => rfl, by simp, by simp, ⟨rfl, by simp⟩, by simp⟩
  · simp only [Value.cells, List.cons.injEq, and_true] at hc
    rw [hc] at hval ⊢
    obtain ⟨hsp, hlt⟩ := slice_has hu hval
    have hx : d = _ := congrArg (·.1) hx
    simp only at hx
    simp only [if_true] at hmm
    rw [hmm] at hx hi
    have each : ∀ i, i < len → ∃ x : ROp, x.fits ∧ LnAt x.lv x.lines W ∧ ∀ j u, (encO x)[j]? = some u → W.cell? (a.add (i * 9 + j)) = some u := by
      intro i hil
      obtain ⟨ys, n, hD, _, hys, hfl⟩ := hi i (by omega)
      obtain ⟨v0, y0, c0, g0, t0⟩ := hfl 0 _ rfl
      obtain ⟨v1, y1, c1, g1, t1⟩ := hfl 1 _ rfl
      obtain ⟨v2, y2, c2, g2, t2⟩ := hfl 2 _ rfl
      obtain ⟨v3, y3, c3, g3, t3⟩ := hfl 3 _ rfl
      obtain ⟨v4, y4, c4, g4, t4⟩ := hfl 4 _ rfl
      obtain ⟨v5, y5, c5, g5, t5⟩ := hfl 5 _ rfl
      obtain ⟨v6, y6, c6, g6, t6⟩ := hfl 6 _ rfl
      obtain ⟨v7, y7, c7, g7, t7⟩ := hfl 7 _ rfl
      obtain ⟨v8, y8, c8, g8, t8⟩ := hfl 8 _ rfl
      obtain ⟨n0, e0, z0, w0⟩ := DataW.trod_int Try.underlying3 t0
      obtain ⟨n1, e1, z1, w1⟩ := DataW.trod_int Try.underlying3 t1
      obtain ⟨n2, e2, z2, w2⟩ := DataW.trod_int Try.underlying3 t2
      obtain ⟨n3, e3, z3, w3⟩ := DataW.trod_int Try.underlying3 t3
      obtain ⟨s4, e4, z4, w4⟩ := DataW.trod_string Try.underlying9 t4
      obtain ⟨s5, e5, z5, w5⟩ := DataW.trod_string Try.underlying9 t5
      obtain ⟨n7, e7, z7, w7⟩ := DataW.trod_int Try.underlying3 t7
      obtain ⟨n8, e8, z8, w8⟩ := DataW.trod_int Try.underlying3 t8
      simp only [List.cons.injEq, and_true] at e0 e1 e2 e3 e4 e5 e7 e8
      subst e0 e1 e2 e3 e4 e5 e7 e8
      have lift : ∀ (k : Nat), k ∈ (D i).weights Try.prog 44 → k ≤ reachBytes := fun k h1 => by
        refine hw _ ?_
        rw [hx]
        have h2 := weights_all h1 (l := (List.range len).map D) (List.mem_map.2 ⟨i, List.mem_range.2 hil, rfl⟩)
        simp only [DataW.weights, hu, List.mem_cons, List.mem_append]
        exact .inr (.inl h2)
      have hs4 : s4.size ≤ reachBytes := lift _ (by
        rw [hD]
        simp only [DataW.weights, Try.underlying44]
        refine DataW.weights_mem_each (j := 4) rfl (d := .lit (.string s4.data.toList)) (by rw [List.getElem?_map, g4, z4]; rfl) _ ?_
        simp only [DataW.weights, List.mem_singleton]
        rfl)
      have hs5 : s5.size ≤ reachBytes := lift _ (by
        rw [hD]
        simp only [DataW.weights, Try.underlying44]
        refine DataW.weights_mem_each (j := 5) rfl (d := .lit (.string s5.data.toList)) (by rw [List.getElem?_map, g5, z5]; rfl) _ ?_
        simp only [DataW.weights, List.mem_singleton]
        rfl)
      obtain ⟨l6, a6, b6, m6⟩ := open_lines_raw t6 (fun k hk => lift k (by
        rw [hD]
        simp only [DataW.weights, Try.underlying44]
        exact DataW.weights_mem_each (j := 6) rfl (d := y6.1) (by rw [List.getElem?_map, g6]; rfl) _ hk))
      refine ⟨⟨n0, n1, n2, n3, s4, s5, l6, v6, n7, n8⟩, ⟨bounds_i64 w0, bounds_i64 w1, bounds_i64 w2, bounds_i64 w3, Nat.le_trans hs4 (by decide), Nat.le_trans hs5 (by decide), ⟨b6, m6⟩, bounds_i64 w7, bounds_i64 w8⟩, a6, fun j u hj => ?_⟩
      match j, hj with
      | 0, hj => cases hj; exact c0
      | 1, hj => cases hj; exact c1
      | 2, hj => cases hj; exact c2
      | 3, hj => cases hj; exact c3
      | 4, hj => cases hj; exact c4
      | 5, hj => cases hj; exact c5
      | 6, hj => cases hj; exact c6
      | 7, hj => cases hj; exact c7
      | 8, hj => cases hj; exact c8
      | (k + 9), hj => simp [encO] at hj
    have hlen : (len + (cap - len)) * 104 ≤ reachBytes := by
      have := hw ((len + (cap - len)) * Try.prog.bytesOf 44) (by rw [hx]; simp [DataW.weights, hu])
      rwa [bytesOp] at this
    simp only [reachBytes] at hlen
    haveI : Inhabited ROp := ⟨⟨0, 0, 0, 0, ByteArray.empty, ByteArray.empty, [], .nilFunc, 0, 0⟩⟩
    obtain ⟨f, hfn⟩ := choose_lt each
    refine ⟨some (a.block, a.off), (List.range len).map f, cap, ?_, by simp, ?_, by simp only [List.length_map, List.length_range]; omega, ⟨?_, ?_⟩, ?_⟩
    · unfold sliceV
      cases a
      simp only at hsp
      subst hsp
      simp
    · intro x hx
      obtain ⟨i, hi', rfl⟩ := List.mem_map.1 hx
      exact (hfn i (List.mem_range.1 hi')).1
    · intro i x hx j u hj
      simp only [List.getElem?_map, Option.map_eq_some_iff] at hx
      obtain ⟨y, ⟨k, hk, rfl⟩, rfl⟩ := hx
      obtain ⟨hk1, hk2⟩ := List.getElem?_eq_some_iff.1 hk
      simp only [List.length_range] at hk1
      simp only [List.getElem_range] at hk2
      subst hk2
      have := (hfn i hk1).2.2 j u hj
      rw [add_spot hsp] at this
      rw [← this]
      simp only [Nat.add_assoc]
    · intro x hx
      obtain ⟨i, hi', rfl⟩ := List.mem_map.1 hx
      exact (hfn i (List.mem_range.1 hi')).2.1
    · rintro r hr
      cases hr
      exact hlt
end
end Go.Proofs.Ytfiaobhkhedpiaa.Open
