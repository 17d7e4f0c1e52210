/- LedgerStays: for every argument the law returns true, and each argument reads afterwards as it read before. No conditions. (text 2 of 2) -/
import Derived.Test.YtheofhegdjjfgaaLStaC1
import Derived.Laws.LoneSync
import Derived.ProofKit
import Derived.ShutString
import Derived.ChangeOld
import Derived.Below
namespace Go.Proofs.Ytheofhegdjjfgaa.Open
set_option maxRecDepth 100000
open Go.ChangeShapes Go.WideShapes Go.Deep
section
variable {H : Type} {enc : TypeId × Value → H}
theorem bytesPst : Try.prog.bytesOf 63 = 32 := by kernel_rfl
theorem bytesLO : Try.prog.bytesOf 72 = 104 := by kernel_rfl
theorem one3 : Try.prog.cellsOf 3 = 1 := by kernel_rfl
theorem one9 : Try.prog.cellsOf 9 = 1 := by kernel_rfl
theorem one4 : Try.prog.cellsOf 4 = 1 := by kernel_rfl
theorem one56 : Try.prog.cellsOf 56 = 1 := by kernel_rfl
theorem four68 : Try.prog.cellsOf 68 = 4 := by kernel_rfl
theorem eight72 : Try.prog.cellsOf 72 = 8 := by kernel_rfl
theorem list8 {α : Type} {l : List α} (h : l.length = 8) : ∃ a b c d e f g i, l = [a, b, c, d, e, f, g, i] := by
  match l, h with
  | [a, b, c, d, e, f, g, i], _ => exact ⟨a, b, c, d, e, f, g, i, rfl⟩

theorem open_psts_raw {W : World} {n0 : Nat} {v : Value} {y : DataW H × List MemPlace} (h : DataW.trod enc Try.prog W 0 (fun _ => true) true n0 56 [v] = some y) (hw : ∀ n ∈ y.1.weights Try.prog 56, n ≤ reachBytes) :
    ∃ l : List Pst, PsAt v l W ∧ (∀ x ∈ l, x.fits) ∧ l.length ≤ 4611686018427387904 := by
  have hu := Try.underlying56
  rcases open_slice_fields hu Try.underlying63 (by kernel_rfl) (by kernel_rfl) h with ⟨hc, _⟩ | ⟨a, len, cap, m, D, Pl, hc, _, hl, hm, hmm, hx, hi⟩
  · simp only [List.cons.injEq, and_true] at hc
    subst hc
    exact ⟨[], .inl ⟨rfl, _, _, rfl⟩, by simp, by simp⟩
  · simp only [List.cons.injEq, and_true] at hc
    subst hc
    have hx : y.1 = _ := congrArg (·.1) hx
    simp only at hx
    simp only [if_true] at hmm
    rw [hmm] at hx hi
    have each : ∀ i, i < len → ∃ x : Pst, x.fits ∧ ∀ j u, (encP x)[j]? = some u → W.cell? (a.add (i * 3 + j)) = some u := by
      intro i hil
      obtain ⟨ys, n, hD, _, hys, hfl⟩ := hi i (by omega)
      obtain ⟨v0, y0, c0, g0, t0⟩ := hfl 0 _ rfl
      obtain ⟨v1, y1, c1, g1, t1⟩ := hfl 1 _ rfl
      obtain ⟨v2, y2, c2, g2, t2⟩ := hfl 2 _ rfl
      obtain ⟨s, e0, z0, w0⟩ := DataW.trod_string Try.underlying9 t0
      obtain ⟨n1, e1, z1, w1⟩ := DataW.trod_int Try.underlying3 t1
      obtain ⟨n2, e2, z2, w2⟩ := DataW.trod_int Try.underlying3 t2
      simp only [List.cons.injEq, and_true] at e0 e1 e2
      subst e0 e1 e2
      have hs : s.size ≤ reachBytes := by
        refine hw _ ?_
        rw [hx]
        have h1 : s.size ∈ (D i).weights Try.prog 63 := by
          rw [hD]
          simp only [DataW.weights, Try.underlying63]
          refine DataW.weights_mem_each (j := 0) rfl (d := .lit (.string s.data.toList)) (by rw [List.getElem?_map, g0, z0]; rfl) _ ?_
          simp only [DataW.weights, List.mem_singleton]
          rfl
        have h2 := weights_all h1 (l := (List.range len).map D) (List.mem_map.2 ⟨i, List.mem_range.2 hil, rfl⟩)
        simp only [DataW.weights, hu, List.mem_cons, List.mem_append]
        exact .inr (.inl h2)
      have b1 := bounds_i64 w1
      have b2 := bounds_i64 w2
      refine ⟨⟨s, n1, n2⟩, ⟨Nat.le_trans hs (by decide), b1, b2⟩, fun j u hj => ?_⟩
      match j, hj with
      | 0, hj => cases hj; exact c0
      | 1, hj => cases hj; exact c1
      | 2, hj => cases hj; exact c2
      | (k + 3), hj => simp [encP] at hj
    have hlen : (len + (cap - len)) * 32 ≤ reachBytes := by
      have := hw ((len + (cap - len)) * Try.prog.bytesOf 63) (by rw [hx]; simp [DataW.weights, hu])
      rwa [bytesPst] at this
    simp only [reachBytes] at hlen
    haveI : Inhabited Pst := ⟨⟨ByteArray.empty, 0, 0⟩⟩
    obtain ⟨f, hfn⟩ := choose_lt each
    refine ⟨(List.range len).map f, ?_, ?_, by simp only [List.length_map, List.length_range]; omega⟩
    · by_cases h0 : len = 0
      · subst h0; exact .inl ⟨rfl, _, _, rfl⟩
      · have hc0 := (hfn 0 (by omega)).2 0 _ rfl
        obtain ⟨_, _, hsh, _, hsp⟩ := World.shape?_of_cell? hc0
        have hsp : a.spot = none := by
          have e : a.add (0 * 3 + 0) = a := by unfold Addr.add; rw [if_pos (by omega)]
          rw [e] at hsp; exact hsp
        have hlt : a.block < W.heap.size := by
          have e : a.add (0 * 3 + 0) = a := by unfold Addr.add; rw [if_pos (by omega)]
          rw [e] at hsh; exact shape_lt hsh
        refine .inr ⟨a.block, a.off, cap, ?_, ?_, ?_, hlt⟩
        · intro e
          have := congrArg List.length e
          simp at this; omega
        · unfold sliceV
          cases a
          simp only at hsp
          subst hsp
          simp
        · intro i x hx j u hj
          simp only [List.getElem?_map, Option.map_eq_some_iff] at hx
          obtain ⟨y, ⟨k, hk, rfl⟩, rfl⟩ := hx
          obtain ⟨hk1, hk2⟩ := List.getElem?_eq_some_iff.1 hk
          simp only [List.length_range] at hk1
          simp only [List.getElem_range] at hk2
          subst hk2
          have := (hfn i hk1).2 j u hj
          rw [add_spot hsp] at this
          rw [← this]
          simp only [Nat.add_assoc]
    · intro x hx
      obtain ⟨i, hi', rfl⟩ := List.mem_map.1 hx
      exact (hfn i (List.mem_range.1 hi')).1

theorem open_psts {W : World} {base : Nat} {v : Value} {d : DataW H} {pl : List MemPlace} (hval : Value.okWide Try.prog W .any base 56 v) (h : DataW.Trod enc Try.prog W 0 (fun _ => true) true 56 v d pl) (hw : ∀ n ∈ d.weights Try.prog 56, n ≤ reachBytes) :
    ∃ (p : Option (Nat × Nat)) (l : List Pst) (c : Nat), v = sliceV p l.length c ∧ (∀ x ∈ l, x.fits) ∧ l.length ≤ 4611686018427387904 ∧ RowP p 3 (l.map encP) W ∧ ∀ r, p = some r → r.1 < W.heap.size := by
  obtain ⟨fuel, hf⟩ := h
  have hu := Try.underlying56
  obtain ⟨a, len, cap, rfl⟩ : ∃ a len cap, v = .slice a len cap := okWide_slice hu hval
  obtain ⟨l, hp, hfit, hl⟩ := open_psts_raw hf hw
  rcases hp with ⟨rfl, a', c', e⟩ | ⟨b, off, c, hne, e, hr, hb⟩
  · cases a with
    | none =>
      injection e with e1 e2 e3; subst e2
      exact ⟨none, [], cap, rfl, by simp, by simp, rfl, by simp⟩
    | some ad =>
      obtain ⟨hsp, hlt⟩ := slice_has hu hval
      injection e with e1 e2 e3; subst e2
      refine ⟨some (ad.block, ad.off), [], cap, ?_, by simp, by simp, fun i x hx => (by simp at hx), fun r hr => by cases hr; exact hlt⟩
      unfold sliceV
      cases ad
      simp only at hsp
      subst hsp
      rfl
  · exact ⟨some (b, off), l, c, e, hfit, hl, hr, fun r hr => by cases hr; exact hb⟩

theorem open_los {W : World} {base : Nat} {v : Value} {d : DataW H} {pl : List MemPlace} (hval : Value.okWide Try.prog W .any base 50 v) (h : DataW.Trod enc Try.prog W 0 (fun _ => true) true 50 v d pl) (hw : ∀ n ∈ d.weights Try.prog 50, n ≤ reachBytes) :
    ∃ (p : Option (Nat × Nat)) (l : List LO) (c : Nat), v = sliceV p l.length c ∧ (∀ x ∈ l, x.fits) ∧ l.length ≤ 4611686018427387904 ∧ losφ p l W ∧ ∀ r, p = some r → r.1 < W.heap.size := by
  obtain ⟨fuel, hf⟩ := h
  have hu := Try.underlying50
  have hsl : ∃ a len cap, v = .slice a len cap := okWide_slice hu hval
  obtain ⟨a0, len0, cap0, rfl⟩ := hsl
  rcases open_slice hu hf with ⟨hc, _⟩ | ⟨a, len, cap, m, n, D, Pl, hc, _, hl, hm, hmm, hx, hi⟩
  · simp only [Value.cells, List.cons.injEq, and_true] at hc
    rw [hc]
    exact ⟨none, [], 0, rfl, by simp, by simp, ⟨rfl, by simp⟩, by simp⟩
  · simp only [Value.cells, List.cons.injEq, and_true] at hc
    rw [hc] at hval ⊢
    obtain ⟨hsp, hlt⟩ := slice_has hu hval
    have hx : d = _ := congrArg (·.1) hx
    simp only at hx
    simp only [if_true] at hmm
    rw [hmm] at hx hi
    have each : ∀ i, i < len → ∃ x : LO, x.fits ∧ PsAt x.pv x.ps W ∧ ∀ j u, (encLO x)[j]? = some u → W.cell? (a.add (i * 8 + j)) = some u := by
      intro i hil
      obtain ⟨cs', hcs, htr⟩ := hi i (by omega)
      rw [eight72] at hcs
      obtain ⟨_, hcl, hat⟩ := World.cells?_some hcs
      obtain ⟨v0, v1, v2, v3, v4, v5, v6, v7, rfl⟩ := list8 hcl
      obtain ⟨ys, n', hn', hD, _, hys, hfl⟩ := DataW.trod_struct Try.underlying72 htr
      have hD : D i = .agg (ys.map (·.1)) := congrArg (·.1) hD
      have hys : ys.length = 5 := hys
      have t0 := hfl 0 ⟨ "Kind", 3, 0, false, "", "", 0⟩ rfl
      simp only at t0
      have t1 := hfl 1 ⟨ "At", 3, 1, false, "", "", 8⟩ rfl
      simp only at t1
      have t2 := hfl 2 ⟨ "A", 68, 2, false, "", "", 16⟩ rfl
      simp only at t2
      have t3 := hfl 3 ⟨ "Memo", 9, 6, false, "", "", 64⟩ rfl
      simp only at t3
      have t4 := hfl 4 ⟨ "P", 56, 7, false, "", "", 80⟩ rfl
      simp only at t4
      rw [show Try.prog.cellsOf 3 = 1 from one3] at t0
      rw [show Try.prog.cellsOf 3 = 1 from one3] at t1
      rw [show Try.prog.cellsOf 68 = 4 from four68] at t2
      rw [show Try.prog.cellsOf 9 = 1 from one9] at t3
      rw [show Try.prog.cellsOf 56 = 1 from one56] at t4
      have g0 : ys[0]? = some ys[0] := List.getElem?_eq_getElem (by omega)
      have g1 : ys[1]? = some ys[1] := List.getElem?_eq_getElem (by omega)
      have g2 : ys[2]? = some ys[2] := List.getElem?_eq_getElem (by omega)
      have g3 : ys[3]? = some ys[3] := List.getElem?_eq_getElem (by omega)
      have g4 : ys[4]? = some ys[4] := List.getElem?_eq_getElem (by omega)
      rw [g0] at t0
      rw [g1] at t1
      rw [g2] at t2
      rw [g3] at t3
      rw [g4] at t4
      change DataW.trod enc Try.prog W 0 (fun _ => true) true n' 3 [v0] = _ at t0
      change DataW.trod enc Try.prog W 0 (fun _ => true) true n' 3 [v1] = _ at t1
      change DataW.trod enc Try.prog W 0 (fun _ => true) true n' 68 [v2, v3, v4, v5] = _ at t2
      change DataW.trod enc Try.prog W 0 (fun _ => true) true n' 9 [v6] = _ at t3
      change DataW.trod enc Try.prog W 0 (fun _ => true) true n' 56 [v7] = _ at t4
      obtain ⟨zs, n2, hn2, hA, _, hzs, hfa⟩ := DataW.trod_struct Try.underlying68 t2
      have hA : ys[2].1 = .agg (zs.map (·.1)) := congrArg (·.1) hA
      have hzs : zs.length = 4 := hzs
      have u0 := hfa 0 ⟨ "Code", 9, 0, false, "", "", 0⟩ rfl
      simp only at u0
      have u1 := hfa 1 ⟨ "Cur", 9, 1, false, "", "", 16⟩ rfl
      simp only at u1
      have u2 := hfa 2 ⟨ "Kind", 3, 2, false, "", "", 32⟩ rfl
      simp only at u2
      have u3 := hfa 3 ⟨ "Monetary", 4, 3, false, "", "", 40⟩ rfl
      simp only at u3
      rw [show Try.prog.cellsOf 9 = 1 from one9] at u0
      rw [show Try.prog.cellsOf 9 = 1 from one9] at u1
      rw [show Try.prog.cellsOf 3 = 1 from one3] at u2
      rw [show Try.prog.cellsOf 4 = 1 from one4] at u3
      have k0 : zs[0]? = some zs[0] := List.getElem?_eq_getElem (by omega)
      have k1 : zs[1]? = some zs[1] := List.getElem?_eq_getElem (by omega)
      have k2 : zs[2]? = some zs[2] := List.getElem?_eq_getElem (by omega)
      have k3 : zs[3]? = some zs[3] := List.getElem?_eq_getElem (by omega)
      rw [k0] at u0
      rw [k1] at u1
      rw [k2] at u2
      rw [k3] at u3
      change DataW.trod enc Try.prog W 0 (fun _ => true) true n2 9 [v2] = _ at u0
      change DataW.trod enc Try.prog W 0 (fun _ => true) true n2 9 [v3] = _ at u1
      change DataW.trod enc Try.prog W 0 (fun _ => true) true n2 3 [v4] = _ at u2
      change DataW.trod enc Try.prog W 0 (fun _ => true) true n2 4 [v5] = _ at u3
      obtain ⟨n0, e0, z0, w0⟩ := DataW.trod_int Try.underlying3 t0
      obtain ⟨n1, e1, z1, w1⟩ := DataW.trod_int Try.underlying3 t1
      obtain ⟨s6, e6, z6, w6⟩ := DataW.trod_string Try.underlying9 t3
      obtain ⟨s2, e2, z2, w2⟩ := DataW.trod_string Try.underlying9 u0
      obtain ⟨s3, e3, z3, w3⟩ := DataW.trod_string Try.underlying9 u1
      obtain ⟨n4, e4, z4, w4⟩ := DataW.trod_int Try.underlying3 u2
      obtain ⟨b5, e5, z5⟩ := DataW.trod_bool Try.underlying4 u3
      simp only [List.cons.injEq, and_true] at e0 e1 e2 e3 e4 e5 e6
      subst e0 e1 e2 e3 e4 e5 e6
      have lift : ∀ (k : Nat), k ∈ (D i).weights Try.prog 72 → k ≤ reachBytes := fun k h1 => by
        refine hw _ ?_
        rw [hx]
        have h2 := weights_all h1 (l := (List.range len).map D) (List.mem_map.2 ⟨i, List.mem_range.2 hil, rfl⟩)
        simp only [DataW.weights, hu, List.mem_cons, List.mem_append]
        exact .inr (.inl h2)
      have liftA : ∀ (k : Nat), k ∈ (ys[2].1).weights Try.prog 68 → k ≤ reachBytes := fun k h1 => lift k (by
        rw [hD]
        simp only [DataW.weights, Try.underlying72]
        exact DataW.weights_mem_each (j := 2) rfl (d := ys[2].1) (by rw [List.getElem?_map, g2]; rfl) _ h1)
      have hs6 : s6.size ≤ reachBytes := lift _ (by
        rw [hD]
        simp only [DataW.weights, Try.underlying72]
        refine DataW.weights_mem_each (j := 3) rfl (d := .lit (.string s6.data.toList)) (by rw [List.getElem?_map, g3, z6]; rfl) _ ?_
        simp only [DataW.weights, List.mem_singleton]
        rfl)
      have hs2 : s2.size ≤ reachBytes := liftA _ (by
        rw [hA]
        simp only [DataW.weights, Try.underlying68]
        refine DataW.weights_mem_each (j := 0) rfl (d := .lit (.string s2.data.toList)) (by rw [List.getElem?_map, k0, z2]; rfl) _ ?_
        simp only [DataW.weights, List.mem_singleton]
        rfl)
      have hs3 : s3.size ≤ reachBytes := liftA _ (by
        rw [hA]
        simp only [DataW.weights, Try.underlying68]
        refine DataW.weights_mem_each (j := 1) rfl (d := .lit (.string s3.data.toList)) (by rw [List.getElem?_map, k1, z3]; rfl) _ ?_
        simp only [DataW.weights, List.mem_singleton]
        rfl)
      obtain ⟨l7, a7, b7, m7⟩ := open_psts_raw t4 (fun k hk => lift k (by
        rw [hD]
        simp only [DataW.weights, Try.underlying72]
        exact DataW.weights_mem_each (j := 4) rfl (d := ys[4].1) (by rw [List.getElem?_map, g4]; rfl) _ hk))
      refine ⟨⟨n0, n1, ⟨s2, s3, n4, b5⟩, s6, l7, v7⟩, ⟨bounds_i64 w1, Nat.le_trans hs2 (by decide), Nat.le_trans hs3 (by decide), Nat.le_trans hs6 (by decide), ⟨b7, m7⟩⟩, a7, fun j u hj => ?_⟩
      have hjl : j < 8 := (List.getElem?_eq_some_iff.1 hj).1
      rw [← add_add, hat j hjl]
      exact hj
    have hlen : (len + (cap - len)) * 104 ≤ reachBytes := by
      have := hw ((len + (cap - len)) * Try.prog.bytesOf 72) (by rw [hx]; simp [DataW.weights, hu])
      rwa [bytesLO] at this
    simp only [reachBytes] at hlen
    haveI : Inhabited LO := ⟨⟨0, 0, noAcc, ByteArray.empty, [], .nilFunc⟩⟩
    obtain ⟨f, hfn⟩ := choose_lt each
    refine ⟨some (a.block, a.off), (List.range len).map f, cap, ?_, ?_, by simp only [List.length_map, List.length_range]; omega, ⟨?_, ?_⟩, ?_⟩
    · unfold sliceV
      cases a
      simp only at hsp
      subst hsp
      simp
    · intro x hx
      obtain ⟨i, hi', rfl⟩ := List.mem_map.1 hx
      exact (hfn i (List.mem_range.1 hi')).1
    · intro i x hx j u hj
      simp only [List.getElem?_map, Option.map_eq_some_iff] at hx
      obtain ⟨y, ⟨k, hk, rfl⟩, rfl⟩ := hx
      obtain ⟨hk1, hk2⟩ := List.getElem?_eq_some_iff.1 hk
      simp only [List.length_range] at hk1
      simp only [List.getElem_range] at hk2
      subst hk2
      have := (hfn i hk1).2.2 j u hj
      rw [add_spot hsp] at this
      rw [← this]
      simp only [Nat.add_assoc]
    · intro x hx
      obtain ⟨i, hi', rfl⟩ := List.mem_map.1 hx
      exact (hfn i (List.mem_range.1 hi')).2.1
    · rintro r hr
      cases hr
      exact hlt
end
end Go.Proofs.Ytheofhegdjjfgaa.Open

namespace Go.Proofs.Ytheofhegdjjfgaa.ledgerStays
open Go.ChangeShapes Go.WideShapes Go.ChangeAt Go.RowKit Go.Joins
open Go.ChangeMaps (open_string shut_string)

theorem own : ownKnob Try.prog.godebug = none := by kernel_rfl
theorem laidOut : laidOutB Try.prog = true := by kernel_rfl

set_option maxRecDepth 100000 in
theorem lifted (os : Os) (started : os.Started) (H : Type) (enc : TypeId × Value → H) :
    ReturnsInHanded {} Try.checked os 11 .any (Rows.ledgerStaysSpec.pre6 enc Try.prog Try.f11 Rows.ledgerStaysRow.domain false) (Rows.ledgerStaysSpec.post enc Try.prog Try.f11 false true false false) := by
  refine returnsInHanded_of_change_sized (C := Try.checked) own started (by kernel_rfl) Try.func11
    (ChangeSpec.witness6 (enc := enc) (C := Try.checked) false ⟨#[], #[.slice none 0 0, .slice none 0 0], []⟩ 8 (by kernel_rfl) (by kernel_rfl) (by kernel_rfl) (by kernel_rfl)) ?_
  intro W base args ds gs before hval0 hW hcnd hsz0 _
  have hval : ∀ (j : Nat) t v, Try.f11.params[j]? = some t → args[j]? = some v → Value.okWide Try.prog W .any base t v := hval0
  have hW' := hW
  obtain ⟨p, q, hA0, hV, rfl, hfz, hnd⟩ := hW
  have hsz : (DataW.weightsEach Try.prog (Try.f11.params.toList ++ Rows.ledgerStaysSpec.plain.varTypes Try.prog) (ds ++ gs)).all (· ≤ reachBytes) = true := hsz0
  have hA : DataW.TrodAll enc Try.prog W 0 (fun _ => true) true Try.f11.params.toList args.toList ds p := hA0
  rw [Try.params11] at hA hval hsz
  obtain ⟨v0, vs0, d0, ds0, p0, q0, hargs, rfl, rfl, h0, r0⟩ := trodAll_cons hA
  obtain ⟨v1, vs1, d1, ds1, p1, q1, rfl, rfl, rfl, h1, r1⟩ := trodAll_cons r0
  obtain ⟨rfl, rfl, rfl⟩ := trodAll_nil r1
  obtain rfl : args = #[v0, v1] := by cases args; simp_all
  obtain ⟨rfl, rfl⟩ := trodVars_none hV
  have k0 := h0
  have lt0 : ∀ x ∈ p0, x.block < W.heap.size := by obtain ⟨m, hm⟩ := k0; exact DataW.trod_lt m _ _ _ hm
  have z0 : ∀ n ∈ d0.weights Try.prog 50, n ≤ reachBytes := fun n hn => by simpa using List.all_eq_true.1 hsz n (DataW.weights_mem_each (j := 0) (t := 50) (d := d0) rfl rfl n hn)
  obtain ⟨s0, l0, c0, rfl, f0, m0, e0, g0⟩ := Open.open_los (hval 0 50 v0 rfl rfl) h0 z0
  have k1 := h1
  have lt1 : ∀ x ∈ p1, x.block < W.heap.size := by obtain ⟨m, hm⟩ := k1; exact DataW.trod_lt m _ _ _ hm
  have z1 : ∀ n ∈ d1.weights Try.prog 50, n ≤ reachBytes := fun n hn => by simpa using List.all_eq_true.1 hsz n (DataW.weights_mem_each (j := 1) (t := 50) (d := d1) rfl rfl n hn)
  obtain ⟨s1, l1, c1, rfl, f1, m1, e1, g1⟩ := Open.open_los (hval 1 50 v1 rfl rfl) h1 z1
  have hw := LedgerStays_P s0 c0 l0 m0 f0 s1 c1 l1 m1 f1 W e0 g0 e1 g1
  clear hA0 hval0
  refine hw.mono fun e W' ⟨he, hchg⟩ => ?_
  have bel := hchg.below
  subst he
  exact ⟨_, rfl, _, _, _, [], _, [], hW', trodAll_mk1 (shut_bool Try.underlying4 _), (trodAll_cons_mk (Below.trod laidOut (by kernel_rfl) (of_decide_eq_true (by kernel_rfl)) k0 bel lt0) (trodAll_cons_mk (Below.trod laidOut (by kernel_rfl) (of_decide_eq_true (by kernel_rfl)) k1 bel lt1) trodAll_mk0)), rfl, bel.frame _, fun h => by cases h⟩

theorem over : Rows.ledgerStaysRow.holds Try.pinned (OpenSpec.ofChange Rows.ledgerStaysSpec) :=
  OpenClaim.holds_of_wide 11 Try.f11 rfl rfl rfl rfl rfl rfl rfl ⟨rfl, rfl, rfl, rfl, rfl⟩ rfl rfl rfl rfl rfl (by kernel_rfl) Try.func11 (by kernel_rfl)
    (of_decide_eq_true (by kernel_rfl)) (by unfold Func.isWrapper; first | (rw [if_pos (by decide +kernel)]; kernel_rfl) | (rw [if_neg (by decide +kernel)]; exact ⟨rfl, rfl⟩))
    (fun os started H enc _ => lifted os started H enc)

theorem proved : Rows.LedgerStaysSaid := over
end Go.Proofs.Ytheofhegdjjfgaa.ledgerStays
