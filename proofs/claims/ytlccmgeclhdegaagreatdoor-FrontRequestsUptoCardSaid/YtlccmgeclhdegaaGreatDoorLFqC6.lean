/- FrontRequests: for every argument the law returns true, and each argument reads afterwards as it read before. No conditions. (text 6 of 6) -/
import Derived.Test.YtlccmgeclhdegaaGreatDoorLFqC5
import Derived.ProofKit
import Derived.ShutString
import Derived.ChangeOld
import Derived.Below
import Derived.LaidMore
import Derived.Lay
import Derived.SevenTiedAt
import Derived.Stop.Joined
import Derived.JoinedCond
import Derived.Deep.DeepHandedRow
import Derived.Test.YtlccmgeclhdegaaGreatDoorTie
import Derived.Test.YtlccmgeclhdegaaGreatDoorCards
set_option maxRecDepth 100000
set_option maxHeartbeats 16000000
namespace Go.Proofs.YtlccmgeclhdegaaGreatDoor.Open
set_option maxRecDepth 100000
open Go.ChangeShapes Go.WideShapes Go.Deep
section
variable {H : Type} {enc : TypeId × Value → H} {P : Program} {w : World} {base : Nat} {spare : Nat → Bool} {held : Bool}
theorem Nj {r : Reach} {b0 : Nat} {t : TypeId} {fs : Array Field} {v : Value} {d : DataW H} {p : List MemPlace} (hs : P.underlying t = some (.struct fs)) (hone : oneCellFields P fs = true) (hC : P.cellsOf t = fs.size)
 (hv : Value.okWide P w r b0 t v) (h : DataW.Trod enc P w base spare held t v d p) :
 ∃ (cs : Array Value) (ys : List (DataW H × List MemPlace)) (n : Nat), v = .agg cs ∧ d = .agg (ys.map (·.1)) ∧ cs.size = fs.size ∧ ys.length = fs.size ∧
  ∀ (j : Nat) (f : Field), fs[j]? = some f → ∃ (u : Value) (y : DataW H × List MemPlace), cs[j]? = some u ∧ ys[j]? = some y ∧ DataW.trod enc P w base spare held n f.type [u] = some y := by
 obtain ⟨cs, rfl, hsz⟩ := okWide_struct hs hv
 obtain ⟨fuel, hf⟩ := h
 obtain ⟨ys, n', _, hy, hlen, hyl, hff⟩ := DataW.trod_struct hs hf
 simp only [Prod.mk.injEq] at hy
 refine ⟨cs, ys, n', rfl, hy.1, hsz.trans hC, hyl, fun j f hj => ?_⟩
 obtain ⟨ho, hk⟩ := hone_of hone j f hj
 have hjl : j < fs.size := (Array.getElem?_eq_some_iff.1 hj).1
 have hjc : j < cs.size := by rw [hsz, hC]; exact hjl
 have h1 := hff j f hj
 rw [ho, hk] at h1
 have hv : cs.toList[j]? = some (cs[j]'hjc) := by
  rw [Array.getElem?_toList, Array.getElem?_eq_getElem hjc]
 have hone' : (cs.toList.drop j).take 1 = [cs[j]'hjc] := by
  obtain ⟨h2, h3⟩ := List.getElem?_eq_some_iff.1 hv
  rw [List.drop_eq_getElem_cons h2, h3]
  rfl
 change DataW.trod enc P w base spare held n' f.type ((cs.toList.drop j).take 1) = ys[j]? at h1
 rw [hone'] at h1
 have hys : ys[j]? = some (ys[j]'(by omega)) := List.getElem?_eq_getElem (by omega)
 exact ⟨_, _, Array.getElem?_eq_getElem hjc, hys, h1.trans hys⟩
end
section
variable {H : Type} {enc : TypeId × Value → H}
theorem O1 {W : World} {n : Nat} {u : Value} {y : DataW H × List MemPlace} (h : DataW.trod enc Tryz.prog W 0 (fun _ => true) true n 22 [u] = some y) :
 ∃ (fa : Option Addr) (fc : Nat) (l : List B5), u = .slice fa l.length fc ∧ NV l ∧ D9 W fa l := by
 have hu := Tryz.underlying22
 rcases HT hu Tryz.underlying160 (by kernel_rfl) (by kernel_rfl) h with ⟨hc, _⟩ | ⟨a, len, cap, m, D, Pl, hc, _, hl, hm, hmm, hx, hi⟩
 ·
  simp only [List.cons.injEq, and_true] at hc
  exact ⟨none, 0, [], hc, fun x hx => (by cases hx), ⟨fun h => absurd rfl h⟩⟩
 ·
  simp only [List.cons.injEq, and_true] at hc
  simp only [if_true] at hmm
  rw [hmm] at hi
  have each : ∀ i, i < len → ∃ x : B5, (-9223372036854775808 ≤ x.n ∧ x.n ≤ 9223372036854775807) ∧ ∀ j u, (Az x)[j]? = some u → W.cell? (a.add (i * 4 + j)) = some u := by
   intro i hil
   obtain ⟨ys, n, hD, _, hys, hfl⟩ := hi i (by omega)
   obtain ⟨v0, y0, c0, g0, t0⟩ := hfl 0 _ rfl
   obtain ⟨v1, y1, c1, g1, t1⟩ := hfl 1 _ rfl
   obtain ⟨v2, y2, c2, g2, t2⟩ := hfl 2 _ rfl
   obtain ⟨v3, y3, c3, g3, t3⟩ := hfl 3 _ rfl
   obtain ⟨s0, e0, z0, w0⟩ := DataW.trod_string Tryz.underlying9 t0
   obtain ⟨n1, e1, z1, w1⟩ := DataW.trod_int Tryz.underlying3 t1
   obtain ⟨n2, e2, z2, w2⟩ := DataW.trod_int Tryz.underlying3 t2
   obtain ⟨s3, e3, z3, w3⟩ := DataW.trod_string Tryz.underlying9 t3
   simp only [List.cons.injEq, and_true] at e0 e1 e2 e3
   subst e0 e1 e2 e3
   refine ⟨⟨s0.data.toList, n1, n2, s3.data.toList⟩, bounds_i64 w2, fun j u hj => ?_⟩
   match j, hj with
   | 0, hj => cases hj; exact c0
   | 1, hj => cases hj; exact c1
   | 2, hj => cases hj; exact c2
   | 3, hj => cases hj; exact c3
   | (k + 4), hj => simp [Az] at hj
  haveI : Inhabited B5 := ⟨⟨[], 0, 0, []⟩⟩
  obtain ⟨f, hfn⟩ := choose_lt each
  have hll : ((List.range len).map f).length = len := by simp
  refine ⟨some a, cap, (List.range len).map f, by rw [hll]; exact hc, fun x hx => ?_, ⟨fun hne => ?_⟩⟩
  ·
   obtain ⟨i, hi', rfl⟩ := List.mem_map.1 hx
   exact (hfn i (List.mem_range.1 hi')).1
  ·
   have hlen : 0 < len := by
    rcases Nat.eq_zero_or_pos len with h0 | h0
    · subst h0; exact absurd rfl hne
    · exact h0
   have hc0 := (hfn 0 hlen).2 0 _ rfl
   have e0 : a.add (0 * 4 + 0) = a := by unfold Addr.add; rw [if_pos rfl]
   rw [e0] at hc0
   obtain ⟨_, _, hsh, _, hsp⟩ := World.shape?_of_cell? hc0
   refine ⟨a.block, a.off, ?_, fun i x hx j u hj => ?_⟩
   ·
    cases a
    simp only at hsp
    subst hsp
    rfl
   ·
    simp only [List.getElem?_map, Option.map_eq_some_iff] at hx
    obtain ⟨k, hk, rfl⟩ := hx
    obtain ⟨hk1, hk2⟩ := List.getElem?_eq_some_iff.1 hk
    simp only [List.length_range] at hk1
    simp only [List.getElem_range] at hk2
    subst hk2
    have := (hfn i hk1).2 j u hj
    rw [Vf hsp] at this
    rw [← this]
    simp only [Nat.add_assoc]
theorem kY {W : World} {base : Nat} {v : Value} {d : DataW H} {pl : List MemPlace} (hval : Value.okWide Tryz.prog W .any base 24 v) (h : DataW.Trod enc Tryz.prog W 0 (fun _ => true) true 24 v d pl) (hb : Rows.uptoBulk d ≤ 1048576) :
 ∃ (c : Cd) (fa : Option Addr) (fc : Nat), v = .agg (AB c (.slice fa c.fx.length fc)).toArray ∧ c.ok ∧ NV c.fx ∧ KA c ≤ 1048576 ∧ D9 W fa c.fx := by
 obtain ⟨cs, ys, n, rfl, rfl, hcs, hys, hf⟩ := Nj Tryz.underlying24 (by kernel_rfl) (by kernel_rfl) hval h
 obtain ⟨cs⟩ := cs
 match cs, hcs, ys, hys with
 | [a0, a1, a2, a3, a4, a5, a6, a7, a8, a9, a10, a11, a12, a13, a14], _, [b0, b1, b2, b3, b4, b5, b6, b7, b8, b9, b10, b11, b12, b13, b14], _ =>
 obtain ⟨u0, y0, c0, g0, t0⟩ := hf 0 _ rfl
 obtain rfl : a0 = u0 := Option.some.inj c0
 obtain rfl : b0 = y0 := Option.some.inj g0
 clear c0 g0
 obtain ⟨u1, y1, c1, g1, t1⟩ := hf 1 _ rfl
 obtain rfl : a1 = u1 := Option.some.inj c1
 obtain rfl : b1 = y1 := Option.some.inj g1
 clear c1 g1
 obtain ⟨u2, y2, c2, g2, t2⟩ := hf 2 _ rfl
 obtain rfl : a2 = u2 := Option.some.inj c2
 obtain rfl : b2 = y2 := Option.some.inj g2
 clear c2 g2
 obtain ⟨u3, y3, c3, g3, t3⟩ := hf 3 _ rfl
 obtain rfl : a3 = u3 := Option.some.inj c3
 obtain rfl : b3 = y3 := Option.some.inj g3
 clear c3 g3
 obtain ⟨u4, y4, c4, g4, t4⟩ := hf 4 _ rfl
 obtain rfl : a4 = u4 := Option.some.inj c4
 obtain rfl : b4 = y4 := Option.some.inj g4
 clear c4 g4
 obtain ⟨u5, y5, c5, g5, t5⟩ := hf 5 _ rfl
 obtain rfl : a5 = u5 := Option.some.inj c5
 obtain rfl : b5 = y5 := Option.some.inj g5
 clear c5 g5
 obtain ⟨u6, y6, c6, g6, t6⟩ := hf 6 _ rfl
 obtain rfl : a6 = u6 := Option.some.inj c6
 obtain rfl : b6 = y6 := Option.some.inj g6
 clear c6 g6
 obtain ⟨u7, y7, c7, g7, t7⟩ := hf 7 _ rfl
 obtain rfl : a7 = u7 := Option.some.inj c7
 obtain rfl : b7 = y7 := Option.some.inj g7
 clear c7 g7
 obtain ⟨u8, y8, c8, g8, t8⟩ := hf 8 _ rfl
 obtain rfl : a8 = u8 := Option.some.inj c8
 obtain rfl : b8 = y8 := Option.some.inj g8
 clear c8 g8
 obtain ⟨u9, y9, c9, g9, t9⟩ := hf 9 _ rfl
 obtain rfl : a9 = u9 := Option.some.inj c9
 obtain rfl : b9 = y9 := Option.some.inj g9
 clear c9 g9
 obtain ⟨u10, y10, c10, g10, t10⟩ := hf 10 _ rfl
 obtain rfl : a10 = u10 := Option.some.inj c10
 obtain rfl : b10 = y10 := Option.some.inj g10
 clear c10 g10
 obtain ⟨u11, y11, c11, g11, t11⟩ := hf 11 _ rfl
 obtain rfl : a11 = u11 := Option.some.inj c11
 obtain rfl : b11 = y11 := Option.some.inj g11
 clear c11 g11
 obtain ⟨u12, y12, c12, g12, t12⟩ := hf 12 _ rfl
 obtain rfl : a12 = u12 := Option.some.inj c12
 obtain rfl : b12 = y12 := Option.some.inj g12
 clear c12 g12
 obtain ⟨u13, y13, c13, g13, t13⟩ := hf 13 _ rfl
 obtain rfl : a13 = u13 := Option.some.inj c13
 obtain rfl : b13 = y13 := Option.some.inj g13
 clear c13 g13
 obtain ⟨u14, y14, c14, g14, t14⟩ := hf 14 _ rfl
 obtain rfl : a14 = u14 := Option.some.inj c14
 obtain rfl : b14 = y14 := Option.some.inj g14
 clear c14 g14
 obtain ⟨n0, e0, z0, w0⟩ := DataW.trod_int Tryz.underlying3 t0
 simp only [List.cons.injEq, and_true] at e0
 subst e0 z0
 obtain ⟨s1, e1, z1, w1⟩ := DataW.trod_string Tryz.underlying9 t1
 simp only [List.cons.injEq, and_true] at e1
 subst e1 z1
 obtain ⟨s2, e2, z2, w2⟩ := DataW.trod_string Tryz.underlying9 t2
 simp only [List.cons.injEq, and_true] at e2
 subst e2 z2
 obtain ⟨s3, e3, z3, w3⟩ := DataW.trod_string Tryz.underlying9 t3
 simp only [List.cons.injEq, and_true] at e3
 subst e3 z3
 obtain ⟨s4, e4, z4, w4⟩ := DataW.trod_string Tryz.underlying9 t4
 simp only [List.cons.injEq, and_true] at e4
 subst e4 z4
 obtain ⟨s5, e5, z5, w5⟩ := DataW.trod_string Tryz.underlying9 t5
 simp only [List.cons.injEq, and_true] at e5
 subst e5 z5
 obtain ⟨s6, e6, z6, w6⟩ := DataW.trod_string Tryz.underlying9 t6
 simp only [List.cons.injEq, and_true] at e6
 subst e6 z6
 obtain ⟨n7, e7, z7, w7⟩ := DataW.trod_int Tryz.underlying3 t7
 simp only [List.cons.injEq, and_true] at e7
 subst e7 z7
 obtain ⟨n8, e8, z8, w8⟩ := DataW.trod_int Tryz.underlying3 t8
 simp only [List.cons.injEq, and_true] at e8
 subst e8 z8
 obtain ⟨n9, e9, z9, w9⟩ := DataW.trod_int Tryz.underlying3 t9
 simp only [List.cons.injEq, and_true] at e9
 subst e9 z9
 obtain ⟨n10, e10, z10, w10⟩ := DataW.trod_int Tryz.underlying3 t10
 simp only [List.cons.injEq, and_true] at e10
 subst e10 z10
 obtain ⟨n11, e11, z11, w11⟩ := DataW.trod_int Tryz.underlying3 t11
 simp only [List.cons.injEq, and_true] at e11
 subst e11 z11
 obtain ⟨n12, e12, z12, w12⟩ := DataW.trod_int Tryz.underlying3 t12
 simp only [List.cons.injEq, and_true] at e12
 subst e12 z12
 obtain ⟨n13, e13, z13, w13⟩ := DataW.trod_int Tryz.underlying3 t13
 simp only [List.cons.injEq, and_true] at e13
 subst e13 z13
 obtain ⟨fa, fc, l, hu, hfx, hft⟩ := O1 t14
 subst hu
 simp only [List.map_cons, List.map_nil, Rows.uptoBulk, Rows.uptoBulkAll] at hb
 refine ⟨⟨n0, fun i => ([[], s1.data.toList, s2.data.toList, s3.data.toList, s4.data.toList, s5.data.toList, s6.data.toList] : List (List UInt8)).getD i [], fun i => ([0, 0, 0, 0, 0, 0, 0, n7, n8, n9, n10, n11, n12, n13] : List Int).getD i 0, l⟩, fa, fc, rfl, ⟨fun i h1 h2 => ?_, fun i h1 h2 => ?_⟩, hfx, ?_, hft⟩
 ·
  match i, h1, h2 with
  | 1, _, _ => show s1.data.toList.length ≤ 1100000; omega
  | 2, _, _ => show s2.data.toList.length ≤ 1100000; omega
  | 3, _, _ => show s3.data.toList.length ≤ 1100000; omega
  | 4, _, _ => show s4.data.toList.length ≤ 1100000; omega
  | 5, _, _ => show s5.data.toList.length ≤ 1100000; omega
  | 6, _, _ => show s6.data.toList.length ≤ 1100000; omega
 ·
  match i, h1, h2 with
  | 7, _, _ => exact bounds_i64 w7
  | 8, _, _ => exact bounds_i64 w8
  | 9, _, _ => exact bounds_i64 w9
  | 10, _, _ => exact bounds_i64 w10
  | 11, _, _ => exact bounds_i64 w11
  | 12, _, _ => exact bounds_i64 w12
  | 13, _, _ => exact bounds_i64 w13
 ·
  show s1.data.toList.length + s2.data.toList.length + s3.data.toList.length + s4.data.toList.length + s5.data.toList.length + s6.data.toList.length ≤ 1048576
  omega
end
end Go.Proofs.YtlccmgeclhdegaaGreatDoor.Open
