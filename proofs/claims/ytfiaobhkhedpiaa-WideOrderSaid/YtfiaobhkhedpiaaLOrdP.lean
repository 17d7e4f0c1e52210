/- The law WideOrder: for every argument it returns true, and each argument reads afterwards as it read before. -/
import Derived.Test.YtfiaobhkhedpiaaLOrd
import Derived.ProofKit
import Derived.OpenShut
import Derived.ShutString
import Derived.ChangeOld
import Derived.Below
import Derived.Lib.SmallJoins
namespace Go.Proofs.Ytfiaobhkhedpiaa.wideOrder
open Go.ChangeShapes Go.WideShapes Go.ChangeAt Go.RowKit Go.Joins
open Go.ChangeMaps (open_string shut_string)

theorem own : ownKnob Try.prog.godebug = none := by kernel_rfl
theorem laidOut : laidOutB Try.prog = true := by kernel_rfl
theorem cellsW : Try.prog.cellsOf 60 = 2 := by kernel_rfl

set_option maxRecDepth 100000 in
theorem lifted (os : Os) (started : os.Started) (H : Type) (enc : TypeId × Value → H) :
    ReturnsInHanded {} Try.checked os 11 .any (Rows.wideOrderSpec.pre6 enc Try.prog Try.f11 Rows.wideOrderRow.domain false) (Rows.wideOrderSpec.post enc Try.prog Try.f11 false true false false) := by
  refine returnsInHanded_of_change (C := Try.checked) own started (by kernel_rfl) Try.func11
    (ChangeSpec.witness6 (enc := enc) (C := Try.checked) false ⟨#[], #[.agg #[.int .u64 0, .int .u64 0], .agg #[.int .u64 0, .int .u64 0], .agg #[.int .u64 0, .int .u64 0]], []⟩ 8 (by kernel_rfl) (by kernel_rfl) (by kernel_rfl) (by kernel_rfl)) ?_
  intro W base args ds gs before hval0 hW hcnd _
  have hval : ∀ (j : Nat) t v, Try.f11.params[j]? = some t → args[j]? = some v → Value.okWide Try.prog W .any base t v := hval0
  have hW' := hW
  obtain ⟨p, q, hA0, hV, rfl, hfz, hnd⟩ := hW
  have hA : DataW.TrodAll enc Try.prog W 0 (fun _ => true) true Try.f11.params.toList args.toList ds p := hA0
  rw [Try.params11] at hA hval
  obtain ⟨v0, vs0, d0, ds0, p0, q0, hargs, rfl, rfl, h0, r0⟩ := trodAll_cons hA
  obtain ⟨v1, vs1, d1, ds1, p1, q1, rfl, rfl, rfl, h1, r1⟩ := trodAll_cons r0
  obtain ⟨v2, vs2, d2, ds2, p2, q2, rfl, rfl, rfl, h2, r2⟩ := trodAll_cons r1
  obtain ⟨rfl, rfl, rfl⟩ := trodAll_nil r2
  obtain rfl : args = #[v0, v1, v2] := by cases args; simp_all
  obtain ⟨rfl, rfl⟩ := trodVars_none hV
  have k0 := h0
  have lt0 : ∀ x ∈ p0, x.block < W.heap.size := by obtain ⟨m, hm⟩ := k0; exact DataW.trod_lt m _ _ _ hm
  obtain ⟨x0, y0, s0, t0, m0, rfl, rfl, rfl, hx0, hy0⟩ := open_agg2 Try.underlying60 (by kernel_rfl) cellsW (hval 0 60 v0 rfl rfl) h0
  obtain ⟨xi0, ex0, rfl, wx0⟩ := DataW.trod_int Try.underlying58 hx0
  obtain ⟨yi0, ey0, rfl, wy0⟩ := DataW.trod_int Try.underlying58 hy0
  simp at ex0 ey0
  subst ex0 ey0
  have bx0 := bounds_u64 wx0
  have by0 := bounds_u64 wy0
  have k1 := h1
  have lt1 : ∀ x ∈ p1, x.block < W.heap.size := by obtain ⟨m, hm⟩ := k1; exact DataW.trod_lt m _ _ _ hm
  obtain ⟨x1, y1, s1, t1, m1, rfl, rfl, rfl, hx1, hy1⟩ := open_agg2 Try.underlying60 (by kernel_rfl) cellsW (hval 1 60 v1 rfl rfl) h1
  obtain ⟨xi1, ex1, rfl, wx1⟩ := DataW.trod_int Try.underlying58 hx1
  obtain ⟨yi1, ey1, rfl, wy1⟩ := DataW.trod_int Try.underlying58 hy1
  simp at ex1 ey1
  subst ex1 ey1
  have bx1 := bounds_u64 wx1
  have by1 := bounds_u64 wy1
  have k2 := h2
  have lt2 : ∀ x ∈ p2, x.block < W.heap.size := by obtain ⟨m, hm⟩ := k2; exact DataW.trod_lt m _ _ _ hm
  obtain ⟨x2, y2, s2, t2, m2, rfl, rfl, rfl, hx2, hy2⟩ := open_agg2 Try.underlying60 (by kernel_rfl) cellsW (hval 2 60 v2 rfl rfl) h2
  obtain ⟨xi2, ex2, rfl, wx2⟩ := DataW.trod_int Try.underlying58 hx2
  obtain ⟨yi2, ey2, rfl, wy2⟩ := DataW.trod_int Try.underlying58 hy2
  simp at ex2 ey2
  subst ex2 ey2
  have bx2 := bounds_u64 wx2
  have by2 := bounds_u64 wy2
  have hw := WideOrder_w (Wd.val xi0 yi0) (Wd.val xi1 yi1) (Wd.val xi2 yi2) (Wd.val_fit xi0 yi0 (by omega) (by omega) (by omega) (by omega)) (Wd.val_fit xi1 yi1 (by omega) (by omega) (by omega) (by omega)) (Wd.val_fit xi2 yi2 (by omega) (by omega) (by omega) (by omega)) W
  rw [Wd.hi_val xi0 yi0 (by omega) (by omega) (by omega) (by omega), Wd.lo_val xi0 yi0 (by omega) (by omega), Wd.hi_val xi1 yi1 (by omega) (by omega) (by omega) (by omega), Wd.lo_val xi1 yi1 (by omega) (by omega), Wd.hi_val xi2 yi2 (by omega) (by omega) (by omega) (by omega), Wd.lo_val xi2 yi2 (by omega) (by omega)] at hw
  clear hA0 hval0
  refine hw.mono fun e W' ⟨he, bel⟩ => ?_
  subst he
  exact ⟨_, rfl, _, _, _, [], _, [], hW', trodAll_mk1 (shut_bool Try.underlying4 _), (trodAll_cons_mk (Below.trod laidOut (by kernel_rfl) (of_decide_eq_true (by kernel_rfl)) k0 bel lt0) (trodAll_cons_mk (Below.trod laidOut (by kernel_rfl) (of_decide_eq_true (by kernel_rfl)) k1 bel lt1) (trodAll_cons_mk (Below.trod laidOut (by kernel_rfl) (of_decide_eq_true (by kernel_rfl)) k2 bel lt2) trodAll_mk0))), rfl, bel.frame _, fun h => by cases h⟩

theorem over : Rows.wideOrderRow.holds Try.pinned (OpenSpec.ofChange Rows.wideOrderSpec) :=
  OpenClaim.holds_of_wide 11 Try.f11 rfl rfl rfl rfl rfl rfl rfl ⟨rfl, rfl, rfl, rfl, rfl⟩ rfl rfl rfl rfl rfl (by kernel_rfl) Try.func11 (by kernel_rfl)
    (of_decide_eq_true (by kernel_rfl)) (by unfold Func.isWrapper; first | (rw [if_pos (by decide +kernel)]; kernel_rfl) | (rw [if_neg (by decide +kernel)]; exact ⟨rfl, rfl⟩))
    (fun os started H enc _ => lifted os started H enc)

theorem proved : Rows.WideOrderSaid := over
end Go.Proofs.Ytfiaobhkhedpiaa.wideOrder
