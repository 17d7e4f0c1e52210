/- A class of worlds for regions that draw their order and call callees that only make memory. -/
import Derived.Test.YtfiaobhkhedpiaaW14
import Derived.Deep.QuietTactic
namespace Go.Proofs.Ytfiaobhkhedpiaa
open Go.RowKit Go.Lib

/-- the worlds grown out of W with W's cells as they were. -/
structure QC (W w' : World) : Prop where
  below : Below W.heap.size W w'

theorem QC.start (W : World) : QC W { W with drawn := W.drawn + 1 } := ⟨Below.drew (Below.refl _ _)⟩
theorem QC.next {W w1 w2 : World} (h : QC W w1) (hb : Below w1.heap.size w1 w2) : QC W w2 := ⟨h.below.trans (hb.mono h.below.size)⟩
theorem QC.cell {W w1 : World} (h : QC W w1) {b o : Nat} {v : Option Value} (hb : b < W.heap.size) (hc : W.cell? ⟨b, o, none⟩ = v) : w1.cell? ⟨b, o, none⟩ = v :=
  (h.below.cell (p := ⟨b, o, none⟩) hb).trans hc

theorem Cmp_v (a b : Int) (ha : Wd.fit a) (hb : Wd.fit b) {s : Int} (hs : Wd.sg (a - b) = s) (w : World) :
    Calls Try.prog 49 #[Value.agg #[.int .u64 (Wd.hi (a)), .int .u64 (Wd.lo (a))], Value.agg #[.int .u64 (Wd.hi (b)), .int .u64 (Wd.lo (b))]] w fun e w' => e = .returned (.int .i64 s) ∧ Below w.heap.size w w' := by
  subst hs; exact Cmp_w a b ha hb w
theorem q_ret {P : Program} {f : FuncId} {args : Array Value} {W w : World} {v : Value} (hq : QC W w) (h : Calls P f args w fun e w' => e = .returned v ∧ Below w.heap.size w w') :
    Calls P f args w fun e w' => e = .returned v ∧ QC W w' := h.mono fun _ _ ⟨he, hb⟩ => ⟨he, hq.next hb⟩
theorem q_same {P : Program} {f : FuncId} {args : Array Value} {W w : World} {v : Value} (hq : QC W w) (h : Calls P f args w fun e w' => e = .returned v ∧ w' = w) :
    Calls P f args w fun e w' => e = .returned v ∧ QC W w' := h.mono fun _ _ ⟨he, hb⟩ => ⟨he, hb ▸ hq⟩

end Go.Proofs.Ytfiaobhkhedpiaa
