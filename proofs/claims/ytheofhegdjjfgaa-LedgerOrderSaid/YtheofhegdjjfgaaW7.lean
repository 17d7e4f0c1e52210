/- Walks of package wide: comparison; what is turned over. -/
import Derived.Test.YtheofhegdjjfgaaW6
import Derived.Test.YtheofhegdjjfgaaWdO
namespace Go.Proofs.Ytheofhegdjjfgaa
open Go.RowKit

theorem Below_drewN {B : Nat} {a w : World} {n : Nat} : Below B a (w.drewN n) = Below B a w := by
  apply propext
  exact ⟨fun h => ⟨h.os, h.tape, h.output, h.size, h.block⟩, fun h => ⟨h.os, h.tape, h.output, h.size, h.block⟩⟩

end Go.Proofs.Ytheofhegdjjfgaa
