/- Numbers by digits in base 10000, walked: what a 128-bit Int is worth, and whether a number is one. -/
import Derived.Test.YtheofhegdjjfgaaBig6
import Derived.Test.YtheofhegdjjfgaaWdM
namespace Go.Proofs.Ytheofhegdjjfgaa
open Go.RowKit

def wV (v : Int) : Value := .agg [.int .u64 (Wd.hi v), .int .u64 (Wd.lo v)].toArray
theorem cmpZ_neg {x y : Int} : cmpZ x y < 0 ↔ x < y := by unfold cmpZ; split <;> (try split) <;> omega
theorem cmpZ_ge {x y : Int} : 0 ≤ cmpZ x y ↔ y ≤ x := by unfold cmpZ; split <;> (try split) <;> omega
theorem cmpZ_eq {x y : Int} : cmpZ x y = 0 ↔ x = y := by unfold cmpZ; split <;> (try split) <;> omega
end Go.Proofs.Ytheofhegdjjfgaa

