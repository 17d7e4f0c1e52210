/-
  No cell of these rows narrows 'for every input' (looked for: loops, veiled, ifaces, maps, wideKeys, modest, calm, conditions, laid).
  DERIVED. THE GIVEN ROWS OF THIS SEAT. 9 by the template 'for every input the law returns true; each argument reads behind the call as it read before'; 0 by the template 'total and deterministic' (their statements: YtheofhegdjjfgaaTotals.lean).
  GIVEN WITH THE SEED: the statements are not yours to turn. If you find one false, say at which input.
  Laid BY PROGRAM, IN A SANDBOX (cutbox-rows.mjs): the forced cells as the released guide's own fill.sh prints them over the translation 1d6e1616a69c37e8… (all of the seat's roots in one cut). By AI agents, Wed Nov 11 2026. No macro, syntax, notation, axiom, sorry.
-/
import Derived.Test.YtheofhegdjjfgaaChecked
import GoSem.Claim
import GoSem.ClaimJoined
import GoSem.ClaimMapViews
import Derived.JoinedTies
import Derived.KernelRfl
namespace Go.Proofs.Ytheofhegdjjfgaa
/- THE CELL 'sum', in the pinned program and in every row, IS THE sha256 OF THE DUMP (.gsa) THAT YtheofhegdjjfgaaProg.lean LOADS. Nothing in Lean hashes anything: it is a label: what it is worth is what the hold of that sum in a sandbox is worth. -/
noncomputable def Try.pinned : Pinned := { name := "ytheofhegdjjfgaa", sum := "1d6e1616a69c37e84b636c804c404301a17d6c7890bc5419db104789dfc56c59", checked := Try.checked }
namespace Rows
def none {H : Type} : Left H := { results := [], args := [] }

/-- 'exlaw17.FxLaws': WHATEVER THE INPUT: true; the input reads as it did. -/
def fxLawsSpec : ChangeSpec := { name := "fxLaws", fn := fun _ => fun
  | [d1, d2, d3, d4, d5, d6] => { results := [.lit (.bool true)], args := [d1, d2, d3, d4, d5, d6] }
  | _ => none }
def fxLawsRow : OpenClaim := { program := "ytheofhegdjjfgaa", sum := "1d6e1616a69c37e84b636c804c404301a17d6c7890bc5419db104789dfc56c59", func := "exchequer/exlaw17.FxLaws", spec := "fxLaws", inPlace := ["math/bits.Sub64", "math/bits.Add64"], unfollowed := true, recurses := true, named := ["math/bits.divideError", "math/bits.overflowError"], apart := false }
def FxLawsSaid : Prop := fxLawsRow.holds Try.pinned (OpenSpec.ofChange fxLawsSpec)

/-- ITS FALSE NEIGHBOUR: 'it returns false'. Refute it at one input. -/
def fxLawsWrong : ChangeSpec := { name := "fxLaws", fn := fun _ => fun
  | [d1, d2, d3, d4, d5, d6] => { results := [.lit (.bool false)], args := [d1, d2, d3, d4, d5, d6] }
  | _ => none }
def FxLawsWrongFalsely : Prop := fxLawsRow.holds Try.pinned (OpenSpec.ofChange fxLawsWrong)

/-- 'exlaw17.FxSums': WHATEVER THE INPUT: true; the input reads as it did. -/
def fxSumsSpec : ChangeSpec := { name := "fxSums", fn := fun _ => fun
  | [d1, d2, d3, d4, d5] => { results := [.lit (.bool true)], args := [d1, d2, d3, d4, d5] }
  | _ => none }
def fxSumsRow : OpenClaim := { program := "ytheofhegdjjfgaa", sum := "1d6e1616a69c37e84b636c804c404301a17d6c7890bc5419db104789dfc56c59", func := "exchequer/exlaw17.FxSums", spec := "fxSums", inPlace := ["math/bits.Sub64", "math/bits.Add64"], unfollowed := true, recurses := true, named := ["math/bits.divideError", "math/bits.overflowError"], apart := false }
def FxSumsSaid : Prop := fxSumsRow.holds Try.pinned (OpenSpec.ofChange fxSumsSpec)

/-- ITS FALSE NEIGHBOUR: 'it returns false'. Refute it at one input. -/
def fxSumsWrong : ChangeSpec := { name := "fxSums", fn := fun _ => fun
  | [d1, d2, d3, d4, d5] => { results := [.lit (.bool false)], args := [d1, d2, d3, d4, d5] }
  | _ => none }
def FxSumsWrongFalsely : Prop := fxSumsRow.holds Try.pinned (OpenSpec.ofChange fxSumsWrong)

/-- 'exlaw17.FxOwn': WHATEVER THE INPUT: true; the input reads as it did. -/
def fxOwnSpec : ChangeSpec := { name := "fxOwn", fn := fun _ => fun
  | [d1, d2, d3] => { results := [.lit (.bool true)], args := [d1, d2, d3] }
  | _ => none }
def fxOwnRow : OpenClaim := { program := "ytheofhegdjjfgaa", sum := "1d6e1616a69c37e84b636c804c404301a17d6c7890bc5419db104789dfc56c59", func := "exchequer/exlaw17.FxOwn", spec := "fxOwn", inPlace := ["math/bits.Sub64", "math/bits.Add64"], unfollowed := true, recurses := true, named := ["math/bits.divideError", "math/bits.overflowError"], apart := false }
def FxOwnSaid : Prop := fxOwnRow.holds Try.pinned (OpenSpec.ofChange fxOwnSpec)

/-- ITS FALSE NEIGHBOUR: 'it returns false'. Refute it at one input. -/
def fxOwnWrong : ChangeSpec := { name := "fxOwn", fn := fun _ => fun
  | [d1, d2, d3] => { results := [.lit (.bool false)], args := [d1, d2, d3] }
  | _ => none }
def FxOwnWrongFalsely : Prop := fxOwnRow.holds Try.pinned (OpenSpec.ofChange fxOwnWrong)

/-- 'exlaw16.LedgerTimes': WHATEVER THE INPUT: true; the input reads as it did. -/
def ledgerTimesSpec : ChangeSpec := { name := "ledgerTimes", fn := fun _ => fun
  | [d1, d2, d3, d4, d5] => { results := [.lit (.bool true)], args := [d1, d2, d3, d4, d5] }
  | _ => none }
def ledgerTimesRow : OpenClaim := { program := "ytheofhegdjjfgaa", sum := "1d6e1616a69c37e84b636c804c404301a17d6c7890bc5419db104789dfc56c59", func := "exchequer/exlaw16.LedgerTimes", spec := "ledgerTimes", inPlace := ["math/bits.Add64"], unfollowed := true, recurses := true, apart := false }
def LedgerTimesSaid : Prop := ledgerTimesRow.holds Try.pinned (OpenSpec.ofChange ledgerTimesSpec)

/-- ITS FALSE NEIGHBOUR: 'it returns false'. Refute it at one input. -/
def ledgerTimesWrong : ChangeSpec := { name := "ledgerTimes", fn := fun _ => fun
  | [d1, d2, d3, d4, d5] => { results := [.lit (.bool false)], args := [d1, d2, d3, d4, d5] }
  | _ => none }
def LedgerTimesWrongFalsely : Prop := ledgerTimesRow.holds Try.pinned (OpenSpec.ofChange ledgerTimesWrong)

/-- 'exlaw16.LedgerSums': WHATEVER THE INPUT: true; the input reads as it did. -/
def ledgerSumsSpec : ChangeSpec := { name := "ledgerSums", fn := fun _ => fun
  | [d1, d2] => { results := [.lit (.bool true)], args := [d1, d2] }
  | _ => none }
def ledgerSumsRow : OpenClaim := { program := "ytheofhegdjjfgaa", sum := "1d6e1616a69c37e84b636c804c404301a17d6c7890bc5419db104789dfc56c59", func := "exchequer/exlaw16.LedgerSums", spec := "ledgerSums", inPlace := ["math/bits.Add64"], unfollowed := true, recurses := true, apart := false }
def LedgerSumsSaid : Prop := ledgerSumsRow.holds Try.pinned (OpenSpec.ofChange ledgerSumsSpec)

/-- ITS FALSE NEIGHBOUR: 'it returns false'. Refute it at one input. -/
def ledgerSumsWrong : ChangeSpec := { name := "ledgerSums", fn := fun _ => fun
  | [d1, d2] => { results := [.lit (.bool false)], args := [d1, d2] }
  | _ => none }
def LedgerSumsWrongFalsely : Prop := ledgerSumsRow.holds Try.pinned (OpenSpec.ofChange ledgerSumsWrong)

/-- 'exlaw16.LedgerOrder': WHATEVER THE INPUT: true; the input reads as it did. -/
def ledgerOrderSpec : ChangeSpec := { name := "ledgerOrder", fn := fun _ => fun
  | [d1, d2] => { results := [.lit (.bool true)], args := [d1, d2] }
  | _ => none }
def ledgerOrderRow : OpenClaim := { program := "ytheofhegdjjfgaa", sum := "1d6e1616a69c37e84b636c804c404301a17d6c7890bc5419db104789dfc56c59", func := "exchequer/exlaw16.LedgerOrder", spec := "ledgerOrder", inPlace := ["math/bits.Add64"], unfollowed := true, recurses := true, apart := false }
def LedgerOrderSaid : Prop := ledgerOrderRow.holds Try.pinned (OpenSpec.ofChange ledgerOrderSpec)

/-- ITS FALSE NEIGHBOUR: 'it returns false'. Refute it at one input. -/
def ledgerOrderWrong : ChangeSpec := { name := "ledgerOrder", fn := fun _ => fun
  | [d1, d2] => { results := [.lit (.bool false)], args := [d1, d2] }
  | _ => none }
def LedgerOrderWrongFalsely : Prop := ledgerOrderRow.holds Try.pinned (OpenSpec.ofChange ledgerOrderWrong)

/-- 'exlaw16.LedgerTurned': WHATEVER THE INPUT: true; the input reads as it did. -/
def ledgerTurnedSpec : ChangeSpec := { name := "ledgerTurned", fn := fun _ => fun
  | [d1, d2, d3, d4] => { results := [.lit (.bool true)], args := [d1, d2, d3, d4] }
  | _ => none }
def ledgerTurnedRow : OpenClaim := { program := "ytheofhegdjjfgaa", sum := "1d6e1616a69c37e84b636c804c404301a17d6c7890bc5419db104789dfc56c59", func := "exchequer/exlaw16.LedgerTurned", spec := "ledgerTurned", inPlace := ["math/bits.Add64"], unfollowed := true, recurses := true, apart := false }
def LedgerTurnedSaid : Prop := ledgerTurnedRow.holds Try.pinned (OpenSpec.ofChange ledgerTurnedSpec)

/-- ITS FALSE NEIGHBOUR: 'it returns false'. Refute it at one input. -/
def ledgerTurnedWrong : ChangeSpec := { name := "ledgerTurned", fn := fun _ => fun
  | [d1, d2, d3, d4] => { results := [.lit (.bool false)], args := [d1, d2, d3, d4] }
  | _ => none }
def LedgerTurnedWrongFalsely : Prop := ledgerTurnedRow.holds Try.pinned (OpenSpec.ofChange ledgerTurnedWrong)

/-- 'exlaw17.FxRates': WHATEVER THE INPUT: true; the input reads as it did. -/
def fxRatesSpec : ChangeSpec := { name := "fxRates", fn := fun _ => fun
  | [d1, d2, d3, d4, d5, d6] => { results := [.lit (.bool true)], args := [d1, d2, d3, d4, d5, d6] }
  | _ => none }
def fxRatesRow : OpenClaim := { program := "ytheofhegdjjfgaa", sum := "1d6e1616a69c37e84b636c804c404301a17d6c7890bc5419db104789dfc56c59", func := "exchequer/exlaw17.FxRates", spec := "fxRates", inPlace := ["math/bits.Sub64", "math/bits.Add64"], unfollowed := true, recurses := true, named := ["math/bits.divideError", "math/bits.overflowError"], apart := false }
def FxRatesSaid : Prop := fxRatesRow.holds Try.pinned (OpenSpec.ofChange fxRatesSpec)

/-- ITS FALSE NEIGHBOUR: 'it returns false'. Refute it at one input. -/
def fxRatesWrong : ChangeSpec := { name := "fxRates", fn := fun _ => fun
  | [d1, d2, d3, d4, d5, d6] => { results := [.lit (.bool false)], args := [d1, d2, d3, d4, d5, d6] }
  | _ => none }
def FxRatesWrongFalsely : Prop := fxRatesRow.holds Try.pinned (OpenSpec.ofChange fxRatesWrong)

/-- 'exlaw16.LedgerStays': WHATEVER THE INPUT: true; the input reads as it did. -/
def ledgerStaysSpec : ChangeSpec := { name := "ledgerStays", fn := fun _ => fun
  | [d1, d2] => { results := [.lit (.bool true)], args := [d1, d2] }
  | _ => none }
def ledgerStaysRow : OpenClaim := { program := "ytheofhegdjjfgaa", sum := "1d6e1616a69c37e84b636c804c404301a17d6c7890bc5419db104789dfc56c59", func := "exchequer/exlaw16.LedgerStays", spec := "ledgerStays", inPlace := ["math/bits.Add64"], unfollowed := true, recurses := true, apart := false }
def LedgerStaysSaid : Prop := ledgerStaysRow.holds Try.pinned (OpenSpec.ofChange ledgerStaysSpec)

/-- ITS FALSE NEIGHBOUR: 'it returns false'. Refute it at one input. -/
def ledgerStaysWrong : ChangeSpec := { name := "ledgerStays", fn := fun _ => fun
  | [d1, d2] => { results := [.lit (.bool false)], args := [d1, d2] }
  | _ => none }
def LedgerStaysWrongFalsely : Prop := ledgerStaysRow.holds Try.pinned (OpenSpec.ofChange ledgerStaysWrong)

/- THE SECOND FORM. 'bulk': how many values and letters a reading holds, each counted each time it is reached (what is shared counts as often as it is met; a slice's spare places count too). A statement '..UptoSaid' is the law's where the arguments, and the package variables that the reading takes, are together of bulk at most 1048576: NARROWER than '..Said'. Prove '..Said' where nothing that the law and all that it calls make is longer than what came in: it says more and counts as full. Else prove '..UptoSaid'. A law counts once. -/
mutual
def uptoBulk {H : Type} : DataW H → Nat
  | .lit (.string bytes) => bytes.length + 1
  | .lit _ => 1
  | .nil => 1
  | .ptr d => uptoBulk d + 1
  | .slice elems spare => uptoBulkAll elems + uptoBulkAll spare + 1
  | .agg parts => uptoBulkAll parts + 1
  | .iface _ d => uptoBulk d + 1
  | .map entries => uptoBulkEntries entries + 1
  | .held _ => 1
def uptoBulkAll {H : Type} : List (DataW H) → Nat
  | [] => 0
  | d :: r => uptoBulk d + uptoBulkAll r
def uptoBulkEntries {H : Type} : List (Lit × DataW H) → Nat
  | [] => 0
  | x :: r => uptoBulkEntry x + uptoBulkEntries r
def uptoBulkEntry {H : Type} : Lit × DataW H → Nat
  | (.string bytes, d) => bytes.length + uptoBulk d + 1
  | (_, d) => uptoBulk d + 1
 end
def uptoSmall : (H : Type) → List (DataW H) → Bool := fun _ ds => decide (uptoBulkAll ds ≤ 1048576)
def OpenSpec.upto (s : _root_.Go.ChangeSpec) : _root_.Go.OpenSpec := { _root_.Go.OpenSpec.ofChange s with cond := some uptoSmall }

/-- 'exlaw17.FxLaws', WHERE WHAT IT READS IS OF BULK AT MOST 1048576: true; the input reads as it did. -/
def fxLawsUptoRow : OpenClaim := { program := "ytheofhegdjjfgaa", sum := "1d6e1616a69c37e84b636c804c404301a17d6c7890bc5419db104789dfc56c59", func := "exchequer/exlaw17.FxLaws", spec := "fxLaws", inPlace := ["math/bits.Sub64", "math/bits.Add64"], unfollowed := true, recurses := true, named := ["math/bits.divideError", "math/bits.overflowError"], apart := false, narrowed := true }
def FxLawsUptoSaid : Prop := fxLawsUptoRow.holds Try.pinned (OpenSpec.upto fxLawsSpec)

/-- 'exlaw17.FxSums', WHERE WHAT IT READS IS OF BULK AT MOST 1048576: true; the input reads as it did. -/
def fxSumsUptoRow : OpenClaim := { program := "ytheofhegdjjfgaa", sum := "1d6e1616a69c37e84b636c804c404301a17d6c7890bc5419db104789dfc56c59", func := "exchequer/exlaw17.FxSums", spec := "fxSums", inPlace := ["math/bits.Sub64", "math/bits.Add64"], unfollowed := true, recurses := true, named := ["math/bits.divideError", "math/bits.overflowError"], apart := false, narrowed := true }
def FxSumsUptoSaid : Prop := fxSumsUptoRow.holds Try.pinned (OpenSpec.upto fxSumsSpec)

/-- 'exlaw17.FxOwn', WHERE WHAT IT READS IS OF BULK AT MOST 1048576: true; the input reads as it did. -/
def fxOwnUptoRow : OpenClaim := { program := "ytheofhegdjjfgaa", sum := "1d6e1616a69c37e84b636c804c404301a17d6c7890bc5419db104789dfc56c59", func := "exchequer/exlaw17.FxOwn", spec := "fxOwn", inPlace := ["math/bits.Sub64", "math/bits.Add64"], unfollowed := true, recurses := true, named := ["math/bits.divideError", "math/bits.overflowError"], apart := false, narrowed := true }
def FxOwnUptoSaid : Prop := fxOwnUptoRow.holds Try.pinned (OpenSpec.upto fxOwnSpec)

/-- 'exlaw16.LedgerTimes', WHERE WHAT IT READS IS OF BULK AT MOST 1048576: true; the input reads as it did. -/
def ledgerTimesUptoRow : OpenClaim := { program := "ytheofhegdjjfgaa", sum := "1d6e1616a69c37e84b636c804c404301a17d6c7890bc5419db104789dfc56c59", func := "exchequer/exlaw16.LedgerTimes", spec := "ledgerTimes", inPlace := ["math/bits.Add64"], unfollowed := true, recurses := true, apart := false, narrowed := true }
def LedgerTimesUptoSaid : Prop := ledgerTimesUptoRow.holds Try.pinned (OpenSpec.upto ledgerTimesSpec)

/-- 'exlaw16.LedgerSums', WHERE WHAT IT READS IS OF BULK AT MOST 1048576: true; the input reads as it did. -/
def ledgerSumsUptoRow : OpenClaim := { program := "ytheofhegdjjfgaa", sum := "1d6e1616a69c37e84b636c804c404301a17d6c7890bc5419db104789dfc56c59", func := "exchequer/exlaw16.LedgerSums", spec := "ledgerSums", inPlace := ["math/bits.Add64"], unfollowed := true, recurses := true, apart := false, narrowed := true }
def LedgerSumsUptoSaid : Prop := ledgerSumsUptoRow.holds Try.pinned (OpenSpec.upto ledgerSumsSpec)

/-- 'exlaw16.LedgerOrder', WHERE WHAT IT READS IS OF BULK AT MOST 1048576: true; the input reads as it did. -/
def ledgerOrderUptoRow : OpenClaim := { program := "ytheofhegdjjfgaa", sum := "1d6e1616a69c37e84b636c804c404301a17d6c7890bc5419db104789dfc56c59", func := "exchequer/exlaw16.LedgerOrder", spec := "ledgerOrder", inPlace := ["math/bits.Add64"], unfollowed := true, recurses := true, apart := false, narrowed := true }
def LedgerOrderUptoSaid : Prop := ledgerOrderUptoRow.holds Try.pinned (OpenSpec.upto ledgerOrderSpec)

/-- 'exlaw16.LedgerTurned', WHERE WHAT IT READS IS OF BULK AT MOST 1048576: true; the input reads as it did. -/
def ledgerTurnedUptoRow : OpenClaim := { program := "ytheofhegdjjfgaa", sum := "1d6e1616a69c37e84b636c804c404301a17d6c7890bc5419db104789dfc56c59", func := "exchequer/exlaw16.LedgerTurned", spec := "ledgerTurned", inPlace := ["math/bits.Add64"], unfollowed := true, recurses := true, apart := false, narrowed := true }
def LedgerTurnedUptoSaid : Prop := ledgerTurnedUptoRow.holds Try.pinned (OpenSpec.upto ledgerTurnedSpec)

/-- 'exlaw17.FxRates', WHERE WHAT IT READS IS OF BULK AT MOST 1048576: true; the input reads as it did. -/
def fxRatesUptoRow : OpenClaim := { program := "ytheofhegdjjfgaa", sum := "1d6e1616a69c37e84b636c804c404301a17d6c7890bc5419db104789dfc56c59", func := "exchequer/exlaw17.FxRates", spec := "fxRates", inPlace := ["math/bits.Sub64", "math/bits.Add64"], unfollowed := true, recurses := true, named := ["math/bits.divideError", "math/bits.overflowError"], apart := false, narrowed := true }
def FxRatesUptoSaid : Prop := fxRatesUptoRow.holds Try.pinned (OpenSpec.upto fxRatesSpec)

/-- 'exlaw16.LedgerStays', WHERE WHAT IT READS IS OF BULK AT MOST 1048576: true; the input reads as it did. -/
def ledgerStaysUptoRow : OpenClaim := { program := "ytheofhegdjjfgaa", sum := "1d6e1616a69c37e84b636c804c404301a17d6c7890bc5419db104789dfc56c59", func := "exchequer/exlaw16.LedgerStays", spec := "ledgerStays", inPlace := ["math/bits.Add64"], unfollowed := true, recurses := true, apart := false, narrowed := true }
def LedgerStaysUptoSaid : Prop := ledgerStaysUptoRow.holds Try.pinned (OpenSpec.upto ledgerStaysSpec)

end Rows
end Go.Proofs.Ytheofhegdjjfgaa
