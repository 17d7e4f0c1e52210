/-
  DERIVED. GIVEN WITH THE SEED: THE CARDS: each row of YtjmkjkhcognoeaaGreatDoorRows.lean that lists a variable, with what it lists TIED to the program's text (the seventh form; the later family's looks); each row that meets fmt, with fmt's text TOLD by the authors' own Lean function (tested against real Go, not proved from fmt's source: count such statements apart). THE CARD IS WHAT COUNTS. Prove the row's statement (the work); the ties are given (YtjmkjkhcognoeaaGreatDoorTie.lean); close each card by the builder's one call (the guide's Derived/Test/ToyasCard.lean, 'card_holds'). Laid BY PROGRAM, IN A SANDBOX (cutbox-door.mjs). By AI agents, Wed Nov 11 2026. No macro, syntax, notation, axiom, sorry.
-/
import Derived.Test.YtjmkjkhcognoeaaGreatDoorRows
import GoSem.ClaimSeven
namespace Go.Proofs.YtjmkjkhcognoeaaGreatDoor
namespace Rows

/-- THE TIED CARD OF 'exlaw25.PoolSplits'. -/
def poolSplitsCard : Claim7 := { stood := { row := poolSplitsRow, standIns := [], harness := (true, "0c4987fc84e21be7246483d64a4bf3d9f3ed7c6faac9ded89574989da4d20fc3"), looks := true }, kinds := [], alts := [], laidByText := true, laidKinds := [.data, .data, .data, .data, .sentinel, .sentinel, .pinned, .pinned], laidTests := true, laidLooks := .later }
def PoolSplitsCardSaid : Prop := Claim7.holds Tryz.pinned (.plain (OpenSpec.ofChange poolSplitsSpec)) poolSplitsCard

/-- THE TIED CARD OF 'exlaw25.PoolLazy'. -/
def poolLazyCard : Claim7 := { stood := { row := poolLazyRow, standIns := [], harness := (true, "0c4987fc84e21be7246483d64a4bf3d9f3ed7c6faac9ded89574989da4d20fc3"), looks := true }, kinds := [], alts := [], laidByText := true, laidKinds := [.data, .data, .data, .data, .sentinel, .sentinel, .pinned, .pinned], laidTests := true, laidLooks := .later }
def PoolLazyCardSaid : Prop := Claim7.holds Tryz.pinned (.plain (OpenSpec.ofChange poolLazySpec)) poolLazyCard

/-- THE TIED CARD OF 'exlaw25.PoolLocks'. -/
def poolLocksCard : Claim7 := { stood := { row := poolLocksRow, standIns := [], harness := (true, "0c4987fc84e21be7246483d64a4bf3d9f3ed7c6faac9ded89574989da4d20fc3"), looks := true }, kinds := [], alts := [], laidByText := true, laidKinds := [.data, .data, .data, .data, .sentinel, .sentinel, .pinned, .pinned], laidTests := true, laidLooks := .later }
def PoolLocksCardSaid : Prop := Claim7.holds Tryz.pinned (.plain (OpenSpec.ofChange poolLocksSpec)) poolLocksCard

/-- THE SECOND FORM's CARD OF 'exlaw25.PoolSplits'. -/
def poolSplitsUptoCard : Claim7 := { stood := { row := poolSplitsUptoRow, standIns := [], harness := (true, "0c4987fc84e21be7246483d64a4bf3d9f3ed7c6faac9ded89574989da4d20fc3"), looks := true }, kinds := [], alts := [], laidByText := true, laidKinds := [.data, .data, .data, .data, .sentinel, .sentinel, .pinned, .pinned], laidTests := true, laidLooks := .later }
def PoolSplitsUptoCardSaid : Prop := Claim7.holds Tryz.pinned (.plain (OpenSpec.upto poolSplitsSpec)) poolSplitsUptoCard

/-- THE SECOND FORM's CARD OF 'exlaw25.PoolLazy'. -/
def poolLazyUptoCard : Claim7 := { stood := { row := poolLazyUptoRow, standIns := [], harness := (true, "0c4987fc84e21be7246483d64a4bf3d9f3ed7c6faac9ded89574989da4d20fc3"), looks := true }, kinds := [], alts := [], laidByText := true, laidKinds := [.data, .data, .data, .data, .sentinel, .sentinel, .pinned, .pinned], laidTests := true, laidLooks := .later }
def PoolLazyUptoCardSaid : Prop := Claim7.holds Tryz.pinned (.plain (OpenSpec.upto poolLazySpec)) poolLazyUptoCard

/-- THE SECOND FORM's CARD OF 'exlaw25.PoolLocks'. -/
def poolLocksUptoCard : Claim7 := { stood := { row := poolLocksUptoRow, standIns := [], harness := (true, "0c4987fc84e21be7246483d64a4bf3d9f3ed7c6faac9ded89574989da4d20fc3"), looks := true }, kinds := [], alts := [], laidByText := true, laidKinds := [.data, .data, .data, .data, .sentinel, .sentinel, .pinned, .pinned], laidTests := true, laidLooks := .later }
def PoolLocksUptoCardSaid : Prop := Claim7.holds Tryz.pinned (.plain (OpenSpec.upto poolLocksSpec)) poolLocksUptoCard
end Rows
end Go.Proofs.YtjmkjkhcognoeaaGreatDoor
