/-
  DERIVED. GIVEN WITH THE SEED: THE CARDS: each row of YtlccmgeclhdegaaGreatDoorRows.lean that lists a variable, with what it lists TIED to the program's text (the seventh form; the later family's looks); each row that meets fmt, with fmt's text TOLD by the authors' own Lean function (tested against real Go, not proved from fmt's source: count such statements apart). THE CARD IS WHAT COUNTS. Prove the row's statement (the work); the ties are given (YtlccmgeclhdegaaGreatDoorTie.lean); close each card by the builder's one call (the guide's Derived/Test/ToyasCard.lean, 'card_holds'). Laid BY PROGRAM, IN A SANDBOX (cutbox-door.mjs). By AI agents, Wed Nov 11 2026. No macro, syntax, notation, axiom, sorry.
-/
import Derived.Test.YtlccmgeclhdegaaGreatDoorRows
import GoSem.ClaimSeven
namespace Go.Proofs.YtlccmgeclhdegaaGreatDoor
namespace Rows

/-- THE TIED CARD OF 'exlaw23.FrontBlanks'. -/
def frontBlanksCard : Claim7 := { stood := { row := frontBlanksRow, standIns := [], harness := (true, "42c9d1c1d611b851590b1bfbc69693d44d9611034e7e9cd06e3c3b229a61fe72"), looks := true }, kinds := [], alts := [], laidByText := true, laidKinds := [.data, .data, .data, .data, .sentinel, .sentinel, .pinned], laidTests := true, laidLooks := .later }
def FrontBlanksCardSaid : Prop := Claim7.holds Tryz.pinned (.plain (OpenSpec.ofChange frontBlanksSpec)) frontBlanksCard

/-- THE TIED CARD OF 'exlaw23.FrontFields'. -/
def frontFieldsCard : Claim7 := { stood := { row := frontFieldsRow, standIns := [], harness := (true, "42c9d1c1d611b851590b1bfbc69693d44d9611034e7e9cd06e3c3b229a61fe72"), looks := true }, kinds := [], alts := [], laidByText := true, laidKinds := [.data, .data, .data, .data, .sentinel, .sentinel, .pinned], laidTests := true, laidLooks := .later }
def FrontFieldsCardSaid : Prop := Claim7.holds Tryz.pinned (.plain (OpenSpec.ofChange frontFieldsSpec)) frontFieldsCard

/-- THE TIED CARD OF 'exlaw23.FrontRequests'. -/
def frontRequestsCard : Claim7 := { stood := { row := frontRequestsRow, standIns := [], harness := (true, "42c9d1c1d611b851590b1bfbc69693d44d9611034e7e9cd06e3c3b229a61fe72"), looks := true }, kinds := [], alts := [], laidByText := true, laidKinds := [.data, .data, .data, .data, .sentinel, .sentinel, .pinned], laidTests := true, laidLooks := .later }
def FrontRequestsCardSaid : Prop := Claim7.holds Tryz.pinned (.plain (OpenSpec.ofChange frontRequestsSpec)) frontRequestsCard

/-- THE TIED CARD OF 'exlaw23.FrontBack'. -/
def frontBackCard : Claim7 := { stood := { row := frontBackRow, standIns := [], harness := (true, "42c9d1c1d611b851590b1bfbc69693d44d9611034e7e9cd06e3c3b229a61fe72"), looks := true }, kinds := [], alts := [], laidByText := true, laidKinds := [.data, .data, .data, .data, .sentinel, .sentinel, .pinned], laidTests := true, laidLooks := .later }
def FrontBackCardSaid : Prop := Claim7.holds Tryz.pinned (.plain (OpenSpec.ofChange frontBackSpec)) frontBackCard

/-- THE SECOND FORM's CARD OF 'exlaw23.FrontBlanks'. -/
def frontBlanksUptoCard : Claim7 := { stood := { row := frontBlanksUptoRow, standIns := [], harness := (true, "42c9d1c1d611b851590b1bfbc69693d44d9611034e7e9cd06e3c3b229a61fe72"), looks := true }, kinds := [], alts := [], laidByText := true, laidKinds := [.data, .data, .data, .data, .sentinel, .sentinel, .pinned], laidTests := true, laidLooks := .later }
def FrontBlanksUptoCardSaid : Prop := Claim7.holds Tryz.pinned (.plain (OpenSpec.upto frontBlanksSpec)) frontBlanksUptoCard

/-- THE SECOND FORM's CARD OF 'exlaw23.FrontFields'. -/
def frontFieldsUptoCard : Claim7 := { stood := { row := frontFieldsUptoRow, standIns := [], harness := (true, "42c9d1c1d611b851590b1bfbc69693d44d9611034e7e9cd06e3c3b229a61fe72"), looks := true }, kinds := [], alts := [], laidByText := true, laidKinds := [.data, .data, .data, .data, .sentinel, .sentinel, .pinned], laidTests := true, laidLooks := .later }
def FrontFieldsUptoCardSaid : Prop := Claim7.holds Tryz.pinned (.plain (OpenSpec.upto frontFieldsSpec)) frontFieldsUptoCard

/-- THE SECOND FORM's CARD OF 'exlaw23.FrontRequests'. -/
def frontRequestsUptoCard : Claim7 := { stood := { row := frontRequestsUptoRow, standIns := [], harness := (true, "42c9d1c1d611b851590b1bfbc69693d44d9611034e7e9cd06e3c3b229a61fe72"), looks := true }, kinds := [], alts := [], laidByText := true, laidKinds := [.data, .data, .data, .data, .sentinel, .sentinel, .pinned], laidTests := true, laidLooks := .later }
def FrontRequestsUptoCardSaid : Prop := Claim7.holds Tryz.pinned (.plain (OpenSpec.upto frontRequestsSpec)) frontRequestsUptoCard

/-- THE SECOND FORM's CARD OF 'exlaw23.FrontBack'. -/
def frontBackUptoCard : Claim7 := { stood := { row := frontBackUptoRow, standIns := [], harness := (true, "42c9d1c1d611b851590b1bfbc69693d44d9611034e7e9cd06e3c3b229a61fe72"), looks := true }, kinds := [], alts := [], laidByText := true, laidKinds := [.data, .data, .data, .data, .sentinel, .sentinel, .pinned], laidTests := true, laidLooks := .later }
def FrontBackUptoCardSaid : Prop := Claim7.holds Tryz.pinned (.plain (OpenSpec.upto frontBackSpec)) frontBackUptoCard
end Rows
end Go.Proofs.YtlccmgeclhdegaaGreatDoor
