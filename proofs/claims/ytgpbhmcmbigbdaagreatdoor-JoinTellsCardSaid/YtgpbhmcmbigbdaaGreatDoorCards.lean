/-
  DERIVED. GIVEN WITH THE SEED: THE CARDS: each row of YtgpbhmcmbigbdaaGreatDoorRows.lean that lists a variable, with what it lists TIED to the program's text (the seventh form; the later family's looks); each row that meets fmt, with fmt's text TOLD by the authors' own Lean function (tested against real Go, not proved from fmt's source: count such statements apart). THE CARD IS WHAT COUNTS. Prove the row's statement (the work); the ties are given (YtgpbhmcmbigbdaaGreatDoorTie.lean); close each card by the builder's one call (the guide's Derived/Test/ToyasCard.lean, 'card_holds'). Laid BY PROGRAM, IN A SANDBOX (cutbox-door.mjs). By AI agents, Wed Nov 11 2026. No macro, syntax, notation, axiom, sorry.
-/
import Derived.Test.YtgpbhmcmbigbdaaGreatDoorRows
import GoSem.ClaimSeven
namespace Go.Proofs.YtgpbhmcmbigbdaaGreatDoor
namespace Rows

/-- THE TIED CARD OF 'arboristlaw03.JoinTells'. -/
def joinTellsCard : Claim7 := { stood := { row := joinTellsRow, standIns := [], harness := (true, "4d4c8c64229a48dd06f1f896be7f190ada64f4f8772942ebb3682bddf3438e97"), looks := false }, kinds := [], alts := [], laidByText := true, laidKinds := [.data, .data, .data], laidTests := true, laidLooks := .later }
def JoinTellsCardSaid : Prop := Claim7.holds Tryz.pinned (.plain (OpenSpec.ofChange joinTellsSpec)) joinTellsCard

/-- THE TIED CARD OF 'arboristlaw16.PassTells'. -/
def passTellsCard : Claim7 := { stood := { row := passTellsRow, standIns := [], harness := (true, "4d4c8c64229a48dd06f1f896be7f190ada64f4f8772942ebb3682bddf3438e97"), looks := false }, kinds := [], alts := [], laidByText := true, laidKinds := [.data, .data, .data], laidTests := true, laidLooks := .later }
def PassTellsCardSaid : Prop := Claim7.holds Tryz.pinned (.plain (OpenSpec.ofChange passTellsSpec)) passTellsCard

/-- THE TIED CARD OF 'arboristlaw16.PassJoin'. -/
def passJoinCard : Claim7 := { stood := { row := passJoinRow, standIns := [], harness := (true, "4d4c8c64229a48dd06f1f896be7f190ada64f4f8772942ebb3682bddf3438e97"), looks := false }, kinds := [], alts := [], laidByText := true, laidKinds := [.data, .data, .data], laidTests := true, laidLooks := .later }
def PassJoinCardSaid : Prop := Claim7.holds Tryz.pinned (.plain (OpenSpec.ofChange passJoinSpec)) passJoinCard

/-- THE TIED CARD OF 'arboristlaw16.PassProject'. -/
def passProjectCard : Claim7 := { stood := { row := passProjectRow, standIns := [], harness := (true, "4d4c8c64229a48dd06f1f896be7f190ada64f4f8772942ebb3682bddf3438e97"), looks := false }, kinds := [], alts := [], laidByText := true, laidKinds := [.data, .data, .data], laidTests := true, laidLooks := .later }
def PassProjectCardSaid : Prop := Claim7.holds Tryz.pinned (.plain (OpenSpec.ofChange passProjectSpec)) passProjectCard

/-- THE TIED CARD OF 'arboristlaw16.PassUp'. -/
def passUpCard : Claim7 := { stood := { row := passUpRow, standIns := [], harness := (true, "4d4c8c64229a48dd06f1f896be7f190ada64f4f8772942ebb3682bddf3438e97"), looks := false }, kinds := [], alts := [], laidByText := true, laidKinds := [.data, .data, .data], laidTests := true, laidLooks := .later }
def PassUpCardSaid : Prop := Claim7.holds Tryz.pinned (.plain (OpenSpec.ofChange passUpSpec)) passUpCard

/-- THE SECOND FORM's CARD OF 'arboristlaw03.JoinTells'. -/
def joinTellsUptoCard : Claim7 := { stood := { row := joinTellsUptoRow, standIns := [], harness := (true, "4d4c8c64229a48dd06f1f896be7f190ada64f4f8772942ebb3682bddf3438e97"), looks := false }, kinds := [], alts := [], laidByText := true, laidKinds := [.data, .data, .data], laidTests := true, laidLooks := .later }
def JoinTellsUptoCardSaid : Prop := Claim7.holds Tryz.pinned (.plain (OpenSpec.upto joinTellsSpec)) joinTellsUptoCard

/-- THE SECOND FORM's CARD OF 'arboristlaw16.PassTells'. -/
def passTellsUptoCard : Claim7 := { stood := { row := passTellsUptoRow, standIns := [], harness := (true, "4d4c8c64229a48dd06f1f896be7f190ada64f4f8772942ebb3682bddf3438e97"), looks := false }, kinds := [], alts := [], laidByText := true, laidKinds := [.data, .data, .data], laidTests := true, laidLooks := .later }
def PassTellsUptoCardSaid : Prop := Claim7.holds Tryz.pinned (.plain (OpenSpec.upto passTellsSpec)) passTellsUptoCard

/-- THE SECOND FORM's CARD OF 'arboristlaw16.PassJoin'. -/
def passJoinUptoCard : Claim7 := { stood := { row := passJoinUptoRow, standIns := [], harness := (true, "4d4c8c64229a48dd06f1f896be7f190ada64f4f8772942ebb3682bddf3438e97"), looks := false }, kinds := [], alts := [], laidByText := true, laidKinds := [.data, .data, .data], laidTests := true, laidLooks := .later }
def PassJoinUptoCardSaid : Prop := Claim7.holds Tryz.pinned (.plain (OpenSpec.upto passJoinSpec)) passJoinUptoCard

/-- THE SECOND FORM's CARD OF 'arboristlaw16.PassProject'. -/
def passProjectUptoCard : Claim7 := { stood := { row := passProjectUptoRow, standIns := [], harness := (true, "4d4c8c64229a48dd06f1f896be7f190ada64f4f8772942ebb3682bddf3438e97"), looks := false }, kinds := [], alts := [], laidByText := true, laidKinds := [.data, .data, .data], laidTests := true, laidLooks := .later }
def PassProjectUptoCardSaid : Prop := Claim7.holds Tryz.pinned (.plain (OpenSpec.upto passProjectSpec)) passProjectUptoCard

/-- THE SECOND FORM's CARD OF 'arboristlaw16.PassUp'. -/
def passUpUptoCard : Claim7 := { stood := { row := passUpUptoRow, standIns := [], harness := (true, "4d4c8c64229a48dd06f1f896be7f190ada64f4f8772942ebb3682bddf3438e97"), looks := false }, kinds := [], alts := [], laidByText := true, laidKinds := [.data, .data, .data], laidTests := true, laidLooks := .later }
def PassUpUptoCardSaid : Prop := Claim7.holds Tryz.pinned (.plain (OpenSpec.upto passUpSpec)) passUpUptoCard
end Rows
end Go.Proofs.YtgpbhmcmbigbdaaGreatDoor
