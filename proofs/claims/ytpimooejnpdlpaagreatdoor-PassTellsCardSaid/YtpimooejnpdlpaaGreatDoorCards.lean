/-
  DERIVED. GIVEN WITH THE SEED: THE CARDS: each row of YtpimooejnpdlpaaGreatDoorRows.lean that lists a variable, with what it lists TIED to the program's text (the seventh form; the later family's looks); each row that meets fmt, with fmt's text TOLD by the authors' own Lean function (tested against real Go, not proved from fmt's source: count such statements apart). THE CARD IS WHAT COUNTS. Prove the row's statement (the work); the ties are given (YtpimooejnpdlpaaGreatDoorTie.lean); close each card by the builder's one call (the guide's Derived/Test/ToyasCard.lean, 'card_holds'). Laid BY PROGRAM, IN A SANDBOX (cutbox-door.mjs). By AI agents, Wed Nov 11 2026. No macro, syntax, notation, axiom, sorry.
-/
import Derived.Test.YtpimooejnpdlpaaGreatDoorRows
import GoSem.ClaimSeven
namespace Go.Proofs.YtpimooejnpdlpaaGreatDoor
namespace Rows

/-- THE TIED CARD OF 'arboristlaw16.PassTells'. -/
def passTellsCard : Claim7 := { stood := { row := passTellsRow, standIns := [], harness := (true, "0648cc3f464c5b0c7ffcb8484934b616c2581722bdbe786a05ce0e3b7d0d77f6"), looks := false }, kinds := [], alts := [], laidByText := true, laidKinds := [.data, .data, .data], laidTests := true, laidLooks := .later }
def PassTellsCardSaid : Prop := Claim7.holds Tryz.pinned (.plain (OpenSpec.ofChange passTellsSpec)) passTellsCard

/-- THE SECOND FORM's CARD OF 'arboristlaw16.PassTells'. -/
def passTellsUptoCard : Claim7 := { stood := { row := passTellsUptoRow, standIns := [], harness := (true, "0648cc3f464c5b0c7ffcb8484934b616c2581722bdbe786a05ce0e3b7d0d77f6"), looks := false }, kinds := [], alts := [], laidByText := true, laidKinds := [.data, .data, .data], laidTests := true, laidLooks := .later }
def PassTellsUptoCardSaid : Prop := Claim7.holds Tryz.pinned (.plain (OpenSpec.upto passTellsSpec)) passTellsUptoCard
end Rows
end Go.Proofs.YtpimooejnpdlpaaGreatDoor
