/-
  DERIVED. GIVEN WITH THE SEED: THE CARDS: each row of YtlmkgghpaaadhaaGreatDoorRows.lean that lists a variable, with what it lists TIED to the program's text (the seventh form; the later family's looks); each row that meets fmt, with fmt's text TOLD by the authors' own Lean function (tested against real Go, not proved from fmt's source: count such statements apart). THE CARD IS WHAT COUNTS. Prove the row's statement (the work); the ties are given (YtlmkgghpaaadhaaGreatDoorTie.lean); close each card by the builder's one call (the guide's Derived/Test/ToyasCard.lean, 'card_holds'). Laid BY PROGRAM, IN A SANDBOX (cutbox-door.mjs). By AI agents, Wed Nov 11 2026. No macro, syntax, notation, axiom, sorry.
-/
import Derived.Test.YtlmkgghpaaadhaaGreatDoorRows
import GoSem.ClaimSeven
namespace Go.Proofs.YtlmkgghpaaadhaaGreatDoor
namespace Rows

/-- THE TIED CARD OF 'arboristlaw04.WeighTimes'. -/
def weighTimesCard : Claim7 := { stood := { row := weighTimesRow, standIns := [], harness := (true, "7dcb35bb33879fe8ed89750be00a5bec908de9b12fad9e94f9c132a36bf3c39d"), looks := true }, kinds := [], alts := [], laidByText := true, laidKinds := [.data, .data, .data], laidTests := true, laidLooks := .later }
def WeighTimesCardSaid : Prop := Claim7.holds Tryz.pinned (.plain (OpenSpec.ofChange weighTimesSpec)) weighTimesCard

/-- THE TIED CARD OF 'arboristlaw04.WeighPhases'. -/
def weighPhasesCard : Claim7 := { stood := { row := weighPhasesRow, standIns := [], harness := (true, "7dcb35bb33879fe8ed89750be00a5bec908de9b12fad9e94f9c132a36bf3c39d"), looks := true }, kinds := [], alts := [], laidByText := true, laidKinds := [.data, .data, .data], laidTests := true, laidLooks := .later }
def WeighPhasesCardSaid : Prop := Claim7.holds Tryz.pinned (.plain (OpenSpec.ofChange weighPhasesSpec)) weighPhasesCard

/-- THE TIED CARD OF 'arboristlaw04.WeighSums'. -/
def weighSumsCard : Claim7 := { stood := { row := weighSumsRow, standIns := [], harness := (true, "7dcb35bb33879fe8ed89750be00a5bec908de9b12fad9e94f9c132a36bf3c39d"), looks := true }, kinds := [], alts := [], laidByText := true, laidKinds := [.data, .data, .data], laidTests := true, laidLooks := .later }
def WeighSumsCardSaid : Prop := Claim7.holds Tryz.pinned (.plain (OpenSpec.ofChange weighSumsSpec)) weighSumsCard

/-- THE TIED CARD OF 'arboristlaw04.WeighParts'. -/
def weighPartsCard : Claim7 := { stood := { row := weighPartsRow, standIns := [], harness := (true, "7dcb35bb33879fe8ed89750be00a5bec908de9b12fad9e94f9c132a36bf3c39d"), looks := true }, kinds := [], alts := [], laidByText := true, laidKinds := [.data, .data, .data], laidTests := true, laidLooks := .later }
def WeighPartsCardSaid : Prop := Claim7.holds Tryz.pinned (.plain (OpenSpec.ofChange weighPartsSpec)) weighPartsCard

/-- THE TIED CARD OF 'arboristlaw04.WeighOf'. -/
def weighOfCard : Claim7 := { stood := { row := weighOfRow, standIns := [], harness := (true, "7dcb35bb33879fe8ed89750be00a5bec908de9b12fad9e94f9c132a36bf3c39d"), looks := true }, kinds := [], alts := [], laidByText := true, laidKinds := [.data, .data, .data], laidTests := true, laidLooks := .later }
def WeighOfCardSaid : Prop := Claim7.holds Tryz.pinned (.plain (OpenSpec.ofChange weighOfSpec)) weighOfCard

/-- THE TIED CARD OF 'arboristlaw04.WeighSteps'. -/
def weighStepsCard : Claim7 := { stood := { row := weighStepsRow, standIns := [], harness := (true, "7dcb35bb33879fe8ed89750be00a5bec908de9b12fad9e94f9c132a36bf3c39d"), looks := true }, kinds := [], alts := [], laidByText := true, laidKinds := [.data, .data, .data], laidTests := true, laidLooks := .later }
def WeighStepsCardSaid : Prop := Claim7.holds Tryz.pinned (.plain (OpenSpec.ofChange weighStepsSpec)) weighStepsCard

/-- THE TIED CARD OF 'arboristlaw04.WeighLeast'. -/
def weighLeastCard : Claim7 := { stood := { row := weighLeastRow, standIns := [], harness := (true, "7dcb35bb33879fe8ed89750be00a5bec908de9b12fad9e94f9c132a36bf3c39d"), looks := true }, kinds := [], alts := [], laidByText := true, laidKinds := [.data, .data, .data], laidTests := true, laidLooks := .later }
def WeighLeastCardSaid : Prop := Claim7.holds Tryz.pinned (.plain (OpenSpec.ofChange weighLeastSpec)) weighLeastCard

/-- THE TIED CARD OF 'arboristlaw04.WeighEdges'. -/
def weighEdgesCard : Claim7 := { stood := { row := weighEdgesRow, standIns := [], harness := (true, "7dcb35bb33879fe8ed89750be00a5bec908de9b12fad9e94f9c132a36bf3c39d"), looks := true }, kinds := [], alts := [], laidByText := true, laidKinds := [.data, .data, .data], laidTests := true, laidLooks := .later }
def WeighEdgesCardSaid : Prop := Claim7.holds Tryz.pinned (.plain (OpenSpec.ofChange weighEdgesSpec)) weighEdgesCard

/-- THE TIED CARD OF 'arboristlaw04.WeighRights'. -/
def weighRightsCard : Claim7 := { stood := { row := weighRightsRow, standIns := [], harness := (true, "7dcb35bb33879fe8ed89750be00a5bec908de9b12fad9e94f9c132a36bf3c39d"), looks := true }, kinds := [], alts := [], laidByText := true, laidKinds := [.data, .data, .data], laidTests := true, laidLooks := .later }
def WeighRightsCardSaid : Prop := Claim7.holds Tryz.pinned (.plain (OpenSpec.ofChange weighRightsSpec)) weighRightsCard

/-- THE SECOND FORM's CARD OF 'arboristlaw04.WeighTimes'. -/
def weighTimesUptoCard : Claim7 := { stood := { row := weighTimesUptoRow, standIns := [], harness := (true, "7dcb35bb33879fe8ed89750be00a5bec908de9b12fad9e94f9c132a36bf3c39d"), looks := true }, kinds := [], alts := [], laidByText := true, laidKinds := [.data, .data, .data], laidTests := true, laidLooks := .later }
def WeighTimesUptoCardSaid : Prop := Claim7.holds Tryz.pinned (.plain (OpenSpec.upto weighTimesSpec)) weighTimesUptoCard

/-- THE SECOND FORM's CARD OF 'arboristlaw04.WeighPhases'. -/
def weighPhasesUptoCard : Claim7 := { stood := { row := weighPhasesUptoRow, standIns := [], harness := (true, "7dcb35bb33879fe8ed89750be00a5bec908de9b12fad9e94f9c132a36bf3c39d"), looks := true }, kinds := [], alts := [], laidByText := true, laidKinds := [.data, .data, .data], laidTests := true, laidLooks := .later }
def WeighPhasesUptoCardSaid : Prop := Claim7.holds Tryz.pinned (.plain (OpenSpec.upto weighPhasesSpec)) weighPhasesUptoCard

/-- THE SECOND FORM's CARD OF 'arboristlaw04.WeighSums'. -/
def weighSumsUptoCard : Claim7 := { stood := { row := weighSumsUptoRow, standIns := [], harness := (true, "7dcb35bb33879fe8ed89750be00a5bec908de9b12fad9e94f9c132a36bf3c39d"), looks := true }, kinds := [], alts := [], laidByText := true, laidKinds := [.data, .data, .data], laidTests := true, laidLooks := .later }
def WeighSumsUptoCardSaid : Prop := Claim7.holds Tryz.pinned (.plain (OpenSpec.upto weighSumsSpec)) weighSumsUptoCard

/-- THE SECOND FORM's CARD OF 'arboristlaw04.WeighParts'. -/
def weighPartsUptoCard : Claim7 := { stood := { row := weighPartsUptoRow, standIns := [], harness := (true, "7dcb35bb33879fe8ed89750be00a5bec908de9b12fad9e94f9c132a36bf3c39d"), looks := true }, kinds := [], alts := [], laidByText := true, laidKinds := [.data, .data, .data], laidTests := true, laidLooks := .later }
def WeighPartsUptoCardSaid : Prop := Claim7.holds Tryz.pinned (.plain (OpenSpec.upto weighPartsSpec)) weighPartsUptoCard

/-- THE SECOND FORM's CARD OF 'arboristlaw04.WeighOf'. -/
def weighOfUptoCard : Claim7 := { stood := { row := weighOfUptoRow, standIns := [], harness := (true, "7dcb35bb33879fe8ed89750be00a5bec908de9b12fad9e94f9c132a36bf3c39d"), looks := true }, kinds := [], alts := [], laidByText := true, laidKinds := [.data, .data, .data], laidTests := true, laidLooks := .later }
def WeighOfUptoCardSaid : Prop := Claim7.holds Tryz.pinned (.plain (OpenSpec.upto weighOfSpec)) weighOfUptoCard

/-- THE SECOND FORM's CARD OF 'arboristlaw04.WeighSteps'. -/
def weighStepsUptoCard : Claim7 := { stood := { row := weighStepsUptoRow, standIns := [], harness := (true, "7dcb35bb33879fe8ed89750be00a5bec908de9b12fad9e94f9c132a36bf3c39d"), looks := true }, kinds := [], alts := [], laidByText := true, laidKinds := [.data, .data, .data], laidTests := true, laidLooks := .later }
def WeighStepsUptoCardSaid : Prop := Claim7.holds Tryz.pinned (.plain (OpenSpec.upto weighStepsSpec)) weighStepsUptoCard

/-- THE SECOND FORM's CARD OF 'arboristlaw04.WeighLeast'. -/
def weighLeastUptoCard : Claim7 := { stood := { row := weighLeastUptoRow, standIns := [], harness := (true, "7dcb35bb33879fe8ed89750be00a5bec908de9b12fad9e94f9c132a36bf3c39d"), looks := true }, kinds := [], alts := [], laidByText := true, laidKinds := [.data, .data, .data], laidTests := true, laidLooks := .later }
def WeighLeastUptoCardSaid : Prop := Claim7.holds Tryz.pinned (.plain (OpenSpec.upto weighLeastSpec)) weighLeastUptoCard

/-- THE SECOND FORM's CARD OF 'arboristlaw04.WeighEdges'. -/
def weighEdgesUptoCard : Claim7 := { stood := { row := weighEdgesUptoRow, standIns := [], harness := (true, "7dcb35bb33879fe8ed89750be00a5bec908de9b12fad9e94f9c132a36bf3c39d"), looks := true }, kinds := [], alts := [], laidByText := true, laidKinds := [.data, .data, .data], laidTests := true, laidLooks := .later }
def WeighEdgesUptoCardSaid : Prop := Claim7.holds Tryz.pinned (.plain (OpenSpec.upto weighEdgesSpec)) weighEdgesUptoCard

/-- THE SECOND FORM's CARD OF 'arboristlaw04.WeighRights'. -/
def weighRightsUptoCard : Claim7 := { stood := { row := weighRightsUptoRow, standIns := [], harness := (true, "7dcb35bb33879fe8ed89750be00a5bec908de9b12fad9e94f9c132a36bf3c39d"), looks := true }, kinds := [], alts := [], laidByText := true, laidKinds := [.data, .data, .data], laidTests := true, laidLooks := .later }
def WeighRightsUptoCardSaid : Prop := Claim7.holds Tryz.pinned (.plain (OpenSpec.upto weighRightsSpec)) weighRightsUptoCard
end Rows
end Go.Proofs.YtlmkgghpaaadhaaGreatDoor
