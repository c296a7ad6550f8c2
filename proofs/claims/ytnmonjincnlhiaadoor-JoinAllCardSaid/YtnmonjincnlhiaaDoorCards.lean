/-
  DERIVED. GIVEN WITH THE SEED: THE CARDS: each row of YtnmonjincnlhiaaDoorRows.lean that lists a variable, with what it lists TIED to the program's text (the seventh form; the later family's looks); each row that meets fmt, with fmt's text TOLD by the authors' own Lean function (tested against real Go, not proved from fmt's source: count such statements apart). THE CARD IS WHAT COUNTS. Prove the row's statement (the work); the ties are given (YtnmonjincnlhiaaDoorTie.lean); close each card by the builder's one call (the guide's Derived/Test/ToyasCard.lean, 'card_holds'). Laid BY PROGRAM, IN A SANDBOX (cutbox-door.mjs). By AI agents, Wed Nov 11 2026. No macro, syntax, notation, axiom, sorry.
-/
import Derived.Test.YtnmonjincnlhiaaDoorRows
import GoSem.ClaimSeven
namespace Go.Proofs.YtnmonjincnlhiaaDoor
namespace Rows

/-- THE TIED CARD OF 'arboristlaw03.JoinSemi'. -/
def joinSemiCard : Claim7 := { stood := { row := joinSemiRow, standIns := [], harness := (true, "38146bffa8c9bb7dfd2f087e46c82fbe1159e4bb7369483f9231e53fae7a3c49"), looks := false }, kinds := [], alts := [], laidByText := true, laidKinds := [.data, .data, .data], laidTests := true, laidLooks := .later }
def JoinSemiCardSaid : Prop := Claim7.holds Tryd.pinned (.plain (OpenSpec.ofChange joinSemiSpec)) joinSemiCard

/-- THE TIED CARD OF 'arboristlaw03.JoinAgrees'. -/
def joinAgreesCard : Claim7 := { stood := { row := joinAgreesRow, standIns := [], harness := (true, "38146bffa8c9bb7dfd2f087e46c82fbe1159e4bb7369483f9231e53fae7a3c49"), looks := false }, kinds := [], alts := [], laidByText := true, laidKinds := [.data, .data, .data], laidTests := true, laidLooks := .later }
def JoinAgreesCardSaid : Prop := Claim7.holds Tryd.pinned (.plain (OpenSpec.ofChange joinAgreesSpec)) joinAgreesCard

/-- THE TIED CARD OF 'arboristlaw03.JoinNone'. -/
def joinNoneCard : Claim7 := { stood := { row := joinNoneRow, standIns := [], harness := (true, "38146bffa8c9bb7dfd2f087e46c82fbe1159e4bb7369483f9231e53fae7a3c49"), looks := false }, kinds := [], alts := [], laidByText := true, laidKinds := [.data, .data, .data], laidTests := true, laidLooks := .later }
def JoinNoneCardSaid : Prop := Claim7.holds Tryd.pinned (.plain (OpenSpec.ofChange joinNoneSpec)) joinNoneCard

/-- THE TIED CARD OF 'arboristlaw03.JoinParts'. -/
def joinPartsCard : Claim7 := { stood := { row := joinPartsRow, standIns := [], harness := (true, "38146bffa8c9bb7dfd2f087e46c82fbe1159e4bb7369483f9231e53fae7a3c49"), looks := false }, kinds := [], alts := [], laidByText := true, laidKinds := [.data, .data, .data], laidTests := true, laidLooks := .later }
def JoinPartsCardSaid : Prop := Claim7.holds Tryd.pinned (.plain (OpenSpec.ofChange joinPartsSpec)) joinPartsCard

/-- THE TIED CARD OF 'arboristlaw03.JoinAll'. -/
def joinAllCard : Claim7 := { stood := { row := joinAllRow, standIns := [], harness := (true, "38146bffa8c9bb7dfd2f087e46c82fbe1159e4bb7369483f9231e53fae7a3c49"), looks := false }, kinds := [], alts := [], laidByText := true, laidKinds := [.data, .data, .data], laidTests := true, laidLooks := .later }
def JoinAllCardSaid : Prop := Claim7.holds Tryd.pinned (.plain (OpenSpec.ofChange joinAllSpec)) joinAllCard

/-- THE TIED CARD OF 'arboristlaw03.JoinOrder'. -/
def joinOrderCard : Claim7 := { stood := { row := joinOrderRow, standIns := [], harness := (true, "38146bffa8c9bb7dfd2f087e46c82fbe1159e4bb7369483f9231e53fae7a3c49"), looks := false }, kinds := [], alts := [], laidByText := true, laidKinds := [.data, .data, .data], laidTests := true, laidLooks := .later }
def JoinOrderCardSaid : Prop := Claim7.holds Tryd.pinned (.plain (OpenSpec.ofChange joinOrderSpec)) joinOrderCard

/-- THE TIED CARD OF 'arboristlaw03.JoinUnit'. -/
def joinUnitCard : Claim7 := { stood := { row := joinUnitRow, standIns := [], harness := (true, "38146bffa8c9bb7dfd2f087e46c82fbe1159e4bb7369483f9231e53fae7a3c49"), looks := false }, kinds := [], alts := [], laidByText := true, laidKinds := [.data, .data, .data], laidTests := true, laidLooks := .later }
def JoinUnitCardSaid : Prop := Claim7.holds Tryd.pinned (.plain (OpenSpec.ofChange joinUnitSpec)) joinUnitCard

/-- THE TIED CARD OF 'arboristlaw03.JoinCuts'. -/
def joinCutsCard : Claim7 := { stood := { row := joinCutsRow, standIns := [], harness := (true, "38146bffa8c9bb7dfd2f087e46c82fbe1159e4bb7369483f9231e53fae7a3c49"), looks := false }, kinds := [], alts := [], laidByText := true, laidKinds := [.data, .data, .data], laidTests := true, laidLooks := .later }
def JoinCutsCardSaid : Prop := Claim7.holds Tryd.pinned (.plain (OpenSpec.ofChange joinCutsSpec)) joinCutsCard

/-- THE SECOND FORM's CARD OF 'arboristlaw03.JoinSemi'. -/
def joinSemiUptoCard : Claim7 := { stood := { row := joinSemiUptoRow, standIns := [], harness := (true, "38146bffa8c9bb7dfd2f087e46c82fbe1159e4bb7369483f9231e53fae7a3c49"), looks := false }, kinds := [], alts := [], laidByText := true, laidKinds := [.data, .data, .data], laidTests := true, laidLooks := .later }
def JoinSemiUptoCardSaid : Prop := Claim7.holds Tryd.pinned (.plain (OpenSpec.upto joinSemiSpec)) joinSemiUptoCard

/-- THE SECOND FORM's CARD OF 'arboristlaw03.JoinAgrees'. -/
def joinAgreesUptoCard : Claim7 := { stood := { row := joinAgreesUptoRow, standIns := [], harness := (true, "38146bffa8c9bb7dfd2f087e46c82fbe1159e4bb7369483f9231e53fae7a3c49"), looks := false }, kinds := [], alts := [], laidByText := true, laidKinds := [.data, .data, .data], laidTests := true, laidLooks := .later }
def JoinAgreesUptoCardSaid : Prop := Claim7.holds Tryd.pinned (.plain (OpenSpec.upto joinAgreesSpec)) joinAgreesUptoCard

/-- THE SECOND FORM's CARD OF 'arboristlaw03.JoinNone'. -/
def joinNoneUptoCard : Claim7 := { stood := { row := joinNoneUptoRow, standIns := [], harness := (true, "38146bffa8c9bb7dfd2f087e46c82fbe1159e4bb7369483f9231e53fae7a3c49"), looks := false }, kinds := [], alts := [], laidByText := true, laidKinds := [.data, .data, .data], laidTests := true, laidLooks := .later }
def JoinNoneUptoCardSaid : Prop := Claim7.holds Tryd.pinned (.plain (OpenSpec.upto joinNoneSpec)) joinNoneUptoCard

/-- THE SECOND FORM's CARD OF 'arboristlaw03.JoinParts'. -/
def joinPartsUptoCard : Claim7 := { stood := { row := joinPartsUptoRow, standIns := [], harness := (true, "38146bffa8c9bb7dfd2f087e46c82fbe1159e4bb7369483f9231e53fae7a3c49"), looks := false }, kinds := [], alts := [], laidByText := true, laidKinds := [.data, .data, .data], laidTests := true, laidLooks := .later }
def JoinPartsUptoCardSaid : Prop := Claim7.holds Tryd.pinned (.plain (OpenSpec.upto joinPartsSpec)) joinPartsUptoCard

/-- THE SECOND FORM's CARD OF 'arboristlaw03.JoinAll'. -/
def joinAllUptoCard : Claim7 := { stood := { row := joinAllUptoRow, standIns := [], harness := (true, "38146bffa8c9bb7dfd2f087e46c82fbe1159e4bb7369483f9231e53fae7a3c49"), looks := false }, kinds := [], alts := [], laidByText := true, laidKinds := [.data, .data, .data], laidTests := true, laidLooks := .later }
def JoinAllUptoCardSaid : Prop := Claim7.holds Tryd.pinned (.plain (OpenSpec.upto joinAllSpec)) joinAllUptoCard

/-- THE SECOND FORM's CARD OF 'arboristlaw03.JoinOrder'. -/
def joinOrderUptoCard : Claim7 := { stood := { row := joinOrderUptoRow, standIns := [], harness := (true, "38146bffa8c9bb7dfd2f087e46c82fbe1159e4bb7369483f9231e53fae7a3c49"), looks := false }, kinds := [], alts := [], laidByText := true, laidKinds := [.data, .data, .data], laidTests := true, laidLooks := .later }
def JoinOrderUptoCardSaid : Prop := Claim7.holds Tryd.pinned (.plain (OpenSpec.upto joinOrderSpec)) joinOrderUptoCard

/-- THE SECOND FORM's CARD OF 'arboristlaw03.JoinUnit'. -/
def joinUnitUptoCard : Claim7 := { stood := { row := joinUnitUptoRow, standIns := [], harness := (true, "38146bffa8c9bb7dfd2f087e46c82fbe1159e4bb7369483f9231e53fae7a3c49"), looks := false }, kinds := [], alts := [], laidByText := true, laidKinds := [.data, .data, .data], laidTests := true, laidLooks := .later }
def JoinUnitUptoCardSaid : Prop := Claim7.holds Tryd.pinned (.plain (OpenSpec.upto joinUnitSpec)) joinUnitUptoCard

/-- THE SECOND FORM's CARD OF 'arboristlaw03.JoinCuts'. -/
def joinCutsUptoCard : Claim7 := { stood := { row := joinCutsUptoRow, standIns := [], harness := (true, "38146bffa8c9bb7dfd2f087e46c82fbe1159e4bb7369483f9231e53fae7a3c49"), looks := false }, kinds := [], alts := [], laidByText := true, laidKinds := [.data, .data, .data], laidTests := true, laidLooks := .later }
def JoinCutsUptoCardSaid : Prop := Claim7.holds Tryd.pinned (.plain (OpenSpec.upto joinCutsSpec)) joinCutsUptoCard
end Rows
end Go.Proofs.YtnmonjincnlhiaaDoor
