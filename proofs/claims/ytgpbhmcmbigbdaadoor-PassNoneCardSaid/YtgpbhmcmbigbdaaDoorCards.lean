/-
  DERIVED. GIVEN WITH THE SEED: THE CARDS: each row of YtgpbhmcmbigbdaaDoorRows.lean that lists a variable, with what it lists TIED to the program's text (the seventh form; the later family's looks); each row that meets fmt, with fmt's text TOLD by the authors' own Lean function (tested against real Go, not proved from fmt's source: count such statements apart). THE CARD IS WHAT COUNTS. Prove the row's statement (the work); the ties are given (YtgpbhmcmbigbdaaDoorTie.lean); close each card by the builder's one call (the guide's Derived/Test/ToyasCard.lean, 'card_holds'). Laid BY PROGRAM, IN A SANDBOX (cutbox-door.mjs). By AI agents, Wed Nov 11 2026. No macro, syntax, notation, axiom, sorry.
-/
import Derived.Test.YtgpbhmcmbigbdaaDoorRows
import GoSem.ClaimSeven
namespace Go.Proofs.YtgpbhmcmbigbdaaDoor
namespace Rows

/-- THE TIED CARD OF 'arboristlaw16.PassSettles'. -/
def passSettlesCard : Claim7 := { stood := { row := passSettlesRow, standIns := [], harness := (true, "7aa16fedd4208ebbb9439cc72adbdf088728869df68453ecc9d6d005703ae881"), looks := false }, kinds := [], alts := [], laidByText := true, laidKinds := [.data, .data, .data], laidTests := true, laidLooks := .later }
def PassSettlesCardSaid : Prop := Claim7.holds Tryd.pinned (.plain (OpenSpec.ofChange passSettlesSpec)) passSettlesCard

/-- THE TIED CARD OF 'arboristlaw16.PassNone'. -/
def passNoneCard : Claim7 := { stood := { row := passNoneRow, standIns := [], harness := (true, "7aa16fedd4208ebbb9439cc72adbdf088728869df68453ecc9d6d005703ae881"), looks := false }, kinds := [], alts := [], laidByText := true, laidKinds := [.data, .data, .data], laidTests := true, laidLooks := .later }
def PassNoneCardSaid : Prop := Claim7.holds Tryd.pinned (.plain (OpenSpec.ofChange passNoneSpec)) passNoneCard

/-- THE TIED CARD OF 'arboristlaw16.PassKeeps'. -/
def passKeepsCard : Claim7 := { stood := { row := passKeepsRow, standIns := [], harness := (true, "7aa16fedd4208ebbb9439cc72adbdf088728869df68453ecc9d6d005703ae881"), looks := false }, kinds := [], alts := [], laidByText := true, laidKinds := [.data, .data, .data], laidTests := true, laidLooks := .later }
def PassKeepsCardSaid : Prop := Claim7.holds Tryd.pinned (.plain (OpenSpec.ofChange passKeepsSpec)) passKeepsCard

/-- THE SECOND FORM's CARD OF 'arboristlaw16.PassSettles'. -/
def passSettlesUptoCard : Claim7 := { stood := { row := passSettlesUptoRow, standIns := [], harness := (true, "7aa16fedd4208ebbb9439cc72adbdf088728869df68453ecc9d6d005703ae881"), looks := false }, kinds := [], alts := [], laidByText := true, laidKinds := [.data, .data, .data], laidTests := true, laidLooks := .later }
def PassSettlesUptoCardSaid : Prop := Claim7.holds Tryd.pinned (.plain (OpenSpec.upto passSettlesSpec)) passSettlesUptoCard

/-- THE SECOND FORM's CARD OF 'arboristlaw16.PassNone'. -/
def passNoneUptoCard : Claim7 := { stood := { row := passNoneUptoRow, standIns := [], harness := (true, "7aa16fedd4208ebbb9439cc72adbdf088728869df68453ecc9d6d005703ae881"), looks := false }, kinds := [], alts := [], laidByText := true, laidKinds := [.data, .data, .data], laidTests := true, laidLooks := .later }
def PassNoneUptoCardSaid : Prop := Claim7.holds Tryd.pinned (.plain (OpenSpec.upto passNoneSpec)) passNoneUptoCard

/-- THE SECOND FORM's CARD OF 'arboristlaw16.PassKeeps'. -/
def passKeepsUptoCard : Claim7 := { stood := { row := passKeepsUptoRow, standIns := [], harness := (true, "7aa16fedd4208ebbb9439cc72adbdf088728869df68453ecc9d6d005703ae881"), looks := false }, kinds := [], alts := [], laidByText := true, laidKinds := [.data, .data, .data], laidTests := true, laidLooks := .later }
def PassKeepsUptoCardSaid : Prop := Claim7.holds Tryd.pinned (.plain (OpenSpec.upto passKeepsSpec)) passKeepsUptoCard
end Rows
end Go.Proofs.YtgpbhmcmbigbdaaDoor
