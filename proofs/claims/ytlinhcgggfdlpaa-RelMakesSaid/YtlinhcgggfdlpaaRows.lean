/-
  No cell of these rows narrows 'for every input' (looked for: loops, veiled, ifaces, maps, wideKeys, modest, calm, conditions, laid).
  DERIVED. THE GIVEN ROWS OF THIS SEAT. 9 by the template 'for every input the law returns true; each argument reads behind the call as it read before'; 0 by the template 'total and deterministic' (their statements: YtlinhcgggfdlpaaTotals.lean).
  GIVEN WITH THE SEED: the statements are not yours to turn. If you find one false, say at which input.
  Laid BY PROGRAM, IN A SANDBOX (cutbox-rows.mjs): the forced cells as the released guide's own fill.sh prints them over the translation 61c8ae2330e57524… (all of the seat's roots in one cut). By AI agents, Wed Nov 11 2026. No macro, syntax, notation, axiom, sorry.
-/
import Derived.Test.YtlinhcgggfdlpaaChecked
import GoSem.Claim
import GoSem.ClaimJoined
import GoSem.ClaimMapViews
import Derived.JoinedTies
import Derived.KernelRfl
namespace Go.Proofs.Ytlinhcgggfdlpaa
/- THE CELL 'sum', in the pinned program and in every row, IS THE sha256 OF THE DUMP (.gsa) THAT YtlinhcgggfdlpaaProg.lean LOADS. Nothing in Lean hashes anything: it is a label: what it is worth is what the hold of that sum in a sandbox is worth. -/
noncomputable def Try.pinned : Pinned := { name := "ytlinhcgggfdlpaa", sum := "61c8ae2330e57524c8c4708bfd74347108f6baf8e95803a2912970baf7379005", checked := Try.checked }
namespace Rows
def none {H : Type} : Left H := { results := [], args := [] }

/-- 'arboristlaw02.RelMakes': WHATEVER THE INPUT: true; the input reads as it did. -/
def relMakesSpec : ChangeSpec := { name := "relMakes", fn := fun _ => fun
  | [d] => { results := [.lit (.bool true)], args := [d] }
  | _ => none }
def relMakesRow : OpenClaim := { program := "ytlinhcgggfdlpaa", sum := "61c8ae2330e57524c8c4708bfd74347108f6baf8e95803a2912970baf7379005", func := "arborist/arboristlaw02.RelMakes", spec := "relMakes", unfollowed := true, recurses := true, apart := false }
def RelMakesSaid : Prop := relMakesRow.holds Try.pinned (OpenSpec.ofChange relMakesSpec)

/-- ITS FALSE NEIGHBOUR: 'it returns false'. Refute it at one input. -/
def relMakesWrong : ChangeSpec := { name := "relMakes", fn := fun _ => fun
  | [d] => { results := [.lit (.bool false)], args := [d] }
  | _ => none }
def RelMakesWrongFalsely : Prop := relMakesRow.holds Try.pinned (OpenSpec.ofChange relMakesWrong)

/-- 'arboristlaw02.RelTurned': WHATEVER THE INPUT: true; the input reads as it did. -/
def relTurnedSpec : ChangeSpec := { name := "relTurned", fn := fun _ => fun
  | [d1, d2] => { results := [.lit (.bool true)], args := [d1, d2] }
  | _ => none }
def relTurnedRow : OpenClaim := { program := "ytlinhcgggfdlpaa", sum := "61c8ae2330e57524c8c4708bfd74347108f6baf8e95803a2912970baf7379005", func := "arborist/arboristlaw02.RelTurned", spec := "relTurned", unfollowed := true, recurses := true, apart := false }
def RelTurnedSaid : Prop := relTurnedRow.holds Try.pinned (OpenSpec.ofChange relTurnedSpec)

/-- ITS FALSE NEIGHBOUR: 'it returns false'. Refute it at one input. -/
def relTurnedWrong : ChangeSpec := { name := "relTurned", fn := fun _ => fun
  | [d1, d2] => { results := [.lit (.bool false)], args := [d1, d2] }
  | _ => none }
def RelTurnedWrongFalsely : Prop := relTurnedRow.holds Try.pinned (OpenSpec.ofChange relTurnedWrong)

/-- 'arboristlaw02.RelUnions': WHATEVER THE INPUT: true; the input reads as it did. -/
def relUnionsSpec : ChangeSpec := { name := "relUnions", fn := fun _ => fun
  | [d1, d2, d3, d4] => { results := [.lit (.bool true)], args := [d1, d2, d3, d4] }
  | _ => none }
def relUnionsRow : OpenClaim := { program := "ytlinhcgggfdlpaa", sum := "61c8ae2330e57524c8c4708bfd74347108f6baf8e95803a2912970baf7379005", func := "arborist/arboristlaw02.RelUnions", spec := "relUnions", unfollowed := true, recurses := true, apart := false }
def RelUnionsSaid : Prop := relUnionsRow.holds Try.pinned (OpenSpec.ofChange relUnionsSpec)

/-- ITS FALSE NEIGHBOUR: 'it returns false'. Refute it at one input. -/
def relUnionsWrong : ChangeSpec := { name := "relUnions", fn := fun _ => fun
  | [d1, d2, d3, d4] => { results := [.lit (.bool false)], args := [d1, d2, d3, d4] }
  | _ => none }
def RelUnionsWrongFalsely : Prop := relUnionsRow.holds Try.pinned (OpenSpec.ofChange relUnionsWrong)

/-- 'arboristlaw02.RelUnites': WHATEVER THE INPUT: true; the input reads as it did. -/
def relUnitesSpec : ChangeSpec := { name := "relUnites", fn := fun _ => fun
  | [d1, d2, d3, d4] => { results := [.lit (.bool true)], args := [d1, d2, d3, d4] }
  | _ => none }
def relUnitesRow : OpenClaim := { program := "ytlinhcgggfdlpaa", sum := "61c8ae2330e57524c8c4708bfd74347108f6baf8e95803a2912970baf7379005", func := "arborist/arboristlaw02.RelUnites", spec := "relUnites", unfollowed := true, recurses := true, apart := false }
def RelUnitesSaid : Prop := relUnitesRow.holds Try.pinned (OpenSpec.ofChange relUnitesSpec)

/-- ITS FALSE NEIGHBOUR: 'it returns false'. Refute it at one input. -/
def relUnitesWrong : ChangeSpec := { name := "relUnites", fn := fun _ => fun
  | [d1, d2, d3, d4] => { results := [.lit (.bool false)], args := [d1, d2, d3, d4] }
  | _ => none }
def RelUnitesWrongFalsely : Prop := relUnitesRow.holds Try.pinned (OpenSpec.ofChange relUnitesWrong)

/-- 'arboristlaw02.RelTwice': WHATEVER THE INPUT: true; the input reads as it did. -/
def relTwiceSpec : ChangeSpec := { name := "relTwice", fn := fun _ => fun
  | [d1, d2, d3, d4] => { results := [.lit (.bool true)], args := [d1, d2, d3, d4] }
  | _ => none }
def relTwiceRow : OpenClaim := { program := "ytlinhcgggfdlpaa", sum := "61c8ae2330e57524c8c4708bfd74347108f6baf8e95803a2912970baf7379005", func := "arborist/arboristlaw02.RelTwice", spec := "relTwice", unfollowed := true, recurses := true, apart := false }
def RelTwiceSaid : Prop := relTwiceRow.holds Try.pinned (OpenSpec.ofChange relTwiceSpec)

/-- ITS FALSE NEIGHBOUR: 'it returns false'. Refute it at one input. -/
def relTwiceWrong : ChangeSpec := { name := "relTwice", fn := fun _ => fun
  | [d1, d2, d3, d4] => { results := [.lit (.bool false)], args := [d1, d2, d3, d4] }
  | _ => none }
def RelTwiceWrongFalsely : Prop := relTwiceRow.holds Try.pinned (OpenSpec.ofChange relTwiceWrong)

/-- 'arboristlaw02.RelParts': WHATEVER THE INPUT: true; the input reads as it did. -/
def relPartsSpec : ChangeSpec := { name := "relParts", fn := fun _ => fun
  | [d1, d2, d3, d4, d5] => { results := [.lit (.bool true)], args := [d1, d2, d3, d4, d5] }
  | _ => none }
def relPartsRow : OpenClaim := { program := "ytlinhcgggfdlpaa", sum := "61c8ae2330e57524c8c4708bfd74347108f6baf8e95803a2912970baf7379005", func := "arborist/arboristlaw02.RelParts", spec := "relParts", unfollowed := true, recurses := true, apart := false }
def RelPartsSaid : Prop := relPartsRow.holds Try.pinned (OpenSpec.ofChange relPartsSpec)

/-- ITS FALSE NEIGHBOUR: 'it returns false'. Refute it at one input. -/
def relPartsWrong : ChangeSpec := { name := "relParts", fn := fun _ => fun
  | [d1, d2, d3, d4, d5] => { results := [.lit (.bool false)], args := [d1, d2, d3, d4, d5] }
  | _ => none }
def RelPartsWrongFalsely : Prop := relPartsRow.holds Try.pinned (OpenSpec.ofChange relPartsWrong)

/-- 'arboristlaw02.RelPasses': WHATEVER THE INPUT: true; the input reads as it did. -/
def relPassesSpec : ChangeSpec := { name := "relPasses", fn := fun _ => fun
  | [d1, d2, d3, d4, d5] => { results := [.lit (.bool true)], args := [d1, d2, d3, d4, d5] }
  | _ => none }
def relPassesRow : OpenClaim := { program := "ytlinhcgggfdlpaa", sum := "61c8ae2330e57524c8c4708bfd74347108f6baf8e95803a2912970baf7379005", func := "arborist/arboristlaw02.RelPasses", spec := "relPasses", unfollowed := true, recurses := true, apart := false }
def RelPassesSaid : Prop := relPassesRow.holds Try.pinned (OpenSpec.ofChange relPassesSpec)

/-- ITS FALSE NEIGHBOUR: 'it returns false'. Refute it at one input. -/
def relPassesWrong : ChangeSpec := { name := "relPasses", fn := fun _ => fun
  | [d1, d2, d3, d4, d5] => { results := [.lit (.bool false)], args := [d1, d2, d3, d4, d5] }
  | _ => none }
def RelPassesWrongFalsely : Prop := relPassesRow.holds Try.pinned (OpenSpec.ofChange relPassesWrong)

/-- 'arboristlaw02.RelSelects': WHATEVER THE INPUT: true; the input reads as it did. -/
def relSelectsSpec : ChangeSpec := { name := "relSelects", fn := fun _ => fun
  | [d1, d2, d3] => { results := [.lit (.bool true)], args := [d1, d2, d3] }
  | _ => none }
def relSelectsRow : OpenClaim := { program := "ytlinhcgggfdlpaa", sum := "61c8ae2330e57524c8c4708bfd74347108f6baf8e95803a2912970baf7379005", func := "arborist/arboristlaw02.RelSelects", spec := "relSelects", unfollowed := true, recurses := true, apart := false }
def RelSelectsSaid : Prop := relSelectsRow.holds Try.pinned (OpenSpec.ofChange relSelectsSpec)

/-- ITS FALSE NEIGHBOUR: 'it returns false'. Refute it at one input. -/
def relSelectsWrong : ChangeSpec := { name := "relSelects", fn := fun _ => fun
  | [d1, d2, d3] => { results := [.lit (.bool false)], args := [d1, d2, d3] }
  | _ => none }
def RelSelectsWrongFalsely : Prop := relSelectsRow.holds Try.pinned (OpenSpec.ofChange relSelectsWrong)

/-- 'arboristlaw02.RelNone': WHATEVER THE INPUT: true; the input reads as it did. -/
def relNoneSpec : ChangeSpec := { name := "relNone", fn := fun _ => fun
  | [d1, d2, d3, d4, d5] => { results := [.lit (.bool true)], args := [d1, d2, d3, d4, d5] }
  | _ => none }
def relNoneRow : OpenClaim := { program := "ytlinhcgggfdlpaa", sum := "61c8ae2330e57524c8c4708bfd74347108f6baf8e95803a2912970baf7379005", func := "arborist/arboristlaw02.RelNone", spec := "relNone", unfollowed := true, recurses := true, apart := false }
def RelNoneSaid : Prop := relNoneRow.holds Try.pinned (OpenSpec.ofChange relNoneSpec)

/-- ITS FALSE NEIGHBOUR: 'it returns false'. Refute it at one input. -/
def relNoneWrong : ChangeSpec := { name := "relNone", fn := fun _ => fun
  | [d1, d2, d3, d4, d5] => { results := [.lit (.bool false)], args := [d1, d2, d3, d4, d5] }
  | _ => none }
def RelNoneWrongFalsely : Prop := relNoneRow.holds Try.pinned (OpenSpec.ofChange relNoneWrong)

/- THE SECOND FORM. 'bulk': how many values and letters a reading holds, each counted each time it is reached (what is shared counts as often as it is met; a slice's spare places count too). A statement '..UptoSaid' is the law's where the arguments, and the package variables that the reading takes, are together of bulk at most 1048576: NARROWER than '..Said'. Prove '..Said' where nothing that the law and all that it calls make is longer than what came in: it says more and counts as full. Else prove '..UptoSaid'. A law counts once. -/
mutual
def uptoBulk {H : Type} : DataW H → Nat
  | .lit (.string bytes) => bytes.length + 1
  | .lit _ => 1
  | .nil => 1
  | .ptr d => uptoBulk d + 1
  | .slice elems spare => uptoBulkAll elems + uptoBulkAll spare + 1
  | .agg parts => uptoBulkAll parts + 1
  | .iface _ d => uptoBulk d + 1
  | .map entries => uptoBulkEntries entries + 1
  | .held _ => 1
def uptoBulkAll {H : Type} : List (DataW H) → Nat
  | [] => 0
  | d :: r => uptoBulk d + uptoBulkAll r
def uptoBulkEntries {H : Type} : List (Lit × DataW H) → Nat
  | [] => 0
  | x :: r => uptoBulkEntry x + uptoBulkEntries r
def uptoBulkEntry {H : Type} : Lit × DataW H → Nat
  | (.string bytes, d) => bytes.length + uptoBulk d + 1
  | (_, d) => uptoBulk d + 1
 end
def uptoSmall : (H : Type) → List (DataW H) → Bool := fun _ ds => decide (uptoBulkAll ds ≤ 1048576)
def OpenSpec.upto (s : _root_.Go.ChangeSpec) : _root_.Go.OpenSpec := { _root_.Go.OpenSpec.ofChange s with cond := some uptoSmall }

/-- 'arboristlaw02.RelMakes', WHERE WHAT IT READS IS OF BULK AT MOST 1048576: true; the input reads as it did. -/
def relMakesUptoRow : OpenClaim := { program := "ytlinhcgggfdlpaa", sum := "61c8ae2330e57524c8c4708bfd74347108f6baf8e95803a2912970baf7379005", func := "arborist/arboristlaw02.RelMakes", spec := "relMakes", unfollowed := true, recurses := true, apart := false, narrowed := true }
def RelMakesUptoSaid : Prop := relMakesUptoRow.holds Try.pinned (OpenSpec.upto relMakesSpec)

/-- 'arboristlaw02.RelTurned', WHERE WHAT IT READS IS OF BULK AT MOST 1048576: true; the input reads as it did. -/
def relTurnedUptoRow : OpenClaim := { program := "ytlinhcgggfdlpaa", sum := "61c8ae2330e57524c8c4708bfd74347108f6baf8e95803a2912970baf7379005", func := "arborist/arboristlaw02.RelTurned", spec := "relTurned", unfollowed := true, recurses := true, apart := false, narrowed := true }
def RelTurnedUptoSaid : Prop := relTurnedUptoRow.holds Try.pinned (OpenSpec.upto relTurnedSpec)

/-- 'arboristlaw02.RelUnions', WHERE WHAT IT READS IS OF BULK AT MOST 1048576: true; the input reads as it did. -/
def relUnionsUptoRow : OpenClaim := { program := "ytlinhcgggfdlpaa", sum := "61c8ae2330e57524c8c4708bfd74347108f6baf8e95803a2912970baf7379005", func := "arborist/arboristlaw02.RelUnions", spec := "relUnions", unfollowed := true, recurses := true, apart := false, narrowed := true }
def RelUnionsUptoSaid : Prop := relUnionsUptoRow.holds Try.pinned (OpenSpec.upto relUnionsSpec)

/-- 'arboristlaw02.RelUnites', WHERE WHAT IT READS IS OF BULK AT MOST 1048576: true; the input reads as it did. -/
def relUnitesUptoRow : OpenClaim := { program := "ytlinhcgggfdlpaa", sum := "61c8ae2330e57524c8c4708bfd74347108f6baf8e95803a2912970baf7379005", func := "arborist/arboristlaw02.RelUnites", spec := "relUnites", unfollowed := true, recurses := true, apart := false, narrowed := true }
def RelUnitesUptoSaid : Prop := relUnitesUptoRow.holds Try.pinned (OpenSpec.upto relUnitesSpec)

/-- 'arboristlaw02.RelTwice', WHERE WHAT IT READS IS OF BULK AT MOST 1048576: true; the input reads as it did. -/
def relTwiceUptoRow : OpenClaim := { program := "ytlinhcgggfdlpaa", sum := "61c8ae2330e57524c8c4708bfd74347108f6baf8e95803a2912970baf7379005", func := "arborist/arboristlaw02.RelTwice", spec := "relTwice", unfollowed := true, recurses := true, apart := false, narrowed := true }
def RelTwiceUptoSaid : Prop := relTwiceUptoRow.holds Try.pinned (OpenSpec.upto relTwiceSpec)

/-- 'arboristlaw02.RelParts', WHERE WHAT IT READS IS OF BULK AT MOST 1048576: true; the input reads as it did. -/
def relPartsUptoRow : OpenClaim := { program := "ytlinhcgggfdlpaa", sum := "61c8ae2330e57524c8c4708bfd74347108f6baf8e95803a2912970baf7379005", func := "arborist/arboristlaw02.RelParts", spec := "relParts", unfollowed := true, recurses := true, apart := false, narrowed := true }
def RelPartsUptoSaid : Prop := relPartsUptoRow.holds Try.pinned (OpenSpec.upto relPartsSpec)

/-- 'arboristlaw02.RelPasses', WHERE WHAT IT READS IS OF BULK AT MOST 1048576: true; the input reads as it did. -/
def relPassesUptoRow : OpenClaim := { program := "ytlinhcgggfdlpaa", sum := "61c8ae2330e57524c8c4708bfd74347108f6baf8e95803a2912970baf7379005", func := "arborist/arboristlaw02.RelPasses", spec := "relPasses", unfollowed := true, recurses := true, apart := false, narrowed := true }
def RelPassesUptoSaid : Prop := relPassesUptoRow.holds Try.pinned (OpenSpec.upto relPassesSpec)

/-- 'arboristlaw02.RelSelects', WHERE WHAT IT READS IS OF BULK AT MOST 1048576: true; the input reads as it did. -/
def relSelectsUptoRow : OpenClaim := { program := "ytlinhcgggfdlpaa", sum := "61c8ae2330e57524c8c4708bfd74347108f6baf8e95803a2912970baf7379005", func := "arborist/arboristlaw02.RelSelects", spec := "relSelects", unfollowed := true, recurses := true, apart := false, narrowed := true }
def RelSelectsUptoSaid : Prop := relSelectsUptoRow.holds Try.pinned (OpenSpec.upto relSelectsSpec)

/-- 'arboristlaw02.RelNone', WHERE WHAT IT READS IS OF BULK AT MOST 1048576: true; the input reads as it did. -/
def relNoneUptoRow : OpenClaim := { program := "ytlinhcgggfdlpaa", sum := "61c8ae2330e57524c8c4708bfd74347108f6baf8e95803a2912970baf7379005", func := "arborist/arboristlaw02.RelNone", spec := "relNone", unfollowed := true, recurses := true, apart := false, narrowed := true }
def RelNoneUptoSaid : Prop := relNoneUptoRow.holds Try.pinned (OpenSpec.upto relNoneSpec)

end Rows
end Go.Proofs.Ytlinhcgggfdlpaa
