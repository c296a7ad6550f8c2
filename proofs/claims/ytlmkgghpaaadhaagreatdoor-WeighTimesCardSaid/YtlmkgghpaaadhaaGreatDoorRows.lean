/-
  NARROWER THAN 'FOR EVERY INPUT', by the rows' own cells (each row's printed sentence says how): WeighTimes: laid · WeighPhases: laid · WeighSums: laid · WeighParts: laid · WeighOf: laid · WeighSteps: laid · WeighLeast: laid · WeighEdges: laid · WeighRights: laid.
  DERIVED. THE GIVEN ROWS OF THIS SEAT. 9 by the template 'for every input the law returns true; each argument reads behind the call as it read before'; 0 by the template 'total and deterministic' (their statements: YtlmkgghpaaadhaaGreatDoorTotals.lean).
  GIVEN WITH THE SEED: the statements are not yours to turn. If you find one false, say at which input.
  Laid BY PROGRAM, IN A SANDBOX (cutbox-rows.mjs): the forced cells as the released guide's own fill.sh prints them over the translation ebb3710e6218c7e9… (all of the seat's roots in one cut). By AI agents, Wed Nov 11 2026. No macro, syntax, notation, axiom, sorry.
-/
import Derived.Test.YtlmkgghpaaadhaaGreatDoorChecked
import GoSem.Claim
import GoSem.ClaimJoined
import GoSem.ClaimMapViews
import Derived.JoinedTies
import Derived.KernelRfl
namespace Go.Proofs.YtlmkgghpaaadhaaGreatDoor
/- THE CELL 'sum', in the pinned program and in every row, IS THE sha256 OF THE DUMP (.gsa) THAT YtlmkgghpaaadhaaGreatDoorProg.lean LOADS. Nothing in Lean hashes anything: it is a label: what it is worth is what the hold of that sum in a sandbox is worth. -/
noncomputable def Tryz.pinned : Pinned := { name := "ytlmkgghpaaadhaagreatdoor", sum := "ebb3710e6218c7e95d4229e632fffea0b037bf2722ea468c971698ec332cd5d7", checked := Tryz.checked }
namespace Rows
def none {H : Type} : Left H := { results := [], args := [] }

/- WHAT THE LISTED PACKAGE-LEVEL VARIABLES READ AS WHEN THE CALL BEGINS. Each datum BY PROGRAM (the guide's laid-datum.mjs) off the statement by which the dump's own 'gosem.cut.vars' lays the variable. In a bare row this is a premise. The card (YtlmkgghpaaadhaaGreatDoorCards.lean) ties it to the program's text. -/
def laid_math_bits_deBruijn32tab {H : Type} : DataW H := .agg [.lit (.int .u8 0), .lit (.int .u8 1), .lit (.int .u8 28), .lit (.int .u8 2), .lit (.int .u8 29), .lit (.int .u8 14), .lit (.int .u8 24), .lit (.int .u8 3), .lit (.int .u8 30), .lit (.int .u8 22), .lit (.int .u8 20), .lit (.int .u8 15), .lit (.int .u8 25), .lit (.int .u8 17), .lit (.int .u8 4), .lit (.int .u8 8), .lit (.int .u8 31), .lit (.int .u8 27), .lit (.int .u8 13), .lit (.int .u8 23), .lit (.int .u8 21), .lit (.int .u8 19), .lit (.int .u8 16), .lit (.int .u8 7), .lit (.int .u8 26), .lit (.int .u8 12), .lit (.int .u8 18), .lit (.int .u8 6), .lit (.int .u8 11), .lit (.int .u8 5), .lit (.int .u8 10), .lit (.int .u8 9)]
def laid_math_bits_deBruijn64tab {H : Type} : DataW H := .agg [.lit (.int .u8 0), .lit (.int .u8 1), .lit (.int .u8 56), .lit (.int .u8 2), .lit (.int .u8 57), .lit (.int .u8 49), .lit (.int .u8 28), .lit (.int .u8 3), .lit (.int .u8 61), .lit (.int .u8 58), .lit (.int .u8 42), .lit (.int .u8 50), .lit (.int .u8 38), .lit (.int .u8 29), .lit (.int .u8 17), .lit (.int .u8 4), .lit (.int .u8 62), .lit (.int .u8 47), .lit (.int .u8 59), .lit (.int .u8 36), .lit (.int .u8 45), .lit (.int .u8 43), .lit (.int .u8 51), .lit (.int .u8 22), .lit (.int .u8 53), .lit (.int .u8 39), .lit (.int .u8 33), .lit (.int .u8 30), .lit (.int .u8 24), .lit (.int .u8 18), .lit (.int .u8 12), .lit (.int .u8 5), .lit (.int .u8 63), .lit (.int .u8 55), .lit (.int .u8 48), .lit (.int .u8 27), .lit (.int .u8 60), .lit (.int .u8 41), .lit (.int .u8 37), .lit (.int .u8 16), .lit (.int .u8 46), .lit (.int .u8 35), .lit (.int .u8 44), .lit (.int .u8 21), .lit (.int .u8 52), .lit (.int .u8 32), .lit (.int .u8 23), .lit (.int .u8 11), .lit (.int .u8 54), .lit (.int .u8 26), .lit (.int .u8 40), .lit (.int .u8 15), .lit (.int .u8 34), .lit (.int .u8 20), .lit (.int .u8 31), .lit (.int .u8 10), .lit (.int .u8 25), .lit (.int .u8 14), .lit (.int .u8 19), .lit (.int .u8 9), .lit (.int .u8 13), .lit (.int .u8 8), .lit (.int .u8 7), .lit (.int .u8 6)]
def laid_internal_strconv_uint64pow10 {H : Type} : DataW H := .agg [.lit (.int .u64 1), .lit (.int .u64 10), .lit (.int .u64 100), .lit (.int .u64 1000), .lit (.int .u64 10000), .lit (.int .u64 100000), .lit (.int .u64 1000000), .lit (.int .u64 10000000), .lit (.int .u64 100000000), .lit (.int .u64 1000000000), .lit (.int .u64 10000000000), .lit (.int .u64 100000000000), .lit (.int .u64 1000000000000), .lit (.int .u64 10000000000000), .lit (.int .u64 100000000000000), .lit (.int .u64 1000000000000000), .lit (.int .u64 10000000000000000), .lit (.int .u64 100000000000000000), .lit (.int .u64 1000000000000000000), .lit (.int .u64 10000000000000000000)]

/-- 'arboristlaw04.WeighTimes': WHATEVER THE INPUT: true; the input reads as it did. -/
def weighTimesSpec : ChangeSpec := { name := "weighTimes", fn := fun _ => fun
  | [d1, d2, d3] => { results := [.lit (.bool true)], args := [d1, d2, d3] }
  | _ => none }
def weighTimesRow : OpenClaim := { program := "ytlmkgghpaaadhaagreatdoor", sum := "ebb3710e6218c7e95d4229e632fffea0b037bf2722ea468c971698ec332cd5d7", func := "arborist/arboristlaw04.WeighTimes", spec := "weighTimes", inPlace := ["math.Float64bits", "math.Float64frombits", "math.archTrunc"], unfollowed := true, recurses := true, named := ["internal/strconv.uint64pow10", "math/bits.deBruijn32tab", "math/bits.deBruijn64tab"], apart := false, laid := [("math/bits.deBruijn32tab", laid_math_bits_deBruijn32tab), ("math/bits.deBruijn64tab", laid_math_bits_deBruijn64tab), ("internal/strconv.uint64pow10", laid_internal_strconv_uint64pow10)] }
def WeighTimesSaid : Prop := weighTimesRow.holds Tryz.pinned (OpenSpec.ofChange weighTimesSpec)

/-- ITS FALSE NEIGHBOUR: 'it returns false'. Refute it at one input. -/
def weighTimesWrong : ChangeSpec := { name := "weighTimes", fn := fun _ => fun
  | [d1, d2, d3] => { results := [.lit (.bool false)], args := [d1, d2, d3] }
  | _ => none }
def WeighTimesWrongFalsely : Prop := weighTimesRow.holds Tryz.pinned (OpenSpec.ofChange weighTimesWrong)

/-- 'arboristlaw04.WeighPhases': WHATEVER THE INPUT: true; the input reads as it did. -/
def weighPhasesSpec : ChangeSpec := { name := "weighPhases", fn := fun _ => fun
  | [d1, d2, d3, d4] => { results := [.lit (.bool true)], args := [d1, d2, d3, d4] }
  | _ => none }
def weighPhasesRow : OpenClaim := { program := "ytlmkgghpaaadhaagreatdoor", sum := "ebb3710e6218c7e95d4229e632fffea0b037bf2722ea468c971698ec332cd5d7", func := "arborist/arboristlaw04.WeighPhases", spec := "weighPhases", inPlace := ["math.Float64bits", "math.Float64frombits", "math.archTrunc"], unfollowed := true, recurses := true, named := ["internal/strconv.uint64pow10", "math/bits.deBruijn32tab", "math/bits.deBruijn64tab"], apart := false, laid := [("math/bits.deBruijn32tab", laid_math_bits_deBruijn32tab), ("math/bits.deBruijn64tab", laid_math_bits_deBruijn64tab), ("internal/strconv.uint64pow10", laid_internal_strconv_uint64pow10)] }
def WeighPhasesSaid : Prop := weighPhasesRow.holds Tryz.pinned (OpenSpec.ofChange weighPhasesSpec)

/-- ITS FALSE NEIGHBOUR: 'it returns false'. Refute it at one input. -/
def weighPhasesWrong : ChangeSpec := { name := "weighPhases", fn := fun _ => fun
  | [d1, d2, d3, d4] => { results := [.lit (.bool false)], args := [d1, d2, d3, d4] }
  | _ => none }
def WeighPhasesWrongFalsely : Prop := weighPhasesRow.holds Tryz.pinned (OpenSpec.ofChange weighPhasesWrong)

/-- 'arboristlaw04.WeighSums': WHATEVER THE INPUT: true; the input reads as it did. -/
def weighSumsSpec : ChangeSpec := { name := "weighSums", fn := fun _ => fun
  | [d1, d2] => { results := [.lit (.bool true)], args := [d1, d2] }
  | _ => none }
def weighSumsRow : OpenClaim := { program := "ytlmkgghpaaadhaagreatdoor", sum := "ebb3710e6218c7e95d4229e632fffea0b037bf2722ea468c971698ec332cd5d7", func := "arborist/arboristlaw04.WeighSums", spec := "weighSums", inPlace := ["math.Float64bits", "math.Float64frombits", "math.archTrunc"], unfollowed := true, recurses := true, named := ["internal/strconv.uint64pow10", "math/bits.deBruijn32tab", "math/bits.deBruijn64tab"], apart := false, laid := [("math/bits.deBruijn32tab", laid_math_bits_deBruijn32tab), ("math/bits.deBruijn64tab", laid_math_bits_deBruijn64tab), ("internal/strconv.uint64pow10", laid_internal_strconv_uint64pow10)] }
def WeighSumsSaid : Prop := weighSumsRow.holds Tryz.pinned (OpenSpec.ofChange weighSumsSpec)

/-- ITS FALSE NEIGHBOUR: 'it returns false'. Refute it at one input. -/
def weighSumsWrong : ChangeSpec := { name := "weighSums", fn := fun _ => fun
  | [d1, d2] => { results := [.lit (.bool false)], args := [d1, d2] }
  | _ => none }
def WeighSumsWrongFalsely : Prop := weighSumsRow.holds Tryz.pinned (OpenSpec.ofChange weighSumsWrong)

/-- 'arboristlaw04.WeighParts': WHATEVER THE INPUT: true; the input reads as it did. -/
def weighPartsSpec : ChangeSpec := { name := "weighParts", fn := fun _ => fun
  | [d1, d2] => { results := [.lit (.bool true)], args := [d1, d2] }
  | _ => none }
def weighPartsRow : OpenClaim := { program := "ytlmkgghpaaadhaagreatdoor", sum := "ebb3710e6218c7e95d4229e632fffea0b037bf2722ea468c971698ec332cd5d7", func := "arborist/arboristlaw04.WeighParts", spec := "weighParts", inPlace := ["math.Float64bits", "math.Float64frombits", "math.archTrunc"], unfollowed := true, recurses := true, named := ["internal/strconv.uint64pow10", "math/bits.deBruijn32tab", "math/bits.deBruijn64tab"], apart := false, laid := [("math/bits.deBruijn32tab", laid_math_bits_deBruijn32tab), ("math/bits.deBruijn64tab", laid_math_bits_deBruijn64tab), ("internal/strconv.uint64pow10", laid_internal_strconv_uint64pow10)] }
def WeighPartsSaid : Prop := weighPartsRow.holds Tryz.pinned (OpenSpec.ofChange weighPartsSpec)

/-- ITS FALSE NEIGHBOUR: 'it returns false'. Refute it at one input. -/
def weighPartsWrong : ChangeSpec := { name := "weighParts", fn := fun _ => fun
  | [d1, d2] => { results := [.lit (.bool false)], args := [d1, d2] }
  | _ => none }
def WeighPartsWrongFalsely : Prop := weighPartsRow.holds Tryz.pinned (OpenSpec.ofChange weighPartsWrong)

/-- 'arboristlaw04.WeighOf': WHATEVER THE INPUT: true; the input reads as it did. -/
def weighOfSpec : ChangeSpec := { name := "weighOf", fn := fun _ => fun
  | [d1, d2] => { results := [.lit (.bool true)], args := [d1, d2] }
  | _ => none }
def weighOfRow : OpenClaim := { program := "ytlmkgghpaaadhaagreatdoor", sum := "ebb3710e6218c7e95d4229e632fffea0b037bf2722ea468c971698ec332cd5d7", func := "arborist/arboristlaw04.WeighOf", spec := "weighOf", inPlace := ["math.Float64bits", "math.Float64frombits", "math.archTrunc"], unfollowed := true, recurses := true, named := ["internal/strconv.uint64pow10", "math/bits.deBruijn32tab", "math/bits.deBruijn64tab"], apart := false, laid := [("math/bits.deBruijn32tab", laid_math_bits_deBruijn32tab), ("math/bits.deBruijn64tab", laid_math_bits_deBruijn64tab), ("internal/strconv.uint64pow10", laid_internal_strconv_uint64pow10)] }
def WeighOfSaid : Prop := weighOfRow.holds Tryz.pinned (OpenSpec.ofChange weighOfSpec)

/-- ITS FALSE NEIGHBOUR: 'it returns false'. Refute it at one input. -/
def weighOfWrong : ChangeSpec := { name := "weighOf", fn := fun _ => fun
  | [d1, d2] => { results := [.lit (.bool false)], args := [d1, d2] }
  | _ => none }
def WeighOfWrongFalsely : Prop := weighOfRow.holds Tryz.pinned (OpenSpec.ofChange weighOfWrong)

/-- 'arboristlaw04.WeighSteps': WHATEVER THE INPUT: true; the input reads as it did. -/
def weighStepsSpec : ChangeSpec := { name := "weighSteps", fn := fun _ => fun
  | [d1, d2] => { results := [.lit (.bool true)], args := [d1, d2] }
  | _ => none }
def weighStepsRow : OpenClaim := { program := "ytlmkgghpaaadhaagreatdoor", sum := "ebb3710e6218c7e95d4229e632fffea0b037bf2722ea468c971698ec332cd5d7", func := "arborist/arboristlaw04.WeighSteps", spec := "weighSteps", inPlace := ["math.Float64bits", "math.Float64frombits", "math.archTrunc"], unfollowed := true, recurses := true, named := ["internal/strconv.uint64pow10", "math/bits.deBruijn32tab", "math/bits.deBruijn64tab"], apart := false, laid := [("math/bits.deBruijn32tab", laid_math_bits_deBruijn32tab), ("math/bits.deBruijn64tab", laid_math_bits_deBruijn64tab), ("internal/strconv.uint64pow10", laid_internal_strconv_uint64pow10)] }
def WeighStepsSaid : Prop := weighStepsRow.holds Tryz.pinned (OpenSpec.ofChange weighStepsSpec)

/-- ITS FALSE NEIGHBOUR: 'it returns false'. Refute it at one input. -/
def weighStepsWrong : ChangeSpec := { name := "weighSteps", fn := fun _ => fun
  | [d1, d2] => { results := [.lit (.bool false)], args := [d1, d2] }
  | _ => none }
def WeighStepsWrongFalsely : Prop := weighStepsRow.holds Tryz.pinned (OpenSpec.ofChange weighStepsWrong)

/-- 'arboristlaw04.WeighLeast': WHATEVER THE INPUT: true; the input reads as it did. -/
def weighLeastSpec : ChangeSpec := { name := "weighLeast", fn := fun _ => fun
  | [d1, d2] => { results := [.lit (.bool true)], args := [d1, d2] }
  | _ => none }
def weighLeastRow : OpenClaim := { program := "ytlmkgghpaaadhaagreatdoor", sum := "ebb3710e6218c7e95d4229e632fffea0b037bf2722ea468c971698ec332cd5d7", func := "arborist/arboristlaw04.WeighLeast", spec := "weighLeast", inPlace := ["math.Float64bits", "math.Float64frombits", "math.archTrunc"], unfollowed := true, recurses := true, named := ["internal/strconv.uint64pow10", "math/bits.deBruijn32tab", "math/bits.deBruijn64tab"], apart := false, laid := [("math/bits.deBruijn32tab", laid_math_bits_deBruijn32tab), ("math/bits.deBruijn64tab", laid_math_bits_deBruijn64tab), ("internal/strconv.uint64pow10", laid_internal_strconv_uint64pow10)] }
def WeighLeastSaid : Prop := weighLeastRow.holds Tryz.pinned (OpenSpec.ofChange weighLeastSpec)

/-- ITS FALSE NEIGHBOUR: 'it returns false'. Refute it at one input. -/
def weighLeastWrong : ChangeSpec := { name := "weighLeast", fn := fun _ => fun
  | [d1, d2] => { results := [.lit (.bool false)], args := [d1, d2] }
  | _ => none }
def WeighLeastWrongFalsely : Prop := weighLeastRow.holds Tryz.pinned (OpenSpec.ofChange weighLeastWrong)

/-- 'arboristlaw04.WeighEdges': WHATEVER THE INPUT: true; the input reads as it did. -/
def weighEdgesSpec : ChangeSpec := { name := "weighEdges", fn := fun _ => fun
  | [d1, d2] => { results := [.lit (.bool true)], args := [d1, d2] }
  | _ => none }
def weighEdgesRow : OpenClaim := { program := "ytlmkgghpaaadhaagreatdoor", sum := "ebb3710e6218c7e95d4229e632fffea0b037bf2722ea468c971698ec332cd5d7", func := "arborist/arboristlaw04.WeighEdges", spec := "weighEdges", inPlace := ["math.Float64bits", "math.Float64frombits", "math.archTrunc"], unfollowed := true, recurses := true, named := ["internal/strconv.uint64pow10", "math/bits.deBruijn32tab", "math/bits.deBruijn64tab"], apart := false, laid := [("math/bits.deBruijn32tab", laid_math_bits_deBruijn32tab), ("math/bits.deBruijn64tab", laid_math_bits_deBruijn64tab), ("internal/strconv.uint64pow10", laid_internal_strconv_uint64pow10)] }
def WeighEdgesSaid : Prop := weighEdgesRow.holds Tryz.pinned (OpenSpec.ofChange weighEdgesSpec)

/-- ITS FALSE NEIGHBOUR: 'it returns false'. Refute it at one input. -/
def weighEdgesWrong : ChangeSpec := { name := "weighEdges", fn := fun _ => fun
  | [d1, d2] => { results := [.lit (.bool false)], args := [d1, d2] }
  | _ => none }
def WeighEdgesWrongFalsely : Prop := weighEdgesRow.holds Tryz.pinned (OpenSpec.ofChange weighEdgesWrong)

/-- 'arboristlaw04.WeighRights': WHATEVER THE INPUT: true; the input reads as it did. -/
def weighRightsSpec : ChangeSpec := { name := "weighRights", fn := fun _ => fun
  | [d1, d2, d3] => { results := [.lit (.bool true)], args := [d1, d2, d3] }
  | _ => none }
def weighRightsRow : OpenClaim := { program := "ytlmkgghpaaadhaagreatdoor", sum := "ebb3710e6218c7e95d4229e632fffea0b037bf2722ea468c971698ec332cd5d7", func := "arborist/arboristlaw04.WeighRights", spec := "weighRights", inPlace := ["math.Float64bits", "math.Float64frombits", "math.archTrunc"], unfollowed := true, recurses := true, named := ["internal/strconv.uint64pow10", "math/bits.deBruijn32tab", "math/bits.deBruijn64tab"], apart := false, laid := [("math/bits.deBruijn32tab", laid_math_bits_deBruijn32tab), ("math/bits.deBruijn64tab", laid_math_bits_deBruijn64tab), ("internal/strconv.uint64pow10", laid_internal_strconv_uint64pow10)] }
def WeighRightsSaid : Prop := weighRightsRow.holds Tryz.pinned (OpenSpec.ofChange weighRightsSpec)

/-- ITS FALSE NEIGHBOUR: 'it returns false'. Refute it at one input. -/
def weighRightsWrong : ChangeSpec := { name := "weighRights", fn := fun _ => fun
  | [d1, d2, d3] => { results := [.lit (.bool false)], args := [d1, d2, d3] }
  | _ => none }
def WeighRightsWrongFalsely : Prop := weighRightsRow.holds Tryz.pinned (OpenSpec.ofChange weighRightsWrong)

/- THE SECOND FORM. 'bulk': how many values and letters a reading holds, each counted each time it is reached (what is shared counts as often as it is met; a slice's spare places count too). A statement '..UptoSaid' is the law's where the arguments, and the package variables that the reading takes, are together of bulk at most 1048576: NARROWER than '..Said'. Prove '..Said' where nothing that the law and all that it calls make is longer than what came in: it says more and counts as full. Else prove '..UptoSaid'. A law counts once. -/
mutual
def uptoBulk {H : Type} : DataW H → Nat
  | .lit (.string bytes) => bytes.length + 1
  | .lit _ => 1
  | .nil => 1
  | .ptr d => uptoBulk d + 1
  | .slice elems spare => uptoBulkAll elems + uptoBulkAll spare + 1
  | .agg parts => uptoBulkAll parts + 1
  | .iface _ d => uptoBulk d + 1
  | .map entries => uptoBulkEntries entries + 1
  | .held _ => 1
def uptoBulkAll {H : Type} : List (DataW H) → Nat
  | [] => 0
  | d :: r => uptoBulk d + uptoBulkAll r
def uptoBulkEntries {H : Type} : List (Lit × DataW H) → Nat
  | [] => 0
  | x :: r => uptoBulkEntry x + uptoBulkEntries r
def uptoBulkEntry {H : Type} : Lit × DataW H → Nat
  | (.string bytes, d) => bytes.length + uptoBulk d + 1
  | (_, d) => uptoBulk d + 1
 end
def uptoSmall : (H : Type) → List (DataW H) → Bool := fun _ ds => decide (uptoBulkAll ds ≤ 1048576)
def OpenSpec.upto (s : _root_.Go.ChangeSpec) : _root_.Go.OpenSpec := { _root_.Go.OpenSpec.ofChange s with cond := some uptoSmall }

/-- 'arboristlaw04.WeighTimes', WHERE WHAT IT READS IS OF BULK AT MOST 1048576: true; the input reads as it did. -/
def weighTimesUptoRow : OpenClaim := { program := "ytlmkgghpaaadhaagreatdoor", sum := "ebb3710e6218c7e95d4229e632fffea0b037bf2722ea468c971698ec332cd5d7", func := "arborist/arboristlaw04.WeighTimes", spec := "weighTimes", inPlace := ["math.Float64bits", "math.Float64frombits", "math.archTrunc"], unfollowed := true, recurses := true, named := ["internal/strconv.uint64pow10", "math/bits.deBruijn32tab", "math/bits.deBruijn64tab"], apart := false, laid := [("math/bits.deBruijn32tab", laid_math_bits_deBruijn32tab), ("math/bits.deBruijn64tab", laid_math_bits_deBruijn64tab), ("internal/strconv.uint64pow10", laid_internal_strconv_uint64pow10)], narrowed := true }
def WeighTimesUptoSaid : Prop := weighTimesUptoRow.holds Tryz.pinned (OpenSpec.upto weighTimesSpec)

/-- 'arboristlaw04.WeighPhases', WHERE WHAT IT READS IS OF BULK AT MOST 1048576: true; the input reads as it did. -/
def weighPhasesUptoRow : OpenClaim := { program := "ytlmkgghpaaadhaagreatdoor", sum := "ebb3710e6218c7e95d4229e632fffea0b037bf2722ea468c971698ec332cd5d7", func := "arborist/arboristlaw04.WeighPhases", spec := "weighPhases", inPlace := ["math.Float64bits", "math.Float64frombits", "math.archTrunc"], unfollowed := true, recurses := true, named := ["internal/strconv.uint64pow10", "math/bits.deBruijn32tab", "math/bits.deBruijn64tab"], apart := false, laid := [("math/bits.deBruijn32tab", laid_math_bits_deBruijn32tab), ("math/bits.deBruijn64tab", laid_math_bits_deBruijn64tab), ("internal/strconv.uint64pow10", laid_internal_strconv_uint64pow10)], narrowed := true }
def WeighPhasesUptoSaid : Prop := weighPhasesUptoRow.holds Tryz.pinned (OpenSpec.upto weighPhasesSpec)

/-- 'arboristlaw04.WeighSums', WHERE WHAT IT READS IS OF BULK AT MOST 1048576: true; the input reads as it did. -/
def weighSumsUptoRow : OpenClaim := { program := "ytlmkgghpaaadhaagreatdoor", sum := "ebb3710e6218c7e95d4229e632fffea0b037bf2722ea468c971698ec332cd5d7", func := "arborist/arboristlaw04.WeighSums", spec := "weighSums", inPlace := ["math.Float64bits", "math.Float64frombits", "math.archTrunc"], unfollowed := true, recurses := true, named := ["internal/strconv.uint64pow10", "math/bits.deBruijn32tab", "math/bits.deBruijn64tab"], apart := false, laid := [("math/bits.deBruijn32tab", laid_math_bits_deBruijn32tab), ("math/bits.deBruijn64tab", laid_math_bits_deBruijn64tab), ("internal/strconv.uint64pow10", laid_internal_strconv_uint64pow10)], narrowed := true }
def WeighSumsUptoSaid : Prop := weighSumsUptoRow.holds Tryz.pinned (OpenSpec.upto weighSumsSpec)

/-- 'arboristlaw04.WeighParts', WHERE WHAT IT READS IS OF BULK AT MOST 1048576: true; the input reads as it did. -/
def weighPartsUptoRow : OpenClaim := { program := "ytlmkgghpaaadhaagreatdoor", sum := "ebb3710e6218c7e95d4229e632fffea0b037bf2722ea468c971698ec332cd5d7", func := "arborist/arboristlaw04.WeighParts", spec := "weighParts", inPlace := ["math.Float64bits", "math.Float64frombits", "math.archTrunc"], unfollowed := true, recurses := true, named := ["internal/strconv.uint64pow10", "math/bits.deBruijn32tab", "math/bits.deBruijn64tab"], apart := false, laid := [("math/bits.deBruijn32tab", laid_math_bits_deBruijn32tab), ("math/bits.deBruijn64tab", laid_math_bits_deBruijn64tab), ("internal/strconv.uint64pow10", laid_internal_strconv_uint64pow10)], narrowed := true }
def WeighPartsUptoSaid : Prop := weighPartsUptoRow.holds Tryz.pinned (OpenSpec.upto weighPartsSpec)

/-- 'arboristlaw04.WeighOf', WHERE WHAT IT READS IS OF BULK AT MOST 1048576: true; the input reads as it did. -/
def weighOfUptoRow : OpenClaim := { program := "ytlmkgghpaaadhaagreatdoor", sum := "ebb3710e6218c7e95d4229e632fffea0b037bf2722ea468c971698ec332cd5d7", func := "arborist/arboristlaw04.WeighOf", spec := "weighOf", inPlace := ["math.Float64bits", "math.Float64frombits", "math.archTrunc"], unfollowed := true, recurses := true, named := ["internal/strconv.uint64pow10", "math/bits.deBruijn32tab", "math/bits.deBruijn64tab"], apart := false, laid := [("math/bits.deBruijn32tab", laid_math_bits_deBruijn32tab), ("math/bits.deBruijn64tab", laid_math_bits_deBruijn64tab), ("internal/strconv.uint64pow10", laid_internal_strconv_uint64pow10)], narrowed := true }
def WeighOfUptoSaid : Prop := weighOfUptoRow.holds Tryz.pinned (OpenSpec.upto weighOfSpec)

/-- 'arboristlaw04.WeighSteps', WHERE WHAT IT READS IS OF BULK AT MOST 1048576: true; the input reads as it did. -/
def weighStepsUptoRow : OpenClaim := { program := "ytlmkgghpaaadhaagreatdoor", sum := "ebb3710e6218c7e95d4229e632fffea0b037bf2722ea468c971698ec332cd5d7", func := "arborist/arboristlaw04.WeighSteps", spec := "weighSteps", inPlace := ["math.Float64bits", "math.Float64frombits", "math.archTrunc"], unfollowed := true, recurses := true, named := ["internal/strconv.uint64pow10", "math/bits.deBruijn32tab", "math/bits.deBruijn64tab"], apart := false, laid := [("math/bits.deBruijn32tab", laid_math_bits_deBruijn32tab), ("math/bits.deBruijn64tab", laid_math_bits_deBruijn64tab), ("internal/strconv.uint64pow10", laid_internal_strconv_uint64pow10)], narrowed := true }
def WeighStepsUptoSaid : Prop := weighStepsUptoRow.holds Tryz.pinned (OpenSpec.upto weighStepsSpec)

/-- 'arboristlaw04.WeighLeast', WHERE WHAT IT READS IS OF BULK AT MOST 1048576: true; the input reads as it did. -/
def weighLeastUptoRow : OpenClaim := { program := "ytlmkgghpaaadhaagreatdoor", sum := "ebb3710e6218c7e95d4229e632fffea0b037bf2722ea468c971698ec332cd5d7", func := "arborist/arboristlaw04.WeighLeast", spec := "weighLeast", inPlace := ["math.Float64bits", "math.Float64frombits", "math.archTrunc"], unfollowed := true, recurses := true, named := ["internal/strconv.uint64pow10", "math/bits.deBruijn32tab", "math/bits.deBruijn64tab"], apart := false, laid := [("math/bits.deBruijn32tab", laid_math_bits_deBruijn32tab), ("math/bits.deBruijn64tab", laid_math_bits_deBruijn64tab), ("internal/strconv.uint64pow10", laid_internal_strconv_uint64pow10)], narrowed := true }
def WeighLeastUptoSaid : Prop := weighLeastUptoRow.holds Tryz.pinned (OpenSpec.upto weighLeastSpec)

/-- 'arboristlaw04.WeighEdges', WHERE WHAT IT READS IS OF BULK AT MOST 1048576: true; the input reads as it did. -/
def weighEdgesUptoRow : OpenClaim := { program := "ytlmkgghpaaadhaagreatdoor", sum := "ebb3710e6218c7e95d4229e632fffea0b037bf2722ea468c971698ec332cd5d7", func := "arborist/arboristlaw04.WeighEdges", spec := "weighEdges", inPlace := ["math.Float64bits", "math.Float64frombits", "math.archTrunc"], unfollowed := true, recurses := true, named := ["internal/strconv.uint64pow10", "math/bits.deBruijn32tab", "math/bits.deBruijn64tab"], apart := false, laid := [("math/bits.deBruijn32tab", laid_math_bits_deBruijn32tab), ("math/bits.deBruijn64tab", laid_math_bits_deBruijn64tab), ("internal/strconv.uint64pow10", laid_internal_strconv_uint64pow10)], narrowed := true }
def WeighEdgesUptoSaid : Prop := weighEdgesUptoRow.holds Tryz.pinned (OpenSpec.upto weighEdgesSpec)

/-- 'arboristlaw04.WeighRights', WHERE WHAT IT READS IS OF BULK AT MOST 1048576: true; the input reads as it did. -/
def weighRightsUptoRow : OpenClaim := { program := "ytlmkgghpaaadhaagreatdoor", sum := "ebb3710e6218c7e95d4229e632fffea0b037bf2722ea468c971698ec332cd5d7", func := "arborist/arboristlaw04.WeighRights", spec := "weighRights", inPlace := ["math.Float64bits", "math.Float64frombits", "math.archTrunc"], unfollowed := true, recurses := true, named := ["internal/strconv.uint64pow10", "math/bits.deBruijn32tab", "math/bits.deBruijn64tab"], apart := false, laid := [("math/bits.deBruijn32tab", laid_math_bits_deBruijn32tab), ("math/bits.deBruijn64tab", laid_math_bits_deBruijn64tab), ("internal/strconv.uint64pow10", laid_internal_strconv_uint64pow10)], narrowed := true }
def WeighRightsUptoSaid : Prop := weighRightsUptoRow.holds Tryz.pinned (OpenSpec.upto weighRightsSpec)

end Rows
end Go.Proofs.YtlmkgghpaaadhaaGreatDoor
