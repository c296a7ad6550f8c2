/-
  NARROWER THAN 'FOR EVERY INPUT', by the rows' own cells (each row's printed sentence says how): JoinSemi: laid · JoinAgrees: laid · JoinNone: laid · JoinParts: laid · JoinAll: laid · JoinOrder: laid · JoinUnit: laid · JoinCuts: laid.
  DERIVED. THE GIVEN ROWS OF THIS SEAT. 8 by the template 'for every input the law returns true; each argument reads behind the call as it read before'; 0 by the template 'total and deterministic' (their statements: YtnmonjincnlhiaaDoorTotals.lean).
  GIVEN WITH THE SEED: the statements are not yours to turn. If you find one false, say at which input.
  Laid BY PROGRAM, IN A SANDBOX (cutbox-rows.mjs): the forced cells as the released guide's own fill.sh prints them over the translation a8140a695ee66cba… (all of the seat's roots in one cut). By AI agents, Wed Nov 11 2026. No macro, syntax, notation, axiom, sorry.
-/
import Derived.Test.YtnmonjincnlhiaaDoorChecked
import GoSem.Claim
import GoSem.ClaimJoined
import GoSem.ClaimMapViews
import Derived.JoinedTies
import Derived.KernelRfl
namespace Go.Proofs.YtnmonjincnlhiaaDoor
/- THE CELL 'sum', in the pinned program and in every row, IS THE sha256 OF THE DUMP (.gsa) THAT YtnmonjincnlhiaaDoorProg.lean LOADS. Nothing in Lean hashes anything: it is a label: what it is worth is what the hold of that sum in a sandbox is worth. -/
noncomputable def Tryd.pinned : Pinned := { name := "ytnmonjincnlhiaadoor", sum := "a8140a695ee66cbad58c9f559d14967f163c696823424a0a9f77327d95ae33f9", checked := Tryd.checked }
namespace Rows
def none {H : Type} : Left H := { results := [], args := [] }

/- WHAT THE LISTED PACKAGE-LEVEL VARIABLES READ AS WHEN THE CALL BEGINS. Each datum BY PROGRAM (the guide's laid-datum.mjs) off the statement by which the dump's own 'gosem.cut.vars' lays the variable. In a bare row this is a premise. The card (YtnmonjincnlhiaaDoorCards.lean) ties it to the program's text. -/
def laid_math_bits_deBruijn32tab {H : Type} : DataW H := .agg [.lit (.int .u8 0), .lit (.int .u8 1), .lit (.int .u8 28), .lit (.int .u8 2), .lit (.int .u8 29), .lit (.int .u8 14), .lit (.int .u8 24), .lit (.int .u8 3), .lit (.int .u8 30), .lit (.int .u8 22), .lit (.int .u8 20), .lit (.int .u8 15), .lit (.int .u8 25), .lit (.int .u8 17), .lit (.int .u8 4), .lit (.int .u8 8), .lit (.int .u8 31), .lit (.int .u8 27), .lit (.int .u8 13), .lit (.int .u8 23), .lit (.int .u8 21), .lit (.int .u8 19), .lit (.int .u8 16), .lit (.int .u8 7), .lit (.int .u8 26), .lit (.int .u8 12), .lit (.int .u8 18), .lit (.int .u8 6), .lit (.int .u8 11), .lit (.int .u8 5), .lit (.int .u8 10), .lit (.int .u8 9)]
def laid_math_bits_deBruijn64tab {H : Type} : DataW H := .agg [.lit (.int .u8 0), .lit (.int .u8 1), .lit (.int .u8 56), .lit (.int .u8 2), .lit (.int .u8 57), .lit (.int .u8 49), .lit (.int .u8 28), .lit (.int .u8 3), .lit (.int .u8 61), .lit (.int .u8 58), .lit (.int .u8 42), .lit (.int .u8 50), .lit (.int .u8 38), .lit (.int .u8 29), .lit (.int .u8 17), .lit (.int .u8 4), .lit (.int .u8 62), .lit (.int .u8 47), .lit (.int .u8 59), .lit (.int .u8 36), .lit (.int .u8 45), .lit (.int .u8 43), .lit (.int .u8 51), .lit (.int .u8 22), .lit (.int .u8 53), .lit (.int .u8 39), .lit (.int .u8 33), .lit (.int .u8 30), .lit (.int .u8 24), .lit (.int .u8 18), .lit (.int .u8 12), .lit (.int .u8 5), .lit (.int .u8 63), .lit (.int .u8 55), .lit (.int .u8 48), .lit (.int .u8 27), .lit (.int .u8 60), .lit (.int .u8 41), .lit (.int .u8 37), .lit (.int .u8 16), .lit (.int .u8 46), .lit (.int .u8 35), .lit (.int .u8 44), .lit (.int .u8 21), .lit (.int .u8 52), .lit (.int .u8 32), .lit (.int .u8 23), .lit (.int .u8 11), .lit (.int .u8 54), .lit (.int .u8 26), .lit (.int .u8 40), .lit (.int .u8 15), .lit (.int .u8 34), .lit (.int .u8 20), .lit (.int .u8 31), .lit (.int .u8 10), .lit (.int .u8 25), .lit (.int .u8 14), .lit (.int .u8 19), .lit (.int .u8 9), .lit (.int .u8 13), .lit (.int .u8 8), .lit (.int .u8 7), .lit (.int .u8 6)]
def laid_internal_strconv_uint64pow10 {H : Type} : DataW H := .agg [.lit (.int .u64 1), .lit (.int .u64 10), .lit (.int .u64 100), .lit (.int .u64 1000), .lit (.int .u64 10000), .lit (.int .u64 100000), .lit (.int .u64 1000000), .lit (.int .u64 10000000), .lit (.int .u64 100000000), .lit (.int .u64 1000000000), .lit (.int .u64 10000000000), .lit (.int .u64 100000000000), .lit (.int .u64 1000000000000), .lit (.int .u64 10000000000000), .lit (.int .u64 100000000000000), .lit (.int .u64 1000000000000000), .lit (.int .u64 10000000000000000), .lit (.int .u64 100000000000000000), .lit (.int .u64 1000000000000000000), .lit (.int .u64 10000000000000000000)]

/-- 'arboristlaw03.JoinSemi': WHATEVER THE INPUT: true; the input reads as it did. -/
def joinSemiSpec : ChangeSpec := { name := "joinSemi", fn := fun _ => fun
  | [d1, d2] => { results := [.lit (.bool true)], args := [d1, d2] }
  | _ => none }
def joinSemiRow : OpenClaim := { program := "ytnmonjincnlhiaadoor", sum := "a8140a695ee66cbad58c9f559d14967f163c696823424a0a9f77327d95ae33f9", func := "arborist/arboristlaw03.JoinSemi", spec := "joinSemi", unfollowed := true, recurses := true, named := ["internal/strconv.uint64pow10", "math/bits.deBruijn32tab", "math/bits.deBruijn64tab"], apart := false, laid := [("math/bits.deBruijn32tab", laid_math_bits_deBruijn32tab), ("math/bits.deBruijn64tab", laid_math_bits_deBruijn64tab), ("internal/strconv.uint64pow10", laid_internal_strconv_uint64pow10)] }
def JoinSemiSaid : Prop := joinSemiRow.holds Tryd.pinned (OpenSpec.ofChange joinSemiSpec)

/-- ITS FALSE NEIGHBOUR: 'it returns false'. Refute it at one input. -/
def joinSemiWrong : ChangeSpec := { name := "joinSemi", fn := fun _ => fun
  | [d1, d2] => { results := [.lit (.bool false)], args := [d1, d2] }
  | _ => none }
def JoinSemiWrongFalsely : Prop := joinSemiRow.holds Tryd.pinned (OpenSpec.ofChange joinSemiWrong)

/-- 'arboristlaw03.JoinAgrees': WHATEVER THE INPUT: true; the input reads as it did. -/
def joinAgreesSpec : ChangeSpec := { name := "joinAgrees", fn := fun _ => fun
  | [d1, d2] => { results := [.lit (.bool true)], args := [d1, d2] }
  | _ => none }
def joinAgreesRow : OpenClaim := { program := "ytnmonjincnlhiaadoor", sum := "a8140a695ee66cbad58c9f559d14967f163c696823424a0a9f77327d95ae33f9", func := "arborist/arboristlaw03.JoinAgrees", spec := "joinAgrees", unfollowed := true, recurses := true, named := ["internal/strconv.uint64pow10", "math/bits.deBruijn32tab", "math/bits.deBruijn64tab"], apart := false, laid := [("math/bits.deBruijn32tab", laid_math_bits_deBruijn32tab), ("math/bits.deBruijn64tab", laid_math_bits_deBruijn64tab), ("internal/strconv.uint64pow10", laid_internal_strconv_uint64pow10)] }
def JoinAgreesSaid : Prop := joinAgreesRow.holds Tryd.pinned (OpenSpec.ofChange joinAgreesSpec)

/-- ITS FALSE NEIGHBOUR: 'it returns false'. Refute it at one input. -/
def joinAgreesWrong : ChangeSpec := { name := "joinAgrees", fn := fun _ => fun
  | [d1, d2] => { results := [.lit (.bool false)], args := [d1, d2] }
  | _ => none }
def JoinAgreesWrongFalsely : Prop := joinAgreesRow.holds Tryd.pinned (OpenSpec.ofChange joinAgreesWrong)

/-- 'arboristlaw03.JoinNone': WHATEVER THE INPUT: true; the input reads as it did. -/
def joinNoneSpec : ChangeSpec := { name := "joinNone", fn := fun _ => fun
  | [d1, d2] => { results := [.lit (.bool true)], args := [d1, d2] }
  | _ => none }
def joinNoneRow : OpenClaim := { program := "ytnmonjincnlhiaadoor", sum := "a8140a695ee66cbad58c9f559d14967f163c696823424a0a9f77327d95ae33f9", func := "arborist/arboristlaw03.JoinNone", spec := "joinNone", unfollowed := true, recurses := true, named := ["internal/strconv.uint64pow10", "math/bits.deBruijn32tab", "math/bits.deBruijn64tab"], apart := false, laid := [("math/bits.deBruijn32tab", laid_math_bits_deBruijn32tab), ("math/bits.deBruijn64tab", laid_math_bits_deBruijn64tab), ("internal/strconv.uint64pow10", laid_internal_strconv_uint64pow10)] }
def JoinNoneSaid : Prop := joinNoneRow.holds Tryd.pinned (OpenSpec.ofChange joinNoneSpec)

/-- ITS FALSE NEIGHBOUR: 'it returns false'. Refute it at one input. -/
def joinNoneWrong : ChangeSpec := { name := "joinNone", fn := fun _ => fun
  | [d1, d2] => { results := [.lit (.bool false)], args := [d1, d2] }
  | _ => none }
def JoinNoneWrongFalsely : Prop := joinNoneRow.holds Tryd.pinned (OpenSpec.ofChange joinNoneWrong)

/-- 'arboristlaw03.JoinParts': WHATEVER THE INPUT: true; the input reads as it did. -/
def joinPartsSpec : ChangeSpec := { name := "joinParts", fn := fun _ => fun
  | [d1, d2, d3] => { results := [.lit (.bool true)], args := [d1, d2, d3] }
  | _ => none }
def joinPartsRow : OpenClaim := { program := "ytnmonjincnlhiaadoor", sum := "a8140a695ee66cbad58c9f559d14967f163c696823424a0a9f77327d95ae33f9", func := "arborist/arboristlaw03.JoinParts", spec := "joinParts", unfollowed := true, recurses := true, named := ["internal/strconv.uint64pow10", "math/bits.deBruijn32tab", "math/bits.deBruijn64tab"], apart := false, laid := [("math/bits.deBruijn32tab", laid_math_bits_deBruijn32tab), ("math/bits.deBruijn64tab", laid_math_bits_deBruijn64tab), ("internal/strconv.uint64pow10", laid_internal_strconv_uint64pow10)] }
def JoinPartsSaid : Prop := joinPartsRow.holds Tryd.pinned (OpenSpec.ofChange joinPartsSpec)

/-- ITS FALSE NEIGHBOUR: 'it returns false'. Refute it at one input. -/
def joinPartsWrong : ChangeSpec := { name := "joinParts", fn := fun _ => fun
  | [d1, d2, d3] => { results := [.lit (.bool false)], args := [d1, d2, d3] }
  | _ => none }
def JoinPartsWrongFalsely : Prop := joinPartsRow.holds Tryd.pinned (OpenSpec.ofChange joinPartsWrong)

/-- 'arboristlaw03.JoinAll': WHATEVER THE INPUT: true; the input reads as it did. -/
def joinAllSpec : ChangeSpec := { name := "joinAll", fn := fun _ => fun
  | [d1, d2] => { results := [.lit (.bool true)], args := [d1, d2] }
  | _ => none }
def joinAllRow : OpenClaim := { program := "ytnmonjincnlhiaadoor", sum := "a8140a695ee66cbad58c9f559d14967f163c696823424a0a9f77327d95ae33f9", func := "arborist/arboristlaw03.JoinAll", spec := "joinAll", unfollowed := true, recurses := true, named := ["internal/strconv.uint64pow10", "math/bits.deBruijn32tab", "math/bits.deBruijn64tab"], apart := false, laid := [("math/bits.deBruijn32tab", laid_math_bits_deBruijn32tab), ("math/bits.deBruijn64tab", laid_math_bits_deBruijn64tab), ("internal/strconv.uint64pow10", laid_internal_strconv_uint64pow10)] }
def JoinAllSaid : Prop := joinAllRow.holds Tryd.pinned (OpenSpec.ofChange joinAllSpec)

/-- ITS FALSE NEIGHBOUR: 'it returns false'. Refute it at one input. -/
def joinAllWrong : ChangeSpec := { name := "joinAll", fn := fun _ => fun
  | [d1, d2] => { results := [.lit (.bool false)], args := [d1, d2] }
  | _ => none }
def JoinAllWrongFalsely : Prop := joinAllRow.holds Tryd.pinned (OpenSpec.ofChange joinAllWrong)

/-- 'arboristlaw03.JoinOrder': WHATEVER THE INPUT: true; the input reads as it did. -/
def joinOrderSpec : ChangeSpec := { name := "joinOrder", fn := fun _ => fun
  | [d1, d2, d3] => { results := [.lit (.bool true)], args := [d1, d2, d3] }
  | _ => none }
def joinOrderRow : OpenClaim := { program := "ytnmonjincnlhiaadoor", sum := "a8140a695ee66cbad58c9f559d14967f163c696823424a0a9f77327d95ae33f9", func := "arborist/arboristlaw03.JoinOrder", spec := "joinOrder", unfollowed := true, recurses := true, named := ["internal/strconv.uint64pow10", "math/bits.deBruijn32tab", "math/bits.deBruijn64tab"], apart := false, laid := [("math/bits.deBruijn32tab", laid_math_bits_deBruijn32tab), ("math/bits.deBruijn64tab", laid_math_bits_deBruijn64tab), ("internal/strconv.uint64pow10", laid_internal_strconv_uint64pow10)] }
def JoinOrderSaid : Prop := joinOrderRow.holds Tryd.pinned (OpenSpec.ofChange joinOrderSpec)

/-- ITS FALSE NEIGHBOUR: 'it returns false'. Refute it at one input. -/
def joinOrderWrong : ChangeSpec := { name := "joinOrder", fn := fun _ => fun
  | [d1, d2, d3] => { results := [.lit (.bool false)], args := [d1, d2, d3] }
  | _ => none }
def JoinOrderWrongFalsely : Prop := joinOrderRow.holds Tryd.pinned (OpenSpec.ofChange joinOrderWrong)

/-- 'arboristlaw03.JoinUnit': WHATEVER THE INPUT: true; the input reads as it did. -/
def joinUnitSpec : ChangeSpec := { name := "joinUnit", fn := fun _ => fun
  | [d] => { results := [.lit (.bool true)], args := [d] }
  | _ => none }
def joinUnitRow : OpenClaim := { program := "ytnmonjincnlhiaadoor", sum := "a8140a695ee66cbad58c9f559d14967f163c696823424a0a9f77327d95ae33f9", func := "arborist/arboristlaw03.JoinUnit", spec := "joinUnit", unfollowed := true, recurses := true, named := ["internal/strconv.uint64pow10", "math/bits.deBruijn32tab", "math/bits.deBruijn64tab"], apart := false, laid := [("math/bits.deBruijn32tab", laid_math_bits_deBruijn32tab), ("math/bits.deBruijn64tab", laid_math_bits_deBruijn64tab), ("internal/strconv.uint64pow10", laid_internal_strconv_uint64pow10)] }
def JoinUnitSaid : Prop := joinUnitRow.holds Tryd.pinned (OpenSpec.ofChange joinUnitSpec)

/-- ITS FALSE NEIGHBOUR: 'it returns false'. Refute it at one input. -/
def joinUnitWrong : ChangeSpec := { name := "joinUnit", fn := fun _ => fun
  | [d] => { results := [.lit (.bool false)], args := [d] }
  | _ => none }
def JoinUnitWrongFalsely : Prop := joinUnitRow.holds Tryd.pinned (OpenSpec.ofChange joinUnitWrong)

/-- 'arboristlaw03.JoinCuts': WHATEVER THE INPUT: true; the input reads as it did. -/
def joinCutsSpec : ChangeSpec := { name := "joinCuts", fn := fun _ => fun
  | [d1, d2] => { results := [.lit (.bool true)], args := [d1, d2] }
  | _ => none }
def joinCutsRow : OpenClaim := { program := "ytnmonjincnlhiaadoor", sum := "a8140a695ee66cbad58c9f559d14967f163c696823424a0a9f77327d95ae33f9", func := "arborist/arboristlaw03.JoinCuts", spec := "joinCuts", unfollowed := true, recurses := true, named := ["internal/strconv.uint64pow10", "math/bits.deBruijn32tab", "math/bits.deBruijn64tab"], apart := false, laid := [("math/bits.deBruijn32tab", laid_math_bits_deBruijn32tab), ("math/bits.deBruijn64tab", laid_math_bits_deBruijn64tab), ("internal/strconv.uint64pow10", laid_internal_strconv_uint64pow10)] }
def JoinCutsSaid : Prop := joinCutsRow.holds Tryd.pinned (OpenSpec.ofChange joinCutsSpec)

/-- ITS FALSE NEIGHBOUR: 'it returns false'. Refute it at one input. -/
def joinCutsWrong : ChangeSpec := { name := "joinCuts", fn := fun _ => fun
  | [d1, d2] => { results := [.lit (.bool false)], args := [d1, d2] }
  | _ => none }
def JoinCutsWrongFalsely : Prop := joinCutsRow.holds Tryd.pinned (OpenSpec.ofChange joinCutsWrong)

/- THE SECOND FORM. 'bulk': how many values and letters a reading holds, each counted each time it is reached (what is shared counts as often as it is met; a slice's spare places count too). A statement '..UptoSaid' is the law's where the arguments, and the package variables that the reading takes, are together of bulk at most 1048576: NARROWER than '..Said'. Prove '..Said' where nothing that the law and all that it calls make is longer than what came in: it says more and counts as full. Else prove '..UptoSaid'. A law counts once. -/
mutual
def uptoBulk {H : Type} : DataW H → Nat
  | .lit (.string bytes) => bytes.length + 1
  | .lit _ => 1
  | .nil => 1
  | .ptr d => uptoBulk d + 1
  | .slice elems spare => uptoBulkAll elems + uptoBulkAll spare + 1
  | .agg parts => uptoBulkAll parts + 1
  | .iface _ d => uptoBulk d + 1
  | .map entries => uptoBulkEntries entries + 1
  | .held _ => 1
def uptoBulkAll {H : Type} : List (DataW H) → Nat
  | [] => 0
  | d :: r => uptoBulk d + uptoBulkAll r
def uptoBulkEntries {H : Type} : List (Lit × DataW H) → Nat
  | [] => 0
  | x :: r => uptoBulkEntry x + uptoBulkEntries r
def uptoBulkEntry {H : Type} : Lit × DataW H → Nat
  | (.string bytes, d) => bytes.length + uptoBulk d + 1
  | (_, d) => uptoBulk d + 1
 end
def uptoSmall : (H : Type) → List (DataW H) → Bool := fun _ ds => decide (uptoBulkAll ds ≤ 1048576)
def OpenSpec.upto (s : _root_.Go.ChangeSpec) : _root_.Go.OpenSpec := { _root_.Go.OpenSpec.ofChange s with cond := some uptoSmall }

/-- 'arboristlaw03.JoinSemi', WHERE WHAT IT READS IS OF BULK AT MOST 1048576: true; the input reads as it did. -/
def joinSemiUptoRow : OpenClaim := { program := "ytnmonjincnlhiaadoor", sum := "a8140a695ee66cbad58c9f559d14967f163c696823424a0a9f77327d95ae33f9", func := "arborist/arboristlaw03.JoinSemi", spec := "joinSemi", unfollowed := true, recurses := true, named := ["internal/strconv.uint64pow10", "math/bits.deBruijn32tab", "math/bits.deBruijn64tab"], apart := false, laid := [("math/bits.deBruijn32tab", laid_math_bits_deBruijn32tab), ("math/bits.deBruijn64tab", laid_math_bits_deBruijn64tab), ("internal/strconv.uint64pow10", laid_internal_strconv_uint64pow10)], narrowed := true }
def JoinSemiUptoSaid : Prop := joinSemiUptoRow.holds Tryd.pinned (OpenSpec.upto joinSemiSpec)

/-- 'arboristlaw03.JoinAgrees', WHERE WHAT IT READS IS OF BULK AT MOST 1048576: true; the input reads as it did. -/
def joinAgreesUptoRow : OpenClaim := { program := "ytnmonjincnlhiaadoor", sum := "a8140a695ee66cbad58c9f559d14967f163c696823424a0a9f77327d95ae33f9", func := "arborist/arboristlaw03.JoinAgrees", spec := "joinAgrees", unfollowed := true, recurses := true, named := ["internal/strconv.uint64pow10", "math/bits.deBruijn32tab", "math/bits.deBruijn64tab"], apart := false, laid := [("math/bits.deBruijn32tab", laid_math_bits_deBruijn32tab), ("math/bits.deBruijn64tab", laid_math_bits_deBruijn64tab), ("internal/strconv.uint64pow10", laid_internal_strconv_uint64pow10)], narrowed := true }
def JoinAgreesUptoSaid : Prop := joinAgreesUptoRow.holds Tryd.pinned (OpenSpec.upto joinAgreesSpec)

/-- 'arboristlaw03.JoinNone', WHERE WHAT IT READS IS OF BULK AT MOST 1048576: true; the input reads as it did. -/
def joinNoneUptoRow : OpenClaim := { program := "ytnmonjincnlhiaadoor", sum := "a8140a695ee66cbad58c9f559d14967f163c696823424a0a9f77327d95ae33f9", func := "arborist/arboristlaw03.JoinNone", spec := "joinNone", unfollowed := true, recurses := true, named := ["internal/strconv.uint64pow10", "math/bits.deBruijn32tab", "math/bits.deBruijn64tab"], apart := false, laid := [("math/bits.deBruijn32tab", laid_math_bits_deBruijn32tab), ("math/bits.deBruijn64tab", laid_math_bits_deBruijn64tab), ("internal/strconv.uint64pow10", laid_internal_strconv_uint64pow10)], narrowed := true }
def JoinNoneUptoSaid : Prop := joinNoneUptoRow.holds Tryd.pinned (OpenSpec.upto joinNoneSpec)

/-- 'arboristlaw03.JoinParts', WHERE WHAT IT READS IS OF BULK AT MOST 1048576: true; the input reads as it did. -/
def joinPartsUptoRow : OpenClaim := { program := "ytnmonjincnlhiaadoor", sum := "a8140a695ee66cbad58c9f559d14967f163c696823424a0a9f77327d95ae33f9", func := "arborist/arboristlaw03.JoinParts", spec := "joinParts", unfollowed := true, recurses := true, named := ["internal/strconv.uint64pow10", "math/bits.deBruijn32tab", "math/bits.deBruijn64tab"], apart := false, laid := [("math/bits.deBruijn32tab", laid_math_bits_deBruijn32tab), ("math/bits.deBruijn64tab", laid_math_bits_deBruijn64tab), ("internal/strconv.uint64pow10", laid_internal_strconv_uint64pow10)], narrowed := true }
def JoinPartsUptoSaid : Prop := joinPartsUptoRow.holds Tryd.pinned (OpenSpec.upto joinPartsSpec)

/-- 'arboristlaw03.JoinAll', WHERE WHAT IT READS IS OF BULK AT MOST 1048576: true; the input reads as it did. -/
def joinAllUptoRow : OpenClaim := { program := "ytnmonjincnlhiaadoor", sum := "a8140a695ee66cbad58c9f559d14967f163c696823424a0a9f77327d95ae33f9", func := "arborist/arboristlaw03.JoinAll", spec := "joinAll", unfollowed := true, recurses := true, named := ["internal/strconv.uint64pow10", "math/bits.deBruijn32tab", "math/bits.deBruijn64tab"], apart := false, laid := [("math/bits.deBruijn32tab", laid_math_bits_deBruijn32tab), ("math/bits.deBruijn64tab", laid_math_bits_deBruijn64tab), ("internal/strconv.uint64pow10", laid_internal_strconv_uint64pow10)], narrowed := true }
def JoinAllUptoSaid : Prop := joinAllUptoRow.holds Tryd.pinned (OpenSpec.upto joinAllSpec)

/-- 'arboristlaw03.JoinOrder', WHERE WHAT IT READS IS OF BULK AT MOST 1048576: true; the input reads as it did. -/
def joinOrderUptoRow : OpenClaim := { program := "ytnmonjincnlhiaadoor", sum := "a8140a695ee66cbad58c9f559d14967f163c696823424a0a9f77327d95ae33f9", func := "arborist/arboristlaw03.JoinOrder", spec := "joinOrder", unfollowed := true, recurses := true, named := ["internal/strconv.uint64pow10", "math/bits.deBruijn32tab", "math/bits.deBruijn64tab"], apart := false, laid := [("math/bits.deBruijn32tab", laid_math_bits_deBruijn32tab), ("math/bits.deBruijn64tab", laid_math_bits_deBruijn64tab), ("internal/strconv.uint64pow10", laid_internal_strconv_uint64pow10)], narrowed := true }
def JoinOrderUptoSaid : Prop := joinOrderUptoRow.holds Tryd.pinned (OpenSpec.upto joinOrderSpec)

/-- 'arboristlaw03.JoinUnit', WHERE WHAT IT READS IS OF BULK AT MOST 1048576: true; the input reads as it did. -/
def joinUnitUptoRow : OpenClaim := { program := "ytnmonjincnlhiaadoor", sum := "a8140a695ee66cbad58c9f559d14967f163c696823424a0a9f77327d95ae33f9", func := "arborist/arboristlaw03.JoinUnit", spec := "joinUnit", unfollowed := true, recurses := true, named := ["internal/strconv.uint64pow10", "math/bits.deBruijn32tab", "math/bits.deBruijn64tab"], apart := false, laid := [("math/bits.deBruijn32tab", laid_math_bits_deBruijn32tab), ("math/bits.deBruijn64tab", laid_math_bits_deBruijn64tab), ("internal/strconv.uint64pow10", laid_internal_strconv_uint64pow10)], narrowed := true }
def JoinUnitUptoSaid : Prop := joinUnitUptoRow.holds Tryd.pinned (OpenSpec.upto joinUnitSpec)

/-- 'arboristlaw03.JoinCuts', WHERE WHAT IT READS IS OF BULK AT MOST 1048576: true; the input reads as it did. -/
def joinCutsUptoRow : OpenClaim := { program := "ytnmonjincnlhiaadoor", sum := "a8140a695ee66cbad58c9f559d14967f163c696823424a0a9f77327d95ae33f9", func := "arborist/arboristlaw03.JoinCuts", spec := "joinCuts", unfollowed := true, recurses := true, named := ["internal/strconv.uint64pow10", "math/bits.deBruijn32tab", "math/bits.deBruijn64tab"], apart := false, laid := [("math/bits.deBruijn32tab", laid_math_bits_deBruijn32tab), ("math/bits.deBruijn64tab", laid_math_bits_deBruijn64tab), ("internal/strconv.uint64pow10", laid_internal_strconv_uint64pow10)], narrowed := true }
def JoinCutsUptoSaid : Prop := joinCutsUptoRow.holds Tryd.pinned (OpenSpec.upto joinCutsSpec)

end Rows
end Go.Proofs.YtnmonjincnlhiaaDoor
