/- What the laws of relations share: what Small makes, a relation's box, the calls of rel with a known answer. -/
import Derived.Test.YtlmkgghpaaadhaaGreatDoorMD
import Derived.Test.YtlmkgghpaaadhaaGreatDoorMR
import Derived.Test.YtlmkgghpaaadhaaGreatDoorMT
import Derived.Test.YtlmkgghpaaadhaaGreatDoorMC
import Derived.Test.YtlmkgghpaaadhaaGreatDoorRows
import Derived.Test.YtlmkgghpaaadhaaGreatDoorMA
import Derived.Deep.Matrix
import Derived.ProofKit
import Derived.OpenShut
set_option linter.unusedVariables false
set_option linter.unusedSimpArgs false
namespace Go.Proofs.YtlmkgghpaaadhaaGreatDoor.G
open Go.RowKit Go.Proofs.YtlmkgghpaaadhaaGreatDoorW.PrintWords Go.Proofs.YtlmkgghpaaadhaaGreatDoorW.PrintLast Go.Proofs.YtlmkgghpaaadhaaGreatDoorW.PrintMore Go.Proofs.YtlmkgghpaaadhaaGreatDoor.PRefs
attribute [local go_sem] min2_int min_two

/-! What Small makes is right. -/
theorem and16 (v : Int) : 0 ≤ Go.bits .and .i64 v 65535 ∧ Go.bits .and .i64 v 65535 ≤ 65535 := by
  have h : (BitVec.ofInt 64 v &&& BitVec.ofInt 64 65535).toNat ≤ 65535 := by rw [BitVec.toNat_and]; exact Nat.le_trans Nat.and_le_right (by decide)
  show 0 ≤ IntKind.i64.wrap ((BitVec.ofInt 64 v &&& BitVec.ofInt 64 65535).toNat : Int) ∧ IntKind.i64.wrap ((BitVec.ofInt 64 v &&& BitVec.ofInt 64 65535).toNat : Int) ≤ 65535
  rw [Go.IntWalk.i64_in _ (by omega)]
  omega
theorem md_pos (v q : Int) (hq : 0 < q) : 0 ≤ md v q ∧ md v q < q := by
  unfold md
  rw [Int.tmod_eq_emod_of_nonneg (and16 v).1]
  exact ⟨Int.emod_nonneg _ (by omega), Int.emod_lt_of_pos _ hq⟩
theorem min2_mn (k k' : IntKind) (x y : Int) : Builtin.min2 (.int k x) (.int k' y) = pure (.int k (mn x y)) := min2_int k k' x y
section
variable {w : World} {A : Option Addr} {c : Nat} {sc : List Int} {A' : Option Addr} {c' : Nat} {L : List (List Int)} {B : Option Addr} {d : Nat} {sd : List Int} {B' : Option Addr} {d' : Nat} {M : List (List Int)}
end
end Go.Proofs.YtlmkgghpaaadhaaGreatDoor.G

set_option linter.unusedVariables false
namespace Go.Proofs.YtlmkgghpaaadhaaGreatDoor.G
open Go.RowKit Go.ChangeShapes Go.WideShapes Go.ChangeAt Go.Deep Go.Proofs.YtlmkgghpaaadhaaGreatDoorW.PrintWords Go.Proofs.YtlmkgghpaaadhaaGreatDoorW.PrintLast Go.Proofs.YtlmkgghpaaadhaaGreatDoorW.PrintMore

/-- A row of numbers that came in. -/
theorem in_ints {H : Type} {enc : TypeId × Value → H} {W : World} {base : Nat} {held : Bool} {a : Option Addr} {len cap : Nat} {x : DataW H × List MemPlace} {fuel : Nat}
    (h : DataW.trod enc Tryz.prog W base (fun _ => true) held fuel 22 (Value.slice a len cap).cells.toList = some x) :
    ∃ xs : List Int, xs.length = len ∧ len ≤ cap ∧ Kd.C KI W a xs.length xs := by
  rcases open_ints Tryz.underlying22 Tryz.underlying3 (by kernel_rfl) h with ⟨hcs, _⟩ | ⟨ad, l, c, zs, hcs, _, hl, hm, hz, _, hcell, hwz⟩
  · simp [Value.cells] at hcs
    obtain ⟨rfl, rfl, rfl⟩ := hcs
    exact ⟨[], rfl, Nat.le_refl _, Kd.C_nil _ _⟩
  · simp [Value.cells] at hcs
    obtain ⟨rfl, rfl, rfl⟩ := hcs
    have hz' : zs.length = cap := by simpa using hz
    have hlen : (zs.take len).length = len := by simp; omega
    refine ⟨zs.take len, hlen, hl, hlen.symm ▸ ?_⟩
    refine ⟨hlen, by unfold maxLen at hm; omega, fun h0 => ⟨ad, rfl, fun j p hj => ?_⟩⟩
    have hjl : j < len := by have := (List.getElem?_eq_some_iff.1 hj).1; omega
    refine ⟨[.int .i64 p], rfl, rfl, fun i u hu => ?_⟩
    have hi0 : i = 0 := by have := (List.getElem?_eq_some_iff.1 hu).1; simpa using this
    subst hi0
    have hu' : u = .int .i64 p := by simpa using hu.symm
    rw [hu', show KI.sz = 1 from rfl, Nat.mul_one, Nat.add_zero, hcell j (by omega)]
    rw [List.getElem?_take_of_lt hjl] at hj
    rw [List.getD_eq_getElem?_getD, hj]; rfl

theorem C_of_cells {W : World} {a : Option Addr} {zs : List Int} {len cap : Nat} (hl : len ≤ cap) (hm : cap ≤ maxLen) (hz : zs.length = cap) (hn : a = none → cap = 0) (hc : ∀ a', a = some a' → ∀ c, c < cap → W.cell? (a'.add c) = some (.int .i64 (zs.getD c 0))) :
    (zs.take len).length = len ∧ Kd.C KI W a (zs.take len).length (zs.take len) := by
  have hlen : (zs.take len).length = len := by simp; omega
  refine ⟨hlen, hlen.symm ▸ ?_⟩
  refine ⟨hlen, by unfold maxLen at hm; omega, fun h0 => ?_⟩
  cases a with
  | none => have := hn rfl; omega
  | some ad =>
    refine ⟨ad, rfl, fun j p hj => ?_⟩
    have hjl : j < len := by have := (List.getElem?_eq_some_iff.1 hj).1; omega
    refine ⟨[.int .i64 p], rfl, rfl, fun i u hu => ?_⟩
    have hi0 : i = 0 := by have := (List.getElem?_eq_some_iff.1 hu).1; simpa using this
    subst hi0
    have hu' : u = .int .i64 p := by simpa using hu.symm
    rw [hu', show KI.sz = 1 from rfl, Nat.mul_one, Nat.add_zero, hc ad rfl j (by omega)]
    rw [List.getElem?_take_of_lt hjl] at hj
    rw [List.getD_eq_getElem?_getD, hj]; rfl

/-- A row of rows that came in. -/
theorem in_rows {H : Type} {enc : TypeId × Value → H} {W : World} {base : Nat} {held : Bool} {a : Option Addr} {len cap : Nat} {x : DataW H × List MemPlace} {fuel : Nat}
    (h : DataW.trod enc Tryz.prog W base (fun _ => true) held fuel 23 (Value.slice a len cap).cells.toList = some x) :
    ∃ L : List (List Int), L.length = len ∧ len ≤ cap ∧ Kd.C KL W a L.length L := by
  rcases open_int_rows Tryz.underlying23 Tryz.underlying22 Tryz.underlying3 (by kernel_rfl) (by kernel_rfl) h with ⟨hcs, _⟩ | ⟨ad, l, c, A, Ln, Cp, Z, hcs, _, hl, hm, _, hrow⟩
  · simp [Value.cells] at hcs
    obtain ⟨rfl, rfl, rfl⟩ := hcs
    exact ⟨[], rfl, Nat.le_refl _, Kd.C_nil _ _⟩
  · simp [Value.cells] at hcs
    obtain ⟨rfl, rfl, rfl⟩ := hcs
    have hlen : ((List.range len).map fun r => (Z r).take (Ln r)).length = len := by simp
    refine ⟨(List.range len).map fun r => (Z r).take (Ln r), hlen, hl, hlen.symm ▸ ?_⟩
    refine ⟨hlen, by unfold maxLen at hm; omega, fun h0 => ⟨ad, rfl, fun j p hj => ?_⟩⟩
    have hjl : j < len := by have := (List.getElem?_eq_some_iff.1 hj).1; omega
    have hp : p = (Z j).take (Ln j) := by
      rw [List.getElem?_map, List.getElem?_range hjl] at hj
      exact (Option.some.inj hj).symm
    subst hp
    obtain ⟨h1, h2, h3, h4, _, h6, h7⟩ := hrow j (by omega)
    obtain ⟨g1, g2⟩ := C_of_cells (W := W) (a := A j) h2 h3 h4 h6 (fun a' e => (h7 a' e).2)
    refine ⟨[.slice (A j) (Ln j) (Cp j)], rfl, ⟨A j, Cp j, by rw [g1], by rw [g1]; exact h2, g2⟩, fun i u hu => ?_⟩
    have hi0 : i = 0 := by have := (List.getElem?_eq_some_iff.1 hu).1; simpa using this
    subst hi0
    have hu' : u = .slice (A j) (Ln j) (Cp j) := by simpa using hu.symm
    rw [hu', show KL.sz = 1 from rfl, Nat.mul_one, Nat.add_zero]
    exact h1
end Go.Proofs.YtlmkgghpaaadhaaGreatDoor.G
