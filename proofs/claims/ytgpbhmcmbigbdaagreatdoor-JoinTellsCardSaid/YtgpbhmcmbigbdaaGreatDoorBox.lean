/- What the laws of relations share: what Small makes, a relation's box, the calls of rel with a known answer. -/
import Derived.Test.YtgpbhmcmbigbdaaGreatDoorMD
import Derived.Test.YtgpbhmcmbigbdaaGreatDoorMG
import Derived.Test.YtgpbhmcmbigbdaaGreatDoorMC
import Derived.Test.YtgpbhmcmbigbdaaGreatDoorRows
import Derived.Test.YtgpbhmcmbigbdaaGreatDoorMA
import Derived.Deep.Matrix
import Derived.ProofKit
import Derived.OpenShut
set_option linter.unusedVariables false
set_option linter.unusedSimpArgs false
namespace Go.Proofs.YtgpbhmcmbigbdaaGreatDoor.G
open Go.RowKit Go.Proofs.YtgpbhmcmbigbdaaGreatDoorW.PrintWords Go.Proofs.YtgpbhmcmbigbdaaGreatDoorW.PrintLast Go.Proofs.YtgpbhmcmbigbdaaGreatDoorW.PrintMore Go.Proofs.YtgpbhmcmbigbdaaGreatDoor.PRefs
attribute [local go_sem] min2_int min_two

theorem and16 (v : Int) : 0 ≤ Go.bits .and .i64 v 65535 ∧ Go.bits .and .i64 v 65535 ≤ 65535 := by
  have h : (BitVec.ofInt 64 v &&& BitVec.ofInt 64 65535).toNat ≤ 65535 := by rw [BitVec.toNat_and]; exact Nat.le_trans Nat.and_le_right (by decide)
  show 0 ≤ IntKind.i64.wrap ((BitVec.ofInt 64 v &&& BitVec.ofInt 64 65535).toNat : Int) ∧ IntKind.i64.wrap ((BitVec.ofInt 64 v &&& BitVec.ofInt 64 65535).toNat : Int) ≤ 65535
  rw [Go.IntWalk.i64_in _ (by omega)]
  omega
theorem md_pos (v q : Int) (hq : 0 < q) : 0 ≤ md v q ∧ md v q < q := by
  unfold md
  rw [Int.tmod_eq_emod_of_nonneg (and16 v).1]
  exact ⟨Int.emod_nonneg _ (by omega), Int.emod_lt_of_pos _ hq⟩
theorem min2_mn (k k' : IntKind) (x y : Int) : Builtin.min2 (.int k x) (.int k' y) = pure (.int k (mn x y)) := min2_int k k' x y
structure RelBox (W : World) (g : Nat) (A : Option Addr) (c : Nat) (sc : List Int) (A' : Option Addr) (c' : Nat) (L : List (List Int)) : Prop where
  blk : W.heap[g]? = some (.cells #[.slice A sc.length c, .slice A' L.length c'] 27 (0, 0))
  row : Kd.C KI W A sc.length sc
  rows : Kd.C KL W A' L.length L
theorem RelBox.step {W W1 : World} {g : Nat} {A : Option Addr} {c : Nat} {sc : List Int} {A' : Option Addr} {c' : Nat} {L : List (List Int)} (h : RelBox W g A c sc A' c' L) (hb : Below W.heap.size W W1) : RelBox W1 g A c sc A' c' L :=
  ⟨(hb.block _ (Array.getElem?_eq_some_iff.1 h.blk).1).trans h.blk, Kd.C_below h.row hb, Kd.C_below h.rows hb⟩
theorem RelBox.new {w : World} {A : Option Addr} {sc : List Int} {A' : Option Addr} {L : List (List Int)} (c c' : Nat) (h0 : Kd.C KI w A sc.length sc) (h1 : Kd.C KL w A' L.length L) : RelBox (w.alloc (.cells #[.slice A sc.length c, .slice A' L.length c'] 27)) w.heap.size A c sc A' c' L :=
  ⟨heap_alloc_new w _, Kd.C_below h0 (below_alloc (Below.refl _ _) _), Kd.C_below h1 (below_alloc (Below.refl _ _) _)⟩

structure RelRd (W : World) (A : Option Addr) (c : Nat) (sc : List Int) (A' : Option Addr) (c' : Nat) (L : List (List Int)) : Prop where
  row : Kd.C KI W A sc.length sc
  cap : sc.length ≤ c
  rows : Kd.C KL W A' L.length L
  cap2 : L.length ≤ c'
theorem RelRd.step {W W1 : World} {A : Option Addr} {c : Nat} {sc : List Int} {A' : Option Addr} {c' : Nat} {L : List (List Int)} (h : RelRd W A c sc A' c' L) (hb : Below W.heap.size W W1) : RelRd W1 A c sc A' c' L :=
  ⟨Kd.C_below h.row hb, h.cap, Kd.C_below h.rows hb, h.cap2⟩
structure RelBx (W : World) (g : Nat) (A : Option Addr) (c : Nat) (sc : List Int) (A' : Option Addr) (c' : Nat) (L : List (List Int)) : Prop where
  blk : W.heap[g]? = some (.cells #[.slice A sc.length c, .slice A' L.length c'] 27 (0, 0))
  rd : RelRd W A c sc A' c' L
theorem RelBx.step {W W1 : World} {g : Nat} {A : Option Addr} {c : Nat} {sc : List Int} {A' : Option Addr} {c' : Nat} {L : List (List Int)} (h : RelBx W g A c sc A' c' L) (hb : Below W.heap.size W W1) : RelBx W1 g A c sc A' c' L :=
  ⟨(hb.block _ (Array.getElem?_eq_some_iff.1 h.blk).1).trans h.blk, h.rd.step hb⟩
theorem RelBx.new {w : World} {A : Option Addr} {c : Nat} {sc : List Int} {A' : Option Addr} {c' : Nat} {L : List (List Int)} (h : RelRd w A c sc A' c' L) : RelBx (w.alloc (.cells #[.slice A sc.length c, .slice A' L.length c'] 27)) w.heap.size A c sc A' c' L :=
  ⟨heap_alloc_new w _, h.step (below_alloc (Below.refl _ _) _)⟩
theorem below_box {w w1 : World} (h : Below w.heap.size w w1) (b : _) : Below w.heap.size w (w1.alloc b) := h.trans (below_alloc (Below.refl _ _) b |>.mono h.size)
theorem RelM.rd {w : World} {base : Nat} {v : Value} {r : List Int × List (List Int)} (h : RelM w base v r) : ∃ A c A' c', v = .agg #[.slice A r.1.length c, .slice A' r.2.length c'] ∧ RelRd w A c r.1 A' c' r.2 := by
  obtain ⟨A, c, A', c', rfl, h0, h3, h1, h2⟩ := h.reads
  exact ⟨A, c, A', c', rfl, h1, h0, h2, h3⟩
structure Sz (sc : List Int) (L : List (List Int)) : Prop where
  s : sc.length ≤ 1000
  l : L.length ≤ 10000
  x : ∀ x ∈ L, x.length ≤ 1000
def RelTo (w w' : World) (e : Ending) (sc : List Int) (L : List (List Int)) : Prop := ∃ A c A' c', e = .returned (.agg #[.slice A sc.length c, .slice A' L.length c']) ∧ RelRd w' A c sc A' c' L ∧ Below w.heap.size w w'
def RelOk (w w' : World) (e : Ending) (sc : List Int) (L : List (List Int)) (n : Int) : Prop := ∃ A c A' c', e = .returned (.tuple #[.agg #[.slice A sc.length c, .slice A' L.length c'], .int .i64 n]) ∧ RelRd w' A c sc A' c' L ∧ Below w.heap.size w w'

section
variable {w : World} {A : Option Addr} {c : Nat} {sc : List Int} {A' : Option Addr} {c' : Nat} {L : List (List Int)} {B : Option Addr} {d : Nat} {sd : List Int} {B' : Option Addr} {d' : Nat} {M : List (List Int)}
theorem rightp_is (h : RelRd w A c sc A' c' L) (hz : Sz sc L) (b : Bool) (hb : decide (RightP sc L) = b) :
    Calls Tryz.prog 17 #[.agg #[.slice A sc.length c, .slice A' L.length c']] w fun e w' => e = .returned (.bool b) ∧ Below w.heap.size w w' :=
  right_is A c sc A' c' L w h.row h.rows (by have := hz.l; omega) b hb
end
end Go.Proofs.YtgpbhmcmbigbdaaGreatDoor.G

set_option linter.unusedVariables false
namespace Go.Proofs.YtgpbhmcmbigbdaaGreatDoor.G
open Go.RowKit Go.ChangeShapes Go.WideShapes Go.ChangeAt Go.Deep Go.Proofs.YtgpbhmcmbigbdaaGreatDoorW.PrintWords Go.Proofs.YtgpbhmcmbigbdaaGreatDoorW.PrintLast Go.Proofs.YtgpbhmcmbigbdaaGreatDoorW.PrintMore

theorem in_ints {H : Type} {enc : TypeId × Value → H} {W : World} {base : Nat} {held : Bool} {a : Option Addr} {len cap : Nat} {x : DataW H × List MemPlace} {fuel : Nat}
    (h : DataW.trod enc Tryz.prog W base (fun _ => true) held fuel 22 (Value.slice a len cap).cells.toList = some x) :
    ∃ xs : List Int, xs.length = len ∧ len ≤ cap ∧ Kd.C KI W a xs.length xs := by
  rcases open_ints Tryz.underlying22 Tryz.underlying3 (by kernel_rfl) h with ⟨hcs, _⟩ | ⟨ad, l, c, zs, hcs, _, hl, hm, hz, _, hcell, hwz⟩
  · simp [Value.cells] at hcs
    obtain ⟨rfl, rfl, rfl⟩ := hcs
    exact ⟨[], rfl, Nat.le_refl _, Kd.C_nil _ _⟩
  · simp [Value.cells] at hcs
    obtain ⟨rfl, rfl, rfl⟩ := hcs
    have hz' : zs.length = cap := by simpa using hz
    have hlen : (zs.take len).length = len := by simp; omega
    refine ⟨zs.take len, hlen, hl, hlen.symm ▸ ?_⟩
    refine ⟨hlen, by unfold maxLen at hm; omega, fun h0 => ⟨ad, rfl, fun j p hj => ?_⟩⟩
    have hjl : j < len := by have := (List.getElem?_eq_some_iff.1 hj).1; omega
    refine ⟨[.int .i64 p], rfl, rfl, fun i u hu => ?_⟩
    have hi0 : i = 0 := by have := (List.getElem?_eq_some_iff.1 hu).1; simpa using this
    subst hi0
    have hu' : u = .int .i64 p := by simpa using hu.symm
    rw [hu', show KI.sz = 1 from rfl, Nat.mul_one, Nat.add_zero, hcell j (by omega)]
    rw [List.getElem?_take_of_lt hjl] at hj
    rw [List.getD_eq_getElem?_getD, hj]; rfl

theorem C_of_cells {W : World} {a : Option Addr} {zs : List Int} {len cap : Nat} (hl : len ≤ cap) (hm : cap ≤ maxLen) (hz : zs.length = cap) (hn : a = none → cap = 0) (hc : ∀ a', a = some a' → ∀ c, c < cap → W.cell? (a'.add c) = some (.int .i64 (zs.getD c 0))) :
    (zs.take len).length = len ∧ Kd.C KI W a (zs.take len).length (zs.take len) := by
  have hlen : (zs.take len).length = len := by simp; omega
  refine ⟨hlen, hlen.symm ▸ ?_⟩
  refine ⟨hlen, by unfold maxLen at hm; omega, fun h0 => ?_⟩
  cases a with
  | none => have := hn rfl; omega
  | some ad =>
    refine ⟨ad, rfl, fun j p hj => ?_⟩
    have hjl : j < len := by have := (List.getElem?_eq_some_iff.1 hj).1; omega
    refine ⟨[.int .i64 p], rfl, rfl, fun i u hu => ?_⟩
    have hi0 : i = 0 := by have := (List.getElem?_eq_some_iff.1 hu).1; simpa using this
    subst hi0
    have hu' : u = .int .i64 p := by simpa using hu.symm
    rw [hu', show KI.sz = 1 from rfl, Nat.mul_one, Nat.add_zero, hc ad rfl j (by omega)]
    rw [List.getElem?_take_of_lt hjl] at hj
    rw [List.getD_eq_getElem?_getD, hj]; rfl

theorem in_rows {H : Type} {enc : TypeId × Value → H} {W : World} {base : Nat} {held : Bool} {a : Option Addr} {len cap : Nat} {x : DataW H × List MemPlace} {fuel : Nat}
    (h : DataW.trod enc Tryz.prog W base (fun _ => true) held fuel 23 (Value.slice a len cap).cells.toList = some x) :
    ∃ L : List (List Int), L.length = len ∧ len ≤ cap ∧ Kd.C KL W a L.length L := by
  rcases open_int_rows Tryz.underlying23 Tryz.underlying22 Tryz.underlying3 (by kernel_rfl) (by kernel_rfl) h with ⟨hcs, _⟩ | ⟨ad, l, c, A, Ln, Cp, Z, hcs, _, hl, hm, _, hrow⟩
  · simp [Value.cells] at hcs
    obtain ⟨rfl, rfl, rfl⟩ := hcs
    exact ⟨[], rfl, Nat.le_refl _, Kd.C_nil _ _⟩
  · simp [Value.cells] at hcs
    obtain ⟨rfl, rfl, rfl⟩ := hcs
    have hlen : ((List.range len).map fun r => (Z r).take (Ln r)).length = len := by simp
    refine ⟨(List.range len).map fun r => (Z r).take (Ln r), hlen, hl, hlen.symm ▸ ?_⟩
    refine ⟨hlen, by unfold maxLen at hm; omega, fun h0 => ⟨ad, rfl, fun j p hj => ?_⟩⟩
    have hjl : j < len := by have := (List.getElem?_eq_some_iff.1 hj).1; omega
    have hp : p = (Z j).take (Ln j) := by
      rw [List.getElem?_map, List.getElem?_range hjl] at hj
      exact (Option.some.inj hj).symm
    subst hp
    obtain ⟨h1, h2, h3, h4, _, h6, h7⟩ := hrow j (by omega)
    obtain ⟨g1, g2⟩ := C_of_cells (W := W) (a := A j) h2 h3 h4 h6 (fun a' e => (h7 a' e).2)
    refine ⟨[.slice (A j) (Ln j) (Cp j)], rfl, ⟨A j, Cp j, by rw [g1], by rw [g1]; exact h2, g2⟩, fun i u hu => ?_⟩
    have hi0 : i = 0 := by have := (List.getElem?_eq_some_iff.1 hu).1; simpa using this
    subst hi0
    have hu' : u = .slice (A j) (Ln j) (Cp j) := by simpa using hu.symm
    rw [hu', show KL.sz = 1 from rfl, Nat.mul_one, Nat.add_zero]
    exact h1
end Go.Proofs.YtgpbhmcmbigbdaaGreatDoor.G
