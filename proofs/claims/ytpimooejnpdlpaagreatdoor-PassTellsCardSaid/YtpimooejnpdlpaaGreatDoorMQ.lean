/- Several texts of this claim in one. -/
import Derived.Test.YtpimooejnpdlpaaGreatDoorMP
import Derived.Test.YtpimooejnpdlpaaGreatDoorBox
import Derived.Test.YtpimooejnpdlpaaGreatDoorRows
import Derived.Deep.Matrix
import Derived.ProofKit
import Derived.OpenShut
import Derived.WalkKit
import Derived.LaidMore
import Derived.LaidSub
import Derived.LaidHandle
import Derived.MakeChecks
import Derived.Stop.Joined
import Derived.Lib.LaidTab
/- The join laws' shown: a small case that must work. -/
set_option linter.unusedVariables false
set_option linter.unusedSimpArgs false
namespace Go.Proofs.YtpimooejnpdlpaaGreatDoor.G
open Go.RowKit Go.Proofs.YtpimooejnpdlpaaGreatDoorW.PrintWords Go.Proofs.YtpimooejnpdlpaaGreatDoorW.PrintLast Go.Proofs.YtpimooejnpdlpaaGreatDoorW.PrintMore Go.Proofs.YtpimooejnpdlpaaGreatDoor.PRefs

theorem lit_ints1 (w : World) (x : Int) : Kd.C KI (w.alloc (.cells #[.int .i64 x] 3)) (some ⟨w.heap.size, 0, none⟩) 1 [x] := lit_ints w [x] (by simp)
section
variable {W : World} {A : Option Addr} {c : Nat} {A' : Option Addr} {c' : Nat} {B : Option Addr} {d : Nat} {B' : Option Addr} {d' : Nat}
end

/-- What stays in shown: two relations' boxes. -/
structure Sh3 (w : World) (A : Option Addr) (c : Nat) (A' : Option Addr) (c' : Nat) (g : Nat) (B : Option Addr) (d : Nat) (B' : Option Addr) (d' : Nat) (g' : Nat) (W : World) : Prop where
  bel : Below w.heap.size w W
  a : RelBx W g A c [0] A' c' [[1], [2]]
  b : RelBx W g' B d [1] B' d' [[5]]
theorem Sh3.step {w W W1 : World} {A : Option Addr} {c : Nat} {A' : Option Addr} {c' : Nat} {g : Nat} {B : Option Addr} {d : Nat} {B' : Option Addr} {d' g' : Nat} (h : Sh3 w A c A' c' g B d B' d' g' W) (hb : Below W.heap.size W W1) : Sh3 w A c A' c' g B d B' d' g' W1 :=
  ⟨below_then h.bel h.bel.size hb, h.a.step hb, h.b.step hb⟩

end Go.Proofs.YtpimooejnpdlpaaGreatDoor.G

/- The join laws' small, as the print tells it: what it computes; it is right. -/
set_option linter.unusedVariables false
set_option linter.unusedSimpArgs false
namespace Go.Proofs.YtpimooejnpdlpaaGreatDoor.G
open Go.RowKit Go.Proofs.YtpimooejnpdlpaaGreatDoorW.PrintWords Go.Proofs.YtpimooejnpdlpaaGreatDoorW.PrintLast Go.Proofs.YtpimooejnpdlpaaGreatDoorW.PrintMore Go.Proofs.YtpimooejnpdlpaaGreatDoor.PRefs

def smallRows3 (n : Nat) (rows : List (List Int)) : List (List Int) := Pl.sortU ((rows.take 12).map (smallRow n))
theorem smallRows3_up (n : Nat) (L : List (List Int)) : Pl.Up (smallRows3 n L) := Pl.sortU_up _
theorem smallRows3_len (n : Nat) (L : List (List Int)) : (smallRows3 n L).length ≤ 12 := by
  have := Pl.sortU_length_le ((L.take 12).map (smallRow n))
  unfold smallRows3
  simp only [List.length_map, List.length_take] at this
  omega
theorem smallRows3_row (n : Nat) (L : List (List Int)) : ∀ x ∈ smallRows3 n L, x.length = n := fun x hx => by
  unfold smallRows3 at hx
  rw [Pl.mem_sortU] at hx
  obtain ⟨t, _, rfl⟩ := List.mem_map.1 hx
  exact smallRow_len n t

end Go.Proofs.YtpimooejnpdlpaaGreatDoor.G

/- What the listed variables give: the table that strconv reads; a start that fits; an argument that is a relation. -/
set_option linter.unusedVariables false
set_option linter.unusedSimpArgs false
namespace Go.Proofs.YtpimooejnpdlpaaGreatDoor.G
open Go.RowKit Go.ChangeShapes Go.WideShapes Go.ChangeAt Go.Deep Go.Proofs.YtpimooejnpdlpaaGreatDoorW.PrintWords Go.Proofs.YtpimooejnpdlpaaGreatDoorW.PrintLast Go.Proofs.YtpimooejnpdlpaaGreatDoorW.PrintMore

abbrev laidList : List (String × DataW Unit) := [("math/bits.deBruijn32tab", Rows.laid_math_bits_deBruijn32tab), ("math/bits.deBruijn64tab", Rows.laid_math_bits_deBruijn64tab), ("internal/strconv.uint64pow10", Rows.laid_internal_strconv_uint64pow10)]
theorem gPow : Tryz.prog.globalNamed "internal/strconv.uint64pow10" = some 0 := by kernel_rfl
theorem tPow : (Tryz.prog.globals[0]?).map (·.type) = some 102 := by kernel_rfl
theorem tab_of {W : World} (h : laidMetH Tryz.prog laidList W) : Tab W := by
  have h1 := laidMetH.filter (fun x => x.1 == "internal/strconv.uint64pow10") h
  have e : laidList.filter (fun x => x.1 == "internal/strconv.uint64pow10") = [("internal/strconv.uint64pow10", Lib.tabData .u64 Lib.pow10Tab)] := by
    rw [show laidList = [("math/bits.deBruijn32tab", Rows.laid_math_bits_deBruijn32tab), ("math/bits.deBruijn64tab", Rows.laid_math_bits_deBruijn64tab), ("internal/strconv.uint64pow10", Rows.laid_internal_strconv_uint64pow10)] from rfl]
    rw [List.filter_cons_of_neg (by decide), List.filter_cons_of_neg (by decide), List.filter_cons_of_pos (by decide)]
    rfl
  rw [e, MakeChecks.laidMetH_plain _ _ _ (by kernel_rfl)] at h1
  exact Lib.tabIs_of_head gPow tPow Tryz.underlying102 Tryz.underlying74 (by kernel_rfl) (by kernel_rfl) h1
theorem door_met (os : Os) (args : Array Value) : laidMetH Tryz.prog laidList ((World.doorLaid Tryz.prog 400 os).forCall (fun _ _ => 0) ⟨#[], args, []⟩).memory :=
  laidMetH_of_parts3 (fuel := 8) (laidMet_of_run' 8 (by kernel_rfl) (by kernel_rfl)) (by kernel_rfl) (by kernel_rfl)
end Go.Proofs.YtpimooejnpdlpaaGreatDoor.G

/- A part that comes in: its box, what it reads as; what small makes of it. -/
set_option linter.unusedVariables false
set_option linter.unusedSimpArgs false
namespace Go.Proofs.YtpimooejnpdlpaaGreatDoor.G
open Go.RowKit Go.ChangeShapes Go.WideShapes Go.ChangeAt Go.Deep Go.Proofs.YtpimooejnpdlpaaGreatDoorW.PrintWords Go.Proofs.YtpimooejnpdlpaaGreatDoorW.PrintLast Go.Proofs.YtpimooejnpdlpaaGreatDoorW.PrintMore Go.Proofs.YtpimooejnpdlpaaGreatDoor.PRefs

theorem smallRow_in (n : Nat) (row : List Int) : ∀ x ∈ smallRow n row, 0 ≤ x ∧ x ≤ 2 := fun x hx => by
  unfold smallRow at hx
  obtain ⟨q, _, rfl⟩ := List.mem_map.1 hx
  split
  · have := md_pos (rd row q) 3 (by omega); omega
  · omega
theorem small3_in (n : Nat) (L : List (List Int)) : InR (smallRows3 n L) := fun t ht x hx => by
  unfold smallRows3 at ht
  rw [Pl.mem_sortU] at ht
  obtain ⟨r, _, rfl⟩ := List.mem_map.1 ht
  have := smallRow_in n r x hx
  omega
/-- What small makes is right, and small. -/
structure Sm (sc : List Int) (L : List (List Int)) : Prop where
  rt : Rt sc L
  s : sc.length ≤ 3
  l : L.length ≤ 12
theorem Sm.sz {sc : List Int} {L : List (List Int)} (h : Sm sc L) : Sz sc L := ⟨by have := h.s; omega, by have := h.l; omega, fun x hx => by rw [h.rt.r.2.1 x hx]; have := h.s; omega⟩
theorem Rt.semi {sc : List Int} {L : List (List Int)} (h : Rt sc L) (sd : List Int) (M : List (List Int)) : Rt sc (semiRows sc L sd M) :=
  ⟨right_semi h.r sd M, h.s, Nat.le_trans (List.length_filter_le _ _) h.l, inR_filter h.i _⟩
/-- A part that came in. -/
theorem slice_of {H : Type} {enc : TypeId × Value → H} {W : World} {base : Nat} {held : Bool} {v : Value} {x : DataW H × List MemPlace} {fuel : Nat} {t e : Nat} (ht : Tryz.prog.underlying t = some (.slice e))
    (h : DataW.trod enc Tryz.prog W base (fun _ => true) held fuel t [v] = some x) : ∃ a len cap, v = .slice a len cap := by
  rcases Go.Deep.open_slice ht h with h1 | h1
  · simp at h1; exact ⟨_, _, _, h1.1⟩
  · obtain ⟨a, len, cap, h2⟩ : ∃ a len cap, [v] = [Value.slice a len cap] := by
      obtain ⟨ad, l, c, _, _, _, _, h3, _⟩ := h1
      exact ⟨_, _, _, h3⟩
    simp at h2
    exact ⟨a, len, cap, h2⟩
section
variable {w : World} {A : Option Addr} {c : Nat} {sc : List Int} {A' : Option Addr} {c' : Nat} {L : List (List Int)} {B : Option Addr} {d : Nat} {sd : List Int} {B' : Option Addr} {d' : Nat} {M : List (List Int)}
end
section
variable {w : World} {A : Option Addr} {c : Nat} {sc : List Int} {A' : Option Addr} {c' : Nat} {L : List (List Int)} {B : Option Addr} {d : Nat} {B' : Option Addr} {d' : Nat} {M : List (List Int)}
end
end Go.Proofs.YtpimooejnpdlpaaGreatDoor.G
