/- Several texts of this claim in one. -/
import Derived.Test.YtlmkgghpaaadhaaGreatDoorPAll
import Derived.Test.YtlmkgghpaaadhaaGreatDoorMA
import Derived.Test.YtlmkgghpaaadhaaGreatDoorMG
/- The document's answer for layer 1, as the print tells it: what its functions compute. -/
set_option linter.unusedVariables false
set_option linter.unusedSimpArgs false
namespace Go.Proofs.YtlmkgghpaaadhaaGreatDoor.G
open Go.RowKit Go.Proofs.YtlmkgghpaaadhaaGreatDoorW.PrintWords Go.Proofs.YtlmkgghpaaadhaaGreatDoorW.PrintLast Go.Proofs.YtlmkgghpaaadhaaGreatDoorW.PrintMore Go.Proofs.YtlmkgghpaaadhaaGreatDoor.PRefs

theorem w1 (i : Nat) (h : i ≤ 1000000000000) : wrap64 ((i : Int) + 1) = ((i + 1 : Nat) : Int) := by rw [Go.IntWalk.wrap64_in _ (by omega)]; rfl

end Go.Proofs.YtlmkgghpaaadhaaGreatDoor.G

/- The document's answer for layer 1: Compare, Copy, Sort. -/
set_option linter.unusedVariables false
set_option linter.unusedSimpArgs false
namespace Go.Proofs.YtlmkgghpaaadhaaGreatDoor.G
open Go.RowKit Go.Proofs.YtlmkgghpaaadhaaGreatDoorW.PrintWords Go.Proofs.YtlmkgghpaaadhaaGreatDoorW.PrintLast Go.Proofs.YtlmkgghpaaadhaaGreatDoorW.PrintMore Go.Proofs.YtlmkgghpaaadhaaGreatDoor.PRefs

end Go.Proofs.YtlmkgghpaaadhaaGreatDoor.G

/- The law's Small, as the print tells it: what it computes. -/
set_option linter.unusedVariables false
set_option linter.unusedSimpArgs false
namespace Go.Proofs.YtlmkgghpaaadhaaGreatDoor.G
open Go.RowKit Go.Proofs.YtlmkgghpaaadhaaGreatDoorW.PrintWords Go.Proofs.YtlmkgghpaaadhaaGreatDoorW.PrintLast Go.Proofs.YtlmkgghpaaadhaaGreatDoorW.PrintMore Go.Proofs.YtlmkgghpaaadhaaGreatDoor.PRefs

def md (v q : Int) : Int := Int.tmod (Go.bits .and .i64 v 65535) q
def uni1 (s : List Int) (m : Int) : List Int := zip2 s ([m].filter fun a => decide (a ∉ s))
def rowTo (n : Nat) (row : List Int) (j : Nat) : List Int := (List.range n).map fun q => if q < j ∧ q < row.length then md (rd row q) 3 else 0
def smallRow (n : Nat) (row : List Int) : List Int := (List.range n).map fun q => if q < row.length then md (rd row q) 3 else 0
theorem rowTo_zero (n : Nat) (row : List Int) : rowTo n row 0 = List.replicate n 0 := by
  refine List.ext_getElem (by simp [rowTo]) fun i h1 h2 => ?_
  simp [rowTo]
theorem rowTo_len (n : Nat) (row : List Int) (j : Nat) : (rowTo n row j).length = n := by simp [rowTo]
theorem smallRow_len (n : Nat) (row : List Int) : (smallRow n row).length = n := by simp [smallRow]
theorem rowTo_set (n : Nat) (row : List Int) (j : Nat) (hj : j < n) (hr : j < row.length) : (rowTo n row j).set j (md (rd row j) 3) = rowTo n row (j + 1) := by
  refine List.ext_getElem (by simp [rowTo]) fun i h1 h2 => ?_
  rw [List.getElem_set]
  simp only [rowTo, List.getElem_map, List.getElem_range]
  by_cases e : j = i
  · subst e; rw [if_pos rfl, if_pos ⟨by omega, hr⟩]
  · rw [if_neg e]
    by_cases h : i < j ∧ i < row.length
    · rw [if_pos h, if_pos ⟨by omega, h.2⟩]
    · rw [if_neg h, if_neg (fun h' => h ⟨by omega, h'.2⟩)]
theorem rowTo_end (n : Nat) (row : List Int) (j : Nat) (h : n ≤ j ∨ row.length ≤ j) : rowTo n row j = smallRow n row := by
  refine List.ext_getElem (by simp [rowTo, smallRow]) fun i h1 h2 => ?_
  have hi : i < n := by simpa [rowTo] using h1
  simp only [rowTo, smallRow, List.getElem_map, List.getElem_range]
  by_cases h' : i < row.length
  · rw [if_pos h', if_pos ⟨by omega, h'⟩]
  · rw [if_neg h', if_neg (fun h => h' h.2)]

theorem uni1_mem (s : List Int) (m x : Int) : x ∈ uni1 s m ↔ x ∈ s ∨ x = m := by
  unfold uni1
  rw [mem_zip2]
  simp only [List.mem_filter, List.mem_singleton, decide_eq_true_eq]
  constructor
  · rintro (h | ⟨h, _⟩)
    · exact .inl h
    · exact .inr h
  · rintro (h | h)
    · exact .inl h
    · by_cases hx : x ∈ s
      · exact .inl hx
      · exact .inr ⟨h, hx⟩
theorem zip2_len (l m : List Int) : (zip2 l m).length = l.length + m.length := by
  induction l, m using zip2.induct with
  | case1 m => rw [nil_zip2]; simp
  | case2 l h => rw [zip2_nil]; simp
  | case3 a l b m h ih => rw [zip2_cons, if_pos h, List.length_cons, ih]; simp; omega
  | case4 a l b m h ih => rw [zip2_cons, if_neg h, List.length_cons, ih]; simp; omega
theorem uni1_len (s : List Int) (m : Int) : (uni1 s m).length ≤ s.length + 1 := by
  unfold uni1
  rw [zip2_len]
  have : ([m].filter fun a => decide (a ∉ s)).length ≤ [m].length := List.length_filter_le _ _
  simp only [List.length_singleton] at this
  omega
theorem uni1_rise (s : List Int) (m : Int) (h : Rise s) : Rise (uni1 s m) := by
  unfold uni1
  refine zip2_rise _ _ h ?_ (fun x hx hx' => ?_)
  · exact (List.pairwise_singleton _ m).sublist List.filter_sublist
  · rw [List.mem_filter] at hx'
    exact (of_decide_eq_true hx'.2) hx

end Go.Proofs.YtlmkgghpaaadhaaGreatDoor.G
