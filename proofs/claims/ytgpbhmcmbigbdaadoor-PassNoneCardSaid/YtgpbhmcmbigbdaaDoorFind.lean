/- tuple.Find: where a row stands among rows in their order. -/
import Derived.Test.YtgpbhmcmbigbdaaDoorMB
import Derived.Laws.Shifts
import Derived.Lib.Walk
import Derived.Laws.Entries
import Derived.Sort.Walk0
set_option linter.unusedVariables false
set_option linter.unusedSimpArgs false
namespace Go.Proofs.YtgpbhmcmbigbdaaDoor.G
open Go.RowKit Go.Proofs.YtgpbhmcmbigbdaaDoorW.PrintWords Go.Proofs.YtgpbhmcmbigbdaaDoorW.PrintLast Go.Proofs.YtgpbhmcmbigbdaaDoorW.PrintMore

theorem drawn_trans {w1 w2 w3 : World} (h : Drawn0 w1 w2) (k : Drawn0 w2 w3) : Drawn0 w1 w3 := by
  obtain ⟨n, rfl⟩ := k.out
  exact h.step n
/-- Rows none of which is behind one that is less. -/
def Ord (L : List (List Int)) : Prop := L.Pairwise fun a b => ¬ Pl.lt b a
def pos (L : List (List Int)) (t : List Int) : Nat := L.countP fun x => decide (Pl.lt x t)

theorem ord_lt {L : List (List Int)} (ho : Ord L) {t : List Int} {a b : Nat} (hab : a ≤ b) (hb : b < L.length) (h : Pl.lt (L.getD b []) t) : Pl.lt (L.getD a []) t := by
  by_cases e : a = b
  · subst e; exact h
  · have h1 := List.pairwise_iff_getElem.1 ho a b (by omega) hb (by omega)
    rw [List.getD_eq_getElem?_getD, List.getElem?_eq_getElem hb] at h
    rw [List.getD_eq_getElem?_getD, List.getElem?_eq_getElem (by omega)]
    simp only [Option.getD_some] at h ⊢
    rcases Pl.lt_total L[a] L[b] with e | e | e
    · exact Pl.lt_trans e h
    · rw [e]; exact h
    · exact absurd e h1
theorem pos_of {L : List (List Int)} {t : List Int} {i : Nat} (hi : i ≤ L.length) (h1 : ∀ k, k < i → Pl.lt (L.getD k []) t) (h2 : ∀ k, i ≤ k → k < L.length → ¬ Pl.lt (L.getD k []) t) : pos L t = i := by
  have e : L = L.take i ++ L.drop i := (List.take_append_drop i L).symm
  unfold pos
  rw [e, List.countP_append]
  have a1 : (L.take i).countP (fun x => decide (Pl.lt x t)) = i := by
    rw [List.countP_eq_length.2, List.length_take, Nat.min_eq_left hi]
    intro x hx
    obtain ⟨j, hj, rfl⟩ := List.mem_take_iff_getElem.1 hx
    have := h1 j (by omega)
    rw [List.getD_eq_getElem?_getD, List.getElem?_eq_getElem (by omega)] at this
    exact decide_eq_true this
  have a2 : (L.drop i).countP (fun x => decide (Pl.lt x t)) = 0 := by
    rw [List.countP_eq_zero]
    intro x hx
    obtain ⟨j, hj, rfl⟩ := List.getElem_of_mem hx
    rw [List.length_drop] at hj
    have := h2 (i + j) (by omega) (by omega)
    rw [List.getD_eq_getElem?_getD, List.getElem?_eq_getElem (by omega)] at this
    rw [List.getElem_drop]
    simpa using this
  rw [a1, a2, Nat.add_zero]
theorem mem_at {L : List (List Int)} (ho : Ord L) {t : List Int} {i : Nat} (h1 : ∀ k, k < i → Pl.lt (L.getD k []) t) (h2 : ∀ k, i ≤ k → k < L.length → ¬ Pl.lt (L.getD k []) t) : t ∈ L ↔ i < L.length ∧ Pl.cmp (L.getD i []) t = 0 := by
  constructor
  · intro h
    obtain ⟨j, hj, rfl⟩ := List.getElem_of_mem h
    have hij : i ≤ j := by
      rcases Nat.lt_or_ge j i with h3 | h3
      · have := h1 j h3
        rw [List.getD_eq_getElem?_getD, List.getElem?_eq_getElem hj] at this
        exact absurd this (Pl.lt_irrefl _)
      · exact h3
    refine ⟨by omega, ?_⟩
    rw [Pl.cmp_eq]
    have h3 := h2 i (Nat.le_refl _) (by omega)
    rw [List.getD_eq_getElem?_getD, List.getElem?_eq_getElem (by omega : i < L.length)] at h3 ⊢
    simp only [Option.getD_some] at h3 ⊢
    by_cases e : i = j
    · subst e; rfl
    · rcases Pl.lt_total L[i] L[j] with e' | e' | e'
      · exact absurd e' h3
      · exact e'
      · exact absurd e' (List.pairwise_iff_getElem.1 ho i j (by omega) hj (by omega))
  · rintro ⟨hi, h⟩
    rw [Pl.cmp_eq] at h
    rw [← h, List.getD_eq_getElem?_getD, List.getElem?_eq_getElem hi]
    exact List.getElem_mem hi

end Go.Proofs.YtgpbhmcmbigbdaaDoor.G
