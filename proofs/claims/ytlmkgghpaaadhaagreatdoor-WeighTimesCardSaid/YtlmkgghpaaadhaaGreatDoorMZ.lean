/- Several texts of this claim in one. -/
import Derived.Test.YtlmkgghpaaadhaaGreatDoorMY
/- weigh: what falls to no variables at all. -/
set_option linter.unusedVariables false
set_option linter.unusedSimpArgs false
namespace Go.Proofs.YtlmkgghpaaadhaaGreatDoor.G
open Go.RowKit Go.Proofs.YtlmkgghpaaadhaaGreatDoorW.PrintWords Go.Proofs.YtlmkgghpaaadhaaGreatDoorW.PrintLast Go.Proofs.YtlmkgghpaaadhaaGreatDoorW.PrintMore

end Go.Proofs.YtlmkgghpaaadhaaGreatDoor.G

/- weigh: summed part by part it is the same. -/
set_option linter.unusedVariables false
set_option linter.unusedSimpArgs false
namespace Go.Proofs.YtlmkgghpaaadhaaGreatDoor.G
open Go.RowKit Go.Proofs.YtlmkgghpaaadhaaGreatDoorW.PrintWords Go.Proofs.YtlmkgghpaaadhaaGreatDoorW.PrintLast Go.Proofs.YtlmkgghpaaadhaaGreatDoorW.PrintMore

end Go.Proofs.YtlmkgghpaaadhaaGreatDoor.G

/- weigh: the least of the parts' least is the least. -/
set_option linter.unusedVariables false
set_option linter.unusedSimpArgs false
namespace Go.Proofs.YtlmkgghpaaadhaaGreatDoor.G
open Go.RowKit Go.Proofs.YtlmkgghpaaadhaaGreatDoorW.PrintWords Go.Proofs.YtlmkgghpaaadhaaGreatDoorW.PrintLast Go.Proofs.YtlmkgghpaaadhaaGreatDoorW.PrintMore

theorem pos_self {R : List (List Int)} (h : Pl.Up R) (j : Nat) (hj : j < R.length) : pos R R[j] = j := by
  have hp := List.pairwise_iff_getElem.1 h
  refine pos_of (Nat.le_of_lt hj) (fun k hk => ?_) (fun k hk hkl => ?_)
  · rw [getD_get _ _ (by omega)]; exact hp k j (by omega) hj hk
  · rw [getD_get _ _ hkl]
    by_cases e : k = j
    · subst e; exact Pl.lt_irrefl _
    · exact Pl.lt_asymm (hp j k hj hkl (by omega))
end Go.Proofs.YtlmkgghpaaadhaaGreatDoor.G

/- weigh: one row of no variables. -/
set_option linter.unusedVariables false
set_option linter.unusedSimpArgs false
namespace Go.Proofs.YtlmkgghpaaadhaaGreatDoor.G
open Go.RowKit Go.Proofs.YtlmkgghpaaadhaaGreatDoorW.PrintWords Go.Proofs.YtlmkgghpaaadhaaGreatDoorW.PrintLast Go.Proofs.YtlmkgghpaaadhaaGreatDoorW.PrintMore

end Go.Proofs.YtlmkgghpaaadhaaGreatDoor.G

/- weigh: what goes together of two that share nothing. -/
set_option linter.unusedVariables false
set_option linter.unusedSimpArgs false
namespace Go.Proofs.YtlmkgghpaaadhaaGreatDoor.G
open Go.RowKit Go.Proofs.YtlmkgghpaaadhaaGreatDoorW.PrintWords Go.Proofs.YtlmkgghpaaadhaaGreatDoorW.PrintLast Go.Proofs.YtlmkgghpaaadhaaGreatDoorW.PrintMore

theorem tot_le {l : List Int} {k : Int} (h : ∀ x ∈ l, (x.natAbs : Int) ≤ k) : tot l ≤ l.length * k := by
  induction l with
  | nil => simp [tot]
  | cons x l ih =>
    have h1 := h x (List.mem_cons_self ..)
    have h2 := ih fun y hy => h y (List.mem_cons_of_mem _ hy)
    simp only [tot, List.map_cons, List.sum_cons, List.length_cons] at h2 ⊢
    have : ((l.length + 1 : Nat) : Int) * k = l.length * k + k := by push_cast; rw [Int.add_mul, Int.one_mul]
    omega
/-- Small weights of few rows. -/
structure Few4 (a : WRel) : Prop where
  r : RightP a.sc a.L
  l : a.ws.length = a.L.length
  n : a.L.length ≤ 12
  w : ∀ x ∈ a.ws, (x.natAbs : Int) ≤ 999
theorem Few4.tot {a : WRel} (h : Few4 a) : G.tot a.ws ≤ 11988 := by
  have h1 := tot_le h.w
  have h2 := h.n
  have h3 := h.l
  have h4 : ((a.ws.length : Nat) : Int) ≤ 12 := by omega
  have h5 : (a.ws.length : Int) * 999 ≤ 12 * 999 := Int.mul_le_mul_of_nonneg_right h4 (by omega)
  omega
theorem Few4.mul {a b : WRel} (h : Few4 a) (h' : Few4 b) : (a.L.length : Int) * b.L.length ≤ 1000 := by
  have h1 := h.n
  have h2 := h'.n
  have h3 := Nat.mul_le_mul h1 h2
  have h4 : ((a.L.length * b.L.length : Nat) : Int) ≤ 1000 := by omega
  rw [Int.natCast_mul] at h4
  exact h4
end Go.Proofs.YtlmkgghpaaadhaaGreatDoor.G

/- weigh: the calls that the laws make, with known answers. -/
set_option linter.unusedVariables false
set_option linter.unusedSimpArgs false
namespace Go.Proofs.YtlmkgghpaaadhaaGreatDoor.G
open Go.RowKit Go.Proofs.YtlmkgghpaaadhaaGreatDoorW.PrintWords Go.Proofs.YtlmkgghpaaadhaaGreatDoorW.PrintLast Go.Proofs.YtlmkgghpaaadhaaGreatDoorW.PrintMore

section
variable {w : World} {A : Option Addr} {c : Nat} {sc : List Int} {A' : Option Addr} {c' : Nat} {L : List (List Int)} {Aw : Option Addr} {cw : Nat} {ws : List Int} {n n' m : Nat}
end
end Go.Proofs.YtlmkgghpaaadhaaGreatDoor.G
