/- The document's answer for layer 2, as the print tells it: Place. -/
import Derived.Test.YtnmonjincnlhiaaDoorPRefsx7
import Derived.Test.YtnmonjincnlhiaaDoorDocs
set_option linter.unusedVariables false
set_option linter.unusedSimpArgs false
namespace Go.Proofs.YtnmonjincnlhiaaDoor.G
open Go.RowKit Go.Proofs.YtnmonjincnlhiaaDoorW.PrintWords Go.Proofs.YtnmonjincnlhiaaDoorW.PrintLast Go.Proofs.YtnmonjincnlhiaaDoorW.PrintMore Go.Proofs.YtnmonjincnlhiaaDoor.PRefs

theorem Place_l0 (x0 : List Int) (x1 : Int) (hl : x0.length ≤ 1000000000) : ∀ n i k, i + n = x0.length → n < k → arboristref02_Place.l0 k x0 x1 (i : Int) = some (if x1 ∈ x0.drop i then ((i + (x0.drop i).idxOf x1 : Nat) : Int) else -1)
  | n, i, 0, _, h => by omega
  | 0, i, k + 1, h, _ => by
    unfold arboristref02_Place.l0
    rw [if_neg (by omega), List.drop_of_length_le (by omega)]; simp
  | n + 1, i, k + 1, h, hk => by
    unfold arboristref02_Place.l0
    rw [if_pos (by omega), if_pos (by omega), drop_rd x0 i (by omega)]
    by_cases he : rd x0 (i : Int) = x1
    · rw [if_pos he, he, if_pos List.mem_cons_self, List.idxOf_cons_self]; rfl
    · rw [if_neg he, w1 i (by omega), Place_l0 x0 x1 hl n (i + 1) k (by omega) (by omega)]
      congr 1
      by_cases hm : x1 ∈ x0.drop (i + 1)
      · rw [if_pos hm, if_pos (List.mem_cons_of_mem _ hm), List.idxOf_cons, show (rd x0 (i : Int) == x1) = false from beq_eq_false_iff_ne.2 he]
        show ((i + 1 + List.idxOf x1 (List.drop (i + 1) x0) : Nat) : Int) = ((i + (List.idxOf x1 (List.drop (i + 1) x0) + 1) : Nat) : Int)
        omega
      · rw [if_neg hm, if_neg (fun h => (List.mem_cons.1 h).elim (fun e => he e.symm) hm)]
theorem Place_f (l : List Int) (a : Int) (k : Nat) (hl : l.length ≤ 1000000000) (hk : l.length < k) : arboristref02_Place.f k l a = some (idx l a) := by
  unfold arboristref02_Place.f
  have := Place_l0 l a hl l.length 0 k (by omega) hk
  simpa [idx] using this
end Go.Proofs.YtnmonjincnlhiaaDoor.G
