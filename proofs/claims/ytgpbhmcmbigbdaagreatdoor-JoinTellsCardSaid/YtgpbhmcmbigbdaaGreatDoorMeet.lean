/- The document's Meet, Unite and Compare, as they are called. -/
import Derived.Test.YtgpbhmcmbigbdaaGreatDoorPAll
import Derived.Test.YtgpbhmcmbigbdaaGreatDoorMQ
set_option linter.unusedVariables false
set_option linter.unusedSimpArgs false
namespace Go.Proofs.YtgpbhmcmbigbdaaGreatDoor.G
open Go.RowKit Go.Proofs.YtgpbhmcmbigbdaaGreatDoorW.PrintWords Go.Proofs.YtgpbhmcmbigbdaaGreatDoorW.PrintLast Go.Proofs.YtgpbhmcmbigbdaaGreatDoorW.PrintMore Go.Proofs.YtgpbhmcmbigbdaaGreatDoor.PRefs

theorem uni_zip {l m : List Int} (h : Rise l) (h' : Rise m) : zip2 l (m.filter fun a => decide (a ∉ l)) = uni l m :=
  rise_same (zip2_rise _ _ h (List.Pairwise.filter _ h') fun x hx hx' => by
    have := (List.mem_filter.1 hx').2
    simp at this
    exact this hx) (merge_rise _ _ h h') fun a => by
    show a ∈ zip2 l (m.filter fun a => decide (a ∉ l)) ↔ a ∈ uni l m
    rw [mem_zip2, mem_uni, List.mem_filter]
    by_cases ha : a ∈ l <;> simp [ha]
section
variable {w : World} {A : Option Addr} {c : Nat} {l : List Int} {B : Option Addr} {d : Nat} {m : List Int}
end
end Go.Proofs.YtgpbhmcmbigbdaaGreatDoor.G
