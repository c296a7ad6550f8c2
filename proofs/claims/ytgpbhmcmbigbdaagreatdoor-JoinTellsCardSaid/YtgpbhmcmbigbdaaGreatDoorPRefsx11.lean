/- Of what the print tool laid and printed: what this claim's texts name. -/
import Derived.Test.YtgpbhmcmbigbdaaGreatDoorPRefsx0
namespace Go.Proofs.YtgpbhmcmbigbdaaGreatDoor.PRefs
open Go.RowKit Go.Proofs.YtgpbhmcmbigbdaaGreatDoorW.PrintWords Go.Proofs.YtgpbhmcmbigbdaaGreatDoorW.PrintLast Go.Proofs.YtgpbhmcmbigbdaaGreatDoorW.PrintMore
attribute [local go_sem] max2_int min2_int max_two min_two max_three min_three max_four min_four   -- for this text's walks alone
set_option linter.unusedVariables false
set_option linter.unusedSimpArgs false

-- NOT PRINTED: function 26 (arboristref16_Up)

-- NOT PRINTED: function 27 (arboristref16_Down)

end Go.Proofs.YtgpbhmcmbigbdaaGreatDoor.PRefs
