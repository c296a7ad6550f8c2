/- What the print tool printed, with one step of Find's turned. -/
import Derived.Test.YtgpbhmcmbigbdaaGreatDoorPRefsx0
import Derived.Test.YtgpbhmcmbigbdaaGreatDoorPRefsx1
import Derived.Test.YtgpbhmcmbigbdaaGreatDoorPRefsx8
import Derived.Test.YtgpbhmcmbigbdaaGreatDoorPRefsx12
namespace Go.Proofs.YtgpbhmcmbigbdaaGreatDoor.PRefs
open Go.RowKit Go.Proofs.YtgpbhmcmbigbdaaGreatDoorW.PrintWords Go.Proofs.YtgpbhmcmbigbdaaGreatDoorW.PrintLast Go.Proofs.YtgpbhmcmbigbdaaGreatDoorW.PrintMore
attribute [local go_sem] max2_int min2_int max_two min_two max_three min_three max_four min_four   -- for this text's walks alone
set_option linter.unusedVariables false
set_option linter.unusedSimpArgs false

end Go.Proofs.YtgpbhmcmbigbdaaGreatDoor.PRefs
