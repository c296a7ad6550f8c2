/- Of what the print tool laid and printed: what this claim's texts name. -/
import Derived.Test.YtlmkgghpaaadhaaGreatDoorPRefsx0
namespace Go.Proofs.YtlmkgghpaaadhaaGreatDoor.PRefs
open Go.RowKit Go.Proofs.YtlmkgghpaaadhaaGreatDoorW.PrintWords Go.Proofs.YtlmkgghpaaadhaaGreatDoorW.PrintLast Go.Proofs.YtlmkgghpaaadhaaGreatDoorW.PrintMore
attribute [local go_sem] max2_int min2_int max_two min_two max_three min_three max_four min_four   -- for this text's walks alone
set_option linter.unusedVariables false
set_option linter.unusedSimpArgs false

/-! ### arboristref01_Copy: function 65 -/
/-! ### arboristref04_size: function 49 -/
/-! ### arboristref01_Compare: function 55 -/
/-! ### arboristref02_Same: function 29 -/
end Go.Proofs.YtlmkgghpaaadhaaGreatDoor.PRefs
