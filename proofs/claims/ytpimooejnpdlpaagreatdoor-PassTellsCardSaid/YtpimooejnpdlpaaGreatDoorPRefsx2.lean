/- Of what the print tool laid and printed: what this claim's texts name. -/
import Derived.Test.YtpimooejnpdlpaaGreatDoorPRefsx0
namespace Go.Proofs.YtpimooejnpdlpaaGreatDoor.PRefs
open Go.RowKit Go.Proofs.YtpimooejnpdlpaaGreatDoorW.PrintWords Go.Proofs.YtpimooejnpdlpaaGreatDoorW.PrintLast Go.Proofs.YtpimooejnpdlpaaGreatDoorW.PrintMore
attribute [local go_sem] max2_int min2_int max_two min_two max_three min_three max_four min_four   -- for this text's walks alone
set_option linter.unusedVariables false
set_option linter.unusedSimpArgs false

/-! ### arboristref01_Compare: function 28 -/
/-! ### arboristref02_Same: function 21 -/
end Go.Proofs.YtpimooejnpdlpaaGreatDoor.PRefs
