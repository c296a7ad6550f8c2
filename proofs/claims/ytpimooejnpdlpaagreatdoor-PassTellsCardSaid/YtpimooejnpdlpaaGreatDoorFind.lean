/- tuple.Find: where a row stands among rows in their order. -/
import Derived.Test.YtpimooejnpdlpaaGreatDoorMB
import Derived.Laws.Shifts
import Derived.Lib.Walk
import Derived.Laws.Entries
import Derived.Sort.Walk0
set_option linter.unusedVariables false
set_option linter.unusedSimpArgs false
namespace Go.Proofs.YtpimooejnpdlpaaGreatDoor.G
open Go.RowKit Go.Proofs.YtpimooejnpdlpaaGreatDoorW.PrintWords Go.Proofs.YtpimooejnpdlpaaGreatDoorW.PrintLast Go.Proofs.YtpimooejnpdlpaaGreatDoorW.PrintMore

theorem drawn_trans {w1 w2 w3 : World} (h : Drawn0 w1 w2) (k : Drawn0 w2 w3) : Drawn0 w1 w3 := by
  obtain ⟨n, rfl⟩ := k.out
  exact h.step n
end Go.Proofs.YtpimooejnpdlpaaGreatDoor.G
