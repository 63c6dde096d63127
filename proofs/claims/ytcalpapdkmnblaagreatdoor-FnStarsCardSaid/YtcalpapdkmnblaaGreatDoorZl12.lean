import Derived.Test.YtcalpapdkmnblaaGreatDoorZl0
import Derived.Deep.CutRange
/- Lemmas. -/
namespace Go.Proofs.YtcalpapdkmnblaaGreatDoor
set_option linter.unusedVariables false
set_option linter.unusedSimpArgs false
open Go.RowKit
end Go.Proofs.YtcalpapdkmnblaaGreatDoor
