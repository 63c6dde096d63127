import Derived.Test.YtcalpapdkmnblaaGreatDoorZlo
import Derived.Test.YtcalpapdkmnblaaGreatDoorZl12
/- Lemmas. -/
namespace Go.Proofs.YtcalpapdkmnblaaGreatDoor
set_option linter.unusedVariables false
set_option linter.unusedSimpArgs false
open Go.RowKit
end Go.Proofs.YtcalpapdkmnblaaGreatDoor
