import Derived.Test.YtcalpapdkmnblaaGreatDoorZl11
import Derived.Test.YtcalpapdkmnblaaGreatDoorZl13
/- Lemmas. -/
namespace Go.Proofs.YtcalpapdkmnblaaGreatDoor
set_option linter.unusedVariables false
set_option linter.unusedSimpArgs false
open Go.RowKit
end Go.Proofs.YtcalpapdkmnblaaGreatDoor
