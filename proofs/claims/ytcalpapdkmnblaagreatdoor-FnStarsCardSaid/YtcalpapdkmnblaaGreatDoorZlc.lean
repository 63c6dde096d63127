import Derived.Test.YtcalpapdkmnblaaGreatDoorZlb
import Derived.Test.YtcalpapdkmnblaaGreatDoorZl7
/- Lemmas. -/
namespace Go.Proofs.YtcalpapdkmnblaaGreatDoor
set_option linter.unusedVariables false
set_option linter.unusedSimpArgs false
open Go.RowKit
end Go.Proofs.YtcalpapdkmnblaaGreatDoor
