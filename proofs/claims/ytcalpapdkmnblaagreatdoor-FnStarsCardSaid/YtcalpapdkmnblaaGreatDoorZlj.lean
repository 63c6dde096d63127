import Derived.Test.YtcalpapdkmnblaaGreatDoorZlg
import Derived.Test.YtcalpapdkmnblaaGreatDoorZli
/- Lemmas. -/
namespace Go.Proofs.YtcalpapdkmnblaaGreatDoor
set_option linter.unusedVariables false
set_option linter.unusedSimpArgs false
open Go.RowKit
end Go.Proofs.YtcalpapdkmnblaaGreatDoor
