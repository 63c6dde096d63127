import Derived.StillTailTactics
import Derived.Test.YtghekfmfonoocaaGreatDoorZtf
import Derived.Test.YtghekfmfonoocaaGreatDoorZth
/- Lemmas. -/
namespace Go.Proofs.YtghekfmfonoocaaGreatDoor
set_option linter.unusedVariables false
set_option linter.unusedSimpArgs false
open Go.RowKit
end Go.Proofs.YtghekfmfonoocaaGreatDoor
