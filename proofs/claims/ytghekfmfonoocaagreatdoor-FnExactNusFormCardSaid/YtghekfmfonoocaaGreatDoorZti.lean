import Derived.Test.YtghekfmfonoocaaGreatDoorZtg
/- Lemmas. -/
namespace Go.Proofs.YtghekfmfonoocaaGreatDoor
set_option linter.unusedVariables false
set_option linter.unusedSimpArgs false
open Go.RowKit
end Go.Proofs.YtghekfmfonoocaaGreatDoor
