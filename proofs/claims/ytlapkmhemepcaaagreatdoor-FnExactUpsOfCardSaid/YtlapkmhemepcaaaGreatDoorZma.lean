import Derived.Test.YtlapkmhemepcaaaGreatDoorShelfG
import Derived.Test.YtlapkmhemepcaaaGreatDoorZm15
/- Lemmas. -/
namespace Go.Proofs.YtlapkmhemepcaaaGreatDoor
set_option linter.unusedVariables false
set_option linter.unusedSimpArgs false
open Go.RowKit Go.Sort
end Go.Proofs.YtlapkmhemepcaaaGreatDoor
namespace Go.Proofs.YtlapkmhemepcaaaGreatDoor
set_option linter.unusedVariables false
set_option linter.unusedSimpArgs false
open Go.RowKit
end Go.Proofs.YtlapkmhemepcaaaGreatDoor
