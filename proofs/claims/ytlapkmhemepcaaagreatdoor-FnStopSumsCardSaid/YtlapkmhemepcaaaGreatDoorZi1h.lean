import Derived.Test.YtlapkmhemepcaaaGreatDoorZi14
import Derived.Test.YtlapkmhemepcaaaGreatDoorZip
import Derived.Test.YtlapkmhemepcaaaGreatDoorZis
/- Lemmas. -/
set_option linter.all false
namespace Go.Proofs.YtlapkmhemepcaaaGreatDoor
open Go.RowKit
