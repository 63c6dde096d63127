import Derived.Test.YtlapkmhemepcaaaGreatDoorZnd
/- Lemmas. -/
namespace Go.Proofs.YtlapkmhemepcaaaGreatDoor
set_option linter.unusedVariables false
set_option linter.unusedSimpArgs false
open Go.RowKit
section
variable {U:List Nat}{S:Nat→Prop}{w w':World}{bb:Nat}{V:List PL}{BV:List Nat}
end
end Go.Proofs.YtlapkmhemepcaaaGreatDoor
