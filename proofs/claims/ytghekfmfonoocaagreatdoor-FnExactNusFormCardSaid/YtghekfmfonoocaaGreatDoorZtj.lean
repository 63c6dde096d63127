import Derived.Test.YtghekfmfonoocaaGreatDoorZt10
import Derived.Test.YtghekfmfonoocaaGreatDoorZti
/- Lemmas. -/
namespace Go.Proofs.YtghekfmfonoocaaGreatDoor
set_option linter.unusedVariables false
set_option linter.unusedSimpArgs false
open Go.RowKit
section
variable {pb ob kb:Nat}{mc ms mn:Value}{M I X:Nat→Prop}{V:List PL}{BV:List Nat}{W W':World}{f f':Nat × Nat→Option Bool}{g g':Nat→Option ((Int × Nat) × Int × Nat)}
end
end Go.Proofs.YtghekfmfonoocaaGreatDoor
