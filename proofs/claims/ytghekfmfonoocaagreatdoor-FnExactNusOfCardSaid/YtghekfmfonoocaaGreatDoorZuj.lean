import Derived.Test.YtghekfmfonoocaaGreatDoorZue
import Derived.Test.YtghekfmfonoocaaGreatDoorZug
/- Lemmas. -/
set_option linter.all false
namespace Go.Proofs.YtghekfmfonoocaaGreatDoor
open Go.RowKit
section
variable {W W':World}{b:Nat}{R:Nat->Prop}{v:Value}{Fi:List (List Int × List Int)}
end
