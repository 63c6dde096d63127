import Derived.OpenShut
import Derived.WalkSmall
import Derived.IntWalk
import Derived.Test.YtlapkmhemepcaaaGreatDoorZmy
/- Lemmas. -/
namespace Go.Proofs.YtlapkmhemepcaaaGreatDoor
set_option linter.unusedVariables false
set_option linter.unusedSimpArgs false
open Go.RowKit
section
variable {D:Nat}{T T':Nat→Prop}{w w':World}{v:Value}{LL:List PL}
end
section
variable {D:Nat}{W W' Wa:World}{v v' nv:Value}{VS:List Value}{FSs:List (List PL)}{T T':Nat→Prop}{Fm:List PL}
end
section
variable {D:Nat}{W W':World}{b:Nat}{nv:Value}{U U':List Nat}{Fm:List PL}
end
section
variable {m:Nat}{W W':World}{b n:Nat}{cur:Array Value}{Z Z':Nat→Prop}
end
end Go.Proofs.YtlapkmhemepcaaaGreatDoor
