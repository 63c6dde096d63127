import Derived.Test.YtlapkmhemepcaaaGreatDoorZid
import Derived.Test.YtlapkmhemepcaaaGreatDoorZii
import Derived.Test.YtlapkmhemepcaaaGreatDoorZij
/- Lemmas. -/
set_option linter.all false
namespace Go.Proofs.YtlapkmhemepcaaaGreatDoor
open Go.RowKit
theorem yav {x y:Nat}(a:Nat)(b:geC x y=true):geC (sumC a x) (sumC a y)=true:=by rw[zix a x,zix a y];exact yax a b
