import Derived.Test.YtlapkmhemepcaaaGreatDoorZih
import Derived.Test.YtlapkmhemepcaaaGreatDoorZij
/- Lemmas. -/
set_option linter.all false
namespace Go.Proofs.YtlapkmhemepcaaaGreatDoor
open Go.RowKit
theorem EqC.can {a b:Nat}(c:EqC a b):canC a=canC b:=ygi.2 c
theorem zxk (a b:Nat):geC (negC a) (negC b)=geC b a:=by rw[<-(zry (negC a) (negC b)).1,neg_neg,zix,(zry b a).1]
theorem yhy (P:Nat):nr 0 P=zfy:=by have a:=zk4 0 P;rw[Int.zero_mul]at a;rw[a,zt9]
section
variable {s:Int}{P:Nat}(hs:0<s)
include hs
end
