import Derived.Test.YtlapkmhemepcaaaGreatDoorZir
/- Lemmas. -/
set_option linter.all false
namespace Go.Proofs.YtlapkmhemepcaaaGreatDoor
open Go.RowKit
def negC (a:Nat):Nat:=mkC ((zk0 a).attach.map λc=>negC c.1) ((zrp a).attach.map λb=>negC b.1)
 termination_by a
 decreasing_by
  ·exact za7 (.inr (zbh.1 c.2))
  ·exact za7 (.inl (zbu.1 b.2))
