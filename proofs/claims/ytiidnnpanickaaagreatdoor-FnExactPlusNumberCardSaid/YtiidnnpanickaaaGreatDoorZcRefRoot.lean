import Derived.Test.YtiidnnpanickaaaGreatDoorZcRefNum
import Derived.Test.YtiidnnpanickaaaGreatDoorZcSumFn
/- What the claim of FnExactPlusNumberCard needs of: RefRoot. -/
namespace Go.Proofs.YtiidnnpanickaaaGreatDoor
set_option linter.unusedVariables false
set_option linter.unusedSimpArgs false
open Go.RowKit
section
variable {U:List Nat} {S:Nat→Prop} {w w':World} {bb:Nat} {V:List PL} {BV:List Nat}
end
end Go.Proofs.YtiidnnpanickaaaGreatDoor
