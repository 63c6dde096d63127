import Derived.Test.YtiidnnpanickaaaGreatDoorZbSumLaw
import Derived.Test.YtiidnnpanickaaaGreatDoorZbRefDropForm
/- What the claim of FnExactCompareNumberCard needs of: SumFn. -/
namespace Go.Proofs.YtiidnnpanickaaaGreatDoor
set_option linter.unusedVariables false
set_option linter.unusedSimpArgs false
open Go.RowKit
end Go.Proofs.YtiidnnpanickaaaGreatDoor
