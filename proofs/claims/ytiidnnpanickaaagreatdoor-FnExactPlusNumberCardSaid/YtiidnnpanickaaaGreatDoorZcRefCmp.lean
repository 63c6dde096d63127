import Derived.Test.YtiidnnpanickaaaGreatDoorZcRefRoot
import Derived.Test.YtiidnnpanickaaaGreatDoorZcRefSumForms
import Derived.Test.YtiidnnpanickaaaGreatDoorZcCompareP
/- What the claim of FnExactPlusNumberCard needs of: RefCmp. -/
namespace Go.Proofs.YtiidnnpanickaaaGreatDoor
set_option linter.unusedVariables false
set_option linter.unusedSimpArgs false
open Go.RowKit
end Go.Proofs.YtiidnnpanickaaaGreatDoor
