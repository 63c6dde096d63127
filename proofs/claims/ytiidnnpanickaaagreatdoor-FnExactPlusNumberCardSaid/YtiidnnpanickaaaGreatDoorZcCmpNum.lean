import Derived.Test.YtiidnnpanickaaaGreatDoorZcRefNumD
import Derived.Test.YtiidnnpanickaaaGreatDoorZcNumR
import Derived.Test.YtiidnnpanickaaaGreatDoorZcRefCmp
/- What the claim of FnExactPlusNumberCard needs of: CmpNum. -/
namespace Go.Proofs.YtiidnnpanickaaaGreatDoor
set_option linter.unusedVariables false
set_option linter.unusedSimpArgs false
open Go.RowKit
end Go.Proofs.YtiidnnpanickaaaGreatDoor
