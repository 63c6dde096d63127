import Derived.Test.YtiidnnpanickaaaGreatDoorZdMinLaw
/- What the claim of FnTinyCard needs of: CanEx SumGe. -/
namespace Go.Proofs.YtiidnnpanickaaaGreatDoor
set_option linter.unusedVariables false
set_option linter.unusedSimpArgs false
open Go.RowKit
end Go.Proofs.YtiidnnpanickaaaGreatDoor
