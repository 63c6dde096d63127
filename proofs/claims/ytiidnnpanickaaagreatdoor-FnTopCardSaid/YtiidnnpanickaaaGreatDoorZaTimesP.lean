import Derived.Test.YtiidnnpanickaaaGreatDoorZaSumFormsP
/- What the claim of FnTopCard needs of: SumMany ManyP TimesP. -/
namespace Go.Proofs.YtiidnnpanickaaaGreatDoor
set_option linter.unusedVariables false
set_option linter.unusedSimpArgs false
open Go.RowKit
end Go.Proofs.YtiidnnpanickaaaGreatDoor
