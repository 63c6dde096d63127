import Derived.Test.YtbbbmjiloihajaaGreatDoorZeSumFormsP
/- What the claim of FnNumberCard needs of: SumMany ManyP TimesP. -/
namespace Go.Proofs.YtbbbmjiloihajaaGreatDoor
set_option linter.unusedVariables false
set_option linter.unusedSimpArgs false
open Go.RowKit
end Go.Proofs.YtbbbmjiloihajaaGreatDoor
