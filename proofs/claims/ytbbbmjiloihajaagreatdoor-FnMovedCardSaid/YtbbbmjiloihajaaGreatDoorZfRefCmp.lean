import Derived.Test.YtbbbmjiloihajaaGreatDoorZfRefRoot
import Derived.Test.YtbbbmjiloihajaaGreatDoorZfRefSumForms
import Derived.Test.YtbbbmjiloihajaaGreatDoorZfCompareP
/- What the claim of FnMovedCard needs of: RefCmp. -/
namespace Go.Proofs.YtbbbmjiloihajaaGreatDoor
set_option linter.unusedVariables false
set_option linter.unusedSimpArgs false
open Go.RowKit
end Go.Proofs.YtbbbmjiloihajaaGreatDoor
