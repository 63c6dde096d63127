import Derived.Test.YtknniemfpkjnbaaGreatDoorZgRefRoot
import Derived.Test.YtknniemfpkjnbaaGreatDoorZgRefSumForms
/- What the claim of FnExactStopLineCard needs of: RefCmp. -/
namespace Go.Proofs.YtknniemfpkjnbaaGreatDoor
set_option linter.unusedVariables false
set_option linter.unusedSimpArgs false
open Go.RowKit
end Go.Proofs.YtknniemfpkjnbaaGreatDoor
