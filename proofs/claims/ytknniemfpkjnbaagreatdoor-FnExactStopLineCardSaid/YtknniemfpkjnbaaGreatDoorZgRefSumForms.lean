import Derived.Test.YtknniemfpkjnbaaGreatDoorZgSumFn
import Derived.Test.YtknniemfpkjnbaaGreatDoorZgRefNum
/- What the claim of FnExactStopLineCard needs of: RefSumForms. -/
namespace Go.Proofs.YtknniemfpkjnbaaGreatDoor
set_option linter.unusedVariables false
set_option linter.unusedSimpArgs false
open Go.RowKit
end Go.Proofs.YtknniemfpkjnbaaGreatDoor
