import Derived.Test.YtknniemfpkjnbaaGreatDoorZhSumFn
import Derived.Test.YtknniemfpkjnbaaGreatDoorZhRefNum
/- What the claim of FnStopLineCard needs of: RefSumForms. -/
namespace Go.Proofs.YtknniemfpkjnbaaGreatDoor
set_option linter.unusedVariables false
set_option linter.unusedSimpArgs false
open Go.RowKit
end Go.Proofs.YtknniemfpkjnbaaGreatDoor
