import Derived.Test.YtknniemfpkjnbaaGreatDoorZgSumKit
import Derived.Test.YtknniemfpkjnbaaGreatDoorZgGoodFormP
/- What the claim of FnExactStopLineCard needs of: RootP CompareP. -/
namespace Go.Proofs.YtknniemfpkjnbaaGreatDoor
set_option linter.unusedVariables false
set_option linter.unusedSimpArgs false
open Go.RowKit
end Go.Proofs.YtknniemfpkjnbaaGreatDoor
