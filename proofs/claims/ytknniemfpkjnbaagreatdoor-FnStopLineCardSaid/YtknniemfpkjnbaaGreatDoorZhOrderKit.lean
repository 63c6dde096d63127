import Derived.Test.YtknniemfpkjnbaaGreatDoorZhRefRoot
import Derived.Test.YtknniemfpkjnbaaGreatDoorZhRefSumForms
/- What the claim of FnStopLineCard needs of: RefCmp OrderKit. -/
namespace Go.Proofs.YtknniemfpkjnbaaGreatDoor
set_option linter.unusedVariables false
set_option linter.unusedSimpArgs false
open Go.RowKit
end Go.Proofs.YtknniemfpkjnbaaGreatDoor
