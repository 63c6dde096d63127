import Derived.Test.YtknniemfpkjnbaaGreatDoorZgDyRow
import Derived.Test.YtknniemfpkjnbaaGreatDoorZgSumFn
/- What the claim of FnExactStopLineCard needs of: StopRes. -/
namespace Go.Proofs.YtknniemfpkjnbaaGreatDoor
set_option linter.unusedVariables false
set_option linter.unusedSimpArgs false
open Go.RowKit
open Classical in
noncomputable def zm8 (g:Bool)(Fi:List (List Int × List Int)):Bool:=g && decide (okTo (natF Fi) Fi.length)
noncomputable def zhh (g:Bool)(Fi:List (List Int × List Int))(left:Bool):List Nat:=if zm8 g Fi=true then zeb (natF Fi) (Fi.length-1) left else []
open Classical in
theorem zff {F:List PL}:zm8 true (i2 F)=true↔okTo F F.length:=by
 unfold zm8;rw[zh3,zbp,Bool.true_and];exact⟨fun h=>of_decide_eq_true h,fun h=>decide_eq_true h⟩
end Go.Proofs.YtknniemfpkjnbaaGreatDoor
