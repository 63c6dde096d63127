import Derived.Test.YtknniemfpkjnbaaGreatDoorZhDyRow
import Derived.Test.YtknniemfpkjnbaaGreatDoorZhSumFn
/- What the claim of FnStopLineCard needs of: StopRes. -/
namespace Go.Proofs.YtknniemfpkjnbaaGreatDoor
set_option linter.unusedVariables false
set_option linter.unusedSimpArgs false
open Go.RowKit
open Classical in
noncomputable def zgt (g:Bool)(Fi:List (List Int × List Int)):Bool:=g && decide (okTo (natF Fi) Fi.length)
noncomputable def zgd (g:Bool)(Fi:List (List Int × List Int))(left:Bool):List Nat:=if zgt g Fi=true then zdu (natF Fi) (Fi.length-1) left else []
noncomputable def zcu (g:Bool)(Fi:List (List Int × List Int))(left:Bool):Int × Nat:=if zgt g Fi=true then sOf (natF Fi) left (Fi.length-1)else (0,0)
open Classical in
theorem zem {F:List PL}:zgt true (i2 F)=true↔okTo F F.length:=by
 unfold zgt;rw[zdr,zbc,Bool.true_and];exact⟨fun h=>of_decide_eq_true h,fun h=>decide_eq_true h⟩
end Go.Proofs.YtknniemfpkjnbaaGreatDoor
