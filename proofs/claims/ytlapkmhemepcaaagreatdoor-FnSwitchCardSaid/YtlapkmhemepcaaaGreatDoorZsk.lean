import Derived.Test.YtlapkmhemepcaaaGreatDoorZsj
import Derived.Test.YtlapkmhemepcaaaGreatDoorZsw
/- Lemmas. -/
set_option linter.all false
namespace Go.Proofs.YtlapkmhemepcaaaGreatDoor
open Go.RowKit
open Classical in
noncomputable def zms (g:Bool)(Fi:List (List Int × List Int)):Bool:=g && decide (okTo (natF Fi) Fi.length)
noncomputable def zcv (g:Bool)(Fi:List (List Int × List Int))(left:Bool):Int × Nat:=if zms g Fi=true then sOf (natF Fi) left (Fi.length-1)else (0,0)
open Classical in
theorem zgb {F:List PL}:zms true (i2 F)=true↔okTo F F.length:=by unfold zms;rw[zfv,zcb,Bool.true_and];exact⟨λh=>of_decide_eq_true h,λh=>vV h⟩
