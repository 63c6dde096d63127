import Derived.Test.YtlapkmhemepcaaaGreatDoorCards
import Derived.Test.YtlapkmhemepcaaaGreatDoorTie
import Derived.ProofKit
import Derived.Deep.DeepHandedRow
/- Lemmas. -/
set_option linter.all false
namespace Go.Proofs.YtlapkmhemepcaaaGreatDoor.fnSwitch
open Go.ChangeShapes Go.WideShapes Go.ChangeAt Go.RowKit
theorem band {a b:Bool}(ha:a=true)(hb:b=true):(a && b)=true:=by rw[ha,hb];rfl
set_option maxHeartbeats 20000000 in
theorem closed:joinedFacts Tryz.pinned.checked.prog 8 Tryz.f8 (OpenSpec.ofChange Rows.fnSwitchSpec).bare Rows.fnSwitchRow=true:=by
 unfold joinedFacts;repeat' (with_reducible refine band ?_ ?_)
 all_goals (as_aux_lemma=>kernel_rfl)
theorem named:Tryz.pinned.checked.prog.funcNamed Rows.fnSwitchRow.func=some 8:=by kernel_rfl
theorem wfText:Rows.fnSwitchRow.wfByText (OpenSpec.ofChange Rows.fnSwitchSpec)=true:=by kernel_rfl
theorem mainIs:Tryz.pinned.checked.prog.mainIs=some (true, "a634aa62ed00416fe353f4f59078e718e5505198c892fbcde8029d9861914bb1".toList):=by kernel_rfl
theorem looksNo:false=Tryz.pinned.checked.prog.looks []:=by kernel_rfl
theorem goesNo:false=Rows.fnSwitchRow.goesBy Tryz.pinned.checked.prog:=by kernel_rfl
theorem noStand:Tryz.prog.wantsStandIn 22=false:=by kernel_rfl
theorem own:ownKnob Tryz.prog.godebug=none:=by kernel_rfl
end Go.Proofs.YtlapkmhemepcaaaGreatDoor.fnSwitch
