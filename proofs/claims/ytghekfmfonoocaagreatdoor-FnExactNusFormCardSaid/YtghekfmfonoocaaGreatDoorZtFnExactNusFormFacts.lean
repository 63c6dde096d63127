import Derived.Test.YtghekfmfonoocaaGreatDoorCards
import Derived.Test.YtghekfmfonoocaaGreatDoorTie
import Derived.ProofKit
import Derived.Deep.DeepHandedRow
/- Lemmas. -/
namespace Go.Proofs.YtghekfmfonoocaaGreatDoor.fnExactNusForm
set_option linter.unusedVariables false
set_option linter.unusedSimpArgs false
open Go.ChangeShapes Go.WideShapes Go.ChangeAt Go.RowKit
theorem band {a b:Bool}(ha:a=true)(hb:b=true):(a && b)=true:=by rw[ha,hb];rfl
set_option maxHeartbeats 20000000 in
theorem closed:joinedFacts Tryz.pinned.checked.prog 3 Tryz.f3 (OpenSpec.ofChange Rows.fnExactNusFormSpec).bare Rows.fnExactNusFormRow=true:=by
 unfold joinedFacts;repeat' (with_reducible refine band ?_ ?_)
 all_goals (as_aux_lemma=>kernel_rfl)
theorem named:Tryz.pinned.checked.prog.funcNamed Rows.fnExactNusFormRow.func=some 3:=by kernel_rfl
theorem wfText:Rows.fnExactNusFormRow.wfByText (OpenSpec.ofChange Rows.fnExactNusFormSpec)=true:=by kernel_rfl
theorem mainIs:Tryz.pinned.checked.prog.mainIs=some (true, "5fa359b626dd8f1ba8726b0f5e50beabe5b5b5b79cb78ad033c8e3e3ab0e1335".toList):=by kernel_rfl
theorem looksNo:false=Tryz.pinned.checked.prog.looks []:=by kernel_rfl
theorem goesNo:false=Rows.fnExactNusFormRow.goesBy Tryz.pinned.checked.prog:=by kernel_rfl
theorem noStand:Tryz.prog.wantsStandIn 3=false:=by kernel_rfl
theorem noStandD:Tryz.prog.wantsStandIn 23=false:=by kernel_rfl
theorem own:ownKnob Tryz.prog.godebug=none:=by kernel_rfl
end Go.Proofs.YtghekfmfonoocaaGreatDoor.fnExactNusForm
