import Derived.Test.YtghekfmfonoocaaGreatDoorCards
import Derived.Test.YtghekfmfonoocaaGreatDoorTie
import Derived.ProofKit
import Derived.Deep.DeepHandedRow
/- Lemmas. -/
set_option linter.all false
namespace Go.Proofs.YtghekfmfonoocaaGreatDoor.fnExactNusOf
open Go.ChangeShapes Go.WideShapes Go.ChangeAt Go.RowKit
theorem band {a b:Bool}(ha:a=true)(hb:b=true):(a && b)=true:=by rw[ha,hb];rfl
set_option maxHeartbeats 20000000 in
theorem closed:joinedFacts Tryz.pinned.checked.prog 4 Tryz.f4 (OpenSpec.ofChange Rows.fnExactNusOfSpec).bare Rows.fnExactNusOfRow=true:=by
 unfold joinedFacts;repeat' (with_reducible refine band ?_ ?_)
 all_goals (as_aux_lemma=>kernel_rfl)
theorem named:Tryz.pinned.checked.prog.funcNamed Rows.fnExactNusOfRow.func=some 4:=by kernel_rfl
theorem wfText:Rows.fnExactNusOfRow.wfByText (OpenSpec.ofChange Rows.fnExactNusOfSpec)=true:=by kernel_rfl
theorem mainIs:Tryz.pinned.checked.prog.mainIs=some (true, "5fa359b626dd8f1ba8726b0f5e50beabe5b5b5b79cb78ad033c8e3e3ab0e1335".toList):=by kernel_rfl
theorem looksNo:false=Tryz.pinned.checked.prog.looks []:=by kernel_rfl
theorem goesNo:false=Rows.fnExactNusOfRow.goesBy Tryz.pinned.checked.prog:=by kernel_rfl
theorem noStand:Tryz.prog.wantsStandIn 36=false:=by kernel_rfl
theorem own:ownKnob Tryz.prog.godebug=none:=by kernel_rfl
end Go.Proofs.YtghekfmfonoocaaGreatDoor.fnExactNusOf
