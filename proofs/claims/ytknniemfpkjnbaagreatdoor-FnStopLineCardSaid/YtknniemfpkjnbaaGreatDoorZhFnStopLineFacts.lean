import Derived.Test.YtknniemfpkjnbaaGreatDoorCards
import Derived.Test.YtknniemfpkjnbaaGreatDoorTie
import Derived.ProofKit
import Derived.Deep.DeepHandedRow
/- What the claim of FnStopLineCard needs of: FnStopLineFacts. -/
namespace Go.Proofs.YtknniemfpkjnbaaGreatDoor.fnStopLine
set_option linter.unusedVariables false
set_option linter.unusedSimpArgs false
open Go.ChangeShapes Go.WideShapes Go.ChangeAt Go.RowKit
theorem band {a b:Bool}(ha:a=true)(hb:b=true):(a && b)=true:=by rw[ha,hb];rfl
set_option maxHeartbeats 20000000 in
theorem closed:joinedFacts Tryz.pinned.checked.prog 4 Tryz.f4 (OpenSpec.ofChange Rows.fnStopLineSpec).bare Rows.fnStopLineRow=true:=by
 unfold joinedFacts;repeat' (with_reducible refine band ?_ ?_)
 all_goals (as_aux_lemma=>kernel_rfl)
theorem named:Tryz.pinned.checked.prog.funcNamed Rows.fnStopLineRow.func=some 4:=by kernel_rfl
theorem wfText:Rows.fnStopLineRow.wfByText (OpenSpec.ofChange Rows.fnStopLineSpec)=true:=by kernel_rfl
theorem mainIs:Tryz.pinned.checked.prog.mainIs=some (true, "87f032533c0571b276d79b10cf2fd332623f0c6a2d3c221bf12be2b7777f653c".toList):=by kernel_rfl
theorem looksNo:false=Tryz.pinned.checked.prog.looks []:=by kernel_rfl
theorem goesNo:false=Rows.fnStopLineRow.goesBy Tryz.pinned.checked.prog:=by kernel_rfl
theorem noStand:Tryz.prog.wantsStandIn 38=false:=by kernel_rfl
theorem own:ownKnob Tryz.prog.godebug=none:=by kernel_rfl
end Go.Proofs.YtknniemfpkjnbaaGreatDoor.fnStopLine
