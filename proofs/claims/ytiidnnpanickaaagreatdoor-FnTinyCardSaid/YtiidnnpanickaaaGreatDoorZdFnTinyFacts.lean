import Derived.Test.YtiidnnpanickaaaGreatDoorCards
import Derived.Test.YtiidnnpanickaaaGreatDoorTie
import Derived.ProofKit
import Derived.Deep.DeepHandedRow
/- What the claim of FnTinyCard needs of: FnTinyFacts. -/
namespace Go.Proofs.YtiidnnpanickaaaGreatDoor.fnTiny
set_option linter.unusedVariables false
set_option linter.unusedSimpArgs false
open Go.ChangeShapes Go.WideShapes Go.ChangeAt Go.RowKit
theorem band {a b:Bool} (ha:a=true) (hb:b=true):(a && b)=true:=by rw [ha,hb];rfl
set_option maxHeartbeats 20000000 in
theorem closed:joinedFacts Tryz.pinned.checked.prog 5 Tryz.f5 (OpenSpec.ofChange Rows.fnTinySpec).bare Rows.fnTinyRow=true:=by
  unfold joinedFacts
  repeat' (with_reducible refine band ?_ ?_)
  all_goals (as_aux_lemma=>kernel_rfl)
theorem named:Tryz.pinned.checked.prog.funcNamed Rows.fnTinyRow.func=some 5:=by kernel_rfl
theorem wfText:Rows.fnTinyRow.wfByText (OpenSpec.ofChange Rows.fnTinySpec)=true:=by kernel_rfl
theorem mainIs:Tryz.pinned.checked.prog.mainIs=some (true, "8601e621072cd6db7c95d3fcfd22fe0bfba0a3d19ef625363dc4d337256dc742".toList):=by kernel_rfl
theorem looksNo:false=Tryz.pinned.checked.prog.looks []:=by kernel_rfl
theorem goesNo:false=Rows.fnTinyRow.goesBy Tryz.pinned.checked.prog:=by kernel_rfl
theorem noStand:Tryz.prog.wantsStandIn 41=false:=by kernel_rfl
theorem own:ownKnob Tryz.prog.godebug=none:=by kernel_rfl
end Go.Proofs.YtiidnnpanickaaaGreatDoor.fnTiny
