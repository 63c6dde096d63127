import Derived.Test.YtiidnnpanickaaaGreatDoorCards
import Derived.Test.YtiidnnpanickaaaGreatDoorTie
import Derived.ProofKit
import Derived.Deep.DeepHandedRow
/- What the claim of FnExactPlusNumberCard needs of: FnExactPlusNumberFacts. -/
namespace Go.Proofs.YtiidnnpanickaaaGreatDoor.fnExactPlusNumber
set_option linter.unusedVariables false
set_option linter.unusedSimpArgs false
open Go.ChangeShapes Go.WideShapes Go.ChangeAt Go.RowKit
theorem band {a b:Bool} (ha:a=true) (hb:b=true):(a && b)=true:=by rw [ha,hb];rfl
set_option maxHeartbeats 20000000 in
theorem closed:joinedFacts Tryz.pinned.checked.prog 8 Tryz.f8 (OpenSpec.ofChange Rows.fnExactPlusNumberSpec).bare Rows.fnExactPlusNumberRow=true:=by
  unfold joinedFacts
  repeat' (with_reducible refine band ?_ ?_)
  all_goals (as_aux_lemma=>kernel_rfl)
theorem named:Tryz.pinned.checked.prog.funcNamed Rows.fnExactPlusNumberRow.func=some 8:=by kernel_rfl
theorem wfText:Rows.fnExactPlusNumberRow.wfByText (OpenSpec.ofChange Rows.fnExactPlusNumberSpec)=true:=by kernel_rfl
theorem mainIs:Tryz.pinned.checked.prog.mainIs=some (true, "8601e621072cd6db7c95d3fcfd22fe0bfba0a3d19ef625363dc4d337256dc742".toList):=by kernel_rfl
theorem looksNo:false=Tryz.pinned.checked.prog.looks []:=by kernel_rfl
theorem goesNo:false=Rows.fnExactPlusNumberRow.goesBy Tryz.pinned.checked.prog:=by kernel_rfl
theorem noStand:Tryz.prog.wantsStandIn 24=false:=by kernel_rfl
theorem noStandD:Tryz.prog.wantsStandIn 54=false:=by kernel_rfl
theorem own:ownKnob Tryz.prog.godebug=none:=by kernel_rfl
end Go.Proofs.YtiidnnpanickaaaGreatDoor.fnExactPlusNumber
