import Derived.Test.YtiidnnpanickaaaGreatDoorCards
import Derived.Test.YtiidnnpanickaaaGreatDoorTie
import Derived.ProofKit
import Derived.Deep.DeepHandedRow
/- What the claim of FnExactCompareNumberCard needs of: FnExactCompareNumberFacts. -/
namespace Go.Proofs.YtiidnnpanickaaaGreatDoor.fnExactCompareNumber
set_option linter.unusedVariables false
set_option linter.unusedSimpArgs false
open Go.ChangeShapes Go.WideShapes Go.ChangeAt Go.RowKit
theorem band {a b : Bool} (ha : a = true) (hb : b = true) : (a && b) = true := by rw [ha, hb]; rfl
set_option maxHeartbeats 20000000 in
theorem closed : joinedFacts Tryz.pinned.checked.prog 6 Tryz.f6 (OpenSpec.ofChange Rows.fnExactCompareNumberSpec).bare Rows.fnExactCompareNumberRow = true := by
  unfold joinedFacts
  repeat' (with_reducible refine band ?_ ?_)
  all_goals (as_aux_lemma => kernel_rfl)
theorem named : Tryz.pinned.checked.prog.funcNamed Rows.fnExactCompareNumberRow.func = some 6 := by kernel_rfl
theorem wfText : Rows.fnExactCompareNumberRow.wfByText (OpenSpec.ofChange Rows.fnExactCompareNumberSpec) = true := by kernel_rfl
theorem mainIs : Tryz.pinned.checked.prog.mainIs = some (true, "8601e621072cd6db7c95d3fcfd22fe0bfba0a3d19ef625363dc4d337256dc742".toList) := by kernel_rfl
theorem looksNo : false = Tryz.pinned.checked.prog.looks [] := by kernel_rfl
theorem goesNo : false = Rows.fnExactCompareNumberRow.goesBy Tryz.pinned.checked.prog := by kernel_rfl
theorem noStand : Tryz.prog.wantsStandIn 24 = false := by kernel_rfl
theorem noStandD : Tryz.prog.wantsStandIn 54 = false := by kernel_rfl
theorem own : ownKnob Tryz.prog.godebug = none := by kernel_rfl
end Go.Proofs.YtiidnnpanickaaaGreatDoor.fnExactCompareNumber
