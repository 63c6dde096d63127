/- The closed facts of the row and the card of FnExactSumOfMany, each by itself. -/
import Derived.Test.YtkbljlbfkgoalaaGreatDoorCards
import Derived.Test.YtkbljlbfkgoalaaGreatDoorTie
import Derived.ProofKit
import Derived.Deep.DeepHandedRow
namespace Go.Proofs.YtkbljlbfkgoalaaGreatDoor.fnExactSumOfMany
set_option linter.unusedVariables false
set_option linter.unusedSimpArgs false
open Go.ChangeShapes Go.WideShapes Go.ChangeAt Go.RowKit

theorem band {a b : Bool} (ha : a = true) (hb : b = true) : (a && b) = true := by rw [ha, hb]; rfl
set_option maxHeartbeats 20000000 in
theorem closed : joinedFacts Tryz.pinned.checked.prog 4 Tryz.f4 (OpenSpec.ofChange Rows.fnExactSumOfManySpec).bare Rows.fnExactSumOfManyRow = true := by
  unfold joinedFacts
  repeat' (with_reducible refine band ?_ ?_)
  all_goals (as_aux_lemma => kernel_rfl)
theorem named : Tryz.pinned.checked.prog.funcNamed Rows.fnExactSumOfManyRow.func = some 4 := by kernel_rfl
theorem wfText : Rows.fnExactSumOfManyRow.wfByText (OpenSpec.ofChange Rows.fnExactSumOfManySpec) = true := by kernel_rfl
theorem mainIs : Tryz.pinned.checked.prog.mainIs = some (true, "6a408f6c5cdbc926e8b417e94358fcc162a9990dd2020e5f4c45ca77eba9548a".toList) := by kernel_rfl
theorem looksNo : false = Tryz.pinned.checked.prog.looks [] := by kernel_rfl
theorem goesNo : false = Rows.fnExactSumOfManyRow.goesBy Tryz.pinned.checked.prog := by kernel_rfl
theorem noStand : Tryz.prog.wantsStandIn 30 = false := by kernel_rfl
theorem own : ownKnob Tryz.prog.godebug = none := by kernel_rfl
end Go.Proofs.YtkbljlbfkgoalaaGreatDoor.fnExactSumOfMany
