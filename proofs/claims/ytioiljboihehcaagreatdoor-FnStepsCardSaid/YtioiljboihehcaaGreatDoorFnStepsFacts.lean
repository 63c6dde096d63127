/- The closed facts of the row and the card of FnSteps, each by itself. -/
import Derived.Test.YtioiljboihehcaaGreatDoorCards
import Derived.Test.YtioiljboihehcaaGreatDoorTie
import Derived.ProofKit
import Derived.Deep.DeepHandedRow
namespace Go.Proofs.YtioiljboihehcaaGreatDoor.fnSteps
set_option linter.unusedVariables false
set_option linter.unusedSimpArgs false
open Go.ChangeShapes Go.WideShapes Go.ChangeAt Go.RowKit

theorem band {a b : Bool} (ha : a = true) (hb : b = true) : (a && b) = true := by rw [ha, hb]; rfl
set_option maxHeartbeats 20000000 in
theorem closed : joinedFacts Tryz.pinned.checked.prog 7 Tryz.f7 (OpenSpec.ofChange Rows.fnStepsSpec).bare Rows.fnStepsRow = true := by
  unfold joinedFacts
  repeat' (with_reducible refine band ?_ ?_)
  all_goals (as_aux_lemma => kernel_rfl)
theorem named : Tryz.pinned.checked.prog.funcNamed Rows.fnStepsRow.func = some 7 := by kernel_rfl
theorem wfText : Rows.fnStepsRow.wfByText (OpenSpec.ofChange Rows.fnStepsSpec) = true := by kernel_rfl
theorem mainIs : Tryz.pinned.checked.prog.mainIs = some (true, "d3e616db9c318a608281409ffe0609ac3d8331e3273f6379e65891b3659ad9b5".toList) := by kernel_rfl
theorem looksNo : false = Tryz.pinned.checked.prog.looks [] := by kernel_rfl
theorem goesNo : false = Rows.fnStepsRow.goesBy Tryz.pinned.checked.prog := by kernel_rfl
theorem noStand : Tryz.prog.wantsStandIn 35 = false := by kernel_rfl
theorem own : ownKnob Tryz.prog.godebug = none := by kernel_rfl
end Go.Proofs.YtioiljboihehcaaGreatDoor.fnSteps
