import Derived.Test.YtioiljboihehcaaGreatDoorCards
import Derived.Test.YtioiljboihehcaaGreatDoorTie
import Derived.ProofKit
import Derived.Deep.DeepHandedRow
/- What the claim of FnOneFormCard needs of: FnOneFormFacts. -/
namespace Go.Proofs.YtioiljboihehcaaGreatDoor.fnOneForm

set_option linter.unusedVariables false

set_option linter.unusedSimpArgs false

open Go.ChangeShapes Go.WideShapes Go.ChangeAt Go.RowKit

theorem band {a b : Bool} (ha : a = true) (hb : b = true) : (a && b) = true := by rw [ha, hb]; rfl

set_option maxHeartbeats 20000000 in
theorem closed : joinedFacts Tryz.pinned.checked.prog 8 Tryz.f8 (OpenSpec.ofChange Rows.fnOneFormSpec).bare Rows.fnOneFormRow = true := by
  unfold joinedFacts
  repeat' (with_reducible refine band ?_ ?_)
  all_goals (as_aux_lemma => kernel_rfl)

theorem named : Tryz.pinned.checked.prog.funcNamed Rows.fnOneFormRow.func = some 8 := by kernel_rfl

theorem wfText : Rows.fnOneFormRow.wfByText (OpenSpec.ofChange Rows.fnOneFormSpec) = true := by kernel_rfl

theorem mainIs : Tryz.pinned.checked.prog.mainIs = some (true, "d3e616db9c318a608281409ffe0609ac3d8331e3273f6379e65891b3659ad9b5".toList) := by kernel_rfl

theorem looksNo : false = Tryz.pinned.checked.prog.looks [] := by kernel_rfl

theorem goesNo : false = Rows.fnOneFormRow.goesBy Tryz.pinned.checked.prog := by kernel_rfl

theorem noStand : Tryz.prog.wantsStandIn 35 = false := by kernel_rfl

theorem own : ownKnob Tryz.prog.godebug = none := by kernel_rfl

end Go.Proofs.YtioiljboihehcaaGreatDoor.fnOneForm
