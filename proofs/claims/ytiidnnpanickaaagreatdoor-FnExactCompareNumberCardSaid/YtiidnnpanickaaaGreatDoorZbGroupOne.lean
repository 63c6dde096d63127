import Derived.Test.YtiidnnpanickaaaGreatDoorZbSumLaw
/- What the claim of FnExactCompareNumberCard needs of: CanLaw GroupOne. -/
namespace Go.Proofs.YtiidnnpanickaaaGreatDoor
set_option linter.unusedVariables false
set_option linter.unusedSimpArgs false
open Go.RowKit
def zeroC : Nat := mkC [] []
theorem zeroL (i : Nat) : ¬ hasL zeroC i := fun h => by
  have := (hasL_mk [] [] i).1 h
  simp at this
theorem zeroR (i : Nat) : ¬ hasR zeroC i := fun h => by
  have := (hasR_mk [] [] i).1 h
  simp at this
end Go.Proofs.YtiidnnpanickaaaGreatDoor
