import Derived.Test.YtlapkmhemepcaaaGreatDoorZmi
/- Lemmas. -/
namespace Go.Proofs.YtlapkmhemepcaaaGreatDoor
set_option linter.unusedVariables false
set_option linter.unusedSimpArgs false
open Go.RowKit
theorem ya3 (Fi:List (List Int × List Int)):∃g:Bool,(g=true↔zfh Fi):=by
 by_cases h:zfh Fi
 ·exact⟨true,by simp[h]⟩
 ·exact⟨false,by simp[h]⟩
end Go.Proofs.YtlapkmhemepcaaaGreatDoor
