import Derived.Test.YtiidnnpanickaaaGreatDoorZcSumGe
import Derived.Test.YtiidnnpanickaaaGreatDoorZcSumFn
/- What the claim of FnExactPlusNumberCard needs of: GroupLaw. -/
namespace Go.Proofs.YtiidnnpanickaaaGreatDoor
set_option linter.unusedVariables false
set_option linter.unusedSimpArgs false
open Go.RowKit
theorem formOf_codeF {Fs:List PL} (h:goodI (i2 Fs)):formOf (codeF Fs)=Fs:=(good_form h).of.symm
theorem codeF_zero:codeF [([],[])]=zeroC:=by
  unfold codeF zeroC
  rw [show codesOf [([],[])]=codesOf ([] ++ [([],[])]) from rfl,codesOf_snoc]
  rfl
end Go.Proofs.YtiidnnpanickaaaGreatDoor
