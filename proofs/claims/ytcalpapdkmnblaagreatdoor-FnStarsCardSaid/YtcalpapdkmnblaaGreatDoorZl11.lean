import Derived.Test.YtcalpapdkmnblaaGreatDoorZlo
import Derived.Test.YtcalpapdkmnblaaGreatDoorZl9
import Derived.StillTailTactics
/- Lemmas. -/
namespace Go.Proofs.YtcalpapdkmnblaaGreatDoor
set_option linter.unusedVariables false
set_option linter.unusedSimpArgs false
open Go.RowKit
theorem zv5 (w:World)(n:Nat):Fr NoM w (w.drewN n):=⟨rfl,rfl,rfl,Nat.le_refl _,fun _ _ _=>rfl⟩
end Go.Proofs.YtcalpapdkmnblaaGreatDoor
