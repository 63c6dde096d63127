import Derived.Test.YtkofnbjjbcohgaaGreatDoorZw4
import Derived.Test.YtkofnbjjbcohgaaGreatDoorZww
import Derived.Test.YtkofnbjjbcohgaaGreatDoorZwq
/- Lemmas. -/
namespace Go.Proofs.YtkofnbjjbcohgaaGreatDoor
set_option linter.unusedVariables false
set_option linter.unusedSimpArgs false
open Go.RowKit
def natF (Fi:List (List Int × List Int)):List PL:=Fi.map fun y=>(y.1.map Int.toNat,y.2.map Int.toNat)
theorem zox (L:List Nat):(ints L).map Int.toNat=L:=by
 unfold ints;rw[List.map_map];exact(List.map_congr_left fun x _=>Int.toNat_natCast x).trans (List.map_id _)
theorem znn (Fs:List PL):natF (i2 Fs)=Fs:=by
 unfold natF i2;rw[List.map_map];refine(List.map_congr_left fun y _=>?_).trans (List.map_id _);exact Prod.ext (zox _) (zox _)
end Go.Proofs.YtkofnbjjbcohgaaGreatDoor
