import Derived.Test.YtlapkmhemepcaaaGreatDoorZio
/- Lemmas. -/
set_option linter.all false
namespace Go.Proofs.YtlapkmhemepcaaaGreatDoor
open Go.RowKit
noncomputable def sumN (Fs a:List PL):List PL:=zad (sumC (zaf Fs) (zaf a))
open Classical in
noncomputable def znk (a b:List (List Int × List Int)):Bool:=decide (zar a/\zar b/\a.length*b.length<=1600/\zax (sumN (natF a) (natF b))=true)
open Classical in
theorem zh2 {a b:List (List Int × List Int)}:znk a b=true↔zar a/\zar b/\a.length*b.length<=1600/\zax (sumN (natF a) (natF b))=true:=by unfold znk;exact⟨λc=>of_decide_eq_true c,λc=>vX c⟩
theorem ycz:zar (i2 [([],[])]):=yif [] 0 (by decide)
