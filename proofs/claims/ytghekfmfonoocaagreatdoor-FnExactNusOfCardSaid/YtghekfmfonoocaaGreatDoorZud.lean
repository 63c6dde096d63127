import Derived.Test.YtghekfmfonoocaaGreatDoorZuz
/- Lemmas. -/
set_option linter.all false
namespace Go.Proofs.YtghekfmfonoocaaGreatDoor
open Go.RowKit
theorem zi0 {Fs:List PL}(a:zbh (i2 Fs)):za8 (zas Fs)=Fs:=(zui a).of.symm
theorem ycv (Fs a:List PL):sumN Fs a=sumN a Fs:=by unfold sumN;rw[znm]
theorem yc2:zas [([],[])]=zar:=by unfold zas zar;rw[show za0 [([],[])]=za0 ([] ++ [([],[])])from rfl,zem];rfl
