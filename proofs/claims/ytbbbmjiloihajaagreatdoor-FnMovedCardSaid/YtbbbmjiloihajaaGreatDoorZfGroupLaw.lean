import Derived.Test.YtbbbmjiloihajaaGreatDoorZfNumR
import Derived.Test.YtbbbmjiloihajaaGreatDoorZfRefCmp
/- What the claim of FnMovedCard needs of: CmpNum GroupLaw. -/
namespace Go.Proofs.YtbbbmjiloihajaaGreatDoor
set_option linter.unusedVariables false
set_option linter.unusedSimpArgs false
open Go.RowKit
theorem zk6 {Fs:List PL}(h:zb2 (i2 Fs)):zak (zab Fs)=Fs:=(zmr h).of.symm
theorem zvk:zab [([],[])]=zk8:=by
 unfold zab zk8;rw[show za0 [([],[])]=za0 ([] ++ [([],[])])from rfl,zdk];rfl
end Go.Proofs.YtbbbmjiloihajaaGreatDoor
