import Derived.Test.YtbbbmjiloihajaaGreatDoorZfRefCan
/- What the claim of FnMovedCard needs of: NumSay TopP. -/
namespace Go.Proofs.YtbbbmjiloihajaaGreatDoor
set_option linter.unusedVariables false
set_option linter.unusedSimpArgs false
open Go.RowKit
theorem zzc (t:Int)(p:Nat):zab (numN t p)=numC t p:=by unfold numN;rw[zb7]
theorem zr6 {Fs:List PL}(hf:zam (canN Fs)=true):zb2 (i2 (canN Fs)):=(zpv (zbf _) hf).1
theorem zvm (Fs:List PL):zab (canN Fs)=canC (zab Fs):=by unfold canN;rw[zb7]
end Go.Proofs.YtbbbmjiloihajaaGreatDoor
