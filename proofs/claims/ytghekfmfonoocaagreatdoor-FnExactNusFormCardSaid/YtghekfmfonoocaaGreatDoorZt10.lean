import Derived.Test.YtghekfmfonoocaaGreatDoorZth
/- Lemmas. -/
namespace Go.Proofs.YtghekfmfonoocaaGreatDoor
set_option linter.unusedVariables false
set_option linter.unusedSimpArgs false
open Go.RowKit
theorem yd6 (s:Nat):s ^^^ 1≤s+1:=by
 have h:(s ^^^ 1)/2=s/2:=by rw[Nat.xor_div_two];simp
 omega
theorem zrh (s:Nat)(h:s≤2000000):bits BinOp.xor IntKind.i64 (s:Int) 1=((s ^^^ 1:Nat):Int):=by
 have h1:=yd6 s;show IntKind.i64.wrap (((BitVec.ofInt 64 (s:Int) ^^^ BitVec.ofInt 64 1).toNat:Nat):Int)=_
 rw[BitVec.toNat_xor,BitVec.toNat_ofInt,BitVec.toNat_ofInt];have e1:((s:Int)%((2^64:Nat):Int)).toNat=s:=by omega
 have e2:((1:Int)%((2^64:Nat):Int)).toNat=1:=by decide
 rw[e1,e2,IntKind.wrap_i64];omega
section
variable {c:Nat}{A B:List Nat}
end
end Go.Proofs.YtghekfmfonoocaaGreatDoor
