import Derived.Test.YtlapkmhemepcaaaGreatDoorZi1n
import Derived.Test.YtlapkmhemepcaaaGreatDoorZid
/- Lemmas. -/
set_option linter.all false
namespace Go.Proofs.YtlapkmhemepcaaaGreatDoor
open Go.RowKit
theorem yfa {t:Int}{p:Nat}(b:Red t p)(c:120<=numB t p):zax (numN t p)=false:=by cases a:zax (numN t p)with| false=>rfl| true =>{unfold zax at a;rw[kJ]at a;have d:=zyh (numC t p);have e:=zyg p t b;have f:(zad (numC t p)).length<=120:=a.1;omega}
theorem yhk {n k:Nat}(c:k<=n):SubC (posC n) (posC k):=by induction n with| zero =>{(have:k=0:=by omega);subst this;exact .root}| succ n b =>{by_cases a:k=n+1;{subst a;exact .root};{exact(SubC.root.step (show optC (posC (n+1)) (posC n)from .inl ((zam _ _ _).2 (by simp)))).trans (b (by omega))}}
theorem yeh {n k:Nat}(c:k<=n):SubC (zh0 n) (zh0 k):=by induction n with| zero =>{(have:k=0:=by omega);subst this;exact .root}| succ n b =>{by_cases a:k=n+1;{subst a;exact .root};{exact(SubC.root.step (show optC (zh0 (n+1)) (zh0 n)from .inr ((zak _ _ _).2 (by simp)))).trans (b (by omega))}}
