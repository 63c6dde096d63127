import Derived.Test.YtlapkmhemepcaaaGreatDoorZi0
import Derived.Test.YtlapkmhemepcaaaGreatDoorZi18
/- Lemmas. -/
set_option linter.all false
namespace Go.Proofs.YtlapkmhemepcaaaGreatDoor
open Go.RowKit
theorem StopIs.down {c:Nat}{l r:Int × Nat}(a:StopIs 18 c l r)(f:l.2<=16)(g:r.2<=16):atP 16 r<=atP 16 l:=by by_cases j:atP 16 l<atP 16 r;{exfalso;have b:=zie (P:=18) (by decide) f;have d:=zie (P:=18) (by decide) g;have h:=a.l2 (atP 18 l+1) (by omega);have i:=a.r1 (atP 18 l+2) (by{(have e:(2:Int)^(18-16)=4:=by decide);rw[e]at b d;omega});have:=zk6 (zae h i);omega};{omega}
theorem zp5 {F:List PL}(hF:zar (i2 F))(a:okTo F F.length):atP 16 (zac true (i2 F) false)<=atP 16 (zac true (i2 F) true):=by have b:=zb8 hF a true;have c:=zb8 hF a false;exact(zgk hF a (P:=18) (by decide)).down (by have:=b.2.1;omega) (by have:=c.2.1;omega)
def NegMO (V:List PL)(f:Nat->Option Nat):Prop:=∀b a,f b=some a->b<V.length/\a<V.length/\(za0 V).getD a 0=negC ((za0 V).getD b 0)
theorem NegMO.mono {V b:List PL}{f:Nat->Option Nat}(h:NegMO V f)(a:V <+: b):NegMO b f:=λj i g=>by obtain⟨c,d,e⟩:=h j i g;have:=a.length_le;exact⟨by omega,by omega,by rw[zap a d,zap a c];exact e⟩
theorem NegMO.none (V:List PL):NegMO V (λ_=>none):=λ_ _ a=>by cases a
def NegPost (U:List Nat)(pb sb:Nat)(k j l:Value)(w:World)(V:List PL)(M I:Nat->Prop)(c:Nat)(e:Ending)(g:World):Prop :=
 ∃(b:Nat) (a:List PL) (h:List Nat) (f d:Nat->Prop) (i:Nat->Option Nat),e=.returned (.int .i64 (b:Int)) ∧
   PSt encN NegMO U pb sb k j l (.map (some sb)) g a h f d i/\PNx sb w V M I g a f d/\b<a.length/\(za0 a).getD b 0=c
