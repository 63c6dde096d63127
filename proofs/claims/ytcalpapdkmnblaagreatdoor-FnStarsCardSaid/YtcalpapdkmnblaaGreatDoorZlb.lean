import Derived.Test.YtcalpapdkmnblaaGreatDoorZl12
import Derived.Test.YtcalpapdkmnblaaGreatDoorZlg
import Derived.Test.YtcalpapdkmnblaaGreatDoorZlm
import Derived.Test.YtcalpapdkmnblaaGreatDoorZla
/- Lemmas. -/
namespace Go.Proofs.YtcalpapdkmnblaaGreatDoor
set_option linter.unusedVariables false
set_option linter.unusedSimpArgs false
open Go.RowKit
section
variable {U:List Nat}{pb sb:Nat}{mo mc ms:Value}{w W w':World}{V V1:List PL}{BV BV1:List Nat}{M I M1 I1:Nat→Prop}{f f1:Nat→Option Nat}
theorem ztf (hUl:U.length<1000000)(a1 a2:Option Addr)(n1 n2 c1 c2:Nat){L R cs ds:List Nat}(e1:n1=L.length)(e2:n2=R.length)(h:PSt encN NegMO U pb sb mo mc ms (.map (some sb)) W V BV M I f)(hL:Nats W (.slice a1 n1 c1) L)(hR:Nats W (.slice a2 n2 c2) R)
  (rL:RowC V L cs) (rR:RowC V R ds) (hc:mkC cs ds∈U) (ll:L.length≤1000) (lr:R.length≤1000) :
  Calls Tryz.prog 143 #[.pointer (some ⟨pb,0,none⟩),.slice a1 n1 c1,.slice a2 n2 c2] W fun e w'=>zp6 U pb sb mo mc ms W V M I (mkC cs ds) e w':=by
 subst e1;subst e2;have hlen:=h.len;refine(zvd pb V BV L R mo mc ms (.map (some sb)) a1 a2 c1 c2 W h.pool hL hR rL.1 rR.1 (by omega) (by omega) (by omega) (fun q hq=>by have:=(zf7 h.ok).lt V.length (Nat.le_refl _) q hq;omega)).mono ?_
 rintro e w' ⟨rfl,M5,I5,p5,hM5,hI5,f5⟩;obtain⟨st5,nx5,hr5,hc5⟩:=h.node (fun h hp=>h.mono hp) rL rR hc p5 hM5 hI5 f5;exact⟨_,_,_,_,_,_,rfl,st5,nx5,hr5,hc5⟩
end
end Go.Proofs.YtcalpapdkmnblaaGreatDoor
