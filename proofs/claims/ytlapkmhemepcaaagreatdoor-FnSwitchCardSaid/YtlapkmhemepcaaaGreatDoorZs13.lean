import Derived.Test.YtlapkmhemepcaaaGreatDoorZs12
/- Lemmas. -/
set_option linter.all false
namespace Go.Proofs.YtlapkmhemepcaaaGreatDoor
open Go.RowKit
theorem zik {V:List PL}{C:List Nat}(B:BookC V C):∀j,j<V.length->C.getD j 0=(za0 V).getD j 0:=by intro j;induction j using Nat.strongRecOn with| _ j ih =>{intro hj;have ej:=xQ hj;obtain⟨o1,o2⟩:=B.opts j _ ej;have e1:∀L:List Nat,(∀x∈L,x<j)->za3 C L=za3 (za0 V) L:=λL hL=>uX λx hx=>ih x (hL x hx) (by have:=hL x hx;omega);rw[B.code j _ ej,zcg V B.opts j _ ej,e1 _ o1,e1 _ o2]}
theorem yc5 {Fs:List PL}(hg:zd6 (i2 Fs))(c:Nat)(hc:c=canC (zb7 Fs)) : BookC (za5 c) (za0 (za5 c))/\0<(za5 c).length/\(za5 c).length<=120/\(∀x,x<(za5 c).length->CanC ((za0 (za5 c)).getD x 0))/\(za0 (za5 c)).getD ((za5 c).length-1) 0=c:=by(obtain⟨hp,ho,hu,hk,_,hcode⟩:=zd1 (zaq c);have hB:=(zed ho hu (zdy ho hk)).book;have hcc:CanC c:=by rw[hc];exact(zi0 (zb7 Fs)).1);refine⟨hB,hp,?_,λx hx=>?_,hcode⟩;{have h1:(za5 (canC (zb7 Fs))).length<=Fs.length:=zzi (zi0 (zb7 Fs)).1 (zi0 (zb7 Fs)).2.2 (zi0 (zb7 Fs)).2.1 (zz0 hg);rw[<-hc]at h1;have h2:=(zcd hg).2.1;omega};{obtain⟨P,hA⟩:=zaq c;have hPl:=hA.book.len;rw[<-zik hA.book x hx];have hs:=(hA.sub _).1 (zc1 (C:=P) (i:=x) (by omega));exact λy hy=>hcc y (hs.trans hy)}
