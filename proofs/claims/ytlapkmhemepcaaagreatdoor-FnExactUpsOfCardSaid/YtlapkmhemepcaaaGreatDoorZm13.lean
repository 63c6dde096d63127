import Derived.Test.YtlapkmhemepcaaaGreatDoorZm12
import Derived.Test.YtlapkmhemepcaaaGreatDoorZm10
/- Lemmas. -/
namespace Go.Proofs.YtlapkmhemepcaaaGreatDoor
set_option linter.unusedVariables false
set_option linter.unusedSimpArgs false
open Go.RowKit
theorem zux {V:List PL}{C:List Nat}(B:BookC V C):∀j,j<V.length→C.getD j 0=(za0 V).getD j 0:=by
 intro j;induction j using Nat.strongRecOn with
 | _ j ih =>
  intro hj;have ej:=List.getElem?_eq_getElem hj
  obtain⟨o1,o2⟩:=B.opts j _ ej;have e1:∀L:List Nat,(∀x∈L,x<j)→za1 C L=za1 (za0 V) L:=fun L hL=>List.map_congr_left fun x hx=>ih x (hL x hx) (by have:=hL x hx;omega)
  rw[B.code j _ ej,zcg V B.opts j _ ej,e1 _ o1,e1 _ o2]
theorem yan {Fs:List PL}(hg:zfh (i2 Fs))(c:Nat)(hc:c=canC (zct Fs)) :
  BookC (zb8 c) (za0 (zb8 c))/\0<(zb8 c).length/\(zb8 c).length≤120/\(∀x,x<(zb8 c).length→CanC ((za0 (zb8 c)).getD x 0))/\(za0 (zb8 c)).getD ((zb8 c).length-1) 0=c:=by
 obtain⟨hp,ho,hu,hk,_,hcode⟩:=zx1 (zhp c);have hB:=(zg8 ho hu (zga ho hk)).book;have hcc:CanC c:=by rw[hc];exact(zpc (zct Fs)).1
 refine⟨hB,hp,?_,fun x hx=>?_,hcode⟩
 ·have h1:(zb8 (canC (zct Fs))).length≤Fs.length:=zy4 (zpc (zct Fs)).1 (zpc (zct Fs)).2.2 (zpc (zct Fs)).2.1 (zxq hg)
  rw[←hc]at h1;have h2:=(zgy hg).2.1;omega
 ·obtain⟨P,hA⟩:=zhp c
  have hPl:=hA.book.len;rw[←zux hA.book x hx];have hs:=(hA.sub _).1 (zde (C:=P) (i:=x) (by omega));exact fun y hy=>hcc y (hs.trans hy)
end Go.Proofs.YtlapkmhemepcaaaGreatDoor
