import Derived.Test.YtcalpapdkmnblaaGreatDoorZlg
/- Lemmas. -/
namespace Go.Proofs.YtcalpapdkmnblaaGreatDoor
set_option linter.unusedVariables false
set_option linter.unusedSimpArgs false
open Go.RowKit
section
variable {s:Int}{P:Nat}(hs:0<s)
include hs
end
def FewC (c:Nat):Prop:=∀s,SubC c s→(∀A:List Nat,A.Nodup→(∀a∈A,hasL s a)→A.length≤24)/\∀A:List Nat,A.Nodup→(∀a∈A,hasR s a)→A.length≤24
theorem zhn {P L:List Nat}{n:Nat}(hP:P.Nodup)(hL:L.Pairwise (· < ·))(hl:∀x∈L,x<n)(hn:n≤P.length):(za3 P L).Nodup:=by
 unfold za3;refine List.pairwise_map.2 (hL.imp_of_mem ?_);intro a b ha hb hab e;have la:=hl a ha;have lb:=hl b hb;rw[zf0 (List.getElem?_eq_getElem (show a<P.length by omega)),zf0 (List.getElem?_eq_getElem (show b<P.length by omega))]at e;have:=(List.getElem_inj hP).1 e;omega
theorem zoy {c:Nat}(hl:(zb9 c).length≤120)(h:FewC c):zb6 (zb9 c)=true:=by
 obtain⟨P,hA⟩:=zc4 c;have hPl:=hA.book.len;have hpos:=(zez (zc4 c)).1;unfold zb6;rw[decide_eq_true_eq];refine⟨hl,by omega,fun y hy=>?_⟩;obtain⟨j,hj,rfl⟩:=List.getElem_of_mem hy;have ej:=List.getElem?_eq_getElem hj
 obtain⟨o1,o2⟩:=hA.book.opts j _ ej;obtain⟨u1,u2⟩:=hA.book.up j _ ej;have hcode:=hA.book.code j _ ej;obtain⟨f1,f2⟩:=h (P.getD j 0) ((hA.sub _).1 (zcb (show j<P.length by omega)));constructor
 ·have:=f1 (za3 P (zb9 c)[j].1) (zhn hA.book.nodup u1 o1 (by omega)) (fun a ha=>by rw[hcode];exact(zau _ _ _).2 ha)
  simpa [za3] using this
 ·have:=f2 (za3 P (zb9 c)[j].2) (zhn hA.book.nodup u2 o2 (by omega)) (fun a ha=>by rw[hcode];exact(zas _ _ _).2 ha)
  simpa [za3] using this
end Go.Proofs.YtcalpapdkmnblaaGreatDoor
