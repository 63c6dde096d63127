import Derived.Test.YtkofnbjjbcohgaaGreatDoorZwy
import Derived.Test.YtkofnbjjbcohgaaGreatDoorZwn
/- Lemmas. -/
namespace Go.Proofs.YtkofnbjjbcohgaaGreatDoor
set_option linter.unusedVariables false
set_option linter.unusedSimpArgs false
open Go.RowKit
noncomputable def valV (c:Nat):Value:=.agg #[.int .i64 (valD c).1,.int .i64 ((valD c).2:Int)]
theorem zns {c:Nat}(h:isNB c=true){s:Int}{N:Nat}(e:redT s N=valT c):(valB c=true↔GoodD (redT s N).1 (redT s N).2)/\lowT s N (valB c)=valV c:=by
 have h1:=(zt1 h).good;rw[e];refine⟨h1,?_⟩;unfold lowT valV;rw[e];cases hb:valB c with
 | true=>rw[if_pos rfl];unfold valD;rw[if_pos hb]
 | false=>rw[zhb hb];rfl
theorem zu7 {c l:Nat}(h:isNB c=true)(hl:hasL c l)(hR:∀r,¬hasR c r):(valB l=false→valB c=false)/\(valB l=true→redT ((valD l).1*2^(16-(valD l).2)+1*2^(16-0)) 16=valT c):=by
 obtain⟨k,k0,v1,v2⟩:=zu8 h hl hR;constructor
 ·intro e
  cases hc:valB c with
  | false=>rfl
  | true =>
   have h1:=v1.good.1 hc;have h2:GoodD (k-1) (0:Nat):=⟨by have:=h1.1;omega,by decide,.inl rfl⟩;rw[v2.good.2 h2]at e;cases e
 ·intro e
  rw[(v2.goodD (v2.good.1 e)).2,v1.val];have:=zcn 16 0 k;rw[show(k-1,0).1*2^(16-(k-1,0).2)+1*2^(16-0)=k*2^16 from by simp only[Nat.sub_zero];omega];rw[show 16=0+16 from rfl,this];rfl
theorem zu5 {c r:Nat}(h:isNB c=true)(hr:hasR c r)(hL:∀l,¬hasL c l):(valB r=false→valB c=false)/\(valB r=true→redT ((valD r).1*2^(16-(valD r).2) + -1*2^(16-0)) 16=valT c):=by
 obtain⟨k,k0,v1,v2⟩:=zrq h hr hL;constructor
 ·intro e
  cases hc:valB c with
  | false=>rfl
  | true =>
   have h1:=v1.good.1 hc;have h2:GoodD (k+1) (0:Nat):=⟨by have:=h1.1;omega,by decide,.inl rfl⟩;rw[v2.good.2 h2]at e;cases e
 ·intro e
  rw[(v2.goodD (v2.good.1 e)).2,v1.val];have:=zcn 16 0 k;rw[show(k+1,0).1*2^(16-(k+1,0).2) + -1*2^(16-0)=k*2^16 from by simp only[Nat.sub_zero];omega];rw[show 16=0+16 from rfl,this];rfl
theorem zn4 {c l r:Nat}(h:isNB c=true)(hl:hasL c l)(hr:hasR c r):(valB l=false∨valB r=false→valB c=false)/\(valB l=true→valB r=true→redT ((valD l).1*2^(16-(valD l).2)+(valD r).1*2^(16-(valD r).2)) 17=valT c):=by
 obtain⟨t,p,v,hp,ho,vl,vr⟩:=zu9 h hl hr;constructor
 ·intro e
  cases hc:valB c with
  | false=>rfl
  | true =>
   obtain⟨g1,g2⟩:=zrp hp ho (v.good.1 hc);rcases e with e|e
   ·rw[vl.good.2 g1]at e;cases e
   ·rw[vr.good.2 g2]at e;cases e
 ·intro e1 e2
  have g1:=vl.good.1 e1;have g2:=vr.good.1 e2;rw[(vl.goodD g1).2,(vr.goodD g2).2,v.val];exact(zxc hp ho g1 g2).2
theorem zu4 {c:Nat}(h:isNB c=true)(hL:∀l,¬hasL c l)(hR:∀r,¬hasR c r):valB c=true/\valD c=(0,0) :=
 (zu6 h hL hR).goodD ⟨by decide,by decide,.inl rfl⟩
theorem zxb {c:Nat}(h:isNB c=false):valB c=false:=by unfold valB;rw[h];rfl
end Go.Proofs.YtkofnbjjbcohgaaGreatDoor
