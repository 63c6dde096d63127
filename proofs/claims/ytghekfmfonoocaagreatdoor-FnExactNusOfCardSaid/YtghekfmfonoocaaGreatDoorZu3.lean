import Derived.StillTailTactics
import Derived.Test.YtghekfmfonoocaaGreatDoorZuw
import Derived.Test.YtghekfmfonoocaaGreatDoorZur
/- Lemmas. -/
set_option linter.all false
set_option maxHeartbeats 8000000
set_option maxRecDepth 4000
namespace Go.Proofs.YtghekfmfonoocaaGreatDoor
open Go.RowKit
theorem yme {V:List PL}{C:List Nat}(B:BookC V C){x:Nat}(h:x<V.length) : (∀c,c=(za5 V x).1->(∀a b,a∈c->b∈c->C.getD a 0=C.getD b 0->a=b)/\c.Pairwise (· < ·))/\∀c,c=(za5 V x).2->(∀a b,a∈c->b∈c->C.getD a 0=C.getD b 0->a=b)/\c.Pairwise (· < ·):=by obtain⟨j,k⟩:=B.opts x _ (za7 h);obtain⟨u1,u2⟩:=B.up x _ (za7 h);have i:∀a b,a<x->b<x->C.getD a 0=C.getD b 0->a=b:=λa b e f d=>by{have l:=B.len;rw[xY,xY,xQ (show a<C.length by omega),xQ (show b<C.length by omega)]at d;exact(List.getElem_inj B.nodup).1 d};exact⟨λc d=>⟨λa b e f g=>i a b (j a (d ▸ e)) (j b (d ▸ f)) g,d ▸ u1⟩,λc d=>⟨λa b e f g=>i a b (k a (d ▸ e)) (k b (d ▸ f)) g,d ▸ u2⟩⟩
theorem yep {L:List Nat}(d:L.Pairwise (· < ·))(c:∀b∈L,∀a∈L,b=a):L.length<=1:=by match L,d,c with| [],_,_=>simp| [_],_,_=>simp| b::a::e,d,c =>{have f:=List.rel_of_pairwise_cons d (show a∈a::e by simp);have g:=c b (by simp) a (by simp);omega}
theorem zsm {L:List Nat}(a:L.length<=1):∀b∈L,∀c∈L,b=c:=by match L,a with| [],_=>simp| [_],_=>simp| b::c::d,a=>simp at a
theorem zt1 {V:List PL}{C:List Nat}(B:BookC V C){x:Nat}(p:x<V.length)(v:CanC (C.getD x 0)) : isNB (C.getD x 0)=true↔(za5 V x).1.length<=1/\(za5 V x).2.length<=1/\(∀b∈(za5 V x).1,isNB (C.getD b 0)=true)/\(∀h∈(za5 V x).2,isNB (C.getD h 0)=true)/\∀b∈(za5 V x).1,∀h∈(za5 V x).2,geV C b h=false:=by obtain⟨f,g⟩:=zb7 B p;obtain⟨E,F⟩:=yme B p;obtain⟨w,A⟩:=E _ rfl;obtain⟨y,D⟩:=F _ rfl;constructor;{intro i;refine⟨yep A λa j c k=>w a c j k (yhh i ((f _).2 ⟨a,j,rfl⟩) ((f _).2 ⟨c,k,rfl⟩)),yep D λa j c k=>y a c j k (yhg i ((g _).2 ⟨a,j,rfl⟩) ((g _).2 ⟨c,k,rfl⟩)),λb n=>zsr i ((f _).2 ⟨b,n,rfl⟩),λh o=>zsq i ((g _).2 ⟨h,o,rfl⟩),λb n h o=>zu4 i ((f _).2 ⟨b,n,rfl⟩) ((g _).2 ⟨h,o,rfl⟩)⟩};{rintro⟨q,r,s,t,u⟩;refine yhi v (λb z a c=>?_) (λb z a c=>?_) (λb a=>?_) (λb a=>?_) (λb h a c=>?_);{obtain⟨e,d,rfl⟩:=(f _).1 a;obtain⟨m,l,rfl⟩:=(f _).1 c;rw[zsm q e d m l]};{obtain⟨e,d,rfl⟩:=(g _).1 a;obtain⟨m,l,rfl⟩:=(g _).1 c;rw[zsm r e d m l]};{obtain⟨e,d,rfl⟩:=(f _).1 a;exact s e d};{obtain⟨e,d,rfl⟩:=(g _).1 a;exact t e d};{obtain⟨e,d,rfl⟩:=(f _).1 a;obtain⟨m,l,rfl⟩:=(g _).1 c;exact u e d m l}}
theorem zfv (w:World)(n:Nat):Fr NoM w (w.drewN n):=⟨rfl,rfl,rfl,xW _,λ_ _ _=>rfl⟩
def yo8 (M I:Nat->Prop)(C:List Nat)(b:Nat)(f:Bool)(w:World)(e:Ending)(c:World):Prop:=e=.returned (.bool f)/\∃a,MapF encP encB c b a/\OrdF C a/\Fr (λd=>d=b) w c
theorem ynk {M I:Nat->Prop}{C:List Nat}{V:List PL}{BV:List Nat}(B:BookC V C)(pb k:Nat)(mc ms mn:Value)(aB:¬M k)(a6:¬I k):∀ac g,g<ac->g<V.length->CanC (C.getD g 0)->∀(s:Nat × Nat->Option Bool) (y:World),PoolS M I y pb V BV (.map (some k)) mc ms mn->MapF encP encB y k s->OrdF C s ->
  Calls Tryz.prog 144 #[.pointer (some ⟨pb,0,none⟩),.int .i64 (g:Int)] y λr w'=>yo8 M I C k (isNB (C.getD g 0)) y r w':=by
 intro ac;induction ac with
 | zero=>intro g t;omega
 | succ ac ih =>
  intro g p S i s y hP hF hO;have a9:=zt1 B S i;obtain⟨v,aN⟩:=eX (isNB (C.getD g 0));rw[<-aN]at a9 ⊢;have a3:∀(D:Nat),(D∈(za5 V g).1\/D∈(za5 V g).2)->D<g/\CanC (C.getD D 0):=λD hy=>by
   obtain⟨o1,o2⟩:=B.opts g _ (za7 S);obtain⟨oL,oR⟩:=zb7 B S;rcases hy with t|t
   ·exact⟨o1 D t,i.opt (.inl ((oL _).2 ⟨D,t,rfl⟩))⟩
   ·exact⟨o2 D t,i.opt (.inr ((oR _).2 ⟨D,t,rfl⟩))⟩
  obtain⟨W,aw,af,HF,HO,aT⟩:=Hhp6 a3 ih (λf (s:Fr (λe=>e=k) y f)=>show PoolS M I f pb V BV (.map (some k)) mc ms mn from hP.fr s (λe j r=>aB (by rw[<-r];exact j)) (λe j r=>a6 (by rw[<-r];exact j))) hF hO (λ(h m:Nat) (ha:h<g) (hb:m<g)=>yf6 (BV:=BV) B pb k mc ms mn aB a6 _ h m (vW _) (by omega) (by omega));obtain⟨la,lc,ra,rc,p0,p1,_,_,_,_,hL,hR⟩:=hP.rd;obtain⟨lb,lo,lv,rfl,r1,s1,i1⟩:=hL g S;obtain⟨rb,ro,rv,rfl,r2,s2,i2⟩:=hR g S;have b6:=zb9 (some ⟨lb,lo,none⟩) V.length lc g lb lo S rfl;have b7:=zb9 (some ⟨rb,ro,none⟩) V.length rc g rb ro S rfl;obtain⟨b,a7⟩:=eX ((za5 V g).1);obtain⟨c,a8⟩:=eX ((za5 V g).2);rw[<-a7,<-a8]at a9;rw[<-a7]at s1 i1;rw[<-a8]at s2 i2;have az:=Hh (λf (s:Fr (λe=>e=k) y f)=>show Nats f lv b from s1.fr s (λan e j r=>a6 (by rw[<-r];exact i1 an e j)));have aU:=Hh (λf (s:Fr (λe=>e=k) y f)=>show Nats f rv c from s2.fr s (λan e j r=>a6 (by rw[<-r];exact i2 an e j)));have a3:=W.o;rw[<-a7,<-a8]at a3;have W:=Hh a3;have Q:=Hh a9;have b9:b.length<=9223372036854775807:=by obtain⟨h,aV,_,h1,h2,_⟩:=s1;omega
  have ba:c.length<=9223372036854775807:=by obtain⟨h,aV,_,h1,h2,_⟩:=s2;omega
  obtain⟨ua,uc,rfl,ar⟩:=id s1;clear ar;obtain⟨va,vc,rfl,ar⟩:=id s2;clear ar hL hR s1 s2 i1 i2 a7 a8 a3 a9 hP hF hO i ih aN;go_enter Tryz.func144,Tryz.ntmps144;go_upto_region 1 with fail;go_quiet (fail);obtain⟨w2,ap⟩:=eX (y.drewN nq);have ah:Fr NoM y w2:=by rw[ap];exact⟨rfl,rfl,rfl,xW _,λ_ _ _=>rfl⟩
  rw[<-ap];have F2:=Hh (ah.any (M:=λe=>e=k));have ad:=Hh (HF.o.fr ah id);clear ah ap p0 p1 r1 r2 b6 b7;by_cases h1:1<b.length
  ·have o:=Hh (show v=false from by
    cases i:v with
    | false=>rfl
    | true=>have:=(Q.o.1 i).1;omega)
   have aA:(1:Int)<(b.length:Int):=by omega
   go_wp2_with fail;go_ret;exact⟨by rw[o.o];rfl,s,ad.o,HO.o,F2.o⟩
  ·by_cases h2:1<c.length
   ·have o:=Hh (show v=false from by
     cases i:v with
     | false=>rfl
     | true=>have:=(Q.o.1 i).2.1;omega)
    have aA:¬(1:Int)<(b.length:Int):=by omega
    have aX:(1:Int)<(c.length:Int):=by omega
    go_wp2_with fail;go_ret;exact⟨by rw[o.o];rfl,s,ad.o,HO.o,F2.o⟩
   ·have aA:¬(1:Int)<(b.length:Int):=by omega
    have aX:¬(1:Int)<(c.length:Int):=by omega
    go_wp2_with fail;go_loopw [35] (λT f=>∃(d:Nat) (f':Nat × Nat->Option Bool),T=.int .i64 (d:Int)/\d<=b.length/\(∀a∈b.take d,isNB (C.getD a 0)=true)/\MapF encP encB f k f'/\OrdF C f'/\Fr (λe=>e=k) w2 f) (λT _=>b.length-(intOf T).toNat)
    case atStart=>exact⟨0,s,rfl,yK _,by simp,ad.o,HO.o,Fr.refl _ _⟩
    case round =>
     obtain⟨d,f7,rfl,hk,a1,aK,aM,aj⟩:=hrel;obtain⟨w7,rfl⟩:=eX wr;have F7:=Hh (F2.o.trans aj kP);have aP:=Hh aj;have R:=az.o w7 F7.o;obtain⟨P,ax,ay⟩:=Hhp3 a1 aK aM;clear a1 aK aM aj;by_cases a2:d<b.length
     ·obtain⟨a,n⟩:∃a,b[d]?=some a:=⟨_,xQ a2⟩
      obtain⟨b5,ao⟩:=W.o a (.inl (xK n));obtain⟨a',c',u,_,_,K⟩:=R;cases u
      obtain⟨z,A,J,G⟩:=K d a n;have a0:w7.cell? ⟨z,A+d,none⟩=some (.int .i64 (a:Int)):=G;have aq:=za9 ua b.length uc d z A a2 J;have j:=aw.o a (by omega) (by omega) ao f7 w7 (af.o w7 F7.o) ax.o ay.o;obtain⟨gb,x⟩:=eX (isNB (C.getD a 0));rw[<-x]at j;obtain⟨Y,X,Z⟩:=Hhp3 j x n;clear n K J G j x;go_wp2_with fail;(with_reducible refine Y.o.mono ?_);rintro r w8 ⟨rfl,H,L,N,w⟩;obtain⟨E,F,U,aQ⟩:=Hhp4 L N (F7.o.trans w kP) (aP.o.trans w kP);clear L N w a0;cases gb with
      | false =>
       have p:v=false:=by
        cases i:v with
        | false=>rfl
        | true=>have:=(Q.o.1 i).2.2.1 a (xK Z.o);rw[<-X.o]at this;cases this
       have o:=Hh p;clear p;go_wp2_with fail;go_ret;exact⟨by rw[o.o];rfl,H,E.o,F.o,U.o⟩
      | true =>
       go_wp2_with fail;go_roundw
       case rel=>exact⟨d+1,H,by go_num,by omega,λr' q=>by
        obtain⟨am,u⟩:=xV.1 Z.o
        rw[yQ am,y6,x9]at q;rcases q with q|q
        ·exact P.o r' q
        ·rw[q,u];exact X.o.symm,E.o,F.o,aQ.o⟩
       case measure=>simp[intOf];omega
     ·have al:d=b.length:=by omega
      subst al;have aD:∀a∈b,isNB (C.getD a 0)=true:=by have:=P.o;rwa [y7]at this
      have au:=Hh aD;clear aD P R;go_wp2_with fail;go_loopw [46] (λT f=>∃(d:Nat) (f':Nat × Nat->Option Bool),T=.int .i64 (d:Int)/\d<=c.length/\(∀a∈c.take d,isNB (C.getD a 0)=true)/\MapF encP encB f k f'/\OrdF C f'/\Fr (λe=>e=k) w7 f) (λT _=>c.length-(intOf T).toNat)
      case atStart=>exact⟨0,f7,rfl,yK _,by simp,ax.o,ay.o,Fr.refl _ _⟩
      case round =>
       obtain⟨d,f6,rfl,hk,a1,aJ,aL,ai⟩:=hrel;obtain⟨l,rfl⟩:=eX wr;have O:=Hh (F7.o.trans ai kP);have aR:=Hh ai;have R:=aU.o l O.o;obtain⟨P,a4,a5⟩:=Hhp3 a1 aJ aL;clear a1 aJ aL ai;by_cases a2:d<c.length
       ·obtain⟨a,n⟩:∃a,c[d]?=some a:=⟨_,xQ a2⟩
        obtain⟨b5,ao⟩:=W.o a (.inr (xK n));obtain⟨a',c',u,_,_,K⟩:=R;cases u
        obtain⟨z,A,J,G⟩:=K d a n;have a0:l.cell? ⟨z,A+d,none⟩=some (.int .i64 (a:Int)):=G;have aq:=za9 va c.length vc d z A a2 J;have j:=aw.o a (by omega) (by omega) ao f6 l (af.o l O.o) a4.o a5.o;obtain⟨gb,x⟩:=eX (isNB (C.getD a 0));rw[<-x]at j;obtain⟨Y,X,Z⟩:=Hhp3 j x n;clear n K J G j x;go_wp2_with fail;(with_reducible refine Y.o.mono ?_);rintro r w8 ⟨rfl,H,L,N,w⟩;obtain⟨E,F,U,aS⟩:=Hhp4 L N (O.o.trans w kP) (aR.o.trans w kP);clear L N w a0;cases gb with
        | false =>
         have p:v=false:=by
          cases i:v with
          | false=>rfl
          | true=>have:=(Q.o.1 i).2.2.2.1 a (xK Z.o);rw[<-X.o]at this;cases this
         have o:=Hh p;clear p;go_wp2_with fail;go_ret;exact⟨by rw[o.o];rfl,H,E.o,F.o,U.o⟩
        | true =>
         go_wp2_with fail;go_roundw
         case rel=>exact⟨d+1,H,by go_num,by omega,λr' q=>by
          obtain⟨am,u⟩:=xV.1 Z.o
          rw[yQ am,y6,x9]at q;rcases q with q|q
          ·exact P.o r' q
          ·rw[q,u];exact X.o.symm,E.o,F.o,aS.o⟩
         case measure=>simp[intOf];omega
       ·have al:d=c.length:=by omega
        subst al;have aE:∀a∈c,isNB (C.getD a 0)=true:=by have:=P.o;rwa [y7]at this
        have av:=Hh aE;clear aE P;have ae:=Hh (show b.length<=1 by omega);have ag:=Hh (show c.length<=1 by omega);by_cases hz:b.length=0\/c.length=0
        ·have p:v=true:=Q.o.2 ⟨ae.o,ag.o,au.o,av.o,λaO hl a n=>by
          rcases hz with t|t
          ·rw[List.length_eq_zero_iff]at t;rw[t]at hl;simp at hl
          ·rw[List.length_eq_zero_iff]at t;rw[t]at n;simp at n⟩
         have o:=Hh p;clear p;by_cases aG:b.length=0
         ·have aH:((b.length:Int) == 0)=true:=by rw[aG];rfl
          have aI:(b.length:Int)=0:=by omega
          clear R hz;go_upto_region 16 with fail;go_quiet (fail);go_wp2_with fail;go_ret;exact⟨by rw[o.o];rfl,f6,a4.o.fr (zfv l nq) id,a5.o,O.o.trans (zfv l nq) (λ_ _ e=>e.elim)⟩
         ·have b0:c.length=0:=hz.resolve_left aG
          have aH:((b.length:Int) == 0)=false:=by rw[beq_eq_false_iff_ne];omega
          have b1:((c.length:Int) == 0)=true:=by rw[b0];rfl
          have aI:¬(b.length:Int)=0:=by omega
          have b2:(c.length:Int)=0:=by omega
          clear R hz;go_upto_region 16 with fail;go_quiet (fail);go_wp2_with fail;go_ret;exact⟨by rw[o.o];rfl,f6,a4.o.fr (zfv l nq) id,a5.o,O.o.trans (zfv l nq) (λ_ _ e=>e.elim)⟩
        ·obtain⟨h,ha⟩:∃h,b[0]?=some h:=⟨_,xQ (by omega)⟩
         obtain⟨m,hb⟩:∃m,c[0]?=some m:=⟨_,xQ (by omega)⟩;have aa:=xK ha;have ab:=xK hb;obtain⟨aY,_⟩:=W.o h (.inl aa);obtain⟨aZ,_⟩:=W.o m (.inr ab);have p:v=!geV C h m:=by
          cases i:geV C h m with
          | true =>
           cases hd:v with
           | false=>rfl
           | true=>have:=(Q.o.1 hd).2.2.2.2 h aa m ab;rw[i]at this;cases this
          | false =>
           exact Q.o.2 ⟨ae.o,ag.o,au.o,av.o,λaO hl a n=>by
            rw[zsm ae.o aO hl h aa,zsm ag.o a n m ab];exact i⟩
         have aH:((b.length:Int) == 0)=false:=by rw[beq_eq_false_iff_ne];omega
         have b1:((c.length:Int) == 0)=false:=by rw[beq_eq_false_iff_ne];omega
         have aI:¬(b.length:Int)=0:=by omega
         have b2:¬(c.length:Int)=0:=by omega
         obtain⟨_,_,u,_,_,K⟩:=az.o l O.o;cases u
         obtain⟨z,A,J,G⟩:=K 0 h ha;have a0:l.cell? ⟨z,A,none⟩=some (.int .i64 (h:Int)):=G;obtain⟨_,_,u,_,_,aF⟩:=R;cases u
         obtain⟨b4,o4,aC,c4⟩:=aF 0 m hb;have aW:l.cell? ⟨b4,o4,none⟩=some (.int .i64 (m:Int)):=c4;have aq:∀f,(Instr.indexAt 82 (.slice ua b.length uc) (.int .i64 0)).run Tryz.prog f=.ok (.pointer (some ⟨z,A,none⟩)) f:=za9 ua b.length uc 0 z A (by omega) J;have b8:∀f,(Instr.indexAt 82 (.slice va c.length vc) (.int .i64 0)).run Tryz.prog f=.ok (.pointer (some ⟨b4,o4,none⟩)) f:=za9 va c.length vc 0 b4 o4 (by omega) aC;have FD:=Hh (O.o.trans ((nW l).drew) (λ_ _ e=>e.elim));have ak:=aT.o h m aY aZ f6 l.drew (af.o _ FD.o) (a4.o.fr ((nW l).drew) id) a5.o;obtain⟨gb,x⟩:=eX (geV C h m);rw[<-x]at p ak;have Y:=Hh ak;have o:=Hh p;clear ak x;clear K aF G c4 J aC p ha hb aa ab hz;go_upto_region 16 with fail;go_still_tail 16,(by kernel_rfl);change wpList _ _ _ _ _ l.drew
         clear a0 aW aq b8;go_wp2_with fail;(with_reducible refine Y.o.mono ?_);rintro r w8 ⟨rfl,H,L,N,w⟩;obtain⟨E,F,U⟩:=Hhp3 L N (FD.o.trans w kP);clear L N w;cases gb with
         | true =>
          go_wp2_with fail;go_ret;exact⟨by rw[o.o];rfl,H,E.o,F.o,U.o⟩
         | false =>
          go_wp2_with fail;go_ret;exact⟨by rw[o.o];rfl,H,E.o,F.o,U.o⟩
