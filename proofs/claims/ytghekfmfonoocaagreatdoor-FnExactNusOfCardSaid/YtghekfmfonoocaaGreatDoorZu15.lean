import Derived.Test.YtghekfmfonoocaaGreatDoorZu3
import Derived.Test.YtghekfmfonoocaaGreatDoorZu13
import Derived.Test.YtghekfmfonoocaaGreatDoorZu14
/- Lemmas. -/
set_option linter.all false
set_option maxHeartbeats 8000000
set_option maxRecDepth 4000
namespace Go.Proofs.YtghekfmfonoocaaGreatDoor
open Go.RowKit
theorem yai {c l:Nat}(d:isNB c=true)(g:hasL c l)(f:∀h,¬hasR c h)(e:valB l=true):redT ((valD l).1*2^(24-(valD l).2)+1*2^(24-0)) 24=valT c:=by obtain⟨a,j,i,b⟩:=zy6 d g f;rw[(b.goodD (b.good.1 e)).2,i.val];have:=zcy 24 0 a;rw[show(a-1,0).1*2^(24-(a-1,0).2)+1*2^(24-0)=a*2^24 from by simp only[Nat.sub_zero];omega];rw[show 24=0+24 from rfl,this];rfl
theorem yah {c r:Nat}(d:isNB c=true)(g:hasR c r)(f:∀h,¬hasL c h)(e:valB r=true):redT ((valD r).1*2^(24-(valD r).2) + -1*2^(24-0)) 24=valT c:=by obtain⟨a,j,i,b⟩:=ztb d g f;rw[(b.goodD (b.good.1 e)).2,i.val];have:=zcy 24 0 a;rw[show(a+1,0).1*2^(24-(a+1,0).2) + -1*2^(24-0)=a*2^24 from by simp only[Nat.sub_zero];omega];rw[show 24=0+24 from rfl,this];rfl
theorem ych {c:Nat}(b:isNB c=true){x:Int × Nat}(e:x=valT c):(valB c=true↔GoodD x.1 x.2)/\(valB c=true->(valD c).1=x.1/\(valD c).2=x.2)/\(valB c=false->(valD c).1=0/\(valD c).2=0):=by subst e;refine⟨(zxe b).good,λa=>?_,λa=>?_⟩;{unfold valD;rw[if_pos a];exact⟨rfl,rfl⟩};{rw[zeq a];exact⟨rfl,rfl⟩}
theorem zy5 {c l r:Nat}(o:isNB c=true)(q:hasL c l)(s:hasR c r)(m:valB l=true)(n:valB r=true) : ∃(b:Int) (a:Nat),valT c=(b,a)/\b%2≠0/\0<a/\a<=17/\redT (b-1) a=valD l/\redT (b+1) a=valD r/\(valD l).1*2^(24-(valD l).2)<(valD r).1*2^(24-(valD r).2):=by obtain⟨b,a,t,i,h,j,k⟩:=zy7 o q s;have f:=j.good.1 m;have g:=k.good.1 n;have p:=(ycg i h f g).1;have d:=(j.goodD f).2;have e:=(k.goodD g).2;have d:valD l=redT (b-1) a:=d;have e:valD r=redT (b+1) a:=e;refine⟨b,a,t.val,h,i,p,d.symm,e.symm,?_⟩;rw[d,e,zgg a _ (by omega),zgg a _ (by omega)];have:=zf2 (24-a);rw[Int.sub_mul,Int.add_mul];omega
theorem yci {l r:Nat}(e:valB l=true)(f:valB r=true)(i:(valD l).1*2^(24-(valD l).2)<(valD r).1*2^(24-(valD r).2)):geC l r=false:=by obtain⟨j,g⟩:=zcp e;obtain⟨k,h⟩:=zcp f;have c:nr ((valD l).1*2^(24-(valD l).2)) 24=l:=by{have a:=zf3 (valD l).1 (valD l).2 (24-(valD l).2);rw[show(valD l).2+(24-(valD l).2)=24 from by have:=g.2.1;omega]at a;rw[a];exact j.toNr.symm};have d:nr ((valD r).1*2^(24-(valD r).2)) 24=r:=by{have a:=zf3 (valD r).1 (valD r).2 (24-(valD r).2);rw[show(valD r).2+(24-(valD r).2)=24 from by have:=h.2.1;omega]at a;rw[a];exact k.toNr.symm};have b:=zmq (P:=24) i;rw[c,d]at b;exact b
theorem yk1 {c:Nat}(j:isNB c=true){t:Int}{p:Nat}(e:valT c=(t,p)):(valB c=true↔GoodD (btwY t p).1 (btwY t p).2)/\(valB c=true->(valD c).1=(btwY t p).1/\((valD c).2:Int)=(btwY t p).2)/\(valB c=false->(valD c).1=0/\((valD c).2:Int)=0):=by obtain⟨b,f,d⟩:=ych j e.symm;have b:valB c=true↔GoodD t p:=b;unfold btwY;by_cases g:p<=16;{rw[if_pos g];exact⟨b,λa=>⟨(f a).1,by rw[(f a).2]⟩,λa=>⟨(d a).1,by rw[(d a).2];rfl⟩⟩};{rw[if_neg g];have a:valB c=false:=by{cases a:valB c with| false=>rfl| true=>have:=(b.1 a).2.1;omega};(have h:∀ {i:Prop},valB c=true->i:=λe=>by rw[a]at e;cases e);exact⟨⟨λe=>h e,λe=>absurd e.2.1.2 (by decide)⟩,λe=>h e,λa=>⟨(d a).1,by rw[(d a).2];rfl⟩⟩}
theorem yp6 (a:Option Addr)(n c k b d:Nat)(f:k<n)(e:a=some ⟨b,d,none⟩)(w:World) : (Instr.indexAt 110 (.slice a n c) (.int .i64 (k:Int))).run Tryz.prog w=.ok (.pointer (some ⟨b,d+k*2,none⟩)) w:=by subst e;go_simp
theorem ynh (a:Option Addr)(n c k b d:Nat)(f:k<n)(e:a=some ⟨b,d,none⟩)(w:World) : (Instr.indexAt 111 (.slice a n c) (.int .i64 (k:Int))).run Tryz.prog w=.ok (.pointer (some ⟨b,d+k,none⟩)) w:=by subst e;go_simp
noncomputable def zk0 (C:List Nat)(n:Nat):List (Value × Value):=(List.range n).map λa=>(.int .i64 (valD (C.getD a 0)).1,.int .i64 ((valD (C.getD a 0)).2:Int))
noncomputable def arsL (C:List Nat)(n:Nat):List Bool:=(List.range n).map λa=>valB (C.getD a 0)
theorem ycd (C:List Nat)(n:Nat):(zk0 C n).length=n:=by unfold zk0;rw[uK,uV]
theorem yk8 (C:List Nat)(n:Nat):(arsL C n).length=n:=by unfold arsL;rw[uK,uV]
theorem yce (C:List Nat){n j:Nat}(a:j<n):(zk0 C n)[j]?=some (.int .i64 (valD (C.getD j 0)).1,.int .i64 ((valD (C.getD j 0)).2:Int)):=by unfold zk0;rw[vY,List.getElem?_range a];rfl
theorem yk9 (C:List Nat){n j:Nat}(a:j<n):(arsL C n)[j]?=some (valB (C.getD j 0)):=by unfold arsL;rw[vY,List.getElem?_range a];rfl
theorem ybm {C:List Nat}{V:List PL}(B:BookC V C)(x n:Nat)(hx:x<V.length)(bV:x<=n)(bU:n<=1000)(hc:CanC (C.getD x 0))(lv rv dv bv:Value)(w:World)(hL:Nats w lv (za5 V x).1)(hR:Nats w rv (za5 V x).2)(hD:Pairs w dv (zk0 C n))(hB:SliceOf encB w bv (arsL C n))
  (T P:Int) (g:Bool) (hT:T=(valD (C.getD x 0)).1) (hP:P=((valD (C.getD x 0)).2:Int)) (hg:g=valB (C.getD x 0)) :
  Calls Tryz.prog 74 #[.agg #[lv,rv],dv,bv] w λf w'=>f=.returned (.tuple #[.agg #[.int .i64 T,.int .i64 P],.bool g])/\Fr NoM w w':=by
 obtain⟨k,aD⟩:=eX (C.getD x 0);have H:=zt1 B hx hc;obtain⟨O,Q⟩:=zb7 B hx;obtain⟨G,i⟩:=B.opts x _ (za7 hx);rw[<-aD]at H O Q hc hT hP hg;have m:=Hh (And.intro hT (And.intro hP hg));obtain⟨b,q⟩:=eX ((w.alloc (.cells #[lv,rv] 85)).alloc (.cells #[.int .i64 0,.int .i64 0] 29));have f1:Fr NoM w b:=by rw[q];exact((nW w).alloc _).alloc _
 have e0:b.heap[w.heap.size]?=some (.cells #[lv,rv] 85 (0,0)):=by rw[q];exact((nW _).alloc _).heap (xJ w _) id
 have D:b.heap[w.heap.size+1]?=some (.cells #[.int .i64 0,.int .i64 0] 29 (0,0)):=by
  have o:=xJ (w.alloc (.cells #[lv,rv] 85)) (.cells #[.int .i64 0,.int .i64 0] 29);rw[xZ]at o;rw[q];exact o
 have HX:=Hh (λa (p:Fr NoM b a)=>show a.cell? ⟨w.heap.size,0,none⟩=some lv/\a.cell? ⟨w.heap.size,1,none⟩=some rv from by
  have h0:=p.heap e0 id;exact⟨qR h0 rfl,qR h0 rfl⟩)
 have a9:=Hh (λa (p:Fr NoM b a)=>show a.cell? ⟨w.heap.size+1,0,none⟩=some (.int .i64 0)/\a.cell? ⟨w.heap.size+1,1,none⟩=some (.int .i64 0)/\a.frozen? ⟨w.heap.size+1,0,none⟩=false/\a.frozen? ⟨w.heap.size+1,1,none⟩=false from by
  have j:=p.heap D id;exact⟨qR j rfl,qR j rfl,fZ j,fZ j⟩)
 obtain⟨HF,ak,al⟩:=Hhp3 (λ(a:World) (y1 y2:Int) (p:Fr NoM b a)=>(((f1.trans p kP).setCell ⟨w.heap.size+1,0,none⟩ (.int .i64 y1) (λo=>by have o:w.heap.size+1<w.heap.size:=o;omega)).setCell ⟨w.heap.size+1,1,none⟩ (.int .i64 y2) (λo=>by have o:w.heap.size+1<w.heap.size:=o;omega):Fr NoM w ((a.setCell ⟨w.heap.size+1,0,none⟩ (.int .i64 y1)).setCell ⟨w.heap.size+1,1,none⟩ (.int .i64 y2)))) (λa (p:Fr NoM b a)=>hL.fr0 (f1.trans p kP)) (λa (p:Fr NoM b a)=>hR.fr0 (f1.trans p kP));obtain⟨da,dc,rfl,_,_,bb⟩:=id hD;obtain⟨ba,bc,rfl,_,_,b9⟩:=id hB;rw[ycd]at *;rw[yk8]at *;have aT:=Hh (λ(r:Nat) (hy:r<n)=>show ∃d a4,(∀a,(Instr.indexAt 110 (.slice da n dc) (.int .i64 (r:Int))).run Tryz.prog a=.ok (.pointer (some ⟨d,a4,none⟩)) a)/\∀a,Fr NoM b a->a.cell? ⟨d,a4,none⟩=some (.int .i64 (valD (C.getD r 0)).1)/\a.cell? ⟨d,a4+1,none⟩=some (.int .i64 ((valD (C.getD r 0)).2:Int))from by
  obtain⟨d,a4,W,c1,c2⟩:=bb r _ (yce C hy);exact⟨d,a4+r*2,λa=>yp6 da n dc r d a4 hy W a,λa p=>⟨(f1.trans p kP).cell c1 id,(f1.trans p kP).cell c2 id⟩⟩)
 have aS:=Hh (λ(r:Nat) (hy:r<n)=>show ∃d a4,(∀a,(Instr.indexAt 111 (.slice ba n bc) (.int .i64 (r:Int))).run Tryz.prog a=.ok (.pointer (some ⟨d,a4,none⟩)) a)/\∀a,Fr NoM b a->a.cell? ⟨d,a4,none⟩=some (.bool (valB (C.getD r 0)))from by
  obtain⟨d,a4,W,c1⟩:=b9 r _ (yk9 C hy);exact⟨d,a4+r,λa=>ynh ba n bc r d a4 hy W a,λa p=>(f1.trans p kP).cell c1 id⟩)
 obtain⟨ap,aL⟩:=eX ((za5 V x).1);obtain⟨aK,aM⟩:=eX ((za5 V x).2);have I:=hL;have J:=hR;have aH:=Hh aL;have aJ:=Hh aM;have G:∀b6∈(za5 V x).1,b6<x:=G;have i:∀b6∈(za5 V x).2,b6<x:=i;rw[<-aL]at H O I G;rw[<-aM]at H Q J i;rw[<-aL]at ak;rw[<-aM]at al;clear hL hR hD hB bb b9 f1 e0 D hT hP hg;have bI:ap.length<=9223372036854775807:=by obtain⟨h,k,_,j,h2,_⟩:=I;omega
 have bJ:aK.length<=9223372036854775807:=by obtain⟨h,k,_,j,h2,_⟩:=J;omega
 by_cases bT:1<ap.length\/1<aK.length
 ·have a1:isNB k=false:=by
   cases hc:isNB k with
   | false=>rfl
   | true=>have:=H.1 hc;omega
  have Z:T=0/\P=0/\g=false:=by
   obtain⟨h,d,a0⟩:=m.o;have j:=zmc a1;rw[zeq j]at h d;exact⟨h,d,a0.trans j⟩
  obtain⟨rfl,rfl,rfl⟩:=Z;obtain⟨ua,uc,rfl,s⟩:=id I;clear s;obtain⟨va,vc,rfl,s⟩:=id J;clear s H O Q G i hc I J aL aM aD;obtain⟨x0,x1⟩:=HX.o b (Fr.refl _ _);obtain⟨u,y,z,A⟩:=a9.o b (Fr.refl _ _);have t:=Hh (HF.o b 0 0 (Fr.refl _ _));by_cases j:1<ap.length
  ·have bH:(1:Int)<(ap.length:Int):=by omega
   go_enter Tryz.func74,Tryz.ntmps74;go_upto_region 1 with fail;rw[<-q];clear q;go_wp2_with fail;refine yJ (v:=.tuple #[.agg #[.int .i64 0,.int .i64 0],.bool false]) (by simp[results,Tryz.results74,go_sem,u,y,z,A]) rfl ?_
   exact⟨rfl,t.o⟩
  ·have bH:¬(1:Int)<(ap.length:Int):=by omega
   have bS:(1:Int)<(aK.length:Int):=by omega
   go_enter Tryz.func74,Tryz.ntmps74;go_upto_region 1 with fail;rw[<-q];clear q;go_wp2_with fail;refine yJ (v:=.tuple #[.agg #[.int .i64 0,.int .i64 0],.bool false]) (by simp[results,Tryz.results74,go_sem,u,y,z,A]) rfl ?_
   exact⟨rfl,t.o⟩
 ·have a7:ap.length<=1:=by omega
  have a8:aK.length<=1:=by omega
  clear bI bJ aL aM;match ap,aK,a7,a8,O,Q,G,i,I,J,ak,al,aH,aJ,H with
  | [],[],a7,a8,O,Q,G,i,I,J,ak,al,aH,aJ,H =>
   have a1:isNB k=true:=H.2 (by simp);have Z:T=0/\P=0/\g=true:=by
    obtain⟨h,d,a0⟩:=m.o;obtain⟨j,h2⟩:=zy2 a1 (λah X=>by obtain⟨r,hy,_⟩:=(O ah).1 X;simp at hy) (λah X=>by obtain⟨r,hy,_⟩:=(Q ah).1 X;simp at hy);rw[h2]at h d;exact⟨h,d,a0.trans j⟩
   obtain⟨rfl,rfl,rfl⟩:=Z;obtain⟨ua,uc,S,s⟩:=id I;have S:lv=.slice ua 0 uc:=S;subst S;clear s;obtain⟨va,vc,U,s⟩:=id J;have U:rv=.slice va 0 vc:=U;subst U;clear s;clear H O Q G i hc I J aD a7 a8;obtain⟨x0,x1⟩:=HX.o b (Fr.refl _ _);go_enter Tryz.func74,Tryz.ntmps74;go_upto_region 1 with fail;rw[<-q];clear q;go_upto_region 4 with fail;obtain⟨c,E⟩:=eX (b.alloc (.cells #[.int .i64 1,.int .i64 0] 29));have g3:Fr NoM b c:=by rw[E];exact(nW b).alloc _
   have R:c.heap[b.heap.size]?=some (.cells #[.int .i64 1,.int .i64 0] 29 (0,0)):=by rw[E];exact xJ b _
   have q0:c.cell? ⟨b.heap.size,0,none⟩=some (.int .i64 1):=by rw[xX c _ 0 _ _ _ R];rfl
   have q1:c.cell? ⟨b.heap.size,1,none⟩=some (.int .i64 0):=by rw[xX c _ 1 _ _ _ R];rfl
   have l:=Hh g3;rw[<-E];clear E g3 R;clear x0 x1;obtain⟨x0,x1⟩:=HX.o c l.o;obtain⟨u,y,z,A⟩:=a9.o c l.o;have t:=Hh (HF.o c 0 0 l.o);go_wp2_with fail;refine yJ (v:=.tuple #[.agg #[.int .i64 0,.int .i64 0],.bool true]) (by simp[results,Tryz.results74,go_sem,u,y,z,A]) rfl ?_
   exact⟨rfl,t.o⟩
  | [h],[],a7,a8,O,Q,G,i,I,J,ak,al,aH,aJ,H =>
   obtain⟨ua,uc,S,s⟩:=id I;have S:lv=.slice ua 1 uc:=S;subst S;clear s;obtain⟨va,vc,U,s⟩:=id J;have U:rv=.slice va 0 vc:=U;subst U;clear s;obtain⟨M,af⟩:=eX ((valD (C.getD h 0)).1);obtain⟨K,ad⟩:=eX ((valD (C.getD h 0)).2);obtain⟨ga,a5⟩:=eX (valB (C.getD h 0));have aP:ga=true->GoodD M K:=λf=>by rw[af,ad];exact(zcp (by rw[<-a5];exact f)).2
   have b4:=G h (by simp);obtain⟨bt,bD,bM,av⟩:=aT.o h (by omega);obtain⟨bw,bF,bK,aq⟩:=aS.o h (by omega);rw[<-af,<-ad]at av;rw[<-a5]at aq;have aF:=Hh av;have aW:=Hh aq;obtain⟨bz,bQ,bO,aN⟩:∃bq oq,(∀a,(Instr.indexAt 82 (.slice ua 1 uc) (.int .i64 0)).run Tryz.prog a=.ok (.pointer (some ⟨bq,oq,none⟩)) a)/\∀a,Fr NoM b a->a.cell? ⟨bq,oq,none⟩=some (.int .i64 (h:Int)):=by
    obtain⟨_,_,ee,_,_,au⟩:=ak.o b (Fr.refl _ _);cases ee
    obtain⟨bo,oo,W,c1⟩:=au 0 h rfl;exact⟨bo,oo,λa=>za9 ua 1 uc 0 bo oo (by omega) W a,λa p=>p.cell c1 id⟩
   have ao:=Hh aN;clear aN;clear av aq;have ay:∀a2,¬hasR k a2:=λa2 Y=>by obtain⟨r,hy,_⟩:=(Q a2).1 Y;simp at hy
   have a3:=(O _).2 ⟨h,by simp,rfl⟩;have aR:isNB (C.getD h 0)=true->isNB k=true:=λf=>H.2 ⟨by simp,by simp,λah X=>by rw[x9.1 X];exact f,λa2 Y=>by simp at Y,λah X a2 Y=>by simp at Y⟩
   have am:ga=false->valB k=false:=λf=>by
    cases F:isNB k with
    | false=>exact zmc F
    | true=>exact(zy4 F a3 ay).1 (by rw[<-a5];exact f)
   have an:ga=true->isNB k=true/\redT (M*2^(24-K)+1*2^(24-0)) 24=valT k:=λf=>by
    have D:valB (C.getD h 0)=true:=by rw[<-a5];exact f
    have F:=aR (zex D);exact⟨F,by rw[af,ad];exact yai F a3 ay D⟩
   obtain⟨b0,aC,aI⟩:=Hhp3 aP am an;have ca:=ao.o b (Fr.refl _ _);have cb:=aW.o b (Fr.refl _ _);clear H O Q G i hc I J aD a7 a8 aP am an aR a3 ay b4 af ad a5;obtain⟨x0,x1⟩:=HX.o b (Fr.refl _ _);cases ga with
   | false =>
    have Z:T=0/\P=0/\g=false:=by
     obtain⟨h,d,a0⟩:=m.o;have j:valB k=false:=aC.o rfl;rw[zeq j]at h d;exact⟨h,d,a0.trans j⟩
    obtain⟨rfl,rfl,rfl⟩:=Z;obtain⟨u,y,z,A⟩:=a9.o b (Fr.refl _ _);have t:=Hh (HF.o b 0 0 (Fr.refl _ _));go_enter Tryz.func74,Tryz.ntmps74;go_upto_region 1 with fail;rw[<-q];clear q;go_wp2_with fail;refine yJ (v:=.tuple #[.agg #[.int .i64 0,.int .i64 0],.bool false]) (by simp[results,Tryz.results74,go_sem,u,y,z,A]) rfl ?_
    exact⟨rfl,t.o⟩
   | true =>
    obtain⟨a1,az⟩:=aI.o rfl;obtain⟨⟨vt,vp⟩,ab⟩:∃r,r=valT k:=⟨_,rfl⟩;rw[<-ab]at az;obtain⟨i1,i2,i3⟩:=ych a1 ab;have ax:=b0.o rfl;have aV:=Hh (λ(a:World)=>show Calls Tryz.prog 121 #[.agg #[.int .i64 M,.int .i64 (K:Int)],.agg #[.int .i64 1,.int .i64 0]] a λf w'=>f=.returned (.agg #[.int .i64 vt,.int .i64 (vp:Int)])/\Fr NoM a w' from by
     have o:=zp9 M 1 K 0 a (by have:=ax.2.1;omega) (by omega) (by have:=ax.1;omega) (by omega);rw[show(1:Int)*2^(24-0)=1*2^(24-0)from rfl,az]at o;exact o)
    have aG:=Hh (λ(a:World)=>zsy vt (vp:Int) a g (by rw[m.o.2.2];exact i1) T P ⟨λf=>by
     have:=i2 (by rw[<-m.o.2.2];exact f);exact⟨m.o.1.trans this.1,by rw[m.o.2.1,this.2]⟩,λf=>by
     have:=i3 (by rw[<-m.o.2.2];exact f);exact⟨m.o.1.trans this.1,by rw[m.o.2.1,this.2];rfl⟩⟩)
    clear i1 i2 i3 a1 az ab ax;go_enter Tryz.func74,Tryz.ntmps74;go_upto_region 1 with fail;rw[<-q];clear q;go_upto_region 4 with fail;obtain⟨c,E⟩:=eX (b.alloc (.cells #[.int .i64 1,.int .i64 0] 29));have g3:Fr NoM b c:=by rw[E];exact(nW b).alloc _
    have R:c.heap[b.heap.size]?=some (.cells #[.int .i64 1,.int .i64 0] 29 (0,0)):=by rw[E];exact xJ b _
    have q0:c.cell? ⟨b.heap.size,0,none⟩=some (.int .i64 1):=by rw[xX c _ 0 _ _ _ R];rfl
    have q1:c.cell? ⟨b.heap.size,1,none⟩=some (.int .i64 0):=by rw[xX c _ 1 _ _ _ R];rfl
    have l:=Hh g3;rw[<-E];clear E g3 R;clear x0 x1 ca cb;obtain⟨x0,x1⟩:=HX.o c l.o;obtain⟨d0,d1⟩:=aF.o c l.o;have ca:=ao.o c l.o;go_upto_region 7 with fail;have GD:Fr NoM b c.drew:=l.o.drew;go_region_law (first
     | (go_simp;first
      | (go_at_call 121;(with_reducible refine(aV.o _).mono ?_);rintro f w5 ⟨rfl,f5⟩;have k5:Fr NoM b w5:=Fr.trans GD f5 kP)
      | (go_at_call 120;(with_reducible refine(aG.o _).mono ?_);rintro f w6 ⟨rfl,f6⟩;have k6:Fr NoM b w6:=Fr.trans k5 f6 kP;obtain⟨u,y,z,A⟩:=a9.o w6 k6)
      | fail)
     | fail)
    all_goals
     have t:=Hh (HF.o w6 T P k6);go_wp2_with fail;refine yJ (v:=.tuple #[.agg #[.int .i64 T,.int .i64 P],.bool g]) (by simp[results,Tryz.results74,go_sem,u,y,z,A]) rfl ?_
     exact⟨rfl,t.o⟩
  | [],[d],a7,a8,O,Q,G,i,I,J,ak,al,aH,aJ,H =>
   obtain⟨ua,uc,S,s⟩:=id I;have S:lv=.slice ua 0 uc:=S;subst S;clear s;obtain⟨va,vc,U,s⟩:=id J;have U:rv=.slice va 1 vc:=U;subst U;clear s;obtain⟨N,ag⟩:=eX ((valD (C.getD d 0)).1);obtain⟨L,ae⟩:=eX ((valD (C.getD d 0)).2);obtain⟨gb,a6⟩:=eX (valB (C.getD d 0));have aQ:gb=true->GoodD N L:=λf=>by rw[ag,ae];exact(zcp (by rw[<-a6];exact f)).2
   have b5:=i d (by simp);obtain⟨bu,bE,bN,aw⟩:=aT.o d (by omega);obtain⟨bx,bG,bL,ar⟩:=aS.o d (by omega);rw[<-ag,<-ae]at aw;rw[<-a6]at ar;have aA:=Hh aw;have aX:=Hh ar;obtain⟨bA,bR,bP,aO⟩:∃bq oq,(∀a,(Instr.indexAt 82 (.slice va 1 vc) (.int .i64 0)).run Tryz.prog a=.ok (.pointer (some ⟨bq,oq,none⟩)) a)/\∀a,Fr NoM b a->a.cell? ⟨bq,oq,none⟩=some (.int .i64 (d:Int)):=by
    obtain⟨_,_,ee,_,_,au⟩:=al.o b (Fr.refl _ _);cases ee
    obtain⟨bo,oo,W,c1⟩:=au 0 d rfl;exact⟨bo,oo,λa=>za9 va 1 vc 0 bo oo (by omega) W a,λa p=>p.cell c1 id⟩
   have aj:=Hh aO;clear aO;clear aw ar;have ay:∀a2,¬hasL k a2:=λa2 Y=>by obtain⟨r,hy,_⟩:=(O a2).1 Y;simp at hy
   have a3:=(Q _).2 ⟨d,by simp,rfl⟩;have aR:isNB (C.getD d 0)=true->isNB k=true:=λf=>H.2 ⟨by simp,by simp,λa2 Y=>by simp at Y,λah X=>by rw[x9.1 X];exact f,λah X a2 Y=>by simp at X⟩
   have am:gb=false->valB k=false:=λf=>by
    cases F:isNB k with
    | false=>exact zmc F
    | true=>exact(zy3 F a3 ay).1 (by rw[<-a6];exact f)
   have an:gb=true->isNB k=true/\redT (N*2^(24-L) + -1*2^(24-0)) 24=valT k:=λf=>by
    have D:valB (C.getD d 0)=true:=by rw[<-a6];exact f
    have F:=aR (zex D);exact⟨F,by rw[ag,ae];exact yah F a3 ay D⟩
   obtain⟨b0,aC,aI⟩:=Hhp3 aQ am an;have ca:=aj.o b (Fr.refl _ _);have cb:=aX.o b (Fr.refl _ _);clear H O Q G i hc I J aD a7 a8 aQ am an aR a3 ay b5 ag ae a6;obtain⟨x0,x1⟩:=HX.o b (Fr.refl _ _);cases gb with
   | false =>
    have Z:T=0/\P=0/\g=false:=by
     obtain⟨h,d,a0⟩:=m.o;have j:valB k=false:=aC.o rfl;rw[zeq j]at h d;exact⟨h,d,a0.trans j⟩
    obtain⟨rfl,rfl,rfl⟩:=Z;obtain⟨u,y,z,A⟩:=a9.o b (Fr.refl _ _);have t:=Hh (HF.o b 0 0 (Fr.refl _ _));go_enter Tryz.func74,Tryz.ntmps74;go_upto_region 1 with fail;rw[<-q];clear q;go_wp2_with fail;refine yJ (v:=.tuple #[.agg #[.int .i64 0,.int .i64 0],.bool false]) (by simp[results,Tryz.results74,go_sem,u,y,z,A]) rfl ?_
    exact⟨rfl,t.o⟩
   | true =>
    obtain⟨a1,az⟩:=aI.o rfl;obtain⟨⟨vt,vp⟩,ab⟩:∃r,r=valT k:=⟨_,rfl⟩;rw[<-ab]at az;obtain⟨i1,i2,i3⟩:=ych a1 ab;have ax:=b0.o rfl;have aV:=Hh (λ(a:World)=>show Calls Tryz.prog 121 #[.agg #[.int .i64 N,.int .i64 (L:Int)],.agg #[.int .i64 (-1),.int .i64 0]] a λf w'=>f=.returned (.agg #[.int .i64 vt,.int .i64 (vp:Int)])/\Fr NoM a w' from by
     have o:=zp9 N (-1) L 0 a (by have:=ax.2.1;omega) (by omega) (by have:=ax.1;omega) (by omega);rw[show((-1):Int)*2^(24-0)=-1*2^(24-0)from rfl,az]at o;exact o)
    have aG:=Hh (λ(a:World)=>zsy vt (vp:Int) a g (by rw[m.o.2.2];exact i1) T P ⟨λf=>by
     have:=i2 (by rw[<-m.o.2.2];exact f);exact⟨m.o.1.trans this.1,by rw[m.o.2.1,this.2]⟩,λf=>by
     have:=i3 (by rw[<-m.o.2.2];exact f);exact⟨m.o.1.trans this.1,by rw[m.o.2.1,this.2];rfl⟩⟩)
    clear i1 i2 i3 a1 az ab ax;go_enter Tryz.func74,Tryz.ntmps74;go_upto_region 1 with fail;rw[<-q];clear q;go_upto_region 4 with fail;obtain⟨c,E⟩:=eX (b.alloc (.cells #[.int .i64 1,.int .i64 0] 29));have g3:Fr NoM b c:=by rw[E];exact(nW b).alloc _
    have R:c.heap[b.heap.size]?=some (.cells #[.int .i64 1,.int .i64 0] 29 (0,0)):=by rw[E];exact xJ b _
    have q0:c.cell? ⟨b.heap.size,0,none⟩=some (.int .i64 1):=by rw[xX c _ 0 _ _ _ R];rfl
    have q1:c.cell? ⟨b.heap.size,1,none⟩=some (.int .i64 0):=by rw[xX c _ 1 _ _ _ R];rfl
    have l:=Hh g3;rw[<-E];clear E g3 R;clear x0 x1 ca cb;obtain⟨x0,x1⟩:=HX.o c l.o;obtain⟨d0,d1⟩:=aA.o c l.o;have ca:=aj.o c l.o;have be:=Hh (λ(a:World)=>show Calls Tryz.prog 122 #[.agg #[.int .i64 1,.int .i64 0]] a λf w'=>f=.returned (.agg #[.int .i64 (-1),.int .i64 0])/\Fr NoM a w' from zgm 1 0 a (by omega));go_upto_region 9 with fail;have GD:Fr NoM b c.drew:=l.o.drew;go_region_law (first
     | (go_simp;first
      | (go_at_call 122;(with_reducible refine(be.o _).mono ?_);rintro f wn ⟨rfl,fn⟩;have kn:Fr NoM b wn:=Fr.trans (‹_›) fn kP;obtain⟨y0,y1⟩:=HX.o wn kn;obtain⟨e0,D⟩:=aA.o wn kn;have cc:=aj.o wn kn)
      | (go_at_call 121;(with_reducible refine(aV.o _).mono ?_);rintro f w5 ⟨rfl,f5⟩;have k5:Fr NoM b w5:=Fr.trans kn f5 kP)
      | (go_at_call 120;(with_reducible refine(aG.o _).mono ?_);rintro f w6 ⟨rfl,f6⟩;have k6:Fr NoM b w6:=Fr.trans k5 f6 kP;obtain⟨u,y,z,A⟩:=a9.o w6 k6)
      | fail)
     | fail)
    all_goals
     have t:=Hh (HF.o w6 T P k6);go_wp2_with fail;refine yJ (v:=.tuple #[.agg #[.int .i64 T,.int .i64 P],.bool g]) (by simp[results,Tryz.results74,go_sem,u,y,z,A]) rfl ?_
     exact⟨rfl,t.o⟩
  | [h],[d],a7,a8,O,Q,G,i,I,J,ak,al,aH,aJ,H =>
   obtain⟨ua,uc,S,s⟩:=id I;have S:lv=.slice ua 1 uc:=S;subst S;clear s;obtain⟨va,vc,U,s⟩:=id J;have U:rv=.slice va 1 vc:=U;subst U;clear s;obtain⟨M,af⟩:=eX ((valD (C.getD h 0)).1);obtain⟨K,ad⟩:=eX ((valD (C.getD h 0)).2);obtain⟨ga,a5⟩:=eX (valB (C.getD h 0));have aP:ga=true->GoodD M K:=λf=>by rw[af,ad];exact(zcp (by rw[<-a5];exact f)).2
   have b4:=G h (by simp);obtain⟨bt,bD,bM,av⟩:=aT.o h (by omega);obtain⟨bw,bF,bK,aq⟩:=aS.o h (by omega);rw[<-af,<-ad]at av;rw[<-a5]at aq;have aF:=Hh av;have aW:=Hh aq;obtain⟨bz,bQ,bO,aN⟩:∃bq oq,(∀a,(Instr.indexAt 82 (.slice ua 1 uc) (.int .i64 0)).run Tryz.prog a=.ok (.pointer (some ⟨bq,oq,none⟩)) a)/\∀a,Fr NoM b a->a.cell? ⟨bq,oq,none⟩=some (.int .i64 (h:Int)):=by
    obtain⟨_,_,ee,_,_,au⟩:=ak.o b (Fr.refl _ _);cases ee
    obtain⟨bo,oo,W,c1⟩:=au 0 h rfl;exact⟨bo,oo,λa=>za9 ua 1 uc 0 bo oo (by omega) W a,λa p=>p.cell c1 id⟩
   have ao:=Hh aN;clear aN;clear av aq;obtain⟨N,ag⟩:=eX ((valD (C.getD d 0)).1);obtain⟨L,ae⟩:=eX ((valD (C.getD d 0)).2);obtain⟨gb,a6⟩:=eX (valB (C.getD d 0));have aQ:gb=true->GoodD N L:=λf=>by rw[ag,ae];exact(zcp (by rw[<-a6];exact f)).2
   have b5:=i d (by simp);obtain⟨bu,bE,bN,aw⟩:=aT.o d (by omega);obtain⟨bx,bG,bL,ar⟩:=aS.o d (by omega);rw[<-ag,<-ae]at aw;rw[<-a6]at ar;have aA:=Hh aw;have aX:=Hh ar;obtain⟨bA,bR,bP,aO⟩:∃bq oq,(∀a,(Instr.indexAt 82 (.slice va 1 vc) (.int .i64 0)).run Tryz.prog a=.ok (.pointer (some ⟨bq,oq,none⟩)) a)/\∀a,Fr NoM b a->a.cell? ⟨bq,oq,none⟩=some (.int .i64 (d:Int)):=by
    obtain⟨_,_,ee,_,_,au⟩:=al.o b (Fr.refl _ _);cases ee
    obtain⟨bo,oo,W,c1⟩:=au 0 d rfl;exact⟨bo,oo,λa=>za9 va 1 vc 0 bo oo (by omega) W a,λa p=>p.cell c1 id⟩
   have aj:=Hh aO;clear aO;clear aw ar;have a3:=(O _).2 ⟨h,by simp,rfl⟩;have aU:=(Q _).2 ⟨d,by simp,rfl⟩;have am:ga=false\/gb=false->valB k=false:=λf=>by
    cases F:isNB k with
    | false=>exact zmc F
    | true=>exact(zo6 F a3 aU).1 (by rw[<-a5,<-a6];exact f)
   have an:ga=true->gb=true->(M*2^(24-K)<N*2^(24-L)->isNB k=true)/\(¬M*2^(24-K)<N*2^(24-L)->valB k=false)/\(isNB k=true->∃(ai:Int) (ac:Nat),valT k=(ai,ac)/\ai%2≠0/\0<ac/\ac<=17/\redT (ai-1) ac=(M,K)/\redT (ai+1) ac=(N,L)):=λD e2=>by
    have D:valB (C.getD h 0)=true:=by rw[<-a5];exact D
    have e2:valB (C.getD d 0)=true:=by rw[<-a6];exact e2
    rw[af,ad,ag,ae];refine⟨λaa=>H.2 ⟨by simp,by simp,λah X=>by rw[x9.1 X];exact zex D,λa2 Y=>by rw[x9.1 Y];exact zex e2,λah X a2 Y=>by
     rw[x9.1 X,x9.1 Y];exact yci D e2 aa⟩,λaa=>?_,λF=>?_⟩
    ·cases F:isNB k with
     | false=>exact zmc F
     | true =>
      obtain⟨_,_,_,_,_,_,_,_,o⟩:=zy5 F a3 aU D e2;exact absurd o aa
    ·obtain⟨ai,ac,j,h2,h3,h4,h5,h6,_⟩:=zy5 F a3 aU D e2
     exact⟨ai,ac,j,h2,h3,h4,h5,h6⟩
   obtain⟨aY,aZ,aC,aI⟩:=Hhp4 aP aQ am an;have ca:=ao.o b (Fr.refl _ _);have b2:=aW.o b (Fr.refl _ _);have cb:=aj.o b (Fr.refl _ _);have b3:=aX.o b (Fr.refl _ _);clear H O Q G i hc I J aD a7 a8 aP aQ am an a3 aU b4 af ad a5 b5 ag ae a6;obtain⟨x0,x1⟩:=HX.o b (Fr.refl _ _);cases ga with
   | false =>
    have Z:T=0/\P=0/\g=false:=by
     obtain⟨h,d,a0⟩:=m.o;have j:valB k=false:=aC.o (.inl rfl);rw[zeq j]at h d;exact⟨h,d,a0.trans j⟩
    obtain⟨rfl,rfl,rfl⟩:=Z;obtain⟨u,y,z,A⟩:=a9.o b (Fr.refl _ _);have t:=Hh (HF.o b 0 0 (Fr.refl _ _));go_enter Tryz.func74,Tryz.ntmps74;go_upto_region 1 with fail;rw[<-q];clear q;go_wp2_with fail;refine yJ (v:=.tuple #[.agg #[.int .i64 0,.int .i64 0],.bool false]) (by simp[results,Tryz.results74,go_sem,u,y,z,A]) rfl ?_
    exact⟨rfl,t.o⟩
   | true =>
    cases gb with
    | false =>
     have Z:T=0/\P=0/\g=false:=by
      obtain⟨h,d,a0⟩:=m.o;have j:valB k=false:=aC.o (.inr rfl);rw[zeq j]at h d;exact⟨h,d,a0.trans j⟩
     obtain⟨rfl,rfl,rfl⟩:=Z;obtain⟨u,y,z,A⟩:=a9.o b (Fr.refl _ _);have t:=Hh (HF.o b 0 0 (Fr.refl _ _));go_enter Tryz.func74,Tryz.ntmps74;go_upto_region 1 with fail;rw[<-q];clear q;go_wp2_with fail;refine yJ (v:=.tuple #[.agg #[.int .i64 0,.int .i64 0],.bool false]) (by simp[results,Tryz.results74,go_sem,u,y,z,A]) rfl ?_
     exact⟨rfl,t.o⟩
    | true =>
     go_enter Tryz.func74,Tryz.ntmps74;go_upto_region 1 with fail;rw[<-q];clear q;go_upto_region 4 with fail;obtain⟨c,E⟩:=eX (b.alloc (.cells #[.int .i64 1,.int .i64 0] 29));have g3:Fr NoM b c:=by rw[E];exact(nW b).alloc _
     have R:c.heap[b.heap.size]?=some (.cells #[.int .i64 1,.int .i64 0] 29 (0,0)):=by rw[E];exact xJ b _
     have q0:c.cell? ⟨b.heap.size,0,none⟩=some (.int .i64 1):=by rw[xX c _ 0 _ _ _ R];rfl
     have q1:c.cell? ⟨b.heap.size,1,none⟩=some (.int .i64 0):=by rw[xX c _ 1 _ _ _ R];rfl
     have l:=Hh g3;rw[<-E];clear E g3 R;clear x0 x1 ca cb b2 b3 q0 q1;obtain⟨x0,x1⟩:=HX.o c l.o;obtain⟨d0,d1⟩:=aF.o c l.o;obtain⟨d2,d3⟩:=aA.o c l.o;have ca:=ao.o c l.o;have cb:=aj.o c l.o;have X1:=λe=>HX.o (c.alloc e) (l.o.alloc e)
     have X2:=λe i=>HX.o ((c.alloc e).alloc i) ((l.o.alloc e).alloc i)
     have Y1:=λe=>aF.o (c.alloc e) (l.o.alloc e)
     have Y2:=λe i=>aF.o ((c.alloc e).alloc i) ((l.o.alloc e).alloc i)
     have Z1:=λe=>aA.o (c.alloc e) (l.o.alloc e)
     have Z2:=λe i=>aA.o ((c.alloc e).alloc i) ((l.o.alloc e).alloc i)
     have bB:=λe=>ao.o (c.alloc e) (l.o.alloc e)
     have b2:=λe i=>ao.o ((c.alloc e).alloc i) ((l.o.alloc e).alloc i)
     have bC:=λe=>aj.o (c.alloc e) (l.o.alloc e)
     have b3:=λe i=>aj.o ((c.alloc e).alloc i) ((l.o.alloc e).alloc i)
     have bf:=λe=>(X1 e).1;have bg:=λe=>(X1 e).2;have bh:=λe i=>(X2 e i).1;have bi:=λe i=>(X2 e i).2
     have bj:=λe=>(Y1 e).1;have bk:=λe=>(Y1 e).2;have bl:=λe i=>(Y2 e i).1;have bm:=λe i=>(Y2 e i).2
     have bn:=λe=>(Z1 e).1;have bp:=λe=>(Z1 e).2;have br:=λe i=>(Z2 e i).1;have bs:=λe i=>(Z2 e i).2
     clear X1 X2 Y1 Y2 Z1 Z2;go_upto_region 10 with fail;go_cut [9,10]from 100 to 113 (λh d wx=>∃(aE Bk:Nat),h=.pointer (some ⟨aE,0,none⟩)/\d=.pointer (some ⟨Bk,0,none⟩)/\Fr NoM c wx/\wx.heap[aE]?=some (.cells #[.int .i64 M,.int .i64 (K:Int)] 29 (0,0))/\wx.heap[Bk]?=some (.cells #[.int .i64 N,.int .i64 (L:Int)] 29 (0,0)))
     case first =>
      go_region
      ·go_wp2_with fail
       go_meet
       case rel=>exact⟨c.heap.size,c.heap.size+1,rfl,rfl,(((nW c).alloc _).alloc _).drew,(((nW _).alloc _).drew).heap (xJ c _) id,((nW _).drew).heap (by have o:=xJ (c.alloc (.cells #[.int .i64 M,.int .i64 (K:Int)] 29)) (.cells #[.int .i64 N,.int .i64 (L:Int)] 29);rw[xZ]at o;exact o) id⟩
      ·go_wp2_with fail
       go_meet
       case rel=>exact⟨c.heap.size+1,c.heap.size,rfl,rfl,(((nW c).alloc _).alloc _).drew,((nW _).drew).heap (by have o:=xJ (c.alloc (.cells #[.int .i64 N,.int .i64 (L:Int)] 29)) (.cells #[.int .i64 M,.int .i64 (K:Int)] 29);rw[xZ]at o;exact o) id,(((nW _).alloc _).drew).heap (xJ c _) id⟩
     case rest =>
      obtain⟨aE,Bk,rfl,rfl,gd,D,e2⟩:=hcut;obtain⟨Wd,rfl⟩:=eX wc;have b7:=Hh (λa (p:Fr NoM Wd a)=>show a.cell? ⟨aE,0,none⟩=some (.int .i64 M)/\a.cell? ⟨aE,1,none⟩=some (.int .i64 (K:Int))/\a.cell? ⟨Bk,0,none⟩=some (.int .i64 N)/\a.cell? ⟨Bk,1,none⟩=some (.int .i64 (L:Int))from by
       have h0:=p.heap D id;have j:=p.heap e2 id;exact⟨qR h0 rfl,qR h0 rfl,qR j rfl,qR j rfl⟩)
      have KD:=Hh (l.o.trans gd kP);clear gd D e2;clear x0 x1 d0 d1 d2 d3 ca cb bf bg bh bi bj bk bl bm bn bp br bs bB b2 bC b3;obtain⟨k0,k1,k2,k3⟩:=b7.o Wd (Fr.refl _ _);have aB:=Hh (λ(a:World)=>zgn M N K L a (by have:=(aY.o rfl).2.1;omega) (by have:=(aZ.o rfl).2.1;omega) (by have:=(aY.o rfl).1;omega) (by have:=(aZ.o rfl).1;omega) _ rfl);obtain⟨G,i,o3⟩:=aI.o rfl rfl;by_cases aa:M*2^(24-K)<N*2^(24-L)
      ·have aB:=Hh (λ(a:World)=>by have o:=aB.o a;rw[vJ aa]at o;exact o)
       have a1:=G aa;obtain⟨ai,ac,ab,ho,hp,b8,W,hb⟩:=o3 a1;obtain⟨⟨z1,z2⟩,hz⟩:∃s,s=btwY ai ac:=⟨_,rfl⟩;obtain⟨i1,i2,i3⟩:=yk1 a1 ab;rw[<-hz]at i1 i2;have bd:=Hh (λ(a:World)=>yo5 ai M N ac K L a ho hp b8 W hb (aY.o rfl) (aZ.o rfl) z1 z2 hz.symm);have aG:=Hh (λ(a:World)=>zsy z1 z2 a g (by rw[m.o.2.2];exact i1) T P ⟨λf=>by
        have:=i2 (by rw[<-m.o.2.2];exact f);exact⟨m.o.1.trans this.1,m.o.2.1.trans this.2⟩,λf=>by
        have:=i3 (by rw[<-m.o.2.2];exact f);exact⟨m.o.1.trans this.1,m.o.2.1.trans this.2⟩⟩)
       clear G i o3 aa a1 ab ho hp b8 W hb hz i1 i2 i3;go_wp2_with fail;(with_reducible refine(aB.o _).mono ?_);rintro f w4 ⟨rfl,f4⟩;have F4:=Hh f4;clear f4 k0 k1 k2 k3;obtain⟨k0,k1,k2,k3⟩:=b7.o w4 F4.o;go_wp2_with fail;(with_reducible refine(bd.o _).mono ?_);rintro f w5 ⟨rfl,f5⟩;have F5:=Hh (F4.o.trans f5 kP);clear f5 k0 k1 k2 k3;go_wp2_with fail;(with_reducible refine(aG.o _).mono ?_);rintro f w6 ⟨rfl,f6⟩;have K6:=Hh (KD.o.trans (F5.o.trans f6 kP) kP);clear f6;obtain⟨u,y,z,A⟩:=a9.o w6 K6.o;have t:=Hh (HF.o w6 T P K6.o);go_wp2_with fail;refine yJ (v:=.tuple #[.agg #[.int .i64 T,.int .i64 P],.bool g]) (by simp[results,Tryz.results74,go_sem,u,y,z,A]) rfl ?_
       exact⟨rfl,t.o⟩
      ·have aB:=Hh (λ(a:World)=>by have o:=aB.o a;rw[vV aa]at o;exact o)
       have hz:=i aa;have Z:T=0/\P=0/\g=false:=by
        obtain⟨h,d,a0⟩:=m.o;have j:valB k=false:=hz;rw[zeq j]at h d;exact⟨h,d,a0.trans j⟩
       have b1:=Hh Z;clear Z hz;clear G i o3 aa;go_wp2_with fail;(with_reducible refine(aB.o _).mono ?_);rintro f w4 ⟨rfl,f4⟩;have K4:=Hh (KD.o.trans f4 kP);clear f4 k0 k1 k2 k3;obtain⟨u,y,z,A⟩:=a9.o w4 K4.o;have t:=Hh (HF.o w4 0 0 K4.o);go_wp2_with fail;refine yJ (v:=.tuple #[.agg #[.int .i64 0,.int .i64 0],.bool false]) (by simp[results,Tryz.results74,go_sem,u,y,z,A]) rfl ?_
       exact⟨by rw[b1.o.1,b1.o.2.1,b1.o.2.2],t.o⟩
  | _::_::_,_,a7,_,_,_,_,_,_,_,_,_,_,_,_=>simp at a7
  | _,_::_::_,_,a8,_,_,_,_,_,_,_,_,_,_,_=>simp at a8
theorem yag (C:List Nat)(k:Nat):zk0 C (k+1)=zk0 C k ++ [(.int .i64 (valD (C.getD k 0)).1,.int .i64 ((valD (C.getD k 0)).2:Int))]:=by unfold zk0;rw[List.range_succ,vZ];rfl
theorem yfz (C:List Nat)(k:Nat):arsL C (k+1)=arsL C k ++ [valB (C.getD k 0)]:=by unfold arsL;rw[List.range_succ,vZ];rfl
structure R7 (B:Nat) (W:World) (dv bv:Value) (C:List Nat) (k:Nat):Prop where
 d:W.ownsRow B 29 2 dv k (zau (zk0 C k))
 b:W.ownsRow B 4 1 bv k ((arsL C k).map encB)
 sep:∀q,dv.ownBlock=some q->bv.ownBlock≠some q
theorem R7.fr0 {B k:Nat}{c e:World}{g f:Value}{C:List Nat}(a:R7 B c g f C k)(h:Fr NoM c e):R7 B e g f C k:=⟨za3 a.d h kP,za3 a.b h kP,a.sep⟩
theorem R7.pairs {B k:Nat}{a:World}{b c:Value}{C:List Nat}(e:R7 B a b c C k):Pairs a b (zk0 C k):=Pairs.of_owns e.d
theorem R7.bools {B k:Nat}{a:World}{d c:Value}{C:List Nat}(e:R7 B a d c C k):SliceOf encB a c (arsL C k):=SliceOf.of_owns e.b rfl
theorem R7.next {B k:Nat}{o i j m:World}{n g f h:Value}{C:List Nat}(q:R7 B o n g C k)(t:Fr NoM o i)(z:Fr (Own1 n) i j)(r:j.ownsRow B 29 2 f (k+1) (zau (zk0 C k) ++ [.int .i64 (valD (C.getD k 0)).1,.int .i64 ((valD (C.getD k 0)).2:Int)])) (x:f.ownBlock=n.ownBlock\/∃d,f.ownBlock=some d/\i.heap.size<=d) {l:World}(p:Fr NoM j l) (u:Fr (Own1 g) l m) (v:m.ownsRow B 4 1 h (k+1) ((arsL C k).map encB ++ [.bool (valB (C.getD k 0))])) (y:h.ownBlock=g.ownBlock\/∃d,h.ownBlock=some d/\l.heap.size<=d):R7 B m f h C (k+1):=by have s:∀a,f.ownBlock=some a->g.ownBlock≠some a:=λa e b=>by{rcases x with c|⟨d,c,w⟩;{exact q.sep a (by rw[<-c];exact e) b};{rw[e]at c;cases c;have:=(q.b.lt a b).2;have:=t.size;omega}};refine⟨?_,?_,λa e b=>?_⟩;{rw[yag];(have b:zau (zk0 C k ++ [((.int .i64 (valD (C.getD k 0)).1:Value),(.int .i64 ((valD (C.getD k 0)).2:Int):Value))])=zau (zk0 C k) ++ [.int .i64 (valD (C.getD k 0)).1,.int .i64 ((valD (C.getD k 0)).2:Int)]:=by simp[zau]);rw[b];exact za3 (za3 r p kP) u (λa e b=>s a e b)};{rw[yfz,vZ];exact v};{rcases y with c|⟨d,c,w⟩;{exact s a e (by rw[<-c];exact b)};{rw[b]at c;cases c;have:=(r.lt a e).2;have:=p.size;omega}}
