import Derived.Test.YtlapkmhemepcaaaGreatDoorZim
import Derived.Test.YtlapkmhemepcaaaGreatDoorZiv
/- Lemmas. -/
set_option linter.all false
set_option maxHeartbeats 8000000
set_option maxRecDepth 4000
namespace Go.Proofs.YtlapkmhemepcaaaGreatDoor
open Go.RowKit
theorem zys {c l:Nat}(d:isNB c=true)(g:hasL c l)(f:∀h,¬hasR c h)(e:valB l=true):redT ((valD l).1*2^(24-(valD l).2)+1*2^(24-0)) 24=valT c:=by obtain⟨a,j,i,b⟩:=zvv d g f;rw[(b.goodD (b.good.1 e)).2,i.val];have:=zbz 24 0 a;rw[show(a-1,0).1*2^(24-(a-1,0).2)+1*2^(24-0)=a*2^24 from by simp only[Nat.sub_zero];omega];rw[show 24=0+24 from rfl,this];rfl
theorem zyr {c r:Nat}(d:isNB c=true)(g:hasR c r)(f:∀h,¬hasL c h)(e:valB r=true):redT ((valD r).1*2^(24-(valD r).2) + -1*2^(24-0)) 24=valT c:=by obtain⟨a,j,i,b⟩:=zs8 d g f;rw[(b.goodD (b.good.1 e)).2,i.val];have:=zbz 24 0 a;rw[show(a+1,0).1*2^(24-(a+1,0).2) + -1*2^(24-0)=a*2^24 from by simp only[Nat.sub_zero];omega];rw[show 24=0+24 from rfl,this];rfl
theorem yah {c:Nat}(b:isNB c=true){x:Int × Nat}(e:x=valT c):(valB c=true↔GoodD x.1 x.2)/\(valB c=true->(valD c).1=x.1/\(valD c).2=x.2)/\(valB c=false->(valD c).1=0/\(valD c).2=0):=by subst e;refine⟨(zrt b).good,λa=>?_,λa=>?_⟩;{unfold valD;rw[if_pos a];exact⟨rfl,rfl⟩};{rw[zek a];exact⟨rfl,rfl⟩}
theorem zvu {c l r:Nat}(o:isNB c=true)(q:hasL c l)(s:hasR c r)(m:valB l=true)(n:valB r=true) : ∃(b:Int) (a:Nat),valT c=(b,a)/\b%2≠0/\0<a/\a<=17/\redT (b-1) a=valD l/\redT (b+1) a=valD r/\(valD l).1*2^(24-(valD l).2)<(valD r).1*2^(24-(valD r).2):=by obtain⟨b,a,t,i,h,j,k⟩:=zvx o q s;have f:=j.good.1 m;have g:=k.good.1 n;have p:=(yag i h f g).1;have d:=(j.goodD f).2;have e:=(k.goodD g).2;have d:valD l=redT (b-1) a:=d;have e:valD r=redT (b+1) a:=e;refine⟨b,a,t.val,h,i,p,d.symm,e.symm,?_⟩;rw[d,e,zf6 a _ (by omega),zf6 a _ (by omega)];have:=zet (24-a);rw[Int.sub_mul,Int.add_mul];omega
theorem yai {l r:Nat}(e:valB l=true)(f:valB r=true)(i:(valD l).1*2^(24-(valD l).2)<(valD r).1*2^(24-(valD r).2)):geC l r=false:=by obtain⟨j,g⟩:=zcy e;obtain⟨k,h⟩:=zcy f;have c:nr ((valD l).1*2^(24-(valD l).2)) 24=l:=by{have a:=zeu (valD l).1 (valD l).2 (24-(valD l).2);rw[show(valD l).2+(24-(valD l).2)=24 from by have:=g.2.1;omega]at a;rw[a];exact j.toNr.symm};have d:nr ((valD r).1*2^(24-(valD r).2)) 24=r:=by{have a:=zeu (valD r).1 (valD r).2 (24-(valD r).2);rw[show(valD r).2+(24-(valD r).2)=24 from by have:=h.2.1;omega]at a;rw[a];exact k.toNr.symm};have b:=zik (P:=24) i;rw[c,d]at b;exact b
theorem ygq {c:Nat}(j:isNB c=true){t:Int}{p:Nat}(e:valT c=(t,p)):(valB c=true↔GoodD (btwY t p).1 (btwY t p).2)/\(valB c=true->(valD c).1=(btwY t p).1/\((valD c).2:Int)=(btwY t p).2)/\(valB c=false->(valD c).1=0/\((valD c).2:Int)=0):=by obtain⟨b,f,d⟩:=yah j e.symm;have b:valB c=true↔GoodD t p:=b;unfold btwY;by_cases g:p<=16;{rw[if_pos g];exact⟨b,λa=>⟨(f a).1,by rw[(f a).2]⟩,λa=>⟨(d a).1,by rw[(d a).2];rfl⟩⟩};{rw[if_neg g];have a:valB c=false:=by{cases a:valB c with| false=>rfl| true=>have:=(b.1 a).2.1;omega};(have h:∀ {i:Prop},valB c=true->i:=λe=>by rw[a]at e;cases e);exact⟨⟨λe=>h e,λe=>absurd e.2.1.2 (by decide)⟩,λe=>h e,λa=>⟨(d a).1,by rw[(d a).2];rfl⟩⟩}
theorem zv2 (a:Option Addr)(n c k b d:Nat)(f:k<n)(e:a=some ⟨b,d,none⟩)(w:World) : (Instr.indexAt 123 (.slice a n c) (.int .i64 (k:Int))).run Tryz.prog w=.ok (.pointer (some ⟨b,d+k*2,none⟩)) w:=by subst e;go_simp
theorem ziq (a:Option Addr)(n c k b d:Nat)(f:k<n)(e:a=some ⟨b,d,none⟩)(w:World) : (Instr.indexAt 103 (.slice a n c) (.int .i64 (k:Int))).run Tryz.prog w=.ok (.pointer (some ⟨b,d+k,none⟩)) w:=by subst e;go_simp
noncomputable def zif (C:List Nat)(n:Nat):List (Value × Value):=(List.range n).map λa=>(.int .i64 (valD (C.getD a 0)).1,.int .i64 ((valD (C.getD a 0)).2:Int))
noncomputable def arsL (C:List Nat)(n:Nat):List Bool:=(List.range n).map λa=>valB (C.getD a 0)
theorem zs6 (C:List Nat)(n:Nat):(zif C n).length=n:=by unfold zif;rw[uJ,uY]
theorem zyk (C:List Nat)(n:Nat):(arsL C n).length=n:=by unfold arsL;rw[uJ,uY]
theorem zs7 (C:List Nat){n j:Nat}(a:j<n):(zif C n)[j]?=some (.int .i64 (valD (C.getD j 0)).1,.int .i64 ((valD (C.getD j 0)).2:Int)):=by unfold zif;rw[vZ,List.getElem?_range a];rfl
theorem zym (C:List Nat){n j:Nat}(a:j<n):(arsL C n)[j]?=some (valB (C.getD j 0)):=by unfold arsL;rw[vZ,List.getElem?_range a];rfl
theorem zzg {C:List Nat}{V:List PL}(B:BookC V C)(x n:Nat)(hx:x<V.length)(bV:x<=n)(bU:n<=1000)(hc:CanC (C.getD x 0))(lv rv dv bv:Value)(w:World)(hL:Nats w lv (za4 V x).1)(hR:Nats w rv (za4 V x).2)(hD:Pairs w dv (zif C n))(hB:SliceOf encB w bv (arsL C n))
  (T P:Int) (g:Bool) (hT:T=(valD (C.getD x 0)).1) (hP:P=((valD (C.getD x 0)).2:Int)) (hg:g=valB (C.getD x 0)) :
  Calls Tryz.prog 168 #[.agg #[lv,rv],dv,bv] w λf w'=>f=.returned (.tuple #[.agg #[.int .i64 T,.int .i64 P],.bool g])/\Fr NoM w w':=by
 obtain⟨k,aD⟩:=eX (C.getD x 0);have H:=zn4 B hx hc;obtain⟨O,Q⟩:=zb2 B hx;obtain⟨G,i⟩:=B.opts x _ (za6 hx);rw[<-aD]at H O Q hc hT hP hg;have m:=Hh (And.intro hT (And.intro hP hg));obtain⟨b,q⟩:=eX ((w.alloc (.cells #[lv,rv] 102)).alloc (.cells #[.int .i64 0,.int .i64 0] 29));have f1:Fr NoM w b:=by rw[q];exact((nW w).alloc _).alloc _
 have e0:b.heap[w.heap.size]?=some (.cells #[lv,rv] 102 (0,0)):=by rw[q];exact((nW _).alloc _).heap (xJ w _) id
 have D:b.heap[w.heap.size+1]?=some (.cells #[.int .i64 0,.int .i64 0] 29 (0,0)):=by
  have o:=xJ (w.alloc (.cells #[lv,rv] 102)) (.cells #[.int .i64 0,.int .i64 0] 29);rw[xZ]at o;rw[q];exact o
 have HX:=Hh (λa (p:Fr NoM b a)=>show a.cell? ⟨w.heap.size,0,none⟩=some lv/\a.cell? ⟨w.heap.size,1,none⟩=some rv from by
  have h0:=p.heap e0 id;exact⟨by rw[xX a _ 0 _ _ _ h0];rfl,by rw[xX a _ 1 _ _ _ h0];rfl⟩)
 have a9:=Hh (λa (p:Fr NoM b a)=>show a.cell? ⟨w.heap.size+1,0,none⟩=some (.int .i64 0)/\a.cell? ⟨w.heap.size+1,1,none⟩=some (.int .i64 0)/\a.frozen? ⟨w.heap.size+1,0,none⟩=false/\a.frozen? ⟨w.heap.size+1,1,none⟩=false from by
  have j:=p.heap D id;exact⟨by rw[xX a _ 0 _ _ _ j];rfl,by rw[xX a _ 1 _ _ _ j];rfl,by simp[World.frozen?,j],by simp[World.frozen?,j]⟩)
 have HF:=Hh (λ(a:World) (y1 y2:Int) (p:Fr NoM b a)=>(((f1.trans p kP).setCell ⟨w.heap.size+1,0,none⟩ (.int .i64 y1) (λo=>by have o:w.heap.size+1<w.heap.size:=o;omega)).setCell ⟨w.heap.size+1,1,none⟩ (.int .i64 y2) (λo=>by have o:w.heap.size+1<w.heap.size:=o;omega):Fr NoM w ((a.setCell ⟨w.heap.size+1,0,none⟩ (.int .i64 y1)).setCell ⟨w.heap.size+1,1,none⟩ (.int .i64 y2))));have ak:=Hh (λa (p:Fr NoM b a)=>hL.fr0 (f1.trans p kP));have al:=Hh (λa (p:Fr NoM b a)=>hR.fr0 (f1.trans p kP));obtain⟨da,dc,rfl,_,_,bb⟩:=id hD;obtain⟨ba,bc,rfl,_,_,b9⟩:=id hB;rw[zs6]at *;rw[zyk]at *;have aT:=Hh (λ(r:Nat) (hy:r<n)=>show ∃d a4,(∀a,(Instr.indexAt 123 (.slice da n dc) (.int .i64 (r:Int))).run Tryz.prog a=.ok (.pointer (some ⟨d,a4,none⟩)) a)/\∀a,Fr NoM b a->a.cell? ⟨d,a4,none⟩=some (.int .i64 (valD (C.getD r 0)).1)/\a.cell? ⟨d,a4+1,none⟩=some (.int .i64 ((valD (C.getD r 0)).2:Int))from by
  obtain⟨d,a4,W,c1,c2⟩:=bb r _ (zs7 C hy);exact⟨d,a4+r*2,λa=>zv2 da n dc r d a4 hy W a,λa p=>⟨(f1.trans p kP).cell c1 id,(f1.trans p kP).cell c2 id⟩⟩)
 have aS:=Hh (λ(r:Nat) (hy:r<n)=>show ∃d a4,(∀a,(Instr.indexAt 103 (.slice ba n bc) (.int .i64 (r:Int))).run Tryz.prog a=.ok (.pointer (some ⟨d,a4,none⟩)) a)/\∀a,Fr NoM b a->a.cell? ⟨d,a4,none⟩=some (.bool (valB (C.getD r 0)))from by
  obtain⟨d,a4,W,c1⟩:=b9 r _ (zym C hy);exact⟨d,a4+r,λa=>ziq ba n bc r d a4 hy W a,λa p=>(f1.trans p kP).cell c1 id⟩)
 obtain⟨ap,aL⟩:=eX ((za4 V x).1);obtain⟨aK,aM⟩:=eX ((za4 V x).2);have I:=hL;have J:=hR;have aH:=Hh aL;have aJ:=Hh aM;have G:∀b6∈(za4 V x).1,b6<x:=G;have i:∀b6∈(za4 V x).2,b6<x:=i;rw[<-aL]at H O I G;rw[<-aM]at H Q J i;rw[<-aL]at ak;rw[<-aM]at al;clear hL hR hD hB bb b9 f1 e0 D hT hP hg;have bI:ap.length<=9223372036854775807:=by obtain⟨h,k,_,j,h2,_⟩:=I;omega
 have bJ:aK.length<=9223372036854775807:=by obtain⟨h,k,_,j,h2,_⟩:=J;omega
 by_cases bT:1<ap.length\/1<aK.length
 ·have a1:isNB k=false:=by
   cases hc:isNB k with
   | false=>rfl
   | true=>have:=H.1 hc;omega
  have Z:T=0/\P=0/\g=false:=by
   obtain⟨h,d,a0⟩:=m.out;have j:=zky a1;rw[zek j]at h d;exact⟨h,d,a0.trans j⟩
  obtain⟨rfl,rfl,rfl⟩:=Z;obtain⟨ua,uc,rfl,s⟩:=id I;clear s;obtain⟨va,vc,rfl,s⟩:=id J;clear s H O Q G i hc I J aL aM aD;obtain⟨x0,x1⟩:=HX.out b (Fr.refl _ _);obtain⟨u,y,z,A⟩:=a9.out b (Fr.refl _ _);have t:=Hh (HF.out b 0 0 (Fr.refl _ _));by_cases j:1<ap.length
  ·have bH:(1:Int)<(ap.length:Int):=by omega
   go_enter Tryz.func168,Tryz.ntmps168;go_upto_region 1 with fail;rw[<-q];clear q;go_wp2_with fail;refine yY (v:=.tuple #[.agg #[.int .i64 0,.int .i64 0],.bool false]) (by simp[results,Tryz.results168,go_sem,u,y,z,A]) rfl ?_
   exact⟨rfl,t.out⟩
  ·have bH:¬(1:Int)<(ap.length:Int):=by omega
   have bS:(1:Int)<(aK.length:Int):=by omega
   go_enter Tryz.func168,Tryz.ntmps168;go_upto_region 1 with fail;rw[<-q];clear q;go_wp2_with fail;refine yY (v:=.tuple #[.agg #[.int .i64 0,.int .i64 0],.bool false]) (by simp[results,Tryz.results168,go_sem,u,y,z,A]) rfl ?_
   exact⟨rfl,t.out⟩
 ·have a7:ap.length<=1:=by omega
  have a8:aK.length<=1:=by omega
  clear bI bJ aL aM;match ap,aK,a7,a8,O,Q,G,i,I,J,ak,al,aH,aJ,H with
  | [],[],a7,a8,O,Q,G,i,I,J,ak,al,aH,aJ,H =>
   have a1:isNB k=true:=H.2 (by simp);have Z:T=0/\P=0/\g=true:=by
    obtain⟨h,d,a0⟩:=m.out;obtain⟨j,h2⟩:=zvr a1 (λah X=>by obtain⟨r,hy,_⟩:=(O ah).1 X;simp at hy) (λah X=>by obtain⟨r,hy,_⟩:=(Q ah).1 X;simp at hy);rw[h2]at h d;exact⟨h,d,a0.trans j⟩
   obtain⟨rfl,rfl,rfl⟩:=Z;obtain⟨ua,uc,S,s⟩:=id I;have S:lv=.slice ua 0 uc:=S;subst S;clear s;obtain⟨va,vc,U,s⟩:=id J;have U:rv=.slice va 0 vc:=U;subst U;clear s;clear H O Q G i hc I J aD a7 a8;obtain⟨x0,x1⟩:=HX.out b (Fr.refl _ _);go_enter Tryz.func168,Tryz.ntmps168;go_upto_region 1 with fail;rw[<-q];clear q;go_upto_region 4 with fail;obtain⟨c,E⟩:=eX (b.alloc (.cells #[.int .i64 1,.int .i64 0] 29));have g3:Fr NoM b c:=by rw[E];exact(nW b).alloc _
   have R:c.heap[b.heap.size]?=some (.cells #[.int .i64 1,.int .i64 0] 29 (0,0)):=by rw[E];exact xJ b _
   have q0:c.cell? ⟨b.heap.size,0,none⟩=some (.int .i64 1):=by rw[xX c _ 0 _ _ _ R];rfl
   have q1:c.cell? ⟨b.heap.size,1,none⟩=some (.int .i64 0):=by rw[xX c _ 1 _ _ _ R];rfl
   have l:=Hh g3;rw[<-E];clear E g3 R;clear x0 x1;obtain⟨x0,x1⟩:=HX.out c l.out;obtain⟨u,y,z,A⟩:=a9.out c l.out;have t:=Hh (HF.out c 0 0 l.out);go_wp2_with fail;refine yY (v:=.tuple #[.agg #[.int .i64 0,.int .i64 0],.bool true]) (by simp[results,Tryz.results168,go_sem,u,y,z,A]) rfl ?_
   exact⟨rfl,t.out⟩
  | [h],[],a7,a8,O,Q,G,i,I,J,ak,al,aH,aJ,H =>
   obtain⟨ua,uc,S,s⟩:=id I;have S:lv=.slice ua 1 uc:=S;subst S;clear s;obtain⟨va,vc,U,s⟩:=id J;have U:rv=.slice va 0 vc:=U;subst U;clear s;obtain⟨M,af⟩:=eX ((valD (C.getD h 0)).1);obtain⟨K,ad⟩:=eX ((valD (C.getD h 0)).2);obtain⟨ga,a5⟩:=eX (valB (C.getD h 0));have aP:ga=true->GoodD M K:=λf=>by rw[af,ad];exact(zcy (by rw[<-a5];exact f)).2
   have b4:=G h (by simp);obtain⟨bt,bD,bM,av⟩:=aT.out h (by omega);obtain⟨bw,bF,bK,aq⟩:=aS.out h (by omega);rw[<-af,<-ad]at av;rw[<-a5]at aq;have aF:=Hh av;have aW:=Hh aq;obtain⟨bz,bQ,bO,aN⟩:∃bq oq,(∀a,(Instr.indexAt 100 (.slice ua 1 uc) (.int .i64 0)).run Tryz.prog a=.ok (.pointer (some ⟨bq,oq,none⟩)) a)/\∀a,Fr NoM b a->a.cell? ⟨bq,oq,none⟩=some (.int .i64 (h:Int)):=by
    obtain⟨_,_,ee,_,_,au⟩:=ak.out b (Fr.refl _ _);cases ee
    obtain⟨bo,oo,W,c1⟩:=au 0 h rfl;exact⟨bo,oo,λa=>za8 ua 1 uc 0 bo oo (by omega) W a,λa p=>p.cell c1 id⟩
   have ao:=Hh aN;clear aN;clear av aq;have ay:∀a2,¬hasR k a2:=λa2 Y=>by obtain⟨r,hy,_⟩:=(Q a2).1 Y;simp at hy
   have a3:=(O _).2 ⟨h,by simp,rfl⟩;have aR:isNB (C.getD h 0)=true->isNB k=true:=λf=>H.2 ⟨by simp,by simp,λah X=>by rw[yQ.1 X];exact f,λa2 Y=>by simp at Y,λah X a2 Y=>by simp at Y⟩
   have am:ga=false->valB k=false:=λf=>by
    cases F:isNB k with
    | false=>exact zky F
    | true=>exact(zvt F a3 ay).1 (by rw[<-a5];exact f)
   have an:ga=true->isNB k=true/\redT (M*2^(24-K)+1*2^(24-0)) 24=valT k:=λf=>by
    have D:valB (C.getD h 0)=true:=by rw[<-a5];exact f
    have F:=aR (zhn D);exact⟨F,by rw[af,ad];exact zys F a3 ay D⟩
   have b0:=Hh aP;have aC:=Hh am;have aI:=Hh an;have ca:=ao.out b (Fr.refl _ _);have cb:=aW.out b (Fr.refl _ _);clear H O Q G i hc I J aD a7 a8 aP am an aR a3 ay b4 af ad a5;obtain⟨x0,x1⟩:=HX.out b (Fr.refl _ _);cases ga with
   | false =>
    have Z:T=0/\P=0/\g=false:=by
     obtain⟨h,d,a0⟩:=m.out;have j:valB k=false:=aC.out rfl;rw[zek j]at h d;exact⟨h,d,a0.trans j⟩
    obtain⟨rfl,rfl,rfl⟩:=Z;obtain⟨u,y,z,A⟩:=a9.out b (Fr.refl _ _);have t:=Hh (HF.out b 0 0 (Fr.refl _ _));go_enter Tryz.func168,Tryz.ntmps168;go_upto_region 1 with fail;rw[<-q];clear q;go_wp2_with fail;refine yY (v:=.tuple #[.agg #[.int .i64 0,.int .i64 0],.bool false]) (by simp[results,Tryz.results168,go_sem,u,y,z,A]) rfl ?_
    exact⟨rfl,t.out⟩
   | true =>
    obtain⟨a1,az⟩:=aI.out rfl;obtain⟨⟨vt,vp⟩,ab⟩:∃r,r=valT k:=⟨_,rfl⟩;rw[<-ab]at az;obtain⟨i1,i2,i3⟩:=yah a1 ab;have ax:=b0.out rfl;have aV:=Hh (λ(a:World)=>show Calls Tryz.prog 188 #[.agg #[.int .i64 M,.int .i64 (K:Int)],.agg #[.int .i64 1,.int .i64 0]] a λf w'=>f=.returned (.agg #[.int .i64 vt,.int .i64 (vp:Int)])/\Fr NoM a w' from by
     have o:=zo4 M 1 K 0 a (by have:=ax.2.1;omega) (by omega) (by have:=ax.1;omega) (by omega);rw[show(1:Int)*2^(24-0)=1*2^(24-0)from rfl,az]at o;exact o)
    have aG:=Hh (λ(a:World)=>zrr vt (vp:Int) a g (by rw[m.out.2.2];exact i1) T P ⟨λf=>by
     have:=i2 (by rw[<-m.out.2.2];exact f);exact⟨m.out.1.trans this.1,by rw[m.out.2.1,this.2]⟩,λf=>by
     have:=i3 (by rw[<-m.out.2.2];exact f);exact⟨m.out.1.trans this.1,by rw[m.out.2.1,this.2];rfl⟩⟩)
    clear i1 i2 i3 a1 az ab ax;go_enter Tryz.func168,Tryz.ntmps168;go_upto_region 1 with fail;rw[<-q];clear q;go_upto_region 4 with fail;obtain⟨c,E⟩:=eX (b.alloc (.cells #[.int .i64 1,.int .i64 0] 29));have g3:Fr NoM b c:=by rw[E];exact(nW b).alloc _
    have R:c.heap[b.heap.size]?=some (.cells #[.int .i64 1,.int .i64 0] 29 (0,0)):=by rw[E];exact xJ b _
    have q0:c.cell? ⟨b.heap.size,0,none⟩=some (.int .i64 1):=by rw[xX c _ 0 _ _ _ R];rfl
    have q1:c.cell? ⟨b.heap.size,1,none⟩=some (.int .i64 0):=by rw[xX c _ 1 _ _ _ R];rfl
    have l:=Hh g3;rw[<-E];clear E g3 R;clear x0 x1 ca cb;obtain⟨x0,x1⟩:=HX.out c l.out;obtain⟨d0,d1⟩:=aF.out c l.out;have ca:=ao.out c l.out;go_upto_region 7 with fail;have GD:Fr NoM b c.drew:=l.out.drew;go_region_law (first
     | (go_simp;first
      | (go_at_call 188;(with_reducible refine(aV.out _).mono ?_);rintro f w5 ⟨rfl,f5⟩;have k5:Fr NoM b w5:=Fr.trans GD f5 kP)
      | (go_at_call 195;(with_reducible refine(aG.out _).mono ?_);rintro f w6 ⟨rfl,f6⟩;have k6:Fr NoM b w6:=Fr.trans k5 f6 kP;obtain⟨u,y,z,A⟩:=a9.out w6 k6)
      | fail)
     | fail)
    all_goals
     have t:=Hh (HF.out w6 T P k6);go_wp2_with fail;refine yY (v:=.tuple #[.agg #[.int .i64 T,.int .i64 P],.bool g]) (by simp[results,Tryz.results168,go_sem,u,y,z,A]) rfl ?_
     exact⟨rfl,t.out⟩
  | [],[d],a7,a8,O,Q,G,i,I,J,ak,al,aH,aJ,H =>
   obtain⟨ua,uc,S,s⟩:=id I;have S:lv=.slice ua 0 uc:=S;subst S;clear s;obtain⟨va,vc,U,s⟩:=id J;have U:rv=.slice va 1 vc:=U;subst U;clear s;obtain⟨N,ag⟩:=eX ((valD (C.getD d 0)).1);obtain⟨L,ae⟩:=eX ((valD (C.getD d 0)).2);obtain⟨gb,a6⟩:=eX (valB (C.getD d 0));have aQ:gb=true->GoodD N L:=λf=>by rw[ag,ae];exact(zcy (by rw[<-a6];exact f)).2
   have b5:=i d (by simp);obtain⟨bu,bE,bN,aw⟩:=aT.out d (by omega);obtain⟨bx,bG,bL,ar⟩:=aS.out d (by omega);rw[<-ag,<-ae]at aw;rw[<-a6]at ar;have aA:=Hh aw;have aX:=Hh ar;obtain⟨bA,bR,bP,aO⟩:∃bq oq,(∀a,(Instr.indexAt 100 (.slice va 1 vc) (.int .i64 0)).run Tryz.prog a=.ok (.pointer (some ⟨bq,oq,none⟩)) a)/\∀a,Fr NoM b a->a.cell? ⟨bq,oq,none⟩=some (.int .i64 (d:Int)):=by
    obtain⟨_,_,ee,_,_,au⟩:=al.out b (Fr.refl _ _);cases ee
    obtain⟨bo,oo,W,c1⟩:=au 0 d rfl;exact⟨bo,oo,λa=>za8 va 1 vc 0 bo oo (by omega) W a,λa p=>p.cell c1 id⟩
   have aj:=Hh aO;clear aO;clear aw ar;have ay:∀a2,¬hasL k a2:=λa2 Y=>by obtain⟨r,hy,_⟩:=(O a2).1 Y;simp at hy
   have a3:=(Q _).2 ⟨d,by simp,rfl⟩;have aR:isNB (C.getD d 0)=true->isNB k=true:=λf=>H.2 ⟨by simp,by simp,λa2 Y=>by simp at Y,λah X=>by rw[yQ.1 X];exact f,λah X a2 Y=>by simp at X⟩
   have am:gb=false->valB k=false:=λf=>by
    cases F:isNB k with
    | false=>exact zky F
    | true=>exact(zvs F a3 ay).1 (by rw[<-a6];exact f)
   have an:gb=true->isNB k=true/\redT (N*2^(24-L) + -1*2^(24-0)) 24=valT k:=λf=>by
    have D:valB (C.getD d 0)=true:=by rw[<-a6];exact f
    have F:=aR (zhn D);exact⟨F,by rw[ag,ae];exact zyr F a3 ay D⟩
   have b0:=Hh aQ;have aC:=Hh am;have aI:=Hh an;have ca:=aj.out b (Fr.refl _ _);have cb:=aX.out b (Fr.refl _ _);clear H O Q G i hc I J aD a7 a8 aQ am an aR a3 ay b5 ag ae a6;obtain⟨x0,x1⟩:=HX.out b (Fr.refl _ _);cases gb with
   | false =>
    have Z:T=0/\P=0/\g=false:=by
     obtain⟨h,d,a0⟩:=m.out;have j:valB k=false:=aC.out rfl;rw[zek j]at h d;exact⟨h,d,a0.trans j⟩
    obtain⟨rfl,rfl,rfl⟩:=Z;obtain⟨u,y,z,A⟩:=a9.out b (Fr.refl _ _);have t:=Hh (HF.out b 0 0 (Fr.refl _ _));go_enter Tryz.func168,Tryz.ntmps168;go_upto_region 1 with fail;rw[<-q];clear q;go_wp2_with fail;refine yY (v:=.tuple #[.agg #[.int .i64 0,.int .i64 0],.bool false]) (by simp[results,Tryz.results168,go_sem,u,y,z,A]) rfl ?_
    exact⟨rfl,t.out⟩
   | true =>
    obtain⟨a1,az⟩:=aI.out rfl;obtain⟨⟨vt,vp⟩,ab⟩:∃r,r=valT k:=⟨_,rfl⟩;rw[<-ab]at az;obtain⟨i1,i2,i3⟩:=yah a1 ab;have ax:=b0.out rfl;have aV:=Hh (λ(a:World)=>show Calls Tryz.prog 188 #[.agg #[.int .i64 N,.int .i64 (L:Int)],.agg #[.int .i64 (-1),.int .i64 0]] a λf w'=>f=.returned (.agg #[.int .i64 vt,.int .i64 (vp:Int)])/\Fr NoM a w' from by
     have o:=zo4 N (-1) L 0 a (by have:=ax.2.1;omega) (by omega) (by have:=ax.1;omega) (by omega);rw[show((-1):Int)*2^(24-0)=-1*2^(24-0)from rfl,az]at o;exact o)
    have aG:=Hh (λ(a:World)=>zrr vt (vp:Int) a g (by rw[m.out.2.2];exact i1) T P ⟨λf=>by
     have:=i2 (by rw[<-m.out.2.2];exact f);exact⟨m.out.1.trans this.1,by rw[m.out.2.1,this.2]⟩,λf=>by
     have:=i3 (by rw[<-m.out.2.2];exact f);exact⟨m.out.1.trans this.1,by rw[m.out.2.1,this.2];rfl⟩⟩)
    clear i1 i2 i3 a1 az ab ax;go_enter Tryz.func168,Tryz.ntmps168;go_upto_region 1 with fail;rw[<-q];clear q;go_upto_region 4 with fail;obtain⟨c,E⟩:=eX (b.alloc (.cells #[.int .i64 1,.int .i64 0] 29));have g3:Fr NoM b c:=by rw[E];exact(nW b).alloc _
    have R:c.heap[b.heap.size]?=some (.cells #[.int .i64 1,.int .i64 0] 29 (0,0)):=by rw[E];exact xJ b _
    have q0:c.cell? ⟨b.heap.size,0,none⟩=some (.int .i64 1):=by rw[xX c _ 0 _ _ _ R];rfl
    have q1:c.cell? ⟨b.heap.size,1,none⟩=some (.int .i64 0):=by rw[xX c _ 1 _ _ _ R];rfl
    have l:=Hh g3;rw[<-E];clear E g3 R;clear x0 x1 ca cb;obtain⟨x0,x1⟩:=HX.out c l.out;obtain⟨d0,d1⟩:=aA.out c l.out;have ca:=aj.out c l.out;have be:=Hh (λ(a:World)=>show Calls Tryz.prog 189 #[.agg #[.int .i64 1,.int .i64 0]] a λf w'=>f=.returned (.agg #[.int .i64 (-1),.int .i64 0])/\Fr NoM a w' from zh9 1 0 a (by omega));go_upto_region 9 with fail;have GD:Fr NoM b c.drew:=l.out.drew;go_region_law (first
     | (go_simp;first
      | (go_at_call 189;(with_reducible refine(be.out _).mono ?_);rintro f wn ⟨rfl,fn⟩;have kn:Fr NoM b wn:=Fr.trans (by assumption) fn kP;obtain⟨y0,y1⟩:=HX.out wn kn;obtain⟨e0,D⟩:=aA.out wn kn;have cc:=aj.out wn kn)
      | (go_at_call 188;(with_reducible refine(aV.out _).mono ?_);rintro f w5 ⟨rfl,f5⟩;have k5:Fr NoM b w5:=Fr.trans kn f5 kP)
      | (go_at_call 195;(with_reducible refine(aG.out _).mono ?_);rintro f w6 ⟨rfl,f6⟩;have k6:Fr NoM b w6:=Fr.trans k5 f6 kP;obtain⟨u,y,z,A⟩:=a9.out w6 k6)
      | fail)
     | fail)
    all_goals
     have t:=Hh (HF.out w6 T P k6);go_wp2_with fail;refine yY (v:=.tuple #[.agg #[.int .i64 T,.int .i64 P],.bool g]) (by simp[results,Tryz.results168,go_sem,u,y,z,A]) rfl ?_
     exact⟨rfl,t.out⟩
  | [h],[d],a7,a8,O,Q,G,i,I,J,ak,al,aH,aJ,H =>
   obtain⟨ua,uc,S,s⟩:=id I;have S:lv=.slice ua 1 uc:=S;subst S;clear s;obtain⟨va,vc,U,s⟩:=id J;have U:rv=.slice va 1 vc:=U;subst U;clear s;obtain⟨M,af⟩:=eX ((valD (C.getD h 0)).1);obtain⟨K,ad⟩:=eX ((valD (C.getD h 0)).2);obtain⟨ga,a5⟩:=eX (valB (C.getD h 0));have aP:ga=true->GoodD M K:=λf=>by rw[af,ad];exact(zcy (by rw[<-a5];exact f)).2
   have b4:=G h (by simp);obtain⟨bt,bD,bM,av⟩:=aT.out h (by omega);obtain⟨bw,bF,bK,aq⟩:=aS.out h (by omega);rw[<-af,<-ad]at av;rw[<-a5]at aq;have aF:=Hh av;have aW:=Hh aq;obtain⟨bz,bQ,bO,aN⟩:∃bq oq,(∀a,(Instr.indexAt 100 (.slice ua 1 uc) (.int .i64 0)).run Tryz.prog a=.ok (.pointer (some ⟨bq,oq,none⟩)) a)/\∀a,Fr NoM b a->a.cell? ⟨bq,oq,none⟩=some (.int .i64 (h:Int)):=by
    obtain⟨_,_,ee,_,_,au⟩:=ak.out b (Fr.refl _ _);cases ee
    obtain⟨bo,oo,W,c1⟩:=au 0 h rfl;exact⟨bo,oo,λa=>za8 ua 1 uc 0 bo oo (by omega) W a,λa p=>p.cell c1 id⟩
   have ao:=Hh aN;clear aN;clear av aq;obtain⟨N,ag⟩:=eX ((valD (C.getD d 0)).1);obtain⟨L,ae⟩:=eX ((valD (C.getD d 0)).2);obtain⟨gb,a6⟩:=eX (valB (C.getD d 0));have aQ:gb=true->GoodD N L:=λf=>by rw[ag,ae];exact(zcy (by rw[<-a6];exact f)).2
   have b5:=i d (by simp);obtain⟨bu,bE,bN,aw⟩:=aT.out d (by omega);obtain⟨bx,bG,bL,ar⟩:=aS.out d (by omega);rw[<-ag,<-ae]at aw;rw[<-a6]at ar;have aA:=Hh aw;have aX:=Hh ar;obtain⟨bA,bR,bP,aO⟩:∃bq oq,(∀a,(Instr.indexAt 100 (.slice va 1 vc) (.int .i64 0)).run Tryz.prog a=.ok (.pointer (some ⟨bq,oq,none⟩)) a)/\∀a,Fr NoM b a->a.cell? ⟨bq,oq,none⟩=some (.int .i64 (d:Int)):=by
    obtain⟨_,_,ee,_,_,au⟩:=al.out b (Fr.refl _ _);cases ee
    obtain⟨bo,oo,W,c1⟩:=au 0 d rfl;exact⟨bo,oo,λa=>za8 va 1 vc 0 bo oo (by omega) W a,λa p=>p.cell c1 id⟩
   have aj:=Hh aO;clear aO;clear aw ar;have a3:=(O _).2 ⟨h,by simp,rfl⟩;have aU:=(Q _).2 ⟨d,by simp,rfl⟩;have am:ga=false\/gb=false->valB k=false:=λf=>by
    cases F:isNB k with
    | false=>exact zky F
    | true=>exact(zng F a3 aU).1 (by rw[<-a5,<-a6];exact f)
   have an:ga=true->gb=true->(M*2^(24-K)<N*2^(24-L)->isNB k=true)/\(¬M*2^(24-K)<N*2^(24-L)->valB k=false)/\(isNB k=true->∃(ai:Int) (ac:Nat),valT k=(ai,ac)/\ai%2≠0/\0<ac/\ac<=17/\redT (ai-1) ac=(M,K)/\redT (ai+1) ac=(N,L)):=λD e2=>by
    have D:valB (C.getD h 0)=true:=by rw[<-a5];exact D
    have e2:valB (C.getD d 0)=true:=by rw[<-a6];exact e2
    rw[af,ad,ag,ae];refine⟨λaa=>H.2 ⟨by simp,by simp,λah X=>by rw[yQ.1 X];exact zhn D,λa2 Y=>by rw[yQ.1 Y];exact zhn e2,λah X a2 Y=>by
     rw[yQ.1 X,yQ.1 Y];exact yai D e2 aa⟩,λaa=>?_,λF=>?_⟩
    ·cases F:isNB k with
     | false=>exact zky F
     | true =>
      obtain⟨_,_,_,_,_,_,_,_,o⟩:=zvu F a3 aU D e2;exact absurd o aa
    ·obtain⟨ai,ac,j,h2,h3,h4,h5,h6,_⟩:=zvu F a3 aU D e2
     exact⟨ai,ac,j,h2,h3,h4,h5,h6⟩
   have aY:=Hh aP;have aZ:=Hh aQ;have aC:=Hh am;have aI:=Hh an;have ca:=ao.out b (Fr.refl _ _);have b2:=aW.out b (Fr.refl _ _);have cb:=aj.out b (Fr.refl _ _);have b3:=aX.out b (Fr.refl _ _);clear H O Q G i hc I J aD a7 a8 aP aQ am an a3 aU b4 af ad a5 b5 ag ae a6;obtain⟨x0,x1⟩:=HX.out b (Fr.refl _ _);cases ga with
   | false =>
    have Z:T=0/\P=0/\g=false:=by
     obtain⟨h,d,a0⟩:=m.out;have j:valB k=false:=aC.out (.inl rfl);rw[zek j]at h d;exact⟨h,d,a0.trans j⟩
    obtain⟨rfl,rfl,rfl⟩:=Z;obtain⟨u,y,z,A⟩:=a9.out b (Fr.refl _ _);have t:=Hh (HF.out b 0 0 (Fr.refl _ _));go_enter Tryz.func168,Tryz.ntmps168;go_upto_region 1 with fail;rw[<-q];clear q;go_wp2_with fail;refine yY (v:=.tuple #[.agg #[.int .i64 0,.int .i64 0],.bool false]) (by simp[results,Tryz.results168,go_sem,u,y,z,A]) rfl ?_
    exact⟨rfl,t.out⟩
   | true =>
    cases gb with
    | false =>
     have Z:T=0/\P=0/\g=false:=by
      obtain⟨h,d,a0⟩:=m.out;have j:valB k=false:=aC.out (.inr rfl);rw[zek j]at h d;exact⟨h,d,a0.trans j⟩
     obtain⟨rfl,rfl,rfl⟩:=Z;obtain⟨u,y,z,A⟩:=a9.out b (Fr.refl _ _);have t:=Hh (HF.out b 0 0 (Fr.refl _ _));go_enter Tryz.func168,Tryz.ntmps168;go_upto_region 1 with fail;rw[<-q];clear q;go_wp2_with fail;refine yY (v:=.tuple #[.agg #[.int .i64 0,.int .i64 0],.bool false]) (by simp[results,Tryz.results168,go_sem,u,y,z,A]) rfl ?_
     exact⟨rfl,t.out⟩
    | true =>
     go_enter Tryz.func168,Tryz.ntmps168;go_upto_region 1 with fail;rw[<-q];clear q;go_upto_region 4 with fail;obtain⟨c,E⟩:=eX (b.alloc (.cells #[.int .i64 1,.int .i64 0] 29));have g3:Fr NoM b c:=by rw[E];exact(nW b).alloc _
     have R:c.heap[b.heap.size]?=some (.cells #[.int .i64 1,.int .i64 0] 29 (0,0)):=by rw[E];exact xJ b _
     have q0:c.cell? ⟨b.heap.size,0,none⟩=some (.int .i64 1):=by rw[xX c _ 0 _ _ _ R];rfl
     have q1:c.cell? ⟨b.heap.size,1,none⟩=some (.int .i64 0):=by rw[xX c _ 1 _ _ _ R];rfl
     have l:=Hh g3;rw[<-E];clear E g3 R;clear x0 x1 ca cb b2 b3 q0 q1;obtain⟨x0,x1⟩:=HX.out c l.out;obtain⟨d0,d1⟩:=aF.out c l.out;obtain⟨d2,d3⟩:=aA.out c l.out;have ca:=ao.out c l.out;have cb:=aj.out c l.out;have X1:=λe=>HX.out (c.alloc e) (l.out.alloc e)
     have X2:=λe i=>HX.out ((c.alloc e).alloc i) ((l.out.alloc e).alloc i)
     have Y1:=λe=>aF.out (c.alloc e) (l.out.alloc e)
     have Y2:=λe i=>aF.out ((c.alloc e).alloc i) ((l.out.alloc e).alloc i)
     have Z1:=λe=>aA.out (c.alloc e) (l.out.alloc e)
     have Z2:=λe i=>aA.out ((c.alloc e).alloc i) ((l.out.alloc e).alloc i)
     have bB:=λe=>ao.out (c.alloc e) (l.out.alloc e)
     have b2:=λe i=>ao.out ((c.alloc e).alloc i) ((l.out.alloc e).alloc i)
     have bC:=λe=>aj.out (c.alloc e) (l.out.alloc e)
     have b3:=λe i=>aj.out ((c.alloc e).alloc i) ((l.out.alloc e).alloc i)
     have bf:=λe=>(X1 e).1;have bg:=λe=>(X1 e).2;have bh:=λe i=>(X2 e i).1;have bi:=λe i=>(X2 e i).2
     have bj:=λe=>(Y1 e).1;have bk:=λe=>(Y1 e).2;have bl:=λe i=>(Y2 e i).1;have bm:=λe i=>(Y2 e i).2
     have bn:=λe=>(Z1 e).1;have bp:=λe=>(Z1 e).2;have br:=λe i=>(Z2 e i).1;have bs:=λe i=>(Z2 e i).2
     clear X1 X2 Y1 Y2 Z1 Z2;go_upto_region 10 with fail;go_cut [9,10]from 100 to 113 (λh d wx=>∃(aE Bk:Nat),h=.pointer (some ⟨aE,0,none⟩)/\d=.pointer (some ⟨Bk,0,none⟩)/\Fr NoM c wx/\wx.heap[aE]?=some (.cells #[.int .i64 M,.int .i64 (K:Int)] 29 (0,0))/\wx.heap[Bk]?=some (.cells #[.int .i64 N,.int .i64 (L:Int)] 29 (0,0)))
     case first =>
      go_region
      ·go_wp2_with fail
       go_meet
       case rel=>exact⟨c.heap.size,c.heap.size+1,rfl,rfl,(((nW c).alloc _).alloc _).drew,(((nW _).alloc _).drew).heap (xJ c _) id,((nW _).drew).heap (by have o:=xJ (c.alloc (.cells #[.int .i64 M,.int .i64 (K:Int)] 29)) (.cells #[.int .i64 N,.int .i64 (L:Int)] 29);rw[xZ]at o;exact o) id⟩
      ·go_wp2_with fail
       go_meet
       case rel=>exact⟨c.heap.size+1,c.heap.size,rfl,rfl,(((nW c).alloc _).alloc _).drew,((nW _).drew).heap (by have o:=xJ (c.alloc (.cells #[.int .i64 N,.int .i64 (L:Int)] 29)) (.cells #[.int .i64 M,.int .i64 (K:Int)] 29);rw[xZ]at o;exact o) id,(((nW _).alloc _).drew).heap (xJ c _) id⟩
     case rest =>
      obtain⟨aE,Bk,rfl,rfl,gd,D,e2⟩:=hcut;obtain⟨Wd,rfl⟩:=eX wc;have b7:=Hh (λa (p:Fr NoM Wd a)=>show a.cell? ⟨aE,0,none⟩=some (.int .i64 M)/\a.cell? ⟨aE,1,none⟩=some (.int .i64 (K:Int))/\a.cell? ⟨Bk,0,none⟩=some (.int .i64 N)/\a.cell? ⟨Bk,1,none⟩=some (.int .i64 (L:Int))from by
       have h0:=p.heap D id;have j:=p.heap e2 id;exact⟨by rw[xX a _ 0 _ _ _ h0];rfl,by rw[xX a _ 1 _ _ _ h0];rfl,by rw[xX a _ 0 _ _ _ j];rfl,by rw[xX a _ 1 _ _ _ j];rfl⟩)
      have KD:=Hh (l.out.trans gd kP);clear gd D e2;clear x0 x1 d0 d1 d2 d3 ca cb bf bg bh bi bj bk bl bm bn bp br bs bB b2 bC b3;obtain⟨k0,k1,k2,k3⟩:=b7.out Wd (Fr.refl _ _);have aB:=Hh (λ(a:World)=>ze1 M N K L a (by have:=(aY.out rfl).2.1;omega) (by have:=(aZ.out rfl).2.1;omega) (by have:=(aY.out rfl).1;omega) (by have:=(aZ.out rfl).1;omega) _ rfl);obtain⟨G,i,o3⟩:=aI.out rfl rfl;by_cases aa:M*2^(24-K)<N*2^(24-L)
      ·have aB:=Hh (λ(a:World)=>by have o:=aB.out a;rw[vX aa]at o;exact o)
       have a1:=G aa;obtain⟨ai,ac,ab,ho,hp,b8,W,hb⟩:=o3 a1;obtain⟨⟨z1,z2⟩,hz⟩:∃s,s=btwY ai ac:=⟨_,rfl⟩;obtain⟨i1,i2,i3⟩:=ygq a1 ab;rw[<-hz]at i1 i2;have bd:=Hh (λ(a:World)=>yiv ai M N ac K L a ho hp b8 W hb (aY.out rfl) (aZ.out rfl) z1 z2 hz.symm);have aG:=Hh (λ(a:World)=>zrr z1 z2 a g (by rw[m.out.2.2];exact i1) T P ⟨λf=>by
        have:=i2 (by rw[<-m.out.2.2];exact f);exact⟨m.out.1.trans this.1,m.out.2.1.trans this.2⟩,λf=>by
        have:=i3 (by rw[<-m.out.2.2];exact f);exact⟨m.out.1.trans this.1,m.out.2.1.trans this.2⟩⟩)
       clear G i o3 aa a1 ab ho hp b8 W hb hz i1 i2 i3;go_wp2_with fail;(with_reducible refine(aB.out _).mono ?_);rintro f w4 ⟨rfl,f4⟩;have F4:=Hh f4;clear f4 k0 k1 k2 k3;obtain⟨k0,k1,k2,k3⟩:=b7.out w4 F4.out;go_wp2_with fail;(with_reducible refine(bd.out _).mono ?_);rintro f w5 ⟨rfl,f5⟩;have F5:=Hh (F4.out.trans f5 kP);clear f5 k0 k1 k2 k3;go_wp2_with fail;(with_reducible refine(aG.out _).mono ?_);rintro f w6 ⟨rfl,f6⟩;have K6:=Hh (KD.out.trans (F5.out.trans f6 kP) kP);clear f6;obtain⟨u,y,z,A⟩:=a9.out w6 K6.out;have t:=Hh (HF.out w6 T P K6.out);go_wp2_with fail;refine yY (v:=.tuple #[.agg #[.int .i64 T,.int .i64 P],.bool g]) (by simp[results,Tryz.results168,go_sem,u,y,z,A]) rfl ?_
       exact⟨rfl,t.out⟩
      ·have aB:=Hh (λ(a:World)=>by have o:=aB.out a;rw[vY aa]at o;exact o)
       have hz:=i aa;have Z:T=0/\P=0/\g=false:=by
        obtain⟨h,d,a0⟩:=m.out;have j:valB k=false:=hz;rw[zek j]at h d;exact⟨h,d,a0.trans j⟩
       have b1:=Hh Z;clear Z hz;clear G i o3 aa;go_wp2_with fail;(with_reducible refine(aB.out _).mono ?_);rintro f w4 ⟨rfl,f4⟩;have K4:=Hh (KD.out.trans f4 kP);clear f4 k0 k1 k2 k3;obtain⟨u,y,z,A⟩:=a9.out w4 K4.out;have t:=Hh (HF.out w4 0 0 K4.out);go_wp2_with fail;refine yY (v:=.tuple #[.agg #[.int .i64 0,.int .i64 0],.bool false]) (by simp[results,Tryz.results168,go_sem,u,y,z,A]) rfl ?_
       exact⟨by rw[b1.out.1,b1.out.2.1,b1.out.2.2],t.out⟩
  | _::_::_,_,a7,_,_,_,_,_,_,_,_,_,_,_,_=>simp at a7
  | _,_::_::_,_,a8,_,_,_,_,_,_,_,_,_,_,_=>simp at a8
theorem zyq (C:List Nat)(k:Nat):zif C (k+1)=zif C k ++ [(.int .i64 (valD (C.getD k 0)).1,.int .i64 ((valD (C.getD k 0)).2:Int))]:=by unfold zif;rw[List.range_succ,vQ];rfl
theorem ydv (C:List Nat)(k:Nat):arsL C (k+1)=arsL C k ++ [valB (C.getD k 0)]:=by unfold arsL;rw[List.range_succ,vQ];rfl
structure R7 (B:Nat) (W:World) (dv bv:Value) (C:List Nat) (k:Nat):Prop where
 d:W.ownsRow B 29 2 dv k (zav (zif C k))
 b:W.ownsRow B 4 1 bv k ((arsL C k).map encB)
 sep:∀q,dv.ownBlock=some q->bv.ownBlock≠some q
theorem R7.fr0 {B k:Nat}{c e:World}{g f:Value}{C:List Nat}(a:R7 B c g f C k)(h:Fr NoM c e):R7 B e g f C k:=⟨za1 a.d h kP,za1 a.b h kP,a.sep⟩
theorem R7.pairs {B k:Nat}{a:World}{b c:Value}{C:List Nat}(e:R7 B a b c C k):Pairs a b (zif C k):=Pairs.of_owns e.d
theorem R7.bools {B k:Nat}{a:World}{d c:Value}{C:List Nat}(e:R7 B a d c C k):SliceOf encB a c (arsL C k):=SliceOf.of_owns e.b rfl
theorem R7.next {B k:Nat}{o i j m:World}{n g f h:Value}{C:List Nat}(q:R7 B o n g C k)(t:Fr NoM o i)(z:Fr (Own1 n) i j)(r:j.ownsRow B 29 2 f (k+1) (zav (zif C k) ++ [.int .i64 (valD (C.getD k 0)).1,.int .i64 ((valD (C.getD k 0)).2:Int)])) (x:f.ownBlock=n.ownBlock\/∃d,f.ownBlock=some d/\i.heap.size<=d) {l:World}(p:Fr NoM j l) (u:Fr (Own1 g) l m) (v:m.ownsRow B 4 1 h (k+1) ((arsL C k).map encB ++ [.bool (valB (C.getD k 0))])) (y:h.ownBlock=g.ownBlock\/∃d,h.ownBlock=some d/\l.heap.size<=d):R7 B m f h C (k+1):=by have s:∀a,f.ownBlock=some a->g.ownBlock≠some a:=λa e b=>by{rcases x with c|⟨d,c,w⟩;{exact q.sep a (by rw[<-c];exact e) b};{rw[e]at c;cases c;have:=(q.b.lt a b).2;have:=t.size;omega}};refine⟨?_,?_,λa e b=>?_⟩;{rw[zyq];(have b:zav (zif C k ++ [((.int .i64 (valD (C.getD k 0)).1:Value),(.int .i64 ((valD (C.getD k 0)).2:Int):Value))])=zav (zif C k) ++ [.int .i64 (valD (C.getD k 0)).1,.int .i64 ((valD (C.getD k 0)).2:Int)]:=by simp[zav]);rw[b];exact za1 (za1 r p kP) u (λa e b=>s a e b)};{rw[ydv,vQ];exact v};{rcases y with c|⟨d,c,w⟩;{exact s a e (by rw[<-c];exact b)};{rw[b]at c;cases c;have:=(r.lt a e).2;have:=p.size;omega}}
theorem R7.start (w:World)(C:List Nat):R7 w.heap.size ((w.alloc (.cells #[] 29)).alloc (.cells #[] 4)) (.slice (some ⟨w.heap.size,0,none⟩) 0 0) (.slice (some ⟨w.heap.size+1,0,none⟩) 0 0) C 0:=by refine⟨(y3 w #[] 0 (xW _) (by decide) (by simp)).alloc _,?_,λb d c=>?_⟩;{have a:=y3 (base:=w.heap.size) (e:=4) (size:=1) (w.alloc (.cells #[] 29)) #[] 0 (by simp) (by decide) (by simp);simp only[xZ]at a;exact a};{have f:w.heap.size=b:=yK d;have g:w.heap.size+1=b:=yK c;omega}
theorem yfr {R:Nat->Prop}{C:List Nat}{V:List PL}(B:BookC V C)(G:Value)(w:World)(l:NodeL R encN w G V)(hp:0<V.length)(r:V.length<=1000)(hc:∀ah,ah<V.length->CanC (C.getD ah 0)) (T P:Int) (g:Bool) (hT:T=(valD (C.getD (V.length-1) 0)).1) (hP:P=((valD (C.getD (V.length-1) 0)).2:Int)) (hg:g=valB (C.getD (V.length-1) 0)) : Calls Tryz.prog 143 #[.agg #[G]] w λe w'=>e=.returned (.tuple #[.agg #[.int .i64 T,.int .i64 P],.bool g])/\Fr NoM w w':=by(obtain⟨c,E⟩:=eX ((w.alloc (.cells #[G] 26)).alloc (.cells #[.int .i64 0,.int .i64 0] 29));have f1:Fr NoM w c:=by rw[E];exact((nW w).alloc _).alloc _);(have e0:c.heap[w.heap.size]?=some (.cells #[G] 26 (0,0)):=by rw[E];exact((nW _).alloc _).heap (xJ w _) id);have e1:c.heap[w.heap.size+1]?=some (.cells #[.int .i64 0,.int .i64 0] 29 (0,0)):=by{have l:=xJ (w.alloc (.cells #[G] 26)) (.cells #[.int .i64 0,.int .i64 0] 29);rw[xZ]at l;rw[E];exact l};(obtain⟨w2,a1⟩:=eX ((c.alloc (.cells #[] 29)).alloc (.cells #[] 4));have f2:Fr NoM c w2:=by rw[a1];exact((nW c).alloc _).alloc _);have HR:=Hh (show R7 c.heap.size w2 (.slice (some ⟨c.heap.size,0,none⟩) 0 0) (.slice (some ⟨c.heap.size+1,0,none⟩) 0 0) C 0 from by rw[a1];exact R7.start c C);have F2:=Hh f2;have HK:=Hh (λb (k:Fr NoM c b)=>show b.cell? ⟨w.heap.size,0,none⟩=some G from by{rw[xX b _ 0 _ _ _ (k.heap e0 id)];rfl});have am:=Hh (λb (k:Fr NoM c b)=>show b.cell? ⟨w.heap.size+1,0,none⟩=some (.int .i64 0)/\b.cell? ⟨w.heap.size+1,1,none⟩=some (.int .i64 0)/\b.frozen? ⟨w.heap.size+1,0,none⟩=false/\b.frozen? ⟨w.heap.size+1,1,none⟩=false from by{have i:=k.heap e1 id;exact⟨by rw[xX b _ 0 _ _ _ i];rfl,by rw[xX b _ 1 _ _ _ i];rfl,by simp[World.frozen?,i],by simp[World.frozen?,i]⟩});have HF:=Hh (λ(b:World) (y1 y2:Int) (k:Fr NoM c b)=>(((f1.trans k kP).setCell ⟨w.heap.size+1,0,none⟩ (.int .i64 y1) (λl=>by have l:w.heap.size+1<w.heap.size:=l;omega)).setCell ⟨w.heap.size+1,1,none⟩ (.int .i64 y2) (λl=>by have l:w.heap.size+1<w.heap.size:=l;omega):Fr NoM w ((b.setCell ⟨w.heap.size+1,0,none⟩ (.int .i64 y1)).setCell ⟨w.heap.size+1,1,none⟩ (.int .i64 y2))));obtain⟨na,nc,rfl,_,_,af⟩:=id l;have HN:=Hh (λ(a:Nat) (hk:a<V.length)=>show ∃K S F H,na=some ⟨K,S,none⟩/\∀b,Fr NoM c b->b.cell? ⟨K,S+a*2,none⟩=some F/\b.cell? ⟨K,S+a*2+1,none⟩=some H/\Nats b F (za4 V a).1/\Nats b H (za4 V a).2 from by{obtain⟨K,S,F,H,ha,_,c1,c2,s1,s2,_,_⟩:=af a _ (za6 hk);refine⟨K,S,F,H,ha,λb k=>?_⟩;have Y:=f1.trans k kP;exact⟨Y.cell c1 id,Y.cell c2 id,SliceOf.fr0 s1 Y,SliceOf.fr0 s2 Y⟩});have a8:=Hh (show w.heap.size+1<c.heap.size from(yJ.1 e1).1);have HB:=Hh B;have HC:=Hh hc;have HV:=Hh (And.intro hT (And.intro hP hg));have x:=Hh r;have Hp:=Hh hp;clear l af f1 e0 e1 f2 B hc hT hP hg;obtain⟨s,O⟩:=eX V.length;rw[<-O]at E HK HN HC HV x Hp ⊢;have Hn:=Hh O;clear O;go_enter Tryz.func143,Tryz.ntmps143;go_upto_region 1 with fail;rw[<-E];clear E;go_upto_region 2 with fail;rw[<-a1];clear a1;go_wp2_with fail;go_loopw [4,5,6] (λv4 v5 v6 wr=>∃(L z:Value) (a:Nat),L=v4/\z=v5/\v6=.int .i64 (a:Int)/\a<=s/\R7 c.heap.size wr L z C a/\Fr NoM c wr) (λ_ _ v6 _=>s-(intOf v6).toNat);(case atStart=>exact⟨_,_,0,rfl,rfl,rfl,yV _,HR.out,F2.out⟩);case round =>(obtain⟨L,z,a,rfl,rfl,rfl,hk,m,p⟩:=hrel;have k0:=HK.out wr p;by_cases q:a<s;{obtain⟨j,t,F,H,D,ae⟩:=HN.out a q;(obtain⟨c1,c2,n1,n2⟩:=ae wr p;have ix:=zbi na s nc a j t q D;obtain⟨J,a3⟩:=eX ((valD (C.getD a 0)).1);obtain⟨I,a2⟩:=eX (((valD (C.getD a 0)).2:Int));obtain⟨g1,a5⟩:=eX (valB (C.getD a 0));have al:=Hh (zzg HB.out a a (by have:=Hn.out;omega) (xW _) (by have:=x.out;omega) (HC.out a q) F H L z wr n1 n2 m.pairs m.bools J I g1 a3 a2 a5);have ao:=Hh (And.intro a3 (And.intro a2 a5));have aL:(a:Int)<(s:Int):=by omega);(have aC:s<=1000:=x.out;have ab:=Hh m;have a7:=Hh p;have W:=Hh q;clear m p q a3 a2 a5 ae n1 n2 hk D;go_wp2_with fail;(with_reducible refine al.out.mono ?_);rintro e u ⟨rfl,f5⟩;obtain⟨h,a0⟩:=eX (u.alloc (.cells #[.int .i64 J,.int .i64 I] 29));have f6:Fr NoM wr h:=f5.trans (show Fr NoM u h by rw[a0];exact(nW u).alloc _) kP;have e6:h.heap[u.heap.size]?=some (.cells #[.int .i64 J,.int .i64 I] 29 (0,0)):=by rw[a0];exact xJ u _);(have q0:h.cell? ⟨u.heap.size,0,none⟩=some (.int .i64 J):=by rw[xX h _ 0 _ _ _ e6];rfl);(have q1:h.cell? ⟨u.heap.size,1,none⟩=some (.int .i64 I):=by rw[xX h _ 1 _ _ _ e6];rfl);have U:=Hh f6;clear f5 f6 e6 k0 c1 c2;go_upto_region 6 with fail;rw[<-a0];clear a0;have X:=Hh (ab.out.fr0 U.out);have ac:=Hh (show c.heap.size<=h.heap.size from by have i:=U.out.size;have A:=a7.out.size;omega);have ak:=Hh (show(a+1)*16<=140737488355328 by have i:=W.out;have A:=x.out;omega);have aj:=Hh (show(a+1)*1<=140737488355328 by have i:=W.out;have A:=x.out;omega);go_wp2_with (at_builtin;refine zah rfl _ _ 123 rfl c.heap.size 29 _ 2 16 Tryz.underlying123 zph rfl (by decide) L a (zav (zif C a)) rfl (by exact za1 X.out.d ((nW h).alloc _) kP) h.heap.size rfl [.int .i64 J,.int .i64 I] 29 (xJ h _) rfl (by intro ay Q;simp at Q;rcases Q with rfl|rfl <;> rfl) ak.out (by decide) (by have:=ac.out;simp;omega) ?_);intro aq o N Z s7;have H7:=Hh N;have F7:=Hh Z;have S7:=Hh s7;have an:=Hh (show c.heap.size<=o.heap.size from by have i:=Z.size;have A:=ac.out;simp at i;omega);have a6:=Hh (show o.ownsRow c.heap.size 4 1 z a ((arsL C a).map encB)from za1 (za1 X.out.b ((nW h).alloc _) kP) Z (λf hq e=>X.out.sep f e hq));clear N Z s7 q0 q1;go_wp2_with (at_builtin;refine zah rfl _ _ 103 rfl c.heap.size 4 _ 1 1 Tryz.underlying103 zc3 rfl (by decide) z a ((arsL C a).map encB) rfl (by exact za1 a6.out ((nW o).alloc _) kP) o.heap.size rfl [.bool g1] 4 (xJ o _) rfl (by intro ay Q;simp at Q;subst Q;rfl) aj.out (by decide) (by have:=an.out;simp;omega) ?_);intro ap w9 r f9 s9;have ai:=Hh r;have F9:=Hh f9;have S9:=Hh s9;clear r f9 s9;go_wp2;go_roundw;(case rel =>(obtain⟨t1,t2,t3⟩:=ao.out;have q:=W.out;have N:=H7.out;have r:=ai.out;rw[t1,t2]at N;rw[t3]at r;have O:=ab.out.next (U.out.trans ((nW h).alloc _) kP) F7.out N (by rw[xZ];exact S7.out) ((nW o).alloc _) F9.out r (by rw[xZ];exact S9.out);have g7:Fr NoM c o:=Fr.own (e:=29) (size:=2) (n:=a) (xs:=zav (zif C a)) (a7.out.trans (U.out.trans ((nW h).alloc _) kP) kP) (za1 X.out.d ((nW h).alloc _) kP) F7.out;have g9:Fr NoM c w9:=Fr.own (e:=4) (size:=1) (n:=a) (xs:=(arsL C a).map encB) (g7.trans ((nW o).alloc _) kP) (za1 a6.out ((nW o).alloc _) kP) F9.out;exact⟨aq,ap,a+1,rfl,rfl,by go_num,by omega,O,g9⟩));case measure=>have q:=W.out;simp[intOf];omega};{(have av:a=s:=by omega);(subst av;have hd:=m.pairs;have hb:=m.bools;have hp:=Hp.out;obtain⟨da,dc,rfl,_,_,ag⟩:=hd;obtain⟨ba,bc,rfl,_,_,ad⟩:=hb;rw[zs6]at *;rw[zyk]at *;obtain⟨j,t,D,d1,d2⟩:=ag (a-1) _ (zs7 C (by omega));obtain⟨y,o2,a4,d3⟩:=ad (a-1) _ (zym C (by omega));have aw:=zv2 da a dc (a-1) j t (by omega) D;have ax:=ziq ba a bc (a-1) y o2 (by omega) a4;rw[show((a-1:Nat):Int)=(a:Int)-1 from by omega]at aw ax;obtain⟨t1,t2,t3⟩:=HV.out;unfold encB at d3;rw[<-t1]at d1;rw[<-t2]at d2;rw[<-t3]at d3;have aL:¬(a:Int)<(a:Int):=by omega);(obtain⟨r0,r1,r2,r3⟩:=am.out wr p;have a9:=Hh (HF.out wr T P p);have aa:=Hh (λ(f:Nat)=>HF.out (wr.drewN f) T P (p.trans (zdd wr f) kP));have aB:a<=1000:=x.out;have aD:IntKind.i64.wrap ((a:Int)-1)=(a:Int)-1:=(by rw[IntKind.wrap_i64];omega);have az:(0:Int)<=(a:Int)-1:=(by omega);have aA:(a:Int)-1<(a:Int):=(by omega);have ar:w.heap.size+1<j:=by have i:=(m.d.lt j (by rw[D];rfl)).1;have A:=a8.out;omega);(have au:w.heap.size+1<y:=by have i:=(m.b.lt y (by rw[a4];rfl)).1;have A:=a8.out;omega);have HS:=Hh (λb (k:Fr (λf=>f=w.heap.size+1) wr b)=>show b.cell? ⟨j,t+(a-1)*2,none⟩=some (.int .i64 T)/\b.cell? ⟨j,t+(a-1)*2+1,none⟩=some (.int .i64 P)/\b.cell? ⟨y,o2+(a-1),none⟩=some (.bool g)from ⟨k.cell d1 (λe=>by have e:j=w.heap.size+1:=e;omega),k.cell d2 (λe=>by have e:j=w.heap.size+1:=e;omega),k.cell d3 (λe=>by have e:y=w.heap.size+1:=e;omega)⟩);have h0:Fr (λf=>f=w.heap.size+1) wr wr.drew:=(Fr.refl _ wr).drew;have i:Fr (λf=>f=w.heap.size+1) wr ((wr.setCell ⟨w.heap.size+1,0,none⟩ (.int .i64 T)).setCell ⟨w.heap.size+1,1,none⟩ (.int .i64 P)):=Fr.setCell (M:=λf=>f=w.heap.size+1) (Fr.setCell (M:=λf=>f=w.heap.size+1) (Fr.refl _ wr) ⟨w.heap.size+1,0,none⟩ _ (λ_=>rfl)) ⟨w.heap.size+1,1,none⟩ _ (λ_=>rfl);have A:Fr (λf=>f=w.heap.size+1) wr ((wr.setCell ⟨w.heap.size+1,0,none⟩ (.int .i64 T)).setCell ⟨w.heap.size+1,1,none⟩ (.int .i64 P)).drew:=i.drew;have h3:Fr (λf=>f=w.heap.size+1) wr ((wr.drew.setCell ⟨w.heap.size+1,0,none⟩ (.int .i64 T)).setCell ⟨w.heap.size+1,1,none⟩ (.int .i64 P)):=Fr.setCell (M:=λf=>f=w.heap.size+1) (Fr.setCell (M:=λf=>f=w.heap.size+1) h0 ⟨w.heap.size+1,0,none⟩ _ (λ_=>rfl)) ⟨w.heap.size+1,1,none⟩ _ (λ_=>rfl);clear m p ag ad D a4 hk q t1 t2 t3 hp ar au;go_wp2_with fail;go_region_held3 (λ(b:World)=>b.cell? ⟨j,t+(a-1)*2,none⟩=some (.int .i64 T)/\b.cell? ⟨j,t+(a-1)*2+1,none⟩=some (.int .i64 P)/\b.cell? ⟨y,o2+(a-1),none⟩=some (.bool g)) (exact HS.out _ (by assumption)) (first|fail);all_goals(go_wp2_with fail;refine yY (v:=.tuple #[.agg #[.int .i64 T,.int .i64 P],.bool g]) (by simp[results,Tryz.results143,go_sem,r0,r1,r2,r3]) rfl ?_;exact⟨rfl,by first|exact a9.out|exact a9.out.drew|exact aa.out 1|exact aa.out _⟩)})
def zos (C:List Nat)(b:Nat)(T P:Int)(g:Bool)(w:World)(e:Ending)(c:World):Prop:=e=.returned (.tuple #[.agg #[.int .i64 T,.int .i64 P],.bool g])/\∃a,MapF encP encB c b a/\OrdF C a/\Fr (λd=>d=b) w c
theorem yae {M I:Nat->Prop}{C:List Nat}{V:List PL}{BV:List Nat}(B:BookC V C)(pb e:Nat)(mc ms mn:Value)(bx:¬M e)(af:¬I e):∀bb f,f<bb->f<V.length->CanC (C.getD f 0)->∀(d:Nat × Nat->Option Bool) (g:World),PoolS M I g pb V BV (.map (some e)) mc ms mn->MapF encP encB g e d->OrdF C d ->
  Calls Tryz.prog 141 #[.pointer (some ⟨pb,0,none⟩),.int .i64 (f:Int)] g λc Y=>zos C e (valD (C.getD f 0)).1 ((valD (C.getD f 0)).2:Int) (valB (C.getD f 0)) g c Y:=by
 intro bb;induction bb with
 | zero=>intro f s;omega
 | succ bb ih =>
  intro f hn u hc d g hP hF hO;obtain⟨b7,bG⟩:=eX (C.getD f 0);have b9:=zn4 B u hc;have bm:=ycp (BV:=BV) B pb e mc ms mn bx af _ f (vK _) u hc;obtain⟨D,E⟩:=zb2 B u;have L:∀(F:Nat),(F∈(za4 V f).1\/F∈(za4 V f).2)->F<f/\CanC (C.getD F 0):=λF hy=>by
   obtain⟨o1,o2⟩:=B.opts f _ (za6 u);rcases hy with s|s
   ·exact⟨o1 F s,hc.opt (.inl ((D _).2 ⟨F,s,rfl⟩))⟩
   ·exact⟨o2 F s,hc.opt (.inr ((E _).2 ⟨F,s,rfl⟩))⟩
  rw[<-bG]at b9 bm D E hc ⊢;obtain⟨w1,a6⟩:=eX (g.alloc (.cells #[.int .i64 0,.int .i64 0] 29));have f1:Fr NoM g w1:=by rw[a6];exact(nW g).alloc _
  have aw:w1.heap.size=g.heap.size+1:=by rw[a6];simp
  have e1:w1.heap[g.heap.size]?=some (.cells #[.int .i64 0,.int .i64 0] 29 (0,0)):=by rw[a6];exact xJ g _
  have bo:=hF.lt;have HR:=Hh (λa (d:Fr (λb=>b=e) w1 a)=>show a.cell? ⟨g.heap.size,0,none⟩=some (.int .i64 0)/\a.cell? ⟨g.heap.size,1,none⟩=some (.int .i64 0)/\a.frozen? ⟨g.heap.size,0,none⟩=false/\a.frozen? ⟨g.heap.size,1,none⟩=false from by
   have K:=d.heap e1 (λb=>by omega);exact⟨by rw[xX a _ 0 _ _ _ K];rfl,by rw[xX a _ 1 _ _ _ K];rfl,by simp[World.frozen?,K],by simp[World.frozen?,K]⟩)
  have aS:=Hh (λa (d:Fr (λb=>b=e) w1 a)=>show PoolS M I a pb V BV (.map (some e)) mc ms mn from(hP.fr0 f1).fr d (λb z c=>bx (by rw[<-c];exact z)) (λb z c=>af (by rw[<-c];exact z)));have bw:=bm d w1 (hP.fr0 f1) (hF.fr f1 id) hO;have ao:=Hh (λ(a:World) (a5:Nat × Nat->Option Bool) (x w:Int) (hm:MapF encP encB a e a5) (ho:OrdF C a5) (hf:Fr (λb=>b=e) w1 a)=>(by
   have h1:=(f1.any.trans hf kP).setCell ⟨g.heap.size,0,none⟩ (.int .i64 x) (λs=>by have s:g.heap.size<g.heap.size:=s;omega);have h2:=h1.setCell ⟨g.heap.size,1,none⟩ (.int .i64 w) (λs=>by have s:g.heap.size<g.heap.size:=s;omega);refine⟨a5,(hm.fr (Fr.set a ⟨g.heap.size,0,none⟩ (.int .i64 x)) (λs=>by have s:e=g.heap.size:=s;omega)).fr (Fr.set _ ⟨g.heap.size,1,none⟩ (.int .i64 w)) (λs=>by have s:e=g.heap.size:=s;omega),ho,h2⟩:∃f',MapF encP encB ((a.setCell ⟨g.heap.size,0,none⟩ (.int .i64 x)).setCell ⟨g.heap.size,1,none⟩ (.int .i64 w)) e f'/\OrdF C f'/\Fr (λb=>b=e) g ((a.setCell ⟨g.heap.size,0,none⟩ (.int .i64 x)).setCell ⟨g.heap.size,1,none⟩ (.int .i64 w))))
  have ay:=Hh bw;have bK:=Hh aw;have bJ:=Hh bo;obtain⟨x,hT⟩:=eX ((valD b7).1);obtain⟨w,bk⟩:=eX (((valD b7).2:Int));obtain⟨a5,hg⟩:=eX (valB b7);rw[<-hT,<-bk,<-hg];have q:=Hh (And.intro hT (And.intro bk hg));clear hT bk hg bm bw;cases a7:isNB b7 with
  | false =>
   have t:x=0/\w=0/\a5=false:=by
    obtain⟨j,k,ah⟩:=q.out;have h1:=zky a7;have h2:=zek h1;rw[h2]at j k;exact⟨j,k,ah.trans h1⟩
   obtain⟨rfl,rfl,rfl⟩:=t;rw[a7]at ay;clear hP hF hO b9 D E L ih hc a7 q f1 aw e1 bo;go_enter Tryz.func141,Tryz.ntmps141;go_wp2_with fail;rw[<-a6];clear a6;(with_reducible refine ay.out.mono ?_);rintro c h ⟨rfl,f2,a3,a4,y⟩;have G:=Hh (ao.out h f2 0 0 a3 a4 y);obtain⟨O,n,o,P⟩:=HR.out h y;clear a3 a4 y;go_wp2_with fail;refine yY (v:=.tuple #[.agg #[.int .i64 0,.int .i64 0],.bool false]) (by simp[results,Tryz.results141,go_sem,O,n,o,P]) rfl ?_
   exact⟨rfl,G.out⟩
  | true =>
   rw[a7]at ay;obtain⟨a8,aa,_,_,_⟩:=b9.1 a7;obtain⟨bE,a0⟩:=eX ((za4 V f).1);obtain⟨bF,a1⟩:=eX ((za4 V f).2);rw[<-a0]at a8 D L;rw[<-a1]at aa E L;have b6:=Hh (λ(F:Nat) (hy:F<f) (bH:CanC (C.getD F 0)) (d:Nat × Nat->Option Bool) (a:World) (hf:Fr (λb=>b=e) w1 a) (hm:MapF encP encB a e d) (ho:OrdF C d)=>ih F (by omega) (by omega) bH d a (aS.out a hf) hm ho);clear hP hF hO b9 ih hc f1 aw e1 bo;match bE,bF,a8,aa,a0,a1,D,E,L with
   | [],[],a8,aa,a0,a1,D,E,L =>
    have t:x=0/\w=0/\a5=true:=by
     obtain⟨j,k,ah⟩:=q.out;obtain⟨h1,h2⟩:=zvr a7 (λbr hl=>by obtain⟨F,hy,_⟩:=(D br).1 hl;simp at hy) (λbr hl=>by obtain⟨F,hy,_⟩:=(E br).1 hl;simp at hy);rw[h2]at j k;exact⟨j,k,ah.trans h1⟩
    obtain⟨rfl,rfl,rfl⟩:=t;have az:=Hh a0;have aG:=Hh a1;clear a0 a1 D E L a8 aa;go_enter Tryz.func141,Tryz.ntmps141;go_wp2_with fail;rw[<-a6];clear a6;(with_reducible refine ay.out.mono ?_);rintro c h ⟨rfl,f2,a3,a4,y⟩;have aA:=Hh a3;have aD:=Hh a4;have F2:=Hh y;obtain⟨la,lc,ra,rc,p0,p1,_,_,_,_,hL,hR⟩:=(aS.out h y).rd;obtain⟨lb,lo,lv,rfl,n,l,N⟩:=hL f u;obtain⟨rb,ro,rv,rfl,o,m,i2⟩:=hR f u;have aK:=zbf (some ⟨lb,lo,none⟩) V.length lc f lb lo u rfl;have aL:=zbf (some ⟨rb,ro,none⟩) V.length rc f rb ro u rfl;rw[<-az.out]at l N;rw[<-aG.out]at m i2;have aT:=Hh (λa (d:Fr (λb=>b=e) h a)=>l.fr d (λU b z c=>af (by rw[<-c];exact N U b z)));have aU:=Hh (λa (d:Fr (λb=>b=e) h a)=>m.fr d (λU b z c=>af (by rw[<-c];exact i2 U b z)));obtain⟨ua,uc,T,Z⟩:=id l;have T:lv=.slice ua 0 uc:=T;subst T;clear Z;obtain⟨va,vc,W,Z⟩:=id m;have W:rv=.slice va 0 vc:=W;subst W;clear Z hL hR l m N i2 a3 a4 y;go_wp2_with fail;go_quiet (fail);obtain⟨A,X⟩:=eX (h.drewN nq);have S:Fr NoM h A:=by rw[X];exact zdd h nq
    rw[<-X];have ab:=Hh (S.any (M:=λb=>b=e));have F3:=Hh (F2.out.trans ab.out kP);have aB:=Hh (aA.out.fr S id);have aE:=aD;clear S X p0 p1 n o aK aL;have G:=Hh (ao.out A f2 0 0 aB.out aE.out F3.out);obtain⟨O,n,o,P⟩:=HR.out A F3.out;go_wp2_with fail;refine yY (v:=.tuple #[.agg #[.int .i64 0,.int .i64 0],.bool true]) (by simp[results,Tryz.results141,go_sem,O,n,o,P]) rfl ?_
    exact⟨rfl,G.out⟩
   | [j],[],a8,aa,a0,a1,D,E,L =>
    have t:=zvt a7 ((D _).2 ⟨j,by simp,rfl⟩) (λbs hr=>by obtain⟨F,hy,_⟩:=(E bs).1 hr;simp at hy);obtain⟨Q,ak⟩:=eX ((valD (C.getD j 0)).1);obtain⟨H,ai⟩:=eX ((valD (C.getD j 0)).2);obtain⟨ga,am⟩:=eX (valB (C.getD j 0));have aZ:ga=true->GoodD Q H:=λc=>by rw[ak,ai];exact(zcy (by rw[<-am];exact c)).2
    obtain⟨b3,aX⟩:=L j (by simp);have bd:=Hh (λ(d:Nat × Nat->Option Bool) (a:World) (hf:Fr (λb=>b=e) w1 a) (hm:MapF encP encB a e d) (ho:OrdF C d)=>show Calls Tryz.prog 141 #[.pointer (some ⟨pb,0,none⟩),.int .i64 (j:Int)] a λc Y=>zos C e Q (H:Int) ga a c Y from by rw[ak,ai,am];exact b6.out j b3 aX d a hf hm ho);rw[<-ak,<-ai,<-am,<-q.out.2.2]at t;have ap:=Hh t;have bf:=Hh aZ;clear ak ai am aZ b3 aX t;have az:=Hh a0;have aG:=Hh a1;clear a0 a1 D E L a8 aa;go_enter Tryz.func141,Tryz.ntmps141;go_wp2_with fail;rw[<-a6];clear a6;(with_reducible refine ay.out.mono ?_);rintro c h ⟨rfl,f2,a3,a4,y⟩;have aA:=Hh a3;have aD:=Hh a4;have F2:=Hh y;obtain⟨la,lc,ra,rc,p0,p1,_,_,_,_,hL,hR⟩:=(aS.out h y).rd;obtain⟨lb,lo,lv,rfl,n,l,N⟩:=hL f u;obtain⟨rb,ro,rv,rfl,o,m,i2⟩:=hR f u;have aK:=zbf (some ⟨lb,lo,none⟩) V.length lc f lb lo u rfl;have aL:=zbf (some ⟨rb,ro,none⟩) V.length rc f rb ro u rfl;rw[<-az.out]at l N;rw[<-aG.out]at m i2;have aT:=Hh (λa (d:Fr (λb=>b=e) h a)=>l.fr d (λU b z c=>af (by rw[<-c];exact N U b z)));have aU:=Hh (λa (d:Fr (λb=>b=e) h a)=>m.fr d (λU b z c=>af (by rw[<-c];exact i2 U b z)));obtain⟨ua,uc,T,Z⟩:=id l;have T:lv=.slice ua 1 uc:=T;subst T;clear Z;obtain⟨va,vc,W,Z⟩:=id m;have W:rv=.slice va 0 vc:=W;subst W;clear Z hL hR l m N i2 a3 a4 y;go_wp2_with fail;go_quiet (fail);obtain⟨A,X⟩:=eX (h.drewN nq);have S:Fr NoM h A:=by rw[X];exact zdd h nq
    rw[<-X];have ab:=Hh (S.any (M:=λb=>b=e));have F3:=Hh (F2.out.trans ab.out kP);have aB:=Hh (aA.out.fr S id);have aE:=aD;clear S X p0 p1 n o aK aL;obtain⟨_,_,ee,_,_,ad⟩:=aT.out A ab.out;cases ee
    obtain⟨aH,aM,aV,ca⟩:=ad 0 j rfl;have bh:A.cell? ⟨aH,aM,none⟩=some (.int .i64 (j:Int)):=ca;have bp:∀a,(Instr.indexAt 100 (.slice ua 1 uc) (.int .i64 0)).run Tryz.prog a=.ok (.pointer (some ⟨aH,aM,none⟩)) a:=za8 ua 1 uc 0 aH aM (by omega) aV;have aQ:=Hh (bd.out _ A F3.out aB.out aE.out);clear ad ca aV;go_wp2_with fail;(with_reducible refine aQ.out.mono ?_);rintro c i ⟨rfl,f4,ae,av,ar⟩;obtain⟨r,a2⟩:=eX (i.alloc (.cells #[.int .i64 Q,.int .i64 (H:Int)] 29));have ac:Fr NoM i r:=by rw[a2];exact(nW i).alloc _
    have aq:r.heap[i.heap.size]?=some (.cells #[.int .i64 Q,.int .i64 (H:Int)] 29 (0,0)):=by rw[a2];exact xJ i _
    have b5:e<i.heap.size:=ae.lt;have ag:=Hh (λa (d:Fr (λb=>b=e) r a)=>show a.cell? ⟨i.heap.size,0,none⟩=some (.int .i64 Q)/\a.cell? ⟨i.heap.size,1,none⟩=some (.int .i64 (H:Int))from by
     have K:=d.heap aq (λb=>by omega);exact⟨by rw[xX a _ 0 _ _ _ K];rfl,by rw[xX a _ 1 _ _ _ K];rfl⟩)
    have aO:=Hh (ar.trans ac (λ_ _ b=>b.elim));have F4:=Hh (F3.out.trans aO.out kP);have aC:=Hh (ae.fr ac id);have aF:=Hh av;clear ae av ar ac aq b5 bh bp aQ;go_upto_region 8 with fail;rw[<-a2];clear a2;cases ga with
    | false =>
     have au:=ap.out.1 rfl;have t:x=0/\w=0:=by
      obtain⟨ax,v,ah⟩:=q.out;rw[zek (ah.symm.trans au)]at ax v;exact⟨ax,v⟩
     subst au;obtain⟨rfl,rfl⟩:=t;have G:=Hh (ao.out r f4 0 0 aC.out aF.out F4.out);obtain⟨O,n,o,P⟩:=HR.out r F4.out;go_wp2_with fail;refine yY (v:=.tuple #[.agg #[.int .i64 0,.int .i64 0],.bool false]) (by simp[results,Tryz.results141,go_sem,O,n,o,P]) rfl ?_
     exact⟨rfl,G.out⟩
    | true =>
     have a9:=zuv a7 (ap.out.2 rfl);have aJ:=zgv Q 1 H 0 r (bf.out rfl) ⟨by decide,by decide,.inl rfl⟩ a5 x w (by rw[q.out.2.2];exact a9.1) (by rw[q.out.2.2,a9.2,q.out.1,q.out.2.1];rfl);rw[show((0:Nat):Int)=0 from rfl]at aJ;have bc:=Hh aJ;clear a9 aJ;obtain⟨k0,k1⟩:=ag.out r (Fr.refl _ _);go_wp2_with fail;(with_reducible refine bc.out.mono ?_);rintro c w5 ⟨rfl,f5⟩;have F5:=Hh (F4.out.trans f5 (λ_ _ b=>b.elim));have aP:=Hh (aC.out.fr f5 id);clear f5 k0 k1;have G:=Hh (ao.out w5 f4 x w aP.out aF.out F5.out);obtain⟨O,n,o,P⟩:=HR.out w5 F5.out;go_wp2_with fail;refine yY (v:=.tuple #[.agg #[.int .i64 x,.int .i64 w],.bool a5]) (by simp[results,Tryz.results141,go_sem,O,n,o,P]) rfl ?_
     exact⟨rfl,G.out⟩
   | [],[k],a8,aa,a0,a1,D,E,L =>
    have t:=zvs a7 ((E _).2 ⟨k,by simp,rfl⟩) (λbs hr=>by obtain⟨F,hy,_⟩:=(D bs).1 hr;simp at hy);obtain⟨R,al⟩:=eX ((valD (C.getD k 0)).1);obtain⟨J,aj⟩:=eX ((valD (C.getD k 0)).2);obtain⟨gb,an⟩:=eX (valB (C.getD k 0));have b0:gb=true->GoodD R J:=λc=>by rw[al,aj];exact(zcy (by rw[<-an];exact c)).2
    obtain⟨b4,aY⟩:=L k (by simp);have be:=Hh (λ(d:Nat × Nat->Option Bool) (a:World) (hf:Fr (λb=>b=e) w1 a) (hm:MapF encP encB a e d) (ho:OrdF C d)=>show Calls Tryz.prog 141 #[.pointer (some ⟨pb,0,none⟩),.int .i64 (k:Int)] a λc Y=>zos C e R (J:Int) gb a c Y from by rw[al,aj,an];exact b6.out k b4 aY d a hf hm ho);rw[<-al,<-aj,<-an,<-q.out.2.2]at t;have ap:=Hh t;have bf:=Hh b0;clear al aj an b0 b4 aY t;have az:=Hh a0;have aG:=Hh a1;clear a0 a1 D E L a8 aa;go_enter Tryz.func141,Tryz.ntmps141;go_wp2_with fail;rw[<-a6];clear a6;(with_reducible refine ay.out.mono ?_);rintro c h ⟨rfl,f2,a3,a4,y⟩;have aA:=Hh a3;have aD:=Hh a4;have F2:=Hh y;obtain⟨la,lc,ra,rc,p0,p1,_,_,_,_,hL,hR⟩:=(aS.out h y).rd;obtain⟨lb,lo,lv,rfl,n,l,N⟩:=hL f u;obtain⟨rb,ro,rv,rfl,o,m,i2⟩:=hR f u;have aK:=zbf (some ⟨lb,lo,none⟩) V.length lc f lb lo u rfl;have aL:=zbf (some ⟨rb,ro,none⟩) V.length rc f rb ro u rfl;rw[<-az.out]at l N;rw[<-aG.out]at m i2;have aT:=Hh (λa (d:Fr (λb=>b=e) h a)=>l.fr d (λU b z c=>af (by rw[<-c];exact N U b z)));have aU:=Hh (λa (d:Fr (λb=>b=e) h a)=>m.fr d (λU b z c=>af (by rw[<-c];exact i2 U b z)));obtain⟨ua,uc,T,Z⟩:=id l;have T:lv=.slice ua 0 uc:=T;subst T;clear Z;obtain⟨va,vc,W,Z⟩:=id m;have W:rv=.slice va 1 vc:=W;subst W;clear Z hL hR l m N i2 a3 a4 y;go_wp2_with fail;go_quiet (fail);obtain⟨A,X⟩:=eX (h.drewN nq);have S:Fr NoM h A:=by rw[X];exact zdd h nq
    rw[<-X];have ab:=Hh (S.any (M:=λb=>b=e));have F3:=Hh (F2.out.trans ab.out kP);have aB:=Hh (aA.out.fr S id);have aE:=aD;clear S X p0 p1 n o aK aL;obtain⟨_,_,ee,_,_,ad⟩:=aU.out A ab.out;cases ee
    obtain⟨aI,aN,aW,cb⟩:=ad 0 k rfl;have bi:A.cell? ⟨aI,aN,none⟩=some (.int .i64 (k:Int)):=cb;have bq:∀a,(Instr.indexAt 100 (.slice va 1 vc) (.int .i64 0)).run Tryz.prog a=.ok (.pointer (some ⟨aI,aN,none⟩)) a:=za8 va 1 vc 0 aI aN (by omega) aW;have aR:=Hh (be.out _ A F3.out aB.out aE.out);clear ad cb aW;go_wp2_with fail;(with_reducible refine aR.out.mono ?_);rintro c i ⟨rfl,f4,ae,av,ar⟩;obtain⟨r,a2⟩:=eX (i.alloc (.cells #[.int .i64 R,.int .i64 (J:Int)] 29));have ac:Fr NoM i r:=by rw[a2];exact(nW i).alloc _
    have aq:r.heap[i.heap.size]?=some (.cells #[.int .i64 R,.int .i64 (J:Int)] 29 (0,0)):=by rw[a2];exact xJ i _
    have b5:e<i.heap.size:=ae.lt;have ag:=Hh (λa (d:Fr (λb=>b=e) r a)=>show a.cell? ⟨i.heap.size,0,none⟩=some (.int .i64 R)/\a.cell? ⟨i.heap.size,1,none⟩=some (.int .i64 (J:Int))from by
     have K:=d.heap aq (λb=>by omega);exact⟨by rw[xX a _ 0 _ _ _ K];rfl,by rw[xX a _ 1 _ _ _ K];rfl⟩)
    have aO:=Hh (ar.trans ac (λ_ _ b=>b.elim));have F4:=Hh (F3.out.trans aO.out kP);have aC:=Hh (ae.fr ac id);have aF:=Hh av;clear ae av ar ac aq b5 bi bq aR;go_upto_region 13 with fail;rw[<-a2];clear a2;cases gb with
    | false =>
     have au:=ap.out.1 rfl;have t:x=0/\w=0:=by
      obtain⟨ax,v,ah⟩:=q.out;rw[zek (ah.symm.trans au)]at ax v;exact⟨ax,v⟩
     subst au;obtain⟨rfl,rfl⟩:=t;have G:=Hh (ao.out r f4 0 0 aC.out aF.out F4.out);obtain⟨O,n,o,P⟩:=HR.out r F4.out;go_wp2_with fail;refine yY (v:=.tuple #[.agg #[.int .i64 0,.int .i64 0],.bool false]) (by simp[results,Tryz.results141,go_sem,O,n,o,P]) rfl ?_
     exact⟨rfl,G.out⟩
    | true =>
     have a9:=zuv a7 (ap.out.2 rfl);have aJ:=zgv R (-1) J 0 r (bf.out rfl) ⟨by decide,by decide,.inl rfl⟩ a5 x w (by rw[q.out.2.2];exact a9.1) (by rw[q.out.2.2,a9.2,q.out.1,q.out.2.1];rfl);rw[show((0:Nat):Int)=0 from rfl]at aJ;have bc:=Hh aJ;clear a9 aJ;obtain⟨k0,k1⟩:=ag.out r (Fr.refl _ _);go_wp2_with fail;(with_reducible refine bc.out.mono ?_);rintro c w5 ⟨rfl,f5⟩;have F5:=Hh (F4.out.trans f5 (λ_ _ b=>b.elim));have aP:=Hh (aC.out.fr f5 id);clear f5 k0 k1;have G:=Hh (ao.out w5 f4 x w aP.out aF.out F5.out);obtain⟨O,n,o,P⟩:=HR.out w5 F5.out;go_wp2_with fail;refine yY (v:=.tuple #[.agg #[.int .i64 x,.int .i64 w],.bool a5]) (by simp[results,Tryz.results141,go_sem,O,n,o,P]) rfl ?_
     exact⟨rfl,G.out⟩
   | [j],[k],a8,aa,a0,a1,D,E,L =>
    have t:=zng a7 ((D _).2 ⟨j,by simp,rfl⟩) ((E _).2 ⟨k,by simp,rfl⟩);obtain⟨Q,ak⟩:=eX ((valD (C.getD j 0)).1);obtain⟨H,ai⟩:=eX ((valD (C.getD j 0)).2);obtain⟨ga,am⟩:=eX (valB (C.getD j 0));have aZ:ga=true->GoodD Q H:=λc=>by rw[ak,ai];exact(zcy (by rw[<-am];exact c)).2
    obtain⟨b3,aX⟩:=L j (by simp);have bd:=Hh (λ(d:Nat × Nat->Option Bool) (a:World) (hf:Fr (λb=>b=e) w1 a) (hm:MapF encP encB a e d) (ho:OrdF C d)=>show Calls Tryz.prog 141 #[.pointer (some ⟨pb,0,none⟩),.int .i64 (j:Int)] a λc Y=>zos C e Q (H:Int) ga a c Y from by rw[ak,ai,am];exact b6.out j b3 aX d a hf hm ho);obtain⟨R,al⟩:=eX ((valD (C.getD k 0)).1);obtain⟨J,aj⟩:=eX ((valD (C.getD k 0)).2);obtain⟨gb,an⟩:=eX (valB (C.getD k 0));have b0:gb=true->GoodD R J:=λc=>by rw[al,aj];exact(zcy (by rw[<-an];exact c)).2
    obtain⟨b4,aY⟩:=L k (by simp);have be:=Hh (λ(d:Nat × Nat->Option Bool) (a:World) (hf:Fr (λb=>b=e) w1 a) (hm:MapF encP encB a e d) (ho:OrdF C d)=>show Calls Tryz.prog 141 #[.pointer (some ⟨pb,0,none⟩),.int .i64 (k:Int)] a λc Y=>zos C e R (J:Int) gb a c Y from by rw[al,aj,an];exact b6.out k b4 aY d a hf hm ho);rw[<-ak,<-ai,<-am,<-al,<-aj,<-an,<-q.out.2.2]at t;have ap:=Hh t;have bC:=Hh aZ;have bD:=Hh b0;clear ak ai am aZ b3 aX al aj an b0 b4 aY t;have az:=Hh a0;have aG:=Hh a1;clear a0 a1 D E L a8 aa;go_enter Tryz.func141,Tryz.ntmps141;go_wp2_with fail;rw[<-a6];clear a6;(with_reducible refine ay.out.mono ?_);rintro c h ⟨rfl,f2,a3,a4,y⟩;have aA:=Hh a3;have aD:=Hh a4;have F2:=Hh y;obtain⟨la,lc,ra,rc,p0,p1,_,_,_,_,hL,hR⟩:=(aS.out h y).rd;obtain⟨lb,lo,lv,rfl,n,l,N⟩:=hL f u;obtain⟨rb,ro,rv,rfl,o,m,i2⟩:=hR f u;have aK:=zbf (some ⟨lb,lo,none⟩) V.length lc f lb lo u rfl;have aL:=zbf (some ⟨rb,ro,none⟩) V.length rc f rb ro u rfl;rw[<-az.out]at l N;rw[<-aG.out]at m i2;have aT:=Hh (λa (d:Fr (λb=>b=e) h a)=>l.fr d (λU b z c=>af (by rw[<-c];exact N U b z)));have aU:=Hh (λa (d:Fr (λb=>b=e) h a)=>m.fr d (λU b z c=>af (by rw[<-c];exact i2 U b z)));obtain⟨ua,uc,T,Z⟩:=id l;have T:lv=.slice ua 1 uc:=T;subst T;clear Z;obtain⟨va,vc,W,Z⟩:=id m;have W:rv=.slice va 1 vc:=W;subst W;clear Z hL hR l m N i2 a3 a4 y;go_wp2_with fail;go_quiet (fail);obtain⟨A,X⟩:=eX (h.drewN nq);have S:Fr NoM h A:=by rw[X];exact zdd h nq
    rw[<-X];have ab:=Hh (S.any (M:=λb=>b=e));have F3:=Hh (F2.out.trans ab.out kP);have aB:=Hh (aA.out.fr S id);have aE:=aD;clear S X p0 p1 n o aK aL;obtain⟨_,_,ee,_,_,ad⟩:=aT.out A ab.out;cases ee
    obtain⟨aH,aM,aV,ca⟩:=ad 0 j rfl;have bh:A.cell? ⟨aH,aM,none⟩=some (.int .i64 (j:Int)):=ca;have bp:∀a,(Instr.indexAt 100 (.slice ua 1 uc) (.int .i64 0)).run Tryz.prog a=.ok (.pointer (some ⟨aH,aM,none⟩)) a:=za8 ua 1 uc 0 aH aM (by omega) aV;have aQ:=Hh (bd.out _ A F3.out aB.out aE.out);clear ad ca aV;go_wp2_with fail;(with_reducible refine aQ.out.mono ?_);rintro c i ⟨rfl,f4,ae,av,ar⟩;obtain⟨r,a2⟩:=eX (i.alloc (.cells #[.int .i64 Q,.int .i64 (H:Int)] 29));have ac:Fr NoM i r:=by rw[a2];exact(nW i).alloc _
    have aq:r.heap[i.heap.size]?=some (.cells #[.int .i64 Q,.int .i64 (H:Int)] 29 (0,0)):=by rw[a2];exact xJ i _
    have b5:e<i.heap.size:=ae.lt;have ag:=Hh (λa (d:Fr (λb=>b=e) r a)=>show a.cell? ⟨i.heap.size,0,none⟩=some (.int .i64 Q)/\a.cell? ⟨i.heap.size,1,none⟩=some (.int .i64 (H:Int))from by
     have K:=d.heap aq (λb=>by omega);exact⟨by rw[xX a _ 0 _ _ _ K];rfl,by rw[xX a _ 1 _ _ _ K];rfl⟩)
    have aO:=Hh (ar.trans ac (λ_ _ b=>b.elim));have F4:=Hh (F3.out.trans aO.out kP);have aC:=Hh (ae.fr ac id);have aF:=Hh av;clear ae av ar ac aq b5 bh bp aQ;go_upto_region 17 with fail;rw[<-a2];clear a2;have bB:=Hh (ab.out.trans aO.out kP);obtain⟨_,_,ee,_,_,ad⟩:=aU.out r bB.out;cases ee
    obtain⟨aI,aN,aW,cb⟩:=ad 0 k rfl;have bi:r.cell? ⟨aI,aN,none⟩=some (.int .i64 (k:Int)):=cb;have bq:∀a,(Instr.indexAt 100 (.slice va 1 vc) (.int .i64 0)).run Tryz.prog a=.ok (.pointer (some ⟨aI,aN,none⟩)) a:=za8 va 1 vc 0 aI aN (by omega) aW;have aR:=Hh (be.out _ r F4.out aC.out aF.out);clear ad cb aW;go_wp2_with fail;(with_reducible refine aR.out.mono ?_);rintro c w5 ⟨rfl,f5,bn,bA,bz⟩;obtain⟨W5,b8⟩:=eX (w5.alloc (.cells #[.int .i64 R,.int .i64 (J:Int)] 29));have bj:Fr NoM w5 W5:=by rw[b8];exact(nW w5).alloc _
    have bv:W5.heap[w5.heap.size]?=some (.cells #[.int .i64 R,.int .i64 (J:Int)] 29 (0,0)):=by rw[b8];exact xJ w5 _
    have bI:e<w5.heap.size:=bn.lt;have bg:=Hh (λa (d:Fr (λb=>b=e) W5 a)=>show a.cell? ⟨w5.heap.size,0,none⟩=some (.int .i64 R)/\a.cell? ⟨w5.heap.size,1,none⟩=some (.int .i64 (J:Int))from by
     have K:=d.heap bv (λb=>by omega);exact⟨by rw[xX a _ 0 _ _ _ K];rfl,by rw[xX a _ 1 _ _ _ K];rfl⟩)
    have bt:=Hh (bz.trans bj (λ_ _ b=>b.elim));have F5:=Hh (F4.out.trans bt.out kP);have aP:=Hh (bn.fr bj id);have bu:=Hh bA;clear bn bA bz bj bv bI bi bq aR;go_upto_region 18 with fail;rw[<-b8];clear b8;have ag:=Hh (λa (d:Fr (λb=>b=e) W5 a)=>ag.out a (bt.out.trans d kP));by_cases bl:ga=true/\gb=true
    ·obtain⟨rfl,rfl⟩:=bl
     have a9:=zuv a7 (ap.out.2 rfl rfl);have ga:=bC.out rfl;have gb:=bD.out rfl;have b1:=zg5 (p:=H) ga.1;have b2:=zg5 (p:=J) gb.1;obtain⟨l,aw⟩:=eX (Q*2^(16-H));obtain⟨m,ba⟩:=eX (R*2^(16-J));rw[<-aw,<-ba]at a9;rw[<-aw]at b1;rw[<-ba]at b2;have H1:=Hh (λ(a:World)=>show Calls Tryz.prog 54 #[.agg #[.int .i64 Q,.int .i64 (H:Int)]] a λc Y=>c=.returned (.int .i64 l)/\Fr NoM a Y from by rw[aw];exact zcv Q H a (by have:=ga.2.1;omega) ga.1);have H2:=Hh (λ(a:World)=>show Calls Tryz.prog 54 #[.agg #[.int .i64 R,.int .i64 (J:Int)]] a λc Y=>c=.returned (.int .i64 m)/\Fr NoM a Y from by rw[ba];exact zcv R J a (by have:=gb.2.1;omega) gb.1);have H3:=Hh (λ(a:World)=>show Calls Tryz.prog 70 #[.int .i64 (l+m),.int .i64 17] a λc Y=>c=.returned (.tuple #[.agg #[.int .i64 x,.int .i64 w],.bool a5])/\Fr NoM a Y from by
      have s:=zhz (l+m) 17 a (by omega) (by decide) a5 (by rw[q.out.2.2];exact a9.1);rw[q.out.2.2,a9.2,<-q.out.2.2]at s;rw[q.out.1,q.out.2.1];exact s)
     have HW:=Hh (show IntKind.i64.wrap (l+m)=l+m from by rw[IntKind.wrap_i64];omega);clear a9 ga gb b1 b2 aw ba;go_upto_region 20 with fail;obtain⟨k0,k1⟩:=ag.out W5 (Fr.refl _ _);obtain⟨k2,k3⟩:=bg.out W5 (Fr.refl _ _);have K0:Fr NoM W5 W5.drew:=(nW W5).drew;go_region_law (first
      | (go_simp;first
       | (go_at_call 54;(with_reducible refine(H1.out _).mono ?_);rintro c wc ⟨rfl,fc⟩;have kc:Fr NoM W5 wc:=Fr.trans (by assumption) fc kP;obtain⟨i0,N⟩:=ag.out wc kc.any;obtain⟨i2,i3⟩:=bg.out wc kc.any)
       | (go_at_call 54;(with_reducible refine(H2.out _).mono ?_);rintro c wd ⟨rfl,fd⟩;have kd:Fr NoM W5 wd:=Fr.trans (by assumption) fd kP;obtain⟨j0,j1⟩:=ag.out wd kd.any;obtain⟨j2,j3⟩:=bg.out wd kd.any)
       | (go_at_call 70;rw[HW.out];(with_reducible refine(H3.out _).mono ?_);rintro c we ⟨rfl,fe⟩;have ke:Fr NoM W5 we:=Fr.trans (by assumption) fe kP;obtain⟨O,n,o,P⟩:=HR.out we (F5.out.trans ke (λ_ _ b=>b.elim)))
       | fail)
      | fail)
     all_goals
      have G:=Hh (ao.out we f5 x w (aP.out.fr ke id) bu.out (F5.out.trans ke (λ_ _ b=>b.elim)));go_wp2_with fail;refine yY (v:=.tuple #[.agg #[.int .i64 x,.int .i64 w],.bool a5]) (by simp[results,Tryz.results141,go_sem,O,n,o,P]) rfl ?_
      exact⟨rfl,G.out⟩
    ·have au:=ap.out.1 (by cases ga <;> cases gb <;> simp at bl ⊢)
     have t:x=0/\w=0:=by
      obtain⟨ax,v,ah⟩:=q.out;rw[zek (ah.symm.trans au)]at ax v;exact⟨ax,v⟩
     subst au;obtain⟨rfl,rfl⟩:=t;have G:=Hh (ao.out W5 f5 0 0 aP.out bu.out F5.out);obtain⟨O,n,o,P⟩:=HR.out W5 F5.out;cases ga with
     | false =>
      go_wp2_with fail;refine yY (v:=.tuple #[.agg #[.int .i64 0,.int .i64 0],.bool false]) (by simp[results,Tryz.results141,go_sem,O,n,o,P]) rfl ?_
      exact⟨rfl,G.out⟩
     | true =>
      cases gb with
      | true=>exact absurd ⟨rfl,rfl⟩ bl
      | false =>
       go_wp2_with fail;refine yY (v:=.tuple #[.agg #[.int .i64 0,.int .i64 0],.bool false]) (by simp[results,Tryz.results141,go_sem,O,n,o,P]) rfl ?_
       exact⟨rfl,G.out⟩
   | _::_::_,_,a8,_,_,_,_,_,_=>simp at a8
   | _,_::_::_,_,aa,_,_,_,_,_=>simp at aa
