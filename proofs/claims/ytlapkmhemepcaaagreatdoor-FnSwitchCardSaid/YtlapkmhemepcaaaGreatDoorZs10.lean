import Derived.Test.YtlapkmhemepcaaaGreatDoorZs3
import Derived.Test.YtlapkmhemepcaaaGreatDoorZsg
/- Lemmas. -/
set_option linter.all false
set_option maxHeartbeats 8000000
set_option maxRecDepth 4000
namespace Go.Proofs.YtlapkmhemepcaaaGreatDoor
open Go.RowKit
theorem zur {c l:Nat}(h:isNB c=true)(hl:hasL c l)(hR:∀r,¬hasR c r)(e:valB l=true):redT ((valD l).1*2^(24-(valD l).2)+1*2^(24-0)) 24=valT c:=by obtain⟨k,k0,v1,v2⟩:=zss h hl hR;rw[(v2.goodD (v2.good.1 e)).2,v1.val];have:=zc6 24 0 k;rw[show(k-1,0).1*2^(24-(k-1,0).2)+1*2^(24-0)=k*2^24 from by simp only[Nat.sub_zero];omega];rw[show 24=0+24 from rfl,this];rfl
theorem zuq {c r:Nat}(h:isNB c=true)(hr:hasR c r)(hL:∀l,¬hasL c l)(e:valB r=true):redT ((valD r).1*2^(24-(valD r).2) + -1*2^(24-0)) 24=valT c:=by obtain⟨k,k0,v1,v2⟩:=zon h hr hL;rw[(v2.goodD (v2.good.1 e)).2,v1.val];have:=zc6 24 0 k;rw[show(k+1,0).1*2^(24-(k+1,0).2) + -1*2^(24-0)=k*2^24 from by simp only[Nat.sub_zero];omega];rw[show 24=0+24 from rfl,this];rfl
theorem zx0 {c:Nat}(h:isNB c=true){x:Int × Nat}(e:x=valT c):(valB c=true↔GoodD x.1 x.2)/\(valB c=true->(valD c).1=x.1/\(valD c).2=x.2)/\(valB c=false->(valD c).1=0/\(valD c).2=0):=by subst e;refine⟨(zm7 h).good,λhb=>?_,λhb=>?_⟩;{unfold valD;rw[if_pos hb];exact⟨rfl,rfl⟩};{rw[zcz hb];exact⟨rfl,rfl⟩}
theorem zsr {c l r:Nat}(h:isNB c=true)(hl:hasL c l)(hr:hasR c r)(e1:valB l=true)(e2:valB r=true) : ∃(t:Int) (p:Nat),valT c=(t,p)/\t%2≠0/\0<p/\p<=17/\redT (t-1) p=valD l/\redT (t+1) p=valD r/\(valD l).1*2^(24-(valD l).2)<(valD r).1*2^(24-(valD r).2):=by obtain⟨t,p,v,hp,ho,vl,vr⟩:=zst h hl hr;have g1:=vl.good.1 e1;have g2:=vr.good.1 e2;have h17:=(zvz hp ho g1 g2).1;have d1:=(vl.goodD g1).2;have d2:=(vr.goodD g2).2;have d1:valD l=redT (t-1) p:=d1;have d2:valD r=redT (t+1) p:=d2;refine⟨t,p,v.val,ho,hp,h17,d1.symm,d2.symm,?_⟩;rw[d1,d2,zex p _ (by omega),zex p _ (by omega)];have:=zdq (24-p);rw[Int.sub_mul,Int.add_mul];omega
theorem zx2 {l r:Nat}(e1:valB l=true)(e2:valB r=true)(h:(valD l).1*2^(24-(valD l).2)<(valD r).1*2^(24-(valD r).2)):geC l r=false:=by obtain⟨v1,g1⟩:=zby e1;obtain⟨v2,g2⟩:=zby e2;have a1:nr ((valD l).1*2^(24-(valD l).2)) 24=l:=by{have h1:=zdc (valD l).1 (valD l).2 (24-(valD l).2);rw[show(valD l).2+(24-(valD l).2)=24 from by have:=g1.2.1;omega]at h1;rw[h1];exact v1.toNr.symm};have a2:nr ((valD r).1*2^(24-(valD r).2)) 24=r:=by{have h1:=zdc (valD r).1 (valD r).2 (24-(valD r).2);rw[show(valD r).2+(24-(valD r).2)=24 from by have:=g2.2.1;omega]at h1;rw[h1];exact v2.toNr.symm};have h3:=znz (P:=24) h;rw[a1,a2]at h3;exact h3
theorem yc6 {c:Nat}(h:isNB c=true){t:Int}{p:Nat}(e:valT c=(t,p)):(valB c=true↔GoodD (btwY t p).1 (btwY t p).2)/\(valB c=true->(valD c).1=(btwY t p).1/\((valD c).2:Int)=(btwY t p).2)/\(valB c=false->(valD c).1=0/\((valD c).2:Int)=0):=by obtain⟨a,b,d⟩:=zx0 h e.symm;have a:valB c=true↔GoodD t p:=a;unfold btwY;by_cases hp:p<=16;{rw[if_pos hp];exact⟨a,λhb=>⟨(b hb).1,by rw[(b hb).2]⟩,λhb=>⟨(d hb).1,by rw[(d hb).2];rfl⟩⟩};{rw[if_neg hp];have hb:valB c=false:=by{cases hb:valB c with| false=>rfl| true=>have:=(a.1 hb).2.1;omega};(have no:∀ {X:Prop},valB c=true->X:=λe=>by rw[hb]at e;cases e);exact⟨⟨λe=>no e,λe=>absurd e.2.1.2 (by decide)⟩,λe=>no e,λhb=>⟨(d hb).1,by rw[(d hb).2];rfl⟩⟩}
theorem ybm (a:Option Addr)(n c k b off:Nat)(hk:k<n)(ha:a=some ⟨b,off,none⟩)(w:World) : (Instr.indexAt 123 (.slice a n c) (.int .i64 (k:Int))).run Tryz.prog w=.ok (.pointer (some ⟨b,off+k*2,none⟩)) w:=by subst ha;go_simp
theorem zyr (a:Option Addr)(n c k b off:Nat)(hk:k<n)(ha:a=some ⟨b,off,none⟩)(w:World) : (Instr.indexAt 103 (.slice a n c) (.int .i64 (k:Int))).run Tryz.prog w=.ok (.pointer (some ⟨b,off+k,none⟩)) w:=by subst ha;go_simp
noncomputable def zh0 (C:List Nat)(n:Nat):List (Value × Value):=(List.range n).map λj=>(.int .i64 (valD (C.getD j 0)).1,.int .i64 ((valD (C.getD j 0)).2:Int))
noncomputable def arsL (C:List Nat)(n:Nat):List Bool:=(List.range n).map λj=>valB (C.getD j 0)
theorem zok (C:List Nat)(n:Nat):(zh0 C n).length=n:=by unfold zh0;rw[uV,uW]
theorem zuh (C:List Nat)(n:Nat):(arsL C n).length=n:=by unfold arsL;rw[uV,uW]
theorem zom (C:List Nat){n j:Nat}(h:j<n):(zh0 C n)[j]?=some (.int .i64 (valD (C.getD j 0)).1,.int .i64 ((valD (C.getD j 0)).2:Int)):=by unfold zh0;rw[vW,List.getElem?_range h];rfl
theorem zui (C:List Nat){n j:Nat}(h:j<n):(arsL C n)[j]?=some (valB (C.getD j 0)):=by unfold arsL;rw[vW,List.getElem?_range h];rfl
theorem zv6 {C:List Nat}{V:List PL}(B:BookC V C)(x n:Nat)(hx:x<V.length)(hxn:x<=n)(hn9:n<=1000)(hc:CanC (C.getD x 0))(lv rv dv bv:Value)(w:World)(hL:Nats w lv (za2 V x).1)(hR:Nats w rv (za2 V x).2)(hD:Pairs w dv (zh0 C n))(hB:SliceOf encB w bv (arsL C n))
  (T P:Int) (g:Bool) (hT:T=(valD (C.getD x 0)).1) (hP:P=((valD (C.getD x 0)).2:Int)) (hg:g=valB (C.getD x 0)) :
  Calls Tryz.prog 168 #[.agg #[lv,rv],dv,bv] w λe w'=>e=.returned (.tuple #[.agg #[.int .i64 T,.int .i64 P],.bool g])/\Fr NoM w w':=by
 obtain⟨c,hcx⟩:=eX (C.getD x 0);have hrows:=zo6 B hx hc;obtain⟨oL,oR⟩:=zas B hx;obtain⟨o1,o2⟩:=B.opts x _ (za7 hx);rw[<-hcx]at hrows oL oR hc hT hP hg;have HV:=Hh (And.intro hT (And.intro hP hg));obtain⟨w1,hw1⟩:=eX ((w.alloc (.cells #[lv,rv] 102)).alloc (.cells #[.int .i64 0,.int .i64 0] 29));have f1:Fr NoM w w1:=by rw[hw1];exact((nW w).alloc _).alloc _
 have e0:w1.heap[w.heap.size]?=some (.cells #[lv,rv] 102 (0,0)):=by rw[hw1];exact((nW _).alloc _).heap (xJ w _) id
 have e1:w1.heap[w.heap.size+1]?=some (.cells #[.int .i64 0,.int .i64 0] 29 (0,0)):=by
  have h:=xJ (w.alloc (.cells #[lv,rv] 102)) (.cells #[.int .i64 0,.int .i64 0] 29);rw[xZ]at h;rw[hw1];exact h
 have HX:=Hh (λW (f:Fr NoM w1 W)=>show W.cell? ⟨w.heap.size,0,none⟩=some lv/\W.cell? ⟨w.heap.size,1,none⟩=some rv from by
  have h0:=f.heap e0 id;exact⟨by rw[xX W _ 0 _ _ _ h0];rfl,by rw[xX W _ 1 _ _ _ h0];rfl⟩)
 have HRs:=Hh (λW (f:Fr NoM w1 W)=>show W.cell? ⟨w.heap.size+1,0,none⟩=some (.int .i64 0)/\W.cell? ⟨w.heap.size+1,1,none⟩=some (.int .i64 0)/\W.frozen? ⟨w.heap.size+1,0,none⟩=false/\W.frozen? ⟨w.heap.size+1,1,none⟩=false from by
  have h1:=f.heap e1 id;exact⟨by rw[xX W _ 0 _ _ _ h1];rfl,by rw[xX W _ 1 _ _ _ h1];rfl,by simp[World.frozen?,h1],by simp[World.frozen?,h1]⟩)
 have HF:=Hh (λ(W:World) (y1 y2:Int) (f:Fr NoM w1 W)=>(((f1.trans f (λ_ _ q=>q)).setCell ⟨w.heap.size+1,0,none⟩ (.int .i64 y1) (λh=>by have h:w.heap.size+1<w.heap.size:=h;omega)).setCell ⟨w.heap.size+1,1,none⟩ (.int .i64 y2) (λh=>by have h:w.heap.size+1<w.heap.size:=h;omega):Fr NoM w ((W.setCell ⟨w.heap.size+1,0,none⟩ (.int .i64 y1)).setCell ⟨w.heap.size+1,1,none⟩ (.int .i64 y2))));have HNl:=Hh (λW (f:Fr NoM w1 W)=>hL.fr0 (f1.trans f (λ_ _ q=>q)));have HNr:=Hh (λW (f:Fr NoM w1 W)=>hR.fr0 (f1.trans f (λ_ _ q=>q)));obtain⟨da,dc,rfl,_,_,hdc⟩:=id hD;obtain⟨ba,bc,rfl,_,_,hbc⟩:=id hB;rw[zok]at *;rw[zuh]at *;have HDat:=Hh (λ(y:Nat) (hy:y<n)=>show ∃b off,(∀W,(Instr.indexAt 123 (.slice da n dc) (.int .i64 (y:Int))).run Tryz.prog W=.ok (.pointer (some ⟨b,off,none⟩)) W)/\∀W,Fr NoM w1 W->W.cell? ⟨b,off,none⟩=some (.int .i64 (valD (C.getD y 0)).1)/\W.cell? ⟨b,off+1,none⟩=some (.int .i64 ((valD (C.getD y 0)).2:Int))from by
  obtain⟨b,off,ha,c1,c2⟩:=hdc y _ (zom C hy);exact⟨b,off+y*2,λW=>ybm da n dc y b off hy ha W,λW f=>⟨(f1.trans f (λ_ _ q=>q)).cell c1 id,(f1.trans f (λ_ _ q=>q)).cell c2 id⟩⟩)
 have HBat:=Hh (λ(y:Nat) (hy:y<n)=>show ∃b off,(∀W,(Instr.indexAt 103 (.slice ba n bc) (.int .i64 (y:Int))).run Tryz.prog W=.ok (.pointer (some ⟨b,off,none⟩)) W)/\∀W,Fr NoM w1 W->W.cell? ⟨b,off,none⟩=some (.bool (valB (C.getD y 0)))from by
  obtain⟨b,off,ha,c1⟩:=hbc y _ (zui C hy);exact⟨b,off+y,λW=>zyr ba n bc y b off hy ha W,λW f=>(f1.trans f (λ_ _ q=>q)).cell c1 id⟩)
 obtain⟨L,hLe⟩:=eX ((za2 V x).1);obtain⟨R,hRe⟩:=eX ((za2 V x).2);have hNl:=hL;have hNr:=hR;have HLe:=Hh hLe;have HRe:=Hh hRe;have o1:∀i∈(za2 V x).1,i<x:=o1;have o2:∀i∈(za2 V x).2,i<x:=o2;rw[<-hLe]at hrows oL hNl o1;rw[<-hRe]at hrows oR hNr o2;rw[<-hLe]at HNl;rw[<-hRe]at HNr;clear hL hR hD hB hdc hbc f1 e0 e1 hT hP hg;have hl9:L.length<=9223372036854775807:=by obtain⟨a,c,_,h1,h2,_⟩:=hNl;omega
 have hr9:R.length<=9223372036854775807:=by obtain⟨a,c,_,h1,h2,_⟩:=hNr;omega
 by_cases hlong:1<L.length\/1<R.length
 ·have his:isNB c=false:=by
   cases hc:isNB c with
   | false=>rfl
   | true=>have:=hrows.1 hc;omega
  have hv:T=0/\P=0/\g=false:=by
   obtain⟨a,b,d⟩:=HV.out;have h1:=zi4 his;rw[zcz h1]at a b;exact⟨a,b,d.trans h1⟩
  obtain⟨rfl,rfl,rfl⟩:=hv;obtain⟨ua,uc,rfl,z⟩:=id hNl;clear z;obtain⟨va,vc,rfl,z⟩:=id hNr;clear z hrows oL oR o1 o2 hc hNl hNr hLe hRe hcx;obtain⟨x0,x1⟩:=HX.out w1 (Fr.refl _ _);obtain⟨r0,r1,r2,r3⟩:=HRs.out w1 (Fr.refl _ _);have HM:=Hh (HF.out w1 0 0 (Fr.refl _ _));by_cases h1:1<L.length
  ·have h1':(1:Int)<(L.length:Int):=by omega
   go_enter Tryz.func168,Tryz.ntmps168;go_upto_region 1 with fail;rw[<-hw1];clear hw1;go_wp2_with fail;refine yJ (v:=.tuple #[.agg #[.int .i64 0,.int .i64 0],.bool false]) (by simp[results,Tryz.results168,go_sem,r0,r1,r2,r3]) rfl ?_
   exact⟨rfl,HM.out⟩
  ·have h1':¬(1:Int)<(L.length:Int):=by omega
   have h2':(1:Int)<(R.length:Int):=by omega
   go_enter Tryz.func168,Tryz.ntmps168;go_upto_region 1 with fail;rw[<-hw1];clear hw1;go_wp2_with fail;refine yJ (v:=.tuple #[.agg #[.int .i64 0,.int .i64 0],.bool false]) (by simp[results,Tryz.results168,go_sem,r0,r1,r2,r3]) rfl ?_
   exact⟨rfl,HM.out⟩
 ·have hl1:L.length<=1:=by omega
  have hr1:R.length<=1:=by omega
  clear hl9 hr9 hLe hRe;match L,R,hl1,hr1,oL,oR,o1,o2,hNl,hNr,HNl,HNr,HLe,HRe,hrows with
  | [],[],hl1,hr1,oL,oR,o1,o2,hNl,hNr,HNl,HNr,HLe,HRe,hrows =>
   have his:isNB c=true:=hrows.2 (by simp);have hv:T=0/\P=0/\g=true:=by
    obtain⟨a,b,d⟩:=HV.out;obtain⟨h1,h2⟩:=zsq his (λl hl=>by obtain⟨y,hy,_⟩:=(oL l).1 hl;simp at hy) (λl hl=>by obtain⟨y,hy,_⟩:=(oR l).1 hl;simp at hy);rw[h2]at a b;exact⟨a,b,d.trans h1⟩
   obtain⟨rfl,rfl,rfl⟩:=hv;obtain⟨ua,uc,hlv,z⟩:=id hNl;have hlv:lv=.slice ua 0 uc:=hlv;subst hlv;clear z;obtain⟨va,vc,hrv,z⟩:=id hNr;have hrv:rv=.slice va 0 vc:=hrv;subst hrv;clear z;clear hrows oL oR o1 o2 hc hNl hNr hcx hl1 hr1;obtain⟨x0,x1⟩:=HX.out w1 (Fr.refl _ _);go_enter Tryz.func168,Tryz.ntmps168;go_upto_region 1 with fail;rw[<-hw1];clear hw1;go_upto_region 4 with fail;obtain⟨W3,hW3⟩:=eX (w1.alloc (.cells #[.int .i64 1,.int .i64 0] 29));have g3:Fr NoM w1 W3:=by rw[hW3];exact(nW w1).alloc _
   have en:W3.heap[w1.heap.size]?=some (.cells #[.int .i64 1,.int .i64 0] 29 (0,0)):=by rw[hW3];exact xJ w1 _
   have q0:W3.cell? ⟨w1.heap.size,0,none⟩=some (.int .i64 1):=by rw[xX W3 _ 0 _ _ _ en];rfl
   have q1:W3.cell? ⟨w1.heap.size,1,none⟩=some (.int .i64 0):=by rw[xX W3 _ 1 _ _ _ en];rfl
   have G3:=Hh g3;rw[<-hW3];clear hW3 g3 en;clear x0 x1;obtain⟨x0,x1⟩:=HX.out W3 G3.out;obtain⟨r0,r1,r2,r3⟩:=HRs.out W3 G3.out;have HM:=Hh (HF.out W3 0 0 G3.out);go_wp2_with fail;refine yJ (v:=.tuple #[.agg #[.int .i64 0,.int .i64 0],.bool true]) (by simp[results,Tryz.results168,go_sem,r0,r1,r2,r3]) rfl ?_
   exact⟨rfl,HM.out⟩
  | [a],[],hl1,hr1,oL,oR,o1,o2,hNl,hNr,HNl,HNr,HLe,HRe,hrows =>
   obtain⟨ua,uc,hlv,z⟩:=id hNl;have hlv:lv=.slice ua 1 uc:=hlv;subst hlv;clear z;obtain⟨va,vc,hrv,z⟩:=id hNr;have hrv:rv=.slice va 0 vc:=hrv;subst hrv;clear z;obtain⟨Ta,hTa⟩:=eX ((valD (C.getD a 0)).1);obtain⟨Pa,hPa⟩:=eX ((valD (C.getD a 0)).2);obtain⟨ga,hga⟩:=eX (valB (C.getD a 0));have hgooda:ga=true->GoodD Ta Pa:=λe=>by rw[hTa,hPa];exact(zby (by rw[<-hga];exact e)).2
   have hlta:=o1 a (by simp);obtain⟨b1a,f1a,ixda,hda⟩:=HDat.out a (by omega);obtain⟨b2a,f2a,ixba,hba⟩:=HBat.out a (by omega);rw[<-hTa,<-hPa]at hda;rw[<-hga]at hba;have HDa:=Hh hda;have HBa:=Hh hba;obtain⟨bxa,oxa,ixea,hea⟩:∃bq oq,(∀W,(Instr.indexAt 100 (.slice ua 1 uc) (.int .i64 0)).run Tryz.prog W=.ok (.pointer (some ⟨bq,oq,none⟩)) W)/\∀W,Fr NoM w1 W->W.cell? ⟨bq,oq,none⟩=some (.int .i64 (a:Int)):=by
    obtain⟨_,_,ee,_,_,hcc⟩:=HNl.out w1 (Fr.refl _ _);cases ee
    obtain⟨bo,oo,ha,c1⟩:=hcc 0 a rfl;exact⟨bo,oo,λW=>za8 ua 1 uc 0 bo oo (by omega) ha W,λW f=>f.cell c1 id⟩
   have HEa:=Hh hea;clear hea;clear hda hba;have hno:∀r,¬hasR c r:=λr hr=>by obtain⟨y,hy,_⟩:=(oR r).1 hr;simp at hy
   have hha:=(oL _).2 ⟨a,by simp,rfl⟩;have hnum:isNB (C.getD a 0)=true->isNB c=true:=λe=>hrows.2 ⟨by simp,by simp,λl hl=>by rw[x4.1 hl];exact e,λr hr=>by simp at hr,λl hl r hr=>by simp at hr⟩
   have hoff:ga=false->valB c=false:=λe=>by
    cases hi:isNB c with
    | false=>exact zi4 hi
    | true=>exact(znk hi hha hno).1 (by rw[<-hga];exact e)
   have hon:ga=true->isNB c=true/\redT (Ta*2^(24-Pa)+1*2^(24-0)) 24=valT c:=λe=>by
    have e1:valB (C.getD a 0)=true:=by rw[<-hga];exact e
    have hi:=hnum (zcc e1);exact⟨hi,by rw[hTa,hPa];exact zur hi hha hno e1⟩
   have HGood:=Hh hgooda;have HOff:=Hh hoff;have HOn:=Hh hon;have ca:=HEa.out w1 (Fr.refl _ _);have cb:=HBa.out w1 (Fr.refl _ _);clear hrows oL oR o1 o2 hc hNl hNr hcx hl1 hr1 hgooda hoff hon hnum hha hno hlta hTa hPa hga;obtain⟨x0,x1⟩:=HX.out w1 (Fr.refl _ _);cases ga with
   | false =>
    have hv:T=0/\P=0/\g=false:=by
     obtain⟨a,b,d⟩:=HV.out;have h1:valB c=false:=HOff.out rfl;rw[zcz h1]at a b;exact⟨a,b,d.trans h1⟩
    obtain⟨rfl,rfl,rfl⟩:=hv;obtain⟨r0,r1,r2,r3⟩:=HRs.out w1 (Fr.refl _ _);have HM:=Hh (HF.out w1 0 0 (Fr.refl _ _));go_enter Tryz.func168,Tryz.ntmps168;go_upto_region 1 with fail;rw[<-hw1];clear hw1;go_wp2_with fail;refine yJ (v:=.tuple #[.agg #[.int .i64 0,.int .i64 0],.bool false]) (by simp[results,Tryz.results168,go_sem,r0,r1,r2,r3]) rfl ?_
    exact⟨rfl,HM.out⟩
   | true =>
    obtain⟨his,hval⟩:=HOn.out rfl;obtain⟨⟨vt,vp⟩,hvt⟩:∃y,y=valT c:=⟨_,rfl⟩;rw[<-hvt]at hval;obtain⟨i1,i2,i3⟩:=zx0 his hvt;have hgd:=HGood.out rfl;have HAdd:=Hh (λ(W:World)=>show Calls Tryz.prog 188 #[.agg #[.int .i64 Ta,.int .i64 (Pa:Int)],.agg #[.int .i64 1,.int .i64 0]] W λe w'=>e=.returned (.agg #[.int .i64 vt,.int .i64 (vp:Int)])/\Fr NoM W w' from by
     have h:=zm5 Ta 1 Pa 0 W (by have:=hgd.2.1;omega) (by omega) (by have:=hgd.1;omega) (by omega);rw[show(1:Int)*2^(24-0)=1*2^(24-0)from rfl,hval]at h;exact h)
    have HIf:=Hh (λ(W:World)=>zo3 vt (vp:Int) W g (by rw[HV.out.2.2];exact i1) T P ⟨λe=>by
     have:=i2 (by rw[<-HV.out.2.2];exact e);exact⟨HV.out.1.trans this.1,by rw[HV.out.2.1,this.2]⟩,λe=>by
     have:=i3 (by rw[<-HV.out.2.2];exact e);exact⟨HV.out.1.trans this.1,by rw[HV.out.2.1,this.2];rfl⟩⟩)
    clear i1 i2 i3 his hval hvt hgd;go_enter Tryz.func168,Tryz.ntmps168;go_upto_region 1 with fail;rw[<-hw1];clear hw1;go_upto_region 4 with fail;obtain⟨W3,hW3⟩:=eX (w1.alloc (.cells #[.int .i64 1,.int .i64 0] 29));have g3:Fr NoM w1 W3:=by rw[hW3];exact(nW w1).alloc _
    have en:W3.heap[w1.heap.size]?=some (.cells #[.int .i64 1,.int .i64 0] 29 (0,0)):=by rw[hW3];exact xJ w1 _
    have q0:W3.cell? ⟨w1.heap.size,0,none⟩=some (.int .i64 1):=by rw[xX W3 _ 0 _ _ _ en];rfl
    have q1:W3.cell? ⟨w1.heap.size,1,none⟩=some (.int .i64 0):=by rw[xX W3 _ 1 _ _ _ en];rfl
    have G3:=Hh g3;rw[<-hW3];clear hW3 g3 en;clear x0 x1 ca cb;obtain⟨x0,x1⟩:=HX.out W3 G3.out;obtain⟨d0,d1⟩:=HDa.out W3 G3.out;have ca:=HEa.out W3 G3.out;go_upto_region 7 with fail;have GD:Fr NoM w1 W3.drew:=G3.out.drew;go_region_law (first
     | (go_simp;first
      | (go_at_call 188;(with_reducible refine(HAdd.out _).mono ?_);rintro e w5 ⟨rfl,f5⟩;have k5:Fr NoM w1 w5:=Fr.trans GD f5 (λ_ _ q=>q))
      | (go_at_call 195;(with_reducible refine(HIf.out _).mono ?_);rintro e w6 ⟨rfl,f6⟩;have k6:Fr NoM w1 w6:=Fr.trans k5 f6 (λ_ _ q=>q);obtain⟨r0,r1,r2,r3⟩:=HRs.out w6 k6)
      | fail)
     | fail)
    all_goals
     have HM:=Hh (HF.out w6 T P k6);go_wp2_with fail;refine yJ (v:=.tuple #[.agg #[.int .i64 T,.int .i64 P],.bool g]) (by simp[results,Tryz.results168,go_sem,r0,r1,r2,r3]) rfl ?_
     exact⟨rfl,HM.out⟩
  | [],[b],hl1,hr1,oL,oR,o1,o2,hNl,hNr,HNl,HNr,HLe,HRe,hrows =>
   obtain⟨ua,uc,hlv,z⟩:=id hNl;have hlv:lv=.slice ua 0 uc:=hlv;subst hlv;clear z;obtain⟨va,vc,hrv,z⟩:=id hNr;have hrv:rv=.slice va 1 vc:=hrv;subst hrv;clear z;obtain⟨Tb,hTb⟩:=eX ((valD (C.getD b 0)).1);obtain⟨Pb,hPb⟩:=eX ((valD (C.getD b 0)).2);obtain⟨gb,hgb⟩:=eX (valB (C.getD b 0));have hgoodb:gb=true->GoodD Tb Pb:=λe=>by rw[hTb,hPb];exact(zby (by rw[<-hgb];exact e)).2
   have hltb:=o2 b (by simp);obtain⟨b1b,f1b,ixdb,hdb⟩:=HDat.out b (by omega);obtain⟨b2b,f2b,ixbb,hbb⟩:=HBat.out b (by omega);rw[<-hTb,<-hPb]at hdb;rw[<-hgb]at hbb;have HDb:=Hh hdb;have HBb:=Hh hbb;obtain⟨bxb,oxb,ixeb,heb⟩:∃bq oq,(∀W,(Instr.indexAt 100 (.slice va 1 vc) (.int .i64 0)).run Tryz.prog W=.ok (.pointer (some ⟨bq,oq,none⟩)) W)/\∀W,Fr NoM w1 W->W.cell? ⟨bq,oq,none⟩=some (.int .i64 (b:Int)):=by
    obtain⟨_,_,ee,_,_,hcc⟩:=HNr.out w1 (Fr.refl _ _);cases ee
    obtain⟨bo,oo,ha,c1⟩:=hcc 0 b rfl;exact⟨bo,oo,λW=>za8 va 1 vc 0 bo oo (by omega) ha W,λW f=>f.cell c1 id⟩
   have HEb:=Hh heb;clear heb;clear hdb hbb;have hno:∀r,¬hasL c r:=λr hr=>by obtain⟨y,hy,_⟩:=(oL r).1 hr;simp at hy
   have hha:=(oR _).2 ⟨b,by simp,rfl⟩;have hnum:isNB (C.getD b 0)=true->isNB c=true:=λe=>hrows.2 ⟨by simp,by simp,λr hr=>by simp at hr,λl hl=>by rw[x4.1 hl];exact e,λl hl r hr=>by simp at hl⟩
   have hoff:gb=false->valB c=false:=λe=>by
    cases hi:isNB c with
    | false=>exact zi4 hi
    | true=>exact(zni hi hha hno).1 (by rw[<-hgb];exact e)
   have hon:gb=true->isNB c=true/\redT (Tb*2^(24-Pb) + -1*2^(24-0)) 24=valT c:=λe=>by
    have e1:valB (C.getD b 0)=true:=by rw[<-hgb];exact e
    have hi:=hnum (zcc e1);exact⟨hi,by rw[hTb,hPb];exact zuq hi hha hno e1⟩
   have HGood:=Hh hgoodb;have HOff:=Hh hoff;have HOn:=Hh hon;have ca:=HEb.out w1 (Fr.refl _ _);have cb:=HBb.out w1 (Fr.refl _ _);clear hrows oL oR o1 o2 hc hNl hNr hcx hl1 hr1 hgoodb hoff hon hnum hha hno hltb hTb hPb hgb;obtain⟨x0,x1⟩:=HX.out w1 (Fr.refl _ _);cases gb with
   | false =>
    have hv:T=0/\P=0/\g=false:=by
     obtain⟨a,b,d⟩:=HV.out;have h1:valB c=false:=HOff.out rfl;rw[zcz h1]at a b;exact⟨a,b,d.trans h1⟩
    obtain⟨rfl,rfl,rfl⟩:=hv;obtain⟨r0,r1,r2,r3⟩:=HRs.out w1 (Fr.refl _ _);have HM:=Hh (HF.out w1 0 0 (Fr.refl _ _));go_enter Tryz.func168,Tryz.ntmps168;go_upto_region 1 with fail;rw[<-hw1];clear hw1;go_wp2_with fail;refine yJ (v:=.tuple #[.agg #[.int .i64 0,.int .i64 0],.bool false]) (by simp[results,Tryz.results168,go_sem,r0,r1,r2,r3]) rfl ?_
    exact⟨rfl,HM.out⟩
   | true =>
    obtain⟨his,hval⟩:=HOn.out rfl;obtain⟨⟨vt,vp⟩,hvt⟩:∃y,y=valT c:=⟨_,rfl⟩;rw[<-hvt]at hval;obtain⟨i1,i2,i3⟩:=zx0 his hvt;have hgd:=HGood.out rfl;have HAdd:=Hh (λ(W:World)=>show Calls Tryz.prog 188 #[.agg #[.int .i64 Tb,.int .i64 (Pb:Int)],.agg #[.int .i64 (-1),.int .i64 0]] W λe w'=>e=.returned (.agg #[.int .i64 vt,.int .i64 (vp:Int)])/\Fr NoM W w' from by
     have h:=zm5 Tb (-1) Pb 0 W (by have:=hgd.2.1;omega) (by omega) (by have:=hgd.1;omega) (by omega);rw[show((-1):Int)*2^(24-0)=-1*2^(24-0)from rfl,hval]at h;exact h)
    have HIf:=Hh (λ(W:World)=>zo3 vt (vp:Int) W g (by rw[HV.out.2.2];exact i1) T P ⟨λe=>by
     have:=i2 (by rw[<-HV.out.2.2];exact e);exact⟨HV.out.1.trans this.1,by rw[HV.out.2.1,this.2]⟩,λe=>by
     have:=i3 (by rw[<-HV.out.2.2];exact e);exact⟨HV.out.1.trans this.1,by rw[HV.out.2.1,this.2];rfl⟩⟩)
    clear i1 i2 i3 his hval hvt hgd;go_enter Tryz.func168,Tryz.ntmps168;go_upto_region 1 with fail;rw[<-hw1];clear hw1;go_upto_region 4 with fail;obtain⟨W3,hW3⟩:=eX (w1.alloc (.cells #[.int .i64 1,.int .i64 0] 29));have g3:Fr NoM w1 W3:=by rw[hW3];exact(nW w1).alloc _
    have en:W3.heap[w1.heap.size]?=some (.cells #[.int .i64 1,.int .i64 0] 29 (0,0)):=by rw[hW3];exact xJ w1 _
    have q0:W3.cell? ⟨w1.heap.size,0,none⟩=some (.int .i64 1):=by rw[xX W3 _ 0 _ _ _ en];rfl
    have q1:W3.cell? ⟨w1.heap.size,1,none⟩=some (.int .i64 0):=by rw[xX W3 _ 1 _ _ _ en];rfl
    have G3:=Hh g3;rw[<-hW3];clear hW3 g3 en;clear x0 x1 ca cb;obtain⟨x0,x1⟩:=HX.out W3 G3.out;obtain⟨d0,d1⟩:=HDb.out W3 G3.out;have ca:=HEb.out W3 G3.out;have HNg:=Hh (λ(W:World)=>show Calls Tryz.prog 189 #[.agg #[.int .i64 1,.int .i64 0]] W λe w'=>e=.returned (.agg #[.int .i64 (-1),.int .i64 0])/\Fr NoM W w' from zfx 1 0 W (by omega));go_upto_region 9 with fail;have GD:Fr NoM w1 W3.drew:=G3.out.drew;go_region_law (first
     | (go_simp;first
      | (go_at_call 189;(with_reducible refine(HNg.out _).mono ?_);rintro e wn ⟨rfl,fn⟩;have kn:Fr NoM w1 wn:=Fr.trans (by assumption) fn (λ_ _ q=>q);obtain⟨y0,y1⟩:=HX.out wn kn;obtain⟨e0,e1⟩:=HDb.out wn kn;have cc:=HEb.out wn kn)
      | (go_at_call 188;(with_reducible refine(HAdd.out _).mono ?_);rintro e w5 ⟨rfl,f5⟩;have k5:Fr NoM w1 w5:=Fr.trans kn f5 (λ_ _ q=>q))
      | (go_at_call 195;(with_reducible refine(HIf.out _).mono ?_);rintro e w6 ⟨rfl,f6⟩;have k6:Fr NoM w1 w6:=Fr.trans k5 f6 (λ_ _ q=>q);obtain⟨r0,r1,r2,r3⟩:=HRs.out w6 k6)
      | fail)
     | fail)
    all_goals
     have HM:=Hh (HF.out w6 T P k6);go_wp2_with fail;refine yJ (v:=.tuple #[.agg #[.int .i64 T,.int .i64 P],.bool g]) (by simp[results,Tryz.results168,go_sem,r0,r1,r2,r3]) rfl ?_
     exact⟨rfl,HM.out⟩
  | [a],[b],hl1,hr1,oL,oR,o1,o2,hNl,hNr,HNl,HNr,HLe,HRe,hrows =>
   obtain⟨ua,uc,hlv,z⟩:=id hNl;have hlv:lv=.slice ua 1 uc:=hlv;subst hlv;clear z;obtain⟨va,vc,hrv,z⟩:=id hNr;have hrv:rv=.slice va 1 vc:=hrv;subst hrv;clear z;obtain⟨Ta,hTa⟩:=eX ((valD (C.getD a 0)).1);obtain⟨Pa,hPa⟩:=eX ((valD (C.getD a 0)).2);obtain⟨ga,hga⟩:=eX (valB (C.getD a 0));have hgooda:ga=true->GoodD Ta Pa:=λe=>by rw[hTa,hPa];exact(zby (by rw[<-hga];exact e)).2
   have hlta:=o1 a (by simp);obtain⟨b1a,f1a,ixda,hda⟩:=HDat.out a (by omega);obtain⟨b2a,f2a,ixba,hba⟩:=HBat.out a (by omega);rw[<-hTa,<-hPa]at hda;rw[<-hga]at hba;have HDa:=Hh hda;have HBa:=Hh hba;obtain⟨bxa,oxa,ixea,hea⟩:∃bq oq,(∀W,(Instr.indexAt 100 (.slice ua 1 uc) (.int .i64 0)).run Tryz.prog W=.ok (.pointer (some ⟨bq,oq,none⟩)) W)/\∀W,Fr NoM w1 W->W.cell? ⟨bq,oq,none⟩=some (.int .i64 (a:Int)):=by
    obtain⟨_,_,ee,_,_,hcc⟩:=HNl.out w1 (Fr.refl _ _);cases ee
    obtain⟨bo,oo,ha,c1⟩:=hcc 0 a rfl;exact⟨bo,oo,λW=>za8 ua 1 uc 0 bo oo (by omega) ha W,λW f=>f.cell c1 id⟩
   have HEa:=Hh hea;clear hea;clear hda hba;obtain⟨Tb,hTb⟩:=eX ((valD (C.getD b 0)).1);obtain⟨Pb,hPb⟩:=eX ((valD (C.getD b 0)).2);obtain⟨gb,hgb⟩:=eX (valB (C.getD b 0));have hgoodb:gb=true->GoodD Tb Pb:=λe=>by rw[hTb,hPb];exact(zby (by rw[<-hgb];exact e)).2
   have hltb:=o2 b (by simp);obtain⟨b1b,f1b,ixdb,hdb⟩:=HDat.out b (by omega);obtain⟨b2b,f2b,ixbb,hbb⟩:=HBat.out b (by omega);rw[<-hTb,<-hPb]at hdb;rw[<-hgb]at hbb;have HDb:=Hh hdb;have HBb:=Hh hbb;obtain⟨bxb,oxb,ixeb,heb⟩:∃bq oq,(∀W,(Instr.indexAt 100 (.slice va 1 vc) (.int .i64 0)).run Tryz.prog W=.ok (.pointer (some ⟨bq,oq,none⟩)) W)/\∀W,Fr NoM w1 W->W.cell? ⟨bq,oq,none⟩=some (.int .i64 (b:Int)):=by
    obtain⟨_,_,ee,_,_,hcc⟩:=HNr.out w1 (Fr.refl _ _);cases ee
    obtain⟨bo,oo,ha,c1⟩:=hcc 0 b rfl;exact⟨bo,oo,λW=>za8 va 1 vc 0 bo oo (by omega) ha W,λW f=>f.cell c1 id⟩
   have HEb:=Hh heb;clear heb;clear hdb hbb;have hha:=(oL _).2 ⟨a,by simp,rfl⟩;have hhb:=(oR _).2 ⟨b,by simp,rfl⟩;have hoff:ga=false\/gb=false->valB c=false:=λe=>by
    cases hi:isNB c with
    | false=>exact zi4 hi
    | true=>exact(zf6 hi hha hhb).1 (by rw[<-hga,<-hgb];exact e)
   have hon:ga=true->gb=true->(Ta*2^(24-Pa)<Tb*2^(24-Pb)->isNB c=true)/\(¬Ta*2^(24-Pa)<Tb*2^(24-Pb)->valB c=false)/\(isNB c=true->∃(t:Int) (p:Nat),valT c=(t,p)/\t%2≠0/\0<p/\p<=17/\redT (t-1) p=(Ta,Pa)/\redT (t+1) p=(Tb,Pb)):=λe1 e2=>by
    have e1:valB (C.getD a 0)=true:=by rw[<-hga];exact e1
    have e2:valB (C.getD b 0)=true:=by rw[<-hgb];exact e2
    rw[hTa,hPa,hTb,hPb];refine⟨λhlt=>hrows.2 ⟨by simp,by simp,λl hl=>by rw[x4.1 hl];exact zcc e1,λr hr=>by rw[x4.1 hr];exact zcc e2,λl hl r hr=>by
     rw[x4.1 hl,x4.1 hr];exact zx2 e1 e2 hlt⟩,λhlt=>?_,λhi=>?_⟩
    ·cases hi:isNB c with
     | false=>exact zi4 hi
     | true =>
      obtain⟨_,_,_,_,_,_,_,_,h⟩:=zsr hi hha hhb e1 e2;exact absurd h hlt
    ·obtain⟨t,p,h1,h2,h3,h4,h5,h6,_⟩:=zsr hi hha hhb e1 e2
     exact⟨t,p,h1,h2,h3,h4,h5,h6⟩
   have HGa:=Hh hgooda;have HGb:=Hh hgoodb;have HOff:=Hh hoff;have HOn:=Hh hon;have ca:=HEa.out w1 (Fr.refl _ _);have ca2:=HBa.out w1 (Fr.refl _ _);have cb:=HEb.out w1 (Fr.refl _ _);have cb2:=HBb.out w1 (Fr.refl _ _);clear hrows oL oR o1 o2 hc hNl hNr hcx hl1 hr1 hgooda hgoodb hoff hon hha hhb hlta hTa hPa hga hltb hTb hPb hgb;obtain⟨x0,x1⟩:=HX.out w1 (Fr.refl _ _);cases ga with
   | false =>
    have hv:T=0/\P=0/\g=false:=by
     obtain⟨a,b,d⟩:=HV.out;have h1:valB c=false:=HOff.out (.inl rfl);rw[zcz h1]at a b;exact⟨a,b,d.trans h1⟩
    obtain⟨rfl,rfl,rfl⟩:=hv;obtain⟨r0,r1,r2,r3⟩:=HRs.out w1 (Fr.refl _ _);have HM:=Hh (HF.out w1 0 0 (Fr.refl _ _));go_enter Tryz.func168,Tryz.ntmps168;go_upto_region 1 with fail;rw[<-hw1];clear hw1;go_wp2_with fail;refine yJ (v:=.tuple #[.agg #[.int .i64 0,.int .i64 0],.bool false]) (by simp[results,Tryz.results168,go_sem,r0,r1,r2,r3]) rfl ?_
    exact⟨rfl,HM.out⟩
   | true =>
    cases gb with
    | false =>
     have hv:T=0/\P=0/\g=false:=by
      obtain⟨a,b,d⟩:=HV.out;have h1:valB c=false:=HOff.out (.inr rfl);rw[zcz h1]at a b;exact⟨a,b,d.trans h1⟩
     obtain⟨rfl,rfl,rfl⟩:=hv;obtain⟨r0,r1,r2,r3⟩:=HRs.out w1 (Fr.refl _ _);have HM:=Hh (HF.out w1 0 0 (Fr.refl _ _));go_enter Tryz.func168,Tryz.ntmps168;go_upto_region 1 with fail;rw[<-hw1];clear hw1;go_wp2_with fail;refine yJ (v:=.tuple #[.agg #[.int .i64 0,.int .i64 0],.bool false]) (by simp[results,Tryz.results168,go_sem,r0,r1,r2,r3]) rfl ?_
     exact⟨rfl,HM.out⟩
    | true =>
     go_enter Tryz.func168,Tryz.ntmps168;go_upto_region 1 with fail;rw[<-hw1];clear hw1;go_upto_region 4 with fail;obtain⟨W3,hW3⟩:=eX (w1.alloc (.cells #[.int .i64 1,.int .i64 0] 29));have g3:Fr NoM w1 W3:=by rw[hW3];exact(nW w1).alloc _
     have en:W3.heap[w1.heap.size]?=some (.cells #[.int .i64 1,.int .i64 0] 29 (0,0)):=by rw[hW3];exact xJ w1 _
     have q0:W3.cell? ⟨w1.heap.size,0,none⟩=some (.int .i64 1):=by rw[xX W3 _ 0 _ _ _ en];rfl
     have q1:W3.cell? ⟨w1.heap.size,1,none⟩=some (.int .i64 0):=by rw[xX W3 _ 1 _ _ _ en];rfl
     have G3:=Hh g3;rw[<-hW3];clear hW3 g3 en;clear x0 x1 ca cb ca2 cb2 q0 q1;obtain⟨x0,x1⟩:=HX.out W3 G3.out;obtain⟨d0,d1⟩:=HDa.out W3 G3.out;obtain⟨d2,d3⟩:=HDb.out W3 G3.out;have ca:=HEa.out W3 G3.out;have cb:=HEb.out W3 G3.out;have X1:=λo=>HX.out (W3.alloc o) (G3.out.alloc o)
     have X2:=λo o2=>HX.out ((W3.alloc o).alloc o2) ((G3.out.alloc o).alloc o2)
     have Y1:=λo=>HDa.out (W3.alloc o) (G3.out.alloc o)
     have Y2:=λo o2=>HDa.out ((W3.alloc o).alloc o2) ((G3.out.alloc o).alloc o2)
     have Z1:=λo=>HDb.out (W3.alloc o) (G3.out.alloc o)
     have Z2:=λo o2=>HDb.out ((W3.alloc o).alloc o2) ((G3.out.alloc o).alloc o2)
     have ca1:=λo=>HEa.out (W3.alloc o) (G3.out.alloc o)
     have ca2:=λo o2=>HEa.out ((W3.alloc o).alloc o2) ((G3.out.alloc o).alloc o2)
     have cb1:=λo=>HEb.out (W3.alloc o) (G3.out.alloc o)
     have cb2:=λo o2=>HEb.out ((W3.alloc o).alloc o2) ((G3.out.alloc o).alloc o2)
     have X11:=λo=>(X1 o).1;have X12:=λo=>(X1 o).2;have X21:=λo o2=>(X2 o o2).1;have X22:=λo o2=>(X2 o o2).2
     have Y11:=λo=>(Y1 o).1;have Y12:=λo=>(Y1 o).2;have Y21:=λo o2=>(Y2 o o2).1;have Y22:=λo o2=>(Y2 o o2).2
     have Z11:=λo=>(Z1 o).1;have Z12:=λo=>(Z1 o).2;have Z21:=λo o2=>(Z2 o o2).1;have Z22:=λo o2=>(Z2 o o2).2
     clear X1 X2 Y1 Y2 Z1 Z2;go_upto_region 10 with fail;go_cut [9,10]from 100 to 113 (λa b wx=>∃(A Bk:Nat),a=.pointer (some ⟨A,0,none⟩)/\b=.pointer (some ⟨Bk,0,none⟩)/\Fr NoM W3 wx/\wx.heap[A]?=some (.cells #[.int .i64 Ta,.int .i64 (Pa:Int)] 29 (0,0))/\wx.heap[Bk]?=some (.cells #[.int .i64 Tb,.int .i64 (Pb:Int)] 29 (0,0)))
     case first =>
      go_region
      ·go_wp2_with fail
       go_meet
       case rel=>exact⟨W3.heap.size,W3.heap.size+1,rfl,rfl,(((nW W3).alloc _).alloc _).drew,(((nW _).alloc _).drew).heap (xJ W3 _) id,((nW _).drew).heap (by have h:=xJ (W3.alloc (.cells #[.int .i64 Ta,.int .i64 (Pa:Int)] 29)) (.cells #[.int .i64 Tb,.int .i64 (Pb:Int)] 29);rw[xZ]at h;exact h) id⟩
      ·go_wp2_with fail
       go_meet
       case rel=>exact⟨W3.heap.size+1,W3.heap.size,rfl,rfl,(((nW W3).alloc _).alloc _).drew,((nW _).drew).heap (by have h:=xJ (W3.alloc (.cells #[.int .i64 Tb,.int .i64 (Pb:Int)] 29)) (.cells #[.int .i64 Ta,.int .i64 (Pa:Int)] 29);rw[xZ]at h;exact h) id,(((nW _).alloc _).drew).heap (xJ W3 _) id⟩
     case rest =>
      obtain⟨A,Bk,rfl,rfl,gd,e1,e2⟩:=hcut;obtain⟨Wd,rfl⟩:=eX wc;have HBx:=Hh (λW (f:Fr NoM Wd W)=>show W.cell? ⟨A,0,none⟩=some (.int .i64 Ta)/\W.cell? ⟨A,1,none⟩=some (.int .i64 (Pa:Int))/\W.cell? ⟨Bk,0,none⟩=some (.int .i64 Tb)/\W.cell? ⟨Bk,1,none⟩=some (.int .i64 (Pb:Int))from by
       have h0:=f.heap e1 id;have h1:=f.heap e2 id;exact⟨by rw[xX W _ 0 _ _ _ h0];rfl,by rw[xX W _ 1 _ _ _ h0];rfl,by rw[xX W _ 0 _ _ _ h1];rfl,by rw[xX W _ 1 _ _ _ h1];rfl⟩)
      have KD:=Hh (G3.out.trans gd (λ_ _ q=>q));clear gd e1 e2;clear x0 x1 d0 d1 d2 d3 ca cb X11 X12 X21 X22 Y11 Y12 Y21 Y22 Z11 Z12 Z21 Z22 ca1 ca2 cb1 cb2;obtain⟨k0,k1,k2,k3⟩:=HBx.out Wd (Fr.refl _ _);have HLs:=Hh (λ(W:World)=>zd4 Ta Tb Pa Pb W (by have:=(HGa.out rfl).2.1;omega) (by have:=(HGb.out rfl).2.1;omega) (by have:=(HGa.out rfl).1;omega) (by have:=(HGb.out rfl).1;omega) _ rfl);obtain⟨o1,o2,o3⟩:=HOn.out rfl rfl;by_cases hlt:Ta*2^(24-Pa)<Tb*2^(24-Pb)
      ·have HLs:=Hh (λ(W:World)=>by have h:=HLs.out W;rw[vV hlt]at h;exact h)
       have his:=o1 hlt;obtain⟨t,p,hvt,ho,hp,h17,ha,hb⟩:=o3 his;obtain⟨⟨z1,z2⟩,hz⟩:∃z,z=btwY t p:=⟨_,rfl⟩;obtain⟨i1,i2,i3⟩:=yc6 his hvt;rw[<-hz]at i1 i2;have HBt:=Hh (λ(W:World)=>ye4 t Ta Tb p Pa Pb W ho hp h17 ha hb (HGa.out rfl) (HGb.out rfl) z1 z2 hz.symm);have HIf:=Hh (λ(W:World)=>zo3 z1 z2 W g (by rw[HV.out.2.2];exact i1) T P ⟨λe=>by
        have:=i2 (by rw[<-HV.out.2.2];exact e);exact⟨HV.out.1.trans this.1,HV.out.2.1.trans this.2⟩,λe=>by
        have:=i3 (by rw[<-HV.out.2.2];exact e);exact⟨HV.out.1.trans this.1,HV.out.2.1.trans this.2⟩⟩)
       clear o1 o2 o3 hlt his hvt ho hp h17 ha hb hz i1 i2 i3;go_wp2_with fail;(with_reducible refine(HLs.out _).mono ?_);rintro e w4 ⟨rfl,f4⟩;have F4:=Hh f4;clear f4 k0 k1 k2 k3;obtain⟨k0,k1,k2,k3⟩:=HBx.out w4 F4.out;go_wp2_with fail;(with_reducible refine(HBt.out _).mono ?_);rintro e w5 ⟨rfl,f5⟩;have F5:=Hh (F4.out.trans f5 (λ_ _ q=>q));clear f5 k0 k1 k2 k3;go_wp2_with fail;(with_reducible refine(HIf.out _).mono ?_);rintro e w6 ⟨rfl,f6⟩;have K6:=Hh (KD.out.trans (F5.out.trans f6 (λ_ _ q=>q)) (λ_ _ q=>q));clear f6;obtain⟨r0,r1,r2,r3⟩:=HRs.out w6 K6.out;have HM:=Hh (HF.out w6 T P K6.out);go_wp2_with fail;refine yJ (v:=.tuple #[.agg #[.int .i64 T,.int .i64 P],.bool g]) (by simp[results,Tryz.results168,go_sem,r0,r1,r2,r3]) rfl ?_
       exact⟨rfl,HM.out⟩
      ·have HLs:=Hh (λ(W:World)=>by have h:=HLs.out W;rw[kX hlt]at h;exact h)
       have hz:=o2 hlt;have hv:T=0/\P=0/\g=false:=by
        obtain⟨a,b,d⟩:=HV.out;have h1:valB c=false:=hz;rw[zcz h1]at a b;exact⟨a,b,d.trans h1⟩
       have HVz:=Hh hv;clear hv hz;clear o1 o2 o3 hlt;go_wp2_with fail;(with_reducible refine(HLs.out _).mono ?_);rintro e w4 ⟨rfl,f4⟩;have K4:=Hh (KD.out.trans f4 (λ_ _ q=>q));clear f4 k0 k1 k2 k3;obtain⟨r0,r1,r2,r3⟩:=HRs.out w4 K4.out;have HM:=Hh (HF.out w4 0 0 K4.out);go_wp2_with fail;refine yJ (v:=.tuple #[.agg #[.int .i64 0,.int .i64 0],.bool false]) (by simp[results,Tryz.results168,go_sem,r0,r1,r2,r3]) rfl ?_
       exact⟨by rw[HVz.out.1,HVz.out.2.1,HVz.out.2.2],HM.out⟩
  | _::_::_,_,hl1,_,_,_,_,_,_,_,_,_,_,_,_=>simp at hl1
  | _,_::_::_,_,hr1,_,_,_,_,_,_,_,_,_,_,_=>simp at hr1
theorem zup (C:List Nat)(k:Nat):zh0 C (k+1)=zh0 C k ++ [(.int .i64 (valD (C.getD k 0)).1,.int .i64 ((valD (C.getD k 0)).2:Int))]:=by unfold zh0;rw[List.range_succ,vK];rfl
theorem zzu (C:List Nat)(k:Nat):arsL C (k+1)=arsL C k ++ [valB (C.getD k 0)]:=by unfold arsL;rw[List.range_succ,vK];rfl
structure R7 (B:Nat) (W:World) (dv bv:Value) (C:List Nat) (k:Nat):Prop where
 d:W.ownsRow B 29 2 dv k (zaz (zh0 C k))
 b:W.ownsRow B 4 1 bv k ((arsL C k).map encB)
 sep:∀q,dv.ownBlock=some q->bv.ownBlock≠some q
theorem R7.fr0 {B k:Nat}{W W':World}{dv bv:Value}{C:List Nat}(h:R7 B W dv bv C k)(hf:Fr NoM W W'):R7 B W' dv bv C k:=⟨za1 h.d hf (λ_ _ q=>q),za1 h.b hf (λ_ _ q=>q),h.sep⟩
theorem R7.pairs {B k:Nat}{W:World}{dv bv:Value}{C:List Nat}(h:R7 B W dv bv C k):Pairs W dv (zh0 C k):=Pairs.of_owns h.d
theorem R7.bools {B k:Nat}{W:World}{dv bv:Value}{C:List Nat}(h:R7 B W dv bv C k):SliceOf encB W bv (arsL C k):=SliceOf.of_owns h.b rfl
theorem R7.next {B k:Nat}{W W6 W7 W9:World}{dv bv dv' bv':Value}{C:List Nat}(h:R7 B W dv bv C k)(f6:Fr NoM W W6)(f7:Fr (Own1 dv) W6 W7)(h7:W7.ownsRow B 29 2 dv' (k+1) (zaz (zh0 C k) ++ [.int .i64 (valD (C.getD k 0)).1,.int .i64 ((valD (C.getD k 0)).2:Int)])) (s7:dv'.ownBlock=dv.ownBlock\/∃b,dv'.ownBlock=some b/\W6.heap.size<=b) {W8:World}(f8:Fr NoM W7 W8) (f9:Fr (Own1 bv) W8 W9) (h9:W9.ownsRow B 4 1 bv' (k+1) ((arsL C k).map encB ++ [.bool (valB (C.getD k 0))])) (s9:bv'.ownBlock=bv.ownBlock\/∃b,bv'.ownBlock=some b/\W8.heap.size<=b):R7 B W9 dv' bv' C (k+1):=by have k1:∀q,dv'.ownBlock=some q->bv.ownBlock≠some q:=λq hq e=>by{rcases s7 with s|⟨b,s,hb⟩;{exact h.sep q (by rw[<-s];exact hq) e};{rw[hq]at s;cases s;have:=(h.b.lt q e).2;have:=f6.size;omega}};refine⟨?_,?_,λq hq e=>?_⟩;{rw[zup];(have e:zaz (zh0 C k ++ [((.int .i64 (valD (C.getD k 0)).1:Value),(.int .i64 ((valD (C.getD k 0)).2:Int):Value))])=zaz (zh0 C k) ++ [.int .i64 (valD (C.getD k 0)).1,.int .i64 ((valD (C.getD k 0)).2:Int)]:=by simp[zaz]);rw[e];exact za1 (za1 h7 f8 (λ_ _ q=>q)) f9 (λq hq e=>k1 q hq e)};{rw[zzu,vK];exact h9};{rcases s9 with s|⟨b,s,hb⟩;{exact k1 q hq (by rw[<-s];exact e)};{rw[e]at s;cases s;have:=(h7.lt q hq).2;have:=f8.size;omega}}
theorem R7.start (w:World)(C:List Nat):R7 w.heap.size ((w.alloc (.cells #[] 29)).alloc (.cells #[] 4)) (.slice (some ⟨w.heap.size,0,none⟩) 0 0) (.slice (some ⟨w.heap.size+1,0,none⟩) 0 0) C 0:=by refine⟨(yW w #[] 0 (xW _) (by decide) (by simp)).alloc _,?_,λq hq e=>?_⟩;{have h:=yW (base:=w.heap.size) (e:=4) (size:=1) (w.alloc (.cells #[] 29)) #[] 0 (by simp) (by decide) (by simp);simp only[xZ]at h;exact h};{have e1:w.heap.size=q:=yY hq;have e2:w.heap.size+1=q:=yY e;omega}
theorem ybg {R:Nat->Prop}{C:List Nat}{V:List PL}(B:BookC V C)(nv:Value)(w:World)(h:NodeL R encN w nv V)(hp:0<V.length)(h9:V.length<=1000)(hc:∀x,x<V.length->CanC (C.getD x 0)) (T P:Int) (g:Bool) (hT:T=(valD (C.getD (V.length-1) 0)).1) (hP:P=((valD (C.getD (V.length-1) 0)).2:Int)) (hg:g=valB (C.getD (V.length-1) 0)) : Calls Tryz.prog 143 #[.agg #[nv]] w λe w'=>e=.returned (.tuple #[.agg #[.int .i64 T,.int .i64 P],.bool g])/\Fr NoM w w':=by(obtain⟨w1,hw1⟩:=eX ((w.alloc (.cells #[nv] 26)).alloc (.cells #[.int .i64 0,.int .i64 0] 29));have f1:Fr NoM w w1:=by rw[hw1];exact((nW w).alloc _).alloc _);(have e0:w1.heap[w.heap.size]?=some (.cells #[nv] 26 (0,0)):=by rw[hw1];exact((nW _).alloc _).heap (xJ w _) id);have e1:w1.heap[w.heap.size+1]?=some (.cells #[.int .i64 0,.int .i64 0] 29 (0,0)):=by{have h:=xJ (w.alloc (.cells #[nv] 26)) (.cells #[.int .i64 0,.int .i64 0] 29);rw[xZ]at h;rw[hw1];exact h};(obtain⟨w2,hw2⟩:=eX ((w1.alloc (.cells #[] 29)).alloc (.cells #[] 4));have f2:Fr NoM w1 w2:=by rw[hw2];exact((nW w1).alloc _).alloc _);have HR:=Hh (show R7 w1.heap.size w2 (.slice (some ⟨w1.heap.size,0,none⟩) 0 0) (.slice (some ⟨w1.heap.size+1,0,none⟩) 0 0) C 0 from by rw[hw2];exact R7.start w1 C);have F2:=Hh f2;have HK:=Hh (λW (f:Fr NoM w1 W)=>show W.cell? ⟨w.heap.size,0,none⟩=some nv from by{rw[xX W _ 0 _ _ _ (f.heap e0 id)];rfl});have HRs:=Hh (λW (f:Fr NoM w1 W)=>show W.cell? ⟨w.heap.size+1,0,none⟩=some (.int .i64 0)/\W.cell? ⟨w.heap.size+1,1,none⟩=some (.int .i64 0)/\W.frozen? ⟨w.heap.size+1,0,none⟩=false/\W.frozen? ⟨w.heap.size+1,1,none⟩=false from by{have h1:=f.heap e1 id;exact⟨by rw[xX W _ 0 _ _ _ h1];rfl,by rw[xX W _ 1 _ _ _ h1];rfl,by simp[World.frozen?,h1],by simp[World.frozen?,h1]⟩});have HF:=Hh (λ(W:World) (y1 y2:Int) (f:Fr NoM w1 W)=>(((f1.trans f (λ_ _ q=>q)).setCell ⟨w.heap.size+1,0,none⟩ (.int .i64 y1) (λh=>by have h:w.heap.size+1<w.heap.size:=h;omega)).setCell ⟨w.heap.size+1,1,none⟩ (.int .i64 y2) (λh=>by have h:w.heap.size+1<w.heap.size:=h;omega):Fr NoM w ((W.setCell ⟨w.heap.size+1,0,none⟩ (.int .i64 y1)).setCell ⟨w.heap.size+1,1,none⟩ (.int .i64 y2))));obtain⟨na,nc,rfl,_,_,hcell⟩:=id h;have HN:=Hh (λ(k:Nat) (hk:k<V.length)=>show ∃b off lv rv,na=some ⟨b,off,none⟩/\∀W,Fr NoM w1 W->W.cell? ⟨b,off+k*2,none⟩=some lv/\W.cell? ⟨b,off+k*2+1,none⟩=some rv/\Nats W lv (za2 V k).1/\Nats W rv (za2 V k).2 from by{obtain⟨b,off,lv,rv,ha,_,c1,c2,s1,s2,_,_⟩:=hcell k _ (za7 hk);refine⟨b,off,lv,rv,ha,λW f=>?_⟩;have f':=f1.trans f (λ_ _ q=>q);exact⟨f'.cell c1 id,f'.cell c2 id,SliceOf.fr0 s1 f',SliceOf.fr0 s2 f'⟩});have HLt:=Hh (show w.heap.size+1<w1.heap.size from(yZ.1 e1).1);have HB:=Hh B;have HC:=Hh hc;have HV:=Hh (And.intro hT (And.intro hP hg));have H9:=Hh h9;have Hp:=Hh hp;clear h hcell f1 e0 e1 f2 B hc hT hP hg;obtain⟨n,hn⟩:=eX V.length;rw[<-hn]at hw1 HK HN HC HV H9 Hp ⊢;have Hn:=Hh hn;clear hn;go_enter Tryz.func143,Tryz.ntmps143;go_upto_region 1 with fail;rw[<-hw1];clear hw1;go_upto_region 2 with fail;rw[<-hw2];clear hw2;go_wp2_with fail;go_loopw [4,5,6] (λv4 v5 v6 wr=>∃(dv bv:Value) (k:Nat),dv=v4/\bv=v5/\v6=.int .i64 (k:Int)/\k<=n/\R7 w1.heap.size wr dv bv C k/\Fr NoM w1 wr) (λ_ _ v6 _=>n-(intOf v6).toNat);(case atStart=>exact⟨_,_,0,rfl,rfl,rfl,yK _,HR.out,F2.out⟩);case round =>(obtain⟨dv,bv,k,rfl,rfl,rfl,hk,hr,hf⟩:=hrel;have k0:=HK.out wr hf;by_cases hlt:k<n;{obtain⟨b1,o1,lv,rv,ha1,hcc⟩:=HN.out k hlt;(obtain⟨c1,c2,n1,n2⟩:=hcc wr hf;have ix:=zba na n nc k b1 o1 hlt ha1;obtain⟨T1,hT1⟩:=eX ((valD (C.getD k 0)).1);obtain⟨P1,hP1⟩:=eX (((valD (C.getD k 0)).2:Int));obtain⟨g1,hg1⟩:=eX (valB (C.getD k 0));have HNd:=Hh (zv6 HB.out k k (by have:=Hn.out;omega) (xW _) (by have:=H9.out;omega) (HC.out k hlt) lv rv dv bv wr n1 n2 hr.pairs hr.bools T1 P1 g1 hT1 hP1 hg1);have HVs:=Hh (And.intro hT1 (And.intro hP1 hg1));have aL:(k:Int)<(n:Int):=by omega);(have hn9:n<=1000:=H9.out;have HRr:=Hh hr;have HFr:=Hh hf;have HKl:=Hh hlt;clear hr hf hlt hT1 hP1 hg1 hcc n1 n2 hk ha1;go_wp2_with fail;(with_reducible refine HNd.out.mono ?_);rintro e w5 ⟨rfl,f5⟩;obtain⟨W6,hW6⟩:=eX (w5.alloc (.cells #[.int .i64 T1,.int .i64 P1] 29));have f6:Fr NoM wr W6:=f5.trans (show Fr NoM w5 W6 by rw[hW6];exact(nW w5).alloc _) (λ_ _ q=>q);have e6:W6.heap[w5.heap.size]?=some (.cells #[.int .i64 T1,.int .i64 P1] 29 (0,0)):=by rw[hW6];exact xJ w5 _);(have q0:W6.cell? ⟨w5.heap.size,0,none⟩=some (.int .i64 T1):=by rw[xX W6 _ 0 _ _ _ e6];rfl);(have q1:W6.cell? ⟨w5.heap.size,1,none⟩=some (.int .i64 P1):=by rw[xX W6 _ 1 _ _ _ e6];rfl);have F6:=Hh f6;clear f5 f6 e6 k0 c1 c2;go_upto_region 6 with fail;rw[<-hW6];clear hW6;have R6:=Hh (HRr.out.fr0 F6.out);have HSz:=Hh (show w1.heap.size<=W6.heap.size from by have h1:=F6.out.size;have h2:=HFr.out.size;omega);have HBd:=Hh (show(k+1)*16<=140737488355328 by have h1:=HKl.out;have h2:=H9.out;omega);have HBb:=Hh (show(k+1)*1<=140737488355328 by have h1:=HKl.out;have h2:=H9.out;omega);go_wp2_with (at_builtin;refine zcy rfl _ _ 123 rfl w1.heap.size 29 _ 2 16 Tryz.underlying123 ycs rfl (by decide) dv k (zaz (zh0 C k)) rfl (by exact za1 R6.out.d ((nW W6).alloc _) (λ_ _ q=>q)) W6.heap.size rfl [.int .i64 T1,.int .i64 P1] 29 (xJ W6 _) rfl (by intro u hu;simp at hu;rcases hu with rfl|rfl <;> rfl) HBd.out (by decide) (by have:=HSz.out;simp;omega) ?_);intro dv' w7 h7 f7 s7;have H7:=Hh h7;have F7:=Hh f7;have S7:=Hh s7;have HSz7:=Hh (show w1.heap.size<=w7.heap.size from by have h1:=f7.size;have h2:=HSz.out;simp at h1;omega);have HBv:=Hh (show w7.ownsRow w1.heap.size 4 1 bv k ((arsL C k).map encB)from za1 (za1 R6.out.b ((nW W6).alloc _) (λ_ _ q=>q)) f7 (λq hq e=>R6.out.sep q e hq));clear h7 f7 s7 q0 q1;go_wp2_with (at_builtin;refine zcy rfl _ _ 103 rfl w1.heap.size 4 _ 1 1 Tryz.underlying103 zke rfl (by decide) bv k ((arsL C k).map encB) rfl (by exact za1 HBv.out ((nW w7).alloc _) (λ_ _ q=>q)) w7.heap.size rfl [.bool g1] 4 (xJ w7 _) rfl (by intro u hu;simp at hu;subst hu;rfl) HBb.out (by decide) (by have:=HSz7.out;simp;omega) ?_);intro bv' w9 h9 f9 s9;have H9':=Hh h9;have F9:=Hh f9;have S9:=Hh s9;clear h9 f9 s9;go_wp2;go_roundw;(case rel =>(obtain⟨t1,t2,t3⟩:=HVs.out;have hlt:=HKl.out;have h7:=H7.out;have h9:=H9'.out;rw[t1,t2]at h7;rw[t3]at h9;have hn:=HRr.out.next (F6.out.trans ((nW W6).alloc _) (λ_ _ q=>q)) F7.out h7 (by rw[xZ];exact S7.out) ((nW w7).alloc _) F9.out h9 (by rw[xZ];exact S9.out);have g7:Fr NoM w1 w7:=Fr.own (e:=29) (size:=2) (n:=k) (xs:=zaz (zh0 C k)) (HFr.out.trans (F6.out.trans ((nW W6).alloc _) (λ_ _ q=>q)) (λ_ _ q=>q)) (za1 R6.out.d ((nW W6).alloc _) (λ_ _ q=>q)) F7.out;have g9:Fr NoM w1 w9:=Fr.own (e:=4) (size:=1) (n:=k) (xs:=(arsL C k).map encB) (g7.trans ((nW w7).alloc _) (λ_ _ q=>q)) (za1 HBv.out ((nW w7).alloc _) (λ_ _ q=>q)) F9.out;exact⟨dv',bv',k+1,rfl,rfl,by go_num,by omega,hn,g9⟩));case measure=>have hlt:=HKl.out;simp[intOf];omega};{(have hkn:k=n:=by omega);(subst hkn;have hd:=hr.pairs;have hb:=hr.bools;have hp:=Hp.out;obtain⟨da,dc,rfl,_,_,hdc⟩:=hd;obtain⟨ba,bc,rfl,_,_,hbc⟩:=hb;rw[zok]at *;rw[zuh]at *;obtain⟨b1,o1,ha1,d1,d2⟩:=hdc (k-1) _ (zom C (by omega));obtain⟨b2,o2,ha2,d3⟩:=hbc (k-1) _ (zui C (by omega));have ix1:=ybm da k dc (k-1) b1 o1 (by omega) ha1;have ix2:=zyr ba k bc (k-1) b2 o2 (by omega) ha2;rw[show((k-1:Nat):Int)=(k:Int)-1 from by omega]at ix1 ix2;obtain⟨t1,t2,t3⟩:=HV.out;unfold encB at d3;rw[<-t1]at d1;rw[<-t2]at d2;rw[<-t3]at d3;have aL:¬(k:Int)<(k:Int):=by omega);(obtain⟨r0,r1,r2,r3⟩:=HRs.out wr hf;have HMa:=Hh (HF.out wr T P hf);have HMb:=Hh (λ(q:Nat)=>HF.out (wr.drewN q) T P (hf.trans (zc7 wr q) (λ_ _ q=>q)));have hk9:k<=1000:=H9.out;have hwr:IntKind.i64.wrap ((k:Int)-1)=(k:Int)-1:=(by rw[IntKind.wrap_i64];omega);have hk1:(0:Int)<=(k:Int)-1:=(by omega);have hk2:(k:Int)-1<(k:Int):=(by omega);have hb1:w.heap.size+1<b1:=by have h1:=(hr.d.lt b1 (by rw[ha1];rfl)).1;have h2:=HLt.out;omega);(have hb2:w.heap.size+1<b2:=by have h1:=(hr.b.lt b2 (by rw[ha2];rfl)).1;have h2:=HLt.out;omega);have HS:=Hh (λW (f:Fr (λq=>q=w.heap.size+1) wr W)=>show W.cell? ⟨b1,o1+(k-1)*2,none⟩=some (.int .i64 T)/\W.cell? ⟨b1,o1+(k-1)*2+1,none⟩=some (.int .i64 P)/\W.cell? ⟨b2,o2+(k-1),none⟩=some (.bool g)from ⟨f.cell d1 (λe=>by have e:b1=w.heap.size+1:=e;omega),f.cell d2 (λe=>by have e:b1=w.heap.size+1:=e;omega),f.cell d3 (λe=>by have e:b2=w.heap.size+1:=e;omega)⟩);have h0:Fr (λq=>q=w.heap.size+1) wr wr.drew:=(Fr.refl _ wr).drew;have h1:Fr (λq=>q=w.heap.size+1) wr ((wr.setCell ⟨w.heap.size+1,0,none⟩ (.int .i64 T)).setCell ⟨w.heap.size+1,1,none⟩ (.int .i64 P)):=Fr.setCell (M:=λq=>q=w.heap.size+1) (Fr.setCell (M:=λq=>q=w.heap.size+1) (Fr.refl _ wr) ⟨w.heap.size+1,0,none⟩ _ (λ_=>rfl)) ⟨w.heap.size+1,1,none⟩ _ (λ_=>rfl);have h2:Fr (λq=>q=w.heap.size+1) wr ((wr.setCell ⟨w.heap.size+1,0,none⟩ (.int .i64 T)).setCell ⟨w.heap.size+1,1,none⟩ (.int .i64 P)).drew:=h1.drew;have h3:Fr (λq=>q=w.heap.size+1) wr ((wr.drew.setCell ⟨w.heap.size+1,0,none⟩ (.int .i64 T)).setCell ⟨w.heap.size+1,1,none⟩ (.int .i64 P)):=Fr.setCell (M:=λq=>q=w.heap.size+1) (Fr.setCell (M:=λq=>q=w.heap.size+1) h0 ⟨w.heap.size+1,0,none⟩ _ (λ_=>rfl)) ⟨w.heap.size+1,1,none⟩ _ (λ_=>rfl);clear hr hf hdc hbc ha1 ha2 hk hlt t1 t2 t3 hp hb1 hb2;go_wp2_with fail;go_region_held3 (λ(W:World)=>W.cell? ⟨b1,o1+(k-1)*2,none⟩=some (.int .i64 T)/\W.cell? ⟨b1,o1+(k-1)*2+1,none⟩=some (.int .i64 P)/\W.cell? ⟨b2,o2+(k-1),none⟩=some (.bool g)) (exact HS.out _ (by assumption)) (first|fail);all_goals(go_wp2_with fail;refine yJ (v:=.tuple #[.agg #[.int .i64 T,.int .i64 P],.bool g]) (by simp[results,Tryz.results143,go_sem,r0,r1,r2,r3]) rfl ?_;exact⟨rfl,by first|exact HMa.out|exact HMa.out.drew|exact HMb.out 1|exact HMb.out _⟩)})
