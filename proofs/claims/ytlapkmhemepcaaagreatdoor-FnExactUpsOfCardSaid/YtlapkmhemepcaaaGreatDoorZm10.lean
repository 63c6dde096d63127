import Derived.Test.YtlapkmhemepcaaaGreatDoorZm5
import Derived.Test.YtlapkmhemepcaaaGreatDoorZmw
import Derived.Test.YtlapkmhemepcaaaGreatDoorZmz
/- Lemmas. -/
namespace Go.Proofs.YtlapkmhemepcaaaGreatDoor
set_option linter.unusedVariables false
set_option linter.unusedSimpArgs false
open Go.RowKit
theorem ztu {c l:Nat}(h:isNB c=true)(hl:hasL c l)(hR:∀r,¬hasR c r)(e:valB l=true):redT ((valD l).1*2^(24-(valD l).2)+1*2^(24-0)) 24=valT c:=by
 obtain⟨k,k0,v1,v2⟩:=zs1 h hl hR;rw[(v2.goodD (v2.good.1 e)).2,v1.val];have:=zcf 24 0 k;rw[show(k-1,0).1*2^(24-(k-1,0).2)+1*2^(24-0)=k*2^24 from by simp only[Nat.sub_zero];omega];rw[show 24=0+24 from rfl,this];rfl
theorem ztt {c r:Nat}(h:isNB c=true)(hr:hasR c r)(hL:∀l,¬hasL c l)(e:valB r=true):redT ((valD r).1*2^(24-(valD r).2) + -1*2^(24-0)) 24=valT c:=by
 obtain⟨k,k0,v1,v2⟩:=zo9 h hr hL;rw[(v2.goodD (v2.good.1 e)).2,v1.val];have:=zcf 24 0 k;rw[show(k+1,0).1*2^(24-(k+1,0).2) + -1*2^(24-0)=k*2^24 from by simp only[Nat.sub_zero];omega];rw[show 24=0+24 from rfl,this];rfl
theorem zv6 {c:Nat}(h:isNB c=true){x:Int × Nat}(e:x=valT c):(valB c=true↔GoodD x.1 x.2)/\(valB c=true→(valD c).1=x.1/\(valD c).2=x.2)/\(valB c=false→(valD c).1=0/\(valD c).2=0):=by
 subst e;refine⟨(zrg h).good,fun hb=>?_,fun hb=>?_⟩
 ·unfold valD;rw[if_pos hb];exact⟨rfl,rfl⟩
 ·rw[zdk hb];exact⟨rfl,rfl⟩
theorem zs0 {c l r:Nat}(h:isNB c=true)(hl:hasL c l)(hr:hasR c r)(e1:valB l=true)(e2:valB r=true) :
  ∃(t:Int) (p:Nat),valT c=(t,p)/\t%2≠0/\0<p/\p≤17/\redT (t-1) p=valD l/\redT (t+1) p=valD r/\(valD l).1*2^(24-(valD l).2)<(valD r).1*2^(24-(valD r).2):=by
 obtain⟨t,p,v,hp,ho,vl,vr⟩:=zs2 h hl hr;have g1:=vl.good.1 e1;have g2:=vr.good.1 e2;have h17:=(zv5 hp ho g1 g2).1;have d1:=(vl.goodD g1).2;have d2:=(vr.goodD g2).2;have d1:valD l=redT (t-1) p:=d1;have d2:valD r=redT (t+1) p:=d2;refine⟨t,p,v.val,ho,hp,h17,d1.symm,d2.symm,?_⟩;rw[d1,d2,zer p _ (by omega),zer p _ (by omega)];have:=zdr (24-p);rw[Int.sub_mul,Int.add_mul];omega
theorem zv7 {l r:Nat}(e1:valB l=true)(e2:valB r=true)(h:(valD l).1*2^(24-(valD l).2)<(valD r).1*2^(24-(valD r).2)):geC l r=false:=by
 obtain⟨v1,g1⟩:=zbz e1;obtain⟨v2,g2⟩:=zbz e2;have a1:nr ((valD l).1*2^(24-(valD l).2)) 24=l:=by
  have h1:=zf6 (valD l).1 (valD l).2 (24-(valD l).2);rw[show(valD l).2+(24-(valD l).2)=24 from by have:=g1.2.1;omega]at h1;rw[h1];exact v1.toNr.symm
 have a2:nr ((valD r).1*2^(24-(valD r).2)) 24=r:=by
  have h1:=zf6 (valD r).1 (valD r).2 (24-(valD r).2);rw[show(valD r).2+(24-(valD r).2)=24 from by have:=g2.2.1;omega]at h1;rw[h1];exact v2.toNr.symm
 have h3:=znq (P:=24) h;rw[a1,a2]at h3;exact h3
theorem yap {c:Nat}(h:isNB c=true){t:Int}{p:Nat}(e:valT c=(t,p)):(valB c=true↔GoodD (btwY t p).1 (btwY t p).2)/\(valB c=true→(valD c).1=(btwY t p).1/\((valD c).2:Int)=(btwY t p).2)/\(valB c=false→(valD c).1=0/\((valD c).2:Int)=0):=by
 obtain⟨a,b,d⟩:=zv6 h e.symm;have a:valB c=true↔GoodD t p:=a;unfold btwY;by_cases hp:p≤16
 ·rw[if_pos hp]
  exact⟨a,fun hb=>⟨(b hb).1,by rw[(b hb).2]⟩,fun hb=>⟨(d hb).1,by rw[(d hb).2];rfl⟩⟩
 ·rw[if_neg hp]
  have hb:valB c=false:=by
   cases hb:valB c with
   | false=>rfl
   | true=>have:=(a.1 hb).2.1;omega
  have no:∀ {X:Prop},valB c=true→X:=fun e=>by rw[hb]at e;cases e
  exact⟨⟨fun e=>no e,fun e=>absurd e.2.1.2 (by decide)⟩,fun e=>no e,fun hb=>⟨(d hb).1,by rw[(d hb).2];rfl⟩⟩
theorem ydn (a:Option Addr)(n c k b off:Nat)(hk:k<n)(ha:a=some ⟨b,off,none⟩)(w:World) :
  (Instr.indexAt 123 (.slice a n c) (.int .i64 (k:Int))).run Tryz.prog w=.ok (.pointer (some ⟨b,off+k*2,none⟩)) w:=by
 subst ha;go_simp
theorem ycb (a:Option Addr)(n c k b off:Nat)(hk:k<n)(ha:a=some ⟨b,off,none⟩)(w:World) :
  (Instr.indexAt 103 (.slice a n c) (.int .i64 (k:Int))).run Tryz.prog w=.ok (.pointer (some ⟨b,off+k,none⟩)) w:=by
 subst ha;go_simp
noncomputable def zgq (C:List Nat)(n:Nat):List (Value × Value):=(List.range n).map fun j=>(.int .i64 (valD (C.getD j 0)).1,.int .i64 ((valD (C.getD j 0)).2:Int))
noncomputable def arsL (C:List Nat)(n:Nat):List Bool:=(List.range n).map fun j=>valB (C.getD j 0)
theorem zv2 (C:List Nat)(n:Nat):(zgq C n).length=n:=by unfold zgq;rw[List.length_map,List.length_range]
theorem yau (C:List Nat)(n:Nat):(arsL C n).length=n:=by unfold arsL;rw[List.length_map,List.length_range]
theorem zv3 (C:List Nat){n j:Nat}(h:j<n):(zgq C n)[j]?=some (.int .i64 (valD (C.getD j 0)).1,.int .i64 ((valD (C.getD j 0)).2:Int)):=by unfold zgq;rw[List.getElem?_map,List.getElem?_range h];rfl
theorem yav (C:List Nat){n j:Nat}(h:j<n):(arsL C n)[j]?=some (valB (C.getD j 0)):=by unfold arsL;rw[List.getElem?_map,List.getElem?_range h];rfl
set_option maxRecDepth 4000 in
set_option maxHeartbeats 8000000 in
theorem zue {C:List Nat}{V:List PL}(B:BookC V C)(x n:Nat)(hx:x<V.length)(hxn:x≤n)(hn9:n≤1000)(hc:CanC (C.getD x 0))(lv rv dv bv:Value)(w:World)(hL:Nats w lv (za5 V x).1)(hR:Nats w rv (za5 V x).2)(hD:Pairs w dv (zgq C n))(hB:SliceOf encB w bv (arsL C n))
  (T P:Int) (g:Bool) (hT:T=(valD (C.getD x 0)).1) (hP:P=((valD (C.getD x 0)).2:Int)) (hg:g=valB (C.getD x 0)) :
  Calls Tryz.prog 168 #[.agg #[lv,rv],dv,bv] w fun e w'=>e=.returned (.tuple #[.agg #[.int .i64 T,.int .i64 P],.bool g])/\Fr NoM w w':=by
 obtain⟨c,hcx⟩:∃c,c=C.getD x 0:=⟨_,rfl⟩;have hrows:=znz B hx hc;obtain⟨oL,oR⟩:=zau B hx;obtain⟨o1,o2⟩:=B.opts x _ (za6 hx);rw[←hcx]at hrows oL oR hc hT hP hg;have HV:=Hh (And.intro hT (And.intro hP hg));obtain⟨w1,hw1⟩:∃w1,w1=(w.alloc (.cells #[lv,rv] 102)).alloc (.cells #[.int .i64 0,.int .i64 0] 29):=⟨_,rfl⟩;have f1:Fr NoM w w1:=by rw[hw1];exact((Fr.refl NoM w).alloc _).alloc _
 have e0:w1.heap[w.heap.size]?=some (.cells #[lv,rv] 102 (0,0)):=by rw[hw1];exact((Fr.refl NoM _).alloc _).heap (heap_alloc_new w _) (fun q=>q)
 have e1:w1.heap[w.heap.size+1]?=some (.cells #[.int .i64 0,.int .i64 0] 29 (0,0)):=by
  have h:=heap_alloc_new (w.alloc (.cells #[lv,rv] 102)) (.cells #[.int .i64 0,.int .i64 0] 29);rw[World.size_alloc]at h;rw[hw1];exact h
 have HX:=Hh (fun(W:World) (f:Fr NoM w1 W)=>show W.cell? ⟨w.heap.size,0,none⟩=some lv/\W.cell? ⟨w.heap.size,1,none⟩=some rv from by
  have h0:=f.heap e0 (fun q=>q);exact⟨by rw[cell_of_row W _ 0 _ _ _ h0];rfl,by rw[cell_of_row W _ 1 _ _ _ h0];rfl⟩)
 have HRs:=Hh (fun(W:World) (f:Fr NoM w1 W)=>show W.cell? ⟨w.heap.size+1,0,none⟩=some (.int .i64 0)/\W.cell? ⟨w.heap.size+1,1,none⟩=some (.int .i64 0)/\W.frozen? ⟨w.heap.size+1,0,none⟩=false/\W.frozen? ⟨w.heap.size+1,1,none⟩=false from by
  have h1:=f.heap e1 (fun q=>q);exact⟨by rw[cell_of_row W _ 0 _ _ _ h1];rfl,by rw[cell_of_row W _ 1 _ _ _ h1];rfl,by simp[World.frozen?,h1],by simp[World.frozen?,h1]⟩)
 have HF:=Hh (fun(W:World) (y1 y2:Int) (f:Fr NoM w1 W)=>(((f1.trans f (fun _ _ q=>q)).setCell ⟨w.heap.size+1,0,none⟩ (.int .i64 y1) (fun h=>by have h:w.heap.size+1<w.heap.size:=h;omega)).setCell ⟨w.heap.size+1,1,none⟩ (.int .i64 y2) (fun h=>by have h:w.heap.size+1<w.heap.size:=h;omega):Fr NoM w ((W.setCell ⟨w.heap.size+1,0,none⟩ (.int .i64 y1)).setCell ⟨w.heap.size+1,1,none⟩ (.int .i64 y2))));have HNl:=Hh (fun(W:World) (f:Fr NoM w1 W)=>hL.fr0 (f1.trans f (fun _ _ q=>q)));have HNr:=Hh (fun(W:World) (f:Fr NoM w1 W)=>hR.fr0 (f1.trans f (fun _ _ q=>q)));obtain⟨da,dc,rfl,_,_,hdc⟩:=id hD;obtain⟨ba,bc,rfl,_,_,hbc⟩:=id hB;rw[zv2]at *;rw[yau]at *;have HDat:=Hh (fun(y:Nat) (hy:y<n)=>show ∃b off,(∀W,(Instr.indexAt 123 (.slice da n dc) (.int .i64 (y:Int))).run Tryz.prog W=.ok (.pointer (some ⟨b,off,none⟩)) W)/\∀W,Fr NoM w1 W→W.cell? ⟨b,off,none⟩=some (.int .i64 (valD (C.getD y 0)).1)/\W.cell? ⟨b,off+1,none⟩=some (.int .i64 ((valD (C.getD y 0)).2:Int))from by
  obtain⟨b,off,ha,c1,c2⟩:=hdc y _ (zv3 C hy);exact⟨b,off+y*2,fun W=>ydn da n dc y b off hy ha W,fun W f=>⟨(f1.trans f (fun _ _ q=>q)).cell c1 (fun q=>q),(f1.trans f (fun _ _ q=>q)).cell c2 (fun q=>q)⟩⟩)
 have HBat:=Hh (fun(y:Nat) (hy:y<n)=>show ∃b off,(∀W,(Instr.indexAt 103 (.slice ba n bc) (.int .i64 (y:Int))).run Tryz.prog W=.ok (.pointer (some ⟨b,off,none⟩)) W)/\∀W,Fr NoM w1 W→W.cell? ⟨b,off,none⟩=some (.bool (valB (C.getD y 0)))from by
  obtain⟨b,off,ha,c1⟩:=hbc y _ (yav C hy);exact⟨b,off+y,fun W=>ycb ba n bc y b off hy ha W,fun W f=>(f1.trans f (fun _ _ q=>q)).cell c1 (fun q=>q)⟩)
 obtain⟨L,hLe⟩:∃L,L=(za5 V x).1:=⟨_,rfl⟩;obtain⟨R,hRe⟩:∃R,R=(za5 V x).2:=⟨_,rfl⟩;have hNl:=hL;have hNr:=hR;have HLe:=Hh hLe;have HRe:=Hh hRe;have o1:∀i∈(za5 V x).1,i<x:=o1;have o2:∀i∈(za5 V x).2,i<x:=o2;rw[←hLe]at hrows oL hNl o1;rw[←hRe]at hrows oR hNr o2;rw[←hLe]at HNl;rw[←hRe]at HNr;clear hL hR hD hB hdc hbc f1 e0 e1 hT hP hg;have hl9:L.length≤9223372036854775807:=by obtain⟨a,c,_,h1,h2,_⟩:=hNl;omega
 have hr9:R.length≤9223372036854775807:=by obtain⟨a,c,_,h1,h2,_⟩:=hNr;omega
 by_cases hlong:1<L.length∨1<R.length
 ·have his:isNB c=false:=by
   cases hc:isNB c with
   | false=>rfl
   | true=>have:=hrows.1 hc;omega
  have hv:T=0/\P=0/\g=false:=by
   obtain⟨a,b,d⟩:=HV.out;have h1:=zhu his;rw[zdk h1]at a b;exact⟨a,b,d.trans h1⟩
  obtain⟨rfl,rfl,rfl⟩:=hv;obtain⟨ua,uc,rfl,z⟩:=id hNl;clear z;obtain⟨va,vc,rfl,z⟩:=id hNr;clear z hrows oL oR o1 o2 hc hNl hNr hLe hRe hcx;obtain⟨x0,x1⟩:=HX.out w1 (Fr.refl _ _);obtain⟨r0,r1,r2,r3⟩:=HRs.out w1 (Fr.refl _ _);have HM:=Hh (HF.out w1 0 0 (Fr.refl _ _));by_cases h1:1<L.length
  ·have h1':(1:Int)<(L.length:Int):=by omega
   go_enter Tryz.func168,Tryz.ntmps168;go_upto_region 1 with fail;rw[←hw1];clear hw1;go_wp2_with fail;refine bodyPost_ret (v:=.tuple #[.agg #[.int .i64 0,.int .i64 0],.bool false]) (by simp[results,Tryz.results168,go_sem,r0,r1,r2,r3]) rfl ?_
   exact⟨rfl,HM.out⟩
  ·have h1':¬(1:Int)<(L.length:Int):=by omega
   have h2':(1:Int)<(R.length:Int):=by omega
   go_enter Tryz.func168,Tryz.ntmps168;go_upto_region 1 with fail;rw[←hw1];clear hw1;go_wp2_with fail;refine bodyPost_ret (v:=.tuple #[.agg #[.int .i64 0,.int .i64 0],.bool false]) (by simp[results,Tryz.results168,go_sem,r0,r1,r2,r3]) rfl ?_
   exact⟨rfl,HM.out⟩
 ·have hl1:L.length≤1:=by omega
  have hr1:R.length≤1:=by omega
  clear hl9 hr9 hLe hRe;match L,R,hl1,hr1,oL,oR,o1,o2,hNl,hNr,HNl,HNr,HLe,HRe,hrows with
  | [],[],hl1,hr1,oL,oR,o1,o2,hNl,hNr,HNl,HNr,HLe,HRe,hrows =>
   have his:isNB c=true:=hrows.2 (by simp);have hv:T=0/\P=0/\g=true:=by
    obtain⟨a,b,d⟩:=HV.out;obtain⟨h1,h2⟩:=zrx his (fun l hl=>by obtain⟨y,hy,_⟩:=(oL l).1 hl;simp at hy) (fun l hl=>by obtain⟨y,hy,_⟩:=(oR l).1 hl;simp at hy);rw[h2]at a b;exact⟨a,b,d.trans h1⟩
   obtain⟨rfl,rfl,rfl⟩:=hv;obtain⟨ua,uc,hlv,z⟩:=id hNl;have hlv:lv=.slice ua 0 uc:=hlv;subst hlv;clear z;obtain⟨va,vc,hrv,z⟩:=id hNr;have hrv:rv=.slice va 0 vc:=hrv;subst hrv;clear z;clear hrows oL oR o1 o2 hc hNl hNr hcx hl1 hr1;obtain⟨x0,x1⟩:=HX.out w1 (Fr.refl _ _);go_enter Tryz.func168,Tryz.ntmps168;go_upto_region 1 with fail;rw[←hw1];clear hw1;go_upto_region 4 with fail;obtain⟨W3,hW3⟩:∃W3,W3=w1.alloc (.cells #[.int .i64 1,.int .i64 0] 29):=⟨_,rfl⟩;have g3:Fr NoM w1 W3:=by rw[hW3];exact(Fr.refl NoM w1).alloc _
   have en:W3.heap[w1.heap.size]?=some (.cells #[.int .i64 1,.int .i64 0] 29 (0,0)):=by rw[hW3];exact heap_alloc_new w1 _
   have q0:W3.cell? ⟨w1.heap.size,0,none⟩=some (.int .i64 1):=by rw[cell_of_row W3 _ 0 _ _ _ en];rfl
   have q1:W3.cell? ⟨w1.heap.size,1,none⟩=some (.int .i64 0):=by rw[cell_of_row W3 _ 1 _ _ _ en];rfl
   have G3:=Hh g3;rw[←hW3];clear hW3 g3 en;clear x0 x1;obtain⟨x0,x1⟩:=HX.out W3 G3.out;obtain⟨r0,r1,r2,r3⟩:=HRs.out W3 G3.out;have HM:=Hh (HF.out W3 0 0 G3.out);go_wp2_with fail;refine bodyPost_ret (v:=.tuple #[.agg #[.int .i64 0,.int .i64 0],.bool true]) (by simp[results,Tryz.results168,go_sem,r0,r1,r2,r3]) rfl ?_
   exact⟨rfl,HM.out⟩
  | [a],[],hl1,hr1,oL,oR,o1,o2,hNl,hNr,HNl,HNr,HLe,HRe,hrows =>
   obtain⟨ua,uc,hlv,z⟩:=id hNl;have hlv:lv=.slice ua 1 uc:=hlv;subst hlv;clear z;obtain⟨va,vc,hrv,z⟩:=id hNr;have hrv:rv=.slice va 0 vc:=hrv;subst hrv;clear z;obtain⟨Ta,hTa⟩:∃T,T=(valD (C.getD a 0)).1:=⟨_,rfl⟩;obtain⟨Pa,hPa⟩:∃P,P=(valD (C.getD a 0)).2:=⟨_,rfl⟩;obtain⟨ga,hga⟩:∃g,g=valB (C.getD a 0):=⟨_,rfl⟩;have hgooda:ga=true→GoodD Ta Pa:=fun e=>by rw[hTa,hPa];exact(zbz (by rw[←hga];exact e)).2
   have hlta:=o1 a (by simp);obtain⟨b1a,f1a,ixda,hda⟩:=HDat.out a (by omega);obtain⟨b2a,f2a,ixba,hba⟩:=HBat.out a (by omega);rw[←hTa,←hPa]at hda;rw[←hga]at hba;have HDa:=Hh hda;have HBa:=Hh hba;obtain⟨bxa,oxa,ixea,hea⟩:∃bq oq,(∀W,(Instr.indexAt 100 (.slice ua 1 uc) (.int .i64 0)).run Tryz.prog W=.ok (.pointer (some ⟨bq,oq,none⟩)) W)/\∀W,Fr NoM w1 W→W.cell? ⟨bq,oq,none⟩=some (.int .i64 (a:Int)):=by
    obtain⟨_,_,ee,_,_,hcc⟩:=HNl.out w1 (Fr.refl _ _);cases ee
    obtain⟨bo,oo,ha,c1⟩:=hcc 0 a rfl;exact⟨bo,oo,fun W=>za7 ua 1 uc 0 bo oo (by omega) ha W,fun W f=>f.cell c1 (fun q=>q)⟩
   have HEa:=Hh hea;clear hea;clear hda hba;have hno:∀r,¬hasR c r:=fun r hr=>by obtain⟨y,hy,_⟩:=(oR r).1 hr;simp at hy
   have hha:=(oL _).2 ⟨a,by simp,rfl⟩;have hnum:isNB (C.getD a 0)=true→isNB c=true:=fun e=>hrows.2 ⟨by simp,by simp,fun l hl=>by rw[List.mem_singleton.1 hl];exact e,fun r hr=>by simp at hr,fun l hl r hr=>by simp at hr⟩
   have hoff:ga=false→valB c=false:=fun e=>by
    cases hi:isNB c with
    | false=>exact zhu hi
    | true=>exact(zrz hi hha hno).1 (by rw[←hga];exact e)
   have hon:ga=true→isNB c=true/\redT (Ta*2^(24-Pa)+1*2^(24-0)) 24=valT c:=fun e=>by
    have e1:valB (C.getD a 0)=true:=by rw[←hga];exact e
    have hi:=hnum (zd8 e1);exact⟨hi,by rw[hTa,hPa];exact ztu hi hha hno e1⟩
   have HGood:=Hh hgooda;have HOff:=Hh hoff;have HOn:=Hh hon;have ca:=HEa.out w1 (Fr.refl _ _);have cb:=HBa.out w1 (Fr.refl _ _);clear hrows oL oR o1 o2 hc hNl hNr hcx hl1 hr1 hgooda hoff hon hnum hha hno hlta hTa hPa hga;obtain⟨x0,x1⟩:=HX.out w1 (Fr.refl _ _);cases ga with
   | false =>
    have hv:T=0/\P=0/\g=false:=by
     obtain⟨a,b,d⟩:=HV.out;have h1:valB c=false:=HOff.out rfl;rw[zdk h1]at a b;exact⟨a,b,d.trans h1⟩
    obtain⟨rfl,rfl,rfl⟩:=hv;obtain⟨r0,r1,r2,r3⟩:=HRs.out w1 (Fr.refl _ _);have HM:=Hh (HF.out w1 0 0 (Fr.refl _ _));go_enter Tryz.func168,Tryz.ntmps168;go_upto_region 1 with fail;rw[←hw1];clear hw1;go_wp2_with fail;refine bodyPost_ret (v:=.tuple #[.agg #[.int .i64 0,.int .i64 0],.bool false]) (by simp[results,Tryz.results168,go_sem,r0,r1,r2,r3]) rfl ?_
    exact⟨rfl,HM.out⟩
   | true =>
    obtain⟨his,hval⟩:=HOn.out rfl;obtain⟨⟨vt,vp⟩,hvt⟩:∃y,y=valT c:=⟨_,rfl⟩;rw[←hvt]at hval;obtain⟨i1,i2,i3⟩:=zv6 his hvt;have hgd:=HGood.out rfl;have HAdd:=Hh (fun(W:World)=>show Calls Tryz.prog 188 #[.agg #[.int .i64 Ta,.int .i64 (Pa:Int)],.agg #[.int .i64 1,.int .i64 0]] W fun e w'=>e=.returned (.agg #[.int .i64 vt,.int .i64 (vp:Int)])/\Fr NoM W w' from by
     have h:=zoy Ta 1 Pa 0 W (by have:=hgd.2.1;omega) (by omega) (by have:=hgd.1;omega) (by omega);rw[show(1:Int)*2^(24-0)=1*2^(24-0)from rfl,hval]at h;exact h)
    have HIf:=Hh (fun(W:World)=>znu vt (vp:Int) W g (by rw[HV.out.2.2];exact i1) T P ⟨fun e=>by
     have:=i2 (by rw[←HV.out.2.2];exact e);exact⟨HV.out.1.trans this.1,by rw[HV.out.2.1,this.2]⟩,fun e=>by
     have:=i3 (by rw[←HV.out.2.2];exact e);exact⟨HV.out.1.trans this.1,by rw[HV.out.2.1,this.2];rfl⟩⟩)
    clear i1 i2 i3 his hval hvt hgd;go_enter Tryz.func168,Tryz.ntmps168;go_upto_region 1 with fail;rw[←hw1];clear hw1;go_upto_region 4 with fail;obtain⟨W3,hW3⟩:∃W3,W3=w1.alloc (.cells #[.int .i64 1,.int .i64 0] 29):=⟨_,rfl⟩;have g3:Fr NoM w1 W3:=by rw[hW3];exact(Fr.refl NoM w1).alloc _
    have en:W3.heap[w1.heap.size]?=some (.cells #[.int .i64 1,.int .i64 0] 29 (0,0)):=by rw[hW3];exact heap_alloc_new w1 _
    have q0:W3.cell? ⟨w1.heap.size,0,none⟩=some (.int .i64 1):=by rw[cell_of_row W3 _ 0 _ _ _ en];rfl
    have q1:W3.cell? ⟨w1.heap.size,1,none⟩=some (.int .i64 0):=by rw[cell_of_row W3 _ 1 _ _ _ en];rfl
    have G3:=Hh g3;rw[←hW3];clear hW3 g3 en;clear x0 x1 ca cb;obtain⟨x0,x1⟩:=HX.out W3 G3.out;obtain⟨d0,d1⟩:=HDa.out W3 G3.out;have ca:=HEa.out W3 G3.out;go_upto_region 7 with fail;have GD:Fr NoM w1 W3.drew:=G3.out.drew;go_region_law (first
     | (go_simp;first
      | (go_at_call 188;(with_reducible refine(HAdd.out _).mono ?_);rintro e w5 ⟨rfl,f5⟩;have k5:Fr NoM w1 w5:=Fr.trans GD f5 (fun _ _ q=>q))
      | (go_at_call 195;(with_reducible refine(HIf.out _).mono ?_);rintro e w6 ⟨rfl,f6⟩;have k6:Fr NoM w1 w6:=Fr.trans k5 f6 (fun _ _ q=>q);obtain⟨r0,r1,r2,r3⟩:=HRs.out w6 k6)
      | fail)
     | fail)
    all_goals
     have HM:=Hh (HF.out w6 T P k6);go_wp2_with fail;refine bodyPost_ret (v:=.tuple #[.agg #[.int .i64 T,.int .i64 P],.bool g]) (by simp[results,Tryz.results168,go_sem,r0,r1,r2,r3]) rfl ?_
     exact⟨rfl,HM.out⟩
  | [],[b],hl1,hr1,oL,oR,o1,o2,hNl,hNr,HNl,HNr,HLe,HRe,hrows =>
   obtain⟨ua,uc,hlv,z⟩:=id hNl;have hlv:lv=.slice ua 0 uc:=hlv;subst hlv;clear z;obtain⟨va,vc,hrv,z⟩:=id hNr;have hrv:rv=.slice va 1 vc:=hrv;subst hrv;clear z;obtain⟨Tb,hTb⟩:∃T,T=(valD (C.getD b 0)).1:=⟨_,rfl⟩;obtain⟨Pb,hPb⟩:∃P,P=(valD (C.getD b 0)).2:=⟨_,rfl⟩;obtain⟨gb,hgb⟩:∃g,g=valB (C.getD b 0):=⟨_,rfl⟩;have hgoodb:gb=true→GoodD Tb Pb:=fun e=>by rw[hTb,hPb];exact(zbz (by rw[←hgb];exact e)).2
   have hltb:=o2 b (by simp);obtain⟨b1b,f1b,ixdb,hdb⟩:=HDat.out b (by omega);obtain⟨b2b,f2b,ixbb,hbb⟩:=HBat.out b (by omega);rw[←hTb,←hPb]at hdb;rw[←hgb]at hbb;have HDb:=Hh hdb;have HBb:=Hh hbb;obtain⟨bxb,oxb,ixeb,heb⟩:∃bq oq,(∀W,(Instr.indexAt 100 (.slice va 1 vc) (.int .i64 0)).run Tryz.prog W=.ok (.pointer (some ⟨bq,oq,none⟩)) W)/\∀W,Fr NoM w1 W→W.cell? ⟨bq,oq,none⟩=some (.int .i64 (b:Int)):=by
    obtain⟨_,_,ee,_,_,hcc⟩:=HNr.out w1 (Fr.refl _ _);cases ee
    obtain⟨bo,oo,ha,c1⟩:=hcc 0 b rfl;exact⟨bo,oo,fun W=>za7 va 1 vc 0 bo oo (by omega) ha W,fun W f=>f.cell c1 (fun q=>q)⟩
   have HEb:=Hh heb;clear heb;clear hdb hbb;have hno:∀r,¬hasL c r:=fun r hr=>by obtain⟨y,hy,_⟩:=(oL r).1 hr;simp at hy
   have hha:=(oR _).2 ⟨b,by simp,rfl⟩;have hnum:isNB (C.getD b 0)=true→isNB c=true:=fun e=>hrows.2 ⟨by simp,by simp,fun r hr=>by simp at hr,fun l hl=>by rw[List.mem_singleton.1 hl];exact e,fun l hl r hr=>by simp at hl⟩
   have hoff:gb=false→valB c=false:=fun e=>by
    cases hi:isNB c with
    | false=>exact zhu hi
    | true=>exact(zry hi hha hno).1 (by rw[←hgb];exact e)
   have hon:gb=true→isNB c=true/\redT (Tb*2^(24-Pb) + -1*2^(24-0)) 24=valT c:=fun e=>by
    have e1:valB (C.getD b 0)=true:=by rw[←hgb];exact e
    have hi:=hnum (zd8 e1);exact⟨hi,by rw[hTb,hPb];exact ztt hi hha hno e1⟩
   have HGood:=Hh hgoodb;have HOff:=Hh hoff;have HOn:=Hh hon;have ca:=HEb.out w1 (Fr.refl _ _);have cb:=HBb.out w1 (Fr.refl _ _);clear hrows oL oR o1 o2 hc hNl hNr hcx hl1 hr1 hgoodb hoff hon hnum hha hno hltb hTb hPb hgb;obtain⟨x0,x1⟩:=HX.out w1 (Fr.refl _ _);cases gb with
   | false =>
    have hv:T=0/\P=0/\g=false:=by
     obtain⟨a,b,d⟩:=HV.out;have h1:valB c=false:=HOff.out rfl;rw[zdk h1]at a b;exact⟨a,b,d.trans h1⟩
    obtain⟨rfl,rfl,rfl⟩:=hv;obtain⟨r0,r1,r2,r3⟩:=HRs.out w1 (Fr.refl _ _);have HM:=Hh (HF.out w1 0 0 (Fr.refl _ _));go_enter Tryz.func168,Tryz.ntmps168;go_upto_region 1 with fail;rw[←hw1];clear hw1;go_wp2_with fail;refine bodyPost_ret (v:=.tuple #[.agg #[.int .i64 0,.int .i64 0],.bool false]) (by simp[results,Tryz.results168,go_sem,r0,r1,r2,r3]) rfl ?_
    exact⟨rfl,HM.out⟩
   | true =>
    obtain⟨his,hval⟩:=HOn.out rfl;obtain⟨⟨vt,vp⟩,hvt⟩:∃y,y=valT c:=⟨_,rfl⟩;rw[←hvt]at hval;obtain⟨i1,i2,i3⟩:=zv6 his hvt;have hgd:=HGood.out rfl;have HAdd:=Hh (fun(W:World)=>show Calls Tryz.prog 188 #[.agg #[.int .i64 Tb,.int .i64 (Pb:Int)],.agg #[.int .i64 (-1),.int .i64 0]] W fun e w'=>e=.returned (.agg #[.int .i64 vt,.int .i64 (vp:Int)])/\Fr NoM W w' from by
     have h:=zoy Tb (-1) Pb 0 W (by have:=hgd.2.1;omega) (by omega) (by have:=hgd.1;omega) (by omega);rw[show((-1):Int)*2^(24-0)=-1*2^(24-0)from rfl,hval]at h;exact h)
    have HIf:=Hh (fun(W:World)=>znu vt (vp:Int) W g (by rw[HV.out.2.2];exact i1) T P ⟨fun e=>by
     have:=i2 (by rw[←HV.out.2.2];exact e);exact⟨HV.out.1.trans this.1,by rw[HV.out.2.1,this.2]⟩,fun e=>by
     have:=i3 (by rw[←HV.out.2.2];exact e);exact⟨HV.out.1.trans this.1,by rw[HV.out.2.1,this.2];rfl⟩⟩)
    clear i1 i2 i3 his hval hvt hgd;go_enter Tryz.func168,Tryz.ntmps168;go_upto_region 1 with fail;rw[←hw1];clear hw1;go_upto_region 4 with fail;obtain⟨W3,hW3⟩:∃W3,W3=w1.alloc (.cells #[.int .i64 1,.int .i64 0] 29):=⟨_,rfl⟩;have g3:Fr NoM w1 W3:=by rw[hW3];exact(Fr.refl NoM w1).alloc _
    have en:W3.heap[w1.heap.size]?=some (.cells #[.int .i64 1,.int .i64 0] 29 (0,0)):=by rw[hW3];exact heap_alloc_new w1 _
    have q0:W3.cell? ⟨w1.heap.size,0,none⟩=some (.int .i64 1):=by rw[cell_of_row W3 _ 0 _ _ _ en];rfl
    have q1:W3.cell? ⟨w1.heap.size,1,none⟩=some (.int .i64 0):=by rw[cell_of_row W3 _ 1 _ _ _ en];rfl
    have G3:=Hh g3;rw[←hW3];clear hW3 g3 en;clear x0 x1 ca cb;obtain⟨x0,x1⟩:=HX.out W3 G3.out;obtain⟨d0,d1⟩:=HDb.out W3 G3.out;have ca:=HEb.out W3 G3.out;have HNg:=Hh (fun(W:World)=>show Calls Tryz.prog 189 #[.agg #[.int .i64 1,.int .i64 0]] W fun e w'=>e=.returned (.agg #[.int .i64 (-1),.int .i64 0])/\Fr NoM W w' from zfv 1 0 W (by omega));go_upto_region 9 with fail;have GD:Fr NoM w1 W3.drew:=G3.out.drew;go_region_law (first
     | (go_simp;first
      | (go_at_call 189;(with_reducible refine(HNg.out _).mono ?_);rintro e wn ⟨rfl,fn⟩;have kn:Fr NoM w1 wn:=Fr.trans (by assumption) fn (fun _ _ q=>q);obtain⟨y0,y1⟩:=HX.out wn kn;obtain⟨e0,e1⟩:=HDb.out wn kn;have cc:=HEb.out wn kn)
      | (go_at_call 188;(with_reducible refine(HAdd.out _).mono ?_);rintro e w5 ⟨rfl,f5⟩;have k5:Fr NoM w1 w5:=Fr.trans kn f5 (fun _ _ q=>q))
      | (go_at_call 195;(with_reducible refine(HIf.out _).mono ?_);rintro e w6 ⟨rfl,f6⟩;have k6:Fr NoM w1 w6:=Fr.trans k5 f6 (fun _ _ q=>q);obtain⟨r0,r1,r2,r3⟩:=HRs.out w6 k6)
      | fail)
     | fail)
    all_goals
     have HM:=Hh (HF.out w6 T P k6);go_wp2_with fail;refine bodyPost_ret (v:=.tuple #[.agg #[.int .i64 T,.int .i64 P],.bool g]) (by simp[results,Tryz.results168,go_sem,r0,r1,r2,r3]) rfl ?_
     exact⟨rfl,HM.out⟩
  | [a],[b],hl1,hr1,oL,oR,o1,o2,hNl,hNr,HNl,HNr,HLe,HRe,hrows =>
   obtain⟨ua,uc,hlv,z⟩:=id hNl;have hlv:lv=.slice ua 1 uc:=hlv;subst hlv;clear z;obtain⟨va,vc,hrv,z⟩:=id hNr;have hrv:rv=.slice va 1 vc:=hrv;subst hrv;clear z;obtain⟨Ta,hTa⟩:∃T,T=(valD (C.getD a 0)).1:=⟨_,rfl⟩;obtain⟨Pa,hPa⟩:∃P,P=(valD (C.getD a 0)).2:=⟨_,rfl⟩;obtain⟨ga,hga⟩:∃g,g=valB (C.getD a 0):=⟨_,rfl⟩;have hgooda:ga=true→GoodD Ta Pa:=fun e=>by rw[hTa,hPa];exact(zbz (by rw[←hga];exact e)).2
   have hlta:=o1 a (by simp);obtain⟨b1a,f1a,ixda,hda⟩:=HDat.out a (by omega);obtain⟨b2a,f2a,ixba,hba⟩:=HBat.out a (by omega);rw[←hTa,←hPa]at hda;rw[←hga]at hba;have HDa:=Hh hda;have HBa:=Hh hba;obtain⟨bxa,oxa,ixea,hea⟩:∃bq oq,(∀W,(Instr.indexAt 100 (.slice ua 1 uc) (.int .i64 0)).run Tryz.prog W=.ok (.pointer (some ⟨bq,oq,none⟩)) W)/\∀W,Fr NoM w1 W→W.cell? ⟨bq,oq,none⟩=some (.int .i64 (a:Int)):=by
    obtain⟨_,_,ee,_,_,hcc⟩:=HNl.out w1 (Fr.refl _ _);cases ee
    obtain⟨bo,oo,ha,c1⟩:=hcc 0 a rfl;exact⟨bo,oo,fun W=>za7 ua 1 uc 0 bo oo (by omega) ha W,fun W f=>f.cell c1 (fun q=>q)⟩
   have HEa:=Hh hea;clear hea;clear hda hba;obtain⟨Tb,hTb⟩:∃T,T=(valD (C.getD b 0)).1:=⟨_,rfl⟩;obtain⟨Pb,hPb⟩:∃P,P=(valD (C.getD b 0)).2:=⟨_,rfl⟩;obtain⟨gb,hgb⟩:∃g,g=valB (C.getD b 0):=⟨_,rfl⟩;have hgoodb:gb=true→GoodD Tb Pb:=fun e=>by rw[hTb,hPb];exact(zbz (by rw[←hgb];exact e)).2
   have hltb:=o2 b (by simp);obtain⟨b1b,f1b,ixdb,hdb⟩:=HDat.out b (by omega);obtain⟨b2b,f2b,ixbb,hbb⟩:=HBat.out b (by omega);rw[←hTb,←hPb]at hdb;rw[←hgb]at hbb;have HDb:=Hh hdb;have HBb:=Hh hbb;obtain⟨bxb,oxb,ixeb,heb⟩:∃bq oq,(∀W,(Instr.indexAt 100 (.slice va 1 vc) (.int .i64 0)).run Tryz.prog W=.ok (.pointer (some ⟨bq,oq,none⟩)) W)/\∀W,Fr NoM w1 W→W.cell? ⟨bq,oq,none⟩=some (.int .i64 (b:Int)):=by
    obtain⟨_,_,ee,_,_,hcc⟩:=HNr.out w1 (Fr.refl _ _);cases ee
    obtain⟨bo,oo,ha,c1⟩:=hcc 0 b rfl;exact⟨bo,oo,fun W=>za7 va 1 vc 0 bo oo (by omega) ha W,fun W f=>f.cell c1 (fun q=>q)⟩
   have HEb:=Hh heb;clear heb;clear hdb hbb;have hha:=(oL _).2 ⟨a,by simp,rfl⟩;have hhb:=(oR _).2 ⟨b,by simp,rfl⟩;have hoff:ga=false∨gb=false→valB c=false:=fun e=>by
    cases hi:isNB c with
    | false=>exact zhu hi
    | true=>exact(zkd hi hha hhb).1 (by rw[←hga,←hgb];exact e)
   have hon:ga=true→gb=true→(Ta*2^(24-Pa)<Tb*2^(24-Pb)→isNB c=true)/\(¬Ta*2^(24-Pa)<Tb*2^(24-Pb)→valB c=false)/\(isNB c=true→∃(t:Int) (p:Nat),valT c=(t,p)/\t%2≠0/\0<p/\p≤17/\redT (t-1) p=(Ta,Pa)/\redT (t+1) p=(Tb,Pb)):=fun e1 e2=>by
    have e1:valB (C.getD a 0)=true:=by rw[←hga];exact e1
    have e2:valB (C.getD b 0)=true:=by rw[←hgb];exact e2
    rw[hTa,hPa,hTb,hPb];refine⟨fun hlt=>hrows.2 ⟨by simp,by simp,fun l hl=>by rw[List.mem_singleton.1 hl];exact zd8 e1,fun r hr=>by rw[List.mem_singleton.1 hr];exact zd8 e2,fun l hl r hr=>by
     rw[List.mem_singleton.1 hl,List.mem_singleton.1 hr];exact zv7 e1 e2 hlt⟩,fun hlt=>?_,fun hi=>?_⟩
    ·cases hi:isNB c with
     | false=>exact zhu hi
     | true =>
      obtain⟨_,_,_,_,_,_,_,_,h⟩:=zs0 hi hha hhb e1 e2;exact absurd h hlt
    ·obtain⟨t,p,h1,h2,h3,h4,h5,h6,_⟩:=zs0 hi hha hhb e1 e2
     exact⟨t,p,h1,h2,h3,h4,h5,h6⟩
   have HGa:=Hh hgooda;have HGb:=Hh hgoodb;have HOff:=Hh hoff;have HOn:=Hh hon;have ca:=HEa.out w1 (Fr.refl _ _);have ca2:=HBa.out w1 (Fr.refl _ _);have cb:=HEb.out w1 (Fr.refl _ _);have cb2:=HBb.out w1 (Fr.refl _ _);clear hrows oL oR o1 o2 hc hNl hNr hcx hl1 hr1 hgooda hgoodb hoff hon hha hhb hlta hTa hPa hga hltb hTb hPb hgb;obtain⟨x0,x1⟩:=HX.out w1 (Fr.refl _ _);cases ga with
   | false =>
    have hv:T=0/\P=0/\g=false:=by
     obtain⟨a,b,d⟩:=HV.out;have h1:valB c=false:=HOff.out (.inl rfl);rw[zdk h1]at a b;exact⟨a,b,d.trans h1⟩
    obtain⟨rfl,rfl,rfl⟩:=hv;obtain⟨r0,r1,r2,r3⟩:=HRs.out w1 (Fr.refl _ _);have HM:=Hh (HF.out w1 0 0 (Fr.refl _ _));go_enter Tryz.func168,Tryz.ntmps168;go_upto_region 1 with fail;rw[←hw1];clear hw1;go_wp2_with fail;refine bodyPost_ret (v:=.tuple #[.agg #[.int .i64 0,.int .i64 0],.bool false]) (by simp[results,Tryz.results168,go_sem,r0,r1,r2,r3]) rfl ?_
    exact⟨rfl,HM.out⟩
   | true =>
    cases gb with
    | false =>
     have hv:T=0/\P=0/\g=false:=by
      obtain⟨a,b,d⟩:=HV.out;have h1:valB c=false:=HOff.out (.inr rfl);rw[zdk h1]at a b;exact⟨a,b,d.trans h1⟩
     obtain⟨rfl,rfl,rfl⟩:=hv;obtain⟨r0,r1,r2,r3⟩:=HRs.out w1 (Fr.refl _ _);have HM:=Hh (HF.out w1 0 0 (Fr.refl _ _));go_enter Tryz.func168,Tryz.ntmps168;go_upto_region 1 with fail;rw[←hw1];clear hw1;go_wp2_with fail;refine bodyPost_ret (v:=.tuple #[.agg #[.int .i64 0,.int .i64 0],.bool false]) (by simp[results,Tryz.results168,go_sem,r0,r1,r2,r3]) rfl ?_
     exact⟨rfl,HM.out⟩
    | true =>
     go_enter Tryz.func168,Tryz.ntmps168;go_upto_region 1 with fail;rw[←hw1];clear hw1;go_upto_region 4 with fail;obtain⟨W3,hW3⟩:∃W3,W3=w1.alloc (.cells #[.int .i64 1,.int .i64 0] 29):=⟨_,rfl⟩;have g3:Fr NoM w1 W3:=by rw[hW3];exact(Fr.refl NoM w1).alloc _
     have en:W3.heap[w1.heap.size]?=some (.cells #[.int .i64 1,.int .i64 0] 29 (0,0)):=by rw[hW3];exact heap_alloc_new w1 _
     have q0:W3.cell? ⟨w1.heap.size,0,none⟩=some (.int .i64 1):=by rw[cell_of_row W3 _ 0 _ _ _ en];rfl
     have q1:W3.cell? ⟨w1.heap.size,1,none⟩=some (.int .i64 0):=by rw[cell_of_row W3 _ 1 _ _ _ en];rfl
     have G3:=Hh g3;rw[←hW3];clear hW3 g3 en;clear x0 x1 ca cb ca2 cb2 q0 q1;obtain⟨x0,x1⟩:=HX.out W3 G3.out;obtain⟨d0,d1⟩:=HDa.out W3 G3.out;obtain⟨d2,d3⟩:=HDb.out W3 G3.out;have ca:=HEa.out W3 G3.out;have cb:=HEb.out W3 G3.out;have X1:=fun o=>HX.out (W3.alloc o) (G3.out.alloc o)
     have X2:=fun o o2=>HX.out ((W3.alloc o).alloc o2) ((G3.out.alloc o).alloc o2)
     have Y1:=fun o=>HDa.out (W3.alloc o) (G3.out.alloc o)
     have Y2:=fun o o2=>HDa.out ((W3.alloc o).alloc o2) ((G3.out.alloc o).alloc o2)
     have Z1:=fun o=>HDb.out (W3.alloc o) (G3.out.alloc o)
     have Z2:=fun o o2=>HDb.out ((W3.alloc o).alloc o2) ((G3.out.alloc o).alloc o2)
     have ca1:=fun o=>HEa.out (W3.alloc o) (G3.out.alloc o)
     have ca2:=fun o o2=>HEa.out ((W3.alloc o).alloc o2) ((G3.out.alloc o).alloc o2)
     have cb1:=fun o=>HEb.out (W3.alloc o) (G3.out.alloc o)
     have cb2:=fun o o2=>HEb.out ((W3.alloc o).alloc o2) ((G3.out.alloc o).alloc o2)
     have X11:=fun o=>(X1 o).1;have X12:=fun o=>(X1 o).2;have X21:=fun o o2=>(X2 o o2).1;have X22:=fun o o2=>(X2 o o2).2
     have Y11:=fun o=>(Y1 o).1;have Y12:=fun o=>(Y1 o).2;have Y21:=fun o o2=>(Y2 o o2).1;have Y22:=fun o o2=>(Y2 o o2).2
     have Z11:=fun o=>(Z1 o).1;have Z12:=fun o=>(Z1 o).2;have Z21:=fun o o2=>(Z2 o o2).1;have Z22:=fun o o2=>(Z2 o o2).2
     clear X1 X2 Y1 Y2 Z1 Z2;go_upto_region 10 with fail;go_cut [9,10]from 100 to 113 (fun a b wx=>∃(A Bk:Nat),a=.pointer (some ⟨A,0,none⟩)/\b=.pointer (some ⟨Bk,0,none⟩)/\Fr NoM W3 wx/\wx.heap[A]?=some (.cells #[.int .i64 Ta,.int .i64 (Pa:Int)] 29 (0,0))/\wx.heap[Bk]?=some (.cells #[.int .i64 Tb,.int .i64 (Pb:Int)] 29 (0,0)))
     case first =>
      go_region
      ·go_wp2_with fail
       go_meet
       case rel=>exact⟨W3.heap.size,W3.heap.size+1,rfl,rfl,(((Fr.refl NoM W3).alloc _).alloc _).drew,(((Fr.refl NoM _).alloc _).drew).heap (heap_alloc_new W3 _) (fun q=>q),((Fr.refl NoM _).drew).heap (by have h:=heap_alloc_new (W3.alloc (.cells #[.int .i64 Ta,.int .i64 (Pa:Int)] 29)) (.cells #[.int .i64 Tb,.int .i64 (Pb:Int)] 29);rw[World.size_alloc]at h;exact h) (fun q=>q)⟩
      ·go_wp2_with fail
       go_meet
       case rel=>exact⟨W3.heap.size+1,W3.heap.size,rfl,rfl,(((Fr.refl NoM W3).alloc _).alloc _).drew,((Fr.refl NoM _).drew).heap (by have h:=heap_alloc_new (W3.alloc (.cells #[.int .i64 Tb,.int .i64 (Pb:Int)] 29)) (.cells #[.int .i64 Ta,.int .i64 (Pa:Int)] 29);rw[World.size_alloc]at h;exact h) (fun q=>q),(((Fr.refl NoM _).alloc _).drew).heap (heap_alloc_new W3 _) (fun q=>q)⟩
     case rest =>
      obtain⟨A,Bk,rfl,rfl,gd,e1,e2⟩:=hcut;obtain⟨Wd,rfl⟩:∃Wd,Wd=wc:=⟨_,rfl⟩;have HBx:=Hh (fun(W:World) (f:Fr NoM Wd W)=>show W.cell? ⟨A,0,none⟩=some (.int .i64 Ta)/\W.cell? ⟨A,1,none⟩=some (.int .i64 (Pa:Int))/\W.cell? ⟨Bk,0,none⟩=some (.int .i64 Tb)/\W.cell? ⟨Bk,1,none⟩=some (.int .i64 (Pb:Int))from by
       have h0:=f.heap e1 (fun q=>q);have h1:=f.heap e2 (fun q=>q);exact⟨by rw[cell_of_row W _ 0 _ _ _ h0];rfl,by rw[cell_of_row W _ 1 _ _ _ h0];rfl,by rw[cell_of_row W _ 0 _ _ _ h1];rfl,by rw[cell_of_row W _ 1 _ _ _ h1];rfl⟩)
      have KD:=Hh (G3.out.trans gd (fun _ _ q=>q));clear gd e1 e2;clear x0 x1 d0 d1 d2 d3 ca cb X11 X12 X21 X22 Y11 Y12 Y21 Y22 Z11 Z12 Z21 Z22 ca1 ca2 cb1 cb2;obtain⟨k0,k1,k2,k3⟩:=HBx.out Wd (Fr.refl _ _);have HLs:=Hh (fun(W:World)=>zex Ta Tb Pa Pb W (by have:=(HGa.out rfl).2.1;omega) (by have:=(HGb.out rfl).2.1;omega) (by have:=(HGa.out rfl).1;omega) (by have:=(HGb.out rfl).1;omega) _ rfl);obtain⟨o1,o2,o3⟩:=HOn.out rfl rfl;by_cases hlt:Ta*2^(24-Pa)<Tb*2^(24-Pb)
      ·have HLs:=Hh (fun(W:World)=>by have h:=HLs.out W;rw[decide_eq_true hlt]at h;exact h)
       have his:=o1 hlt;obtain⟨t,p,hvt,ho,hp,h17,ha,hb⟩:=o3 his;obtain⟨⟨z1,z2⟩,hz⟩:∃z,z=btwY t p:=⟨_,rfl⟩;obtain⟨i1,i2,i3⟩:=yap his hvt;rw[←hz]at i1 i2;have HBt:=Hh (fun(W:World)=>ycv t Ta Tb p Pa Pb W ho hp h17 ha hb (HGa.out rfl) (HGb.out rfl) z1 z2 hz.symm);have HIf:=Hh (fun(W:World)=>znu z1 z2 W g (by rw[HV.out.2.2];exact i1) T P ⟨fun e=>by
        have:=i2 (by rw[←HV.out.2.2];exact e);exact⟨HV.out.1.trans this.1,HV.out.2.1.trans this.2⟩,fun e=>by
        have:=i3 (by rw[←HV.out.2.2];exact e);exact⟨HV.out.1.trans this.1,HV.out.2.1.trans this.2⟩⟩)
       clear o1 o2 o3 hlt his hvt ho hp h17 ha hb hz i1 i2 i3;go_wp2_with fail;(with_reducible refine(HLs.out _).mono ?_);rintro e w4 ⟨rfl,f4⟩;have F4:=Hh f4;clear f4 k0 k1 k2 k3;obtain⟨k0,k1,k2,k3⟩:=HBx.out w4 F4.out;go_wp2_with fail;(with_reducible refine(HBt.out _).mono ?_);rintro e w5 ⟨rfl,f5⟩;have F5:=Hh (F4.out.trans f5 (fun _ _ q=>q));clear f5 k0 k1 k2 k3;go_wp2_with fail;(with_reducible refine(HIf.out _).mono ?_);rintro e w6 ⟨rfl,f6⟩;have K6:=Hh (KD.out.trans (F5.out.trans f6 (fun _ _ q=>q)) (fun _ _ q=>q));clear f6;obtain⟨r0,r1,r2,r3⟩:=HRs.out w6 K6.out;have HM:=Hh (HF.out w6 T P K6.out);go_wp2_with fail;refine bodyPost_ret (v:=.tuple #[.agg #[.int .i64 T,.int .i64 P],.bool g]) (by simp[results,Tryz.results168,go_sem,r0,r1,r2,r3]) rfl ?_
       exact⟨rfl,HM.out⟩
      ·have HLs:=Hh (fun(W:World)=>by have h:=HLs.out W;rw[decide_eq_false hlt]at h;exact h)
       have hz:=o2 hlt;have hv:T=0/\P=0/\g=false:=by
        obtain⟨a,b,d⟩:=HV.out;have h1:valB c=false:=hz;rw[zdk h1]at a b;exact⟨a,b,d.trans h1⟩
       have HVz:=Hh hv;clear hv hz;clear o1 o2 o3 hlt;go_wp2_with fail;(with_reducible refine(HLs.out _).mono ?_);rintro e w4 ⟨rfl,f4⟩;have K4:=Hh (KD.out.trans f4 (fun _ _ q=>q));clear f4 k0 k1 k2 k3;obtain⟨r0,r1,r2,r3⟩:=HRs.out w4 K4.out;have HM:=Hh (HF.out w4 0 0 K4.out);go_wp2_with fail;refine bodyPost_ret (v:=.tuple #[.agg #[.int .i64 0,.int .i64 0],.bool false]) (by simp[results,Tryz.results168,go_sem,r0,r1,r2,r3]) rfl ?_
       exact⟨by rw[HVz.out.1,HVz.out.2.1,HVz.out.2.2],HM.out⟩
  | _::_::_,_,hl1,_,_,_,_,_,_,_,_,_,_,_,_=>simp at hl1
  | _,_::_::_,_,hr1,_,_,_,_,_,_,_,_,_,_,_=>simp at hr1
theorem zts (C:List Nat)(k:Nat):zgq C (k+1)=zgq C k ++ [(.int .i64 (valD (C.getD k 0)).1,.int .i64 ((valD (C.getD k 0)).2:Int))]:=by unfold zgq;rw[List.range_succ,List.map_append];rfl
theorem zyb (C:List Nat)(k:Nat):arsL C (k+1)=arsL C k ++ [valB (C.getD k 0)]:=by unfold arsL;rw[List.range_succ,List.map_append];rfl
structure R7 (B:Nat) (W:World) (dv bv:Value) (C:List Nat) (k:Nat):Prop where
 d:W.ownsRow B 29 2 dv k (zay (zgq C k))
 b:W.ownsRow B 4 1 bv k ((arsL C k).map encB)
 sep:∀q,dv.ownBlock=some q→bv.ownBlock≠some q
theorem R7.fr0 {B k:Nat}{W W':World}{dv bv:Value}{C:List Nat}(h:R7 B W dv bv C k)(hf:Fr NoM W W'):R7 B W' dv bv C k:=⟨za2 h.d hf (fun _ _ q=>q),za2 h.b hf (fun _ _ q=>q),h.sep⟩
theorem R7.pairs {B k:Nat}{W:World}{dv bv:Value}{C:List Nat}(h:R7 B W dv bv C k):Pairs W dv (zgq C k):=Pairs.of_owns h.d
theorem R7.bools {B k:Nat}{W:World}{dv bv:Value}{C:List Nat}(h:R7 B W dv bv C k):SliceOf encB W bv (arsL C k):=SliceOf.of_owns h.b rfl
theorem R7.next {B k:Nat}{W W6 W7 W9:World}{dv bv dv' bv':Value}{C:List Nat}(h:R7 B W dv bv C k)(f6:Fr NoM W W6)(f7:Fr (Own1 dv) W6 W7)(h7:W7.ownsRow B 29 2 dv' (k+1) (zay (zgq C k) ++ [.int .i64 (valD (C.getD k 0)).1,.int .i64 ((valD (C.getD k 0)).2:Int)]))
  (s7:dv'.ownBlock=dv.ownBlock∨∃b,dv'.ownBlock=some b/\W6.heap.size≤b) {W8:World}(f8:Fr NoM W7 W8) (f9:Fr (Own1 bv) W8 W9) (h9:W9.ownsRow B 4 1 bv' (k+1) ((arsL C k).map encB ++ [.bool (valB (C.getD k 0))]))
  (s9:bv'.ownBlock=bv.ownBlock∨∃b,bv'.ownBlock=some b/\W8.heap.size≤b):R7 B W9 dv' bv' C (k+1):=by
 have k1:∀q,dv'.ownBlock=some q→bv.ownBlock≠some q:=fun q hq e=>by
  rcases s7 with s|⟨b,s,hb⟩
  ·exact h.sep q (by rw[←s];exact hq) e
  ·rw[hq]at s;cases s
   have:=(h.b.lt q e).2;have:=f6.size;omega
 refine⟨?_,?_,fun q hq e=>?_⟩
 ·rw[zts]
  have e:zay (zgq C k ++ [((.int .i64 (valD (C.getD k 0)).1:Value),(.int .i64 ((valD (C.getD k 0)).2:Int):Value))])=zay (zgq C k) ++ [.int .i64 (valD (C.getD k 0)).1,.int .i64 ((valD (C.getD k 0)).2:Int)]:=by simp[zay]
  rw[e];exact za2 (za2 h7 f8 (fun _ _ q=>q)) f9 (fun q hq e=>k1 q hq e)
 ·rw[zyb,List.map_append]
  exact h9
 ·rcases s9 with s|⟨b,s,hb⟩
  ·exact k1 q hq (by rw[←s];exact e)
  ·rw[e]at s;cases s
   have:=(h7.lt q hq).2;have:=f8.size;omega
end Go.Proofs.YtlapkmhemepcaaaGreatDoor
