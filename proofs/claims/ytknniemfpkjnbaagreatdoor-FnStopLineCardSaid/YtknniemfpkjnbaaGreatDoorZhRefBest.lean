import Derived.Test.YtknniemfpkjnbaaGreatDoorZhStopsP
import Derived.Test.YtknniemfpkjnbaaGreatDoorZhRefOf7
/- What the claim of FnStopLineCard needs of: EndsP RefBest. -/
namespace Go.Proofs.YtknniemfpkjnbaaGreatDoor
set_option linter.unusedVariables false
set_option linter.unusedSimpArgs false
open Go.RowKit
set_option maxRecDepth 8000 in
set_option maxHeartbeats 16000000 in
theorem zov {R:Nat→Prop}(nv:Value)(Fi:List (List Int × List Int))(w:World)(h:NodeL R encI w nv Fi)(g:Bool)(hg:g=true↔zbv Fi)(ok:Bool)(hok:ok=zgt g Fi)(T1 P1 T2 P2:Int)(hT1:T1=(zcu g Fi true).1)(hP1:P1=((zcu g Fi true).2:Int))(hT2:T2=(zcu g Fi false).1)(hP2:P2=((zcu g Fi false).2:Int)) :
  Calls Tryz.prog 48 #[.agg #[nv]] w fun e w'=>e=.returned (.tuple #[.agg #[.int .i64 T1,.int .i64 P1],.agg #[.int .i64 T2,.int .i64 P2],.bool ok])/\Fr NoM w w':=by
 obtain⟨w1,hw1⟩:∃w1,w1=((w.alloc (.cells #[nv] 31)).alloc (.cells #[.int .i64 0,.int .i64 0] 43)).alloc (.cells #[.int .i64 0,.int .i64 0] 43):=⟨_,rfl⟩;have f1:Fr NoM w w1:=by rw[hw1];exact(((Fr.refl NoM w).alloc _).alloc _).alloc _
 have hs1:w1.heap.size=w.heap.size+3:=by rw[hw1];simp
 have e0:w1.heap[w.heap.size]?=some (.cells #[nv] 31 (0,0)):=by rw[hw1];exact(((Fr.refl NoM _).alloc _).alloc _).heap (heap_alloc_new w _) (fun q=>q)
 have e1:w1.heap[w.heap.size+1]?=some (.cells #[.int .i64 0,.int .i64 0] 43 (0,0)):=by
  have h:=heap_alloc_new (w.alloc (.cells #[nv] 31)) (.cells #[.int .i64 0,.int .i64 0] 43);rw[World.size_alloc]at h;rw[hw1];exact((Fr.refl NoM _).alloc _).heap h (fun q=>q)
 have e2:w1.heap[w.heap.size+1+1]?=some (.cells #[.int .i64 0,.int .i64 0] 43 (0,0)):=by
  have h:=heap_alloc_new ((w.alloc (.cells #[nv] 31)).alloc (.cells #[.int .i64 0,.int .i64 0] 43)) (.cells #[.int .i64 0,.int .i64 0] 43);rw[World.size_alloc,World.size_alloc]at h;rw[hw1];exact h
 have HK:=Hh (fun(W:World) (f:Fr NoM w1 W)=>show W.cell? ⟨w.heap.size,0,none⟩=some nv from by
  rw[cell_of_row W _ 0 _ _ _ (f.heap e0 (fun q=>q))];rfl)
 have HRs:=Hh (fun(W:World) (f:Fr NoM w1 W)=>show(W.cell? ⟨w.heap.size+1,0,none⟩=some (.int .i64 0)/\W.cell? ⟨w.heap.size+1,1,none⟩=some (.int .i64 0)/\W.cell? ⟨w.heap.size+1+1,0,none⟩=some (.int .i64 0)/\W.cell? ⟨w.heap.size+1+1,1,none⟩=some (.int .i64 0))/\W.frozen? ⟨w.heap.size+1,0,none⟩=false/\W.frozen? ⟨w.heap.size+1,1,none⟩=false/\W.frozen? ⟨w.heap.size+1+1,0,none⟩=false/\W.frozen? ⟨w.heap.size+1+1,1,none⟩=false from by
  have h1:=f.heap e1 (fun q=>q);have h2:=f.heap e2 (fun q=>q);exact⟨⟨by rw[cell_of_row W _ 0 _ _ _ h1];rfl,by rw[cell_of_row W _ 1 _ _ _ h1];rfl,by rw[cell_of_row W _ 0 _ _ _ h2];rfl,by rw[cell_of_row W _ 1 _ _ _ h2];rfl⟩,by simp[World.frozen?,h1],by simp[World.frozen?,h1],by simp[World.frozen?,h2],by simp[World.frozen?,h2]⟩)
 have HFin:=Hh (fun(W:World) (x1 y1 x2 y2:Int) (f:Fr NoM w1 W)=>(((((f1.trans f (fun _ _ q=>q)).setCell ⟨w.heap.size+1,0,none⟩ (.int .i64 x1) (fun h=>by have h:w.heap.size+1<w.heap.size:=h;omega)).setCell ⟨w.heap.size+1,1,none⟩ (.int .i64 y1) (fun h=>by have h:w.heap.size+1<w.heap.size:=h;omega)).setCell ⟨w.heap.size+1+1,0,none⟩ (.int .i64 x2) (fun h=>by have h:w.heap.size+1+1<w.heap.size:=h;omega)).setCell ⟨w.heap.size+1+1,1,none⟩ (.int .i64 y2) (fun h=>by have h:w.heap.size+1+1<w.heap.size:=h;omega):Fr NoM w ((((W.setCell ⟨w.heap.size+1,0,none⟩ (.int .i64 x1)).setCell ⟨w.heap.size+1,1,none⟩ (.int .i64 y1)).setCell ⟨w.heap.size+1+1,0,none⟩ (.int .i64 x2)).setCell ⟨w.heap.size+1+1,1,none⟩ (.int .i64 y2))));have HV:=Hh (And.intro hT1 (And.intro hP1 (And.intro hT2 hP2)));have HOk:=Hh hok;have HG:=Hh hg;have HS1:=Hh hs1;have HNl:=Hh (fun(W:World) (f:Fr NoM w1 W)=>(h.fr0 (f1.trans f (fun _ _ q=>q)):NodeL R encI W nv Fi));have HSt:=Hh (zk4 nv Fi w1 (h.fr0 f1) g hg ok hok);obtain⟨na,nc,rfl,z⟩:=id h;clear z h f1 hs1 e0 e1 e2 hg hok hT1 hP1 hT2 hP2;have k0:=HK.out w1 (Fr.refl _ _);go_enter Tryz.func48,Tryz.ntmps48;go_wp2_with fail;rw[←hw1];clear hw1;(with_reducible refine HSt.out.mono ?_);rintro e w3 ⟨la,z1,zl,ra,z2,zr,ba,z3,zb,rfl,hrows,hf1,hf2,f3⟩;have F13:=Hh f3;have HRows:=Hh hrows;have HFr1:=Hh hf1;have HFr2:=Hh hf2;have HLow:=Hh (show w.heap.size+3≤w1.heap.size from Nat.le_of_eq HS1.out.symm);clear f3 hrows hf1 hf2 k0;obtain⟨W3,hW3⟩:∃W3,W3=w3.alloc (.cells #[.slice la z1 zl,.slice ra z2 zr,.slice ba z3 zb] 76):=⟨_,rfl⟩;obtain⟨sx,hsx⟩:∃sx,sx=w3.heap.size:=⟨_,rfl⟩;have g3:Fr NoM w3 W3:=by rw[hW3];exact(Fr.refl NoM w3).alloc _
 have e3:W3.heap[sx]?=some (.cells #[.slice la z1 zl,.slice ra z2 zr,.slice ba z3 zb] 76 (0,0)):=by rw[hW3,hsx];exact heap_alloc_new w3 _
 have HSl:=Hh (show w.heap.size+3≤sx by rw[hsx];have h1:=F13.out.size;have h2:=HS1.out;omega);have F1W:=Hh (F13.out.trans g3 (fun _ _ q=>q));have HG3:=Hh g3;have HSx:=Hh (fun(W:World) (f:Fr NoM W3 W)=>show W.cell? ⟨sx,0,none⟩=some (.slice la z1 zl)/\W.cell? ⟨sx,1,none⟩=some (.slice ra z2 zr)from by
  have h1:=f.heap e3 (fun q=>q);exact⟨by rw[cell_of_row W _ 0 _ _ _ h1];rfl,by rw[cell_of_row W _ 1 _ _ _ h1];rfl⟩)
 clear g3 e3;go_upto_region 2 with fail;rw[←hW3,←hsx];clear hW3 hsx;cases ok with
 | false =>
  have hz:T1=0/\P1=0/\T2=0/\P2=0:=by
   obtain⟨v1,v2,v3,v4⟩:=HV.out;unfold zcu at v1 v2 v3 v4;rw[←HOk.out]at v1 v2 v3 v4;exact⟨v1,v2,v3,v4⟩
  obtain⟨rfl,rfl,rfl,rfl⟩:=hz;obtain⟨⟨r0,r1,r2,r3⟩,r4,r5,r6,r7⟩:=HRs.out W3 F1W.out;have HM:=Hh (HFin.out W3 0 0 0 0 F1W.out);go_wp2_with fail;refine bodyPost_ret (v:=.tuple #[.agg #[.int .i64 0,.int .i64 0],.agg #[.int .i64 0,.int .i64 0],.bool false]) (by simp[results,Tryz.results48,go_sem,r0,r1,r2,r3,r4,r5,r6,r7]) rfl ?_
  exact⟨rfl,HM.out⟩
 | true =>
  have hgt:g=true:=by
   have h1:=HOk.out;unfold zgt at h1;cases g with
   | true=>rfl
   | false=>cases h1
  subst hgt;obtain⟨F,rfl⟩:=zer (HG.out.1 rfl);have HGd:=Hh (HG.out.1 rfl);obtain⟨n,hnn⟩:∃n,n=F.length:=⟨_,rfl⟩;have hil:(i2 F).length=n:=by rw[zbc,hnn]
  have Hnn:=Hh hnn;rw[zdr]at HRows;rw[hil]at HK ⊢;clear hil hnn;have hrw:=HRows.out rfl;have hnn:=Hnn.out;obtain⟨p1,p2,p3,p4,_,_⟩:=zaz HGd.out;have hlen:n=z1/\n=z2:=by
   obtain⟨a,c,e1,_⟩:=hrw.1;obtain⟨a',c',e2,_⟩:=hrw.2.1;obtain⟨_,e1,_⟩:=Value.slice.inj e1;obtain⟨_,e2,_⟩:=Value.slice.inj e2;rw[zfp]at e1 e2;exact⟨hnn.trans e1.symm,hnn.trans e2.symm⟩
  obtain⟨rfl,rfl⟩:=hlen;obtain⟨_,_,ee1,_,_,hl⟩:=hrw.1;replace ee1:=(Value.slice.inj ee1).1
  obtain⟨_,_,ee2,_,_,hr⟩:=hrw.2.1;replace ee2:=(Value.slice.inj ee2).1
  have hn1:1≤n:=by omega
  have hn120:n≤120:=by omega
  have hv:sL F (n-1)=(zcu true (i2 F) true)/\sR F (n-1)=(zcu true (i2 F) false):=by
   unfold zcu;rw[←HOk.out,if_pos rfl,if_pos rfl,zdr,zbc,←hnn];exact⟨rfl,rfl⟩
  obtain⟨b1,o1,ha1,d1,d2⟩:=hl (n-1) _ (zi0 _ (by omega));obtain⟨b2,o2,ha2,d3,d4⟩:=hr (n-1) _ (zi0 _ (by omega));have d1:w3.cell? ⟨b1,o1+(n-1)*2,none⟩=some (.int .i64 T1):=by rw[d1,hv.1,HV.out.1]
  have d2:w3.cell? ⟨b1,o1+(n-1)*2+1,none⟩=some (.int .i64 P1):=by rw[d2,hv.1,HV.out.2.1]
  have d3:w3.cell? ⟨b2,o2+(n-1)*2,none⟩=some (.int .i64 T2):=by rw[d3,hv.2,HV.out.2.2.1]
  have d4:w3.cell? ⟨b2,o2+(n-1)*2+1,none⟩=some (.int .i64 P2):=by rw[d4,hv.2,HV.out.2.2.2]
  rw[←ee1]at ha1;rw[←ee2]at ha2;have hb1:w.heap.size+3≤b1:=by have h1:=HFr1.out b1 (by rw[ha1];rfl);have h2:=HLow.out;omega
  have hb2:w.heap.size+3≤b2:=by have h1:=HFr2.out b2 (by rw[ha2];rfl);have h2:=HLow.out;omega
  have ix1:=zh4 la n zl (n-1) b1 o1 (by omega) ha1;have ix2:=zh4 ra n zr (n-1) b2 o2 (by omega) ha2;have hcast:((n-1:Nat):Int)=(n:Int)-1:=by omega
  rw[hcast]at ix1 ix2;have hwr:IntKind.i64.wrap ((n:Int)-1)=(n:Int)-1:=(by rw[IntKind.wrap_i64];omega);have nx:∀ {q:Nat},w.heap.size+3≤q→¬(q=w.heap.size+1∨q=w.heap.size+1+1):=fun h e=>by omega
  have g3:=HG3.out;have HS:=Hh (fun(W:World) (f:Fr (fun q=>q=w.heap.size+1∨q=w.heap.size+1+1) W3 W)=>show W.cell? ⟨sx,0,none⟩=some (.slice la n zl)/\W.cell? ⟨sx,1,none⟩=some (.slice ra n zr)/\(W.cell? ⟨b1,o1+(n-1)*2,none⟩=some (.int .i64 T1)/\W.cell? ⟨b1,o1+(n-1)*2+1,none⟩=some (.int .i64 P1))/\W.cell? ⟨b2,o2+(n-1)*2,none⟩=some (.int .i64 T2)/\W.cell? ⟨b2,o2+(n-1)*2+1,none⟩=some (.int .i64 P2)from by
   obtain⟨h1,h2⟩:=HSx.out W3 (Fr.refl _ _);have hsx:=HSl.out;exact⟨f.cell h1 (nx hsx),f.cell h2 (nx hsx),⟨f.cell (g3.cell d1 (fun q=>q)) (nx hb1),f.cell (g3.cell d2 (fun q=>q)) (nx hb1)⟩,f.cell (g3.cell d3 (fun q=>q)) (nx hb2),f.cell (g3.cell d4 (fun q=>q)) (nx hb2)⟩)
  obtain⟨⟨r0,r1,r2,r3⟩,r4,r5,r6,r7⟩:=HRs.out W3 F1W.out;have HM:=Hh (HFin.out W3.drew T1 P1 T2 P2 (F1W.out.trans ((Fr.refl NoM W3).drew) (fun _ _ q=>q)));have K0:Fr (fun q=>q=w.heap.size+1∨q=w.heap.size+1+1) W3 W3.drew:=(Fr.refl _ W3).drew;have K1:Fr (fun q=>q=w.heap.size+1∨q=w.heap.size+1+1) W3 ((W3.drew.setCell ⟨w.heap.size+1,0,none⟩ (.int .i64 T1)).setCell ⟨w.heap.size+1,1,none⟩ (.int .i64 P1)):=(K0.setCell ⟨w.heap.size+1,0,none⟩ _ (fun _=>.inl rfl)).setCell ⟨w.heap.size+1,1,none⟩ _ (fun _=>.inl rfl);have K2:Fr (fun q=>q=w.heap.size+1∨q=w.heap.size+1+1) W3 ((((W3.drew.setCell ⟨w.heap.size+1,0,none⟩ (.int .i64 T1)).setCell ⟨w.heap.size+1,1,none⟩ (.int .i64 P1)).setCell ⟨w.heap.size+1+1,0,none⟩ (.int .i64 T2)).setCell ⟨w.heap.size+1+1,1,none⟩ (.int .i64 P2)):=(K1.setCell ⟨w.heap.size+1+1,0,none⟩ _ (fun _=>.inr rfl)).setCell ⟨w.heap.size+1+1,1,none⟩ _ (fun _=>.inr rfl);have k0:=HK.out W3 F1W.out;clear hrw hnn p1 p2 p3 p4 hl hr hv d1 d2 d3 d4 ha1 ha2 hb1 hb2 ee1 ee2 hcast nx g3;go_upto_region 5 with fail;go_region_held3 (fun(W:World)=>W.cell? ⟨sx,0,none⟩=some (.slice la n zl)/\W.cell? ⟨sx,1,none⟩=some (.slice ra n zr)/\(W.cell? ⟨b1,o1+(n-1)*2,none⟩=some (.int .i64 T1)/\W.cell? ⟨b1,o1+(n-1)*2+1,none⟩=some (.int .i64 P1))/\W.cell? ⟨b2,o2+(n-1)*2,none⟩=some (.int .i64 T2)/\W.cell? ⟨b2,o2+(n-1)*2+1,none⟩=some (.int .i64 P2))
   (first|exact HS.out _ (by assumption))
   (first|fail)
  all_goals
   go_wp2;refine bodyPost_ret (v:=.tuple #[.agg #[.int .i64 T1,.int .i64 P1],.agg #[.int .i64 T2,.int .i64 P2],.bool true]) (by simp[results,Tryz.results48,go_sem,r0,r1,r2,r3,r4,r5,r6,r7]) rfl ?_
   exact⟨rfl,HM.out⟩
set_option maxRecDepth 4000 in
set_option maxHeartbeats 8000000 in
theorem zn9 {R:Nat→Prop}(nv:Value)(Fi:List (List Int × List Int))(w:World)(h:NodeL R encI w nv Fi)(g:Bool)(hg:g=true↔zbv Fi)(ok:Bool)(hok:ok=zgt g Fi)(T P:Int)(hT:T=(zcu g Fi true).1)(hP:P=((zcu g Fi true).2:Int)) :
  Calls Tryz.prog 20 #[.agg #[nv]] w fun e w'=>e=.returned (.tuple #[.agg #[.int .i64 T,.int .i64 P],.bool ok])/\Fr NoM w w':=by
 obtain⟨w1,hw1⟩:∃w1,w1=(w.alloc (.cells #[nv] 31)).alloc (.cells #[.int .i64 0,.int .i64 0] 43):=⟨_,rfl⟩;have f1:Fr NoM w w1:=by rw[hw1];exact((Fr.refl NoM w).alloc _).alloc _
 have e0:w1.heap[w.heap.size]?=some (.cells #[nv] 31 (0,0)):=by rw[hw1];exact((Fr.refl NoM _).alloc _).heap (heap_alloc_new w _) (fun q=>q)
 have e1:w1.heap[w.heap.size+1]?=some (.cells #[.int .i64 0,.int .i64 0] 43 (0,0)):=by
  have h:=heap_alloc_new (w.alloc (.cells #[nv] 31)) (.cells #[.int .i64 0,.int .i64 0] 43);rw[World.size_alloc]at h;rw[hw1];exact h
 have k0:w1.cell? ⟨w.heap.size,0,none⟩=some nv:=by rw[cell_of_row w1 _ 0 _ _ _ e0];rfl
 have HRs:=Hh (fun(W:World) (f:Fr NoM w1 W)=>show W.cell? ⟨w.heap.size+1,0,none⟩=some (.int .i64 0)/\W.cell? ⟨w.heap.size+1,1,none⟩=some (.int .i64 0)/\W.frozen? ⟨w.heap.size+1,0,none⟩=false/\W.frozen? ⟨w.heap.size+1,1,none⟩=false from by
  have h1:=f.heap e1 (fun q=>q);exact⟨by rw[cell_of_row W _ 0 _ _ _ h1];rfl,by rw[cell_of_row W _ 1 _ _ _ h1];rfl,by simp[World.frozen?,h1],by simp[World.frozen?,h1]⟩)
 have HF:=Hh (fun(W:World) (y1 y2:Int) (f:Fr NoM w1 W)=>(((f1.trans f (fun _ _ q=>q)).setCell ⟨w.heap.size+1,0,none⟩ (.int .i64 y1) (fun h=>by have h:w.heap.size+1<w.heap.size:=h;omega)).setCell ⟨w.heap.size+1,1,none⟩ (.int .i64 y2) (fun h=>by have h:w.heap.size+1<w.heap.size:=h;omega):Fr NoM w ((W.setCell ⟨w.heap.size+1,0,none⟩ (.int .i64 y1)).setCell ⟨w.heap.size+1,1,none⟩ (.int .i64 y2))));obtain⟨X,hX⟩:∃X,X=zcu g Fi false:=⟨_,rfl⟩;have HEn:=Hh (zov nv Fi w1 (h.fr0 f1) g hg ok hok T P X.1 (X.2:Int) hT hP (by rw[hX]) (by rw[hX]));obtain⟨na,nc,rfl,z⟩:=id h;clear z h f1 e0 e1 hg hok hT hP hX;go_enter Tryz.func20,Tryz.ntmps20;go_wp2_with fail;rw[←hw1];clear hw1;(with_reducible refine HEn.out.mono ?_);rintro e w3 ⟨rfl,f3⟩;obtain⟨W3,hW3⟩:∃W3,W3=(w3.alloc (.cells #[.int .i64 T,.int .i64 P] 43)).alloc (.cells #[.int .i64 X.1,.int .i64 (X.2:Int)] 43):=⟨_,rfl⟩;have g3:Fr NoM w1 W3:=f3.trans (show Fr NoM w3 W3 by rw[hW3];exact((Fr.refl NoM w3).alloc _).alloc _) (fun _ _ q=>q);have q0:W3.cell? ⟨w3.heap.size,0,none⟩=some (.int .i64 T)/\W3.cell? ⟨w3.heap.size,1,none⟩=some (.int .i64 P):=by
  have e5:W3.heap[w3.heap.size]?=some (.cells #[.int .i64 T,.int .i64 P] 43 (0,0)):=by rw[hW3];exact((Fr.refl NoM _).alloc _).heap (heap_alloc_new w3 _) (fun q=>q)
  exact⟨by rw[cell_of_row W3 _ 0 _ _ _ e5];rfl,by rw[cell_of_row W3 _ 1 _ _ _ e5];rfl⟩
 obtain⟨q0,q1⟩:=q0;obtain⟨r0,r1,r2,r3⟩:=HRs.out W3 g3;have HM:=Hh (HF.out W3 T P g3);clear f3 g3 k0;go_upto_region 2 with fail;rw[←hW3];clear hW3;go_wp2_with fail;refine bodyPost_ret (v:=.tuple #[.agg #[.int .i64 T,.int .i64 P],.bool ok]) (by simp[results,Tryz.results20,go_sem,r0,r1,r2,r3]) rfl ?_
 exact⟨rfl,HM.out⟩
set_option maxRecDepth 4000 in
set_option maxHeartbeats 8000000 in
theorem zm0 {R:Nat→Prop}(nv:Value)(Fi:List (List Int × List Int))(w:World)(h:NodeL R encI w nv Fi)(g:Bool)(hg:g=true↔zbv Fi)(ok:Bool)(hok:ok=zgt g Fi)(T P:Int)(hT:T=(zcu g Fi false).1)(hP:P=((zcu g Fi false).2:Int)) :
  Calls Tryz.prog 21 #[.agg #[nv]] w fun e w'=>e=.returned (.tuple #[.agg #[.int .i64 T,.int .i64 P],.bool ok])/\Fr NoM w w':=by
 obtain⟨w1,hw1⟩:∃w1,w1=(w.alloc (.cells #[nv] 31)).alloc (.cells #[.int .i64 0,.int .i64 0] 43):=⟨_,rfl⟩;have f1:Fr NoM w w1:=by rw[hw1];exact((Fr.refl NoM w).alloc _).alloc _
 have e0:w1.heap[w.heap.size]?=some (.cells #[nv] 31 (0,0)):=by rw[hw1];exact((Fr.refl NoM _).alloc _).heap (heap_alloc_new w _) (fun q=>q)
 have e1:w1.heap[w.heap.size+1]?=some (.cells #[.int .i64 0,.int .i64 0] 43 (0,0)):=by
  have h:=heap_alloc_new (w.alloc (.cells #[nv] 31)) (.cells #[.int .i64 0,.int .i64 0] 43);rw[World.size_alloc]at h;rw[hw1];exact h
 have k0:w1.cell? ⟨w.heap.size,0,none⟩=some nv:=by rw[cell_of_row w1 _ 0 _ _ _ e0];rfl
 have HRs:=Hh (fun(W:World) (f:Fr NoM w1 W)=>show W.cell? ⟨w.heap.size+1,0,none⟩=some (.int .i64 0)/\W.cell? ⟨w.heap.size+1,1,none⟩=some (.int .i64 0)/\W.frozen? ⟨w.heap.size+1,0,none⟩=false/\W.frozen? ⟨w.heap.size+1,1,none⟩=false from by
  have h1:=f.heap e1 (fun q=>q);exact⟨by rw[cell_of_row W _ 0 _ _ _ h1];rfl,by rw[cell_of_row W _ 1 _ _ _ h1];rfl,by simp[World.frozen?,h1],by simp[World.frozen?,h1]⟩)
 have HF:=Hh (fun(W:World) (y1 y2:Int) (f:Fr NoM w1 W)=>(((f1.trans f (fun _ _ q=>q)).setCell ⟨w.heap.size+1,0,none⟩ (.int .i64 y1) (fun h=>by have h:w.heap.size+1<w.heap.size:=h;omega)).setCell ⟨w.heap.size+1,1,none⟩ (.int .i64 y2) (fun h=>by have h:w.heap.size+1<w.heap.size:=h;omega):Fr NoM w ((W.setCell ⟨w.heap.size+1,0,none⟩ (.int .i64 y1)).setCell ⟨w.heap.size+1,1,none⟩ (.int .i64 y2))));obtain⟨X,hX⟩:∃X,X=zcu g Fi true:=⟨_,rfl⟩;have HEn:=Hh (zov nv Fi w1 (h.fr0 f1) g hg ok hok X.1 (X.2:Int) T P (by rw[hX]) (by rw[hX]) hT hP);obtain⟨na,nc,rfl,z⟩:=id h;clear z h f1 e0 e1 hg hok hT hP hX;go_enter Tryz.func21,Tryz.ntmps21;go_wp2_with fail;rw[←hw1];clear hw1;(with_reducible refine HEn.out.mono ?_);rintro e w3 ⟨rfl,f3⟩;obtain⟨W3,hW3⟩:∃W3,W3=(w3.alloc (.cells #[.int .i64 X.1,.int .i64 (X.2:Int)] 43)).alloc (.cells #[.int .i64 T,.int .i64 P] 43):=⟨_,rfl⟩;have g3:Fr NoM w1 W3:=f3.trans (show Fr NoM w3 W3 by rw[hW3];exact((Fr.refl NoM w3).alloc _).alloc _) (fun _ _ q=>q);have q0:W3.cell? ⟨w3.heap.size+1,0,none⟩=some (.int .i64 T)/\W3.cell? ⟨w3.heap.size+1,1,none⟩=some (.int .i64 P):=by
  have e5:W3.heap[w3.heap.size+1]?=some (.cells #[.int .i64 T,.int .i64 P] 43 (0,0)):=by
   have h:=heap_alloc_new (w3.alloc (.cells #[.int .i64 X.1,.int .i64 (X.2:Int)] 43)) (.cells #[.int .i64 T,.int .i64 P] 43);rw[World.size_alloc]at h;rw[hW3];exact h
  exact⟨by rw[cell_of_row W3 _ 0 _ _ _ e5];rfl,by rw[cell_of_row W3 _ 1 _ _ _ e5];rfl⟩
 obtain⟨q0,q1⟩:=q0;obtain⟨r0,r1,r2,r3⟩:=HRs.out W3 g3;have HM:=Hh (HF.out W3 T P g3);clear f3 g3 k0;go_upto_region 2 with fail;rw[←hW3];clear hW3;go_wp2_with fail;refine bodyPost_ret (v:=.tuple #[.agg #[.int .i64 T,.int .i64 P],.bool ok]) (by simp[results,Tryz.results21,go_sem,r0,r1,r2,r3]) rfl ?_
 exact⟨rfl,HM.out⟩
theorem zt2 {x y:Int × Nat}(hx:x.2≤16)(hy:y.2≤16):znk x y=decide (x.1*2^(24-x.2)<y.1*2^(24-y.2)):=by
 have e:∀d:Int × Nat,d.2≤16→d.1*2^(24-d.2)=d.1*2^(16-d.2)*256:=fun d hd=>by
  rw[show 24-d.2=(16-d.2)+8 from by omega,Int.pow_add,←Int.mul_assoc];rfl
 unfold znk;rw[e x hx,e y hy];congr 1
 apply propext
 omega
def zg9 (gr:Bool)(f:Nat→Int × Nat)(L:List Nat)(x0 k:Nat):Int × Nat:=if k=0 then f x0 else zdh gr ((L.take k).map f)
theorem zmt (gr:Bool)(f:Nat→Int × Nat)(L:List Nat){x0 k x:Nat}(h0:L[0]?=some x0)(h:L[k]?=some x):zg9 gr f L x0 (k+1)=zfq gr (zg9 gr f L x0 k) (f x):=by
 unfold zg9;rw[if_neg (by omega),zi1 gr f L k x h];split
 ·rename_i e;subst e
  rw[h0]at h;cases h
  rw[zug]
 ·rfl
theorem zuq {gr:Bool}{f:Nat→Int × Nat}{L:List Nat}{x0 n:Nat}(h0:L[0]?=some x0)(hg:∀i∈L,i<n)(hf:∀i,i<n→GoodD (f i).1 (f i).2):∀k,k≤L.length→GoodD (zg9 gr f L x0 k).1 (zg9 gr f L x0 k).2:=by
 intro k;induction k with
 | zero=>intro _;unfold zg9;rw[if_pos rfl];exact hf _ (hg _ (List.mem_of_getElem? h0))
 | succ k ih =>
  intro hk;have hx:=List.getElem?_eq_getElem (l:=L) (i:=k) (by omega)
  rw[zmt gr f L h0 hx];unfold zfq;split
  ·exact hf _ (hg _ (List.getElem_mem _))
  ·exact ih (by omega)
set_option maxRecDepth 4000 in
set_option maxHeartbeats 8000000 in
theorem zkn (av lv:Value)(f:Nat→Int × Nat)(n:Nat)(L:List Nat)(gr:Bool)(w:World)(hA:Pairs w av (dyL f n))(hL:Nats w lv L)(hne:L≠[])(hlt:∀i∈L,i<n)(hg:∀i,i<n→GoodD (f i).1 (f i).2)(T P:Int)(hT:T=(zdh gr (L.map f)).1)(hP:P=((zdh gr (L.map f)).2:Int)) :
  Calls Tryz.prog 86 #[av,lv,.bool gr] w fun e w'=>e=.returned (.agg #[.int .i64 T,.int .i64 P])/\Fr NoM w w':=by
 obtain⟨x0,h0⟩:∃x0,L[0]?=some x0:=by
  cases L with
  | nil=>exact absurd rfl hne
  | cons a l=>exact⟨a,rfl⟩
 have hgk:=zuq (gr:=gr) h0 hlt hg;have hnx:=fun(k x:Nat) (h:L[k]?=some x)=>zmt gr f L h0 h
 have hend:T=(zg9 gr f L x0 L.length).1/\P=((zg9 gr f L x0 L.length).2:Int):=by
  have:zg9 gr f L x0 L.length=zdh gr (L.map f):=by
   unfold zg9;rw[if_neg (fun e=>hne (List.length_eq_zero_iff.1 e)),List.take_length]
  rw[this];exact⟨hT,hP⟩
 have hp:0<L.length:=List.length_pos_iff.2 hne;obtain⟨la,lc,rfl,hl9,hl8,hlc⟩:=id hL;have hl9:L.length≤9223372036854775807:=by omega
 obtain⟨da,dc,rfl,_,_,hdc⟩:=id hA;rw[zfp]at *;obtain⟨w1,hw1⟩:∃w1,w1=w.alloc (.cells #[.int .i64 0,.int .i64 0] 43):=⟨_,rfl⟩;obtain⟨Y,hY⟩:∃Y,Y=f x0:=⟨_,rfl⟩;obtain⟨w2,hw2⟩:∃w2,w2=w1.alloc (.cells #[.int .i64 Y.1,.int .i64 (Y.2:Int)] 43):=⟨_,rfl⟩;have f1:Fr NoM w w1:=by rw[hw1];exact(Fr.refl NoM w).alloc _
 have hs1:w1.heap.size=w.heap.size+1:=by rw[hw1];simp
 have f2:Fr NoM w1 w2:=by rw[hw2];exact(Fr.refl NoM w1).alloc _
 have e1:w1.heap[w.heap.size]?=some (.cells #[.int .i64 0,.int .i64 0] 43 (0,0)):=by rw[hw1];exact heap_alloc_new w _
 obtain⟨sb,hsb⟩:∃sb,sb=w1.heap.size:=⟨_,rfl⟩;have e2:w2.heap[sb]?=some (.cells #[.int .i64 Y.1,.int .i64 (Y.2:Int)] 43 (0,0)):=by rw[hw2,hsb];exact heap_alloc_new w1 _
 have hss:sb=w.heap.size+1:=by omega
 have hfr:=fun(W:World) (g:Fr (fun q=>q=sb) w2 W)=>((f1.trans f2 (fun _ _ q=>q)).trans g (fun q hq e=>by omega):Fr NoM w W)
 have HFr:=Hh hfr;have HRs:=Hh (fun(W:World) (g:Fr (fun q=>q=sb) w2 W)=>show W.cell? ⟨w.heap.size,0,none⟩=some (.int .i64 0)/\W.cell? ⟨w.heap.size,1,none⟩=some (.int .i64 0)/\W.frozen? ⟨w.heap.size,0,none⟩=false/\W.frozen? ⟨w.heap.size,1,none⟩=false from by
  have h1:=g.heap (f2.heap e1 (fun q=>q)) (fun e=>by omega);exact⟨by rw[cell_of_row W _ 0 _ _ _ h1];rfl,by rw[cell_of_row W _ 1 _ _ _ h1];rfl,by simp[World.frozen?,h1],by simp[World.frozen?,h1]⟩)
 have HLt:=Hh (fun(k:Nat) (hk:k<L.length)=>show ∃x b o,L[k]?=some x/\x<n/\(∀W,(Instr.indexAt 26 (.slice la L.length lc) (.int .i64 (k:Int))).run Tryz.prog W=.ok (.pointer (some ⟨b,o,none⟩)) W)/\∀W,Fr (fun q=>q=sb) w2 W→W.cell? ⟨b,o,none⟩=some (.int .i64 (x:Int))from by
  have hx:=List.getElem?_eq_getElem hk
  obtain⟨b,o,ha,c⟩:=hlc k _ hx;exact⟨_,b,o+k,hx,hlt _ (List.getElem_mem hk),fun W=>za7 la L.length lc k b o hk ha W,fun W g=>(hfr W g).cell c (fun q=>q)⟩)
 have HDt:=Hh (fun(y:Nat) (hy:y<n)=>show ∃b o,(∀W,(Instr.indexAt 66 (.slice da n dc) (.int .i64 (y:Int))).run Tryz.prog W=.ok (.pointer (some ⟨b,o,none⟩)) W)/\(∀W,Fr (fun q=>q=sb) w2 W→W.cell? ⟨b,o,none⟩=some (.int .i64 (f y).1)/\W.cell? ⟨b,o+1,none⟩=some (.int .i64 ((f y).2:Int)))/\w1.cell? ⟨b,o,none⟩=some (.int .i64 (f y).1)/\w1.cell? ⟨b,o+1,none⟩=some (.int .i64 ((f y).2:Int))from by
  obtain⟨b,o,ha,c1,c2⟩:=hdc y _ (zi0 f hy);exact⟨b,o+y*2,fun W=>zh4 da n dc y b o hy ha W,fun W g=>⟨(hfr W g).cell c1 (fun q=>q),(hfr W g).cell c2 (fun q=>q)⟩,f1.cell c1 (fun q=>q),f1.cell c2 (fun q=>q)⟩)
 obtain⟨b3,o3,ha3,c3⟩:=hlc 0 _ h0;have ix3:=za7 la L.length lc 0 b3 o3 hp ha3;rw[show((0:Nat):Int)=0 from rfl]at ix3;have c3:w1.cell? ⟨b3,o3,none⟩=some (.int .i64 (x0:Int)):=f1.cell c3 (fun q=>q);have hx0:x0<n:=hlt _ (List.mem_of_getElem? h0);obtain⟨b4,o4,ix4,_,c4,c5⟩:=HDt.out x0 hx0;rw[←hY]at c4 c5;have HGk:=Hh hgk;have HNx:=Hh hnx;have HEnd:=Hh hend;have HG:=Hh hg;have HY:=Hh hY;have E2:=Hh e2;have Hsb:=Hh (And.intro hsb hss);have HSt:=Hh (show zg9 gr f L x0 0=Y by rw[hY];rfl);clear hA hL hlc hdc hT hP hne hgk hnx hend hp f1 hs1 f2 e1 e2 hfr ha3 hg hY h0 hx0 hlt;go_enter Tryz.func86,Tryz.ntmps86;go_upto_region 1 with fail;rw[←hw1];clear hw1;go_upto_region 2 with fail;rw[←hw2];rw[←hsb];clear hw2 hsb hss ix3 c3 ix4 c4 c5;go_wp2_with fail;go_loopw [8] (fun v8 W=>∃(k:Nat),v8=.int .i64 (k:Int)/\k≤L.length/\W.heap[sb]?=some (.cells #[.int .i64 (zg9 gr f L x0 k).1,.int .i64 ((zg9 gr f L x0 k).2:Int)] 43 (0,0))/\Fr (fun q=>q=sb) w2 W) (fun v8 _=>L.length-(intOf v8).toNat)
 case atStart=>exact⟨0,rfl,Nat.zero_le _,by rw[HSt.out];exact E2.out,Fr.refl _ _⟩
 case round =>
  obtain⟨k,rfl,hk,hc,hf⟩:=hrel;obtain⟨w7,rfl⟩:∃w7,w7=wr:=⟨_,rfl⟩;by_cases hkl:k<L.length
  ·obtain⟨x,b5,o5,hx,hxn,ix5,hc5⟩:=HLt.out k hkl
   obtain⟨b6,o6,ix6,hc6,_⟩:=HDt.out x hxn;have c5:=hc5 w7 hf;obtain⟨c6,c7⟩:=hc6 w7 hf;obtain⟨s,hs⟩:∃s,s=zg9 gr f L x0 k:=⟨_,rfl⟩;obtain⟨y,hy⟩:∃y,y=f x:=⟨_,rfl⟩;rw[←hs]at hc;rw[←hy]at c6 c7;have gs:=HGk.out k hk;rw[←hs]at gs;have gy:=HG.out x hxn;rw[←hy]at gy;have hnext:=HNx.out k x hx;rw[←hs,←hy]at hnext;obtain⟨W9,hW9⟩:∃W9,W9=w7.alloc (.cells #[.int .i64 y.1,.int .i64 (y.2:Int)] 43):=⟨_,rfl⟩;obtain⟨xb,hxb⟩:∃xb,xb=w7.heap.size:=⟨_,rfl⟩;have f9:Fr NoM w7 W9:=by rw[hW9];exact(Fr.refl NoM w7).alloc _
   have e9:W9.heap[xb]?=some (.cells #[.int .i64 y.1,.int .i64 (y.2:Int)] 43 (0,0)):=by rw[hW9,hxb];exact heap_alloc_new w7 _
   have es:=f9.heap hc (fun q=>q);have HCs:=Hh (fun(W:World) (g:Fr NoM W9 W)=>show(W.cell? ⟨sb,0,none⟩=some (.int .i64 s.1)/\W.cell? ⟨sb,1,none⟩=some (.int .i64 (s.2:Int))/\W.cell? ⟨xb,0,none⟩=some (.int .i64 y.1)/\W.cell? ⟨xb,1,none⟩=some (.int .i64 (y.2:Int)))/\W.frozen? ⟨sb,0,none⟩=false/\W.frozen? ⟨sb,1,none⟩=false from by
    have h1:=g.heap es (fun q=>q);have h2:=g.heap e9 (fun q=>q);exact⟨⟨by rw[cell_of_row W _ 0 _ _ _ h1];rfl,by rw[cell_of_row W _ 1 _ _ _ h1];rfl,by rw[cell_of_row W _ 0 _ _ _ h2];rfl,by rw[cell_of_row W _ 1 _ _ _ h2];rfl⟩,by simp[World.frozen?,h1],by simp[World.frozen?,h1]⟩)
   have HSet:=Hh (fun(W:World) (g:Fr NoM W9 W)=>show((W.setCell ⟨sb,0,none⟩ (.int .i64 y.1)).setCell ⟨sb,1,none⟩ (.int .i64 (y.2:Int))).heap[sb]?=some (.cells #[.int .i64 y.1,.int .i64 (y.2:Int)] 43 (0,0))/\Fr (fun q=>q=sb) w2 ((W.setCell ⟨sb,0,none⟩ (.int .i64 y.1)).setCell ⟨sb,1,none⟩ (.int .i64 (y.2:Int)))from by
    have h1:=g.heap es (fun q=>q);refine⟨by rw[heap_set (heap_set h1 _)];rfl,?_⟩;exact(((hf.trans f9 (fun _ _ q=>q.elim)).trans g (fun _ _ q=>q.elim)).setCell _ _ (fun _=>rfl)).setCell _ _ (fun _=>rfl))
   have HStay:=Hh (fun(W:World) (g:Fr NoM W9 W)=>show W.heap[sb]?=some (.cells #[.int .i64 s.1,.int .i64 (s.2:Int)] 43 (0,0))/\Fr (fun q=>q=sb) w2 W from⟨g.heap es (fun q=>q),(hf.trans f9 (fun _ _ q=>q.elim)).trans g (fun _ _ q=>q.elim)⟩);obtain⟨res,hres⟩:∃res,res=zf5 gr s y:=⟨_,rfl⟩;have hs16:s.2≤16:=by have:=gs.2.1.2;omega
   have hy16:y.2≤16:=by have:=gy.2.1.2;omega
   have hl1:=fun(W:World)=>zcz s.1 y.1 s.2 y.2 W (by omega) (by omega) (by have:=gs.1;omega) (by have:=gy.1;omega) (znk s y) (zt2 hs16 hy16)
   have hl2:=fun(W:World)=>zcz y.1 s.1 y.2 s.2 W (by omega) (by omega) (by have:=gy.1;omega) (by have:=gs.1;omega) (znk y s) (zt2 hy16 hs16)
   unfold zfq at hnext;rw[←hres]at hnext;have HN1:=Hh (show res≠false→zg9 gr f L x0 (k+1)=y from fun e=>by rw[hnext,if_pos (by cases res;exact absurd rfl e;rfl)]);have HN0:=Hh (show res≠true→zg9 gr f L x0 (k+1)=s from fun e=>by rw[hnext,if_neg e]);have HKl:=Hh hkl;have aL:(k:Int)<(L.length:Int):=by omega
   clear hc hf hc5 hc6 gs gy hx hxn es e9 f9 hs16 hy16 hk hnext hs hy hkl;unfold zf5 at hres;cases gr with
   | true =>
    rw[if_pos rfl]at hres;rw[←hres]at hl1;have HL:=Hh hl1;clear hl1 hl2 hres;go_upto_region 6 with fail;rw[←hW9,←hxb];clear hW9 hxb c5 c6 c7 ix5 ix6;obtain⟨⟨q1,q2,q3,q4⟩,q5,q6⟩:=HCs.out W9 (Fr.refl _ _);go_wp2_with fail;(with_reducible refine(HL.out W9).mono ?_);rintro e w8 ⟨rfl,f8⟩;have F8:=Hh f8;obtain⟨⟨q1,q2,q3,q4⟩,q5,q6⟩:=HCs.out w8 f8;clear f8;cases res with
    | true =>
     go_wp2;go_roundw
     case rel =>
      obtain⟨z1,z2⟩:=HSet.out w8 F8.out;have hkl:=HKl.out;refine⟨k+1,by go_num,by omega,?_,z2⟩;rw[HN1.out (by simp)];exact z1
     case measure=>have:=HKl.out;simp[intOf];omega
    | false =>
     go_wp2;go_roundw
     case rel =>
      obtain⟨z1,z2⟩:=HStay.out w8 F8.out;have hkl:=HKl.out;refine⟨k+1,by go_num,by omega,?_,z2⟩;rw[HN0.out (by simp)];exact z1
     case measure=>have:=HKl.out;simp[intOf];omega
   | false =>
    rw[if_neg (by decide)]at hres;rw[←hres]at hl2;have HL:=Hh hl2;clear hl1 hl2 hres;go_upto_region 6 with fail;rw[←hW9,←hxb];clear hW9 hxb c5 c6 c7 ix5 ix6;obtain⟨⟨q1,q2,q3,q4⟩,q5,q6⟩:=HCs.out W9 (Fr.refl _ _);go_wp2_with fail;(with_reducible refine(HL.out W9).mono ?_);rintro e w8 ⟨rfl,f8⟩;have F8:=Hh f8;obtain⟨⟨q1,q2,q3,q4⟩,q5,q6⟩:=HCs.out w8 f8;clear f8;cases res with
    | true =>
     go_wp2;go_roundw
     case rel =>
      obtain⟨z1,z2⟩:=HSet.out w8 F8.out;have hkl:=HKl.out;refine⟨k+1,by go_num,by omega,?_,z2⟩;rw[HN1.out (by simp)];exact z1
     case measure=>have:=HKl.out;simp[intOf];omega
    | false =>
     go_wp2;go_roundw
     case rel =>
      obtain⟨z1,z2⟩:=HStay.out w8 F8.out;have hkl:=HKl.out;refine⟨k+1,by go_num,by omega,?_,z2⟩;rw[HN0.out (by simp)];exact z1
     case measure=>have:=HKl.out;simp[intOf];omega
  ·have hkn:k=L.length:=by omega
   subst hkn;obtain⟨e1,e2⟩:=HEnd.out;rw[←e1,←e2]at hc;have q1:w7.cell? ⟨sb,0,none⟩=some (.int .i64 T):=by rw[cell_of_row w7 _ 0 _ _ _ hc];rfl
   have q2:w7.cell? ⟨sb,1,none⟩=some (.int .i64 P):=by rw[cell_of_row w7 _ 1 _ _ _ hc];rfl
   obtain⟨r0,r1,r2,r3⟩:=HRs.out w7 hf;have HM:=Hh (((HFr.out w7 hf).setCell ⟨w.heap.size,0,none⟩ (.int .i64 T) (fun h=>by have h:w.heap.size<w.heap.size:=h;omega)).setCell ⟨w.heap.size,1,none⟩ (.int .i64 P) (fun h=>by have h:w.heap.size<w.heap.size:=h;omega));clear hc hf e1 e2;go_wp2_with fail;refine bodyPost_ret (v:=.agg #[.int .i64 T,.int .i64 P]) (by simp[results,Tryz.results86,go_sem,r0,r1,r2,r3]) rfl ?_
   exact⟨rfl,HM.out⟩
end Go.Proofs.YtknniemfpkjnbaaGreatDoor
