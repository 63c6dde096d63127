import Derived.Test.YtbbbmjiloihajaaGreatDoorZfRefOf7
import Derived.Test.YtbbbmjiloihajaaGreatDoorZfRefCan
/- What the claim of FnMovedCard needs of: RefNumOf. -/
namespace Go.Proofs.YtbbbmjiloihajaaGreatDoor
set_option linter.unusedVariables false
set_option linter.unusedSimpArgs false
open Go.RowKit
theorem zvr {V:List PL}{C:List Nat}(B:BookC V C):∀j,j<V.length→C.getD j 0=(za0 V).getD j 0:=by
 intro j;induction j using Nat.strongRecOn with
 | _ j ih =>
  intro hj;have ej:=List.getElem?_eq_getElem hj
  obtain⟨o1,o2⟩:=B.opts j _ ej;have e1:∀L:List Nat,(∀x∈L,x<j)→za2 C L=za2 (za0 V) L:=fun L hL=>List.map_congr_left fun x hx=>ih x (hL x hx) (by have:=hL x hx;omega)
  rw[B.code j _ ej,zby V B.opts j _ ej,e1 _ o1,e1 _ o2]
theorem yc4 {Fs:List PL}(hg:zb2 (i2 Fs))(c:Nat)(hc:c=canC (zab Fs)) :
  BookC (zak c) (za0 (zak c))/\0<(zak c).length/\(zak c).length≤120/\(∀x,x<(zak c).length→CanC ((za0 (zak c)).getD x 0))/\(za0 (zak c)).getD ((zak c).length-1) 0=c:=by
 obtain⟨hp,ho,hu,hk,_,hcode⟩:=zg5 (zbf c);have hB:=(zgs ho hu (zgu ho hk)).book;have hcc:CanC c:=by rw[hc];exact(zcp (zab Fs)).1
 refine⟨hB,hp,?_,fun x hx=>?_,hcode⟩
 ·have h1:(zak (canC (zab Fs))).length≤Fs.length:=zn1 (zcp (zab Fs)).1 (zcp (zab Fs)).2.2 (zcp (zab Fs)).2.1 (zmr hg)
  rw[←hc]at h1;have h2:=(zbh hg).2.1;omega
 ·obtain⟨P,hA⟩:=zbf c
  have hPl:=hA.book.len;rw[←zvr hA.book x hx];have hs:=(hA.sub _).1 (zch (C:=P) (i:=x) (by omega));exact fun y hy=>hcc y (hs.trans hy)
set_option maxRecDepth 4000 in
set_option maxHeartbeats 8000000 in
theorem zs0 {R:Nat→Prop}(nv:Value)(Fs:List PL)(w:World)(h:NodeL R encN w nv Fs)(hgd:zb2 (i2 Fs))(g:Bool)(T P:Int)(hT:T=(valD (canC (zab Fs))).1)(hP:P=((valD (canC (zab Fs))).2:Int))(hg:g=valB (canC (zab Fs))) :
  Calls Tryz.prog 102 #[.agg #[nv]] w fun e w'=>e=.returned (.tuple #[.agg #[.int .i64 T,.int .i64 P],.bool g])/\Fr NoM w w':=by
 obtain⟨w1,hw1⟩:∃w1,w1=(w.alloc (.cells #[nv] 31)).alloc (.cells #[.int .i64 0,.int .i64 0] 45):=⟨_,rfl⟩;have f1:Fr NoM w w1:=by rw[hw1];exact((Fr.refl NoM w).alloc _).alloc _
 have e0:w1.heap[w.heap.size]?=some (.cells #[nv] 31 (0,0)):=by rw[hw1];exact((Fr.refl NoM _).alloc _).heap (heap_alloc_new w _) (fun q=>q)
 have e1:w1.heap[w.heap.size+1]?=some (.cells #[.int .i64 0,.int .i64 0] 45 (0,0)):=by
  have h:=heap_alloc_new (w.alloc (.cells #[nv] 31)) (.cells #[.int .i64 0,.int .i64 0] 45);rw[World.size_alloc]at h;rw[hw1];exact h
 have k0:w1.cell? ⟨w.heap.size,0,none⟩=some nv:=by rw[cell_of_row w1 _ 0 _ _ _ e0];rfl
 have HRs:=Hh (fun(W:World) (f:Fr NoM w1 W)=>show W.cell? ⟨w.heap.size+1,0,none⟩=some (.int .i64 0)/\W.cell? ⟨w.heap.size+1,1,none⟩=some (.int .i64 0)/\W.frozen? ⟨w.heap.size+1,0,none⟩=false/\W.frozen? ⟨w.heap.size+1,1,none⟩=false from by
  have h1:=f.heap e1 (fun q=>q);exact⟨by rw[cell_of_row W _ 0 _ _ _ h1];rfl,by rw[cell_of_row W _ 1 _ _ _ h1];rfl,by simp[World.frozen?,h1],by simp[World.frozen?,h1]⟩)
 have HF:=Hh (fun(W:World) (y1 y2:Int) (f:Fr NoM w1 W)=>(((f1.trans f (fun _ _ q=>q)).setCell ⟨w.heap.size+1,0,none⟩ (.int .i64 y1) (fun h=>by have h:w.heap.size+1<w.heap.size:=h;omega)).setCell ⟨w.heap.size+1,1,none⟩ (.int .i64 y2) (fun h=>by have h:w.heap.size+1<w.heap.size:=h;omega):Fr NoM w ((W.setCell ⟨w.heap.size+1,0,none⟩ (.int .i64 y1)).setCell ⟨w.heap.size+1,1,none⟩ (.int .i64 y2))));obtain⟨q1,q2,q3,q4,_⟩:=zbh hgd;have HCn:=Hh (zhi nv Fs w1 (h.fr0 f1) q4.opts q3 q1 q2);obtain⟨c,hc⟩:∃c,c=canC (zab Fs):=⟨_,rfl⟩;obtain⟨b1,b2,b3,b4,b5⟩:=yc4 hgd c hc;rw[←hc]at hT hP hg;have HOf:=Hh (fun(W:World) (v:Value) (hN:NodeL (fun b=>w1.heap.size≤b) encN W v (zak c))=>ybe b1 v W hN b2 (by omega) b4 T P g (by rw[b5];exact hT) (by rw[b5];exact hP) (by rw[b5];exact hg));have HVal:=Hh (show(g=true→GoodD T P)/\(g=false→T=0/\P=0)from⟨fun e=>by
  rw[hT,hP];exact(zfe (hg.symm.trans e)).2,fun e=>by
  have h1:=zfy (hg.symm.trans e);rw[h1]at hT hP;exact⟨hT,hP⟩⟩)
 have HCc:=Hh hc;clear h hgd f1 e0 e1 q1 q2 q3 q4 b1 b2 b3 b4 b5 hT hP hg hc;go_enter Tryz.func102,Tryz.ntmps102;go_wp2_with fail;rw[←hw1];clear hw1;(with_reducible refine HCn.out.mono ?_);rintro e w2 ⟨v2,rfl,n2,f2⟩;rw[←HCc.out]at n2;have HO2:=Hh (HOf.out w2 v2 n2);have F2:=Hh f2;clear n2 f2 k0;go_wp2_with fail;(with_reducible refine HO2.out.mono ?_);rintro e w3 ⟨rfl,f3⟩;obtain⟨W3,hW3⟩:∃W3,W3=w3.alloc (.cells #[.int .i64 T,.int .i64 P] 45):=⟨_,rfl⟩;have g3:Fr NoM w1 W3:=(F2.out.trans f3 (fun _ _ q=>q)).trans (show Fr NoM w3 W3 by rw[hW3];exact(Fr.refl NoM w3).alloc _) (fun _ _ q=>q);have e3:W3.heap[w3.heap.size]?=some (.cells #[.int .i64 T,.int .i64 P] 45 (0,0)):=by rw[hW3];exact heap_alloc_new w3 _
 have t0:W3.cell? ⟨w3.heap.size,0,none⟩=some (.int .i64 T):=by rw[cell_of_row W3 _ 0 _ _ _ e3];rfl
 have t1:W3.cell? ⟨w3.heap.size,1,none⟩=some (.int .i64 P):=by rw[cell_of_row W3 _ 1 _ _ _ e3];rfl
 have G3:=Hh g3;clear f3 g3 e3;cases g with
 | false =>
  obtain⟨rfl,rfl⟩:=HVal.out.2 rfl;obtain⟨r0,r1,r2,r3⟩:=HRs.out W3 G3.out;have HM:=Hh (HF.out W3 0 0 G3.out);go_upto_region 2 with fail;rw[←hW3];clear hW3;go_wp2_with fail;refine bodyPost_ret (v:=.tuple #[.agg #[.int .i64 0,.int .i64 0],.bool false]) (by simp[results,Tryz.results102,go_sem,r0,r1,r2,r3]) rfl ?_
  exact⟨rfl,HM.out⟩
 | true =>
  have HIf:=Hh (zkm T P W3 true (by simp[HVal.out.1 rfl]) T P ⟨fun _=>⟨rfl,rfl⟩,fun e=>by cases e⟩);go_upto_region 2 with fail;rw[←hW3];clear hW3;go_wp2_with fail;(with_reducible refine HIf.out.mono ?_);rintro e w4 ⟨rfl,f4⟩;have G4:=Hh (G3.out.trans f4 (fun _ _ q=>q));clear f4 t0 t1;obtain⟨r0,r1,r2,r3⟩:=HRs.out w4 G4.out;have HM:=Hh (HF.out w4 T P G4.out);go_wp2_with fail;refine bodyPost_ret (v:=.tuple #[.agg #[.int .i64 T,.int .i64 P],.bool true]) (by simp[results,Tryz.results102,go_sem,r0,r1,r2,r3]) rfl ?_
  exact⟨rfl,HM.out⟩
set_option maxRecDepth 4000 in
set_option maxHeartbeats 8000000 in
theorem zo7 {R:Nat→Prop}(nv:Value)(Fi:List (List Int × List Int))(w:World)(h:NodeL R encI w nv Fi)(g:Bool)(hg:g=true↔zb2 Fi)(ok:Bool)(hok:ok=okOf g Fi)(T P:Int)(hT:T=(zv0 g Fi).1)(hP:P=((zv0 g Fi).2:Int)) :
  Calls Tryz.prog 48 #[.agg #[nv]] w fun e w'=>e=.returned (.tuple #[.agg #[.int .i64 T,.int .i64 P],.bool ok])/\Fr NoM w w':=by
 obtain⟨w1,hw1⟩:∃w1,w1=(w.alloc (.cells #[nv] 31)).alloc (.cells #[.int .i64 0,.int .i64 0] 45):=⟨_,rfl⟩;have f1:Fr NoM w w1:=by rw[hw1];exact((Fr.refl NoM w).alloc _).alloc _
 have e0:w1.heap[w.heap.size]?=some (.cells #[nv] 31 (0,0)):=by rw[hw1];exact((Fr.refl NoM _).alloc _).heap (heap_alloc_new w _) (fun q=>q)
 have e1:w1.heap[w.heap.size+1]?=some (.cells #[.int .i64 0,.int .i64 0] 45 (0,0)):=by
  have h:=heap_alloc_new (w.alloc (.cells #[nv] 31)) (.cells #[.int .i64 0,.int .i64 0] 45);rw[World.size_alloc]at h;rw[hw1];exact h
 have HK:=Hh (fun(W:World) (f:Fr NoM w1 W)=>show W.cell? ⟨w.heap.size,0,none⟩=some nv from by
  rw[cell_of_row W _ 0 _ _ _ (f.heap e0 (fun q=>q))];rfl)
 have HRs:=Hh (fun(W:World) (f:Fr NoM w1 W)=>show W.cell? ⟨w.heap.size+1,0,none⟩=some (.int .i64 0)/\W.cell? ⟨w.heap.size+1,1,none⟩=some (.int .i64 0)/\W.frozen? ⟨w.heap.size+1,0,none⟩=false/\W.frozen? ⟨w.heap.size+1,1,none⟩=false from by
  have h1:=f.heap e1 (fun q=>q);exact⟨by rw[cell_of_row W _ 0 _ _ _ h1];rfl,by rw[cell_of_row W _ 1 _ _ _ h1];rfl,by simp[World.frozen?,h1],by simp[World.frozen?,h1]⟩)
 have HF:=Hh (fun(W:World) (y1 y2:Int) (f:Fr NoM w1 W)=>(((f1.trans f (fun _ _ q=>q)).setCell ⟨w.heap.size+1,0,none⟩ (.int .i64 y1) (fun h=>by have h:w.heap.size+1<w.heap.size:=h;omega)).setCell ⟨w.heap.size+1,1,none⟩ (.int .i64 y2) (fun h=>by have h:w.heap.size+1<w.heap.size:=h;omega):Fr NoM w ((W.setCell ⟨w.heap.size+1,0,none⟩ (.int .i64 y1)).setCell ⟨w.heap.size+1,1,none⟩ (.int .i64 y2))));have HGood:=Hh (ziq nv Fi w1 (h.fr0 f1));have HN:=Hh (fun(W:World) (f:Fr NoM w1 W)=>(h.fr0 f1).fr0 f);have HG:=Hh hg;have HV:=Hh (And.intro hok (And.intro hT hP));obtain⟨na,nc,rfl,z⟩:=id h;clear z h f1 e0 e1 hg hok hT hP;have k0:=HK.out w1 (Fr.refl _ _);go_enter Tryz.func48,Tryz.ntmps48;go_wp2_with fail;rw[←hw1];clear hw1;(with_reducible refine HGood.out.mono ?_);rintro e w2 ⟨b,rfl,hb,f2⟩;obtain rfl:b=g:=by
  have h:=HG.out;cases b <;> cases g <;> simp_all
 clear k0;have F2:=Hh f2;have HB:=Hh hb;have k0:=HK.out w2 f2;clear f2 hb;cases b with
 | false =>
  obtain⟨v1,v2,v3⟩:=HV.out;have hk:ok=false/\T=0/\P=0:=⟨v1,v2,v3⟩;obtain⟨rfl,rfl,rfl⟩:=hk;clear v1 v2 v3;obtain⟨r0,r1,r2,r3⟩:=HRs.out w2 F2.out;have HM:=Hh (HF.out w2 0 0 F2.out);go_wp2_with fail;refine bodyPost_ret (v:=.tuple #[.agg #[.int .i64 0,.int .i64 0],.bool false]) (by simp[results,Tryz.results48,go_sem,r0,r1,r2,r3]) rfl ?_
  exact⟨rfl,HM.out⟩
 | true =>
  have hgd:=HB.out.1 rfl;obtain⟨Fs,rfl⟩:=zdi hgd;obtain⟨v1,v2,v3⟩:=HV.out;have e:zv0 true (i2 Fs)=valD (canC (zab Fs))/\okOf true (i2 Fs)=valB (canC (zab Fs)):=by
   unfold zv0 okOf;rw[zb8,if_pos rfl,Bool.true_and];exact⟨rfl,rfl⟩
  rw[e.1]at v2 v3;rw[e.2]at v1;have HVl:=Hh (zs0 _ Fs w2 (HN.out w2 F2.out).ofI hgd ok T P v2 v3 v1);clear hgd v1 v2 v3 e;go_wp2_with fail;(with_reducible refine HVl.out.mono ?_);rintro e w3 ⟨rfl,f3⟩;have F3:=Hh (F2.out.trans f3 (fun _ _ q=>q));clear f3 k0;obtain⟨r0,r1,r2,r3⟩:=HRs.out w3 F3.out;have HM:=Hh (HF.out w3 T P F3.out);go_wp2_with fail;refine bodyPost_ret (v:=.tuple #[.agg #[.int .i64 T,.int .i64 P],.bool ok]) (by simp[results,Tryz.results48,go_sem,r0,r1,r2,r3]) rfl ?_
  exact⟨rfl,HM.out⟩
end Go.Proofs.YtbbbmjiloihajaaGreatDoor
