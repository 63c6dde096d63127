import Derived.Test.YtbbbmjiloihajaaGreatDoorZeRefOf7
import Derived.Test.YtbbbmjiloihajaaGreatDoorZeRefCan
import Derived.Test.YtbbbmjiloihajaaGreatDoorZeNumOfP
/- What the claim of FnNumberCard needs of: RefNumOf RefNumD. -/
namespace Go.Proofs.YtbbbmjiloihajaaGreatDoor
set_option linter.unusedVariables false
set_option linter.unusedSimpArgs false
open Go.RowKit
theorem book_codes {V:List PL}{C:List Nat}(B:BookC V C):∀j,j<V.length→C.getD j 0=(codesOf V).getD j 0:=by
 intro j;induction j using Nat.strongRecOn with
 | _ j ih =>
  intro hj;have ej:=List.getElem?_eq_getElem hj
  obtain⟨o1,o2⟩:=B.opts j _ ej;have e1:∀L:List Nat,(∀x∈L,x<j)→atAll C L=atAll (codesOf V) L:=fun L hL=>List.map_congr_left fun x hx=>ih x (hL x hx) (by have:=hL x hx;omega)
  rw[B.code j _ ej,codesOf_code V B.opts j _ ej,e1 _ o1,e1 _ o2]
theorem can_book {Fs:List PL}(hg:goodI (i2 Fs))(c:Nat)(hc:c=canC (codeF Fs)) :
  BookC (formOf c) (codesOf (formOf c))∧0<(formOf c).length∧(formOf c).length≤120∧(∀x,x<(formOf c).length→CanC ((codesOf (formOf c)).getD x 0))∧(codesOf (formOf c)).getD ((formOf c).length-1) 0=c:=by
 obtain⟨hp,ho,hu,hk,_,hcode⟩:=of_form (formOf_is c);have hB:=(poolOK_F ho hu (next_nodup ho hk)).book;have hcc:CanC c:=by rw[hc];exact(can_is (codeF Fs)).1
 refine⟨hB,hp,?_,fun x hx=>?_,hcode⟩
 ·have h1:(formOf (canC (codeF Fs))).length≤Fs.length:=can_least (can_is (codeF Fs)).1 (can_is (codeF Fs)).2.2 (can_is (codeF Fs)).2.1 (good_form hg)
  rw[←hc]at h1;have h2:=(goodI_parts hg).2.1;omega
 ·obtain⟨P,hA⟩:=formOf_is c
  have hPl:=hA.book.len;rw[←book_codes hA.book x hx];have hs:=(hA.sub _).1 (getD_mem (C:=P) (i:=x) (by omega));exact fun y hy=>hcc y (hs.trans hy)
set_option maxRecDepth 4000 in
set_option maxHeartbeats 8000000 in
theorem l7Value_any {R:Nat→Prop}(nv:Value)(Fs:List PL)(w:World)(h:NodeL R encN w nv Fs)(hgd:goodI (i2 Fs))(g:Bool)(T P:Int)(hT:T=(valD (canC (codeF Fs))).1)(hP:P=((valD (canC (codeF Fs))).2:Int))(hg:g=valB (canC (codeF Fs))) :
  Calls Tryz.prog 102 #[.agg #[nv]] w fun e w'=>e=.returned (.tuple #[.agg #[.int .i64 T,.int .i64 P],.bool g])∧Fr NoM w w':=by
 obtain⟨w1,hw1⟩:∃w1,w1=(w.alloc (.cells #[nv] 31)).alloc (.cells #[.int .i64 0,.int .i64 0] 45):=⟨_,rfl⟩;have f1:Fr NoM w w1:=by rw[hw1];exact((Fr.refl NoM w).alloc _).alloc _
 have e0:w1.heap[w.heap.size]?=some (.cells #[nv] 31 (0,0)):=by rw[hw1];exact((Fr.refl NoM _).alloc _).heap (heap_alloc_new w _) (fun q=>q)
 have e1:w1.heap[w.heap.size+1]?=some (.cells #[.int .i64 0,.int .i64 0] 45 (0,0)):=by
  have h:=heap_alloc_new (w.alloc (.cells #[nv] 31)) (.cells #[.int .i64 0,.int .i64 0] 45);rw[World.size_alloc]at h;rw[hw1];exact h
 have k0:w1.cell? ⟨w.heap.size,0,none⟩=some nv:=by rw[cell_of_row w1 _ 0 _ _ _ e0];rfl
 have HRs:=Hh (fun(W:World) (f:Fr NoM w1 W)=>show W.cell? ⟨w.heap.size+1,0,none⟩=some (.int .i64 0)∧W.cell? ⟨w.heap.size+1,1,none⟩=some (.int .i64 0)∧W.frozen? ⟨w.heap.size+1,0,none⟩=false∧W.frozen? ⟨w.heap.size+1,1,none⟩=false from by
  have h1:=f.heap e1 (fun q=>q);exact⟨by rw[cell_of_row W _ 0 _ _ _ h1];rfl,by rw[cell_of_row W _ 1 _ _ _ h1];rfl,by simp[World.frozen?,h1],by simp[World.frozen?,h1]⟩)
 have HF:=Hh (fun(W:World) (y1 y2:Int) (f:Fr NoM w1 W)=>(((f1.trans f (fun _ _ q=>q)).setCell ⟨w.heap.size+1,0,none⟩ (.int .i64 y1) (fun h=>by have h:w.heap.size+1<w.heap.size:=h;omega)).setCell ⟨w.heap.size+1,1,none⟩ (.int .i64 y2) (fun h=>by have h:w.heap.size+1<w.heap.size:=h;omega):Fr NoM w ((W.setCell ⟨w.heap.size+1,0,none⟩ (.int .i64 y1)).setCell ⟨w.heap.size+1,1,none⟩ (.int .i64 y2))));obtain⟨q1,q2,q3,q4,_⟩:=goodI_parts hgd;have HCn:=Hh (l6Canon_any nv Fs w1 (h.fr0 f1) q4.opts q3 q1 q2);obtain⟨c,hc⟩:∃c,c=canC (codeF Fs):=⟨_,rfl⟩;obtain⟨b1,b2,b3,b4,b5⟩:=can_book hgd c hc;rw[←hc]at hT hP hg;have HOf:=Hh (fun(W:World) (v:Value) (hN:NodeL (fun b=>w1.heap.size≤b) encN W v (formOf c))=>l7Of_any b1 v W hN b2 (by omega) b4 T P g (by rw[b5];exact hT) (by rw[b5];exact hP) (by rw[b5];exact hg));have HVal:=Hh (show(g=true→GoodD T P)∧(g=false→T=0∧P=0)from⟨fun e=>by
  rw[hT,hP];exact(valB_val (hg.symm.trans e)).2,fun e=>by
  have h1:=valB_no (hg.symm.trans e);rw[h1]at hT hP;exact⟨hT,hP⟩⟩)
 have HCc:=Hh hc;clear h hgd f1 e0 e1 q1 q2 q3 q4 b1 b2 b3 b4 b5 hT hP hg hc;go_enter Tryz.func102,Tryz.ntmps102;go_wp2_with fail;rw[←hw1];clear hw1;(with_reducible refine HCn.out.mono ?_);rintro e w2 ⟨v2,rfl,n2,f2⟩;rw[←HCc.out]at n2;have HO2:=Hh (HOf.out w2 v2 n2);have F2:=Hh f2;clear n2 f2 k0;go_wp2_with fail;(with_reducible refine HO2.out.mono ?_);rintro e w3 ⟨rfl,f3⟩;obtain⟨W3,hW3⟩:∃W3,W3=w3.alloc (.cells #[.int .i64 T,.int .i64 P] 45):=⟨_,rfl⟩;have g3:Fr NoM w1 W3:=(F2.out.trans f3 (fun _ _ q=>q)).trans (show Fr NoM w3 W3 by rw[hW3];exact(Fr.refl NoM w3).alloc _) (fun _ _ q=>q);have e3:W3.heap[w3.heap.size]?=some (.cells #[.int .i64 T,.int .i64 P] 45 (0,0)):=by rw[hW3];exact heap_alloc_new w3 _
 have t0:W3.cell? ⟨w3.heap.size,0,none⟩=some (.int .i64 T):=by rw[cell_of_row W3 _ 0 _ _ _ e3];rfl
 have t1:W3.cell? ⟨w3.heap.size,1,none⟩=some (.int .i64 P):=by rw[cell_of_row W3 _ 1 _ _ _ e3];rfl
 have G3:=Hh g3;clear f3 g3 e3;cases g with
 | false =>
  obtain⟨rfl,rfl⟩:=HVal.out.2 rfl;obtain⟨r0,r1,r2,r3⟩:=HRs.out W3 G3.out;have HM:=Hh (HF.out W3 0 0 G3.out);go_upto_region 2 with fail;rw[←hW3];clear hW3;go_wp2_with fail;refine bodyPost_ret (v:=.tuple #[.agg #[.int .i64 0,.int .i64 0],.bool false]) (by simp[results,Tryz.results102,go_sem,r0,r1,r2,r3]) rfl ?_
  exact⟨rfl,HM.out⟩
 | true =>
  have HIf:=Hh (l2If_any T P W3 true (by simp[HVal.out.1 rfl]) T P ⟨fun _=>⟨rfl,rfl⟩,fun e=>by cases e⟩);go_upto_region 2 with fail;rw[←hW3];clear hW3;go_wp2_with fail;(with_reducible refine HIf.out.mono ?_);rintro e w4 ⟨rfl,f4⟩;have G4:=Hh (G3.out.trans f4 (fun _ _ q=>q));clear f4 t0 t1;obtain⟨r0,r1,r2,r3⟩:=HRs.out w4 G4.out;have HM:=Hh (HF.out w4 T P G4.out);go_wp2_with fail;refine bodyPost_ret (v:=.tuple #[.agg #[.int .i64 T,.int .i64 P],.bool true]) (by simp[results,Tryz.results102,go_sem,r0,r1,r2,r3]) rfl ?_
  exact⟨rfl,HM.out⟩
set_option maxRecDepth 4000 in
set_option maxHeartbeats 8000000 in
theorem numberOfR_any {R:Nat→Prop}(nv:Value)(Fi:List (List Int × List Int))(w:World)(h:NodeL R encI w nv Fi)(g:Bool)(hg:g=true↔goodI Fi)(ok:Bool)(hok:ok=okOf g Fi)(T P:Int)(hT:T=(numOf g Fi).1)(hP:P=((numOf g Fi).2:Int)) :
  Calls Tryz.prog 48 #[.agg #[nv]] w fun e w'=>e=.returned (.tuple #[.agg #[.int .i64 T,.int .i64 P],.bool ok])∧Fr NoM w w':=by
 obtain⟨w1,hw1⟩:∃w1,w1=(w.alloc (.cells #[nv] 31)).alloc (.cells #[.int .i64 0,.int .i64 0] 45):=⟨_,rfl⟩;have f1:Fr NoM w w1:=by rw[hw1];exact((Fr.refl NoM w).alloc _).alloc _
 have e0:w1.heap[w.heap.size]?=some (.cells #[nv] 31 (0,0)):=by rw[hw1];exact((Fr.refl NoM _).alloc _).heap (heap_alloc_new w _) (fun q=>q)
 have e1:w1.heap[w.heap.size+1]?=some (.cells #[.int .i64 0,.int .i64 0] 45 (0,0)):=by
  have h:=heap_alloc_new (w.alloc (.cells #[nv] 31)) (.cells #[.int .i64 0,.int .i64 0] 45);rw[World.size_alloc]at h;rw[hw1];exact h
 have HK:=Hh (fun(W:World) (f:Fr NoM w1 W)=>show W.cell? ⟨w.heap.size,0,none⟩=some nv from by
  rw[cell_of_row W _ 0 _ _ _ (f.heap e0 (fun q=>q))];rfl)
 have HRs:=Hh (fun(W:World) (f:Fr NoM w1 W)=>show W.cell? ⟨w.heap.size+1,0,none⟩=some (.int .i64 0)∧W.cell? ⟨w.heap.size+1,1,none⟩=some (.int .i64 0)∧W.frozen? ⟨w.heap.size+1,0,none⟩=false∧W.frozen? ⟨w.heap.size+1,1,none⟩=false from by
  have h1:=f.heap e1 (fun q=>q);exact⟨by rw[cell_of_row W _ 0 _ _ _ h1];rfl,by rw[cell_of_row W _ 1 _ _ _ h1];rfl,by simp[World.frozen?,h1],by simp[World.frozen?,h1]⟩)
 have HF:=Hh (fun(W:World) (y1 y2:Int) (f:Fr NoM w1 W)=>(((f1.trans f (fun _ _ q=>q)).setCell ⟨w.heap.size+1,0,none⟩ (.int .i64 y1) (fun h=>by have h:w.heap.size+1<w.heap.size:=h;omega)).setCell ⟨w.heap.size+1,1,none⟩ (.int .i64 y2) (fun h=>by have h:w.heap.size+1<w.heap.size:=h;omega):Fr NoM w ((W.setCell ⟨w.heap.size+1,0,none⟩ (.int .i64 y1)).setCell ⟨w.heap.size+1,1,none⟩ (.int .i64 y2))));have HGood:=Hh (l3Good_any nv Fi w1 (h.fr0 f1));have HN:=Hh (fun(W:World) (f:Fr NoM w1 W)=>(h.fr0 f1).fr0 f);have HG:=Hh hg;have HV:=Hh (And.intro hok (And.intro hT hP));obtain⟨na,nc,rfl,z⟩:=id h;clear z h f1 e0 e1 hg hok hT hP;have k0:=HK.out w1 (Fr.refl _ _);go_enter Tryz.func48,Tryz.ntmps48;go_wp2_with fail;rw[←hw1];clear hw1;(with_reducible refine HGood.out.mono ?_);rintro e w2 ⟨b,rfl,hb,f2⟩;obtain rfl:b=g:=by
  have h:=HG.out;cases b <;> cases g <;> simp_all
 clear k0;have F2:=Hh f2;have HB:=Hh hb;have k0:=HK.out w2 f2;clear f2 hb;cases b with
 | false =>
  obtain⟨v1,v2,v3⟩:=HV.out;have hk:ok=false∧T=0∧P=0:=⟨v1,v2,v3⟩;obtain⟨rfl,rfl,rfl⟩:=hk;clear v1 v2 v3;obtain⟨r0,r1,r2,r3⟩:=HRs.out w2 F2.out;have HM:=Hh (HF.out w2 0 0 F2.out);go_wp2_with fail;refine bodyPost_ret (v:=.tuple #[.agg #[.int .i64 0,.int .i64 0],.bool false]) (by simp[results,Tryz.results48,go_sem,r0,r1,r2,r3]) rfl ?_
  exact⟨rfl,HM.out⟩
 | true =>
  have hgd:=HB.out.1 rfl;obtain⟨Fs,rfl⟩:=goodI_nat hgd;obtain⟨v1,v2,v3⟩:=HV.out;have e:numOf true (i2 Fs)=valD (canC (codeF Fs))∧okOf true (i2 Fs)=valB (canC (codeF Fs)):=by
   unfold numOf okOf;rw[natF_i2,if_pos rfl,Bool.true_and];exact⟨rfl,rfl⟩
  rw[e.1]at v2 v3;rw[e.2]at v1;have HVl:=Hh (l7Value_any _ Fs w2 (HN.out w2 F2.out).ofI hgd ok T P v2 v3 v1);clear hgd v1 v2 v3 e;go_wp2_with fail;(with_reducible refine HVl.out.mono ?_);rintro e w3 ⟨rfl,f3⟩;have F3:=Hh (F2.out.trans f3 (fun _ _ q=>q));clear f3 k0;obtain⟨r0,r1,r2,r3⟩:=HRs.out w3 F3.out;have HM:=Hh (HF.out w3 T P F3.out);go_wp2_with fail;refine bodyPost_ret (v:=.tuple #[.agg #[.int .i64 T,.int .i64 P],.bool ok]) (by simp[results,Tryz.results48,go_sem,r0,r1,r2,r3]) rfl ?_
  exact⟨rfl,HM.out⟩
set_option maxRecDepth 4000 in
set_option maxHeartbeats 8000000 in
theorem numberFormR_any (T P:Int)(w:World)(g:Bool)(hg:g=true↔GoodD T P)(ok:Bool)(hok:ok=(g && fitsB (numN T P.toNat))) :
  Calls Tryz.prog 51 #[.agg #[.int .i64 T,.int .i64 P]] w fun e w'=>∃v',e=.returned (.tuple #[.agg #[v'],.bool ok])∧NodeL (fun b=>w.heap.size≤b) encN w' v' (if ok=true then numN T P.toNat else [])∧Fr NoM w w':=by
 obtain⟨RN,hRN⟩:∃RN,RN=(if ok=true then numN T P.toNat else []):=⟨_,rfl⟩;rw[←hRN];have HRN:=Hh hRN;clear hRN;obtain⟨w1,hw1⟩:∃w1,w1=(w.alloc (.cells #[.int .i64 T,.int .i64 P] 45)).alloc (.cells #[.slice none 0 0] 31):=⟨_,rfl⟩;have f1:Fr NoM w w1:=by rw[hw1];exact((Fr.refl NoM w).alloc _).alloc _
 have hs1:w1.heap.size=w.heap.size+2:=by rw[hw1];simp
 have e0:w1.heap[w.heap.size]?=some (.cells #[.int .i64 T,.int .i64 P] 45 (0,0)):=by rw[hw1];exact((Fr.refl NoM _).alloc _).heap (heap_alloc_new w _) (fun q=>q)
 have e1:w1.heap[w.heap.size+1]?=some (.cells #[.slice none 0 0] 31 (0,0)):=by
  have h:=heap_alloc_new (w.alloc (.cells #[.int .i64 T,.int .i64 P] 45)) (.cells #[.slice none 0 0] 31);rw[World.size_alloc]at h;rw[hw1];exact h
 have HK:=Hh (fun(W:World) (f:Fr NoM w1 W)=>(by
  have h0:=f.heap e0 (fun q=>q);have h1:=f.heap e1 (fun q=>q);exact⟨by rw[cell_of_row W _ 0 _ _ _ h0];rfl,by rw[cell_of_row W _ 1 _ _ _ h0];rfl,by rw[cell_of_row W _ 0 _ _ _ h1];rfl,by simp[World.frozen?,h1]⟩:W.cell? ⟨w.heap.size,0,none⟩=some (.int .i64 T)∧W.cell? ⟨w.heap.size,1,none⟩=some (.int .i64 P)∧W.cell? ⟨w.heap.size+1,0,none⟩=some (.slice none 0 0)∧W.frozen? ⟨w.heap.size+1,0,none⟩=false))
 have HGd:=Hh (l2Good_any T P w1 g hg);have F1:=Hh f1;have HS1:=Hh hs1;have HG:=Hh hg;have HOk:=Hh hok;clear f1 hs1 e0 e1 hg hok;obtain⟨k0,k1,k2,k3⟩:=HK.out w1 (Fr.refl _ _);go_enter Tryz.func51,Tryz.ntmps51;go_wp2_with fail;rw[←hw1];clear hw1;(with_reducible refine HGd.out.mono ?_);rintro e w2 ⟨rfl,f2⟩;have F2:=Hh f2;clear k0 k1 k2 k3 f2;obtain⟨k0,k1,k2,k3⟩:=HK.out w2 F2.out;cases g with
 | false =>
  have hk:ok=false:=by rw[HOk.out];rfl
  subst hk;have hRN:=HRN.out;rw[if_neg (by decide)]at hRN;subst hRN;go_wp2;refine bodyPost_ret (v:=.tuple #[.agg #[.slice none 0 0],.bool false]) (by simp[results,Tryz.results51,go_sem,k2,k3]) rfl ?_
  exact⟨_,rfl,⟨none,0,rfl,Nat.le_refl _,by decide,by simp⟩,(F1.out.trans F2.out (fun _ _ q=>q)).setCell _ _ (fun h=>by have h:w.heap.size+1<w.heap.size:=h;omega)⟩
 | true =>
  obtain⟨p,rfl,hp,hr,ht⟩:=(HG.out.1 rfl).nat;have HFm:=Hh (l7Form_any T p w2 hr ht hp);obtain⟨FN,hFN⟩:∃FN,FN=formD T p:=⟨_,rfl⟩;have hd:=formD_fits hr;rw[←hFN]at hd;have hk:ok=fitsB FN:=by rw[HOk.out,hd.1];rfl
  have hRN:RN=(if fitsB (numN T p)=true then numN T p else []):=by rw[HRN.out,hk,hd.1];rfl
  have HD:=Hh (hd.2.trans hRN.symm);have HFN:=Hh hFN;have HFit:=Hh hk;clear hp hr ht hd hFN hRN hk;go_wp2_with fail;(with_reducible refine HFm.out.mono ?_);rintro e w3 ⟨v,rfl,n3,f3⟩;rw[←HFN.out]at n3;have hI:=l3If_any v FN w3 n3;rw[HD.out,←HFit.out]at hI;have HI:=Hh hI;have F3:=Hh (F2.out.trans f3 (fun _ _ q=>q));obtain⟨va,vc,rfl,zz⟩:=id n3;clear zz n3 f3 k0 k1 k2 k3 hI;obtain⟨k0,k1,k2,k3⟩:=HK.out w3 F3.out;go_wp2_with fail;(with_reducible refine HI.out.mono ?_);rintro e w4 ⟨v',rfl,n4,f4⟩;have F4:=Hh (F3.out.trans f4 (fun _ _ q=>q));have HN4:=Hh n4;have HZ:=Hh (show w.heap.size+2≤w2.heap.size from by have:=F2.out.size;have:=HS1.out;omega);obtain⟨vb,vd,rfl,zz⟩:=id n4;clear zz n4 f4 k0 k1 k2 k3;obtain⟨k0,k1,k2,k3⟩:=HK.out w4 F4.out;go_wp2;refine bodyPost_ret (v:=.tuple #[.agg #[.slice vb RN.length vd],.bool ok]) (by simp[results,Tryz.results51,go_sem,k2,k3]) rfl ?_
  refine⟨_,rfl,?_,(F1.out.trans F4.out (fun _ _ q=>q)).setCell _ _ (fun h=>by have h:w.heap.size+1<w.heap.size:=h;omega)⟩;exact(HN4.out.fr (Fr.set w4 ⟨w.heap.size+1,0,none⟩ (.slice vb RN.length vd)) (fun q hq e=>by have e:q=w.heap.size+1:=e;have hq:w2.heap.size≤q:=hq;have:=HZ.out;omega)).mono (fun q hq=>by have hq:w2.heap.size≤q:=hq;have:=HZ.out;omega)
end Go.Proofs.YtbbbmjiloihajaaGreatDoor
