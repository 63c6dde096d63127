import Derived.Test.YtbbbmjiloihajaaGreatDoorZfSumFn
/- What the claim of FnMovedCard needs of: RefNumD RefRoot. -/
namespace Go.Proofs.YtbbbmjiloihajaaGreatDoor
set_option linter.unusedVariables false
set_option linter.unusedSimpArgs false
open Go.RowKit
set_option maxRecDepth 4000 in
set_option maxHeartbeats 8000000 in
theorem zmd (T P:Int)(w:World)(g:Bool)(hg:g=true↔GoodD T P)(ok:Bool)(hok:ok=(g && zam (numN T P.toNat))) :
  Calls Tryz.prog 51 #[.agg #[.int .i64 T,.int .i64 P]] w fun e w'=>∃v',e=.returned (.tuple #[.agg #[v'],.bool ok])/\NodeL (fun b=>w.heap.size≤b) encN w' v' (if ok=true then numN T P.toNat else [])/\Fr NoM w w':=by
 obtain⟨RN,hRN⟩:∃RN,RN=(if ok=true then numN T P.toNat else []):=⟨_,rfl⟩;rw[←hRN];have HRN:=Hh hRN;clear hRN;obtain⟨w1,hw1⟩:∃w1,w1=(w.alloc (.cells #[.int .i64 T,.int .i64 P] 45)).alloc (.cells #[.slice none 0 0] 31):=⟨_,rfl⟩;have f1:Fr NoM w w1:=by rw[hw1];exact((Fr.refl NoM w).alloc _).alloc _
 have hs1:w1.heap.size=w.heap.size+2:=by rw[hw1];simp
 have e0:w1.heap[w.heap.size]?=some (.cells #[.int .i64 T,.int .i64 P] 45 (0,0)):=by rw[hw1];exact((Fr.refl NoM _).alloc _).heap (heap_alloc_new w _) (fun q=>q)
 have e1:w1.heap[w.heap.size+1]?=some (.cells #[.slice none 0 0] 31 (0,0)):=by
  have h:=heap_alloc_new (w.alloc (.cells #[.int .i64 T,.int .i64 P] 45)) (.cells #[.slice none 0 0] 31);rw[World.size_alloc]at h;rw[hw1];exact h
 have HK:=Hh (fun(W:World) (f:Fr NoM w1 W)=>(by
  have h0:=f.heap e0 (fun q=>q);have h1:=f.heap e1 (fun q=>q);exact⟨by rw[cell_of_row W _ 0 _ _ _ h0];rfl,by rw[cell_of_row W _ 1 _ _ _ h0];rfl,by rw[cell_of_row W _ 0 _ _ _ h1];rfl,by simp[World.frozen?,h1]⟩:W.cell? ⟨w.heap.size,0,none⟩=some (.int .i64 T)/\W.cell? ⟨w.heap.size,1,none⟩=some (.int .i64 P)/\W.cell? ⟨w.heap.size+1,0,none⟩=some (.slice none 0 0)/\W.frozen? ⟨w.heap.size+1,0,none⟩=false))
 have HGd:=Hh (znm T P w1 g hg);have F1:=Hh f1;have HS1:=Hh hs1;have HG:=Hh hg;have HOk:=Hh hok;clear f1 hs1 e0 e1 hg hok;obtain⟨k0,k1,k2,k3⟩:=HK.out w1 (Fr.refl _ _);go_enter Tryz.func51,Tryz.ntmps51;go_wp2_with fail;rw[←hw1];clear hw1;(with_reducible refine HGd.out.mono ?_);rintro e w2 ⟨rfl,f2⟩;have F2:=Hh f2;clear k0 k1 k2 k3 f2;obtain⟨k0,k1,k2,k3⟩:=HK.out w2 F2.out;cases g with
 | false =>
  have hk:ok=false:=by rw[HOk.out];rfl
  subst hk;have hRN:=HRN.out;rw[if_neg (by decide)]at hRN;subst hRN;go_wp2;refine bodyPost_ret (v:=.tuple #[.agg #[.slice none 0 0],.bool false]) (by simp[results,Tryz.results51,go_sem,k2,k3]) rfl ?_
  exact⟨_,rfl,⟨none,0,rfl,Nat.le_refl _,by decide,by simp⟩,(F1.out.trans F2.out (fun _ _ q=>q)).setCell _ _ (fun h=>by have h:w.heap.size+1<w.heap.size:=h;omega)⟩
 | true =>
  obtain⟨p,rfl,hp,hr,ht⟩:=(HG.out.1 rfl).nat;have HFm:=Hh (zv4 T p w2 hr ht hp);obtain⟨FN,hFN⟩:∃FN,FN=zke T p:=⟨_,rfl⟩;have hd:=zvh hr;rw[←hFN]at hd;have hk:ok=zam FN:=by rw[HOk.out,hd.1];rfl
  have hRN:RN=(if zam (numN T p)=true then numN T p else []):=by rw[HRN.out,hk,hd.1];rfl
  have HD:=Hh (hd.2.trans hRN.symm);have HFN:=Hh hFN;have HFit:=Hh hk;clear hp hr ht hd hFN hRN hk;go_wp2_with fail;(with_reducible refine HFm.out.mono ?_);rintro e w3 ⟨v,rfl,n3,f3⟩;rw[←HFN.out]at n3;have hI:=ztq v FN w3 n3;rw[HD.out,←HFit.out]at hI;have HI:=Hh hI;have F3:=Hh (F2.out.trans f3 (fun _ _ q=>q));obtain⟨va,vc,rfl,zz⟩:=id n3;clear zz n3 f3 k0 k1 k2 k3 hI;obtain⟨k0,k1,k2,k3⟩:=HK.out w3 F3.out;go_wp2_with fail;(with_reducible refine HI.out.mono ?_);rintro e w4 ⟨v',rfl,n4,f4⟩;have F4:=Hh (F3.out.trans f4 (fun _ _ q=>q));have HN4:=Hh n4;have HZ:=Hh (show w.heap.size+2≤w2.heap.size from by have:=F2.out.size;have:=HS1.out;omega);obtain⟨vb,vd,rfl,zz⟩:=id n4;clear zz n4 f4 k0 k1 k2 k3;obtain⟨k0,k1,k2,k3⟩:=HK.out w4 F4.out;go_wp2;refine bodyPost_ret (v:=.tuple #[.agg #[.slice vb RN.length vd],.bool ok]) (by simp[results,Tryz.results51,go_sem,k2,k3]) rfl ?_
  refine⟨_,rfl,?_,(F1.out.trans F4.out (fun _ _ q=>q)).setCell _ _ (fun h=>by have h:w.heap.size+1<w.heap.size:=h;omega)⟩;exact(HN4.out.fr (Fr.set w4 ⟨w.heap.size+1,0,none⟩ (.slice vb RN.length vd)) (fun q hq e=>by have e:q=w.heap.size+1:=e;have hq:w2.heap.size≤q:=hq;have:=HZ.out;omega)).mono (fun q hq=>by have hq:w2.heap.size≤q:=hq;have:=HZ.out;omega)
section
variable {U:List Nat}{S:Nat→Prop}{w w':World}{bb:Nat}{V:List PL}{BV:List Nat}
end
end Go.Proofs.YtbbbmjiloihajaaGreatDoor
