import Derived.Test.YtbbbmjiloihajaaGreatDoorZfPlusLaw
/- What the claim of FnMovedCard needs of: PlusNum. -/
namespace Go.Proofs.YtbbbmjiloihajaaGreatDoor
set_option linter.unusedVariables false
set_option linter.unusedSimpArgs false
open Go.RowKit
theorem zyy {R S:Nat→Prop}{W W':World}{v1 v2:Value}{A B:List (List Int × List Int)}(h1:NodeL R encI W v1 A)(h2:NodeL S encI W v2 B)(hW:W'=W.alloc (.cells #[v1,v2] 31)) :
  FormsI (· < W'.heap.size) W' (.slice (some ⟨W.heap.size,0,none⟩) 2 2) [A,B]:=by
 have hb:W'.heap[W.heap.size]?=some (.cells #[v1,v2] 31 (0,0)):=by rw[hW];exact heap_alloc_new W _
 have f:Fr NoM W W':=by rw[hW];exact(Fr.refl NoM W).alloc _
 refine⟨[v1,v2],⟨some ⟨W.heap.size,0,none⟩,2,rfl,by simp,by decide,fun j u hu=>⟨W.heap.size,0,rfl,?_⟩⟩,rfl,fun j nv Fi hv hF=>?_⟩
 ·rw[Nat.zero_add,cell_of_row _ _ _ _ _ _ hb]
  match j,hu with
  | 0,hu=>cases hu;rfl
  | 1,hu=>cases hu;rfl
  | j+2,hu=>simp at hu
 ·match j,hv,hF with
  | 0,hv,hF=>cases hv;cases hF;exact(h1.fr0 f).low
  | 1,hv,hF=>cases hv;cases hF;exact(h2.fr0 f).low
  | j+2,hv,hF=>simp at hv
noncomputable def plV (chk ok:Bool)(Fi:List (List Int × List Int))(N:List PL):Option (List PL):=if ok=true then csR chk [Fi,i2 N]else none
theorem yas {Fi:List (List Int × List Int)}{T P:Int}{g ok:Bool}(hg:g=true↔GoodD T P)(hok:ok=(g && zam (numN T P.toNat))):plV true ok Fi (numN T P.toNat)=plV false ok Fi (numN T P.toNat):=by
 unfold plV;cases ok with
 | false=>rfl
 | true =>
  have h:g=true:=by simp at hok;exact hok.1
  obtain⟨p,rfl,hp,hr,ht⟩:=(hg.1 h).nat;rw[if_pos rfl,if_pos rfl];exact zxr Fi hr
set_option maxRecDepth 4000 in
set_option maxHeartbeats 4000000 in
theorem zpc {R:Nat→Prop}(v1:Value)(Fi:List (List Int × List Int))(T P:Int)(w:World)(h1:NodeL R encI w v1 Fi)(g:Bool)(hg:g=true↔GoodD T P)(ok:Bool)(hok:ok=(g && zam (numN T P.toNat)))(mr:Option (List PL))(hmr:mr=plV true ok Fi (numN T P.toNat)) :
  Calls Tryz.prog 45 #[.agg #[v1],.agg #[.int .i64 T,.int .i64 P]] w fun e w'=>∃v',e=.returned (.tuple #[.agg #[v'],.bool mr.isSome])/\NodesS w.heap.size w' v' (mr.getD [])/\Fr NoM w w':=by
 obtain⟨w1,hw1⟩:∃w1,w1=((w.alloc (.cells #[v1] 31)).alloc (.cells #[.int .i64 T,.int .i64 P] 45)).alloc (.cells #[.slice none 0 0] 31):=⟨_,rfl⟩;have f1:Fr NoM w w1:=by rw[hw1];exact(((Fr.refl NoM w).alloc _).alloc _).alloc _
 have hs1:w1.heap.size=w.heap.size+3:=by rw[hw1];simp
 have e0:w1.heap[w.heap.size]?=some (.cells #[v1] 31 (0,0)):=by rw[hw1];exact(((Fr.refl NoM _).alloc _).alloc _).heap (heap_alloc_new w _) (fun q=>q)
 have e2:w1.heap[w.heap.size+1+1]?=some (.cells #[.slice none 0 0] 31 (0,0)):=by
  have h:=heap_alloc_new ((w.alloc (.cells #[v1] 31)).alloc (.cells #[.int .i64 T,.int .i64 P] 45)) (.cells #[.slice none 0 0] 31);rw[World.size_alloc,World.size_alloc]at h;rw[hw1];exact h
 have HK:=Hh (fun(W:World) (f:Fr NoM w1 W)=>(by
  have h0:=f.heap e0 (fun q=>q);have h2:=f.heap e2 (fun q=>q);exact⟨by rw[cell_of_row W _ 0 _ _ _ h0];rfl,by rw[cell_of_row W _ 0 _ _ _ h2];rfl,by simp[World.frozen?,h2]⟩:W.cell? ⟨w.heap.size,0,none⟩=some v1/\W.cell? ⟨w.heap.size+1+1,0,none⟩=some (.slice none 0 0)/\W.frozen? ⟨w.heap.size+1+1,0,none⟩=false))
 have HN1:=Hh (fun(W:World) (f:Fr NoM w1 W)=>((h1.fr0 f1).fr0 f:NodeL R encI W v1 Fi));obtain⟨RN,hRN⟩:∃RN,RN=(if ok=true then numN T P.toNat else []):=⟨_,rfl⟩;have hnf:=fun(W:World)=>zme T P W g hg ok hok
 rw[←hRN]at hnf;have HNf:=Hh hnf;have HRN:=Hh hRN;have F1:=Hh f1;have HS1:=Hh hs1;have HMr:=Hh hmr;obtain⟨a1,c1,rfl,z⟩:=id h1;clear z h1 f1 hs1 e0 e2 hnf hRN hmr hok hg;go_enter Tryz.func45,Tryz.ntmps45;go_wp2_with fail;rw[←hw1];clear hw1;(with_reducible refine(HNf.out w1).mono ?_);rintro e w2 ⟨v2,rfl,n2',f2⟩;have n2:=n2'.nodeL;obtain⟨a2,c2,rfl,z⟩:=id n2;obtain⟨w3,hw3⟩:∃w3,w3=w2.alloc (.cells #[.slice a2 RN.length c2] 31):=⟨_,rfl⟩;have f3:Fr NoM w2 w3:=by rw[hw3];exact(Fr.refl NoM w2).alloc _
 have F3:=Hh (f2.trans f3 (fun _ _ q=>q));have HN2:=Hh (n2.fr0 f3);have e3:w3.heap[w2.heap.size]?=some (.cells #[.slice a2 RN.length c2] 31 (0,0)):=by rw[hw3];exact heap_alloc_new w2 _
 have k2:w3.cell? ⟨w2.heap.size,0,none⟩=some (.slice a2 RN.length c2):=by rw[cell_of_row w3 _ 0 _ _ _ e3];rfl
 have K2:=Hh k2;clear z n2 n2' f2 f3 e3 k2;go_upto_region 2 with fail;rw[←hw3];clear hw3;cases ok with
 | false =>
  have h1:mr=none:=by rw[HMr.out];rfl
  subst h1;obtain⟨k0,k3,k4⟩:=HK.out w3 F3.out;go_wp2_with fail;refine bodyPost_ret (v:=.tuple #[.agg #[.slice none 0 0],.bool false]) (by simp[results,Tryz.results45,go_sem,k3,k4]) rfl ?_
  exact⟨_,rfl,NodesS.nil _ _,(F1.out.trans F3.out (fun _ _ q=>q)).setCell _ _ (fun h=>by have h:w.heap.size+1+1<w.heap.size:=h;omega)⟩
 | true =>
  have hrn:RN=numN T P.toNat:=by rw[HRN.out];rfl
  have hmc:mr=csR true [Fi,i2 RN]:=by rw[HMr.out,hrn];rfl
  obtain⟨w4,hw4⟩:∃w4,w4=w3.alloc (.cells #[.slice a1 Fi.length c1,.slice a2 RN.length c2] 31):=⟨_,rfl⟩;have f4:Fr NoM w3 w4:=by rw[hw4];exact(Fr.refl NoM w3).alloc _
  have HCs:=Hh (zsf _ [Fi,i2 RN] w4 (zyy (HN1.out w3 F3.out) HN2.out.toI hw4) mr hmc);have F4:=Hh (F3.out.trans f4 (fun _ _ q=>q));clear hrn hmc f4;obtain⟨k0,k3,k4⟩:=HK.out w3 F3.out;have k2:=K2.out;go_wp2_with fail;rw[←hw4];clear hw4 k0 k2 k3 k4;(with_reducible refine HCs.out.mono ?_);rintro e w5 ⟨v',rfl,n5,f5⟩;obtain⟨okm,hokm⟩:∃okm,okm=mr.isSome:=⟨_,rfl⟩;obtain⟨FN,hFN⟩:∃FN,FN=mr.getD []:=⟨_,rfl⟩;rw[←hokm];rw[←hFN]at n5;have HFe:=Hh hFN;have HOm:=Hh hokm;obtain⟨an,cn,rfl,zz⟩:=id n5.nodeL;have HN5:=Hh n5;have F5:=Hh (F4.out.trans f5 (fun _ _ q=>q));have HZ:=Hh (show w.heap.size+3≤w4.heap.size from by have:=F4.out.size;have:=HS1.out;omega);clear zz n5 f5 hokm hFN;obtain⟨k0,k3,k4⟩:=HK.out w5 F5.out;go_wp2_with fail;refine bodyPost_ret (v:=.tuple #[.agg #[.slice an FN.length cn],.bool okm]) (by simp[results,Tryz.results45,go_sem,k3,k4]) rfl ?_
  refine⟨_,by rw[HOm.out],?_,(F1.out.trans F5.out (fun _ _ q=>q)).setCell _ _ (fun h=>by have h:w.heap.size+1+1<w.heap.size:=h;omega)⟩;rw[←HFe.out];exact(HN5.out.fr (Fr.set w5 ⟨w.heap.size+1+1,0,none⟩ _) (fun q hq _ e=>by have e:q=w.heap.size+1+1:=e;have:=HZ.out;omega)).base (D':=w.heap.size) (by have:=HZ.out;omega)
set_option maxRecDepth 4000 in
set_option maxHeartbeats 4000000 in
theorem zpb {R:Nat→Prop}(v1:Value)(Fi:List (List Int × List Int))(T P:Int)(w:World)(h1:NodeL R encI w v1 Fi)(g:Bool)(hg:g=true↔GoodD T P)(ok:Bool)(hok:ok=(g && zam (numN T P.toNat)))(mr:Option (List PL))(hmr:mr=plV false ok Fi (numN T P.toNat)) :
  Calls Tryz.prog 44 #[.agg #[v1],.agg #[.int .i64 T,.int .i64 P]] w fun e w'=>∃v',e=.returned (.tuple #[.agg #[v'],.bool mr.isSome])/\NodeL (fun b=>w.heap.size≤b) encN w' v' (mr.getD [])/\Fr NoM w w':=by
 obtain⟨w1,hw1⟩:∃w1,w1=((w.alloc (.cells #[v1] 31)).alloc (.cells #[.int .i64 T,.int .i64 P] 45)).alloc (.cells #[.slice none 0 0] 31):=⟨_,rfl⟩;have f1:Fr NoM w w1:=by rw[hw1];exact(((Fr.refl NoM w).alloc _).alloc _).alloc _
 have hs1:w1.heap.size=w.heap.size+3:=by rw[hw1];simp
 have e0:w1.heap[w.heap.size]?=some (.cells #[v1] 31 (0,0)):=by rw[hw1];exact(((Fr.refl NoM _).alloc _).alloc _).heap (heap_alloc_new w _) (fun q=>q)
 have e2:w1.heap[w.heap.size+1+1]?=some (.cells #[.slice none 0 0] 31 (0,0)):=by
  have h:=heap_alloc_new ((w.alloc (.cells #[v1] 31)).alloc (.cells #[.int .i64 T,.int .i64 P] 45)) (.cells #[.slice none 0 0] 31);rw[World.size_alloc,World.size_alloc]at h;rw[hw1];exact h
 have HK:=Hh (fun(W:World) (f:Fr NoM w1 W)=>(by
  have h0:=f.heap e0 (fun q=>q);have h2:=f.heap e2 (fun q=>q);exact⟨by rw[cell_of_row W _ 0 _ _ _ h0];rfl,by rw[cell_of_row W _ 0 _ _ _ h2];rfl,by simp[World.frozen?,h2]⟩:W.cell? ⟨w.heap.size,0,none⟩=some v1/\W.cell? ⟨w.heap.size+1+1,0,none⟩=some (.slice none 0 0)/\W.frozen? ⟨w.heap.size+1+1,0,none⟩=false))
 have HN1:=Hh (fun(W:World) (f:Fr NoM w1 W)=>((h1.fr0 f1).fr0 f:NodeL R encI W v1 Fi));obtain⟨RN,hRN⟩:∃RN,RN=(if ok=true then numN T P.toNat else []):=⟨_,rfl⟩;have hnf:=fun(W:World)=>zmd T P W g hg ok hok
 rw[←hRN]at hnf;have HNf:=Hh hnf;have HRN:=Hh hRN;have F1:=Hh f1;have HS1:=Hh hs1;have HMr:=Hh hmr;obtain⟨a1,c1,rfl,z⟩:=id h1;clear z h1 f1 hs1 e0 e2 hnf hRN hmr hok hg;go_enter Tryz.func44,Tryz.ntmps44;go_wp2_with fail;rw[←hw1];clear hw1;(with_reducible refine(HNf.out w1).mono ?_);rintro e w2 ⟨v2,rfl,n2,f2⟩;obtain⟨a2,c2,rfl,z⟩:=id n2;obtain⟨w3,hw3⟩:∃w3,w3=w2.alloc (.cells #[.slice a2 RN.length c2] 31):=⟨_,rfl⟩;have f3:Fr NoM w2 w3:=by rw[hw3];exact(Fr.refl NoM w2).alloc _
 have F3:=Hh (f2.trans f3 (fun _ _ q=>q));have HN2:=Hh (n2.fr0 f3);have e3:w3.heap[w2.heap.size]?=some (.cells #[.slice a2 RN.length c2] 31 (0,0)):=by rw[hw3];exact heap_alloc_new w2 _
 have k2:w3.cell? ⟨w2.heap.size,0,none⟩=some (.slice a2 RN.length c2):=by rw[cell_of_row w3 _ 0 _ _ _ e3];rfl
 have K2:=Hh k2;clear z n2 f2 f3 e3 k2;go_upto_region 2 with fail;rw[←hw3];clear hw3;cases ok with
 | false =>
  have h1:mr=none:=by rw[HMr.out];rfl
  subst h1;obtain⟨k0,k3,k4⟩:=HK.out w3 F3.out;go_wp2_with fail;refine bodyPost_ret (v:=.tuple #[.agg #[.slice none 0 0],.bool false]) (by simp[results,Tryz.results44,go_sem,k3,k4]) rfl ?_
  exact⟨_,rfl,⟨none,0,rfl,Nat.le_refl _,by decide,by simp⟩,(F1.out.trans F3.out (fun _ _ q=>q)).setCell _ _ (fun h=>by have h:w.heap.size+1+1<w.heap.size:=h;omega)⟩
 | true =>
  have hrn:RN=numN T P.toNat:=by rw[HRN.out];rfl
  have hmc:mr=csR false [Fi,i2 RN]:=by rw[HMr.out,hrn];rfl
  obtain⟨w4,hw4⟩:∃w4,w4=w3.alloc (.cells #[.slice a1 Fi.length c1,.slice a2 RN.length c2] 31):=⟨_,rfl⟩;have f4:Fr NoM w3 w4:=by rw[hw4];exact(Fr.refl NoM w3).alloc _
  have HCs:=Hh (zse _ [Fi,i2 RN] w4 (zyy (HN1.out w3 F3.out) HN2.out.toI hw4) mr hmc);have F4:=Hh (F3.out.trans f4 (fun _ _ q=>q));clear hrn hmc f4;obtain⟨k0,k3,k4⟩:=HK.out w3 F3.out;have k2:=K2.out;go_wp2_with fail;rw[←hw4];clear hw4 k0 k2 k3 k4;(with_reducible refine HCs.out.mono ?_);rintro e w5 ⟨v',rfl,n5,f5⟩;obtain⟨okm,hokm⟩:∃okm,okm=mr.isSome:=⟨_,rfl⟩;obtain⟨FN,hFN⟩:∃FN,FN=mr.getD []:=⟨_,rfl⟩;rw[←hokm];rw[←hFN]at n5;have HFe:=Hh hFN;have HOm:=Hh hokm;obtain⟨an,cn,rfl,zz⟩:=id n5;have HN5:=Hh n5;have F5:=Hh (F4.out.trans f5 (fun _ _ q=>q));have HZ:=Hh (show w.heap.size+3≤w4.heap.size from by have:=F4.out.size;have:=HS1.out;omega);clear zz n5 f5 hokm hFN;obtain⟨k0,k3,k4⟩:=HK.out w5 F5.out;go_wp2_with fail;refine bodyPost_ret (v:=.tuple #[.agg #[.slice an FN.length cn],.bool okm]) (by simp[results,Tryz.results44,go_sem,k3,k4]) rfl ?_
  refine⟨_,by rw[HOm.out],?_,(F1.out.trans F5.out (fun _ _ q=>q)).setCell _ _ (fun h=>by have h:w.heap.size+1+1<w.heap.size:=h;omega)⟩;rw[←HFe.out];exact(HN5.out.fr (Fr.set w5 ⟨w.heap.size+1+1,0,none⟩ _) (fun q hq e=>by have e:q=w.heap.size+1+1:=e;have hq:w4.heap.size≤q:=hq;have:=HZ.out;omega)).mono (fun q hq=>by have hq:w4.heap.size≤q:=hq;have:=HZ.out;omega)
end Go.Proofs.YtbbbmjiloihajaaGreatDoor
