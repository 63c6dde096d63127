import Derived.Test.YtghekfmfonoocaaGreatDoorZt11
import Derived.Test.YtghekfmfonoocaaGreatDoorZtz
/- Lemmas. -/
namespace Go.Proofs.YtghekfmfonoocaaGreatDoor
set_option linter.unusedVariables false
set_option linter.unusedSimpArgs false
open Go.RowKit
section
variable {U:List Nat}{S:Nat→Prop}{w w':World}{bb:Nat}{V:List PL}{BV:List Nat}
end
theorem zzm {R S:Nat→Prop}{W W':World}{v1 v2:Value}{A B:List (List Int × List Int)}(h1:NodeL R encI W v1 A)(h2:NodeL S encI W v2 B)(hW:W'=W.alloc (.cells #[v1,v2] 26)) :
  FormsI (· < W'.heap.size) W' (.slice (some ⟨W.heap.size,0,none⟩) 2 2) [A,B]:=by
 have hb:W'.heap[W.heap.size]?=some (.cells #[v1,v2] 26 (0,0)):=by rw[hW];exact heap_alloc_new W _
 have f:Fr NoM W W':=by rw[hW];exact(Fr.refl NoM W).alloc _
 refine⟨[v1,v2],⟨some ⟨W.heap.size,0,none⟩,2,rfl,by simp,by decide,fun j u hu=>⟨W.heap.size,0,rfl,?_⟩⟩,rfl,fun j nv Fi hv hF=>?_⟩
 ·rw[Nat.zero_add,cell_of_row _ _ _ _ _ _ hb]
  match j,hu with
  | 0,hu=>cases hu;rfl
  | 1,hu=>cases hu;rfl
  | j+2,hu=>simp at hu
 ·match j,hv,hF with
  | 0,hv,hF=>cases hv;cases hF;exact(h1.fr0 f).low
  | 1,hv,hF=>cases hv;cases hF;exact(h2.fr0 f).low
  | j+2,hv,hF=>simp at hv
noncomputable def nsV (chk ok:Bool)(N:List PL)(c:Nat):Option (List PL):=if ok=true then csR chk [i2 N,i2 (zac c)]else none
def NsOk (T P n s:Int)(ok:Bool):Prop:=ok=true↔GoodD T P/\zam (numN T P.toNat)=true∧-12≤n/\n≤12/\0≤s/\s≤15
theorem yca {l:List (List (List Int × List Int))}{k:Nat}:∀Fs,csF true (l.take k)=some Fs→zam Fs=true:=by
 induction k with
 | zero =>
  intro Fs h;rw[List.take_zero]at h;obtain rfl:[([],[])]=Fs:=Option.some.inj h;decide
 | succ k ih =>
  intro Fs h;by_cases hk:k<l.length
  ·rw[ya1 hk]at h
   cases hc:csF true (l.take k)with
   | none=>rw[hc]at h;cases h
   | some Gs =>
    rw[hc]at h;by_cases q:zbf l[k]/\zf9 (i2 Gs) (i2 (csC l[k]))=true/\(true=true→zam (canN (csS Gs l[k]))=true)
    ·rw[zg8 q.1 q.2.1 q.2.2]at h
     obtain rfl:=Option.some.inj h;exact q.2.2 rfl
    ·rw[zgz q]at h;cases h
  ·rw[List.take_of_length_le (by omega)]at h ih
   exact ih Fs h
theorem yb8 {T P n s:Int}{ok:Bool}(hok:NsOk T P n s ok):nsV true ok (numN T P.toNat) (uqC n s.toNat)=nsV false ok (numN T P.toNat) (uqC n s.toNat):=by
 unfold nsV;cases ok with
 | false=>rfl
 | true =>
  obtain⟨p,rfl,hp,hr,ht⟩:=(hok.1 rfl).1.nat;rw[if_pos rfl,if_pos rfl];exact yb6 _ hr
theorem yb9 {ok:Bool}{N Fs:List PL}{c:Nat}(h:nsV true ok N c=some Fs):zam Fs=true:=by
 unfold nsV at h;cases ok with
 | false=>cases h
 | true =>
  rw[if_pos rfl]at h;unfold csR at h;rw[if_pos (by simp)]at h;exact yca (l:=[i2 N,i2 (zac c)]) (k:=2) Fs h
theorem zty {T P n s:Int}{g ok:Bool}(hg:g=true↔GoodD T P)(hok:NsOk T P n s ok):ok=((g && zam (numN T P.toNat)) && upOk n s):=by
 have h:ok=true↔((g && zam (numN T P.toNat)) && upOk n s)=true:=by
  rw[Bool.and_eq_true,Bool.and_eq_true,hg];unfold upOk betw;rw[Bool.and_eq_true,decide_eq_true_iff,decide_eq_true_iff];refine hok.trans ⟨fun⟨h1,h2,h3,h4,h5,h6⟩=>⟨⟨h1,h2⟩,⟨h3,h4⟩,h5,h6⟩,fun⟨⟨h1,h2⟩,⟨h3,h4⟩,h5,h6⟩=>⟨h1,h2,h3,h4,h5,h6⟩⟩
 exact Bool.eq_iff_iff.2 h
theorem yba (T P n s:Int):∃ok:Bool,NsOk T P n s ok:=by
 by_cases h:GoodD T P/\zam (numN T P.toNat)=true∧-12≤n/\n≤12/\0≤s/\s≤15
 ·exact⟨true,fun _=>h,fun _=>rfl⟩
 ·exact⟨false,⟨fun e=>absurd e (by simp),fun e=>absurd e h⟩⟩
set_option maxRecDepth 4000 in
set_option maxHeartbeats 8000000 in
theorem zpq (T P n s:Int)(w:World)(ok:Bool)(hok:NsOk T P n s ok)(mr:Option (List PL))(hmr:mr=nsV true ok (numN T P.toNat) (uqC n s.toNat)) :
  Calls Tryz.prog 8 #[.agg #[.int .i64 T,.int .i64 P],.int .i64 n,.int .i64 s] w fun e w'=>∃v',e=.returned (.tuple #[.agg #[v'],.bool mr.isSome])/\NodesS w.heap.size w' v' (mr.getD [])/\Fr NoM w w':=by
 obtain⟨g,hg⟩:=zmt T P;have hand:=zty hg hok;obtain⟨ok1,hok1⟩:∃o,o=(g && zam (numN T P.toNat)):=⟨_,rfl⟩;obtain⟨ok2,hok2⟩:∃o,o=upOk n s:=⟨_,rfl⟩;rw[←hok1,←hok2]at hand;obtain⟨w1,hw1⟩:∃w1,w1=(w.alloc (.cells #[.int .i64 T,.int .i64 P] 29)).alloc (.cells #[.slice none 0 0] 26):=⟨_,rfl⟩;have f1:Fr NoM w w1:=by rw[hw1];exact((Fr.refl NoM w).alloc _).alloc _
 have hs1:w1.heap.size=w.heap.size+2:=by rw[hw1];simp
 have e2:w1.heap[w.heap.size+1]?=some (.cells #[.slice none 0 0] 26 (0,0)):=by
  have h:=heap_alloc_new (w.alloc (.cells #[.int .i64 T,.int .i64 P] 29)) (.cells #[.slice none 0 0] 26);rw[World.size_alloc]at h;rw[hw1];exact h
 have HK:=Hh (fun(W:World) (f:Fr NoM w1 W)=>(by
  have h2:=f.heap e2 (fun q=>q);exact⟨by rw[cell_of_row W _ 0 _ _ _ h2];rfl,by simp[World.frozen?,h2]⟩:W.cell? ⟨w.heap.size+1,0,none⟩=some (.slice none 0 0)/\W.frozen? ⟨w.heap.size+1,0,none⟩=false))
 obtain⟨RN,hRN⟩:∃RN,RN=(if ok1=true then numN T P.toNat else []):=⟨_,rfl⟩;obtain⟨UN,hUN⟩:∃UN,UN=(if ok2=true then zac (uqC n s.toNat)else []):=⟨_,rfl⟩;have hnf:=fun(W:World)=>zmh T P W g hg ok1 hok1
 rw[←hRN]at hnf;have huf:=fun(W:World)=>ydc n s W ok2 hok2
 unfold zt7 at huf;rw[←hUN]at huf;have HNf:=Hh hnf;have HUf:=Hh huf;have HRN:=Hh hRN;have HUN:=Hh hUN;have F1:=Hh f1;have HS1:=Hh hs1;have HAn:=Hh hand;have HMr:=Hh hmr;clear f1 hs1 e2 hnf huf hRN hUN hand hmr hok hok1 hok2 hg;go_enter Tryz.func8,Tryz.ntmps8;go_wp2_with fail;rw[←hw1];clear hw1;(with_reducible refine(HNf.out w1).mono ?_);rintro e w2 ⟨v2,rfl,n2',f2⟩;have n2:=n2'.nodeL;obtain⟨a2,c2,rfl,z⟩:=id n2;obtain⟨w3,hw3⟩:∃w3,w3=w2.alloc (.cells #[.slice a2 RN.length c2] 26):=⟨_,rfl⟩;obtain⟨b2,hb2⟩:∃b,b=w2.heap.size:=⟨_,rfl⟩;have f3:Fr NoM w2 w3:=by rw[hw3];exact(Fr.refl NoM w2).alloc _
 have F3:=Hh (f2.trans f3 (fun _ _ q=>q));have HN2:=Hh (fun(W:World) (f:Fr NoM w3 W)=>(n2.fr0 f3).fr0 f);have e3:w3.heap[b2]?=some (.cells #[.slice a2 RN.length c2] 26 (0,0)):=by rw[hw3,hb2];exact heap_alloc_new w2 _
 have K2:=Hh (fun(W:World) (f:Fr NoM w3 W)=>show W.cell? ⟨b2,0,none⟩=some (.slice a2 RN.length c2)from by rw[cell_of_row W _ 0 _ _ _ (f.heap e3 (fun q=>q))];rfl);clear z n2 n2' f2 f3 e3;go_upto_region 2 with fail;rw[←hw3,←hb2];clear hw3 hb2;go_wp2_with fail;(with_reducible refine(HUf.out w3).mono ?_);rintro e w4 ⟨v4,rfl,n4',f4⟩;have n4:=n4'.nodeL;obtain⟨a4,c4,rfl,z⟩:=id n4;obtain⟨w5,hw5⟩:∃w5,w5=w4.alloc (.cells #[.slice a4 UN.length c4] 26):=⟨_,rfl⟩;obtain⟨b4,hb4⟩:∃b,b=w4.heap.size:=⟨_,rfl⟩;have f5:Fr NoM w4 w5:=by rw[hw5];exact(Fr.refl NoM w4).alloc _
 have F5:=Hh (f4.trans f5 (fun _ _ q=>q));have HN4:=Hh (n4.fr0 f5);have e5:w5.heap[b4]?=some (.cells #[.slice a4 UN.length c4] 26 (0,0)):=by rw[hw5,hb4];exact heap_alloc_new w4 _
 have K4:=Hh (show w5.cell? ⟨b4,0,none⟩=some (.slice a4 UN.length c4)from by rw[cell_of_row w5 _ 0 _ _ _ e5];rfl);clear z n4 n4' f4 f5 e5;go_upto_region 3 with fail;rw[←hw5,←hb4];clear hw5 hb4;have HNo:=Hh (fun(h:ok=false)=>show ∃v',Ending.returned (.tuple #[.agg #[.slice none 0 0],.bool false])=.returned (.tuple #[.agg #[v'],.bool mr.isSome])/\NodesS w.heap.size (w5.setCell ⟨w.heap.size+1,0,none⟩ (.slice none 0 0)) v' (mr.getD [])/\Fr NoM w (w5.setCell ⟨w.heap.size+1,0,none⟩ (.slice none 0 0))from by
  have h1:mr=none:=by rw[HMr.out,h];rfl
  subst h1;exact⟨_,rfl,NodesS.nil _ _,(F1.out.trans (F3.out.trans F5.out (fun _ _ q=>q)) (fun _ _ q=>q)).setCell _ _ (fun h=>by have h:w.heap.size+1<w.heap.size:=h;omega)⟩)
 cases ok1 with
 | false =>
  have HE:=Hh (HNo.out HAn.out);obtain⟨k3,k4⟩:=HK.out w5 (F3.out.trans F5.out (fun _ _ q=>q));go_wp2_with fail;refine bodyPost_ret (v:=.tuple #[.agg #[.slice none 0 0],.bool false]) (by simp[results,Tryz.results8,go_sem,k3,k4]) rfl ?_
  exact HE.out
 | true =>
 cases ok2 with
 | false =>
  have HE:=Hh (HNo.out HAn.out);obtain⟨k3,k4⟩:=HK.out w5 (F3.out.trans F5.out (fun _ _ q=>q));go_wp2_with fail;refine bodyPost_ret (v:=.tuple #[.agg #[.slice none 0 0],.bool false]) (by simp[results,Tryz.results8,go_sem,k3,k4]) rfl ?_
  exact HE.out
 | true =>
  have hk:ok=true:=HAn.out;have hrn:RN=numN T P.toNat:=by rw[HRN.out];rfl
  have hun:UN=zac (uqC n s.toNat):=by rw[HUN.out];rfl
  have hmc:mr=csR true [i2 RN,i2 UN]:=by rw[HMr.out,hk,hrn,hun];rfl
  obtain⟨w6,hw6⟩:∃w6,w6=w5.alloc (.cells #[.slice a2 RN.length c2,.slice a4 UN.length c4] 26):=⟨_,rfl⟩;have f6:Fr NoM w5 w6:=by rw[hw6];exact(Fr.refl NoM w5).alloc _
  have HCs:=Hh (zt0 _ [i2 RN,i2 UN] w6 (zzm (HN2.out w5 F5.out).toI HN4.out.toI hw6) mr hmc);have F6:=Hh ((F3.out.trans F5.out (fun _ _ q=>q)).trans f6 (fun _ _ q=>q));clear hk hrn hun hmc f6 HNo;have k2:=K2.out w5 F5.out;have k4:=K4.out;go_wp2_with fail;rw[←hw6];clear hw6 k2 k4;(with_reducible refine HCs.out.mono ?_);rintro e w7 ⟨v',rfl,n7,f7⟩;obtain⟨okm,hokm⟩:∃okm,okm=mr.isSome:=⟨_,rfl⟩;obtain⟨FN,hFN⟩:∃FN,FN=mr.getD []:=⟨_,rfl⟩;rw[←hokm];rw[←hFN]at n7;have HFe:=Hh hFN;have HOm:=Hh hokm;obtain⟨an,cn,rfl,zz⟩:=id n7.nodeL;have HN7:=Hh n7;have F7:=Hh (F6.out.trans f7 (fun _ _ q=>q));have HZ:=Hh (show w.heap.size+2≤w6.heap.size from by have:=F6.out.size;have:=HS1.out;omega);clear zz n7 f7 hokm hFN;obtain⟨k3,k4⟩:=HK.out w7 F7.out;go_wp2_with fail;refine bodyPost_ret (v:=.tuple #[.agg #[.slice an FN.length cn],.bool okm]) (by simp[results,Tryz.results8,go_sem,k3,k4]) rfl ?_
  refine⟨_,by rw[HOm.out],?_,(F1.out.trans F7.out (fun _ _ q=>q)).setCell _ _ (fun h=>by have h:w.heap.size+1<w.heap.size:=h;omega)⟩;rw[←HFe.out];exact(HN7.out.fr (Fr.set w7 ⟨w.heap.size+1,0,none⟩ _) (fun q hq _ e=>by have e:q=w.heap.size+1:=e;have:=HZ.out;omega)).base (D':=w.heap.size) (by have:=HZ.out;omega)
set_option maxRecDepth 4000 in
set_option maxHeartbeats 8000000 in
theorem zpp (T P n s:Int)(w:World)(ok:Bool)(hok:NsOk T P n s ok)(mr:Option (List PL))(hmr:mr=nsV false ok (numN T P.toNat) (uqC n s.toNat)) :
  Calls Tryz.prog 6 #[.agg #[.int .i64 T,.int .i64 P],.int .i64 n,.int .i64 s] w fun e w'=>∃v',e=.returned (.tuple #[.agg #[v'],.bool mr.isSome])/\NodeL (fun b=>w.heap.size≤b) encN w' v' (mr.getD [])/\Fr NoM w w':=by
 obtain⟨g,hg⟩:=zmt T P;have hand:=zty hg hok;obtain⟨ok1,hok1⟩:∃o,o=(g && zam (numN T P.toNat)):=⟨_,rfl⟩;obtain⟨ok2,hok2⟩:∃o,o=upOk n s:=⟨_,rfl⟩;rw[←hok1,←hok2]at hand;obtain⟨w1,hw1⟩:∃w1,w1=(w.alloc (.cells #[.int .i64 T,.int .i64 P] 29)).alloc (.cells #[.slice none 0 0] 26):=⟨_,rfl⟩;have f1:Fr NoM w w1:=by rw[hw1];exact((Fr.refl NoM w).alloc _).alloc _
 have hs1:w1.heap.size=w.heap.size+2:=by rw[hw1];simp
 have e2:w1.heap[w.heap.size+1]?=some (.cells #[.slice none 0 0] 26 (0,0)):=by
  have h:=heap_alloc_new (w.alloc (.cells #[.int .i64 T,.int .i64 P] 29)) (.cells #[.slice none 0 0] 26);rw[World.size_alloc]at h;rw[hw1];exact h
 have HK:=Hh (fun(W:World) (f:Fr NoM w1 W)=>(by
  have h2:=f.heap e2 (fun q=>q);exact⟨by rw[cell_of_row W _ 0 _ _ _ h2];rfl,by simp[World.frozen?,h2]⟩:W.cell? ⟨w.heap.size+1,0,none⟩=some (.slice none 0 0)/\W.frozen? ⟨w.heap.size+1,0,none⟩=false))
 obtain⟨RN,hRN⟩:∃RN,RN=(if ok1=true then numN T P.toNat else []):=⟨_,rfl⟩;obtain⟨UN,hUN⟩:∃UN,UN=(if ok2=true then zac (uqC n s.toNat)else []):=⟨_,rfl⟩;have hnf:=fun(W:World)=>zmg T P W g hg ok1 hok1
 rw[←hRN]at hnf;have huf:=fun(W:World)=>ydb n s W ok2 hok2
 unfold zt6 at huf;rw[←hUN]at huf;have HNf:=Hh hnf;have HUf:=Hh huf;have HRN:=Hh hRN;have HUN:=Hh hUN;have F1:=Hh f1;have HS1:=Hh hs1;have HAn:=Hh hand;have HMr:=Hh hmr;clear f1 hs1 e2 hnf huf hRN hUN hand hmr hok hok1 hok2 hg;go_enter Tryz.func6,Tryz.ntmps6;go_wp2_with fail;rw[←hw1];clear hw1;(with_reducible refine(HNf.out w1).mono ?_);rintro e w2 ⟨v2,rfl,n2',f2⟩;have n2:=n2';obtain⟨a2,c2,rfl,z⟩:=id n2;obtain⟨w3,hw3⟩:∃w3,w3=w2.alloc (.cells #[.slice a2 RN.length c2] 26):=⟨_,rfl⟩;obtain⟨b2,hb2⟩:∃b,b=w2.heap.size:=⟨_,rfl⟩;have f3:Fr NoM w2 w3:=by rw[hw3];exact(Fr.refl NoM w2).alloc _
 have F3:=Hh (f2.trans f3 (fun _ _ q=>q));have HN2:=Hh (fun(W:World) (f:Fr NoM w3 W)=>(n2.fr0 f3).fr0 f);have e3:w3.heap[b2]?=some (.cells #[.slice a2 RN.length c2] 26 (0,0)):=by rw[hw3,hb2];exact heap_alloc_new w2 _
 have K2:=Hh (fun(W:World) (f:Fr NoM w3 W)=>show W.cell? ⟨b2,0,none⟩=some (.slice a2 RN.length c2)from by rw[cell_of_row W _ 0 _ _ _ (f.heap e3 (fun q=>q))];rfl);clear z n2 n2' f2 f3 e3;go_upto_region 2 with fail;rw[←hw3,←hb2];clear hw3 hb2;go_wp2_with fail;(with_reducible refine(HUf.out w3).mono ?_);rintro e w4 ⟨v4,rfl,n4',f4⟩;have n4:=n4';obtain⟨a4,c4,rfl,z⟩:=id n4;obtain⟨w5,hw5⟩:∃w5,w5=w4.alloc (.cells #[.slice a4 UN.length c4] 26):=⟨_,rfl⟩;obtain⟨b4,hb4⟩:∃b,b=w4.heap.size:=⟨_,rfl⟩;have f5:Fr NoM w4 w5:=by rw[hw5];exact(Fr.refl NoM w4).alloc _
 have F5:=Hh (f4.trans f5 (fun _ _ q=>q));have HN4:=Hh (n4.fr0 f5);have e5:w5.heap[b4]?=some (.cells #[.slice a4 UN.length c4] 26 (0,0)):=by rw[hw5,hb4];exact heap_alloc_new w4 _
 have K4:=Hh (show w5.cell? ⟨b4,0,none⟩=some (.slice a4 UN.length c4)from by rw[cell_of_row w5 _ 0 _ _ _ e5];rfl);clear z n4 n4' f4 f5 e5;go_upto_region 3 with fail;rw[←hw5,←hb4];clear hw5 hb4;have HNo:=Hh (fun(h:ok=false)=>show ∃v',Ending.returned (.tuple #[.agg #[.slice none 0 0],.bool false])=.returned (.tuple #[.agg #[v'],.bool mr.isSome])/\NodeL (fun b=>w.heap.size≤b) encN (w5.setCell ⟨w.heap.size+1,0,none⟩ (.slice none 0 0)) v' (mr.getD [])/\Fr NoM w (w5.setCell ⟨w.heap.size+1,0,none⟩ (.slice none 0 0))from by
  have h1:mr=none:=by rw[HMr.out,h];rfl
  subst h1;exact⟨_,rfl,⟨none,0,rfl,Nat.le_refl _,by decide,by simp⟩,(F1.out.trans (F3.out.trans F5.out (fun _ _ q=>q)) (fun _ _ q=>q)).setCell _ _ (fun h=>by have h:w.heap.size+1<w.heap.size:=h;omega)⟩)
 cases ok1 with
 | false =>
  have HE:=Hh (HNo.out HAn.out);obtain⟨k3,k4⟩:=HK.out w5 (F3.out.trans F5.out (fun _ _ q=>q));go_wp2_with fail;refine bodyPost_ret (v:=.tuple #[.agg #[.slice none 0 0],.bool false]) (by simp[results,Tryz.results6,go_sem,k3,k4]) rfl ?_
  exact HE.out
 | true =>
 cases ok2 with
 | false =>
  have HE:=Hh (HNo.out HAn.out);obtain⟨k3,k4⟩:=HK.out w5 (F3.out.trans F5.out (fun _ _ q=>q));go_wp2_with fail;refine bodyPost_ret (v:=.tuple #[.agg #[.slice none 0 0],.bool false]) (by simp[results,Tryz.results6,go_sem,k3,k4]) rfl ?_
  exact HE.out
 | true =>
  have hk:ok=true:=HAn.out;have hrn:RN=numN T P.toNat:=by rw[HRN.out];rfl
  have hun:UN=zac (uqC n s.toNat):=by rw[HUN.out];rfl
  have hmc:mr=csR false [i2 RN,i2 UN]:=by rw[HMr.out,hk,hrn,hun];rfl
  obtain⟨w6,hw6⟩:∃w6,w6=w5.alloc (.cells #[.slice a2 RN.length c2,.slice a4 UN.length c4] 26):=⟨_,rfl⟩;have f6:Fr NoM w5 w6:=by rw[hw6];exact(Fr.refl NoM w5).alloc _
  have HCs:=Hh (zsz _ [i2 RN,i2 UN] w6 (zzm (HN2.out w5 F5.out).toI HN4.out.toI hw6) mr hmc);have F6:=Hh ((F3.out.trans F5.out (fun _ _ q=>q)).trans f6 (fun _ _ q=>q));clear hk hrn hun hmc f6 HNo;have k2:=K2.out w5 F5.out;have k4:=K4.out;go_wp2_with fail;rw[←hw6];clear hw6 k2 k4;(with_reducible refine HCs.out.mono ?_);rintro e w7 ⟨v',rfl,n7,f7⟩;obtain⟨okm,hokm⟩:∃okm,okm=mr.isSome:=⟨_,rfl⟩;obtain⟨FN,hFN⟩:∃FN,FN=mr.getD []:=⟨_,rfl⟩;rw[←hokm];rw[←hFN]at n7;have HFe:=Hh hFN;have HOm:=Hh hokm;obtain⟨an,cn,rfl,zz⟩:=id n7;have HN7:=Hh n7;have F7:=Hh (F6.out.trans f7 (fun _ _ q=>q));have HZ:=Hh (show w.heap.size+2≤w6.heap.size from by have:=F6.out.size;have:=HS1.out;omega);clear zz n7 f7 hokm hFN;obtain⟨k3,k4⟩:=HK.out w7 F7.out;go_wp2_with fail;refine bodyPost_ret (v:=.tuple #[.agg #[.slice an FN.length cn],.bool okm]) (by simp[results,Tryz.results6,go_sem,k3,k4]) rfl ?_
  refine⟨_,by rw[HOm.out],?_,(F1.out.trans F7.out (fun _ _ q=>q)).setCell _ _ (fun h=>by have h:w.heap.size+1<w.heap.size:=h;omega)⟩;rw[←HFe.out];exact(HN7.out.fr (Fr.set w7 ⟨w.heap.size+1,0,none⟩ _) (fun q hq e=>by have e:q=w.heap.size+1:=e;have hq:w6.heap.size≤q:=hq;have:=HZ.out;omega)).mono (fun q hq=>by have hq:w6.heap.size≤q:=hq;have:=HZ.out;omega)
end Go.Proofs.YtghekfmfonoocaaGreatDoor
