import Derived.Test.YtcalpapdkmnblaaGreatDoorZlr
/- Lemmas. -/
namespace Go.Proofs.YtcalpapdkmnblaaGreatDoor
set_option linter.unusedVariables false
set_option linter.unusedSimpArgs false
open Go.RowKit
def zo3 (w:World)(e:Ending)(w':World):Prop:=∃(v:Value) (Fi:List (List Int × List Int)),e=.returned (.agg #[v])/\NodeL (fun b=>w.heap.size≤b) encI w' v Fi/\Fr NoM w w'
theorem zk9 {k:Nat}(h:k≤20):∀y∈zbt k,y.1.length≤24/\y.2.length≤24:=fun y hy=>by
 unfold zbt at hy;obtain⟨j,hj,rfl⟩:=List.mem_map.1 hy;have:=List.mem_range.1 hj;simp only[List.length_range];omega
theorem zk8 (k:Nat):OptsOK (zbt k):=fun j y hy=>by
 have hj:=(List.getElem?_eq_some_iff.1 hy).1;rw[zbk]at hj;rw[zib hj]at hy;cases hy
 exact⟨fun i hi=>List.mem_range.1 hi,fun i hi=>List.mem_range.1 hi⟩
set_option maxRecDepth 8000 in
set_option maxHeartbeats 8000000 in
theorem zk6 (cv:Value)(L:List Int)(w:World)(h:CodeOK w cv L):Calls Tryz.prog 46 #[cv] w fun e w'=>zo3 w e w':=by
 obtain⟨w1,hw1⟩:∃w1,w1=w.alloc (.cells #[.slice none 0 0] 26):=⟨_,rfl⟩;have f1:Fr NoM w w1:=by rw[hw1];exact(Fr.refl NoM w).alloc _
 have hs1:w1.heap.size=w.heap.size+1:=by rw[hw1];simp
 have e1:w1.heap[w.heap.size]?=some (.cells #[.slice none 0 0] 26 (0,0)):=by rw[hw1];exact heap_alloc_new w _
 obtain⟨w2,hw2⟩:∃w2,w2=w1.alloc (.cells #[cv,.int .i64 0,.int .u64 0] 79):=⟨_,rfl⟩;have f2:Fr NoM w1 w2:=by rw[hw2];exact(Fr.refl NoM w1).alloc _
 have hc2:CurS w2 w1.heap.size 0:=by rw[hw2];exact CurS.start (h.fr0 f1)
 have hs2:w2.heap.size=w.heap.size+2:=by rw[hw2];simp[hs1]
 obtain⟨cb,hcb⟩:∃cb,cb=w.heap.size+1:=⟨_,rfl⟩;rw[hs1,←hcb]at hc2;have HK:=Hh (fun(W:World) (f:Fr (fun q=>q=cb) w2 W)=>(by
  have h4:=f.heap (f2.heap e1 (fun q=>q)) (fun e=>by omega);exact⟨by rw[cell_of_row W _ 0 _ _ _ h4];rfl,by simp[World.frozen?,h4]⟩:W.cell? ⟨w.heap.size,0,none⟩=some (.slice none 0 0)/\W.frozen? ⟨w.heap.size,0,none⟩=false))
 have HF:=Hh (fun(W:World) (f:Fr (fun q=>q=cb) w2 W)=>((f1.trans f2 (fun _ _ q=>q)).trans f (fun q hq e=>by omega):Fr NoM w W));have HFin:=Hh (fun(W:World) (x1:Option Addr) (x3:Nat) (Fi:List (List Int × List Int)) (f:Fr (fun q=>q=cb) w2 W) (hn:NodeL (fun b=>w2.heap.size≤b) encI W (.slice x1 Fi.length x3) Fi)=>(by
  refine⟨_,Fi,rfl,?_,(HF.out W f).setCell _ _ (fun h=>by have h:w.heap.size<w.heap.size:=h;omega)⟩;exact(hn.fr (Fr.set W ⟨w.heap.size,0,none⟩ _) (fun q hq e=>by have e:q=w.heap.size:=e;have hq:w2.heap.size≤q:=hq;omega)).mono (fun q hq=>by have hq:w2.heap.size≤q:=hq;omega):zo3 w (.returned (.agg #[.slice x1 Fi.length x3])) (W.setCell ⟨w.heap.size,0,none⟩ (.slice x1 Fi.length x3))))
 have HOne:=Hh (ztd cb 0 2 w2 hc2 (by omega) ⟨by omega,by omega⟩);have HPk:=Hh (fun(m:Nat) (hm:m≤100) (W:World) (hc:CurS W cb m)=>zd9 cb m 4 W hc (by omega) ⟨by omega,by omega⟩);have HAny:=Hh (fun(W:World) (hc:CurS W cb 2)=>show Calls Tryz.prog 67 #[.pointer (some ⟨cb,0,none⟩),.int .i64 2] W fun e w'=>zmk cb (2+12*2+10) (10+2) W e w' from zp4 cb 2 2 W hc (by omega) (by omega));have HS2:=Hh hs2;have HCb:=Hh hcb;obtain⟨ca,cc,rfl,zz⟩:=id h.1;clear zz h f1 hs1 e1 f2 hc2 hs2;go_enter Tryz.func46,Tryz.ntmps46;go_upto_region 2 with fail;rw[←hw1,←hw2,←hcb];clear hw1 hw2 hcb;go_wp2_with fail;(with_reducible refine HOne.out.mono ?_);rintro e w3 ⟨b,rfl,c3,f3⟩;have F3:=Hh f3;have C3:=Hh c3;clear f3 c3;cases b with
 | true =>
  go_wp2_with fail;(with_reducible refine(HPk.out 2 (by omega) w3 C3.out).mono ?_);rintro e w4 ⟨y,rfl,y0,y1,c4,f4⟩;obtain⟨n,rfl⟩:=Int.eq_ofNat_of_zero_le y0;have HNn:=Hh (show n≤4 by omega);have F4:=Hh (F3.out.trans f4 (fun _ _ q=>q));have C4:=Hh c4;have HSt:=Hh (zh2 n (by omega) w4);clear f4 c4 y0 y1;go_wp2_with fail;(with_reducible refine HSt.out.mono ?_);rintro e w5 ⟨v5,rfl,n5,f5⟩;have HP5:=Hh (HPk.out 4 (by omega) w5 (C4.out.fr0 f5));have N5:=Hh n5;have F5:=Hh (F4.out.trans f5 (fun _ _ q=>q.elim));have S5:=Hh (Nat.le_trans F4.out.size (Nat.le_refl _));obtain⟨a5,c5,rfl,zz⟩:=id n5;clear zz n5 f5 HSt;go_wp2_with fail;(with_reducible refine HP5.out.mono ?_);rintro e w6 ⟨y,rfl,y0,y1,c6,f6⟩;obtain⟨m,rfl⟩:=Int.eq_ofNat_of_zero_le y0;have HNm:=Hh (show m≤4 by omega);have HSt:=Hh (zh2 m (by omega) w6);have hq5:w2.heap.size≤w4.heap.size:=S5.out;have N6:=Hh (N5.out.fr f6 (fun q hq e=>by have hq:w4.heap.size≤q:=hq;have e:q=cb:=e;have:=HCb.out;have:=HS2.out;omega));have F6:=Hh (F5.out.trans f6 (fun _ _ q=>q));clear f6 c6 y0 y1 hq5 N5 HP5;go_wp2_with fail;(with_reducible refine HSt.out.mono ?_);rintro e w7 ⟨v7,rfl,n7,f7⟩;have HSum:=Hh (zng _ _ (zbt (n+1)) (zbt (m+1)) w7 (N6.out.fr0 f7) n7 (zk8 _) (zk8 _) (zk9 (by have:=HNn.out;omega)) (zk9 (by have:=HNm.out;omega)) (by rw[zbk];omega) (by rw[zbk];omega) (by
   rw[zbk,zbk];have:=HNn.out;have:=HNm.out;exact Nat.le_trans (Nat.mul_le_mul (show n+1≤5 by omega) (show m+1≤5 by omega)) (by decide)))
  have F7:=Hh (F6.out.trans f7 (fun _ _ q=>q.elim));obtain⟨a7,c7,rfl,zz⟩:=id n7;clear zz n7 f7 HSt;go_wp2_with fail;(with_reducible refine HSum.out.mono ?_);rintro e w8 ⟨v8,rfl,n8,f8⟩;obtain⟨G,hG⟩:∃G,G=zb9 (sumC (zak (zbt (n+1))) (zak (zbt (m+1)))):=⟨_,rfl⟩;rw[←hG]at n8;have F8:=Hh (F7.out.trans f8 (fun _ _ q=>q.elim));have N8:=Hh (show NodeL (fun b=>w2.heap.size≤b) encI w8 v8 (i2 G)from(n8.mono (fun q hq=>Nat.le_trans F7.out.size hq)).toI);obtain⟨k1,k2⟩:=HK.out w8 F8.out;obtain⟨a8,c8,rfl,zz⟩:=id N8.out;clear zz n8 f8 hG HSum;go_wp2;refine bodyPost_ret (v:=.agg #[.slice a8 (i2 G).length c8]) (by simp[results,Tryz.results46,go_sem,k1]) rfl ?_
  exact HFin.out w8 a8 c8 (i2 G) F8.out N8.out
 | false =>
  go_wp2_with fail;(with_reducible refine(HAny.out w3 C3.out).mono ?_);rintro e w5 ⟨v,Fi,rfl,n5,_,f5,hlen⟩;have F5:=Hh (F3.out.trans f5 (fun _ _ q=>q));have N5:=Hh (show NodeL (fun b=>w2.heap.size≤b) encI w5 v Fi from n5.mono (fun q hq=>Nat.le_trans F3.out.size hq));obtain⟨k1,k2⟩:=HK.out w5 F5.out;obtain⟨va,vc,rfl,zz⟩:=id n5;clear zz n5 f5 hlen;go_wp2;refine bodyPost_ret (v:=.agg #[.slice va Fi.length vc]) (by simp[results,Tryz.results46,go_sem,k1]) rfl ?_
  exact HFin.out w5 va vc Fi F5.out N5.out
set_option maxRecDepth 4000 in
theorem zhs (cv:Value)(L:List Int)(w:World)(h:CodeOK w cv L):Calls Tryz.prog 48 #[cv] w fun e w'=>∃k:Int,e=.returned (.int .i64 k)∧-1≤k/\k≤18/\Fr NoM w w':=by
 obtain⟨w2,hw2⟩:∃w2,w2=w.alloc (.cells #[cv,.int .i64 0,.int .u64 0] 79):=⟨_,rfl⟩;have f2:Fr NoM w w2:=by rw[hw2];exact(Fr.refl NoM w).alloc _
 have hc2:CurS w2 w.heap.size 0:=by rw[hw2];exact CurS.start h
 have HPk:=Hh (zd9 w.heap.size 0 19 w2 hc2 (by omega) ⟨by omega,by omega⟩);have F2:=Hh f2;obtain⟨ca,cc,rfl,zz⟩:=id h.1;clear zz h f2 hc2;go_enter Tryz.func48,Tryz.ntmps48;go_upto_region 2 with fail;rw[←hw2];clear hw2;go_wp2_with fail;(with_reducible refine HPk.out.mono ?_);rintro e w3 ⟨y,rfl,y0,y1,_,f3⟩;have F3:=Hh (F2.out.trans f3 (fun q hq e=>by have e:q=w.heap.size:=e;omega));have HY:=Hh (show -1≤y-1/\y-1≤18 by omega);have yb:y≤19:=by omega
 clear f3 y1;go_wp2;go_ret;exact⟨_,rfl,HY.out.1,HY.out.2,F3.out⟩
end Go.Proofs.YtcalpapdkmnblaaGreatDoor
