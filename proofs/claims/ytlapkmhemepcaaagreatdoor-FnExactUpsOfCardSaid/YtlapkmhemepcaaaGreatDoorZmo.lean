import Derived.Test.YtlapkmhemepcaaaGreatDoorZm7
import Derived.Test.YtlapkmhemepcaaaGreatDoorZmn
/- Lemmas. -/
namespace Go.Proofs.YtlapkmhemepcaaaGreatDoor
set_option linter.unusedVariables false
set_option linter.unusedSimpArgs false
open Go.RowKit
theorem zx4 (s:Nat):nusL zai s=zh6 s:=by
 induction s with
 | zero=>rfl
 | succ s ih =>
  rw[nusL,zh6,ih];by_cases h:s=0
  ·subst h;rfl
  ·rw[if_neg h]
theorem zdg (s:Nat):nusS zai s=zck s:=by
 unfold nusS zck;by_cases h:s=0
 ·subst h;rfl
 ·rw[if_neg h,zx4]
theorem yc5 (a b:Nat):negC (mkC [a] [b])=mkC [negC b] [negC a]:=by
 refine zdt (fun i=>?_) (fun i=>?_)
 ·rw[zhm,zac]
  exact⟨fun⟨r,hr,e⟩=>by rw[←e,zhb hr];simp,fun h=>⟨b,zst (by simp),(List.mem_singleton.1 h).symm⟩⟩
 ·rw[zhk,zaf]
  exact⟨fun⟨r,hr,e⟩=>by rw[←e,zsu hr];simp,fun h=>⟨a,zr7 (by simp),(List.mem_singleton.1 h).symm⟩⟩
theorem zsp (s:Nat):negC (zck s)=zck s:=by
 induction s using Nat.strongRecOn with
 | _ s ih =>
  refine zdt (fun i=>?_) (fun i=>?_)
  ·rw[zhm,zh5]
   exact⟨fun⟨r,hr,e⟩=>by
    obtain⟨k,hk,rfl⟩:=zg6.1 hr;exact⟨k,hk,(ih k hk).symm.trans e⟩,fun⟨k,hk,e⟩=>⟨zck k,zg6.2 ⟨k,hk,rfl⟩,(ih k hk).trans e⟩⟩
  ·rw[zhk,zg6]
   exact⟨fun⟨r,hr,e⟩=>by
    obtain⟨k,hk,rfl⟩:=zh5.1 hr;exact⟨k,hk,(ih k hk).symm.trans e⟩,fun⟨k,hk,e⟩=>⟨zck k,zh5.2 ⟨k,hk,rfl⟩,(ih k hk).trans e⟩⟩
theorem zud:negC (mkC [zai,nusS zai 1] [zai])=mkC [zai] [zai,nusS zai 1]:=by
 rw[zdg];have hz:=zsn;have h1:=zsp 1;refine zdt (fun i=>?_) (fun i=>?_)
 ·rw[zhm,zac]
  exact⟨fun⟨r,hr,e⟩=>by rw[←e,zhb hr,hz];simp,fun h=>⟨zai,zst (by simp),by rw[hz,List.mem_singleton.1 h]⟩⟩
 ·rw[zhk,zaf]
  refine⟨fun⟨r,hr,e⟩=>?_,fun h=>?_⟩
  ·rcases zgr.1 ((zac _ _ _).1 hr)with q|q
   ·rw[←e,q,hz];simp
   ·rw[←e,q,h1];simp
  ·rcases zgr.1 h with q|q
   ·exact⟨zai,zr7 (by simp),by rw[hz,q]⟩
   ·exact⟨zck 1,zr7 (by simp),by rw[h1,q]⟩
theorem yc4 (n:Nat):∀s,negC (nusU zai n s)=nusD zai n s:=by
 induction n with
 | zero=>intro s;rw[nusU,nusD,zdg,zsp]
 | succ n ih =>
  intro s;rw[nusU,nusD];by_cases h:n=0/\s=1
  ·rw[if_pos h,if_pos h,zud]
  ·rw[if_neg h,if_neg h,yc5,ih,zsn]
theorem zv0 {s:Nat}(h:s≤15):s ^^^ 1≤15:=by
 have h2:(s ^^^ 1)/2=s/2:=by rw[Nat.xor_div_two];simp
 omega
theorem zze {n:Nat}:∀ {s a:Nat},s≤15→SubC (nusU zai n s) a→∃m t,m≤n/\t≤15/\nusU zai m t=a:=by
 have hst:∀ {s a:Nat},s≤15→SubC (zck s) a→∃t,t≤15/\nusU zai 0 t=a:=fun {s a} hs h=>by
  obtain⟨k,hk,e⟩:=zys h;exact⟨k,by omega,by rw[nusU,zdg];exact e⟩
 induction n with
 | zero =>
  intro s a hs h;rw[nusU,zdg]at h;obtain⟨t,ht,e⟩:=hst hs h;exact⟨0,t,Nat.le_refl _,ht,e⟩
 | succ n ih =>
  intro s a hs h;have hz:∀ {a},SubC zai a→∃m t,m≤n+1/\t≤15/\nusU zai m t=a:=fun {a} h=>by
   obtain⟨t,ht,e⟩:=hst (s:=0) (by omega) h;exact⟨0,t,by omega,ht,e⟩
  rcases zyq h with rfl|⟨y,hy,h'⟩
  ·exact⟨n+1,s,Nat.le_refl _,hs,rfl⟩
  ·rw[nusU]at hy
   by_cases h1:n=0/\s=1
   ·rw[if_pos h1,zdg]at hy
    rcases hy with hy|hy
    ·rcases zgr.1 ((zac _ _ _).1 hy)with q|q
     ·rw[q]at h';exact hz h'
     ·rw[q]at h'
      obtain⟨t,ht,e⟩:=hst (s:=1) (by omega) h';exact⟨0,t,by omega,ht,e⟩
    ·rw[zhb hy]at h';exact hz h'
   ·rw[if_neg h1]at hy
    rcases hy with hy|hy
    ·rw[zsu hy]at h';exact hz h'
    ·rw[zhb hy]at h'
     obtain⟨m,t,hm,ht,e⟩:=ih (zv0 hs) h';exact⟨m,t,by omega,ht,e⟩
def upsAll:List Nat:=(List.range 13).flatMap fun m=>(List.range 16).flatMap fun t=>[nusU zai m t,negC (nusU zai m t)]
theorem zmn {m t:Nat}(hm:m≤12)(ht:t≤15):nusU zai m t∈upsAll/\negC (nusU zai m t)∈upsAll:=by
 unfold upsAll;exact⟨List.mem_flatMap.2 ⟨m,List.mem_range.2 (by omega),List.mem_flatMap.2 ⟨t,List.mem_range.2 (by omega),by simp⟩⟩,List.mem_flatMap.2 ⟨m,List.mem_range.2 (by omega),List.mem_flatMap.2 ⟨t,List.mem_range.2 (by omega),by simp⟩⟩⟩
theorem ztz:upsAll.length=416:=by
 unfold upsAll;simp only[List.length_flatMap,List.length_cons,List.length_nil,List.map_const',List.length_range,List.sum_replicate_nat]
set_option maxRecDepth 8000 in
set_option maxHeartbeats 1000000 in
theorem zv8 {U:List Nat}(hUl:U.length<1000000)(hU:∀(m t:Nat),m≤12→t≤15→nusU zai m t∈U)(pb sb:Nat)(mo mc ms:Value)(n:Nat):n≤12→∀(s:Nat),s≤15→∀(V:List PL) (BV:List Nat) (M I:Nat→Prop) (f:Nat→Option Nat) (w:World),PSt encN NegMO U pb sb mo mc ms (.map (some sb)) w V BV M I f →
  Calls Tryz.prog 78 #[.pointer (some ⟨pb,0,none⟩),.int .i64 (n:Int),.int .i64 (s:Int)] w fun e w'=>zcb U pb sb mo mc ms w V M I (nusU zai n s) e w':=by
 have hUs:∀k,k≤15→zck k∈U:=fun k hk=>by have h:=hU 0 k (by omega) hk;rwa [nusU,zdg]at h
 induction n with
 | zero =>
  intro _ s hs V BV M I f w hst;have h:=zyn hUl pb sb mo mc ms s (by omega) (fun k hk=>hUs k (by omega)) V BV M I f w hst;rw[nusU,zdg];exact h
 | succ n ih =>
  intro hn s hs V BV M I f w hst;have HNz:=Hh (zeu (L:=[]) (R:=[]) hUl none none 0 0 0 0 rfl rfl hst (SliceOf.nil _ _) (SliceOf.nil _ _) (RowC.nil _) (RowC.nil _) (show mkC [] []∈U from hUs 0 (by omega)) (by simp) (by simp));have a1:¬((n+1:Nat):Int)<0:=by omega
  have a2:(((n+1:Nat):Int) == 0)=false:=by rw[beq_eq_false_iff_ne];omega
  have a2':¬((n+1:Nat):Int)=0:=by omega
  have hmem:=hU (n+1) s hn hs;obtain⟨N,hN⟩:∃N:Int,N=((n+1:Nat):Int):=⟨_,rfl⟩;rw[←hN]at a1 a2 a2' ⊢;by_cases h1:n=0/\s=1
  ·obtain⟨rfl,rfl⟩:=h1
   have hN1:N=1:=hN;subst hN1;have HSt:=Hh (fun(W:World) (V1:List PL) (B1:List Nat) (M1 I1:Nat→Prop) (f1:Nat→Option Nat) (h:PSt encN NegMO U pb sb mo mc ms (.map (some sb)) W V1 B1 M1 I1 f1)=>show Calls Tryz.prog 132 #[.pointer (some ⟨pb,0,none⟩),.int .i64 1] W fun e w'=>zcb U pb sb mo mc ms W V1 M1 I1 (zck 1) e w' from zs3 hUl pb sb mo mc ms 1 (by omega) (fun k hk=>hUs k (by omega)) V1 B1 M1 I1 f1 W h);have hm:nusU zai 1 1=mkC [zai,zck 1] [zai]:=by rw[nusU,if_pos ⟨rfl,rfl⟩,zdg]
   rw[show(0:Nat)+1=1 from rfl]at hmem ⊢;rw[hm]at hmem ⊢;have HUu:=Hh hmem;have HUl:=Hh hUl;clear hst hU hUs hUl ih hmem hm hN hn hs a1 a2 a2';go_enter Tryz.func78,Tryz.ntmps78;go_wp2_with fail;(with_reducible refine HNz.out.mono ?_);rintro e w1 ⟨z0,V1,B1,M1,I1,f1,rfl,st1,nx1,l1,q1⟩;have HS:=Hh (HSt.out w1 V1 B1 M1 I1 f1 st1);have HNx:=Hh nx1;have HL1:=Hh (And.intro l1 q1);clear st1 nx1 l1 q1;go_wp2_with fail;(with_reducible refine HS.out.mono ?_);rintro e w3 ⟨s0,V3,B3,M3,I3,f3,rfl,st3,nx3,l3,q3⟩;obtain⟨w4,hw4⟩:∃w4,w4=(w3.alloc (.cells #[.int .i64 (z0:Int),.int .i64 (s0:Int)] 3)).alloc (.cells #[.int .i64 (z0:Int)] 3):=⟨_,rfl⟩;have g4:Fr NoM w3 w4:=by rw[hw4];exact((Fr.refl NoM w3).alloc _).alloc _
   have n4:Nats w4 (.slice (some ⟨w3.heap.size,0,none⟩) 2 2) [z0,s0]:=by
    have h:=heap_alloc_new w3 (.cells #[.int .i64 (z0:Int),.int .i64 (s0:Int)] 3);have h4:w4.heap[w3.heap.size]?=some (.cells #[.int .i64 (z0:Int),.int .i64 (s0:Int)] 3 (0,0)):=by rw[hw4];exact((Fr.refl NoM _).alloc _).heap h (fun q=>q)
    refine⟨_,_,rfl,Nat.le_refl _,by decide,fun j x hj=>?_⟩;match j,hj with
    | 0,hj=>cases hj;exact⟨_,0,rfl,by rw[cell_of_row w4 _ 0 _ _ _ h4];rfl⟩
    | 1,hj=>cases hj;exact⟨_,0,rfl,by rw[cell_of_row w4 _ 1 _ _ _ h4];rfl⟩
   have n5:Nats w4 (.slice (some ⟨w3.heap.size+1,0,none⟩) 1 1) [z0]:=by
    have h:=SliceOf.one encN (w3.alloc (.cells #[.int .i64 (z0:Int),.int .i64 (s0:Int)] 3)) z0 3;rw[World.size_alloc]at h;rw[hw4];exact h
   have hz3:z0<V3.length/\(za0 V3).getD z0 0=zai:=⟨by have:=nx3.pre.length_le;have:=HL1.out.1;omega,by rw[zak nx3.pre HL1.out.1];exact HL1.out.2⟩;have HNd:=Hh (show Calls Tryz.prog 89 #[.pointer (some ⟨pb,0,none⟩),.slice (some ⟨w3.heap.size,0,none⟩) 2 2,.slice (some ⟨w3.heap.size+1,0,none⟩) 1 1] w4 fun e w'=>zcb U pb sb mo mc ms w4 V3 M3 I3 (mkC [zai,zck 1] [zai]) e w' from zeu (U:=U) HUl.out (some ⟨w3.heap.size,0,none⟩) (some ⟨w3.heap.size+1,0,none⟩) 2 1 2 1 rfl rfl (st3.fr0 g4) n4 n5 (((RowC.nil V3).snoc hz3.1 hz3.2).snoc l3 q3) ((RowC.nil V3).snoc hz3.1 hz3.2) HUu.out (by simp) (by simp));have HNx3:=Hh (HNx.out.trans (nx3.trans (PNx.of0 g4)));clear st3 nx3 l3 q3 g4 n4 n5 hz3;go_wp2_with fail;rw[←hw4];clear hw4;(with_reducible refine HNd.out.mono ?_);rintro e w5 ⟨i,V5,B5,M5,I5,f5,rfl,st5,nx5,l5,q5⟩;have HE:=Hh (show zcb U pb sb mo mc ms w V M I (mkC [zai,zck 1] [zai]) (.returned (.int .i64 (i:Int))) w5 from⟨i,V5,B5,M5,I5,f5,rfl,st5,HNx3.out.trans nx5,l5,q5⟩);clear st5 nx5 l5 q5;go_wp2;go_ret;exact HE.out
  ·have hm:nusU zai (n+1) s=mkC [zai] [nusU zai n (s ^^^ 1)]:=by rw[nusU,if_neg h1]
   rw[hm]at hmem ⊢;have hxs:=zhs s (by omega);have HU0:=Hh (fun(W:World) (V1:List PL) (B1:List Nat) (M1 I1:Nat→Prop) (f1:Nat→Option Nat) (h:PSt encN NegMO U pb sb mo mc ms (.map (some sb)) W V1 B1 M1 I1 f1)=>ih (by omega) (s ^^^ 1) (zv0 hs) V1 B1 M1 I1 f1 W h);have HWn:=Hh (show wrap64 (n:Int)=(n:Int)from by unfold wrap64;omega);have HXs:=Hh hxs;have HN1:=Hh (show N-1=(n:Int)from by omega);obtain⟨b1,hb1⟩:∃b1:Bool,(N == 1)=b1:=⟨_,rfl⟩;obtain⟨b2,hb2⟩:∃b2:Bool,((s:Int) == 1)=b2:=⟨_,rfl⟩;have hbb:(b1 && b2)=false:=by
    cases hq:(b1 && b2)with
    | false=>rfl
    | true =>
     rw[Bool.and_eq_true]at hq;obtain⟨rfl,rfl⟩:=hq;rw[beq_iff_eq]at hb1 hb2;exact absurd ⟨by omega,by omega⟩ h1
   have HBb:=Hh hbb;have HUu:=Hh hmem;have HUl:=Hh hUl;clear hst hU hUs hUl ih hmem hm hN hs h1 hxs hbb hn;go_enter Tryz.func78,Tryz.ntmps78;go_wp2_with fail;(with_reducible refine HNz.out.mono ?_);rintro e w1 ⟨z0,V1,B1,M1,I1,f1,rfl,st1,nx1,l1,q1⟩;obtain⟨w2,hw2⟩:∃w2,w2=w1.alloc (.cells #[.int .i64 (z0:Int)] 3):=⟨_,rfl⟩;have g2:Fr NoM w1 w2:=by rw[hw2];exact(Fr.refl NoM w1).alloc _
   have n2:Nats w2 (.slice (some ⟨w1.heap.size,0,none⟩) 1 1) [z0]:=by rw[hw2];exact SliceOf.one encN w1 z0 3
   have hZ2:¬M1 w1.heap.size/\w1.heap.size≠sb/\w1.heap.size<w2.heap.size:=⟨fun h=>by have:=(st1.mlt _ h).1;omega,by have:=st1.map.lt;omega,by rw[hw2];simp⟩;have HS:=Hh (HU0.out w2 V1 B1 M1 I1 f1 (st1.fr0 g2));have HNx:=Hh (nx1.trans (PNx.of0 g2));have HN2:=Hh n2;have HZ2:=Hh hZ2;have HL1:=Hh (And.intro l1 q1);clear st1 nx1 l1 q1 g2 n2 hZ2;have key:∀ {K:Prop},(b1=false→K)→(b1=true→b2=false→K)→K:=fun {K} h1 h2=>by
    have h:=HBb.out;cases b1 with
    | false=>exact h1 rfl
    | true=>exact h2 rfl h
   refine key (fun e1=>?_) (fun e1 e2=>?_);all_goals
    subst e1;try subst e2
    clear key HBb;go_wp2_with fail;rw[←hw2];clear hw2;rw[HXs.out,HN1.out,HWn.out];(with_reducible refine HS.out.mono ?_);rintro e w3 ⟨s0,V3,B3,M3,I3,f3,rfl,st3,nx3,l3,q3⟩;obtain⟨w4,hw4⟩:∃w4,w4=w3.alloc (.cells #[.int .i64 (s0:Int)] 3):=⟨_,rfl⟩;have g4:Fr NoM w3 w4:=by rw[hw4];exact(Fr.refl NoM w3).alloc _
    have n4:Nats w4 (.slice (some ⟨w3.heap.size,0,none⟩) 1 1) [s0]:=by rw[hw4];exact SliceOf.one encN w3 s0 3
    have h3:=ybr HN2.out (nx3.trans (PNx.of0 g4)) HZ2.out;have hz3:z0<V3.length/\(za0 V3).getD z0 0=zai:=⟨by have:=nx3.pre.length_le;have:=HL1.out.1;omega,by rw[zak nx3.pre HL1.out.1];exact HL1.out.2⟩;have HNd:=Hh (show Calls Tryz.prog 89 #[.pointer (some ⟨pb,0,none⟩),.slice (some ⟨w1.heap.size,0,none⟩) 1 1,.slice (some ⟨w3.heap.size,0,none⟩) 1 1] w4 fun e w'=>zcb U pb sb mo mc ms w4 V3 M3 I3 (mkC [zai] [nusU zai n (s ^^^ 1)]) e w' from zeu (U:=U) HUl.out (some ⟨w1.heap.size,0,none⟩) (some ⟨w3.heap.size,0,none⟩) 1 1 1 1 rfl rfl (st3.fr0 g4) h3.1 n4 ((RowC.nil V3).snoc hz3.1 hz3.2) ((RowC.nil V3).snoc l3 q3) HUu.out (by simp) (by simp));have HNx3:=Hh (HNx.out.trans (nx3.trans (PNx.of0 g4)));clear st3 nx3 l3 q3 g4 n4 h3 hz3;go_wp2_with fail;rw[←hw4];clear hw4;(with_reducible refine HNd.out.mono ?_);rintro e w5 ⟨i,V5,B5,M5,I5,f5,rfl,st5,nx5,l5,q5⟩;have HE:=Hh (show zcb U pb sb mo mc ms w V M I (mkC [zai] [nusU zai n (s ^^^ 1)]) (.returned (.int .i64 (i:Int))) w5 from⟨i,V5,B5,M5,I5,f5,rfl,st5,HNx3.out.trans nx5,l5,q5⟩);clear st5 nx5 l5 q5;go_wp2;go_ret;exact HE.out
set_option maxRecDepth 8000 in
set_option maxHeartbeats 1000000 in
theorem yba {U:List Nat}(hUl:U.length<1000000)(hU:∀(m t:Nat),m≤12→t≤15→nusU zai m t∈U/\negC (nusU zai m t)∈U)(pb sb:Nat)(mo mc ms:Value)(m:Int)(h1:-12≤m)(h2:m≤12)(s:Nat)(hs:s≤15)(V:List PL)(BV:List Nat)(M I:Nat→Prop)(f:Nat→Option Nat)(w:World)
  (hst:PSt encN NegMO U pb sb mo mc ms (.map (some sb)) w V BV M I f) :
  Calls Tryz.prog 78 #[.pointer (some ⟨pb,0,none⟩),.int .i64 m,.int .i64 (s:Int)] w fun e w'=>zcb U pb sb mo mc ms w V M I (nusC zai m s) e w':=by
 by_cases h0:0≤m
 ·obtain⟨n,rfl⟩:=Int.eq_ofNat_of_zero_le h0
  rw[show nusC zai (n:Int) s=nusU zai n s from by rw[nusC,if_pos h0,Int.toNat_natCast]];exact zv8 hUl (fun m t hm ht=>(hU m t hm ht).1) pb sb mo mc ms n (by omega) s hs V BV M I f w hst
 ·obtain⟨n,hn⟩:∃n:Nat,(n:Int)=-m:=⟨(-m).toNat,by omega⟩
  rw[show nusC zai m s=negC (nusU zai n s)from by rw[nusC,if_neg h0,yc4,show(-m).toNat=n from by omega]];have HNz:=Hh (zeu (L:=[]) (R:=[]) hUl none none 0 0 0 0 rfl rfl hst (SliceOf.nil _ _) (SliceOf.nil _ _) (RowC.nil _) (RowC.nil _) (show mkC [] []∈U from(hU 0 0 (by omega) (by omega)).1) (by simp) (by simp));have HU0:=Hh (fun(W:World) (V1:List PL) (B1:List Nat) (M1 I1:Nat→Prop) (f1:Nat→Option Nat) (h:PSt encN NegMO U pb sb mo mc ms (.map (some sb)) W V1 B1 M1 I1 f1)=>zv8 hUl (fun m t hm ht=>(hU m t hm ht).1) pb sb mo mc ms n (by omega) s hs V1 B1 M1 I1 f1 W h);have HNeg:=Hh (fun(i:Nat) (W:World) (V1:List PL) (B1:List Nat) (M1 I1:Nat→Prop) (f1:Nat→Option Nat) (h:PSt encN NegMO U pb sb mo mc ms (.map (some sb)) W V1 B1 M1 I1 f1) (hi:i<V1.length) (hc:(za0 V1).getD i 0=nusU zai n s)=>(by
   have h9:=yc6 hUl pb sb mo mc ms _ i (Nat.lt_succ_self _) V1 B1 M1 I1 f1 W h hi (fun a ha=>by
    rw[hc]at ha;obtain⟨m',t',hm',ht',e⟩:=zze hs ha;rw[←e];exact(hU m' t' (by omega) ht').2)
   rw[hc]at h9;exact h9:Calls Tryz.prog 58 #[.pointer (some ⟨pb,0,none⟩),.int .i64 (i:Int)] W fun e w'=>zcb U pb sb mo mc ms W V1 M1 I1 (negC (nusU zai n s)) e w'))
  have a1:m<0:=by omega
  have HN:=Hh (show -m=(n:Int)/\wrap64 (n:Int)=(n:Int)from⟨hn.symm,by unfold wrap64;omega⟩);clear hst hU hUl hn h0 hs;go_enter Tryz.func78,Tryz.ntmps78;go_wp2_with fail;(with_reducible refine HNz.out.mono ?_);rintro e w1 ⟨z0,V1,B1,M1,I1,f1,rfl,st1,nx1,l1,q1⟩;have HS:=Hh (HU0.out w1 V1 B1 M1 I1 f1 st1);have HNx:=Hh nx1;clear st1 nx1 l1 q1;go_wp2_with fail;rw[HN.out.1];try rw[HN.out.2]
  (with_reducible refine HS.out.mono ?_);rintro e w3 ⟨i3,V3,B3,M3,I3,f3,rfl,st3,nx3,l3,q3⟩;have HNg:=Hh (HNeg.out i3 w3 V3 B3 M3 I3 f3 st3 l3 q3);have HNx3:=Hh (HNx.out.trans nx3);clear st3 nx3 l3 q3;go_wp2_with fail;(with_reducible refine HNg.out.mono ?_);rintro e w5 ⟨i,V5,B5,M5,I5,f5,rfl,st5,nx5,l5,q5⟩;have HE:=Hh (show zcb U pb sb mo mc ms w V M I (negC (nusU zai n s)) (.returned (.int .i64 (i:Int))) w5 from⟨i,V5,B5,M5,I5,f5,rfl,st5,HNx3.out.trans nx5,l5,q5⟩);clear st5 nx5 l5 q5;go_wp2;go_ret;exact HE.out
end Go.Proofs.YtlapkmhemepcaaaGreatDoor
