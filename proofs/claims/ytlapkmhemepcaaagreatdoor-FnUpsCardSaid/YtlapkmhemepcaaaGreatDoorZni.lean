import Derived.Test.YtlapkmhemepcaaaGreatDoorZnl
import Derived.Test.YtlapkmhemepcaaaGreatDoorZnw
/- Lemmas. -/
namespace Go.Proofs.YtlapkmhemepcaaaGreatDoor
set_option linter.unusedVariables false
set_option linter.unusedSimpArgs false
open Go.RowKit
theorem zxk (s:Nat):nusL zac s=zgy s:=by
 induction s with
 | zero=>rfl
 | succ s ih =>
  rw[nusL,zgy,ih];by_cases h:s=0
  ·subst h;rfl
  ·rw[if_neg h]
theorem zcb (s:Nat):nusS zac s=zb5 s:=by
 unfold nusS zb5;by_cases h:s=0
 ·subst h;rfl
 ·rw[if_neg h,zxk]
theorem ycy (a b:Nat):negC (mkC [a] [b])=mkC [negC b] [negC a]:=by
 refine zcd (fun i=>?_) (fun i=>?_)
 ·rw[zhi,zae]
  exact⟨fun⟨r,hr,e⟩=>by rw[←e,zhc hr];simp,fun h=>⟨b,zth (by simp),(List.mem_singleton.1 h).symm⟩⟩
 ·rw[zhh,zaf]
  exact⟨fun⟨r,hr,e⟩=>by rw[←e,zti hr];simp,fun h=>⟨a,zry (by simp),(List.mem_singleton.1 h).symm⟩⟩
theorem zte (s:Nat):negC (zb5 s)=zb5 s:=by
 induction s using Nat.strongRecOn with
 | _ s ih =>
  refine zcd (fun i=>?_) (fun i=>?_)
  ·rw[zhi,zcp]
   exact⟨fun⟨r,hr,e⟩=>by
    obtain⟨k,hk,rfl⟩:=zd2.1 hr;exact⟨k,hk,(ih k hk).symm.trans e⟩,fun⟨k,hk,e⟩=>⟨zb5 k,zd2.2 ⟨k,hk,rfl⟩,(ih k hk).trans e⟩⟩
  ·rw[zhh,zd2]
   exact⟨fun⟨r,hr,e⟩=>by
    obtain⟨k,hk,rfl⟩:=zcp.1 hr;exact⟨k,hk,(ih k hk).symm.trans e⟩,fun⟨k,hk,e⟩=>⟨zb5 k,zcp.2 ⟨k,hk,rfl⟩,(ih k hk).trans e⟩⟩
theorem zuv:negC (mkC [zac,nusS zac 1] [zac])=mkC [zac] [zac,nusS zac 1]:=by
 rw[zcb];have hz:=ztd;have h1:=zte 1;refine zcd (fun i=>?_) (fun i=>?_)
 ·rw[zhi,zae]
  exact⟨fun⟨r,hr,e⟩=>by rw[←e,zhc hr,hz];simp,fun h=>⟨zac,zth (by simp),by rw[hz,List.mem_singleton.1 h]⟩⟩
 ·rw[zhh,zaf]
  refine⟨fun⟨r,hr,e⟩=>?_,fun h=>?_⟩
  ·rcases zgx.1 ((zae _ _ _).1 hr)with q|q
   ·rw[←e,q,hz];simp
   ·rw[←e,q,h1];simp
  ·rcases zgx.1 h with q|q
   ·exact⟨zac,zry (by simp),by rw[hz,q]⟩
   ·exact⟨zb5 1,zry (by simp),by rw[h1,q]⟩
theorem zxt (n:Nat):∀s,negC (nusU zac n s)=nusD zac n s:=by
 induction n with
 | zero=>intro s;rw[nusU,nusD,zcb,zte]
 | succ n ih =>
  intro s;rw[nusU,nusD];by_cases h:n=0/\s=1
  ·rw[if_pos h,if_pos h,zuv]
  ·rw[if_neg h,if_neg h,ycy,ih,ztd]
theorem zvc {s:Nat}(h:s≤15):s ^^^ 1≤15:=by
 have h2:(s ^^^ 1)/2=s/2:=by rw[Nat.xor_div_two];simp
 omega
theorem yag {n:Nat}:∀ {s a:Nat},s≤15→SubC (nusU zac n s) a→∃m t,m≤n/\t≤15/\nusU zac m t=a:=by
 have hst:∀ {s a:Nat},s≤15→SubC (zb5 s) a→∃t,t≤15/\nusU zac 0 t=a:=fun {s a} hs h=>by
  obtain⟨k,hk,e⟩:=zk1 h;exact⟨k,by omega,by rw[nusU,zcb];exact e⟩
 induction n with
 | zero =>
  intro s a hs h;rw[nusU,zcb]at h;obtain⟨t,ht,e⟩:=hst hs h;exact⟨0,t,Nat.le_refl _,ht,e⟩
 | succ n ih =>
  intro s a hs h;have hz:∀ {a},SubC zac a→∃m t,m≤n+1/\t≤15/\nusU zac m t=a:=fun {a} h=>by
   obtain⟨t,ht,e⟩:=hst (s:=0) (by omega) h;exact⟨0,t,by omega,ht,e⟩
  rcases zzn h with rfl|⟨y,hy,h'⟩
  ·exact⟨n+1,s,Nat.le_refl _,hs,rfl⟩
  ·rw[nusU]at hy
   by_cases h1:n=0/\s=1
   ·rw[if_pos h1,zcb]at hy
    rcases hy with hy|hy
    ·rcases zgx.1 ((zae _ _ _).1 hy)with q|q
     ·rw[q]at h';exact hz h'
     ·rw[q]at h'
      obtain⟨t,ht,e⟩:=hst (s:=1) (by omega) h';exact⟨0,t,by omega,ht,e⟩
    ·rw[zhc hy]at h';exact hz h'
   ·rw[if_neg h1]at hy
    rcases hy with hy|hy
    ·rw[zti hy]at h';exact hz h'
    ·rw[zhc hy]at h'
     obtain⟨m,t,hm,ht,e⟩:=ih (zvc hs) h';exact⟨m,t,by omega,ht,e⟩
def upsAll:List Nat:=(List.range 13).flatMap fun m=>(List.range 16).flatMap fun t=>[nusU zac m t,negC (nusU zac m t)]
theorem zhz {m t:Nat}(hm:m≤12)(ht:t≤15):nusU zac m t∈upsAll/\negC (nusU zac m t)∈upsAll:=by
 unfold upsAll;exact⟨List.mem_flatMap.2 ⟨m,List.mem_range.2 (by omega),List.mem_flatMap.2 ⟨t,List.mem_range.2 (by omega),by simp⟩⟩,List.mem_flatMap.2 ⟨m,List.mem_range.2 (by omega),List.mem_flatMap.2 ⟨t,List.mem_range.2 (by omega),by simp⟩⟩⟩
theorem zi0:upsAll.length=416:=by
 unfold upsAll;simp only[List.length_flatMap,List.length_cons,List.length_nil,List.map_const',List.length_range,List.sum_replicate_nat]
set_option maxRecDepth 8000 in
set_option maxHeartbeats 1000000 in
theorem zvm {U:List Nat}(hUl:U.length<1000000)(hU:∀(m t:Nat),m≤12→t≤15→nusU zac m t∈U)(pb sb:Nat)(mo mc ms:Value)(n:Nat):n≤12→∀(s:Nat),s≤15→∀(V:List PL) (BV:List Nat) (M I:Nat→Prop) (f:Nat→Option Nat) (w:World),PSt encN NegMO U pb sb mo mc ms (.map (some sb)) w V BV M I f →
  Calls Tryz.prog 78 #[.pointer (some ⟨pb,0,none⟩),.int .i64 (n:Int),.int .i64 (s:Int)] w fun e w'=>zce U pb sb mo mc ms w V M I (nusU zac n s) e w':=by
 have hUs:∀k,k≤15→zb5 k∈U:=fun k hk=>by have h:=hU 0 k (by omega) hk;rwa [nusU,zcb]at h
 induction n with
 | zero =>
  intro _ s hs V BV M I f w hst;have h:=zzg hUl pb sb mo mc ms s (by omega) (fun k hk=>hUs k (by omega)) V BV M I f w hst;rw[nusU,zcb];exact h
 | succ n ih =>
  intro hn s hs V BV M I f w hst;have HNz:=Hh (zf0 (L:=[]) (R:=[]) hUl none none 0 0 0 0 rfl rfl hst (SliceOf.nil _ _) (SliceOf.nil _ _) (RowC.nil _) (RowC.nil _) (show mkC [] []∈U from hUs 0 (by omega)) (by simp) (by simp));have a1:¬((n+1:Nat):Int)<0:=by omega
  have a2:(((n+1:Nat):Int) == 0)=false:=by rw[beq_eq_false_iff_ne];omega
  have a2':¬((n+1:Nat):Int)=0:=by omega
  have hmem:=hU (n+1) s hn hs;obtain⟨N,hN⟩:∃N:Int,N=((n+1:Nat):Int):=⟨_,rfl⟩;rw[←hN]at a1 a2 a2' ⊢;by_cases h1:n=0/\s=1
  ·obtain⟨rfl,rfl⟩:=h1
   have hN1:N=1:=hN;subst hN1;have HSt:=Hh (fun(W:World) (V1:List PL) (B1:List Nat) (M1 I1:Nat→Prop) (f1:Nat→Option Nat) (h:PSt encN NegMO U pb sb mo mc ms (.map (some sb)) W V1 B1 M1 I1 f1)=>show Calls Tryz.prog 132 #[.pointer (some ⟨pb,0,none⟩),.int .i64 1] W fun e w'=>zce U pb sb mo mc ms W V1 M1 I1 (zb5 1) e w' from zsr hUl pb sb mo mc ms 1 (by omega) (fun k hk=>hUs k (by omega)) V1 B1 M1 I1 f1 W h);have hm:nusU zac 1 1=mkC [zac,zb5 1] [zac]:=by rw[nusU,if_pos ⟨rfl,rfl⟩,zcb]
   rw[show(0:Nat)+1=1 from rfl]at hmem ⊢;rw[hm]at hmem ⊢;have HUu:=Hh hmem;have HUl:=Hh hUl;clear hst hU hUs hUl ih hmem hm hN hn hs a1 a2 a2';go_enter Tryz.func78,Tryz.ntmps78;go_wp2_with fail;(with_reducible refine HNz.out.mono ?_);rintro e w1 ⟨z0,V1,B1,M1,I1,f1,rfl,st1,nx1,l1,q1⟩;have HS:=Hh (HSt.out w1 V1 B1 M1 I1 f1 st1);have HNx:=Hh nx1;have HL1:=Hh (And.intro l1 q1);clear st1 nx1 l1 q1;go_wp2_with fail;(with_reducible refine HS.out.mono ?_);rintro e w3 ⟨s0,V3,B3,M3,I3,f3,rfl,st3,nx3,l3,q3⟩;obtain⟨w4,hw4⟩:∃w4,w4=(w3.alloc (.cells #[.int .i64 (z0:Int),.int .i64 (s0:Int)] 3)).alloc (.cells #[.int .i64 (z0:Int)] 3):=⟨_,rfl⟩;have g4:Fr NoM w3 w4:=by rw[hw4];exact((Fr.refl NoM w3).alloc _).alloc _
   have n4:Nats w4 (.slice (some ⟨w3.heap.size,0,none⟩) 2 2) [z0,s0]:=by
    have h:=heap_alloc_new w3 (.cells #[.int .i64 (z0:Int),.int .i64 (s0:Int)] 3);have h4:w4.heap[w3.heap.size]?=some (.cells #[.int .i64 (z0:Int),.int .i64 (s0:Int)] 3 (0,0)):=by rw[hw4];exact((Fr.refl NoM _).alloc _).heap h (fun q=>q)
    refine⟨_,_,rfl,Nat.le_refl _,by decide,fun j x hj=>?_⟩;match j,hj with
    | 0,hj=>cases hj;exact⟨_,0,rfl,by rw[cell_of_row w4 _ 0 _ _ _ h4];rfl⟩
    | 1,hj=>cases hj;exact⟨_,0,rfl,by rw[cell_of_row w4 _ 1 _ _ _ h4];rfl⟩
   have n5:Nats w4 (.slice (some ⟨w3.heap.size+1,0,none⟩) 1 1) [z0]:=by
    have h:=SliceOf.one encN (w3.alloc (.cells #[.int .i64 (z0:Int),.int .i64 (s0:Int)] 3)) z0 3;rw[World.size_alloc]at h;rw[hw4];exact h
   have hz3:z0<V3.length/\(za0 V3).getD z0 0=zac:=⟨by have:=nx3.pre.length_le;have:=HL1.out.1;omega,by rw[zaq nx3.pre HL1.out.1];exact HL1.out.2⟩;have HNd:=Hh (show Calls Tryz.prog 89 #[.pointer (some ⟨pb,0,none⟩),.slice (some ⟨w3.heap.size,0,none⟩) 2 2,.slice (some ⟨w3.heap.size+1,0,none⟩) 1 1] w4 fun e w'=>zce U pb sb mo mc ms w4 V3 M3 I3 (mkC [zac,zb5 1] [zac]) e w' from zf0 (U:=U) HUl.out (some ⟨w3.heap.size,0,none⟩) (some ⟨w3.heap.size+1,0,none⟩) 2 1 2 1 rfl rfl (st3.fr0 g4) n4 n5 (((RowC.nil V3).snoc hz3.1 hz3.2).snoc l3 q3) ((RowC.nil V3).snoc hz3.1 hz3.2) HUu.out (by simp) (by simp));have HNx3:=Hh (HNx.out.trans (nx3.trans (PNx.of0 g4)));clear st3 nx3 l3 q3 g4 n4 n5 hz3;go_wp2_with fail;rw[←hw4];clear hw4;(with_reducible refine HNd.out.mono ?_);rintro e w5 ⟨i,V5,B5,M5,I5,f5,rfl,st5,nx5,l5,q5⟩;have HE:=Hh (show zce U pb sb mo mc ms w V M I (mkC [zac,zb5 1] [zac]) (.returned (.int .i64 (i:Int))) w5 from⟨i,V5,B5,M5,I5,f5,rfl,st5,HNx3.out.trans nx5,l5,q5⟩);clear st5 nx5 l5 q5;go_wp2;go_ret;exact HE.out
  ·have hm:nusU zac (n+1) s=mkC [zac] [nusU zac n (s ^^^ 1)]:=by rw[nusU,if_neg h1]
   rw[hm]at hmem ⊢;have hxs:=zhv s (by omega);have HU0:=Hh (fun(W:World) (V1:List PL) (B1:List Nat) (M1 I1:Nat→Prop) (f1:Nat→Option Nat) (h:PSt encN NegMO U pb sb mo mc ms (.map (some sb)) W V1 B1 M1 I1 f1)=>ih (by omega) (s ^^^ 1) (zvc hs) V1 B1 M1 I1 f1 W h);have HWn:=Hh (show wrap64 (n:Int)=(n:Int)from by unfold wrap64;omega);have HXs:=Hh hxs;have HN1:=Hh (show N-1=(n:Int)from by omega);obtain⟨b1,hb1⟩:∃b1:Bool,(N == 1)=b1:=⟨_,rfl⟩;obtain⟨b2,hb2⟩:∃b2:Bool,((s:Int) == 1)=b2:=⟨_,rfl⟩;have hbb:(b1 && b2)=false:=by
    cases hq:(b1 && b2)with
    | false=>rfl
    | true =>
     rw[Bool.and_eq_true]at hq;obtain⟨rfl,rfl⟩:=hq;rw[beq_iff_eq]at hb1 hb2;exact absurd ⟨by omega,by omega⟩ h1
   have HBb:=Hh hbb;have HUu:=Hh hmem;have HUl:=Hh hUl;clear hst hU hUs hUl ih hmem hm hN hs h1 hxs hbb hn;go_enter Tryz.func78,Tryz.ntmps78;go_wp2_with fail;(with_reducible refine HNz.out.mono ?_);rintro e w1 ⟨z0,V1,B1,M1,I1,f1,rfl,st1,nx1,l1,q1⟩;obtain⟨w2,hw2⟩:∃w2,w2=w1.alloc (.cells #[.int .i64 (z0:Int)] 3):=⟨_,rfl⟩;have g2:Fr NoM w1 w2:=by rw[hw2];exact(Fr.refl NoM w1).alloc _
   have n2:Nats w2 (.slice (some ⟨w1.heap.size,0,none⟩) 1 1) [z0]:=by rw[hw2];exact SliceOf.one encN w1 z0 3
   have hZ2:¬M1 w1.heap.size/\w1.heap.size≠sb/\w1.heap.size<w2.heap.size:=⟨fun h=>by have:=(st1.mlt _ h).1;omega,by have:=st1.map.lt;omega,by rw[hw2];simp⟩;have HS:=Hh (HU0.out w2 V1 B1 M1 I1 f1 (st1.fr0 g2));have HNx:=Hh (nx1.trans (PNx.of0 g2));have HN2:=Hh n2;have HZ2:=Hh hZ2;have HL1:=Hh (And.intro l1 q1);clear st1 nx1 l1 q1 g2 n2 hZ2;have key:∀ {K:Prop},(b1=false→K)→(b1=true→b2=false→K)→K:=fun {K} h1 h2=>by
    have h:=HBb.out;cases b1 with
    | false=>exact h1 rfl
    | true=>exact h2 rfl h
   refine key (fun e1=>?_) (fun e1 e2=>?_);all_goals
    subst e1;try subst e2
    clear key HBb;go_wp2_with fail;rw[←hw2];clear hw2;rw[HXs.out,HN1.out,HWn.out];(with_reducible refine HS.out.mono ?_);rintro e w3 ⟨s0,V3,B3,M3,I3,f3,rfl,st3,nx3,l3,q3⟩;obtain⟨w4,hw4⟩:∃w4,w4=w3.alloc (.cells #[.int .i64 (s0:Int)] 3):=⟨_,rfl⟩;have g4:Fr NoM w3 w4:=by rw[hw4];exact(Fr.refl NoM w3).alloc _
    have n4:Nats w4 (.slice (some ⟨w3.heap.size,0,none⟩) 1 1) [s0]:=by rw[hw4];exact SliceOf.one encN w3 s0 3
    have h3:=ycr HN2.out (nx3.trans (PNx.of0 g4)) HZ2.out;have hz3:z0<V3.length/\(za0 V3).getD z0 0=zac:=⟨by have:=nx3.pre.length_le;have:=HL1.out.1;omega,by rw[zaq nx3.pre HL1.out.1];exact HL1.out.2⟩;have HNd:=Hh (show Calls Tryz.prog 89 #[.pointer (some ⟨pb,0,none⟩),.slice (some ⟨w1.heap.size,0,none⟩) 1 1,.slice (some ⟨w3.heap.size,0,none⟩) 1 1] w4 fun e w'=>zce U pb sb mo mc ms w4 V3 M3 I3 (mkC [zac] [nusU zac n (s ^^^ 1)]) e w' from zf0 (U:=U) HUl.out (some ⟨w1.heap.size,0,none⟩) (some ⟨w3.heap.size,0,none⟩) 1 1 1 1 rfl rfl (st3.fr0 g4) h3.1 n4 ((RowC.nil V3).snoc hz3.1 hz3.2) ((RowC.nil V3).snoc l3 q3) HUu.out (by simp) (by simp));have HNx3:=Hh (HNx.out.trans (nx3.trans (PNx.of0 g4)));clear st3 nx3 l3 q3 g4 n4 h3 hz3;go_wp2_with fail;rw[←hw4];clear hw4;(with_reducible refine HNd.out.mono ?_);rintro e w5 ⟨i,V5,B5,M5,I5,f5,rfl,st5,nx5,l5,q5⟩;have HE:=Hh (show zce U pb sb mo mc ms w V M I (mkC [zac] [nusU zac n (s ^^^ 1)]) (.returned (.int .i64 (i:Int))) w5 from⟨i,V5,B5,M5,I5,f5,rfl,st5,HNx3.out.trans nx5,l5,q5⟩);clear st5 nx5 l5 q5;go_wp2;go_ret;exact HE.out
set_option maxRecDepth 8000 in
set_option maxHeartbeats 1000000 in
theorem zvk {U:List Nat}(hUl:U.length<1000000)(hU:∀(m t:Nat),m≤12→t≤15→nusU zac m t∈U/\negC (nusU zac m t)∈U)(pb sb:Nat)(mo mc ms:Value)(m:Int)(h1:-12≤m)(h2:m≤12)(s:Nat)(hs:s≤15)(V:List PL)(BV:List Nat)(M I:Nat→Prop)(f:Nat→Option Nat)(w:World)
  (hst:PSt encN NegMO U pb sb mo mc ms (.map (some sb)) w V BV M I f) :
  Calls Tryz.prog 78 #[.pointer (some ⟨pb,0,none⟩),.int .i64 m,.int .i64 (s:Int)] w fun e w'=>zce U pb sb mo mc ms w V M I (nusC zac m s) e w':=by
 by_cases h0:0≤m
 ·obtain⟨n,rfl⟩:=Int.eq_ofNat_of_zero_le h0
  rw[show nusC zac (n:Int) s=nusU zac n s from by rw[nusC,if_pos h0,Int.toNat_natCast]];exact zvm hUl (fun m t hm ht=>(hU m t hm ht).1) pb sb mo mc ms n (by omega) s hs V BV M I f w hst
 ·obtain⟨n,hn⟩:∃n:Nat,(n:Int)=-m:=⟨(-m).toNat,by omega⟩
  rw[show nusC zac m s=negC (nusU zac n s)from by rw[nusC,if_neg h0,zxt,show(-m).toNat=n from by omega]];have HNz:=Hh (zf0 (L:=[]) (R:=[]) hUl none none 0 0 0 0 rfl rfl hst (SliceOf.nil _ _) (SliceOf.nil _ _) (RowC.nil _) (RowC.nil _) (show mkC [] []∈U from(hU 0 0 (by omega) (by omega)).1) (by simp) (by simp));have HU0:=Hh (fun(W:World) (V1:List PL) (B1:List Nat) (M1 I1:Nat→Prop) (f1:Nat→Option Nat) (h:PSt encN NegMO U pb sb mo mc ms (.map (some sb)) W V1 B1 M1 I1 f1)=>zvm hUl (fun m t hm ht=>(hU m t hm ht).1) pb sb mo mc ms n (by omega) s hs V1 B1 M1 I1 f1 W h);have HNeg:=Hh (fun(i:Nat) (W:World) (V1:List PL) (B1:List Nat) (M1 I1:Nat→Prop) (f1:Nat→Option Nat) (h:PSt encN NegMO U pb sb mo mc ms (.map (some sb)) W V1 B1 M1 I1 f1) (hi:i<V1.length) (hc:(za0 V1).getD i 0=nusU zac n s)=>(by
   have h9:=ycz hUl pb sb mo mc ms _ i (Nat.lt_succ_self _) V1 B1 M1 I1 f1 W h hi (fun a ha=>by
    rw[hc]at ha;obtain⟨m',t',hm',ht',e⟩:=yag hs ha;rw[←e];exact(hU m' t' (by omega) ht').2)
   rw[hc]at h9;exact h9:Calls Tryz.prog 58 #[.pointer (some ⟨pb,0,none⟩),.int .i64 (i:Int)] W fun e w'=>zce U pb sb mo mc ms W V1 M1 I1 (negC (nusU zac n s)) e w'))
  have a1:m<0:=by omega
  have HN:=Hh (show -m=(n:Int)/\wrap64 (n:Int)=(n:Int)from⟨hn.symm,by unfold wrap64;omega⟩);clear hst hU hUl hn h0 hs;go_enter Tryz.func78,Tryz.ntmps78;go_wp2_with fail;(with_reducible refine HNz.out.mono ?_);rintro e w1 ⟨z0,V1,B1,M1,I1,f1,rfl,st1,nx1,l1,q1⟩;have HS:=Hh (HU0.out w1 V1 B1 M1 I1 f1 st1);have HNx:=Hh nx1;clear st1 nx1 l1 q1;go_wp2_with fail;rw[HN.out.1];try rw[HN.out.2]
  (with_reducible refine HS.out.mono ?_);rintro e w3 ⟨i3,V3,B3,M3,I3,f3,rfl,st3,nx3,l3,q3⟩;have HNg:=Hh (HNeg.out i3 w3 V3 B3 M3 I3 f3 st3 l3 q3);have HNx3:=Hh (HNx.out.trans nx3);clear st3 nx3 l3 q3;go_wp2_with fail;(with_reducible refine HNg.out.mono ?_);rintro e w5 ⟨i,V5,B5,M5,I5,f5,rfl,st5,nx5,l5,q5⟩;have HE:=Hh (show zce U pb sb mo mc ms w V M I (negC (nusU zac n s)) (.returned (.int .i64 (i:Int))) w5 from⟨i,V5,B5,M5,I5,f5,rfl,st5,HNx3.out.trans nx5,l5,q5⟩);clear st5 nx5 l5 q5;go_wp2;go_ret;exact HE.out
set_option maxRecDepth 4000 in
set_option maxHeartbeats 8000000 in
theorem zr6 (w:World)(m:Int)(b1:-12≤m)(b2:m≤12)(s:Nat)(b3:s≤15)(hfit:zau (za6 (nusC zac m s))=true):Calls Tryz.prog 34 #[.int .i64 m,.int .i64 (s:Int)] w fun e w'=>∃v',e=.returned (.tuple #[.agg #[v'],.bool true])/\NodesS w.heap.size w' v' (za6 (nusC zac m s))/\Fr NoM w w':=by
 obtain⟨RN,hRN⟩:∃RN,RN=za6 (nusC zac m s):=⟨_,rfl⟩;rw[←hRN];have HRN:=Hh hRN;clear hRN;obtain⟨w1,hw1⟩:∃w1,w1=w.alloc (.cells #[.slice none 0 0] 26):=⟨_,rfl⟩;have f1:Fr NoM w w1:=by rw[hw1];exact(Fr.refl NoM w).alloc _
 have hs1:w1.heap.size=w.heap.size+1:=by rw[hw1];simp
 have e1:w1.heap[w.heap.size]?=some (.cells #[.slice none 0 0] 26 (0,0)):=by rw[hw1];exact heap_alloc_new w _
 have HK:=Hh (fun(W:World) (f:Fr (fun q=>w1.heap.size≤q) w1 W)=>(by
  have h1:=f.heap e1 (fun q=>by omega);exact⟨by rw[cell_of_row W _ 0 _ _ _ h1];rfl,by simp[World.frozen?,h1]⟩:W.cell? ⟨w.heap.size,0,none⟩=some (.slice none 0 0)/\W.frozen? ⟨w.heap.size,0,none⟩=false))
 have F1:=Hh f1;have HS1:=Hh hs1;have HB:=Hh (And.intro b1 (And.intro b2 b3));have HFit:=Hh hfit;have a1:¬m < -12:=by omega
 have a2:¬m>12:=by omega
 have a3:¬(s:Int)<0:=by omega
 have a4:¬(s:Int)>15:=by omega
 clear f1 hs1 e1 b1 b2 b3 hfit;go_enter Tryz.func34,Tryz.ntmps34;go_wp2_with fail;rw[←hw1];clear hw1;(with_reducible refine(ze3 w1).mono ?_);rintro e w3 ⟨rfl,hp3,hmaps,f3⟩;obtain⟨pb,hpb⟩:∃pb,pb=w1.heap.size+5:=⟨_,rfl⟩;obtain⟨sb,hsb⟩:∃sb,sb=w1.heap.size+4:=⟨_,rfl⟩;have hmap:=hmaps 4 (by omega);rw[←hsb]at hmap hp3;rw[←hpb]at hp3 ⊢;obtain⟨mo,hmo⟩:∃v,v=Value.map (some (w1.heap.size+1)):=⟨_,rfl⟩;obtain⟨mc,hmc⟩:∃v,v=Value.map (some (w1.heap.size+2)):=⟨_,rfl⟩;obtain⟨ms,hms⟩:∃v,v=Value.map (some (w1.heap.size+3)):=⟨_,rfl⟩;rw[←hmo,←hmc,←hms]at hp3;clear hmaps hmo hmc hms;have hlo:=hp3.low;have hst:PSt encN NegMO upsAll pb sb mo mc ms (.map (some sb)) w3 [] [] (fun q=>(q=w1.heap.size∨q=pb)/\q<w3.heap.size) (fun q=>NoM q/\q<w3.heap.size) (fun _=>none) :=
  ⟨hlo,PoolOK.nil,fun x hx=>by simp at hx,⟨#[],0,hmap,by simp,by simp,by simp⟩,NegMO.none [],fun q hq=>⟨hq.2,by rcases hq.1 with h|h <;> omega⟩,fun q hq=>⟨hq.2,hq.1.elim⟩⟩
 have HUp:=Hh (zvk (U:=upsAll) (by rw[zi0];decide) (fun m t hm ht=>zhz hm ht) pb sb mo mc ms m HB.out.1 HB.out.2.1 s HB.out.2.2 [] [] _ _ _ w3 hst);have F3:=Hh f3;have HPb:=Hh (And.intro hpb hsb);clear hp3 hlo hst hmap f3 hpb hsb a1 a2 a3 a4;go_wp2_with fail;(with_reducible refine HUp.out.mono ?_);rintro e wy ⟨tt,Vy,By,My,Iy,fy,rfl,sty,nxy,ly,qy⟩;have hlen:=sty.len;rw[zi0]at hlen;have HFm:=Hh (zku pb tt Vy By mo mc ms (.map (some sb)) wy sty.pool sty.ok ly (by omega));have hfo:=zhq sty.ok ly qy;have HRs:=Hh (fun(okf:Bool) (FR:List PL) (hres:FormRes Vy By tt okf FR)=>(by
  obtain⟨h1,h2⟩:=FormRes.is sty.ok ly hres;rw[hfo]at h1 h2;rw[HFit.out]at h1;refine⟨h1,?_⟩;rw[HRN.out,h2,h1];rfl:okf=true/\FR=RN))
 have Fy:=Hh (F3.out.any.trans nxy.fr (fun k _ h=>by
  have:=HPb.out;rcases h with h|h
  ·rcases h.1 with h|h <;> omega
  ·omega):Fr (fun q=>w1.heap.size≤q) w1 wy)
 clear sty nxy ly qy hlen hfo;go_wp2_with fail;(with_reducible refine HFm.out.mono ?_);rintro e wz ⟨nv,okf,FR,rfl,hres,hns,fz⟩;obtain⟨rfl,rfl⟩:=HRs.out okf FR hres;have Fz:=Hh (Fy.out.trans fz (fun _ _ q=>q.elim));have HNs:=Hh hns;have HZz:=Hh (show w.heap.size+1≤wy.heap.size from by have:=Fy.out.size;have:=HS1.out;omega);obtain⟨an,cn,rfl,zz⟩:=id hns.nodeL;clear zz hns fz hres;obtain⟨k1,k2⟩:=HK.out wz Fz.out;go_wp2;refine bodyPost_ret (v:=.tuple #[.agg #[.slice an FR.length cn],.bool true]) (by simp[results,Tryz.results34,go_sem,k1,k2]) rfl ?_
 refine⟨_,rfl,?_,(F1.out.trans Fz.out (fun k hk h=>by have h:w1.heap.size≤k:=h;have:=HS1.out;omega)).setCell _ _ (fun h=>by have h:w.heap.size<w.heap.size:=h;omega)⟩;exact(HNs.out.fr (Fr.set wz ⟨w.heap.size,0,none⟩ (.slice an FR.length cn)) (fun q hq _ e=>by have e:q=w.heap.size:=e;have:=HZz.out;omega)).base (D':=w.heap.size) (by have:=HZz.out;omega)
def uqC (n:Int)(s:Nat):Nat:=nusC zac n s
def uqGe (N:Int)(S:Nat):Bool:=decide (2≤N∨(N=1/\S≠1)∨(N=0/\S=0))
def mvR (n:Int)(s:Nat):List (Int × Nat):=if n=0 then (List.range s).map (fun k=>(0,k))else if 0<n then [(n-1,s ^^^ 1)]else if n=-1/\s=1 then [(0,0),(0,1)]else [(0,0)]
def mvL (n:Int)(s:Nat):List (Int × Nat):=(mvR (-n) s).map fun p=>(-p.1,p.2)
theorem zg9 {α:Type}{a b x:α}:x∈[a,b]↔x=a∨x=b:=by simp
theorem zsn:uqC 0 0=zac:=rfl
theorem zf5 (s:Nat):uqC 0 s=zb5 s:=by unfold uqC;rw[zp4,zcb]
theorem zb7 (n:Int)(s x:Nat):hasR (uqC n s) x↔∃p∈mvR n s,uqC p.1 p.2=x:=by
 unfold mvR;by_cases h0:n=0
 ·subst h0
  rw[if_pos rfl,zf5,zd2];constructor
  ·rintro⟨k,hk,e⟩
   exact⟨(0,k),List.mem_map.2 ⟨k,List.mem_range.2 hk,rfl⟩,by rw[zf5];exact e⟩
  ·rintro⟨p,hp,e⟩
   obtain⟨k,hk,rfl⟩:=List.mem_map.1 hp;exact⟨k,List.mem_range.1 hk,by rw[zf5]at e;exact e⟩
 ·rw[if_neg h0]
  by_cases hp:0<n
  ·rw[if_pos hp]
   have e:hasR (uqC n s) x↔x=uqC (n-1) (s ^^^ 1):=by
    by_cases h1:n=1/\s=1
    ·obtain⟨rfl,rfl⟩:=h1
     exact(zbg zac).2 x
    ·exact(zdm hp h1).2 x
   rw[e];exact⟨fun h=>⟨_,List.mem_singleton.2 rfl,h.symm⟩,fun⟨p,hp,h⟩=>by rw[List.mem_singleton.1 hp]at h;exact h.symm⟩
  ·rw[if_neg hp]
   by_cases h1:n=-1/\s=1
   ·rw[if_pos h1]
    obtain⟨rfl,rfl⟩:=h1;refine((zb2 zac).2 x).trans ⟨fun h=>?_,fun⟨p,hp,h⟩=>?_⟩
    ·rcases h with h|h
     ·exact⟨(0,0),by simp,h.symm⟩
     ·exact⟨(0,1),by simp,h.symm⟩
    ·rcases zg9.1 hp with e|e
     ·rw[e]at h;exact .inl h.symm
     ·rw[e]at h;exact .inr h.symm
   ·rw[if_neg h1]
    refine((zca (a:=zac) (s:=s) (n:=n) (by omega) h1).2 x).trans ⟨fun h=>⟨(0,0),by simp,h.symm⟩,fun⟨p,hp,h⟩=>?_⟩;rw[List.mem_singleton.1 hp]at h;exact h.symm
theorem zby (n:Int)(s x:Nat):hasL (uqC n s) x↔∃p∈mvL n s,uqC p.1 p.2=x:=by
 unfold mvL mvR;by_cases h0:n=0
 ·subst h0
  rw[if_pos (by decide),zf5,zcp,List.map_map];constructor
  ·rintro⟨k,hk,e⟩
   exact⟨(0,k),List.mem_map.2 ⟨k,List.mem_range.2 hk,rfl⟩,by rw[zf5];exact e⟩
  ·rintro⟨p,hp,e⟩
   obtain⟨k,hk,rfl⟩:=List.mem_map.1 hp;exact⟨k,List.mem_range.1 hk,by
    have e:uqC 0 k=x:=e;rw[zf5]at e;exact e⟩
 ·rw[if_neg (by omega)]
  by_cases hp:0<n
  ·rw[if_neg (by omega)]
   by_cases h1:n=1/\s=1
   ·rw[if_pos ⟨by omega,h1.2⟩]
    obtain⟨rfl,rfl⟩:=h1;refine((zbg zac).1 x).trans ⟨fun h=>?_,fun⟨p,hp,h⟩=>?_⟩
    ·rcases h with h|h
     ·exact⟨(0,0),by simp,h.symm⟩
     ·exact⟨(0,1),by simp,h.symm⟩
    ·rcases zg9.1 (show p∈[((0:Int),0),(0,1)]from hp)with e|e
     ·rw[e]at h;exact .inl h.symm
     ·rw[e]at h;exact .inr h.symm
   ·rw[if_neg (fun q=>h1 ⟨by omega,q.2⟩)]
    refine((zdm (a:=zac) hp h1).1 x).trans ⟨fun h=>⟨(0,0),by simp,h.symm⟩,fun⟨p,hp,h⟩=>?_⟩;rw[List.mem_singleton.1 hp]at h;exact h.symm
  ·rw[if_pos (by omega)]
   have e:hasL (uqC n s) x↔x=uqC (n+1) (s ^^^ 1):=by
    by_cases h1:n=-1/\s=1
    ·obtain⟨rfl,rfl⟩:=h1
     exact(zb2 zac).1 x
    ·exact(zca (by omega) h1).1 x
   have e2:uqC (-(-n-1)) (s ^^^ 1)=uqC (n+1) (s ^^^ 1):=by rw[show -(-n-1)=n+1 by omega]
   rw[e];refine⟨fun h=>⟨_,List.mem_singleton.2 rfl,e2.trans h.symm⟩,fun⟨p,hp,h⟩=>?_⟩;rw[List.mem_singleton.1 (show p∈[(-(-n-1),s ^^^ 1)]from hp)]at h;exact h.symm.trans e2
theorem zvb {s:Nat}(h:s<4):s ^^^ 1<4:=by
 have:∀a:Fin 4,a.1 ^^^ 1<4:=by decide
 exact this ⟨s,h⟩
theorem zfi {n:Int}{s:Nat}{p:Int × Nat}(h:p∈mvR n s)(hs:s<4):p.1.natAbs≤n.natAbs/\p.2<4:=by
 unfold mvR at h;split at h
 ·obtain⟨k,hk,rfl⟩:=List.mem_map.1 h
  have:=List.mem_range.1 hk;exact⟨Nat.zero_le _,by show k<4;omega⟩
 ·split at h
  ·rw[List.mem_singleton.1 h]
   have:=zvb hs;exact⟨by show(n-1).natAbs≤_;omega,this⟩
  ·split at h
   ·rcases zg9.1 h with e|e
    ·rw[e];exact⟨Nat.zero_le _,by decide⟩
    ·rw[e];exact⟨Nat.zero_le _,by decide⟩
   ·rw[List.mem_singleton.1 h];exact⟨Nat.zero_le _,by decide⟩
theorem zfy {n:Int}{s:Nat}{p:Int × Nat}(h:p∈mvL n s)(hs:s<4):p.1.natAbs≤n.natAbs/\p.2<4:=by
 obtain⟨q,hq,rfl⟩:=List.mem_map.1 h;have:=zfi hq hs;exact⟨by show(-q.1).natAbs≤_;omega,this.2⟩
theorem zrx {n:Int}{s:Nat}{p:Int × Nat}(h:p∈mvR n s):(p.1=n-1/\p.2=s ^^^ 1)∨(p.1=n/\p.2≠s)∨n<p.1:=by
 unfold mvR at h;split at h
 ·rename_i h0
  obtain⟨k,hk,rfl⟩:=List.mem_map.1 h;have:=List.mem_range.1 hk;exact .inr (.inl ⟨h0.symm,by show k≠s;omega⟩)
 ·rename_i h0
  split at h
  ·rw[List.mem_singleton.1 h];exact .inl ⟨rfl,rfl⟩
  ·rename_i hp
   refine .inr (.inr ?_);split at h
   ·rcases zg9.1 h with e|e
    ·rw[e];show n<0;omega
    ·rw[e];show n<0;omega
   ·rw[List.mem_singleton.1 h];show n<0;omega
theorem zxv {N N':Int}{S S':Nat}(h:uqGe N S=true)(h':(N'=N-1/\S'=S ^^^ 1)∨(N'=N/\S'≠S)∨N<N'):uqGe (-N') S'=false:=by
 have h:=of_decide_eq_true h;refine decide_eq_false fun q=>?_
 have k1:S≠1→S ^^^ 1≠0:=fun e q=>e (ze0 q)
 have k2:S=0→S ^^^ 1=1:=fun e=>by rw[e];rfl
 rcases h' with ⟨e,f⟩|⟨e,f⟩|e
 ·rcases h with h|⟨h,g⟩|⟨h,g⟩
  ·omega
  ·have:=k1 g;omega
  ·have:=k2 g;omega
 ·omega
 ·omega
theorem yd1 {N:Int}{S:Nat}(h:uqGe N S=false):uqGe (-(N-1)) (S ^^^ 1)=true:=by
 have h:=of_decide_eq_false h;refine decide_eq_true ?_
 by_cases h1:N<0
 ·exact .inl (by omega)
 ·by_cases h2:N=0
  ·refine .inr (.inl ⟨by omega,fun q=>h (.inr (.inr ⟨h2,?_⟩))⟩)
   rw[←xor1 S,q];rfl
  ·have h3:N=1:=Classical.byContradiction fun q=>h (.inl (by omega))
   have h4:S=1:=Classical.byContradiction fun q=>h (.inr (.inl ⟨h3,q⟩))
   exact .inr (.inr ⟨by omega,by rw[h4];rfl⟩)
def mvN (i s:Nat):List (Nat × Nat):=if i == 0 then (List.range s).map (fun k=>(0,k))else if i == 1 && s == 1 then [(0,0),(0,1)]else [(0,0)]
def okN (N S:Nat):Bool:=Nat.ble 2 N || (N == 1 && !(S == 1)) || (N == 0 && S == 0)
def lowN (i s j t k u:Nat):Bool:=(i+j+k == 0 && s ^^^ t ^^^ u == 0) || (mvN i s).any (fun p=>okN (p.1+j+k) (p.2 ^^^ t ^^^ u)) || (mvN j t).any (fun p=>okN (i+p.1+k) (s ^^^ p.2 ^^^ u)) || (mvN k u).any (fun p=>okN (i+j+p.1) (s ^^^ t ^^^ p.2))
set_option maxRecDepth 100000 in
theorem yd4:((List.range 7).all fun i=>(List.range 4).all fun s=>(List.range 4).all fun j=>(List.range 4).all fun t=>(List.range 7).all fun k=>(List.range 4).all fun u=>lowN i s j t k u)=true:=by kernel_rfl
theorem yep {i s j t k u:Nat}(hi:i<7)(hs:s<4)(hj:j<4)(ht:t<4)(hk:k<7)(hu:u<4):lowN i s j t k u=true:=by
 have h:=yd4;simp only[List.all_eq_true,List.mem_range]at h;exact h i hi s hs j hj t ht k hk u hu
theorem znm (N S:Nat):uqGe (N:Int) S=okN N S:=by
 unfold uqGe okN;rw[Bool.eq_iff_iff,decide_eq_true_iff];simp only[Bool.or_eq_true,Bool.and_eq_true,Nat.ble_eq,beq_iff_eq,Bool.not_eq_true',beq_eq_false_iff_ne];omega
theorem zrv (i s:Nat):mvR (-(i:Int)) s=(mvN i s).map fun p=>(-(p.1:Int),p.2):=by
 unfold mvR mvN;by_cases h0:i=0
 ·subst h0
  rw[if_pos (by decide),if_pos (by decide),List.map_map];rfl
 ·rw[if_neg (by omega),if_neg (by omega),if_neg (show ¬(i == 0)=true by simpa using h0)]
  by_cases h1:i=1/\s=1
  ·rw[if_pos ⟨by omega,h1.2⟩,if_pos (by simp[h1.1,h1.2])];rfl
  ·rw[if_neg (fun q=>h1 ⟨by omega,q.2⟩),if_neg (by simpa using h1)];rfl
theorem zva {a b c d:Nat}(h:a≠b):a ^^^ c ^^^ d≠b ^^^ c ^^^ d:=fun e=>h (by
 have h1:=congrArg (· ^^^ d ^^^ c) e;simpa [Nat.xor_assoc] using h1)
theorem zms {a b c:Nat}:(a ^^^ 1) ^^^ b ^^^ c=(a ^^^ b ^^^ c) ^^^ 1/\a ^^^ (b ^^^ 1) ^^^ c=(a ^^^ b ^^^ c) ^^^ 1/\a ^^^ b ^^^ (c ^^^ 1)=(a ^^^ b ^^^ c) ^^^ 1:=by
 refine⟨?_,?_,?_⟩ <;> ac_rfl
theorem ybs {a b c:Int}{s t u:Nat}(ha:-6≤a)(hb:-3≤b)(hc:-6≤c)(hs:s<4)(ht:t<4)(hu:u<4) :
  uqGe (a+b+c) (s ^^^ t ^^^ u)=true↔(∀p∈mvR a s,uqGe (-(p.1+b+c)) (p.2 ^^^ t ^^^ u)=false)/\(∀p∈mvR b t,uqGe (-(a+p.1+c)) (s ^^^ p.2 ^^^ u)=false)/\∀p∈mvR c u,uqGe (-(a+b+p.1)) (s ^^^ t ^^^ p.2)=false:=by
 constructor
 ·intro h
  refine⟨fun p hp=>zxv h ?_,fun p hp=>zxv h ?_,fun p hp=>zxv h ?_⟩
  ·rcases zrx hp with ⟨e,f⟩|⟨e,f⟩|e
   ·exact .inl ⟨by omega,by rw[f];exact zms.1⟩
   ·exact .inr (.inl ⟨by omega,zva f⟩)
   ·exact .inr (.inr (by omega))
  ·rcases zrx hp with ⟨e,f⟩|⟨e,f⟩|e
   ·exact .inl ⟨by omega,by rw[f];exact zms.2.1⟩
   ·exact .inr (.inl ⟨by omega,by rw[Nat.xor_comm s p.2,Nat.xor_comm s t];exact zva f⟩)
   ·exact .inr (.inr (by omega))
  ·rcases zrx hp with ⟨e,f⟩|⟨e,f⟩|e
   ·exact .inl ⟨by omega,by rw[f];exact zms.2.2⟩
   ·exact .inr (.inl ⟨by omega,by rw[Nat.xor_comm _ p.2,Nat.xor_comm _ u,←Nat.xor_assoc,←Nat.xor_assoc];exact zva f⟩)
   ·exact .inr (.inr (by omega))
 ·rintro⟨h1,h2,h3⟩
  refine eq_true_of_ne_false fun hf=>?_
  have pos:∀ {n:Int}{v:Nat},0<n→(n-1,v ^^^ 1)∈mvR n v:=fun {n v} hn=>by
   unfold mvR;rw[if_neg (by omega),if_pos hn];simp
  have good:=yd1 hf;by_cases pa:0<a
  ·have:=h1 _ (pos pa)
   simp only at this
   rw[zms.1,show a-1+b+c=a+b+c-1 by omega,good]at this
   cases this
  ·by_cases pb:0<b
   ·have:=h2 _ (pos pb)
    simp only at this
    rw[zms.2.1,show a+(b-1)+c=a+b+c-1 by omega,good]at this
    cases this
   ·by_cases pc:0<c
    ·have:=h3 _ (pos pc)
     simp only at this
     rw[zms.2.2,show a+b+(c-1)=a+b+c-1 by omega,good]at this
     cases this
    ·obtain⟨i,rfl⟩:∃i:Nat,a=-(i:Int):=⟨(-a).toNat,by omega⟩
     obtain⟨j,rfl⟩:∃j:Nat,b=-(j:Int):=⟨(-b).toNat,by omega⟩;obtain⟨k,rfl⟩:∃k:Nat,c=-(k:Int):=⟨(-c).toNat,by omega⟩;have hl:=yep (i:=i) (s:=s) (j:=j) (t:=t) (k:=k) (u:=u) (by omega) hs (by omega) ht (by omega) hu;unfold lowN at hl;simp only[Bool.or_eq_true,Bool.and_eq_true,beq_iff_eq,List.any_eq_true]at hl;rcases hl with ((⟨e,f⟩|⟨p,hp,e⟩)|⟨p,hp,e⟩)|⟨p,hp,e⟩
     ·have hn:=of_decide_eq_false hf
      exact hn (.inr (.inr ⟨by omega,f⟩))
     ·have:=h1 (-(p.1:Int),p.2) (by rw[zrv];exact List.mem_map.2 ⟨p,hp,rfl⟩)
      simp only at this
      rw[show -(-(p.1:Int) + -(j:Int) + -(k:Int))=((p.1+j+k:Nat):Int)by omega,znm,e]at this
      cases this
     ·have:=h2 (-(p.1:Int),p.2) (by rw[zrv];exact List.mem_map.2 ⟨p,hp,rfl⟩)
      simp only at this
      rw[show -(-(i:Int) + -(p.1:Int) + -(k:Int))=((i+p.1+k:Nat):Int)by omega,znm,e]at this
      cases this
     ·have:=h3 (-(p.1:Int),p.2) (by rw[zrv];exact List.mem_map.2 ⟨p,hp,rfl⟩)
      simp only at this
      rw[show -(-(i:Int) + -(j:Int) + -(p.1:Int))=((i+j+p.1:Nat):Int)by omega,znm,e]at this
      cases this
theorem uq_ge' (N:Nat):∀(n m k:Int) (s t u:Nat),uqC n s+uqC m t+uqC k u<N→n.natAbs≤6→m.natAbs≤3→k.natAbs≤6→s<4→t<4→u<4 →
  geC (sumC (uqC n s) (uqC m t)) (uqC k u)=uqGe (n+m-k) (s ^^^ t ^^^ u)/\geC (uqC k u) (sumC (uqC n s) (uqC m t))=uqGe (k-n-m) (s ^^^ t ^^^ u):=by
 induction N with
 | zero=>intro n m k s t u h;omega
 | succ N ih =>
  intro n m k s t u hN hn hm hk hs ht hu;have Ix:∀p:Int × Nat,optC (uqC n s) (uqC p.1 p.2)→p.1.natAbs≤n.natAbs/\p.2<4→_/\_:=fun p ho hr=>ih p.1 m k p.2 t u (by have:=za7 ho;omega) (by omega) hm hk hr.2 ht hu
  have Iy:∀p:Int × Nat,optC (uqC m t) (uqC p.1 p.2)→p.1.natAbs≤m.natAbs/\p.2<4→_/\_:=fun p ho hr=>ih n p.1 k s p.2 u (by have:=za7 ho;omega) hn (by omega) hk hs hr.2 hu
  have Iz:∀p:Int × Nat,optC (uqC k u) (uqC p.1 p.2)→p.1.natAbs≤k.natAbs/\p.2<4→_/\_:=fun p ho hr=>ih n m p.1 s t p.2 (by have:=za7 ho;omega) hn hm (by omega) hs ht hr.2
  have toL:∀ {n:Int}{s:Nat}{p:Int × Nat},p∈mvR (-n) s→(-p.1,p.2)∈mvL n s:=fun {n s p} hp=>List.mem_map.2 ⟨p,hp,rfl⟩
  have ofL:∀ {n:Int}{s:Nat}{p:Int × Nat},p∈mvL n s→(-p.1,p.2)∈mvR (-n) s:=fun {n s p} hp=>by
   obtain⟨q,hq,rfl⟩:=List.mem_map.1 hp;simpa using hq
  constructor
  ·rw[Bool.eq_iff_iff,zcv,show n+m-k=n+m + -k by omega,ybs (by omega) (by omega) (by omega) hs ht hu]
   constructor
   ·rintro⟨h1,h2⟩
    refine⟨fun p hp=>?_,fun p hp=>?_,fun p hp=>?_⟩
    ·have hr:=(zb7 n s _).2 ⟨p,hp,rfl⟩
     have:=h1 _ ((zdr _ _ _).2 (.inl ⟨_,hr,rfl⟩));rw[(Ix p (.inr hr) (zfi hp hs)).2]at this
     rw[←this];congr 1;omega
    ·have hr:=(zb7 m t _).2 ⟨p,hp,rfl⟩
     have:=h1 _ ((zdr _ _ _).2 (.inr ⟨_,hr,rfl⟩));rw[(Iy p (.inr hr) (zfi hp ht)).2]at this
     rw[←this];congr 1;omega
    ·have hl:=(zby k u _).2 ⟨_,toL hp,rfl⟩
     have:=h2 _ hl;rw[(Iz (-p.1,p.2) (.inl hl) (zfy (toL hp) hu)).2]at this
     rw[←this];congr 1;show _=-p.1-n-m;omega
   ·rintro⟨h1,h2,h3⟩
    refine⟨fun r hr=>?_,fun l hl=>?_⟩
    ·rcases (zdr _ _ _).1 hr with ⟨y,hy,rfl⟩|⟨y,hy,rfl⟩
     ·obtain⟨p,hp,rfl⟩:=(zb7 n s _).1 hy
      rw[(Ix p (.inr hy) (zfi hp hs)).2,←h1 p hp];congr 1;omega
     ·obtain⟨p,hp,rfl⟩:=(zb7 m t _).1 hy
      rw[(Iy p (.inr hy) (zfi hp ht)).2,←h2 p hp];congr 1;omega
    ·obtain⟨p,hp,rfl⟩:=(zby k u _).1 hl
     rw[(Iz p (.inl hl) (zfy hp hu)).2,←h3 _ (ofL hp)];congr 1;show _=-(n+m + -p.1);omega
  ·rw[Bool.eq_iff_iff,zcv,show k-n-m=-n + -m+k by omega,ybs (by omega) (by omega) (by omega) hs ht hu]
   constructor
   ·rintro⟨h1,h2⟩
    refine⟨fun p hp=>?_,fun p hp=>?_,fun p hp=>?_⟩
    ·have hl:=(zby n s _).2 ⟨_,toL hp,rfl⟩
     have:=h2 _ ((zds _ _ _).2 (.inl ⟨_,hl,rfl⟩));rw[(Ix (-p.1,p.2) (.inl hl) (zfy (toL hp) hs)).1]at this
     rw[←this];congr 1;show _=-p.1+m-k;omega
    ·have hl:=(zby m t _).2 ⟨_,toL hp,rfl⟩
     have:=h2 _ ((zds _ _ _).2 (.inr ⟨_,hl,rfl⟩));rw[(Iy (-p.1,p.2) (.inl hl) (zfy (toL hp) ht)).1]at this
     rw[←this];congr 1;show _=n + -p.1-k;omega
    ·have hr:=(zb7 k u _).2 ⟨p,hp,rfl⟩
     have:=h1 _ hr;rw[(Iz p (.inr hr) (zfi hp hu)).1]at this
     rw[←this];congr 1;omega
   ·rintro⟨h1,h2,h3⟩
    refine⟨fun r hr=>?_,fun l hl=>?_⟩
    ·obtain⟨p,hp,rfl⟩:=(zb7 k u _).1 hr
     rw[(Iz p (.inr hr) (zfi hp hu)).1,←h3 p hp];congr 1;omega
    ·rcases (zds _ _ _).1 hl with ⟨y,hy,rfl⟩|⟨y,hy,rfl⟩
     ·obtain⟨p,hp,rfl⟩:=(zby n s _).1 hy
      rw[(Ix p (.inl hy) (zfy hp hs)).1,←h1 _ (ofL hp)];congr 1;show _=-(-p.1 + -m+k);omega
     ·obtain⟨p,hp,rfl⟩:=(zby m t _).1 hy
      rw[(Iy p (.inl hy) (zfy hp ht)).1,←h2 _ (ofL hp)];congr 1;show _=-(-n + -p.1+k);omega
theorem ye8 {n m k:Int}{s t u:Nat}(hn:n.natAbs≤6)(hm:m.natAbs≤3)(hk:k.natAbs≤6)(hs:s<4)(ht:t<4)(hu:u<4) :
  geC (sumC (uqC n s) (uqC m t)) (uqC k u)=uqGe (n+m-k) (s ^^^ t ^^^ u)/\geC (uqC k u) (sumC (uqC n s) (uqC m t))=uqGe (k-n-m) (s ^^^ t ^^^ u):=uq_ge' _ n m k s t u (Nat.lt_succ_self _) hn hm hk hs ht hu
theorem znk (x:Nat):sumC zac x=x:=by
 induction x using Nat.strongRecOn with
 | _ x ih =>
  refine zcd (fun i=>?_) fun i=>?_
  ·rw[zds]
   constructor
   ·rintro(⟨l,h,_⟩|⟨l,h,rfl⟩)
    ·exact absurd h (zv9 l)
    ·rw[ih l (za7 (.inl h))];exact h
   ·intro h
    exact .inr ⟨i,h,ih i (za7 (.inl h))⟩
  ·rw[zdr]
   constructor
   ·rintro(⟨l,h,_⟩|⟨l,h,rfl⟩)
    ·exact absurd h (zv8 l)
    ·rw[ih l (za7 (.inr h))];exact h
   ·intro h
    exact .inr ⟨i,h,ih i (za7 (.inr h))⟩
theorem zmt {n k:Int}{s u:Nat}(hn:n.natAbs≤6)(hk:k.natAbs≤6)(hs:s<4)(hu:u<4):geC (uqC n s) (uqC k u)=uqGe (n-k) (s ^^^ u):=by
 have h:=(ye8 (m:=0) (t:=0) hn (by decide) hk hs (by omega) hu).1;rw[zsn,zzk,znk]at h;rw[h,Nat.xor_zero];congr 1;omega
set_option maxRecDepth 100000 in
theorem yc6:∀(i:Fin 13) (s:Fin 4),(∀p∈mvL ((i.1:Int)-6) s.1,(∀q∈mvL ((i.1:Int)-6) s.1,uqGe (q.1-p.1) (q.2 ^^^ p.2)=true→q=p)/\∀q∈mvR p.1 p.2,uqGe ((i.1:Int)-6-q.1) (s.1 ^^^ q.2)=false) ∧
  ∀p∈mvR ((i.1:Int)-6) s.1,(∀q∈mvR ((i.1:Int)-6) s.1,uqGe (p.1-q.1) (p.2 ^^^ q.2)=true→q=p)/\∀q∈mvL p.1 p.2,uqGe (q.1-((i.1:Int)-6)) (q.2 ^^^ s.1)=false:=by decide +kernel
theorem ybt (N:Nat):∀(n:Int) (s:Nat),uqC n s<N→n.natAbs≤6→s<4→CanC (uqC n s):=by
 induction N with
 | zero=>intro n s h;omega
 | succ N ih =>
  intro n s hN hn hs;have H:=yc6 ⟨(n+6).toNat,by omega⟩ ⟨s,hs⟩;simp only[show(((n+6).toNat:Nat):Int)-6=n by omega]at H;obtain⟨HL,HR⟩:=H;refine CanC.mk ⟨fun l l' hl hl' h=>?_,fun r r' hr hr' h=>?_,fun l r hl hr=>?_,fun r l hr hl=>?_⟩ (fun x hx=>?_)
  ·obtain⟨p,hp,rfl⟩:=(zby _ _ _).1 hl
   obtain⟨q,hq,rfl⟩:=(zby _ _ _).1 hl';have hp':=zfy hp hs;have hq':=zfy hq hs;rw[zmt (by omega) (by omega) hq'.2 hp'.2]at h;rw[(HL p hp).1 q hq h]
  ·obtain⟨p,hp,rfl⟩:=(zb7 _ _ _).1 hr
   obtain⟨q,hq,rfl⟩:=(zb7 _ _ _).1 hr';have hp':=zfi hp hs;have hq':=zfi hq hs;rw[zmt (by omega) (by omega) hp'.2 hq'.2]at h;rw[(HR p hp).1 q hq h]
  ·obtain⟨p,hp,rfl⟩:=(zby _ _ _).1 hl
   have hp':=zfy hp hs;obtain⟨q,hq,rfl⟩:=(zb7 _ _ _).1 hr;have hq':=zfi hq hp'.2;rw[zmt hn (by omega) hs hq'.2];exact(HL p hp).2 q hq
  ·obtain⟨p,hp,rfl⟩:=(zb7 _ _ _).1 hr
   have hp':=zfi hp hs;obtain⟨q,hq,rfl⟩:=(zby _ _ _).1 hl;have hq':=zfy hq hp'.2;rw[zmt (by omega) hn hq'.2 hs];exact(HR p hp).2 q hq
  ·have hlt:=za7 hx
   rcases hx with hx|hx
   ·obtain⟨p,hp,rfl⟩:=(zby _ _ _).1 hx
    have hp':=zfy hp hs;exact ih p.1 p.2 (by omega) (by omega) hp'.2
   ·obtain⟨p,hp,rfl⟩:=(zb7 _ _ _).1 hx
    have hp':=zfi hp hs;exact ih p.1 p.2 (by omega) (by omega) hp'.2
theorem ybr {n m:Int}{s t:Nat}(hn:n.natAbs≤3)(hm:m.natAbs≤3)(hs:s<4)(ht:t<4):canC (sumC (uqC n s) (uqC m t))=uqC (n+m) (s ^^^ t)/\s ^^^ t<4:=by
 have hx:s ^^^ t<4:=by
  have:∀a b:Fin 4,a.1 ^^^ b.1<4:=by decide
  exact this ⟨s,hs⟩ ⟨t,ht⟩
 have h:=ye8 (n:=n) (m:=m) (k:=n+m) (u:=s ^^^ t) (by omega) hm (by omega) hs ht hx;have h0:uqGe 0 0=true:=by decide
 rw[Nat.xor_self,show n+m-(n+m)=0 by omega,show n+m-n-m=0 by omega,h0]at h;exact⟨(zsd (ybt _ (n+m) (s ^^^ t) (Nat.lt_succ_self _) (by omega) hx) h.2 h.1).symm,hx⟩
def zfp (n:Int)(s:Nat):List (Int × Nat):=((List.range 4).map fun k=>((0:Int),k))++(List.range n.natAbs).map fun(i:Nat)=>(if 0<n then (i:Int)+1 else -((i:Int)+1),s ^^^ ((n.natAbs-1-i)%2))
set_option maxRecDepth 100000 in
theorem zzf:∀(i:Fin 13) (s:Fin 4),((i.1:Int)-6,s.1)∈zfp ((i.1:Int)-6) s.1/\(zfp ((i.1:Int)-6) s.1).length≤10/\∀p∈zfp ((i.1:Int)-6) s.1,((mvL p.1 p.2).length≤3/\(mvR p.1 p.2).length≤3)/\((mvL p.1 p.2).length=0↔(mvR p.1 p.2).length=0) ∧
  (∀q∈mvL p.1 p.2,q∈zfp ((i.1:Int)-6) s.1)/\∀q∈mvR p.1 p.2,q∈zfp ((i.1:Int)-6) s.1:=by decide +kernel
theorem zea {n:Int}{s:Nat}(hn:n.natAbs≤6)(hs:s<4):(n,s)∈zfp n s/\(zfp n s).length≤10/\∀p∈zfp n s,((mvL p.1 p.2).length≤3/\(mvR p.1 p.2).length≤3)/\((mvL p.1 p.2).length=0↔(mvR p.1 p.2).length=0) ∧
  (∀q∈mvL p.1 p.2,q∈zfp n s)/\∀q∈mvR p.1 p.2,q∈zfp n s:=by
 have H:=zzf ⟨(n+6).toNat,by omega⟩ ⟨s,hs⟩;simp only[show(((n+6).toNat:Nat):Int)-6=n by omega]at H;exact H
theorem zsk {n:Int}{s x:Nat}(hn:n.natAbs≤6)(hs:s<4)(h:SubC (uqC n s) x):∃p∈zfp n s,uqC p.1 p.2=x:=by
 obtain⟨h0,_,hc⟩:=zea hn hs;induction h with
 | root=>exact⟨_,h0,rfl⟩
 | step _ ho ih =>
  obtain⟨p,hp,rfl⟩:=ih;rcases ho with ho|ho
  ·obtain⟨q,hq,e⟩:=(zby _ _ _).1 ho
   exact⟨q,(hc p hp).2.2.1 q hq,e⟩
  ·obtain⟨q,hq,e⟩:=(zb7 _ _ _).1 ho
   exact⟨q,(hc p hp).2.2.2 q hq,e⟩
theorem zze {n:Int}{s x:Nat}(hn:n.natAbs≤6)(hs:s<4)(h:SubC (uqC n s) x):(∃l,hasL x l)↔∃r,hasR x r:=by
 obtain⟨_,_,hc⟩:=zea hn hs;obtain⟨p,hp,rfl⟩:=zsk hn hs h;have h1:=(hc p hp).2.1;constructor
 ·rintro⟨l,hl⟩
  obtain⟨q,hq,_⟩:=(zby _ _ _).1 hl;obtain⟨z,hz⟩:=List.exists_mem_of_length_pos (l:=mvR p.1 p.2) (Nat.pos_of_ne_zero fun e=>by
   rw[List.eq_nil_of_length_eq_zero (h1.2 e)]at hq;cases hq)
  exact⟨_,(zb7 _ _ _).2 ⟨z,hz,rfl⟩⟩
 ·rintro⟨r,hr⟩
  obtain⟨q,hq,_⟩:=(zb7 _ _ _).1 hr;obtain⟨z,hz⟩:=List.exists_mem_of_length_pos (l:=mvL p.1 p.2) (Nat.pos_of_ne_zero fun e=>by
   rw[List.eq_nil_of_length_eq_zero (h1.1 e)]at hq;cases hq)
  exact⟨_,(zby _ _ _).2 ⟨z,hz,rfl⟩⟩
theorem zmu {n m:Int}{s t x:Nat}(hn:n.natAbs≤6)(hm:m.natAbs≤6)(hs:s<4)(ht:t<4)(h:SubC (sumC (uqC n s) (uqC m t)) x):∃p∈zfp n s,∃q∈zfp m t,sumC (uqC p.1 p.2) (uqC q.1 q.2)=x:=by
 obtain⟨h0,_,hc⟩:=zea hn hs;obtain⟨k0,_,kc⟩:=zea hm ht;induction h with
 | root=>exact⟨_,h0,_,k0,rfl⟩
 | step _ ho ih =>
  obtain⟨p,hp,q,hq,rfl⟩:=ih;rcases ho with ho|ho
  ·rcases (zds _ _ _).1 ho with ⟨l,hl,e⟩|⟨l,hl,e⟩
   ·obtain⟨z,hz,rfl⟩:=(zby _ _ _).1 hl
    exact⟨z,(hc p hp).2.2.1 z hz,q,hq,e⟩
   ·obtain⟨z,hz,rfl⟩:=(zby _ _ _).1 hl
    exact⟨p,hp,z,(kc q hq).2.2.1 z hz,e⟩
  ·rcases (zdr _ _ _).1 ho with ⟨l,hl,e⟩|⟨l,hl,e⟩
   ·obtain⟨z,hz,rfl⟩:=(zb7 _ _ _).1 hl
    exact⟨z,(hc p hp).2.2.2 z hz,q,hq,e⟩
   ·obtain⟨z,hz,rfl⟩:=(zb7 _ _ _).1 hl
    exact⟨p,hp,z,(kc q hq).2.2.2 z hz,e⟩
theorem zu0 {x:Nat}{A B:List Nat}(hA:∀y,hasL x y→y∈A)(hB:∀y,hasR x y→y∈B)(lA:A.length≤24)(lB:B.length≤24) :
  (∀L:List Nat,L.Nodup→(∀a∈L,hasL x a)→L.length≤24)/\∀L:List Nat,L.Nodup→(∀a∈L,hasR x a)→L.length≤24 :=
 ⟨fun L hL h=>Nat.le_trans (hL.length_le_of_subset fun y hy=>hA y (h y hy)) lA,fun L hL h=>Nat.le_trans (hL.length_le_of_subset fun y hy=>hB y (h y hy)) lB⟩
theorem zgv {n:Int}{s:Nat}(hn:n.natAbs≤6)(hs:s<4):zau (za6 (uqC n s))=true:=by
 obtain⟨_,hl,hc⟩:=zea hn hs;refine zs8 (U:=(zfp n s).map fun p=>uqC p.1 p.2) (fun x hx=>?_) (by rw[List.length_map];omega) (fun x hx=>?_)
 ·obtain⟨p,hp,e⟩:=zsk hn hs hx
  exact List.mem_map.2 ⟨p,hp,e⟩
 ·obtain⟨p,hp,rfl⟩:=zsk hn hs hx
  have h1:=(hc p hp).1;refine zu0 (A:=(mvL p.1 p.2).map fun q=>uqC q.1 q.2) (B:=(mvR p.1 p.2).map fun q=>uqC q.1 q.2) (fun y hy=>?_) (fun y hy=>?_) (by rw[List.length_map];omega) (by rw[List.length_map];omega)
  ·obtain⟨q,hq,e⟩:=(zby _ _ _).1 hy
   exact List.mem_map.2 ⟨q,hq,e⟩
  ·obtain⟨q,hq,e⟩:=(zb7 _ _ _).1 hy
   exact List.mem_map.2 ⟨q,hq,e⟩
theorem zr3 {n m:Int}{s t:Nat}(hn:n.natAbs≤6)(hm:m.natAbs≤6)(hs:s<4)(ht:t<4):zau (za6 (sumC (uqC n s) (uqC m t)))=true:=by
 obtain⟨_,hl,hc⟩:=zea hn hs;obtain⟨_,kl,kc⟩:=zea hm ht;refine zs8 (U:=(zfp n s).flatMap fun p=>(zfp m t).map fun q=>sumC (uqC p.1 p.2) (uqC q.1 q.2)) (fun x hx=>?_) (by
  rw[List.length_flatMap];simp only[List.length_map,List.map_const',List.sum_replicate_nat];have:=Nat.mul_le_mul hl kl;omega) (fun x hx=>?_)
 ·obtain⟨p,hp,q,hq,e⟩:=zmu hn hm hs ht hx
  exact List.mem_flatMap.2 ⟨p,hp,List.mem_map.2 ⟨q,hq,e⟩⟩
 ·obtain⟨p,hp,q,hq,rfl⟩:=zmu hn hm hs ht hx
  have h1:=(hc p hp).1;have h2:=(kc q hq).1;refine zu0 (A:=(mvL p.1 p.2).map (fun z=>sumC (uqC z.1 z.2) (uqC q.1 q.2))++(mvL q.1 q.2).map fun z=>sumC (uqC p.1 p.2) (uqC z.1 z.2))
   (B:=(mvR p.1 p.2).map (fun z=>sumC (uqC z.1 z.2) (uqC q.1 q.2))++(mvR q.1 q.2).map fun z=>sumC (uqC p.1 p.2) (uqC z.1 z.2)) (fun y hy=>?_) (fun y hy=>?_) (by rw[List.length_append,List.length_map,List.length_map];omega) (by rw[List.length_append,List.length_map,List.length_map];omega)
  ·rcases (zds _ _ _).1 hy with ⟨l,hl,e⟩|⟨l,hl,e⟩
   ·obtain⟨z,hz,rfl⟩:=(zby _ _ _).1 hl
    exact List.mem_append_left _ (List.mem_map.2 ⟨z,hz,e⟩)
   ·obtain⟨z,hz,rfl⟩:=(zby _ _ _).1 hl
    exact List.mem_append_right _ (List.mem_map.2 ⟨z,hz,e⟩)
  ·rcases (zdr _ _ _).1 hy with ⟨l,hl,e⟩|⟨l,hl,e⟩
   ·obtain⟨z,hz,rfl⟩:=(zb7 _ _ _).1 hl
    exact List.mem_append_left _ (List.mem_map.2 ⟨z,hz,e⟩)
   ·obtain⟨z,hz,rfl⟩:=(zb7 _ _ _).1 hl
    exact List.mem_append_right _ (List.mem_map.2 ⟨z,hz,e⟩)
theorem yc5 {n:Int}{s:Nat}(hn:n.natAbs≤6)(hs:s<4):geC (uqC n s) zac=uqGe n s/\geC zac (uqC n s)=uqGe (-n) s:=by
 have h1:=zmt (n:=n) (k:=0) (s:=s) (u:=0) hn (by decide) hs (by decide);have h2:=zmt (n:=0) (k:=n) (s:=0) (u:=s) (by decide) hn (by decide) hs;rw[zsn]at h1 h2;refine⟨by rw[h1,Nat.xor_zero];congr 1;omega,by rw[h2,Nat.zero_xor];congr 1;omega⟩
end Go.Proofs.YtlapkmhemepcaaaGreatDoor
