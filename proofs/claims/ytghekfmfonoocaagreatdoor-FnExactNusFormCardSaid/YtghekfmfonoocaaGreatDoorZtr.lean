import Derived.Test.YtghekfmfonoocaaGreatDoorZtm
import Derived.Test.YtghekfmfonoocaaGreatDoorZtj
/- Lemmas. -/
namespace Go.Proofs.YtghekfmfonoocaaGreatDoor
set_option linter.unusedVariables false
set_option linter.unusedSimpArgs false
open Go.RowKit
theorem zyi (s:Nat):nusL zar s=zh2 s:=by
 induction s with
 | zero=>rfl
 | succ s ih =>
  rw[nusL,zh2,ih];by_cases h:s=0
  ·subst h;rfl
  ·rw[if_neg h]
theorem zce (s:Nat):nusS zar s=zbb s:=by
 unfold nusS zbb;by_cases h:s=0
 ·subst h;rfl
 ·rw[if_neg h,zyi]
theorem ydv (a b:Nat):negC (mkC [a] [b])=mkC [negC b] [negC a]:=by
 refine zd1 (fun i=>?_) (fun i=>?_)
 ·rw[zhy,zab]
  exact⟨fun⟨r,hr,e⟩=>by rw[←e,zhm hr];simp,fun h=>⟨b,zu4 (by simp),(List.mem_singleton.1 h).symm⟩⟩
 ·rw[zhx,zad]
  exact⟨fun⟨r,hr,e⟩=>by rw[←e,zu5 hr];simp,fun h=>⟨a,zsc (by simp),(List.mem_singleton.1 h).symm⟩⟩
theorem zu0 (s:Nat):negC (zbb s)=zbb s:=by
 induction s using Nat.strongRecOn with
 | _ s ih =>
  refine zd1 (fun i=>?_) (fun i=>?_)
  ·rw[zhy,zcs]
   exact⟨fun⟨r,hr,e⟩=>by
    obtain⟨k,hk,rfl⟩:=zd5.1 hr;exact⟨k,hk,(ih k hk).symm.trans e⟩,fun⟨k,hk,e⟩=>⟨zbb k,zd5.2 ⟨k,hk,rfl⟩,(ih k hk).trans e⟩⟩
  ·rw[zhx,zd5]
   exact⟨fun⟨r,hr,e⟩=>by
    obtain⟨k,hk,rfl⟩:=zcs.1 hr;exact⟨k,hk,(ih k hk).symm.trans e⟩,fun⟨k,hk,e⟩=>⟨zbb k,zcs.2 ⟨k,hk,rfl⟩,(ih k hk).trans e⟩⟩
theorem zvg:negC (mkC [zar,nusS zar 1] [zar])=mkC [zar] [zar,nusS zar 1]:=by
 rw[zce];have hz:=ztz;have h1:=zu0 1;refine zd1 (fun i=>?_) (fun i=>?_)
 ·rw[zhy,zab]
  exact⟨fun⟨r,hr,e⟩=>by rw[←e,zhm hr,hz];simp,fun h=>⟨zar,zu4 (by simp),by rw[hz,List.mem_singleton.1 h]⟩⟩
 ·rw[zhx,zad]
  refine⟨fun⟨r,hr,e⟩=>?_,fun h=>?_⟩
  ·rcases zm1.1 ((zab _ _ _).1 hr)with q|q
   ·rw[←e,q,hz];simp
   ·rw[←e,q,h1];simp
  ·rcases zm1.1 h with q|q
   ·exact⟨zar,zsc (by simp),by rw[hz,q]⟩
   ·exact⟨zbb 1,zsc (by simp),by rw[h1,q]⟩
theorem zyx (n:Nat):∀s,negC (nusU zar n s)=nusD zar n s:=by
 induction n with
 | zero=>intro s;rw[nusU,nusD,zce,zu0]
 | succ n ih =>
  intro s;rw[nusU,nusD];by_cases h:n=0/\s=1
  ·rw[if_pos h,if_pos h,zvg]
  ·rw[if_neg h,if_neg h,ydv,ih,ztz]
theorem zkx {s:Nat}(h:s≤15):s ^^^ 1≤15:=by
 have h2:(s ^^^ 1)/2=s/2:=by rw[Nat.xor_div_two];simp
 omega
theorem yb7 {n:Nat}:∀ {s a:Nat},s≤15→SubC (nusU zar n s) a→∃m t,m≤n/\t≤15/\nusU zar m t=a:=by
 have hst:∀ {s a:Nat},s≤15→SubC (zbb s) a→∃t,t≤15/\nusU zar 0 t=a:=fun {s a} hs h=>by
  obtain⟨k,hk,e⟩:=zkg h;exact⟨k,by omega,by rw[nusU,zce];exact e⟩
 induction n with
 | zero =>
  intro s a hs h;rw[nusU,zce]at h;obtain⟨t,ht,e⟩:=hst hs h;exact⟨0,t,Nat.le_refl _,ht,e⟩
 | succ n ih =>
  intro s a hs h;have hz:∀ {a},SubC zar a→∃m t,m≤n+1/\t≤15/\nusU zar m t=a:=fun {a} h=>by
   obtain⟨t,ht,e⟩:=hst (s:=0) (by omega) h;exact⟨0,t,by omega,ht,e⟩
  rcases ztc h with rfl|⟨y,hy,h'⟩
  ·exact⟨n+1,s,Nat.le_refl _,hs,rfl⟩
  ·rw[nusU]at hy
   by_cases h1:n=0/\s=1
   ·rw[if_pos h1,zce]at hy
    rcases hy with hy|hy
    ·rcases zm1.1 ((zab _ _ _).1 hy)with q|q
     ·rw[q]at h';exact hz h'
     ·rw[q]at h'
      obtain⟨t,ht,e⟩:=hst (s:=1) (by omega) h';exact⟨0,t,by omega,ht,e⟩
    ·rw[zhm hy]at h';exact hz h'
   ·rw[if_neg h1]at hy
    rcases hy with hy|hy
    ·rw[zu5 hy]at h';exact hz h'
    ·rw[zhm hy]at h'
     obtain⟨m,t,hm,ht,e⟩:=ih (zkx hs) h';exact⟨m,t,by omega,ht,e⟩
def upsAll:List Nat:=(List.range 13).flatMap fun m=>(List.range 16).flatMap fun t=>[nusU zar m t,negC (nusU zar m t)]
theorem zuz {m t:Nat}(hm:m≤12)(ht:t≤15):nusU zar m t∈upsAll/\negC (nusU zar m t)∈upsAll:=by
 unfold upsAll;exact⟨List.mem_flatMap.2 ⟨m,List.mem_range.2 (by omega),List.mem_flatMap.2 ⟨t,List.mem_range.2 (by omega),by simp⟩⟩,List.mem_flatMap.2 ⟨m,List.mem_range.2 (by omega),List.mem_flatMap.2 ⟨t,List.mem_range.2 (by omega),by simp⟩⟩⟩
theorem znf:upsAll.length=416:=by
 unfold upsAll;simp only[List.length_flatMap,List.length_cons,List.length_nil,List.map_const',List.length_range,List.sum_replicate_nat]
set_option maxRecDepth 8000 in
set_option maxHeartbeats 1000000 in
theorem zxg {U:List Nat}(hUl:U.length<1000000)(hU:∀(m t:Nat),m≤12→t≤15→nusU zar m t∈U)(pb sb:Nat)(mo mc ms:Value)(n:Nat):n≤12→∀(s:Nat),s≤15→∀(V:List PL) (BV:List Nat) (M I:Nat→Prop) (f:Nat→Option Nat) (w:World),PSt encN NegMO U pb sb mo mc ms (.map (some sb)) w V BV M I f →
  Calls Tryz.prog 61 #[.pointer (some ⟨pb,0,none⟩),.int .i64 (n:Int),.int .i64 (s:Int)] w fun e w'=>NegPost U pb sb mo mc ms w V M I (nusU zar n s) e w':=by
 have hUs:∀k,k≤15→zbb k∈U:=fun k hk=>by have h:=hU 0 k (by omega) hk;rwa [nusU,zce]at h
 induction n with
 | zero =>
  intro _ s hs V BV M I f w hst;have h:=yak hUl pb sb mo mc ms s (by omega) (fun k hk=>hUs k (by omega)) V BV M I f w hst;rw[nusU,zce];exact h
 | succ n ih =>
  intro hn s hs V BV M I f w hst;have HNz:=Hh (zcf (L:=[]) (R:=[]) hUl none none 0 0 0 0 rfl rfl hst (SliceOf.nil _ _) (SliceOf.nil _ _) (RowC.nil _) (RowC.nil _) (show mkC [] []∈U from hUs 0 (by omega)) (by simp) (by simp));have a1:¬((n+1:Nat):Int)<0:=by omega
  have a2:(((n+1:Nat):Int) == 0)=false:=by rw[beq_eq_false_iff_ne];omega
  have a2':¬((n+1:Nat):Int)=0:=by omega
  have hmem:=hU (n+1) s hn hs;obtain⟨N,hN⟩:∃N:Int,N=((n+1:Nat):Int):=⟨_,rfl⟩;rw[←hN]at a1 a2 a2' ⊢;by_cases h1:n=0/\s=1
  ·obtain⟨rfl,rfl⟩:=h1
   have hN1:N=1:=hN;subst hN1;have HSt:=Hh (fun(W:World) (V1:List PL) (B1:List Nat) (M1 I1:Nat→Prop) (f1:Nat→Option Nat) (h:PSt encN NegMO U pb sb mo mc ms (.map (some sb)) W V1 B1 M1 I1 f1)=>show Calls Tryz.prog 110 #[.pointer (some ⟨pb,0,none⟩),.int .i64 1] W fun e w'=>NegPost U pb sb mo mc ms W V1 M1 I1 (zbb 1) e w' from ztd hUl pb sb mo mc ms 1 (by omega) (fun k hk=>hUs k (by omega)) V1 B1 M1 I1 f1 W h);have hm:nusU zar 1 1=mkC [zar,zbb 1] [zar]:=by rw[nusU,if_pos ⟨rfl,rfl⟩,zce]
   rw[show(0:Nat)+1=1 from rfl]at hmem ⊢;rw[hm]at hmem ⊢;have HUu:=Hh hmem;have HUl:=Hh hUl;clear hst hU hUs hUl ih hmem hm hN hn hs a1 a2 a2';go_enter Tryz.func61,Tryz.ntmps61;go_wp2_with fail;(with_reducible refine HNz.out.mono ?_);rintro e w1 ⟨z0,V1,B1,M1,I1,f1,rfl,st1,nx1,l1,q1⟩;have HS:=Hh (HSt.out w1 V1 B1 M1 I1 f1 st1);have HNx:=Hh nx1;have HL1:=Hh (And.intro l1 q1);clear st1 nx1 l1 q1;go_wp2_with fail;(with_reducible refine HS.out.mono ?_);rintro e w3 ⟨s0,V3,B3,M3,I3,f3,rfl,st3,nx3,l3,q3⟩;obtain⟨w4,hw4⟩:∃w4,w4=(w3.alloc (.cells #[.int .i64 (z0:Int),.int .i64 (s0:Int)] 3)).alloc (.cells #[.int .i64 (z0:Int)] 3):=⟨_,rfl⟩;have g4:Fr NoM w3 w4:=by rw[hw4];exact((Fr.refl NoM w3).alloc _).alloc _
   have n4:Nats w4 (.slice (some ⟨w3.heap.size,0,none⟩) 2 2) [z0,s0]:=by
    have h:=heap_alloc_new w3 (.cells #[.int .i64 (z0:Int),.int .i64 (s0:Int)] 3);have h4:w4.heap[w3.heap.size]?=some (.cells #[.int .i64 (z0:Int),.int .i64 (s0:Int)] 3 (0,0)):=by rw[hw4];exact((Fr.refl NoM _).alloc _).heap h (fun q=>q)
    refine⟨_,_,rfl,Nat.le_refl _,by decide,fun j x hj=>?_⟩;match j,hj with
    | 0,hj=>cases hj;exact⟨_,0,rfl,by rw[cell_of_row w4 _ 0 _ _ _ h4];rfl⟩
    | 1,hj=>cases hj;exact⟨_,0,rfl,by rw[cell_of_row w4 _ 1 _ _ _ h4];rfl⟩
   have n5:Nats w4 (.slice (some ⟨w3.heap.size+1,0,none⟩) 1 1) [z0]:=by
    have h:=SliceOf.one encN (w3.alloc (.cells #[.int .i64 (z0:Int),.int .i64 (s0:Int)] 3)) z0 3;rw[World.size_alloc]at h;rw[hw4];exact h
   have hz3:z0<V3.length/\(za0 V3).getD z0 0=zar:=⟨by have:=nx3.pre.length_le;have:=HL1.out.1;omega,by rw[zak nx3.pre HL1.out.1];exact HL1.out.2⟩;have HNd:=Hh (show Calls Tryz.prog 108 #[.pointer (some ⟨pb,0,none⟩),.slice (some ⟨w3.heap.size,0,none⟩) 2 2,.slice (some ⟨w3.heap.size+1,0,none⟩) 1 1] w4 fun e w'=>NegPost U pb sb mo mc ms w4 V3 M3 I3 (mkC [zar,zbb 1] [zar]) e w' from zcf (U:=U) HUl.out (some ⟨w3.heap.size,0,none⟩) (some ⟨w3.heap.size+1,0,none⟩) 2 1 2 1 rfl rfl (st3.fr0 g4) n4 n5 (((RowC.nil V3).snoc hz3.1 hz3.2).snoc l3 q3) ((RowC.nil V3).snoc hz3.1 hz3.2) HUu.out (by simp) (by simp));have HNx3:=Hh (HNx.out.trans (nx3.trans (PNx.of0 g4)));clear st3 nx3 l3 q3 g4 n4 n5 hz3;go_wp2_with fail;rw[←hw4];clear hw4;(with_reducible refine HNd.out.mono ?_);rintro e w5 ⟨i,V5,B5,M5,I5,f5,rfl,st5,nx5,l5,q5⟩;have HE:=Hh (show NegPost U pb sb mo mc ms w V M I (mkC [zar,zbb 1] [zar]) (.returned (.int .i64 (i:Int))) w5 from⟨i,V5,B5,M5,I5,f5,rfl,st5,HNx3.out.trans nx5,l5,q5⟩);clear st5 nx5 l5 q5;go_wp2;go_ret;exact HE.out
  ·have hm:nusU zar (n+1) s=mkC [zar] [nusU zar n (s ^^^ 1)]:=by rw[nusU,if_neg h1]
   rw[hm]at hmem ⊢;have hxs:=zrh s (by omega);have HU0:=Hh (fun(W:World) (V1:List PL) (B1:List Nat) (M1 I1:Nat→Prop) (f1:Nat→Option Nat) (h:PSt encN NegMO U pb sb mo mc ms (.map (some sb)) W V1 B1 M1 I1 f1)=>ih (by omega) (s ^^^ 1) (zkx hs) V1 B1 M1 I1 f1 W h);have HWn:=Hh (show wrap64 (n:Int)=(n:Int)from by unfold wrap64;omega);have HXs:=Hh hxs;have HN1:=Hh (show N-1=(n:Int)from by omega);obtain⟨b1,hb1⟩:∃b1:Bool,(N == 1)=b1:=⟨_,rfl⟩;obtain⟨b2,hb2⟩:∃b2:Bool,((s:Int) == 1)=b2:=⟨_,rfl⟩;have hbb:(b1 && b2)=false:=by
    cases hq:(b1 && b2)with
    | false=>rfl
    | true =>
     rw[Bool.and_eq_true]at hq;obtain⟨rfl,rfl⟩:=hq;rw[beq_iff_eq]at hb1 hb2;exact absurd ⟨by omega,by omega⟩ h1
   have HBb:=Hh hbb;have HUu:=Hh hmem;have HUl:=Hh hUl;clear hst hU hUs hUl ih hmem hm hN hs h1 hxs hbb hn;go_enter Tryz.func61,Tryz.ntmps61;go_wp2_with fail;(with_reducible refine HNz.out.mono ?_);rintro e w1 ⟨z0,V1,B1,M1,I1,f1,rfl,st1,nx1,l1,q1⟩;obtain⟨w2,hw2⟩:∃w2,w2=w1.alloc (.cells #[.int .i64 (z0:Int)] 3):=⟨_,rfl⟩;have g2:Fr NoM w1 w2:=by rw[hw2];exact(Fr.refl NoM w1).alloc _
   have n2:Nats w2 (.slice (some ⟨w1.heap.size,0,none⟩) 1 1) [z0]:=by rw[hw2];exact SliceOf.one encN w1 z0 3
   have hZ2:¬M1 w1.heap.size/\w1.heap.size≠sb/\w1.heap.size<w2.heap.size:=⟨fun h=>by have:=(st1.mlt _ h).1;omega,by have:=st1.map.lt;omega,by rw[hw2];simp⟩;have HS:=Hh (HU0.out w2 V1 B1 M1 I1 f1 (st1.fr0 g2));have HNx:=Hh (nx1.trans (PNx.of0 g2));have HN2:=Hh n2;have HZ2:=Hh hZ2;have HL1:=Hh (And.intro l1 q1);clear st1 nx1 l1 q1 g2 n2 hZ2;have key:∀ {K:Prop},(b1=false→K)→(b1=true→b2=false→K)→K:=fun {K} h1 h2=>by
    have h:=HBb.out;cases b1 with
    | false=>exact h1 rfl
    | true=>exact h2 rfl h
   refine key (fun e1=>?_) (fun e1 e2=>?_);all_goals
    subst e1;try subst e2
    clear key HBb;go_wp2_with fail;rw[←hw2];clear hw2;rw[HXs.out,HN1.out,HWn.out];(with_reducible refine HS.out.mono ?_);rintro e w3 ⟨s0,V3,B3,M3,I3,f3,rfl,st3,nx3,l3,q3⟩;obtain⟨w4,hw4⟩:∃w4,w4=w3.alloc (.cells #[.int .i64 (s0:Int)] 3):=⟨_,rfl⟩;have g4:Fr NoM w3 w4:=by rw[hw4];exact(Fr.refl NoM w3).alloc _
    have n4:Nats w4 (.slice (some ⟨w3.heap.size,0,none⟩) 1 1) [s0]:=by rw[hw4];exact SliceOf.one encN w3 s0 3
    have h3:=ydp HN2.out (nx3.trans (PNx.of0 g4)) HZ2.out;have hz3:z0<V3.length/\(za0 V3).getD z0 0=zar:=⟨by have:=nx3.pre.length_le;have:=HL1.out.1;omega,by rw[zak nx3.pre HL1.out.1];exact HL1.out.2⟩;have HNd:=Hh (show Calls Tryz.prog 108 #[.pointer (some ⟨pb,0,none⟩),.slice (some ⟨w1.heap.size,0,none⟩) 1 1,.slice (some ⟨w3.heap.size,0,none⟩) 1 1] w4 fun e w'=>NegPost U pb sb mo mc ms w4 V3 M3 I3 (mkC [zar] [nusU zar n (s ^^^ 1)]) e w' from zcf (U:=U) HUl.out (some ⟨w1.heap.size,0,none⟩) (some ⟨w3.heap.size,0,none⟩) 1 1 1 1 rfl rfl (st3.fr0 g4) h3.1 n4 ((RowC.nil V3).snoc hz3.1 hz3.2) ((RowC.nil V3).snoc l3 q3) HUu.out (by simp) (by simp));have HNx3:=Hh (HNx.out.trans (nx3.trans (PNx.of0 g4)));clear st3 nx3 l3 q3 g4 n4 h3 hz3;go_wp2_with fail;rw[←hw4];clear hw4;(with_reducible refine HNd.out.mono ?_);rintro e w5 ⟨i,V5,B5,M5,I5,f5,rfl,st5,nx5,l5,q5⟩;have HE:=Hh (show NegPost U pb sb mo mc ms w V M I (mkC [zar] [nusU zar n (s ^^^ 1)]) (.returned (.int .i64 (i:Int))) w5 from⟨i,V5,B5,M5,I5,f5,rfl,st5,HNx3.out.trans nx5,l5,q5⟩);clear st5 nx5 l5 q5;go_wp2;go_ret;exact HE.out
set_option maxRecDepth 8000 in
set_option maxHeartbeats 1000000 in
theorem yda {U:List Nat}(hUl:U.length<1000000)(hU:∀(m t:Nat),m≤12→t≤15→nusU zar m t∈U/\negC (nusU zar m t)∈U)(pb sb:Nat)(mo mc ms:Value)(m:Int)(h1:-12≤m)(h2:m≤12)(s:Nat)(hs:s≤15)(V:List PL)(BV:List Nat)(M I:Nat→Prop)(f:Nat→Option Nat)(w:World)
  (hst:PSt encN NegMO U pb sb mo mc ms (.map (some sb)) w V BV M I f) :
  Calls Tryz.prog 61 #[.pointer (some ⟨pb,0,none⟩),.int .i64 m,.int .i64 (s:Int)] w fun e w'=>NegPost U pb sb mo mc ms w V M I (nusC zar m s) e w':=by
 by_cases h0:0≤m
 ·obtain⟨n,rfl⟩:=Int.eq_ofNat_of_zero_le h0
  rw[show nusC zar (n:Int) s=nusU zar n s from by rw[nusC,if_pos h0,Int.toNat_natCast]];exact zxg hUl (fun m t hm ht=>(hU m t hm ht).1) pb sb mo mc ms n (by omega) s hs V BV M I f w hst
 ·obtain⟨n,hn⟩:∃n:Nat,(n:Int)=-m:=⟨(-m).toNat,by omega⟩
  rw[show nusC zar m s=negC (nusU zar n s)from by rw[nusC,if_neg h0,zyx,show(-m).toNat=n from by omega]];have HNz:=Hh (zcf (L:=[]) (R:=[]) hUl none none 0 0 0 0 rfl rfl hst (SliceOf.nil _ _) (SliceOf.nil _ _) (RowC.nil _) (RowC.nil _) (show mkC [] []∈U from(hU 0 0 (by omega) (by omega)).1) (by simp) (by simp));have HU0:=Hh (fun(W:World) (V1:List PL) (B1:List Nat) (M1 I1:Nat→Prop) (f1:Nat→Option Nat) (h:PSt encN NegMO U pb sb mo mc ms (.map (some sb)) W V1 B1 M1 I1 f1)=>zxg hUl (fun m t hm ht=>(hU m t hm ht).1) pb sb mo mc ms n (by omega) s hs V1 B1 M1 I1 f1 W h);have HNeg:=Hh (fun(i:Nat) (W:World) (V1:List PL) (B1:List Nat) (M1 I1:Nat→Prop) (f1:Nat→Option Nat) (h:PSt encN NegMO U pb sb mo mc ms (.map (some sb)) W V1 B1 M1 I1 f1) (hi:i<V1.length) (hc:(za0 V1).getD i 0=nusU zar n s)=>(by
   have h9:=ydx hUl pb sb mo mc ms _ i (Nat.lt_succ_self _) V1 B1 M1 I1 f1 W h hi (fun a ha=>by
    rw[hc]at ha;obtain⟨m',t',hm',ht',e⟩:=yb7 hs ha;rw[←e];exact(hU m' t' (by omega) ht').2)
   rw[hc]at h9;exact h9:Calls Tryz.prog 109 #[.pointer (some ⟨pb,0,none⟩),.int .i64 (i:Int)] W fun e w'=>NegPost U pb sb mo mc ms W V1 M1 I1 (negC (nusU zar n s)) e w'))
  have a1:m<0:=by omega
  have HN:=Hh (show -m=(n:Int)/\wrap64 (n:Int)=(n:Int)from⟨hn.symm,by unfold wrap64;omega⟩);clear hst hU hUl hn h0 hs;go_enter Tryz.func61,Tryz.ntmps61;go_wp2_with fail;(with_reducible refine HNz.out.mono ?_);rintro e w1 ⟨z0,V1,B1,M1,I1,f1,rfl,st1,nx1,l1,q1⟩;have HS:=Hh (HU0.out w1 V1 B1 M1 I1 f1 st1);have HNx:=Hh nx1;clear st1 nx1 l1 q1;go_wp2_with fail;rw[HN.out.1];try rw[HN.out.2]
  (with_reducible refine HS.out.mono ?_);rintro e w3 ⟨i3,V3,B3,M3,I3,f3,rfl,st3,nx3,l3,q3⟩;have HNg:=Hh (HNeg.out i3 w3 V3 B3 M3 I3 f3 st3 l3 q3);have HNx3:=Hh (HNx.out.trans nx3);clear st3 nx3 l3 q3;go_wp2_with fail;(with_reducible refine HNg.out.mono ?_);rintro e w5 ⟨i,V5,B5,M5,I5,f5,rfl,st5,nx5,l5,q5⟩;have HE:=Hh (show NegPost U pb sb mo mc ms w V M I (negC (nusU zar n s)) (.returned (.int .i64 (i:Int))) w5 from⟨i,V5,B5,M5,I5,f5,rfl,st5,HNx3.out.trans nx5,l5,q5⟩);clear st5 nx5 l5 q5;go_wp2;go_ret;exact HE.out
set_option maxRecDepth 4000 in
set_option maxHeartbeats 8000000 in
theorem zrr (w:World)(m:Int)(b1:-12≤m)(b2:m≤12)(s:Nat)(b3:s≤15)(hfit:zam (zac (nusC zar m s))=true):Calls Tryz.prog 26 #[.int .i64 m,.int .i64 (s:Int)] w fun e w'=>∃v',e=.returned (.tuple #[.agg #[v'],.bool true])/\NodesS w.heap.size w' v' (zac (nusC zar m s))/\Fr NoM w w':=by
 obtain⟨RN,hRN⟩:∃RN,RN=zac (nusC zar m s):=⟨_,rfl⟩;rw[←hRN];have HRN:=Hh hRN;clear hRN;obtain⟨w1,hw1⟩:∃w1,w1=w.alloc (.cells #[.slice none 0 0] 26):=⟨_,rfl⟩;have f1:Fr NoM w w1:=by rw[hw1];exact(Fr.refl NoM w).alloc _
 have hs1:w1.heap.size=w.heap.size+1:=by rw[hw1];simp
 have e1:w1.heap[w.heap.size]?=some (.cells #[.slice none 0 0] 26 (0,0)):=by rw[hw1];exact heap_alloc_new w _
 have HK:=Hh (fun(W:World) (f:Fr (fun q=>w1.heap.size≤q) w1 W)=>(by
  have h1:=f.heap e1 (fun q=>by omega);exact⟨by rw[cell_of_row W _ 0 _ _ _ h1];rfl,by simp[World.frozen?,h1]⟩:W.cell? ⟨w.heap.size,0,none⟩=some (.slice none 0 0)/\W.frozen? ⟨w.heap.size,0,none⟩=false))
 have F1:=Hh f1;have HS1:=Hh hs1;have HB:=Hh (And.intro b1 (And.intro b2 b3));have HFit:=Hh hfit;have a1:¬m < -12:=by omega
 have a2:¬m>12:=by omega
 have a3:¬(s:Int)<0:=by omega
 have a4:¬(s:Int)>15:=by omega
 clear f1 hs1 e1 b1 b2 b3 hfit;go_enter Tryz.func26,Tryz.ntmps26;go_wp2_with fail;rw[←hw1];clear hw1;(with_reducible refine(zff w1).mono ?_);rintro e w3 ⟨rfl,hp3,hmaps,f3⟩;obtain⟨pb,hpb⟩:∃pb,pb=w1.heap.size+5:=⟨_,rfl⟩;obtain⟨sb,hsb⟩:∃sb,sb=w1.heap.size+4:=⟨_,rfl⟩;have hmap:=hmaps 4 (by omega);rw[←hsb]at hmap hp3;rw[←hpb]at hp3 ⊢;obtain⟨mo,hmo⟩:∃v,v=Value.map (some (w1.heap.size+1)):=⟨_,rfl⟩;obtain⟨mc,hmc⟩:∃v,v=Value.map (some (w1.heap.size+2)):=⟨_,rfl⟩;obtain⟨ms,hms⟩:∃v,v=Value.map (some (w1.heap.size+3)):=⟨_,rfl⟩;rw[←hmo,←hmc,←hms]at hp3;clear hmaps hmo hmc hms;have hlo:=hp3.low;have hst:PSt encN NegMO upsAll pb sb mo mc ms (.map (some sb)) w3 [] [] (fun q=>(q=w1.heap.size∨q=pb)/\q<w3.heap.size) (fun q=>NoM q/\q<w3.heap.size) (fun _=>none) :=
  ⟨hlo,PoolOK.nil,fun x hx=>by simp at hx,⟨#[],0,hmap,by simp,by simp,by simp⟩,NegMO.none [],fun q hq=>⟨hq.2,by rcases hq.1 with h|h <;> omega⟩,fun q hq=>⟨hq.2,hq.1.elim⟩⟩
 have HUp:=Hh (yda (U:=upsAll) (by rw[znf];decide) (fun m t hm ht=>zuz hm ht) pb sb mo mc ms m HB.out.1 HB.out.2.1 s HB.out.2.2 [] [] _ _ _ w3 hst);have F3:=Hh f3;have HPb:=Hh (And.intro hpb hsb);clear hp3 hlo hst hmap f3 hpb hsb a1 a2 a3 a4;go_wp2_with fail;(with_reducible refine HUp.out.mono ?_);rintro e wy ⟨tt,Vy,By,My,Iy,fy,rfl,sty,nxy,ly,qy⟩;have hlen:=sty.len;rw[znf]at hlen;have HFm:=Hh (zhh pb tt Vy By mo mc ms (.map (some sb)) wy sty.pool sty.ok ly (by omega));have hfo:=zdh sty.ok ly qy;have HRs:=Hh (fun(okf:Bool) (FR:List PL) (hres:FormRes Vy By tt okf FR)=>(by
  obtain⟨h1,h2⟩:=FormRes.is sty.ok ly hres;rw[hfo]at h1 h2;rw[HFit.out]at h1;refine⟨h1,?_⟩;rw[HRN.out,h2,h1];rfl:okf=true/\FR=RN))
 have Fy:=Hh (F3.out.any.trans nxy.fr (fun k _ h=>by
  have:=HPb.out;rcases h with h|h
  ·rcases h.1 with h|h <;> omega
  ·omega):Fr (fun q=>w1.heap.size≤q) w1 wy)
 clear sty nxy ly qy hlen hfo;go_wp2_with fail;(with_reducible refine HFm.out.mono ?_);rintro e wz ⟨nv,okf,FR,rfl,hres,hns,fz⟩;obtain⟨rfl,rfl⟩:=HRs.out okf FR hres;have Fz:=Hh (Fy.out.trans fz (fun _ _ q=>q.elim));have HNs:=Hh hns;have HZz:=Hh (show w.heap.size+1≤wy.heap.size from by have:=Fy.out.size;have:=HS1.out;omega);obtain⟨an,cn,rfl,zz⟩:=id hns.nodeL;clear zz hns fz hres;obtain⟨k1,k2⟩:=HK.out wz Fz.out;go_wp2;refine bodyPost_ret (v:=.tuple #[.agg #[.slice an FR.length cn],.bool true]) (by simp[results,Tryz.results26,go_sem,k1,k2]) rfl ?_
 refine⟨_,rfl,?_,(F1.out.trans Fz.out (fun k hk h=>by have h:w1.heap.size≤k:=h;have:=HS1.out;omega)).setCell _ _ (fun h=>by have h:w.heap.size<w.heap.size:=h;omega)⟩;exact(HNs.out.fr (Fr.set wz ⟨w.heap.size,0,none⟩ (.slice an FR.length cn)) (fun q hq _ e=>by have e:q=w.heap.size:=e;have:=HZz.out;omega)).base (D':=w.heap.size) (by have:=HZz.out;omega)
end Go.Proofs.YtghekfmfonoocaaGreatDoor
