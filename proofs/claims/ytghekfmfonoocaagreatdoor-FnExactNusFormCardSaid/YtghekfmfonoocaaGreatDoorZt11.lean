import Derived.Test.YtghekfmfonoocaaGreatDoorZts
import Derived.Test.YtghekfmfonoocaaGreatDoorZtq
/- Lemmas. -/
namespace Go.Proofs.YtghekfmfonoocaaGreatDoor
set_option linter.unusedVariables false
set_option linter.unusedSimpArgs false
open Go.RowKit
def zp1 (c:Nat)(w:World)(e:Ending)(w':World):Prop:=∃v',e=.returned (.agg #[v'])/\NodeL (fun b=>w.heap.size≤b) encN w' v' (zac c)/\Fr NoM w w'
theorem yen {n s:Nat}(h:¬(n=0/\s=1)):uqC ((n:Int)+1) s=mkC [zar] [uqC n (s ^^^ 1)]:=by
 unfold uqC nusC;rw[if_pos (by omega),if_pos (by omega),show((n:Int)+1).toNat=n+1 by omega,Int.toNat_natCast,nusU,if_neg h]
theorem yek:uqC 1 1=mkC [zar,zbb 1] [zar]:=by
 rw[←zce];rfl
theorem yem {n:Nat}{s:Nat}(h:0<n):uqC (-(n:Int)) s=negC (uqC n s):=by
 unfold uqC nusC;rw[if_neg (by omega),if_pos (by omega),show(-(-(n:Int))).toNat=n by omega,Int.toNat_natCast,zyx]
theorem zx9:zac zar=[([],[])]:=by rw[←zv5,zm6];rfl
theorem zm0 {c:Nat}{w w1 W:World}{b:Nat}{v:Value}(hb:b=w.heap.size)(f1:Fr NoM w w1)(hs:w1.heap.size=w.heap.size+1)(f:Fr NoM w1 W)(h:NodeL (fun q=>w1.heap.size≤q) encN W v (zac c)) :
  zp1 c w (.returned (.agg #[v])) (W.setCell ⟨b,0,none⟩ v):=by
 subst hb;refine⟨_,rfl,?_,?_⟩
 ·exact(h.fr (Fr.set W ⟨w.heap.size,0,none⟩ _) (fun q hq e=>by have e:q=w.heap.size:=e;have hq:w1.heap.size≤q:=hq;omega)).mono (fun q hq=>by have hq:w1.heap.size≤q:=hq;show w.heap.size≤q;omega)
 ·exact(f1.trans f (fun _ _ q=>q)).setCell _ _ (fun h=>by have h:w.heap.size<w.heap.size:=h;omega)
theorem zxe {n:Int}{s:Nat}(hn:n.natAbs≤12)(hs:s≤15):zbf (i2 (zac (uqC n s))):=(zmv (zbi _) (zrq hn hs)).1
set_option maxRecDepth 4000 in
set_option maxHeartbeats 4000000 in
theorem znt (n:Nat):∀(s:Nat) (w:World),n≤12→s≤15→Calls Tryz.prog 50 #[.int .i64 (n:Int),.int .i64 (s:Int)] w fun e w'=>zp1 (uqC n s) w e w':=by
 induction n with
 | zero =>
  intro s w _ hs;obtain⟨w1,hw1⟩:∃w1,w1=w.alloc (.cells #[.slice none 0 0] 26):=⟨_,rfl⟩;have f1:Fr NoM w w1:=by rw[hw1];exact(Fr.refl NoM w).alloc _
  have hs1:w1.heap.size=w.heap.size+1:=by rw[hw1];simp
  have e1:w1.heap[w.heap.size]?=some (.cells #[.slice none 0 0] 26 (0,0)):=by rw[hw1];exact heap_alloc_new w _
  have HRs:=Hh (fun(W:World) (f:Fr NoM w1 W)=>show W.cell? ⟨w.heap.size,0,none⟩=some (.slice none 0 0)/\W.frozen? ⟨w.heap.size,0,none⟩=false from by
   have h1:=f.heap e1 (fun q=>q);exact⟨by rw[cell_of_row W _ 0 _ _ _ h1];rfl,by simp[World.frozen?,h1]⟩)
  have HSt:=Hh (znu s (by omega) w1);have F1:=Hh f1;have HS1:=Hh hs1;clear f1 hs1 e1 hs;rw[show((0:Nat):Int)=0 from rfl];go_enter Tryz.func50,Tryz.ntmps50;go_upto_region 1 with fail;rw[←hw1];clear hw1;go_wp2_with fail;(with_reducible refine HSt.out.mono ?_);rintro e w2 ⟨v2,rfl,n2,f2⟩;obtain⟨k0,k1⟩:=HRs.out w2 f2;obtain⟨a2,c2,rfl,z⟩:=id n2;have HN:=Hh n2;have F2:=Hh f2;clear z n2 f2;go_wp2;refine bodyPost_ret (v:=.agg #[.slice a2 (ze2 (s+1)).length c2]) (by simp[results,Tryz.results50,go_sem,k0]) rfl ?_
  exact zm0 rfl F1.out HS1.out F2.out (by rw[zf7,zm6];exact HN.out)
 | succ n ih =>
  intro s w hn hs;obtain⟨w1,hw1⟩:∃w1,w1=w.alloc (.cells #[.slice none 0 0] 26):=⟨_,rfl⟩;have f1:Fr NoM w w1:=by rw[hw1];exact(Fr.refl NoM w).alloc _
  have hs1:w1.heap.size=w.heap.size+1:=by rw[hw1];simp
  have e1:w1.heap[w.heap.size]?=some (.cells #[.slice none 0 0] 26 (0,0)):=by rw[hw1];exact heap_alloc_new w _
  have HRs:=Hh (fun(W:World) (f:Fr NoM w1 W)=>show W.cell? ⟨w.heap.size,0,none⟩=some (.slice none 0 0)/\W.frozen? ⟨w.heap.size,0,none⟩=false from by
   have h1:=f.heap e1 (fun q=>q);exact⟨by rw[cell_of_row W _ 0 _ _ _ h1];rfl,by simp[World.frozen?,h1]⟩)
  have F1:=Hh f1;have HS1:=Hh hs1;have a1:¬((n+1:Nat):Int)<0:=by omega
  have a2:(((n+1:Nat):Int) == 0)=false:=by rw[beq_eq_false_iff_ne];omega
  obtain⟨N,hN⟩:∃N:Int,N=((n+1:Nat):Int):=⟨_,rfl⟩;have gz:GoodF [(([]:List Nat),([]:List Nat))]:=zo5.1.good (by decide);have cz:zb0 [(([]:List Nat),([]:List Nat))]=zar:=by rw[←zx9,zbm]
  clear f1 hs1 e1;by_cases h1:n=0/\s=1
  ·obtain⟨rfl,rfl⟩:=h1
   have hN1:N=1:=hN;rw[←hN]at a1 a2 ⊢;subst hN1;have gs:GoodF (ze2 2):=ydg.1.good (by decide);have hcode:zg1 [[([],[])],ze2 2] [[([],[])]]=zac (uqC (1:Int) 1):=by
    rw[zif (fun Fm h=>by
     rcases zhc.1 h with e|e
     ·rw[e];exact⟨by decide,gz.opts⟩
     ·rw[e];exact⟨by rw[zex];decide,gs.opts⟩) (fun Fm h=>by rw[List.mem_singleton.1 h];exact⟨by decide,gz.opts⟩),yek]
    simp only[List.map_cons,List.map_nil,cz];rw[show zb0 (ze2 2)=zbb 1 from(zxs (n:=1) (by decide)).2]
   have HCd:=Hh hcode;have HGs:=Hh (And.intro gz gs);clear hcode gz gs cz ih hN hs hn;go_enter Tryz.func50,Tryz.ntmps50;go_upto_region 1 with fail;rw[←hw1];clear hw1;go_wp2_with fail;(with_reducible refine(zih w1).mono ?_);rintro e w2 ⟨v2,rfl,n2,f2⟩;obtain⟨a2,c2,rfl,z⟩:=id n2;have hst:=znu 1 (by decide) w2;rw[show((1:Nat):Int)=1 from rfl]at hst;have HSt:=Hh hst;have HN2:=Hh (n2.mono (R':=fun _=>True) (fun _ _=>trivial));have F2:=Hh f2;clear z n2 f2 hst;have hl1:List.length [(([]:List Nat),([]:List Nat))]=1:=rfl;go_wp2_with fail;(with_reducible refine HSt.out.mono ?_);rintro e w3 ⟨v3,rfl,n3,f3⟩;obtain⟨a3,c3,rfl,z⟩:=id n3;obtain⟨w4,hw4⟩:∃w4,w4=w3.alloc (.cells #[.slice a2 1 c2,.slice a3 (ze2 (1+1)).length c3] 26):=⟨_,rfl⟩;have f4:Fr NoM w3 w4:=by rw[hw4];exact(Fr.refl NoM w3).alloc _
   have HF4:=Hh (show FormsL (fun _=>True) w4 (.slice (some ⟨w3.heap.size,0,none⟩) 2 2) [[([],[])],ze2 2]from by
    rw[hw4];exact yex rfl (HN2.out.fr0 f3) (n3.mono (fun _ _=>trivial)))
   have F4:=Hh ((F2.out.trans f3 (fun _ _ q=>q)).trans f4 (fun _ _ q=>q));have HZ4:=Hh (zih w4);have HW4:=Hh hw4;clear z n3 f3 f4 HSt;go_wp2_with fail;rw[←HW4.out];clear hw4 HW4;(with_reducible refine HZ4.out.mono ?_);rintro e w5 ⟨v5,rfl,n5,f5⟩;obtain⟨a5,c5,rfl,z⟩:=id n5;have h5:=zzn (R:=fun _=>True) (a:=w5.heap.size) rfl (n5.mono (R':=fun _=>True) (fun _ _=>trivial));have h6:=(HF4.out.fr0 f5).fr0 ((Fr.refl NoM w5).alloc (.cells #[.slice a5 1 c5] 26));have HMk:=Hh (znv _ _ _ _ _ h6 h5 (fun Fm h=>by
    rcases zhc.1 h with e|e
    ·rw[e];exact HGs.out.1
    ·rw[e];exact HGs.out.2) (fun Fm h=>by rw[List.mem_singleton.1 h];exact HGs.out.1) (by simp) (by simp))
   have F5:=Hh (F4.out.trans f5 (fun _ _ q=>q));clear z n5 f5 h5 h6 HF4 HZ4;go_wp2_with fail;(with_reducible refine HMk.out.mono ?_);rintro e w7 ⟨v7,rfl,n7,f7⟩;have f57:Fr NoM w1 w7:=F5.out.trans (((Fr.refl NoM w5).alloc _).trans f7 (fun _ _ q=>q)) (fun _ _ q=>q);obtain⟨k0,k1⟩:=HRs.out w7 f57;obtain⟨a7,c7,rfl,z⟩:=id n7;have HN7:=Hh (show NodeL (fun q=>w1.heap.size≤q) encN w7 (.slice a7 (zg1 [[([],[])],ze2 2] [[([],[])]]).length c7) (zac (uqC (1:Int) 1))from by
    have h:=n7.mono (R':=fun q=>w1.heap.size≤q) (fun q hq=>by have h:(w5.alloc _).heap.size≤q:=hq;rw[World.size_alloc]at h;have:=F5.out.size;show w1.heap.size≤q;omega);rw[←HCd.out];exact h)
   have F7:=Hh f57;clear z n7 f7 f57 HMk;go_wp2;refine bodyPost_ret (v:=.agg #[.slice a7 (zg1 [[([],[])],ze2 2] [[([],[])]]).length c7]) (by simp[results,Tryz.results50,go_sem,k0]) rfl ?_
   exact zm0 rfl F1.out HS1.out F7.out HN7.out
  ·have hx:=zkx hs
   have gU:GoodF (zac (uqC n (s ^^^ 1))):=by
    obtain⟨g1,g2,g3,g4,_⟩:=zcg (zxe (n:=n) (by omega) hx);exact⟨g1,g2,g4.opts,fun y hy=>⟨by have:=(g3 y hy).1;omega,by have:=(g3 y hy).2;omega⟩⟩
   have hcode:zg1 [[([],[])]] [zac (uqC n (s ^^^ 1))]=zac (uqC ((n:Int)+1) s):=by
    rw[zif (fun Fm h=>by rw[List.mem_singleton.1 h];exact⟨by decide,gz.opts⟩) (fun Fm h=>by rw[List.mem_singleton.1 h];exact⟨(zfy (zbi _)).1,gU.opts⟩),yen h1];simp only[List.map_cons,List.map_nil,cz,zbm]
   have hNn:(N:Int)=(n:Int)+1:=by omega
   rw[←hNn]at hcode;rw[←hN]at a1 a2 ⊢;have HCd:=Hh hcode;have HGs:=Hh (And.intro gz gU);have HU:=Hh (fun(W:World)=>ih (s ^^^ 1) W (by omega) hx);have HNn:=Hh (show IntKind.i64.wrap (N-1)=(n:Int)/\wrap64 (N-1)=(n:Int)/\N-1=(n:Int)/\wrap64 (n:Int)=(n:Int)from⟨by rw[IntKind.wrap_i64];omega,by unfold wrap64;omega,by omega,by unfold wrap64;omega⟩);have hxs:=zrh s (by omega);have HXs:=Hh hxs;obtain⟨b1,hb1⟩:∃b1:Bool,(N == 1)=b1:=⟨_,rfl⟩;obtain⟨b2,hb2⟩:∃b2:Bool,((s:Int) == 1)=b2:=⟨_,rfl⟩;have HBb:=Hh (show(b1 && b2)=false from by
    cases hq:(b1 && b2)with
    | false=>rfl
    | true =>
     rw[Bool.and_eq_true]at hq;obtain⟨rfl,rfl⟩:=hq;rw[beq_iff_eq]at hb1 hb2;exact absurd ⟨by omega,by omega⟩ h1)
   clear hcode gz gU cz ih hN hs hn hx h1 hxs hNn;have key:∀ {K:Prop},(b1=false→K)→(b1=true→b2=false→K)→K:=fun {K} h1 h2=>by
    have h:=HBb.out;cases b1 with
    | false=>exact h1 rfl
    | true=>exact h2 rfl h
   refine key (fun e1=>?_) (fun e1 e2=>?_);all_goals
    subst e1;try subst e2
    clear key HBb;go_enter Tryz.func50,Tryz.ntmps50;go_upto_region 1 with fail;rw[←hw1];clear hw1;go_wp2_with fail;(with_reducible refine(zih w1).mono ?_);rintro e w2 ⟨v2,rfl,n2,f2⟩;obtain⟨a2,c2,rfl,z⟩:=id n2;obtain⟨w3,hw3⟩:∃w3,w3=w2.alloc (.cells #[.slice a2 1 c2] 26):=⟨_,rfl⟩;have f3:Fr NoM w2 w3:=by rw[hw3];exact(Fr.refl NoM w2).alloc _
    have HF3:=Hh (show FormsL (fun _=>True) w3 (.slice (some ⟨w2.heap.size,0,none⟩) 1 1) [[([],[])]]from by
     rw[hw3];exact zzn rfl (n2.mono (fun _ _=>trivial)))
    have F3:=Hh (f2.trans f3 (fun _ _ q=>q));have HW3:=Hh hw3;have HU3:=Hh (HU.out w3);clear z n2 f2 f3;have hl1:List.length [(([]:List Nat),([]:List Nat))]=1:=rfl;go_wp2_with fail;rw[←HW3.out];clear hw3 HW3;rw[HXs.out];try rw[HNn.out.1]
    try rw[HNn.out.2.2.1]
    try rw[HNn.out.2.2.2]
    (with_reducible refine HU3.out.mono ?_);rintro e w4 ⟨v4,rfl,n4,f4⟩;obtain⟨a4,c4,rfl,z⟩:=id n4;have h5:=zzn (R:=fun _=>True) (a:=w4.heap.size) rfl (n4.mono (R':=fun _=>True) (fun _ _=>trivial));have h6:=(HF3.out.fr0 f4).fr0 ((Fr.refl NoM w4).alloc (.cells #[.slice a4 (zac (uqC n (s ^^^ 1))).length c4] 26));have HMk:=Hh (znv _ _ _ _ _ h6 h5 (fun Fm h=>by rw[List.mem_singleton.1 h];exact HGs.out.1) (fun Fm h=>by rw[List.mem_singleton.1 h];exact HGs.out.2) (by simp) (by simp));have F4:=Hh (F3.out.trans f4 (fun _ _ q=>q));clear z n4 f4 h5 h6 HF3 HU3;go_wp2_with fail;(with_reducible refine HMk.out.mono ?_);rintro e w7 ⟨v7,rfl,n7,f7⟩;have f57:Fr NoM w1 w7:=F4.out.trans (((Fr.refl NoM w4).alloc _).trans f7 (fun _ _ q=>q)) (fun _ _ q=>q);obtain⟨k0,k1⟩:=HRs.out w7 f57;obtain⟨a7,c7,rfl,z⟩:=id n7;have HN7:=Hh (show NodeL (fun q=>w1.heap.size≤q) encN w7 (.slice a7 (zg1 [[([],[])]] [zac (uqC n (s ^^^ 1))]).length c7) (zac (uqC N s))from by
     have h:=n7.mono (R':=fun q=>w1.heap.size≤q) (fun q hq=>by have h:(w4.alloc _).heap.size≤q:=hq;rw[World.size_alloc]at h;have:=F4.out.size;show w1.heap.size≤q;omega);rw[←HCd.out];exact h)
    have F7:=Hh f57;clear z n7 f7 f57 HMk;go_wp2;refine bodyPost_ret (v:=.agg #[.slice a7 (zg1 [[([],[])]] [zac (uqC n (s ^^^ 1))]).length c7]) (by simp[results,Tryz.results50,go_sem,k0]) rfl ?_
    exact zm0 rfl F1.out HS1.out F7.out HN7.out
set_option maxRecDepth 4000 in
set_option maxHeartbeats 4000000 in
theorem zvh (n:Int)(s:Nat)(w:World)(hn:n.natAbs≤12)(hs:s≤15):Calls Tryz.prog 50 #[.int .i64 n,.int .i64 (s:Int)] w fun e w'=>zp1 (uqC n s) w e w':=by
 by_cases h0:0≤n
 ·obtain⟨m,rfl⟩:=Int.eq_ofNat_of_zero_le h0
  exact znt m s w (by omega) hs
 ·obtain⟨m,rfl⟩:∃m:Nat,n=-(m:Int):=⟨(-n).toNat,by omega⟩
  have hm:0<m:=by omega
  obtain⟨w1,hw1⟩:∃w1,w1=w.alloc (.cells #[.slice none 0 0] 26):=⟨_,rfl⟩;have f1:Fr NoM w w1:=by rw[hw1];exact(Fr.refl NoM w).alloc _
  have hs1:w1.heap.size=w.heap.size+1:=by rw[hw1];simp
  have e1:w1.heap[w.heap.size]?=some (.cells #[.slice none 0 0] 26 (0,0)):=by rw[hw1];exact heap_alloc_new w _
  have HRs:=Hh (fun(W:World) (f:Fr NoM w1 W)=>show W.cell? ⟨w.heap.size,0,none⟩=some (.slice none 0 0)/\W.frozen? ⟨w.heap.size,0,none⟩=false from by
   have h1:=f.heap e1 (fun q=>q);exact⟨by rw[cell_of_row W _ 0 _ _ _ h1];rfl,by simp[World.frozen?,h1]⟩)
  have HU:=Hh (znt m s w1 (by omega) hs);obtain⟨g1,g2,g3,g4,_⟩:=zcg (zxe (n:=m) (by omega) hs);have HG:=Hh (And.intro g1 (And.intro g2 (And.intro g3 g4)));have HCd:=Hh (yem (s:=s) hm);have F1:=Hh f1;have HS1:=Hh hs1;obtain⟨N,hN⟩:∃N:Int,N=-(m:Int):=⟨_,rfl⟩;have a1:N<0:=by omega
  have HNn:=Hh (show IntKind.i64.wrap (-N)=(m:Int)/\wrap64 (-N)=(m:Int)∧-N=(m:Int)/\wrap64 (m:Int)=(m:Int)from⟨by rw[IntKind.wrap_i64];omega,by unfold wrap64;omega,by omega,by unfold wrap64;omega⟩);rw[←hN]at HCd ⊢;clear f1 hs1 e1 g1 g2 g3 g4 hm hN h0 hn hs;go_enter Tryz.func50,Tryz.ntmps50;go_upto_region 1 with fail;rw[←hw1];clear hw1;go_wp2_with fail;try rw[HNn.out.1]
  try rw[HNn.out.2.2.1]
  try rw[HNn.out.2.2.2]
  (with_reducible refine HU.out.mono ?_);rintro e w2 ⟨v2,rfl,n2,f2⟩;have HNg:=Hh (zz6 v2 (zac (uqC m s)) w2 n2 HG.out.2.2.2.opts HG.out.2.2.1 HG.out.1 HG.out.2.1);have F2:=Hh f2;clear n2 f2;go_wp2_with fail;(with_reducible refine HNg.out.mono ?_);rintro e w7 ⟨v7,rfl,n7,f7⟩;have f57:Fr NoM w1 w7:=F2.out.trans f7 (fun _ _ q=>q);obtain⟨k0,k1⟩:=HRs.out w7 f57;rw[zbm,←HCd.out]at n7;obtain⟨a7,c7,rfl,z⟩:=id n7;have HN7:=Hh (n7.mono (R':=fun q=>w1.heap.size≤q) (fun q hq=>by have h:w2.heap.size≤q:=hq;have:=F2.out.size;show w1.heap.size≤q;omega));have F7:=Hh f57;clear z n7 f7 f57 HNg;go_wp2;refine bodyPost_ret (v:=.agg #[.slice a7 (zac (uqC N s)).length c7]) (by simp[results,Tryz.results50,go_sem,k0]) rfl ?_
  exact zm0 rfl F1.out HS1.out F7.out HN7.out
def upOk (n s:Int):Bool:=betw n (-12) 12 && betw s 0 15
def zt7 (ok:Bool)(c:Nat)(w:World)(e:Ending)(w':World):Prop:=∃v',e=.returned (.tuple #[.agg #[v'],.bool ok])/\NodesS w.heap.size w' v' (if ok=true then zac c else [])/\Fr NoM w w'
def zt6 (ok:Bool)(c:Nat)(w:World)(e:Ending)(w':World):Prop:=∃v',e=.returned (.tuple #[.agg #[v'],.bool ok])/\NodeL (fun b=>w.heap.size≤b) encN w' v' (if ok=true then zac c else [])/\Fr NoM w w'
set_option maxRecDepth 4000 in
set_option maxHeartbeats 8000000 in
theorem ydc (n s:Int)(w:World)(ok:Bool)(hok:ok=upOk n s):Calls Tryz.prog 26 #[.int .i64 n,.int .i64 s] w fun e w'=>zt7 ok (uqC n s.toNat) w e w':=by
 by_cases hin:-12≤n/\n≤12/\0≤s/\s≤15
 ·obtain⟨t,rfl⟩:=Int.eq_ofNat_of_zero_le hin.2.2.1
  have hk:ok=true:=by rw[hok];unfold upOk betw;simp;omega
  subst hk;exact zrr w n hin.1 hin.2.1 t (by omega) (zrq (by omega) (by omega))
 ·have hk:ok=false:=by rw[hok];unfold upOk betw;simp;omega
  subst hk;obtain⟨w1,hw1⟩:∃w1,w1=w.alloc (.cells #[.slice none 0 0] 26):=⟨_,rfl⟩;have f1:Fr NoM w w1:=by rw[hw1];exact(Fr.refl NoM w).alloc _
  have e1:w1.heap[w.heap.size]?=some (.cells #[.slice none 0 0] 26 (0,0)):=by rw[hw1];exact heap_alloc_new w _
  have k0:w1.cell? ⟨w.heap.size,0,none⟩=some (.slice none 0 0):=by rw[cell_of_row w1 _ 0 _ _ _ e1];rfl
  have k1:w1.frozen? ⟨w.heap.size,0,none⟩=false:=by simp[World.frozen?,e1]
  have HE:=Hh (show zt7 false (uqC n s.toNat) w (.returned (.tuple #[.agg #[.slice none 0 0],.bool false])) (w1.setCell ⟨w.heap.size,0,none⟩ (.slice none 0 0))from
   ⟨_,rfl,NodesS.nil _ _,f1.setCell _ _ (fun h=>by have h:w.heap.size<w.heap.size:=h;omega)⟩)
  clear f1 e1 hok;go_enter Tryz.func26,Tryz.ntmps26;go_upto_region 1 with fail;rw[←hw1];clear hw1;by_cases h1:n < -12
  ·clear hin
   go_wp2;refine bodyPost_ret (v:=.tuple #[.agg #[.slice none 0 0],.bool false]) (by simp[results,Tryz.results26,go_sem,k0,k1]) rfl ?_
   exact HE.out
  by_cases h2:n>12
  ·clear hin
   go_wp2;refine bodyPost_ret (v:=.tuple #[.agg #[.slice none 0 0],.bool false]) (by simp[results,Tryz.results26,go_sem,k0,k1]) rfl ?_
   exact HE.out
  by_cases h3:s<0
  ·clear hin
   go_wp2;refine bodyPost_ret (v:=.tuple #[.agg #[.slice none 0 0],.bool false]) (by simp[results,Tryz.results26,go_sem,k0,k1]) rfl ?_
   exact HE.out
  have h4:s>15:=by omega
  clear hin;go_wp2;refine bodyPost_ret (v:=.tuple #[.agg #[.slice none 0 0],.bool false]) (by simp[results,Tryz.results26,go_sem,k0,k1]) rfl ?_
  exact HE.out
set_option maxRecDepth 4000 in
set_option maxHeartbeats 8000000 in
theorem ydb (n s:Int)(w:World)(ok:Bool)(hok:ok=upOk n s):Calls Tryz.prog 23 #[.int .i64 n,.int .i64 s] w fun e w'=>zt6 ok (uqC n s.toNat) w e w':=by
 obtain⟨c,hc⟩:∃c,c=uqC n s.toNat:=⟨_,rfl⟩;rw[←hc];obtain⟨w1,hw1⟩:∃w1,w1=w.alloc (.cells #[.slice none 0 0] 26):=⟨_,rfl⟩;have f1:Fr NoM w w1:=by rw[hw1];exact(Fr.refl NoM w).alloc _
 have hs1:w1.heap.size=w.heap.size+1:=by rw[hw1];simp
 have e1:w1.heap[w.heap.size]?=some (.cells #[.slice none 0 0] 26 (0,0)):=by rw[hw1];exact heap_alloc_new w _
 have HRs:=Hh (fun(W:World) (f:Fr NoM w1 W)=>show W.cell? ⟨w.heap.size,0,none⟩=some (.slice none 0 0)/\W.frozen? ⟨w.heap.size,0,none⟩=false from by
  have h1:=f.heap e1 (fun q=>q);exact⟨by rw[cell_of_row W _ 0 _ _ _ h1];rfl,by simp[World.frozen?,h1]⟩)
 have HE:=Hh (show zt6 false c w (.returned (.tuple #[.agg #[.slice none 0 0],.bool false])) (w1.setCell ⟨w.heap.size,0,none⟩ (.slice none 0 0))from
  ⟨_,rfl,⟨none,0,rfl,Nat.le_refl _,by decide,by simp⟩,f1.setCell _ _ (fun h=>by have h:w.heap.size<w.heap.size:=h;omega)⟩)
 obtain⟨o1,ho1⟩:∃o,o=betw n (-12) 12:=⟨_,rfl⟩;obtain⟨o2,ho2⟩:∃o,o=betw s 0 15:=⟨_,rfl⟩;have HI1:=Hh (fun(W:World)=>show Calls Tryz.prog 55 #[.int .i64 n,.int .i64 (-12),.int .i64 12] W fun e w'=>e=.returned (.bool o1)/\W=w' from by
  rw[ho1];exact zfg n (-12) 12 W)
 have HI2:=Hh (fun(W:World)=>show Calls Tryz.prog 55 #[.int .i64 s,.int .i64 0,.int .i64 15] W fun e w'=>e=.returned (.bool o2)/\W=w' from by
  rw[ho2];exact zfg s 0 15 W)
 have hk:ok=(o1 && o2):=by rw[hok,ho1,ho2];rfl
 have HU:=Hh (fun(h1:o1=true) (h2:o2=true)=>(by
  rw[ho1]at h1;rw[ho2]at h2;unfold betw at h1 h2;rw[decide_eq_true_eq]at h1 h2;obtain⟨t,ht⟩:=Int.eq_ofNat_of_zero_le h2.1;subst ht;rw[hc];exact⟨zvh n t w1 (by omega) (by omega),zrq (n:=n) (s:=t) (by omega) (by omega)⟩:(Calls Tryz.prog 50 #[.int .i64 n,.int .i64 s] w1 fun e w'=>zp1 c w1 e w')/\zam (zac c)=true))
 have F1:=Hh f1;have HS1:=Hh hs1;clear f1 hs1 e1 hok ho1 ho2 hc;subst hk;go_enter Tryz.func23,Tryz.ntmps23;go_upto_region 1 with fail;rw[←hw1];clear hw1;go_wp2_with fail;(with_reducible refine(HI1.out _).mono ?_);rintro e w2 ⟨rfl,rfl⟩;cases o1 with
 | false =>
  obtain⟨k0,k1⟩:=HRs.out _ (Fr.refl _ _);go_wp2;refine bodyPost_ret (v:=.tuple #[.agg #[.slice none 0 0],.bool false]) (by simp[results,Tryz.results23,go_sem,k0,k1]) rfl ?_
  exact HE.out
 | true =>
 go_wp2_with fail;(with_reducible refine(HI2.out _).mono ?_);rintro e w3 ⟨rfl,rfl⟩;cases o2 with
 | false =>
  obtain⟨k0,k1⟩:=HRs.out _ (Fr.refl _ _);go_wp2;refine bodyPost_ret (v:=.tuple #[.agg #[.slice none 0 0],.bool false]) (by simp[results,Tryz.results23,go_sem,k0,k1]) rfl ?_
  exact HE.out
 | true =>
 have HU2:=Hh (HU.out (by simp) (by simp)).1;have HFi:=Hh (HU.out (by simp) (by simp)).2;clear HU;go_wp2_with fail;(with_reducible refine HU2.out.mono ?_);rintro e w4 ⟨v4,rfl,n4,f4⟩;have HIf:=Hh (zor v4 (zac c) w4 n4);have F4:=Hh f4;clear n4 f4;go_wp2_with fail;(with_reducible refine HIf.out.mono ?_);rintro e w7 ⟨v7,rfl,n7,f7⟩;rw[HFi.out,if_pos rfl]at n7;have f57:=F4.out.trans f7 (fun _ _ q=>q);obtain⟨k0,k1⟩:=HRs.out w7 f57;obtain⟨a7,c7,rfl,z⟩:=id n7;have HN7:=Hh (show NodeL (fun q=>w1.heap.size≤q) encN w7 _ (zac c)from n7);have F7:=Hh f57;clear z n7 f7 f57 HIf;rw[HFi.out];go_wp2;refine bodyPost_ret (v:=.tuple #[.agg #[.slice a7 (zac c).length c7],.bool true]) (by simp[results,Tryz.results23,go_sem,k0]) rfl ?_
 obtain⟨v,e,h1,h2⟩:=zm0 rfl F1.out HS1.out F7.out HN7.out;cases e
 exact⟨_,rfl,h1,h2⟩
set_option maxRecDepth 4000 in
set_option maxHeartbeats 8000000 in
theorem zmg (T P:Int)(w:World)(g:Bool)(hg:g=true↔GoodD T P)(ok:Bool)(hok:ok=(g && zam (numN T P.toNat))) :
  Calls Tryz.prog 22 #[.agg #[.int .i64 T,.int .i64 P]] w fun e w'=>∃v',e=.returned (.tuple #[.agg #[v'],.bool ok])/\NodeL (fun b=>w.heap.size≤b) encN w' v' (if ok=true then numN T P.toNat else [])/\Fr NoM w w':=by
 obtain⟨RN,hRN⟩:∃RN,RN=(if ok=true then numN T P.toNat else []):=⟨_,rfl⟩;rw[←hRN];have HRN:=Hh hRN;clear hRN;obtain⟨w1,hw1⟩:∃w1,w1=(w.alloc (.cells #[.int .i64 T,.int .i64 P] 29)).alloc (.cells #[.slice none 0 0] 26):=⟨_,rfl⟩;have f1:Fr NoM w w1:=by rw[hw1];exact((Fr.refl NoM w).alloc _).alloc _
 have hs1:w1.heap.size=w.heap.size+2:=by rw[hw1];simp
 have e0:w1.heap[w.heap.size]?=some (.cells #[.int .i64 T,.int .i64 P] 29 (0,0)):=by rw[hw1];exact((Fr.refl NoM _).alloc _).heap (heap_alloc_new w _) (fun q=>q)
 have e1:w1.heap[w.heap.size+1]?=some (.cells #[.slice none 0 0] 26 (0,0)):=by
  have h:=heap_alloc_new (w.alloc (.cells #[.int .i64 T,.int .i64 P] 29)) (.cells #[.slice none 0 0] 26);rw[World.size_alloc]at h;rw[hw1];exact h
 have HK:=Hh (fun(W:World) (f:Fr NoM w1 W)=>(by
  have h0:=f.heap e0 (fun q=>q);have h1:=f.heap e1 (fun q=>q);exact⟨by rw[cell_of_row W _ 0 _ _ _ h0];rfl,by rw[cell_of_row W _ 1 _ _ _ h0];rfl,by rw[cell_of_row W _ 0 _ _ _ h1];rfl,by simp[World.frozen?,h1]⟩:W.cell? ⟨w.heap.size,0,none⟩=some (.int .i64 T)/\W.cell? ⟨w.heap.size,1,none⟩=some (.int .i64 P)/\W.cell? ⟨w.heap.size+1,0,none⟩=some (.slice none 0 0)/\W.frozen? ⟨w.heap.size+1,0,none⟩=false))
 have HGd:=Hh (zvu T P w1 g hg);have F1:=Hh f1;have HS1:=Hh hs1;have HG:=Hh hg;have HOk:=Hh hok;clear f1 hs1 e0 e1 hg hok;obtain⟨k0,k1,k2,k3⟩:=HK.out w1 (Fr.refl _ _);go_enter Tryz.func22,Tryz.ntmps22;go_wp2_with fail;rw[←hw1];clear hw1;(with_reducible refine HGd.out.mono ?_);rintro e w2 ⟨rfl,f2⟩;have F2:=Hh f2;clear k0 k1 k2 k3 f2;obtain⟨k0,k1,k2,k3⟩:=HK.out w2 F2.out;cases g with
 | false =>
  have hk:ok=false:=by rw[HOk.out];rfl
  subst hk;have hRN:=HRN.out;rw[if_neg (by decide)]at hRN;subst hRN;go_wp2;refine bodyPost_ret (v:=.tuple #[.agg #[.slice none 0 0],.bool false]) (by simp[results,Tryz.results22,go_sem,k2,k3]) rfl ?_
  exact⟨_,rfl,⟨none,0,rfl,Nat.le_refl _,by decide,by simp⟩,(F1.out.trans F2.out (fun _ _ q=>q)).setCell _ _ (fun h=>by have h:w.heap.size+1<w.heap.size:=h;omega)⟩
 | true =>
  obtain⟨p,rfl,hp,hr,ht⟩:=(HG.out.1 rfl).nat;have HFm:=Hh (zvi T p w2 hr ht hp);obtain⟨FN,hFN⟩:∃FN,FN=zke T p:=⟨_,rfl⟩;have hd:=zvz hr;rw[←hFN]at hd;have hk:ok=zam FN:=by rw[HOk.out,hd.1];rfl
  have hRN:RN=(if zam (numN T p)=true then numN T p else []):=by rw[HRN.out,hk,hd.1];rfl
  have HD:=Hh (hd.2.trans hRN.symm);have HFN:=Hh hFN;have HFit:=Hh hk;clear hp hr ht hd hFN hRN hk;go_wp2_with fail;(with_reducible refine HFm.out.mono ?_);rintro e w3 ⟨v,rfl,n3,f3⟩;rw[←HFN.out]at n3;have hI:=zor v FN w3 n3;rw[HD.out,←HFit.out]at hI;have HI:=Hh hI;have F3:=Hh (F2.out.trans f3 (fun _ _ q=>q));obtain⟨va,vc,rfl,zz⟩:=id n3;clear zz n3 f3 k0 k1 k2 k3 hI;obtain⟨k0,k1,k2,k3⟩:=HK.out w3 F3.out;go_wp2_with fail;(with_reducible refine HI.out.mono ?_);rintro e w4 ⟨v',rfl,n4,f4⟩;have F4:=Hh (F3.out.trans f4 (fun _ _ q=>q));have HN4:=Hh n4;have HZ:=Hh (show w.heap.size+2≤w2.heap.size from by have:=F2.out.size;have:=HS1.out;omega);obtain⟨vb,vd,rfl,zz⟩:=id n4;clear zz n4 f4 k0 k1 k2 k3;obtain⟨k0,k1,k2,k3⟩:=HK.out w4 F4.out;go_wp2;refine bodyPost_ret (v:=.tuple #[.agg #[.slice vb RN.length vd],.bool ok]) (by simp[results,Tryz.results22,go_sem,k2,k3]) rfl ?_
  refine⟨_,rfl,?_,(F1.out.trans F4.out (fun _ _ q=>q)).setCell _ _ (fun h=>by have h:w.heap.size+1<w.heap.size:=h;omega)⟩;exact(HN4.out.fr (Fr.set w4 ⟨w.heap.size+1,0,none⟩ (.slice vb RN.length vd)) (fun q hq e=>by have e:q=w.heap.size+1:=e;have hq:w2.heap.size≤q:=hq;have:=HZ.out;omega)).mono (fun q hq=>by have hq:w2.heap.size≤q:=hq;have:=HZ.out;omega)
end Go.Proofs.YtghekfmfonoocaaGreatDoor
