import Derived.Test.YtlapkmhemepcaaaGreatDoorZno
/- Lemmas. -/
namespace Go.Proofs.YtlapkmhemepcaaaGreatDoor
set_option linter.unusedVariables false
set_option linter.unusedSimpArgs false
open Go.RowKit
def zsh (c:Nat)(w:World)(e:Ending)(w':World):Prop:=∃v',e=.returned (.agg #[v'])/\NodeL (fun b=>w.heap.size≤b) encN w' v' (za6 c)/\Fr NoM w w'
theorem zvi {n:Int}{s:Nat}(hn:n.natAbs≤3)(hs:s<4):zc5 (i2 (za6 (uqC n s))):=(zhp (zc4 _) (zgv (by omega) hs)).1
theorem ye7 {n s:Nat}(h:¬(n=0/\s=1)):uqC ((n:Int)+1) s=mkC [zac] [uqC n (s ^^^ 1)]:=by
 unfold uqC nusC;rw[if_pos (by omega),if_pos (by omega),show((n:Int)+1).toNat=n+1 by omega,Int.toNat_natCast,nusU,if_neg h]
theorem ye5:uqC 1 1=mkC [zac,zb5 1] [zac]:=by
 rw[←zcb];rfl
theorem ye6 {n:Nat}{s:Nat}(h:0<n):uqC (-(n:Int)) s=negC (uqC n s):=by
 unfold uqC nusC;rw[if_neg (by omega),if_pos (by omega),show(-(-(n:Int))).toNat=n by omega,Int.toNat_natCast,zxt]
theorem zkc:za6 zac=[([],[])]:=by rw[←zuh,zkn];rfl
theorem zkg {c:Nat}{w w1 W:World}{b:Nat}{v:Value}(hb:b=w.heap.size)(f1:Fr NoM w w1)(hs:w1.heap.size=w.heap.size+1)(f:Fr NoM w1 W)(h:NodeL (fun q=>w1.heap.size≤q) encN W v (za6 c)) :
  zsh c w (.returned (.agg #[v])) (W.setCell ⟨b,0,none⟩ v):=by
 subst hb;refine⟨_,rfl,?_,?_⟩
 ·exact(h.fr (Fr.set W ⟨w.heap.size,0,none⟩ _) (fun q hq e=>by have e:q=w.heap.size:=e;have hq:w1.heap.size≤q:=hq;omega)).mono (fun q hq=>by have hq:w1.heap.size≤q:=hq;show w.heap.size≤q;omega)
 ·exact(f1.trans f (fun _ _ q=>q)).setCell _ _ (fun h=>by have h:w.heap.size<w.heap.size:=h;omega)
set_option maxRecDepth 4000 in
set_option maxHeartbeats 4000000 in
theorem zpc (n:Nat):∀(s:Nat) (w:World),n≤3→s<4→Calls Tryz.prog 82 #[.int .i64 (n:Int),.int .i64 (s:Int)] w fun e w'=>zsh (uqC n s) w e w':=by
 induction n with
 | zero =>
  intro s w _ hs;obtain⟨w1,hw1⟩:∃w1,w1=w.alloc (.cells #[.slice none 0 0] 26):=⟨_,rfl⟩;have f1:Fr NoM w w1:=by rw[hw1];exact(Fr.refl NoM w).alloc _
  have hs1:w1.heap.size=w.heap.size+1:=by rw[hw1];simp
  have e1:w1.heap[w.heap.size]?=some (.cells #[.slice none 0 0] 26 (0,0)):=by rw[hw1];exact heap_alloc_new w _
  have HRs:=Hh (fun(W:World) (f:Fr NoM w1 W)=>show W.cell? ⟨w.heap.size,0,none⟩=some (.slice none 0 0)/\W.frozen? ⟨w.heap.size,0,none⟩=false from by
   have h1:=f.heap e1 (fun q=>q);exact⟨by rw[cell_of_row W _ 0 _ _ _ h1];rfl,by simp[World.frozen?,h1]⟩)
  have HSt:=Hh (zn7 s (by omega) w1);have F1:=Hh f1;have HS1:=Hh hs1;clear f1 hs1 e1 hs;rw[show((0:Nat):Int)=0 from rfl];go_enter Tryz.func82,Tryz.ntmps82;go_upto_region 1 with fail;rw[←hw1];clear hw1;go_wp2_with fail;(with_reducible refine HSt.out.mono ?_);rintro e w2 ⟨v2,rfl,n2,f2⟩;obtain⟨k0,k1⟩:=HRs.out w2 f2;obtain⟨a2,c2,rfl,z⟩:=id n2;have HN:=Hh n2;have F2:=Hh f2;clear z n2 f2;go_wp2;refine bodyPost_ret (v:=.agg #[.slice a2 (ze1 (s+1)).length c2]) (by simp[results,Tryz.results82,go_sem,k0]) rfl ?_
  exact zkg rfl F1.out HS1.out F2.out (by rw[zf5,zkn];exact HN.out)
 | succ n ih =>
  intro s w hn hs;obtain⟨w1,hw1⟩:∃w1,w1=w.alloc (.cells #[.slice none 0 0] 26):=⟨_,rfl⟩;have f1:Fr NoM w w1:=by rw[hw1];exact(Fr.refl NoM w).alloc _
  have hs1:w1.heap.size=w.heap.size+1:=by rw[hw1];simp
  have e1:w1.heap[w.heap.size]?=some (.cells #[.slice none 0 0] 26 (0,0)):=by rw[hw1];exact heap_alloc_new w _
  have HRs:=Hh (fun(W:World) (f:Fr NoM w1 W)=>show W.cell? ⟨w.heap.size,0,none⟩=some (.slice none 0 0)/\W.frozen? ⟨w.heap.size,0,none⟩=false from by
   have h1:=f.heap e1 (fun q=>q);exact⟨by rw[cell_of_row W _ 0 _ _ _ h1];rfl,by simp[World.frozen?,h1]⟩)
  have F1:=Hh f1;have HS1:=Hh hs1;have a1:¬((n+1:Nat):Int)<0:=by omega
  have a2:(((n+1:Nat):Int) == 0)=false:=by rw[beq_eq_false_iff_ne];omega
  obtain⟨N,hN⟩:∃N:Int,N=((n+1:Nat):Int):=⟨_,rfl⟩;have gz:GoodF [(([]:List Nat),([]:List Nat))]:=znf.1.good (by decide);have cz:zas [(([]:List Nat),([]:List Nat))]=zac:=by rw[←zkc,zak]
  clear f1 hs1 e1;by_cases h1:n=0/\s=1
  ·obtain⟨rfl,rfl⟩:=h1
   have hN1:N=1:=hN;rw[←hN]at a1 a2 ⊢;subst hN1;have gs:GoodF (ze1 2):=ycb.1.good (by decide);have hcode:zfz [[([],[])],ze1 2] [[([],[])]]=za6 (uqC (1:Int) 1):=by
    rw[zi9 (fun Fm h=>by
     rcases zg9.1 h with e|e
     ·rw[e];exact⟨by decide,gz.opts⟩
     ·rw[e];exact⟨by rw[zer];decide,gs.opts⟩) (fun Fm h=>by rw[List.mem_singleton.1 h];exact⟨by decide,gz.opts⟩),ye5]
    simp only[List.map_cons,List.map_nil,cz];rw[show zas (ze1 2)=zb5 1 from(zvv (n:=1) (by decide)).2]
   have HCd:=Hh hcode;have HGs:=Hh (And.intro gz gs);clear hcode gz gs cz ih hN hs hn;go_enter Tryz.func82,Tryz.ntmps82;go_upto_region 1 with fail;rw[←hw1];clear hw1;go_wp2_with fail;(with_reducible refine(zia w1).mono ?_);rintro e w2 ⟨v2,rfl,n2,f2⟩;obtain⟨a2,c2,rfl,z⟩:=id n2;have hst:=zn7 1 (by decide) w2;rw[show((1:Nat):Int)=1 from rfl]at hst;have HSt:=Hh hst;have HN2:=Hh (n2.mono (R':=fun _=>True) (fun _ _=>trivial));have F2:=Hh f2;clear z n2 f2 hst;have hl1:List.length [(([]:List Nat),([]:List Nat))]=1:=rfl;go_wp2_with fail;(with_reducible refine HSt.out.mono ?_);rintro e w3 ⟨v3,rfl,n3,f3⟩;obtain⟨a3,c3,rfl,z⟩:=id n3;obtain⟨w4,hw4⟩:∃w4,w4=w3.alloc (.cells #[.slice a2 1 c2,.slice a3 (ze1 (1+1)).length c3] 26):=⟨_,rfl⟩;have f4:Fr NoM w3 w4:=by rw[hw4];exact(Fr.refl NoM w3).alloc _
   have HF4:=Hh (show FormsL (fun _=>True) w4 (.slice (some ⟨w3.heap.size,0,none⟩) 2 2) [[([],[])],ze1 2]from by
    rw[hw4];exact yer rfl (HN2.out.fr0 f3) (n3.mono (fun _ _=>trivial)))
   have F4:=Hh ((F2.out.trans f3 (fun _ _ q=>q)).trans f4 (fun _ _ q=>q));have HZ4:=Hh (zia w4);have HW4:=Hh hw4;clear z n3 f3 f4 HSt;go_wp2_with fail;rw[←HW4.out];clear hw4 HW4;(with_reducible refine HZ4.out.mono ?_);rintro e w5 ⟨v5,rfl,n5,f5⟩;obtain⟨a5,c5,rfl,z⟩:=id n5;have h5:=zyd (R:=fun _=>True) (a:=w5.heap.size) rfl (n5.mono (R':=fun _=>True) (fun _ _=>trivial));have h6:=(HF4.out.fr0 f5).fr0 ((Fr.refl NoM w5).alloc (.cells #[.slice a5 1 c5] 26));have HMk:=Hh (zn8 _ _ _ _ _ h6 h5 (fun Fm h=>by
    rcases zg9.1 h with e|e
    ·rw[e];exact HGs.out.1
    ·rw[e];exact HGs.out.2) (fun Fm h=>by rw[List.mem_singleton.1 h];exact HGs.out.1) (by simp) (by simp))
   have F5:=Hh (F4.out.trans f5 (fun _ _ q=>q));clear z n5 f5 h5 h6 HF4 HZ4;go_wp2_with fail;(with_reducible refine HMk.out.mono ?_);rintro e w7 ⟨v7,rfl,n7,f7⟩;have f57:Fr NoM w1 w7:=F5.out.trans (((Fr.refl NoM w5).alloc _).trans f7 (fun _ _ q=>q)) (fun _ _ q=>q);obtain⟨k0,k1⟩:=HRs.out w7 f57;obtain⟨a7,c7,rfl,z⟩:=id n7;have HN7:=Hh (show NodeL (fun q=>w1.heap.size≤q) encN w7 (.slice a7 (zfz [[([],[])],ze1 2] [[([],[])]]).length c7) (za6 (uqC (1:Int) 1))from by
    have h:=n7.mono (R':=fun q=>w1.heap.size≤q) (fun q hq=>by have h:(w5.alloc _).heap.size≤q:=hq;rw[World.size_alloc]at h;have:=F5.out.size;show w1.heap.size≤q;omega);rw[←HCd.out];exact h)
   have F7:=Hh f57;clear z n7 f7 f57 HMk;go_wp2;refine bodyPost_ret (v:=.agg #[.slice a7 (zfz [[([],[])],ze1 2] [[([],[])]]).length c7]) (by simp[results,Tryz.results82,go_sem,k0]) rfl ?_
   exact zkg rfl F1.out HS1.out F7.out HN7.out
  ·have hx:=zvb hs
   have gU:GoodF (za6 (uqC n (s ^^^ 1))):=by
    obtain⟨g1,g2,g3,g4,_⟩:=zfd (zvi (n:=n) (by omega) hx);exact⟨g1,g2,g4.opts,fun y hy=>⟨by have:=(g3 y hy).1;omega,by have:=(g3 y hy).2;omega⟩⟩
   have hcode:zfz [[([],[])]] [za6 (uqC n (s ^^^ 1))]=za6 (uqC ((n:Int)+1) s):=by
    rw[zi9 (fun Fm h=>by rw[List.mem_singleton.1 h];exact⟨by decide,gz.opts⟩) (fun Fm h=>by rw[List.mem_singleton.1 h];exact⟨(zft (zc4 _)).1,gU.opts⟩),ye7 h1];simp only[List.map_cons,List.map_nil,cz,zak]
   have hNn:(N:Int)=(n:Int)+1:=by omega
   rw[←hNn]at hcode;rw[←hN]at a1 a2 ⊢;have HCd:=Hh hcode;have HGs:=Hh (And.intro gz gU);have HU:=Hh (fun(W:World)=>ih (s ^^^ 1) W (by omega) hx);have HNn:=Hh (show IntKind.i64.wrap (N-1)=(n:Int)/\wrap64 (N-1)=(n:Int)/\N-1=(n:Int)/\wrap64 (n:Int)=(n:Int)from⟨by rw[IntKind.wrap_i64];omega,by unfold wrap64;omega,by omega,by unfold wrap64;omega⟩);have hxs:=zhv s (by omega);have HXs:=Hh hxs;obtain⟨b1,hb1⟩:∃b1:Bool,(N == 1)=b1:=⟨_,rfl⟩;obtain⟨b2,hb2⟩:∃b2:Bool,((s:Int) == 1)=b2:=⟨_,rfl⟩;have HBb:=Hh (show(b1 && b2)=false from by
    cases hq:(b1 && b2)with
    | false=>rfl
    | true =>
     rw[Bool.and_eq_true]at hq;obtain⟨rfl,rfl⟩:=hq;rw[beq_iff_eq]at hb1 hb2;exact absurd ⟨by omega,by omega⟩ h1)
   clear hcode gz gU cz ih hN hs hn hx h1 hxs hNn;have key:∀ {K:Prop},(b1=false→K)→(b1=true→b2=false→K)→K:=fun {K} h1 h2=>by
    have h:=HBb.out;cases b1 with
    | false=>exact h1 rfl
    | true=>exact h2 rfl h
   refine key (fun e1=>?_) (fun e1 e2=>?_);all_goals
    subst e1;try subst e2
    clear key HBb;go_enter Tryz.func82,Tryz.ntmps82;go_upto_region 1 with fail;rw[←hw1];clear hw1;go_wp2_with fail;(with_reducible refine(zia w1).mono ?_);rintro e w2 ⟨v2,rfl,n2,f2⟩;obtain⟨a2,c2,rfl,z⟩:=id n2;obtain⟨w3,hw3⟩:∃w3,w3=w2.alloc (.cells #[.slice a2 1 c2] 26):=⟨_,rfl⟩;have f3:Fr NoM w2 w3:=by rw[hw3];exact(Fr.refl NoM w2).alloc _
    have HF3:=Hh (show FormsL (fun _=>True) w3 (.slice (some ⟨w2.heap.size,0,none⟩) 1 1) [[([],[])]]from by
     rw[hw3];exact zyd rfl (n2.mono (fun _ _=>trivial)))
    have F3:=Hh (f2.trans f3 (fun _ _ q=>q));have HW3:=Hh hw3;have HU3:=Hh (HU.out w3);clear z n2 f2 f3;have hl1:List.length [(([]:List Nat),([]:List Nat))]=1:=rfl;go_wp2_with fail;rw[←HW3.out];clear hw3 HW3;rw[HXs.out];try rw[HNn.out.1]
    try rw[HNn.out.2.2.1]
    try rw[HNn.out.2.2.2]
    (with_reducible refine HU3.out.mono ?_);rintro e w4 ⟨v4,rfl,n4,f4⟩;obtain⟨a4,c4,rfl,z⟩:=id n4;have h5:=zyd (R:=fun _=>True) (a:=w4.heap.size) rfl (n4.mono (R':=fun _=>True) (fun _ _=>trivial));have h6:=(HF3.out.fr0 f4).fr0 ((Fr.refl NoM w4).alloc (.cells #[.slice a4 (za6 (uqC n (s ^^^ 1))).length c4] 26));have HMk:=Hh (zn8 _ _ _ _ _ h6 h5 (fun Fm h=>by rw[List.mem_singleton.1 h];exact HGs.out.1) (fun Fm h=>by rw[List.mem_singleton.1 h];exact HGs.out.2) (by simp) (by simp));have F4:=Hh (F3.out.trans f4 (fun _ _ q=>q));clear z n4 f4 h5 h6 HF3 HU3;go_wp2_with fail;(with_reducible refine HMk.out.mono ?_);rintro e w7 ⟨v7,rfl,n7,f7⟩;have f57:Fr NoM w1 w7:=F4.out.trans (((Fr.refl NoM w4).alloc _).trans f7 (fun _ _ q=>q)) (fun _ _ q=>q);obtain⟨k0,k1⟩:=HRs.out w7 f57;obtain⟨a7,c7,rfl,z⟩:=id n7;have HN7:=Hh (show NodeL (fun q=>w1.heap.size≤q) encN w7 (.slice a7 (zfz [[([],[])]] [za6 (uqC n (s ^^^ 1))]).length c7) (za6 (uqC N s))from by
     have h:=n7.mono (R':=fun q=>w1.heap.size≤q) (fun q hq=>by have h:(w4.alloc _).heap.size≤q:=hq;rw[World.size_alloc]at h;have:=F4.out.size;show w1.heap.size≤q;omega);rw[←HCd.out];exact h)
    have F7:=Hh f57;clear z n7 f7 f57 HMk;go_wp2;refine bodyPost_ret (v:=.agg #[.slice a7 (zfz [[([],[])]] [za6 (uqC n (s ^^^ 1))]).length c7]) (by simp[results,Tryz.results82,go_sem,k0]) rfl ?_
    exact zkg rfl F1.out HS1.out F7.out HN7.out
set_option maxRecDepth 4000 in
set_option maxHeartbeats 4000000 in
theorem zxz (n:Int)(s:Nat)(w:World)(hn:n.natAbs≤3)(hs:s<4):Calls Tryz.prog 82 #[.int .i64 n,.int .i64 (s:Int)] w fun e w'=>zsh (uqC n s) w e w':=by
 by_cases h0:0≤n
 ·obtain⟨m,rfl⟩:=Int.eq_ofNat_of_zero_le h0
  exact zpc m s w (by omega) hs
 ·obtain⟨m,rfl⟩:∃m:Nat,n=-(m:Int):=⟨(-n).toNat,by omega⟩
  have hm:0<m:=by omega
  obtain⟨w1,hw1⟩:∃w1,w1=w.alloc (.cells #[.slice none 0 0] 26):=⟨_,rfl⟩;have f1:Fr NoM w w1:=by rw[hw1];exact(Fr.refl NoM w).alloc _
  have hs1:w1.heap.size=w.heap.size+1:=by rw[hw1];simp
  have e1:w1.heap[w.heap.size]?=some (.cells #[.slice none 0 0] 26 (0,0)):=by rw[hw1];exact heap_alloc_new w _
  have HRs:=Hh (fun(W:World) (f:Fr NoM w1 W)=>show W.cell? ⟨w.heap.size,0,none⟩=some (.slice none 0 0)/\W.frozen? ⟨w.heap.size,0,none⟩=false from by
   have h1:=f.heap e1 (fun q=>q);exact⟨by rw[cell_of_row W _ 0 _ _ _ h1];rfl,by simp[World.frozen?,h1]⟩)
  have HU:=Hh (zpc m s w1 (by omega) hs);obtain⟨g1,g2,g3,g4,_⟩:=zfd (zvi (n:=m) (by omega) hs);have HG:=Hh (And.intro g1 (And.intro g2 (And.intro g3 g4)));have HCd:=Hh (ye6 (s:=s) hm);have F1:=Hh f1;have HS1:=Hh hs1;obtain⟨N,hN⟩:∃N:Int,N=-(m:Int):=⟨_,rfl⟩;have a1:N<0:=by omega
  have HNn:=Hh (show IntKind.i64.wrap (-N)=(m:Int)/\wrap64 (-N)=(m:Int)∧-N=(m:Int)/\wrap64 (m:Int)=(m:Int)from⟨by rw[IntKind.wrap_i64];omega,by unfold wrap64;omega,by omega,by unfold wrap64;omega⟩);rw[←hN]at HCd ⊢;clear f1 hs1 e1 g1 g2 g3 g4 hm hN h0 hn hs;go_enter Tryz.func82,Tryz.ntmps82;go_upto_region 1 with fail;rw[←hw1];clear hw1;go_wp2_with fail;try rw[HNn.out.1]
  try rw[HNn.out.2.2.1]
  try rw[HNn.out.2.2.2]
  (with_reducible refine HU.out.mono ?_);rintro e w2 ⟨v2,rfl,n2,f2⟩;have HNg:=Hh (zy0 v2 (za6 (uqC m s)) w2 n2 HG.out.2.2.2.opts HG.out.2.2.1 HG.out.1 HG.out.2.1);have F2:=Hh f2;clear n2 f2;go_wp2_with fail;(with_reducible refine HNg.out.mono ?_);rintro e w7 ⟨v7,rfl,n7,f7⟩;have f57:Fr NoM w1 w7:=F2.out.trans f7 (fun _ _ q=>q);obtain⟨k0,k1⟩:=HRs.out w7 f57;rw[zak,←HCd.out]at n7;obtain⟨a7,c7,rfl,z⟩:=id n7;have HN7:=Hh (n7.mono (R':=fun q=>w1.heap.size≤q) (fun q hq=>by have h:w2.heap.size≤q:=hq;have:=F2.out.size;show w1.heap.size≤q;omega));have F7:=Hh f57;clear z n7 f7 f57 HNg;go_wp2;refine bodyPost_ret (v:=.agg #[.slice a7 (za6 (uqC N s)).length c7]) (by simp[results,Tryz.results82,go_sem,k0]) rfl ?_
  exact zkg rfl F1.out HS1.out F7.out HN7.out
end Go.Proofs.YtlapkmhemepcaaaGreatDoor
