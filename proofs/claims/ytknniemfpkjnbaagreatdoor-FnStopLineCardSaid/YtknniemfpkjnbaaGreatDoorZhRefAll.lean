import Derived.Test.YtknniemfpkjnbaaGreatDoorZhRefBest
import Derived.Test.YtknniemfpkjnbaaGreatDoorZhRefPart
import Derived.Test.YtknniemfpkjnbaaGreatDoorZhRefGame
/- What the claim of FnStopLineCard needs of: RefAll. -/
namespace Go.Proofs.YtknniemfpkjnbaaGreatDoor
set_option linter.unusedVariables false
set_option linter.unusedSimpArgs false
open Go.RowKit
structure R10 (B:Nat) (W:World) (lv rv bv:Value) (F:List PL) (k:Nat):Prop where
 l:W.ownsRow B 43 2 lv k (zau (dyL (sL F) k))
 r:W.ownsRow B 43 2 rv k (zau (dyL (sR F) k))
 b:W.ownsRow B 4 1 bv k ((numL F k).map encB)
 sl:∀q,lv.ownBlock=some q→rv.ownBlock≠some q/\bv.ownBlock≠some q
 sr:∀q,rv.ownBlock=some q→bv.ownBlock≠some q
theorem R10.start (B:Nat)(W:World)(F:List PL):R10 B W (.slice none 0 0) (.slice none 0 0) (.slice none 0 0) F 0 :=
 ⟨World.ownsRow_nil _ _ _ _,World.ownsRow_nil _ _ _ _,World.ownsRow_nil _ _ _ _,fun q h=>(by cases h),fun q h=>(by cases h)⟩
section
variable {B k:Nat}{M:Nat→Prop}{W W':World}{lv rv bv:Value}{F:List PL}
theorem R10.fr (h:R10 B W lv rv bv F k)(hf:Fr M W W')(hm:∀q,M q→q<B∨W.heap.size≤q):R10 B W' lv rv bv F k :=
 ⟨za1 h.l hf (fun q hq e=>by have h1:=h.l.lt q hq;have h2:=hm q e;omega),za1 h.r hf (fun q hq e=>by have h1:=h.r.lt q hq;have h2:=hm q e;omega),za1 h.b hf (fun q hq e=>by have h1:=h.b.lt q hq;have h2:=hm q e;omega),h.sl,h.sr⟩
theorem R10.fr0 (h:R10 B W lv rv bv F k)(hf:Fr NoM W W'):R10 B W' lv rv bv F k:=h.fr hf (fun q e=>e.elim)
theorem R10.left (h:R10 B W lv rv bv F k):Pairs W lv (dyL (sL F) k):=Pairs.of_owns h.l
theorem R10.right (h:R10 B W lv rv bv F k):Pairs W rv (dyL (sR F) k):=Pairs.of_owns h.r
theorem R10.bools (h:R10 B W lv rv bv F k):SliceOf encB W bv (numL F k):=SliceOf.of_owns h.b rfl
theorem R10.next {lv' rv' bv':Value}{sb:Nat}{Wa U1 Ub U2 Uc U3 Ud:World}(h:R10 B W lv rv bv F k)(hs:sb<B)
  (f1:Fr NoM W Wa) (g1:Fr (Own1 lv) Wa U1) (o1:U1.ownsRow B 43 2 lv' (k+1) (zau (dyL (sL F) k) ++ [.int .i64 (sL F k).1,.int .i64 ((sL F k).2:Int)])) (s1:lv'.ownBlock=lv.ownBlock∨∃b,lv'.ownBlock=some b/\Wa.heap.size≤b)
  (f2:Fr (fun q=>q=sb) U1 Ub) (g2:Fr (Own1 rv) Ub U2) (o2:U2.ownsRow B 43 2 rv' (k+1) (zau (dyL (sR F) k) ++ [.int .i64 (sR F k).1,.int .i64 ((sR F k).2:Int)])) (s2:rv'.ownBlock=rv.ownBlock∨∃b,rv'.ownBlock=some b/\Ub.heap.size≤b)
  (f3:Fr (fun q=>q=sb) U2 Uc) (g3:Fr (Own1 bv) Uc U3) (o3:U3.ownsRow B 4 1 bv' (k+1) ((numL F k).map encB ++ [.bool (isNB (xAt F k))])) (s3:bv'.ownBlock=bv.ownBlock∨∃b,bv'.ownBlock=some b/\Uc.heap.size≤b)
  (f4:Fr (fun q=>q=sb) U3 Ud):R10 B Ud lv' rv' bv' F (k+1):=by
 have z1:=f1.size;have z2:=g1.size;have z3:=f2.size;have z4:=g2.size;have z5:=f3.size;have a1:∀q,lv'.ownBlock=some q→(rv.ownBlock≠some q/\bv.ownBlock≠some q)/\B≤q/\q<U1.heap.size:=fun q hq=>by
  refine⟨?_,o1.lt q hq⟩;rcases s1 with s|⟨b,s,hb⟩
  ·exact h.sl q (by rw[←s];exact hq)
  ·rw[hq]at s;cases s
   exact⟨fun e=>by have:=(h.r.lt q e).2;omega,fun e=>by have:=(h.b.lt q e).2;omega⟩
 have a2:∀q,rv'.ownBlock=some q→bv.ownBlock≠some q/\B≤q/\q<U2.heap.size:=fun q hq=>by
  refine⟨?_,o2.lt q hq⟩;rcases s2 with s|⟨b,s,hb⟩
  ·exact h.sr q (by rw[←s];exact hq)
  ·rw[hq]at s;cases s
   exact fun e=>by have:=(h.b.lt q e).2;omega
 have nb:∀ {q:Nat},B≤q→¬q=sb:=fun hq e=>by omega
 refine⟨?_,?_,?_,fun q hq=>⟨fun e=>?_,fun e=>?_⟩,fun q hq e=>?_⟩
 ·rw[zot]
  exact za1 (za1 (za1 (za1 (za1 o1 f2 (fun q hq=>nb (a1 q hq).2.1)) g2 (fun q hq e=>(a1 q hq).1.1 e)) f3 (fun q hq=>nb (a1 q hq).2.1)) g3 (fun q hq e=>(a1 q hq).1.2 e)) f4 (fun q hq=>nb (a1 q hq).2.1)
 ·rw[zot]
  exact za1 (za1 (za1 o2 f3 (fun q hq=>nb (a2 q hq).2.1)) g3 (fun q hq e=>(a2 q hq).1 e)) f4 (fun q hq=>nb (a2 q hq).2.1)
 ·rw[zx1,List.map_append]
  exact za1 o3 f4 (fun q hq=>nb (o3.lt q hq).1)
 ·rcases s2 with s|⟨b,s,hb⟩
  ·exact(a1 q hq).1.1 (by rw[←s];exact e)
  ·rw[e]at s;cases s
   have:=(a1 q hq).2.2;omega
 ·rcases s3 with s|⟨b,s,hb⟩
  ·exact(a1 q hq).1.2 (by rw[←s];exact e)
  ·rw[e]at s;cases s
   have:=(a1 q hq).2.2;omega
 ·rcases s3 with s|⟨b,s,hb⟩
  ·exact(a2 q hq).1 (by rw[←s];exact e)
  ·rw[e]at s;cases s
   have:=(a2 q hq).2.2;omega
end
theorem ztq {F:List PL}(hgd:zbv (i2 F)){k:Nat}(hk:k<F.length):zbv (i2 (zad ((za0 F).getD k 0)))/\zad (canC (zaq (zad ((za0 F).getD k 0))))=zad (xAt F k) ∧
  BookC (zad (xAt F k)) (za0 (zad (xAt F k)))/\0<(zad (xAt F k)).length/\(zad (xAt F k)).length≤120/\(∀x,x<(zad (xAt F k)).length→CanC ((za0 (zad (xAt F k))).getD x 0))/\(za0 (zad (xAt F k))).getD ((zad (xAt F k)).length-1) 0=xAt F k/\∀y∈zad (xAt F k),y.1.length≤1000000/\y.2.length≤1000000:=by
 obtain⟨g1,g2,_,_⟩:=zgs hgd hk rfl;have e:canC (zaq (zad ((za0 F).getD k 0)))=xAt F k:=by rw[g2];rfl
 obtain⟨b1,b2,b3,b4,b5⟩:=yak g1 (xAt F k) e.symm;refine⟨g1,by rw[e],b1,b2,b3,b4,b5,fun y hy=>?_⟩;obtain⟨j,hj,rfl⟩:=List.getElem_of_mem hy;have hx:=List.getElem?_eq_getElem hj
 obtain⟨u1,u2⟩:=b1.up j _ hx;obtain⟨o1,o2⟩:=b1.opts j _ hx;have few:∀L:List Nat,L.Pairwise (· < ·)→(∀i∈L,i<j)→L.length≤120:=fun L hu ho=>by
  have hd:L.Nodup:=hu.imp (fun h=>Nat.ne_of_lt h);have h1:=List.Nodup.length_le_of_subset (l₂:=List.range j) hd (fun i hi=>List.mem_range.2 (ho i hi));rw[List.length_range]at h1;omega
 have h1:=few _ u1 o1;have h2:=few _ u2 o2;omega
set_option maxRecDepth 8000 in
set_option maxHeartbeats 16000000 in
theorem zub {R:Nat→Prop}(nv:Value)(F:List PL)(w:World)(h:NodeL R encN w nv F)(hgd:zbv (i2 F))(ok:Bool)(hok:ok=true↔okTo F F.length) :
  Calls Tryz.prog 42 #[.agg #[nv]] w fun e w'=>zyr F ok w e w':=by
 obtain⟨w1,hw1⟩:∃w1,w1=(w.alloc (.cells #[nv] 31)).alloc (.cells #[.slice none 0 0,.slice none 0 0,.slice none 0 0] 69):=⟨_,rfl⟩;obtain⟨w2,hw2⟩:∃w2,w2=w1.alloc (.cells #[.slice none 0 0,.slice none 0 0,.slice none 0 0] 69):=⟨_,rfl⟩;have f1:Fr NoM w w1:=by rw[hw1];exact((Fr.refl NoM w).alloc _).alloc _
 have hs1:w1.heap.size=w.heap.size+2:=by rw[hw1];simp
 have f2:Fr NoM w1 w2:=by rw[hw2];exact(Fr.refl NoM w1).alloc _
 have hs2:w2.heap.size=w.heap.size+3:=by rw[hw2,World.size_alloc,hs1]
 have e0:w1.heap[w.heap.size]?=some (.cells #[nv] 31 (0,0)):=by rw[hw1];exact((Fr.refl NoM _).alloc _).heap (heap_alloc_new w _) (fun q=>q)
 have e1:w1.heap[w.heap.size+1]?=some (.cells #[.slice none 0 0,.slice none 0 0,.slice none 0 0] 69 (0,0)):=by
  have h:=heap_alloc_new (w.alloc (.cells #[nv] 31)) (.cells #[.slice none 0 0,.slice none 0 0,.slice none 0 0] 69);rw[World.size_alloc]at h;rw[hw1];exact h
 obtain⟨sb,hsb⟩:∃sb,sb=w1.heap.size:=⟨_,rfl⟩;have e2:w2.heap[sb]?=some (.cells #[.slice none 0 0,.slice none 0 0,.slice none 0 0] 69 (0,0)):=by rw[hw2,hsb];exact heap_alloc_new w1 _
 have hss:sb=w.heap.size+2:=by omega
 have hfr:=fun(W:World) (g:Fr (fun q=>q=sb) w2 W)=>((f1.trans f2 (fun _ _ q=>q)).trans g (fun q hq e=>by omega):Fr NoM w W)
 have HFr:=Hh hfr;have HK:=Hh (fun(W:World) (g:Fr (fun q=>q=sb) w2 W)=>show W.cell? ⟨w.heap.size,0,none⟩=some nv from by
  rw[cell_of_row W _ 0 _ _ _ (g.heap (f2.heap e0 (fun q=>q)) (fun e=>by omega))];rfl)
 have HRs:=Hh (fun(W:World) (g:Fr (fun q=>q=sb) w2 W)=>show(W.cell? ⟨w.heap.size+1,0,none⟩=some (.slice none 0 0)/\W.cell? ⟨w.heap.size+1,1,none⟩=some (.slice none 0 0)/\W.cell? ⟨w.heap.size+1,2,none⟩=some (.slice none 0 0))/\W.frozen? ⟨w.heap.size+1,0,none⟩=false/\W.frozen? ⟨w.heap.size+1,1,none⟩=false/\W.frozen? ⟨w.heap.size+1,2,none⟩=false from by
  have h1:=g.heap (f2.heap e1 (fun q=>q)) (fun e=>by omega);exact⟨⟨by rw[cell_of_row W _ 0 _ _ _ h1];rfl,by rw[cell_of_row W _ 1 _ _ _ h1];rfl,by rw[cell_of_row W _ 2 _ _ _ h1];rfl⟩,by simp[World.frozen?,h1],by simp[World.frozen?,h1],by simp[World.frozen?,h1]⟩)
 have HFin:=Hh (fun(W:World) (a b c:Value) (g:Fr (fun q=>q=sb) w2 W)=>((((hfr W g).setCell ⟨w.heap.size+1,0,none⟩ a (fun h=>by have h:w.heap.size+1<w.heap.size:=h;omega)).setCell ⟨w.heap.size+1,1,none⟩ b (fun h=>by have h:w.heap.size+1<w.heap.size:=h;omega)).setCell ⟨w.heap.size+1,2,none⟩ c (fun h=>by have h:w.heap.size+1<w.heap.size:=h;omega):Fr NoM w (((W.setCell ⟨w.heap.size+1,0,none⟩ a).setCell ⟨w.heap.size+1,1,none⟩ b).setCell ⟨w.heap.size+1,2,none⟩ c)));have HN:=Hh (fun(W:World) (g:Fr (fun q=>q=sb) w2 W)=>(h.fr0 (hfr W g):NodeL R encN W nv F));obtain⟨g1,g2,g3,g4,g5,_⟩:=zaz hgd;obtain⟨na,nc,rfl,_,_,hcell⟩:=id h;have HNd:=Hh (fun(k:Nat) (hk:k<F.length)=>show ∃b off lv rv,na=some ⟨b,off,none⟩/\∀W,Fr (fun q=>q=sb) w2 W→W.cell? ⟨b,off+k*2,none⟩=some lv/\W.cell? ⟨b,off+k*2+1,none⟩=some rv/\Nats W lv (za2 F k).1/\Nats W rv (za2 F k).2 from by
  obtain⟨b,off,lv,rv,ha,_,c1,c2,s1,s2,_,_⟩:=hcell k _ (za4 hk);refine⟨b,off,lv,rv,ha,fun W f=>?_⟩;have f':=hfr W f;exact⟨f'.cell c1 (fun q=>q),f'.cell c2 (fun q=>q),SliceOf.fr0 s1 f',SliceOf.fr0 s2 f'⟩)
 have HGd:=Hh hgd;have HOk:=Hh hok;have HBk:=Hh g4.book;have E2:=Hh e2;have Hsb:=Hh (And.intro hs2 hss);have HP:=Hh g1;obtain⟨n,hn⟩:∃n,n=F.length:=⟨_,rfl⟩;have hn120:n≤120:=by omega
 have Hn:=Hh hn;rw[←hn]at hw1 HK HN HNd HOk ⊢;clear h hgd hok g1 g2 g3 g4 g5 hcell f1 f2 hs1 hs2 e0 e1 e2 hfr hn;go_enter Tryz.func42,Tryz.ntmps42;go_upto_region 1 with fail;rw[←hw1];clear hw1;go_upto_region 2 with fail;rw[←hw2,←hsb];clear hw2 hsb hss;go_wp2_with fail;go_loopw [5] (fun v5 W=>∃(k:Nat) (lv rv bv:Value),v5=.int .i64 (k:Int)/\k≤n/\okTo F k/\W.heap[sb]?=some (.cells #[lv,rv,bv] 69 (0,0))/\R10 w2.heap.size W lv rv bv F k/\Fr (fun q=>q=sb) w2 W) (fun v5 _=>n-(intOf v5).toNat)
 case atStart=>exact⟨0,_,_,_,rfl,Nat.zero_le _,(fun k hk=>absurd hk (Nat.not_lt_zero _)),E2.out,R10.start _ _ _,Fr.refl _ _⟩
 case round =>
  obtain⟨k,lv,rv,bv,rfl,hk,hok,hbx,hr,hf⟩:=hrel;obtain⟨w4,rfl⟩:∃w4,w4=wr:=⟨_,rfl⟩;obtain⟨la,lc,hlv,_,_,_⟩:=hr.left;obtain⟨ra,rc,hrv,_,_,_⟩:=hr.right;obtain⟨ba,bc,hbv,_,_,_⟩:=hr.bools;rw[zfp]at hlv hrv;rw[zgv]at hbv;subst hlv hrv hbv;have k0:=HK.out w4 hf;by_cases hlt:k<n
  ·have hkF:k<F.length:=by have:=Hn.out;omega
   obtain⟨p1,p2,b1,b2,b3,b4,b5,b6⟩:=ztq HGd.out hkF;obtain⟨p3,p4,p5,p6,_,_⟩:=zaz p1;have HPt:=Hh (zmg (.slice na n nc) F w4 (HN.out w4 hf) HGd.out k hkF);have HCn:=Hh (fun(W:World) (D:Nat) (v:Value) (hN:NodeL (fun b=>D≤b) encN W v (zad ((za0 F).getD k 0)))=>by
    have h:=zpy v _ W hN p6.opts p5 p3 p4;rw[p2]at h;exact h)
   obtain⟨T1,hT1⟩:∃T1,T1=(valD (xAt F k)).1:=⟨_,rfl⟩;obtain⟨P1,hP1⟩:∃P1,P1=((valD (xAt F k)).2:Int):=⟨_,rfl⟩;obtain⟨g1,hg1⟩:∃g1,g1=valB (xAt F k):=⟨_,rfl⟩;obtain⟨gN,hgN⟩:∃gN,gN=isNB (xAt F k):=⟨_,rfl⟩;have HOf:=Hh (fun(W:World) (D:Nat) (v:Value) (hN:NodeL (fun b=>D≤b) encN W v (zad (xAt F k)))=>zzv b1 v W hN b2 (by omega) b4 T1 P1 g1 (by rw[b5];exact hT1) (by rw[b5];exact hP1) (by rw[b5];exact hg1));have HGm:=Hh (fun(W:World) (D:Nat) (v:Value) (hN:NodeL (fun b=>D≤b) encN W v (zad (xAt F k)))=>zty v (xAt F k) W hN b3 b4 b6 gN hgN);have HVs:=Hh (And.intro hT1 (And.intro hP1 (And.intro hg1 hgN)));have HR:=Hh hr;have HFw:=Hh hf;have HBx:=Hh hbx;have HOkk:=Hh hok;have HKl:=Hh hlt;have HKF:=Hh hkF;have aL:(k:Int)<(n:Int):=by omega
   clear hr hf hbx hok hlt hkF p1 p2 b1 b2 b3 b4 b5 b6 p3 p4 p5 p6 hT1 hP1 hg1 hgN hk;go_wp2_with fail;(with_reducible refine HPt.out.mono ?_);rintro e w5 ⟨v5,rfl,o5,f5⟩;have HC5:=Hh (HCn.out w5 _ v5 o5.nodeL);have F5:=Hh f5;clear o5 f5 k0;go_wp2_with fail;(with_reducible refine HC5.out.mono ?_);rintro e w6 ⟨v6,rfl,n6,f6⟩;obtain⟨W6,hW6⟩:∃W6,W6=w6.alloc (.cells #[v6] 31):=⟨_,rfl⟩;obtain⟨xb,hxb⟩:∃xb,xb=w6.heap.size:=⟨_,rfl⟩;have f66:Fr NoM w6 W6:=by rw[hW6];exact(Fr.refl NoM w6).alloc _
   have e6:W6.heap[xb]?=some (.cells #[v6] 31 (0,0)):=by rw[hW6,hxb];exact heap_alloc_new w6 _
   have n66:=n6.fr0 f66;have x0:W6.cell? ⟨xb,0,none⟩=some v6:=by rw[cell_of_row W6 _ 0 _ _ _ e6];rfl
   have E6:=Hh e6;have N6:=Hh n66;have HO6:=Hh (HOf.out W6 _ v6 n66);have F6:=Hh ((F5.out.trans f6 (fun _ _ q=>q)).trans f66 (fun _ _ q=>q));clear f6 f66 n6 n66 e6;obtain⟨a6,c6,rfl⟩:∃a c,v6=.slice a (zad (xAt F k)).length c:=by obtain⟨a,c,e,_⟩:=N6.out;exact⟨a,c,e⟩
   go_upto_region 6 with fail;rw[←hW6,←hxb];clear hW6 hxb;go_wp2_with fail;(with_reducible refine HO6.out.mono ?_);rintro e w7 ⟨rfl,f7⟩;obtain⟨W7,hW7⟩:∃W7,W7=w7.alloc (.cells #[.int .i64 T1,.int .i64 P1] 43):=⟨_,rfl⟩;obtain⟨db,hdb⟩:∃db,db=w7.heap.size:=⟨_,rfl⟩;have f77:Fr NoM w7 W7:=by rw[hW7];exact(Fr.refl NoM w7).alloc _
   have e7:W7.heap[db]?=some (.cells #[.int .i64 T1,.int .i64 P1] 43 (0,0)):=by rw[hW7,hdb];exact heap_alloc_new w7 _
   have f67:=f7.trans f77 (fun _ _ q=>q);have HX:=Hh (fun(W:World) (g:Fr NoM W7 W)=>show W.cell? ⟨xb,0,none⟩=some (.slice a6 (zad (xAt F k)).length c6)/\W.cell? ⟨db,0,none⟩=some (.int .i64 T1)/\W.cell? ⟨db,1,none⟩=some (.int .i64 P1)from by
    have h1:=g.heap (f67.heap E6.out (fun q=>q)) (fun q=>q);have h2:=g.heap e7 (fun q=>q);exact⟨by rw[cell_of_row W _ 0 _ _ _ h1];rfl,by rw[cell_of_row W _ 0 _ _ _ h2];rfl,by rw[cell_of_row W _ 1 _ _ _ h2];rfl⟩)
   have HG7:=Hh (HGm.out W7 _ _ (N6.out.fr0 f67));have F7:=Hh (F6.out.trans f67 (fun _ _ q=>q));clear f7 f77 e7 f67 x0;go_upto_region 7 with fail;rw[←hW7,←hdb];clear hW7 hdb;obtain⟨x0,x1,x2⟩:=HX.out W7 (Fr.refl _ _);cases g1 with
   | true =>
    have HVb:=Hh (show valB (xAt F k)=true from HVs.out.2.2.1.symm);go_upto_region 9 with fail;have FV:=Hh (Fr.refl NoM W7);have X11:=fun o=>(HX.out (W7.alloc o) (FV.out.alloc o)).2.1
    have X12:=fun o=>(HX.out (W7.alloc o) (FV.out.alloc o)).2.2
    have X21:=fun o o2=>(HX.out ((W7.alloc o).alloc o2) ((FV.out.alloc o).alloc o2)).2.1
    have X22:=fun o o2=>(HX.out ((W7.alloc o).alloc o2) ((FV.out.alloc o).alloc o2)).2.2
    go_cut [9,10]from 35 to 36 (fun a b wx=>∃(A Bk:Nat),a=.pointer (some ⟨A,0,none⟩)/\b=.pointer (some ⟨Bk,0,none⟩)/\Fr NoM W7 wx/\(W7.heap.size≤A/\W7.heap.size≤Bk/\A≠Bk)/\wx.heap[A]?=some (.cells #[.int .i64 T1,.int .i64 P1] 43 (0,0))/\wx.heap[Bk]?=some (.cells #[.int .i64 T1,.int .i64 P1] 43 (0,0)))
    case first =>
     go_region
     ·go_wp2_with fail
      go_meet
      case rel=>exact⟨W7.heap.size,W7.heap.size+1,rfl,rfl,(((Fr.refl NoM W7).alloc _).alloc _).drew,⟨Nat.le_refl _,Nat.le_succ _,by omega⟩,(((Fr.refl NoM _).alloc _).drew).heap (heap_alloc_new W7 _) (fun q=>q),((Fr.refl NoM _).drew).heap (by have h:=heap_alloc_new (W7.alloc (.cells #[.int .i64 T1,.int .i64 P1] 43)) (.cells #[.int .i64 T1,.int .i64 P1] 43);rw[World.size_alloc]at h;exact h) (fun q=>q)⟩
     ·go_wp2_with fail
      go_meet
      case rel=>exact⟨W7.heap.size+1,W7.heap.size,rfl,rfl,(((Fr.refl NoM W7).alloc _).alloc _).drew,⟨Nat.le_succ _,Nat.le_refl _,by omega⟩,((Fr.refl NoM _).drew).heap (by have h:=heap_alloc_new (W7.alloc (.cells #[.int .i64 T1,.int .i64 P1] 43)) (.cells #[.int .i64 T1,.int .i64 P1] 43);rw[World.size_alloc]at h;exact h) (fun q=>q),(((Fr.refl NoM _).alloc _).drew).heap (heap_alloc_new W7 _) (fun q=>q)⟩
    case rest =>
     obtain⟨A,Bk,rfl,rfl,gd,hAB,eA,eB⟩:=hcut;obtain⟨Wd,rfl⟩:∃Wd,Wd=wc:=⟨_,rfl⟩;have EA:=Hh eA;have EB:=Hh eB;have KD:=Hh ((F7.out.trans FV.out (fun _ _ q=>q)).trans gd (fun _ _ q=>q));have HAB:=Hh (show w4.heap.size≤A/\w4.heap.size≤Bk/\A≠Bk from by have h1:=F7.out.size;have h2:=FV.out.size;omega);clear gd hAB eA eB X11 X12 X21 X22 x0 x1 x2;have HSL:=Hh (show sL F k=(T1,(valD (xAt F k)).2)/\sR F k=(T1,(valD (xAt F k)).2)/\isNB (xAt F k)=true/\P1=((valD (xAt F k)).2:Int)from by
      have hn:=zfu HVb.out;obtain⟨a,b⟩:=zva hn;obtain⟨t1,t2,_⟩:=HVs.out;rw[t1];exact⟨a,b,hn,t2⟩)
     go_upto_region 13 with fail;have HOn:=Hh (show okTo F (k+1)from HOkk.out.next (fun _=>HVb.out));have HV3:=Hh (show T1=(sL F k).1/\P1=((sL F k).2:Int)/\T1=(sR F k).1/\P1=((sR F k).2:Int)/\true=isNB (xAt F k)from by
      obtain⟨a,b,c,d⟩:=HSL.out;rw[a,b,c];exact⟨rfl,d,rfl,d,rfl⟩)
     have KZ:=Hh (KD.out.any (M:=fun q=>w4.heap.size≤q));have RT:=Hh (HR.out.fr KZ.out (fun q hq=>.inr hq));have HSL:=Hh (show sb<w2.heap.size/\w2.heap.size≤w4.heap.size/\w4.heap.size≤Wd.heap.size from by obtain⟨a,b⟩:=Hsb.out;have:=HFw.out.size;have:=KZ.out.size;omega);have hb0:=KZ.out.heap HBx.out (fun q=>by have h2:=HSL.out;have q:w4.heap.size≤sb:=q;omega);have s0:Wd.cell? ⟨sb,0,none⟩=some (.slice la k lc):=by rw[cell_of_row Wd _ 0 _ _ _ hb0];rfl
     have a0:Wd.cell? ⟨A,0,none⟩=some (.int .i64 T1):=by rw[cell_of_row Wd _ 0 _ _ _ EA.out];rfl
     have a1:Wd.cell? ⟨A,1,none⟩=some (.int .i64 P1):=by rw[cell_of_row Wd _ 1 _ _ _ EA.out];rfl
     have HB0:=Hh hb0;have HBd:=Hh (show(k+1)*16≤140737488355328 by have h1:=HKl.out;omega);have HBb:=Hh (show(k+1)*1≤140737488355328 by have h1:=HKl.out;omega);have FT:=Hh (show Fr (fun q=>q=sb) w2 Wd from HFw.out.trans KZ.out (fun q hq e=>by have h2:=HSL.out;have e:w4.heap.size≤q:=e;omega));clear hb0;go_wp2_with (at_builtin;refine za8 rfl _ _ 66 rfl w2.heap.size 43 _ 2 16 Tryz.underlying66 zmk rfl (by decide) (.slice la k lc) k (zau (dyL (sL F) k)) rfl (by exact za1 RT.out.l ((Fr.refl NoM Wd).alloc _) (fun _ _ q=>q)) Wd.heap.size rfl [.int .i64 T1,.int .i64 P1] 43 (heap_alloc_new Wd _) rfl (by intro u hu;simp at hu;rcases hu with rfl|rfl <;> rfl) HBd.out (by decide) (by have:=HSL.out;simp;omega) ?_);intro lv0 u1 h1 j1 t1;obtain⟨gl,cl,hlv0,_,_⟩:=zbr h1 (Nat.succ_pos _);subst hlv0;have H1:=Hh h1;have J1:=Hh j1;have Q1:=Hh t1;have nl:¬Own1 (.slice la k lc) sb:=fun e=>by have h:=(RT.out.l.lt sb e).1;have:=HSL.out;omega
     have hb1:=j1.heap (((Fr.refl NoM Wd).alloc (.cells #[.int .i64 T1,.int .i64 P1] 43)).heap HB0.out (fun q=>q)) nl;have z1:u1.frozen? ⟨sb,0,none⟩=false:=by simp[World.frozen?,hb1]
     have zz1:u1.cell? ⟨sb,0,none⟩=some (.slice la k lc):=by rw[cell_of_row u1 _ 0 _ _ _ hb1];rfl
     have HB1:=Hh (show(u1.setCell ⟨sb,0,none⟩ (.slice (some ⟨gl,0,none⟩) (k+1) cl)).heap[sb]?=some (.cells #[(.slice (some ⟨gl,0,none⟩) (k+1) cl),(.slice ra k rc),(.slice ba k bc)] 69 (0,0))by rw[heap_set hb1];rfl);have EB1:=Hh (show(u1.setCell ⟨sb,0,none⟩ (.slice (some ⟨gl,0,none⟩) (k+1) cl)).heap[Bk]?=some (.cells #[.int .i64 T1,.int .i64 P1] 43 (0,0))from((Fr.refl _ u1).setCell (M:=fun q=>q=sb) _ _ (fun _=>rfl)).heap (j1.heap (((Fr.refl NoM Wd).alloc (.cells #[.int .i64 T1,.int .i64 P1] 43)).heap EB.out (fun q=>q)) (fun e=>by
      have h1:=(HR.out.l.lt Bk e).2;have h2:=HAB.out.2.1;omega)) (fun e=>by have h1:=HAB.out.2.1;have h2:=HSL.out;omega))
     clear h1 j1 t1 hb1 nl s0 a0 a1;go_upto_region 14 with fail;obtain⟨U1,hU1⟩:∃U1,U1=u1.setCell ⟨sb,0,none⟩ (.slice (some ⟨gl,0,none⟩) (k+1) cl):=⟨_,rfl⟩;rw[←hU1];rw[←hU1]at HB1 EB1;have FU1:=Hh (show Fr (fun q=>q=sb) u1 U1 by rw[hU1];exact(Fr.refl _ u1).setCell _ _ (fun _=>rfl));have s1:U1.cell? ⟨sb,1,none⟩=some (.slice ra k rc):=by rw[cell_of_row U1 _ 1 _ _ _ HB1.out];rfl
     have b0:U1.cell? ⟨Bk,0,none⟩=some (.int .i64 T1):=by rw[cell_of_row U1 _ 0 _ _ _ EB1.out];rfl
     have b1:U1.cell? ⟨Bk,1,none⟩=some (.int .i64 P1):=by rw[cell_of_row U1 _ 1 _ _ _ EB1.out];rfl
     have HRr:=Hh (show U1.ownsRow w2.heap.size 43 2 (.slice ra k rc) k (zau (dyL (sR F) k))from za1 (za1 (za1 RT.out.r ((Fr.refl NoM Wd).alloc (.cells #[.int .i64 T1,.int .i64 P1] 43)) (fun _ _ q=>q)) J1.out (fun q hq e=>(RT.out.sl q e).1 hq)) FU1.out (fun q hq e=>by have h:=(RT.out.r.lt q hq).1;have:=HSL.out;have e:q=sb:=e;omega));have HSU:=Hh (show Wd.heap.size≤U1.heap.size from by have h1:=J1.out.size;have h2:=FU1.out.size;simp at h1;omega);clear hU1 z1 zz1;go_wp2_with (at_builtin;refine za8 rfl _ _ 66 rfl w2.heap.size 43 _ 2 16 Tryz.underlying66 zmk rfl (by decide) (.slice ra k rc) k (zau (dyL (sR F) k)) rfl (by exact za1 HRr.out ((Fr.refl NoM U1).alloc _) (fun _ _ q=>q)) U1.heap.size rfl [.int .i64 T1,.int .i64 P1] 43 (heap_alloc_new U1 _) rfl (by intro u hu;simp at hu;rcases hu with rfl|rfl <;> rfl) HBd.out (by decide) (by have:=HSL.out;have:=HSU.out;simp;omega) ?_);intro rv0 u2 h2 j2 t2;obtain⟨gr,cr,hrv0,_,_⟩:=zbr h2 (Nat.succ_pos _);subst hrv0;have H2:=Hh h2;have J2:=Hh j2;have Q2:=Hh t2;have nr:¬Own1 (.slice ra k rc) sb:=fun e=>by have h:=(HRr.out.lt sb e).1;have:=HSL.out;omega
     have hb2:=j2.heap (((Fr.refl NoM U1).alloc (.cells #[.int .i64 T1,.int .i64 P1] 43)).heap HB1.out (fun q=>q)) nr;have z2:u2.frozen? ⟨sb,1,none⟩=false:=by simp[World.frozen?,hb2]
     have zz2:u2.cell? ⟨sb,1,none⟩=some (.slice ra k rc):=by rw[cell_of_row u2 _ 1 _ _ _ hb2];rfl
     have HB2:=Hh (show(u2.setCell ⟨sb,1,none⟩ (.slice (some ⟨gr,0,none⟩) (k+1) cr)).heap[sb]?=some (.cells #[(.slice (some ⟨gl,0,none⟩) (k+1) cl),(.slice (some ⟨gr,0,none⟩) (k+1) cr),(.slice ba k bc)] 69 (0,0))by rw[heap_set hb2];rfl);clear h2 j2 t2 hb2 nr s1 b0 b1;go_upto_region 15 with fail;obtain⟨U2,hU2⟩:∃U2,U2=u2.setCell ⟨sb,1,none⟩ (.slice (some ⟨gr,0,none⟩) (k+1) cr):=⟨_,rfl⟩;rw[←hU2];rw[←hU2]at HB2;have FU2:=Hh (show Fr (fun q=>q=sb) u2 U2 by rw[hU2];exact(Fr.refl _ u2).setCell _ _ (fun _=>rfl));have s2:U2.cell? ⟨sb,2,none⟩=some (.slice ba k bc):=by rw[cell_of_row U2 _ 2 _ _ _ HB2.out];rfl
     have HRb:=Hh (show U2.ownsRow w2.heap.size 4 1 (.slice ba k bc) k ((numL F k).map encB)from za1 (za1 (za1 (za1 (za1 (za1 RT.out.b ((Fr.refl NoM Wd).alloc (.cells #[.int .i64 T1,.int .i64 P1] 43)) (fun _ _ q=>q)) J1.out (fun q hq e=>(RT.out.sl q e).2 hq)) FU1.out (fun q hq e=>by have h:=(RT.out.b.lt q hq).1;have:=HSL.out;have e:q=sb:=e;omega)) ((Fr.refl NoM U1).alloc (.cells #[.int .i64 T1,.int .i64 P1] 43)) (fun _ _ q=>q)) J2.out (fun q hq e=>RT.out.sr q e hq)) FU2.out (fun q hq e=>by have h:=(RT.out.b.lt q hq).1;have:=HSL.out;have e:q=sb:=e;omega));have HSV:=Hh (show U1.heap.size≤U2.heap.size from by have h1:=J2.out.size;have h2:=FU2.out.size;simp at h1;omega);clear hU2 z2 zz2;go_wp2_with (at_builtin;refine za8 rfl _ _ 67 rfl w2.heap.size 4 _ 1 1 Tryz.underlying67 zbh rfl (by decide) (.slice ba k bc) k ((numL F k).map encB) rfl (by exact za1 HRb.out ((Fr.refl NoM U2).alloc _) (fun _ _ q=>q)) U2.heap.size rfl [.bool true] 4 (heap_alloc_new U2 _) rfl (by intro u hu;simp at hu;subst hu;rfl) HBb.out (by decide) (by have:=HSL.out;have:=HSU.out;have:=HSV.out;simp;omega) ?_);intro bv0 u3 h3 j3 t3;obtain⟨gb,cb,hbv0,_,_⟩:=zbr h3 (Nat.succ_pos _);subst hbv0;have H3:=Hh h3;have J3:=Hh j3;have Q3:=Hh t3;have nbb:¬Own1 (.slice ba k bc) sb:=fun e=>by have h:=(HRb.out.lt sb e).1;have:=HSL.out;omega
     have hb3:=j3.heap (((Fr.refl NoM U2).alloc (.cells #[.bool true] 4)).heap HB2.out (fun q=>q)) nbb;have z3:u3.frozen? ⟨sb,2,none⟩=false:=by simp[World.frozen?,hb3]
     have zz3:u3.cell? ⟨sb,2,none⟩=some (.slice ba k bc):=by rw[cell_of_row u3 _ 2 _ _ _ hb3];rfl
     have HB3:=Hh (show(u3.setCell ⟨sb,2,none⟩ (.slice (some ⟨gb,0,none⟩) (k+1) cb)).heap[sb]?=some (.cells #[(.slice (some ⟨gl,0,none⟩) (k+1) cl),(.slice (some ⟨gr,0,none⟩) (k+1) cr),(.slice (some ⟨gb,0,none⟩) (k+1) cb)] 69 (0,0))by rw[heap_set hb3];rfl);clear h3 j3 t3 hb3 nbb s2;go_wp2;go_roundw
     case rel =>
      obtain⟨v1,v2,v3,v4,v5⟩:=HV3.out;have hkl:=HKl.out;have fu3:Fr (fun q=>q=sb) u3 (u3.setCell ⟨sb,2,none⟩ (.slice (some ⟨gb,0,none⟩) (k+1) cb)):=(Fr.refl _ u3).setCell _ _ (fun _=>rfl);have hn:=RT.out.next (sb:=sb) HSL.out.1 ((Fr.refl NoM Wd).alloc (.cells #[.int .i64 T1,.int .i64 P1] 43)) J1.out (by rw[←v1,←v2];exact H1.out) (by rw[World.size_alloc];exact Q1.out) (FU1.out.trans ((Fr.refl NoM U1).alloc (.cells #[.int .i64 T1,.int .i64 P1] 43)) (fun _ _ q=>q.elim)) J2.out (by rw[←v3,←v4];exact H2.out) (by rw[World.size_alloc];exact Q2.out) (FU2.out.trans ((Fr.refl NoM U2).alloc (.cells #[.bool true] 4)) (fun _ _ q=>q.elim)) J3.out (by rw[←v5];exact H3.out) (by rw[World.size_alloc];exact Q3.out) fu3
      have low:∀ {v:Value}{e:TypeId}{s m:Nat}{xs:List Value}{W W':World},W.ownsRow w2.heap.size e s v m xs→Fr (Own1 v) W W'→Fr (fun q=>q=sb) w2 W→Fr (fun q=>q=sb) w2 W':=fun ho hf hg=>hg.trans hf (fun q hq e=>absurd (ho.lt q e).1 (by omega))
      have k1:=low (za1 RT.out.l ((Fr.refl NoM Wd).alloc (.cells #[.int .i64 T1,.int .i64 P1] 43)) (fun _ _ q=>q)) J1.out (FT.out.trans ((Fr.refl NoM Wd).alloc _) (fun _ _ q=>q.elim));have k2:=low (za1 HRr.out ((Fr.refl NoM U1).alloc (.cells #[.int .i64 T1,.int .i64 P1] 43)) (fun _ _ q=>q)) J2.out ((k1.trans FU1.out (fun _ _ q=>q)).trans ((Fr.refl NoM U1).alloc _) (fun _ _ q=>q.elim));have k3:=low (za1 HRb.out ((Fr.refl NoM U2).alloc (.cells #[.bool true] 4)) (fun _ _ q=>q)) J3.out ((k2.trans FU2.out (fun _ _ q=>q)).trans ((Fr.refl NoM U2).alloc _) (fun _ _ q=>q.elim));exact⟨k+1,(.slice (some ⟨gl,0,none⟩) (k+1) cl),(.slice (some ⟨gr,0,none⟩) (k+1) cr),(.slice (some ⟨gb,0,none⟩) (k+1) cb),by go_num,by omega,HOn.out,HB3.out,hn,k3.trans fu3 (fun _ _ q=>q)⟩
     case measure=>have hkl:=HKl.out;simp[intOf];omega
   | false =>
    go_wp2_with fail;(with_reducible refine HG7.out.mono ?_);rintro e w8 ⟨rfl,f8⟩;have F8:=Hh f8;cases gN with
    | true =>
     have hno:ok=false:=by
      cases hc:ok with
      | false=>rfl
      | true =>
       have h1:=HOk.out.1 hc k HKl.out HVs.out.2.2.2.symm;rw[←HVs.out.2.2.1]at h1;cases h1
     subst hno;have F48:=Hh (F7.out.trans F8.out (fun _ _ q=>q));have G8:=Hh (HFw.out.trans F48.out (fun _ _ q=>q.elim));have h4:=F48.out.heap HBx.out (fun q=>q);have s0:w8.cell? ⟨sb,0,none⟩=some (.slice la k lc):=by rw[cell_of_row w8 _ 0 _ _ _ h4];rfl
     have s1:w8.cell? ⟨sb,1,none⟩=some (.slice ra k rc):=by rw[cell_of_row w8 _ 1 _ _ _ h4];rfl
     have s2:w8.cell? ⟨sb,2,none⟩=some (.slice ba k bc):=by rw[cell_of_row w8 _ 2 _ _ _ h4];rfl
     obtain⟨⟨r0,r1,r2⟩,r3,r4,r5⟩:=HRs.out w8 G8.out;have HM:=Hh (HFin.out w8 (.slice la k lc) (.slice ra k rc) (.slice ba k bc) G8.out);clear h4 f8 x0 x1 x2;go_wp2_with fail;refine bodyPost_ret (v:=.tuple #[.agg #[(.slice la k lc),(.slice ra k rc),(.slice ba k bc)],.bool false]) (by simp[results,Tryz.results42,go_sem,r0,r1,r2,r3,r4,r5]) rfl ?_
     exact⟨_,_,_,_,_,_,_,_,_,rfl,(fun e=>by cases e),fun q hq=>(by have h1:=(HR.out.l.lt q hq).1;have h2:=Hsb.out.1;omega),fun q hq=>(by have h1:=(HR.out.r.lt q hq).1;have h2:=Hsb.out.1;omega),HM.out⟩
    | false =>
     have hno:isNB (xAt F k)=false:=HVs.out.2.2.2.symm;have hoN:isNB (xAt F k)=true→valB (xAt F k)=true:=fun q=>(by rw[hno]at q;cases q)
     have HOn:=Hh (show okTo F (k+1)from HOkk.out.next hoN);have HNo:=Hh hno;obtain⟨x0,x1,x2⟩:=HX.out w8 f8;clear f8 hno hoN;go_upto_region 9 with fail;have FV:=Hh (show Fr NoM W7 w8 from F8.out);have X11:=fun o=>(HX.out (w8.alloc o) (FV.out.alloc o)).2.1
     have X12:=fun o=>(HX.out (w8.alloc o) (FV.out.alloc o)).2.2
     have X21:=fun o o2=>(HX.out ((w8.alloc o).alloc o2) ((FV.out.alloc o).alloc o2)).2.1
     have X22:=fun o o2=>(HX.out ((w8.alloc o).alloc o2) ((FV.out.alloc o).alloc o2)).2.2
     go_cut [9,10]from 35 to 36 (fun a b wx=>∃(A Bk:Nat),a=.pointer (some ⟨A,0,none⟩)/\b=.pointer (some ⟨Bk,0,none⟩)/\Fr NoM w8 wx/\(w8.heap.size≤A/\w8.heap.size≤Bk/\A≠Bk)/\wx.heap[A]?=some (.cells #[.int .i64 T1,.int .i64 P1] 43 (0,0))/\wx.heap[Bk]?=some (.cells #[.int .i64 T1,.int .i64 P1] 43 (0,0)))
     case first =>
      go_region
      ·go_wp2_with fail
       go_meet
       case rel=>exact⟨w8.heap.size,w8.heap.size+1,rfl,rfl,(((Fr.refl NoM w8).alloc _).alloc _).drew,⟨Nat.le_refl _,Nat.le_succ _,by omega⟩,(((Fr.refl NoM _).alloc _).drew).heap (heap_alloc_new w8 _) (fun q=>q),((Fr.refl NoM _).drew).heap (by have h:=heap_alloc_new (w8.alloc (.cells #[.int .i64 T1,.int .i64 P1] 43)) (.cells #[.int .i64 T1,.int .i64 P1] 43);rw[World.size_alloc]at h;exact h) (fun q=>q)⟩
      ·go_wp2_with fail
       go_meet
       case rel=>exact⟨w8.heap.size+1,w8.heap.size,rfl,rfl,(((Fr.refl NoM w8).alloc _).alloc _).drew,⟨Nat.le_succ _,Nat.le_refl _,by omega⟩,((Fr.refl NoM _).drew).heap (by have h:=heap_alloc_new (w8.alloc (.cells #[.int .i64 T1,.int .i64 P1] 43)) (.cells #[.int .i64 T1,.int .i64 P1] 43);rw[World.size_alloc]at h;exact h) (fun q=>q),(((Fr.refl NoM _).alloc _).drew).heap (heap_alloc_new w8 _) (fun q=>q)⟩
     case rest =>
      obtain⟨A,Bk,rfl,rfl,gd,hAB,eA,eB⟩:=hcut;obtain⟨Wd,rfl⟩:∃Wd,Wd=wc:=⟨_,rfl⟩;have EA:=Hh eA;have EB:=Hh eB;have KD:=Hh ((F7.out.trans FV.out (fun _ _ q=>q)).trans gd (fun _ _ q=>q));have HAB:=Hh (show w4.heap.size≤A/\w4.heap.size≤Bk/\A≠Bk from by have h1:=F7.out.size;have h2:=FV.out.size;omega);clear gd hAB eA eB X11 X12 X21 X22 x0 x1 x2;have hk9:=HKl.out;obtain⟨n1,n2⟩:=zps HBk.out rfl HKF.out HNo.out;obtain⟨o1,o2⟩:=HBk.out.opts k _ (za4 HKF.out);have gs:=zmm HBk.out.opts (Nat.le_of_lt HKF.out) HOkk.out;obtain⟨eL,eR⟩:=s_no HNo.out ⟨o1,o2⟩;obtain⟨nb,no,lw,rw',ha,hcc⟩:=HNd.out k hk9;obtain⟨c1,c2,m1,m2⟩:=hcc w4 HFw.out;have ix:=zb7 na n nc k nb no hk9 ha;obtain⟨TL,hTL⟩:∃T,T=(sL F k).1:=⟨_,rfl⟩;obtain⟨PL',hPL⟩:∃T:Int,T=((sL F k).2:Int):=⟨_,rfl⟩;obtain⟨TR,hTR⟩:∃T,T=(sR F k).1:=⟨_,rfl⟩;obtain⟨PR,hPR⟩:∃T:Int,T=((sR F k).2:Int):=⟨_,rfl⟩;have HBl:=Hh (fun(W:World) (g:Fr NoM w4 W)=>zkn (.slice ra k rc) lw (sR F) k (za2 F k).1 true W (HR.out.fr0 g).right (SliceOf.fr0 m1 g) n1 o1 (fun i hi=>(gs i hi).2) TL PL' (by rw[←eL];exact hTL) (by rw[←eL];exact hPL));have HBr:=Hh (fun(W:World) (X:Nat→Prop) (hX:∀q,X q→w4.heap.size≤q) (g:Fr X w4 W)=>zkn (.slice la k lc) rw' (sL F) k (za2 F k).2 false W (HR.out.fr g (fun q hq=>.inr (hX q hq))).left (m2.keep fun _ b _ hl=>g.block b hl (fun q=>by have h1:=hX _ q;omega)) n2 o2 (fun i hi=>(gs i hi).1) TR PR (by rw[←eR];exact hTR) (by rw[←eR];exact hPR));have HSL:=Hh (show sb<w2.heap.size/\w2.heap.size≤w4.heap.size/\w.heap.size<w2.heap.size from by obtain⟨a,b⟩:=Hsb.out;have:=HFw.out.size;omega);have HCl:=Hh (fun(X:Nat→Prop) (W:World) (g:Fr X w4 W) (hX:∀q,X q→w4.heap.size≤q)=>show(W.cell? ⟨sb,0,none⟩=some (.slice la k lc)/\W.cell? ⟨sb,1,none⟩=some (.slice ra k rc)/\W.cell? ⟨w.heap.size,0,none⟩=some (.slice na n nc))/\W.cell? ⟨nb,no+k*2,none⟩=some lw/\W.cell? ⟨nb,no+k*2+1,none⟩=some rw' from by
       have h4:=g.heap HBx.out (fun q=>by have h1:=hX _ q;have h2:=HSL.out;omega);have nx:∀ {b:Nat},b<w4.heap.size→¬X b:=fun hb q=>by have:=hX _ q;omega
       exact⟨⟨by rw[cell_of_row W _ 0 _ _ _ h4];rfl,by rw[cell_of_row W _ 1 _ _ _ h4];rfl,g.cell (HK.out w4 HFw.out) (nx (b:=w.heap.size) (by have:=HSL.out;omega))⟩,g.cell c1 (nx (World.block_lt_of_cell? w4 _ c1)),g.cell c2 (nx (World.block_lt_of_cell? w4 _ c2))⟩)
      have HTs:=Hh (And.intro hTL (And.intro hPL (And.intro hTR hPR)));clear n1 n2 o1 o2 gs eL eR hcc m1 m2 ha hTL hPL hTR hPR hk9 c1 c2;go_upto_region 11 with fail;obtain⟨⟨k1,k2,k3⟩,k4,k5⟩:=HCl.out NoM Wd KD.out (fun q h=>h.elim);go_still_tail 8,(by kernel_rfl);change wpList _ _ _ _ _ Wd.drew
      have KDd:=Hh (KD.out.trans ((Fr.refl NoM Wd).drew) (fun _ _ q=>q));clear k1 k2 k3 k4 k5;go_wp2_with fail;(with_reducible refine(HBl.out _ KDd.out).mono ?_);rintro e w9 ⟨rfl,f9⟩;have K9:=Hh (KDd.out.trans f9 (fun _ _ q=>q));have fd9:Fr NoM Wd w9:=((Fr.refl NoM Wd).drew).trans f9 (fun _ _ q=>q);have eA:=fd9.heap EA.out (fun q=>q);have zA:w9.frozen? ⟨A,0,none⟩=false:=by simp[World.frozen?,eA]
      have zA1:w9.frozen? ⟨A,1,none⟩=false:=by simp[World.frozen?,eA]
      have zA2:w9.cell? ⟨A,0,none⟩=some (.int .i64 T1):=by rw[cell_of_row w9 _ 0 _ _ _ eA];rfl
      have zA3:w9.cell? ⟨A,1,none⟩=some (.int .i64 P1):=by rw[cell_of_row w9 _ 1 _ _ _ eA];rfl
      have EB9:=Hh (fd9.heap EB.out (fun q=>q));have EA9:=Hh eA;clear f9 fd9 eA;go_upto_region 12 with fail;obtain⟨W10,hW10⟩:∃W10,W10=(w9.setCell ⟨A,0,none⟩ (.int .i64 TL)).setCell ⟨A,1,none⟩ (.int .i64 PL'):=⟨_,rfl⟩;rw[←hW10];have EA10:=Hh (show W10.heap[A]?=some (.cells #[.int .i64 TL,.int .i64 PL'] 43 (0,0))by rw[hW10,heap_set (heap_set EA9.out _)];rfl);have K10:=Hh (show Fr (fun q=>q=A) w4 W10 by rw[hW10];exact((K9.out.any (M:=fun q=>q=A)).setCell _ _ (fun _=>rfl)).setCell _ _ (fun _=>rfl));have EB10:=Hh (show W10.heap[Bk]?=some (.cells #[.int .i64 T1,.int .i64 P1] 43 (0,0))from(show Fr (fun q=>q=A) w9 W10 by rw[hW10];exact Fr.setCell (M:=fun q=>q=A) (Fr.setCell (M:=fun q=>q=A) (Fr.refl _ w9) _ _ (fun _=>rfl)) _ _ (fun _=>rfl)).heap EB9.out (fun e=>HAB.out.2.2 e.symm));clear hW10 zA zA1 zA2 zA3;have hA4:∀q,q=A→w4.heap.size≤q:=fun q e=>by rw[e];exact HAB.out.1
      obtain⟨⟨k1,k2,k3⟩,k4,k5⟩:=HCl.out _ W10 K10.out hA4;go_still_tail 8,(by kernel_rfl);change wpList _ _ _ _ _ W10.drew
      have KDe:=Hh (K10.out.trans ((Fr.refl NoM W10).drew) (fun _ _ q=>q.elim));have HA4:=Hh hA4;clear k1 k2 k3 k4 k5 ix hA4;go_wp2_with fail;(with_reducible refine(HBr.out _ _ HA4.out KDe.out).mono ?_);rintro e w11 ⟨rfl,f11⟩;have K11:=Hh (KDe.out.trans f11 (fun _ _ q=>q.elim));have fd11:Fr NoM W10 w11:=((Fr.refl NoM W10).drew).trans f11 (fun _ _ q=>q);have eB:=fd11.heap EB10.out (fun q=>q);have zB:w11.frozen? ⟨Bk,0,none⟩=false:=by simp[World.frozen?,eB]
      have zB1:w11.frozen? ⟨Bk,1,none⟩=false:=by simp[World.frozen?,eB]
      have zB2:w11.cell? ⟨Bk,0,none⟩=some (.int .i64 T1):=by rw[cell_of_row w11 _ 0 _ _ _ eB];rfl
      have zB3:w11.cell? ⟨Bk,1,none⟩=some (.int .i64 P1):=by rw[cell_of_row w11 _ 1 _ _ _ eB];rfl
      have EA11:=Hh (fd11.heap EA10.out (fun q=>q));have EB11:=Hh eB;clear f11 fd11 eB;go_upto_region 13 with fail;obtain⟨W12,hW12⟩:∃W12,W12=(w11.setCell ⟨Bk,0,none⟩ (.int .i64 TR)).setCell ⟨Bk,1,none⟩ (.int .i64 PR):=⟨_,rfl⟩;rw[←hW12];have EB:=Hh (show W12.heap[Bk]?=some (.cells #[.int .i64 TR,.int .i64 PR] 43 (0,0))by rw[hW12,heap_set (heap_set EB11.out _)];rfl);have EA:=Hh (show W12.heap[A]?=some (.cells #[.int .i64 TL,.int .i64 PL'] 43 (0,0))from(show Fr (fun q=>q=Bk) w11 W12 by rw[hW12];exact Fr.setCell (M:=fun q=>q=Bk) (Fr.setCell (M:=fun q=>q=Bk) (Fr.refl _ w11) _ _ (fun _=>rfl)) _ _ (fun _=>rfl)).heap EA11.out (fun e=>HAB.out.2.2 e));have KZ:=Hh (show Fr (fun q=>w4.heap.size≤q) w4 W12 by rw[hW12];exact((K11.out.mono (fun q _ e=>HA4.out q e)).setCell _ _ (fun _=>HAB.out.2.1)).setCell _ _ (fun _=>HAB.out.2.1));have HV3:=Hh (show TL=(sL F k).1/\PL'=((sL F k).2:Int)/\TR=(sR F k).1/\PR=((sR F k).2:Int)/\false=isNB (xAt F k)from by
       obtain⟨a,b,c,d⟩:=HTs.out;exact⟨a,b,c,d,HNo.out.symm⟩)
      clear hW12 zB zB1 zB2 zB3;have RT:=Hh (HR.out.fr KZ.out (fun q hq=>.inr hq));have HSL:=Hh (show sb<w2.heap.size/\w2.heap.size≤w4.heap.size/\w4.heap.size≤W12.heap.size from by obtain⟨a,b⟩:=Hsb.out;have:=HFw.out.size;have:=KZ.out.size;omega);have hb0:=KZ.out.heap HBx.out (fun q=>by have h2:=HSL.out;have q:w4.heap.size≤sb:=q;omega);have s0:W12.cell? ⟨sb,0,none⟩=some (.slice la k lc):=by rw[cell_of_row W12 _ 0 _ _ _ hb0];rfl
      have a0:W12.cell? ⟨A,0,none⟩=some (.int .i64 TL):=by rw[cell_of_row W12 _ 0 _ _ _ EA.out];rfl
      have a1:W12.cell? ⟨A,1,none⟩=some (.int .i64 PL'):=by rw[cell_of_row W12 _ 1 _ _ _ EA.out];rfl
      have HB0:=Hh hb0;have HBd:=Hh (show(k+1)*16≤140737488355328 by have h1:=HKl.out;omega);have HBb:=Hh (show(k+1)*1≤140737488355328 by have h1:=HKl.out;omega);have FT:=Hh (show Fr (fun q=>q=sb) w2 W12 from HFw.out.trans KZ.out (fun q hq e=>by have h2:=HSL.out;have e:w4.heap.size≤q:=e;omega));clear hb0;go_wp2_with (at_builtin;refine za8 rfl _ _ 66 rfl w2.heap.size 43 _ 2 16 Tryz.underlying66 zmk rfl (by decide) (.slice la k lc) k (zau (dyL (sL F) k)) rfl (by exact za1 RT.out.l ((Fr.refl NoM W12).alloc _) (fun _ _ q=>q)) W12.heap.size rfl [.int .i64 TL,.int .i64 PL'] 43 (heap_alloc_new W12 _) rfl (by intro u hu;simp at hu;rcases hu with rfl|rfl <;> rfl) HBd.out (by decide) (by have:=HSL.out;simp;omega) ?_);intro lv0 u1 h1 j1 t1;obtain⟨gl,cl,hlv0,_,_⟩:=zbr h1 (Nat.succ_pos _);subst hlv0;have H1:=Hh h1;have J1:=Hh j1;have Q1:=Hh t1;have nl:¬Own1 (.slice la k lc) sb:=fun e=>by have h:=(RT.out.l.lt sb e).1;have:=HSL.out;omega
      have hb1:=j1.heap (((Fr.refl NoM W12).alloc (.cells #[.int .i64 TL,.int .i64 PL'] 43)).heap HB0.out (fun q=>q)) nl;have z1:u1.frozen? ⟨sb,0,none⟩=false:=by simp[World.frozen?,hb1]
      have zz1:u1.cell? ⟨sb,0,none⟩=some (.slice la k lc):=by rw[cell_of_row u1 _ 0 _ _ _ hb1];rfl
      have HB1:=Hh (show(u1.setCell ⟨sb,0,none⟩ (.slice (some ⟨gl,0,none⟩) (k+1) cl)).heap[sb]?=some (.cells #[(.slice (some ⟨gl,0,none⟩) (k+1) cl),(.slice ra k rc),(.slice ba k bc)] 69 (0,0))by rw[heap_set hb1];rfl);have EB1:=Hh (show(u1.setCell ⟨sb,0,none⟩ (.slice (some ⟨gl,0,none⟩) (k+1) cl)).heap[Bk]?=some (.cells #[.int .i64 TR,.int .i64 PR] 43 (0,0))from((Fr.refl _ u1).setCell (M:=fun q=>q=sb) _ _ (fun _=>rfl)).heap (j1.heap (((Fr.refl NoM W12).alloc (.cells #[.int .i64 TL,.int .i64 PL'] 43)).heap EB.out (fun q=>q)) (fun e=>by
       have h1:=(HR.out.l.lt Bk e).2;have h2:=HAB.out.2.1;omega)) (fun e=>by have h1:=HAB.out.2.1;have h2:=HSL.out;omega))
      clear h1 j1 t1 hb1 nl s0 a0 a1;go_upto_region 14 with fail;obtain⟨U1,hU1⟩:∃U1,U1=u1.setCell ⟨sb,0,none⟩ (.slice (some ⟨gl,0,none⟩) (k+1) cl):=⟨_,rfl⟩;rw[←hU1];rw[←hU1]at HB1 EB1;have FU1:=Hh (show Fr (fun q=>q=sb) u1 U1 by rw[hU1];exact(Fr.refl _ u1).setCell _ _ (fun _=>rfl));have s1:U1.cell? ⟨sb,1,none⟩=some (.slice ra k rc):=by rw[cell_of_row U1 _ 1 _ _ _ HB1.out];rfl
      have b0:U1.cell? ⟨Bk,0,none⟩=some (.int .i64 TR):=by rw[cell_of_row U1 _ 0 _ _ _ EB1.out];rfl
      have b1:U1.cell? ⟨Bk,1,none⟩=some (.int .i64 PR):=by rw[cell_of_row U1 _ 1 _ _ _ EB1.out];rfl
      have HRr:=Hh (show U1.ownsRow w2.heap.size 43 2 (.slice ra k rc) k (zau (dyL (sR F) k))from za1 (za1 (za1 RT.out.r ((Fr.refl NoM W12).alloc (.cells #[.int .i64 TL,.int .i64 PL'] 43)) (fun _ _ q=>q)) J1.out (fun q hq e=>(RT.out.sl q e).1 hq)) FU1.out (fun q hq e=>by have h:=(RT.out.r.lt q hq).1;have:=HSL.out;have e:q=sb:=e;omega));have HSU:=Hh (show W12.heap.size≤U1.heap.size from by have h1:=J1.out.size;have h2:=FU1.out.size;simp at h1;omega);clear hU1 z1 zz1;go_wp2_with (at_builtin;refine za8 rfl _ _ 66 rfl w2.heap.size 43 _ 2 16 Tryz.underlying66 zmk rfl (by decide) (.slice ra k rc) k (zau (dyL (sR F) k)) rfl (by exact za1 HRr.out ((Fr.refl NoM U1).alloc _) (fun _ _ q=>q)) U1.heap.size rfl [.int .i64 TR,.int .i64 PR] 43 (heap_alloc_new U1 _) rfl (by intro u hu;simp at hu;rcases hu with rfl|rfl <;> rfl) HBd.out (by decide) (by have:=HSL.out;have:=HSU.out;simp;omega) ?_);intro rv0 u2 h2 j2 t2;obtain⟨gr,cr,hrv0,_,_⟩:=zbr h2 (Nat.succ_pos _);subst hrv0;have H2:=Hh h2;have J2:=Hh j2;have Q2:=Hh t2;have nr:¬Own1 (.slice ra k rc) sb:=fun e=>by have h:=(HRr.out.lt sb e).1;have:=HSL.out;omega
      have hb2:=j2.heap (((Fr.refl NoM U1).alloc (.cells #[.int .i64 TR,.int .i64 PR] 43)).heap HB1.out (fun q=>q)) nr;have z2:u2.frozen? ⟨sb,1,none⟩=false:=by simp[World.frozen?,hb2]
      have zz2:u2.cell? ⟨sb,1,none⟩=some (.slice ra k rc):=by rw[cell_of_row u2 _ 1 _ _ _ hb2];rfl
      have HB2:=Hh (show(u2.setCell ⟨sb,1,none⟩ (.slice (some ⟨gr,0,none⟩) (k+1) cr)).heap[sb]?=some (.cells #[(.slice (some ⟨gl,0,none⟩) (k+1) cl),(.slice (some ⟨gr,0,none⟩) (k+1) cr),(.slice ba k bc)] 69 (0,0))by rw[heap_set hb2];rfl);clear h2 j2 t2 hb2 nr s1 b0 b1;go_upto_region 15 with fail;obtain⟨U2,hU2⟩:∃U2,U2=u2.setCell ⟨sb,1,none⟩ (.slice (some ⟨gr,0,none⟩) (k+1) cr):=⟨_,rfl⟩;rw[←hU2];rw[←hU2]at HB2;have FU2:=Hh (show Fr (fun q=>q=sb) u2 U2 by rw[hU2];exact(Fr.refl _ u2).setCell _ _ (fun _=>rfl));have s2:U2.cell? ⟨sb,2,none⟩=some (.slice ba k bc):=by rw[cell_of_row U2 _ 2 _ _ _ HB2.out];rfl
      have HRb:=Hh (show U2.ownsRow w2.heap.size 4 1 (.slice ba k bc) k ((numL F k).map encB)from za1 (za1 (za1 (za1 (za1 (za1 RT.out.b ((Fr.refl NoM W12).alloc (.cells #[.int .i64 TL,.int .i64 PL'] 43)) (fun _ _ q=>q)) J1.out (fun q hq e=>(RT.out.sl q e).2 hq)) FU1.out (fun q hq e=>by have h:=(RT.out.b.lt q hq).1;have:=HSL.out;have e:q=sb:=e;omega)) ((Fr.refl NoM U1).alloc (.cells #[.int .i64 TR,.int .i64 PR] 43)) (fun _ _ q=>q)) J2.out (fun q hq e=>RT.out.sr q e hq)) FU2.out (fun q hq e=>by have h:=(RT.out.b.lt q hq).1;have:=HSL.out;have e:q=sb:=e;omega));have HSV:=Hh (show U1.heap.size≤U2.heap.size from by have h1:=J2.out.size;have h2:=FU2.out.size;simp at h1;omega);clear hU2 z2 zz2;go_wp2_with (at_builtin;refine za8 rfl _ _ 67 rfl w2.heap.size 4 _ 1 1 Tryz.underlying67 zbh rfl (by decide) (.slice ba k bc) k ((numL F k).map encB) rfl (by exact za1 HRb.out ((Fr.refl NoM U2).alloc _) (fun _ _ q=>q)) U2.heap.size rfl [.bool false] 4 (heap_alloc_new U2 _) rfl (by intro u hu;simp at hu;subst hu;rfl) HBb.out (by decide) (by have:=HSL.out;have:=HSU.out;have:=HSV.out;simp;omega) ?_);intro bv0 u3 h3 j3 t3;obtain⟨gb,cb,hbv0,_,_⟩:=zbr h3 (Nat.succ_pos _);subst hbv0;have H3:=Hh h3;have J3:=Hh j3;have Q3:=Hh t3;have nbb:¬Own1 (.slice ba k bc) sb:=fun e=>by have h:=(HRb.out.lt sb e).1;have:=HSL.out;omega
      have hb3:=j3.heap (((Fr.refl NoM U2).alloc (.cells #[.bool false] 4)).heap HB2.out (fun q=>q)) nbb;have z3:u3.frozen? ⟨sb,2,none⟩=false:=by simp[World.frozen?,hb3]
      have zz3:u3.cell? ⟨sb,2,none⟩=some (.slice ba k bc):=by rw[cell_of_row u3 _ 2 _ _ _ hb3];rfl
      have HB3:=Hh (show(u3.setCell ⟨sb,2,none⟩ (.slice (some ⟨gb,0,none⟩) (k+1) cb)).heap[sb]?=some (.cells #[(.slice (some ⟨gl,0,none⟩) (k+1) cl),(.slice (some ⟨gr,0,none⟩) (k+1) cr),(.slice (some ⟨gb,0,none⟩) (k+1) cb)] 69 (0,0))by rw[heap_set hb3];rfl);clear h3 j3 t3 hb3 nbb s2;go_wp2;go_roundw
      case rel =>
       obtain⟨v1,v2,v3,v4,v5⟩:=HV3.out;have hkl:=HKl.out;have fu3:Fr (fun q=>q=sb) u3 (u3.setCell ⟨sb,2,none⟩ (.slice (some ⟨gb,0,none⟩) (k+1) cb)):=(Fr.refl _ u3).setCell _ _ (fun _=>rfl);have hn:=RT.out.next (sb:=sb) HSL.out.1 ((Fr.refl NoM W12).alloc (.cells #[.int .i64 TL,.int .i64 PL'] 43)) J1.out (by rw[←v1,←v2];exact H1.out) (by rw[World.size_alloc];exact Q1.out) (FU1.out.trans ((Fr.refl NoM U1).alloc (.cells #[.int .i64 TR,.int .i64 PR] 43)) (fun _ _ q=>q.elim)) J2.out (by rw[←v3,←v4];exact H2.out) (by rw[World.size_alloc];exact Q2.out) (FU2.out.trans ((Fr.refl NoM U2).alloc (.cells #[.bool false] 4)) (fun _ _ q=>q.elim)) J3.out (by rw[←v5];exact H3.out) (by rw[World.size_alloc];exact Q3.out) fu3
       have low:∀ {v:Value}{e:TypeId}{s m:Nat}{xs:List Value}{W W':World},W.ownsRow w2.heap.size e s v m xs→Fr (Own1 v) W W'→Fr (fun q=>q=sb) w2 W→Fr (fun q=>q=sb) w2 W':=fun ho hf hg=>hg.trans hf (fun q hq e=>absurd (ho.lt q e).1 (by omega))
       have k1:=low (za1 RT.out.l ((Fr.refl NoM W12).alloc (.cells #[.int .i64 TL,.int .i64 PL'] 43)) (fun _ _ q=>q)) J1.out (FT.out.trans ((Fr.refl NoM W12).alloc _) (fun _ _ q=>q.elim));have k2:=low (za1 HRr.out ((Fr.refl NoM U1).alloc (.cells #[.int .i64 TR,.int .i64 PR] 43)) (fun _ _ q=>q)) J2.out ((k1.trans FU1.out (fun _ _ q=>q)).trans ((Fr.refl NoM U1).alloc _) (fun _ _ q=>q.elim));have k3:=low (za1 HRb.out ((Fr.refl NoM U2).alloc (.cells #[.bool false] 4)) (fun _ _ q=>q)) J3.out ((k2.trans FU2.out (fun _ _ q=>q)).trans ((Fr.refl NoM U2).alloc _) (fun _ _ q=>q.elim));exact⟨k+1,(.slice (some ⟨gl,0,none⟩) (k+1) cl),(.slice (some ⟨gr,0,none⟩) (k+1) cr),(.slice (some ⟨gb,0,none⟩) (k+1) cb),by go_num,by omega,HOn.out,HB3.out,hn,k3.trans fu3 (fun _ _ q=>q)⟩
      case measure=>have hkl:=HKl.out;simp[intOf];omega
  ·have hkn:k=n:=by omega
   subst hkn;have hy:ok=true:=HOk.out.2 hok;subst hy;have s0:w4.cell? ⟨sb,0,none⟩=some (.slice la k lc):=by rw[cell_of_row w4 _ 0 _ _ _ hbx];rfl
   have s1:w4.cell? ⟨sb,1,none⟩=some (.slice ra k rc):=by rw[cell_of_row w4 _ 1 _ _ _ hbx];rfl
   have s2:w4.cell? ⟨sb,2,none⟩=some (.slice ba k bc):=by rw[cell_of_row w4 _ 2 _ _ _ hbx];rfl
   obtain⟨⟨r0,r1,r2⟩,r3,r4,r5⟩:=HRs.out w4 hf;have HM:=Hh (HFin.out w4 (.slice la k lc) (.slice ra k rc) (.slice ba k bc) hf);have fset:Fr (fun q=>q=w.heap.size+1) w4 (((w4.setCell ⟨w.heap.size+1,0,none⟩ (.slice la k lc)).setCell ⟨w.heap.size+1,1,none⟩ (.slice ra k rc)).setCell ⟨w.heap.size+1,2,none⟩ (.slice ba k bc)):=Fr.setCell (M:=fun q=>q=w.heap.size+1) (Fr.setCell (M:=fun q=>q=w.heap.size+1) (Fr.setCell (M:=fun q=>q=w.heap.size+1) (Fr.refl _ w4) _ _ (fun _=>rfl)) _ _ (fun _=>rfl)) _ _ (fun _=>rfl);have HRw:=Hh (hr.fr fset (fun q e=>.inl (by have:=Hsb.out.1;have e:q=w.heap.size+1:=e;omega)));have aL:¬(k:Int)<(k:Int):=by omega
   clear hr hbx hf hok hk hlt fset;go_wp2_with fail;refine bodyPost_ret (v:=.tuple #[.agg #[(.slice la k lc),(.slice ra k rc),(.slice ba k bc)],.bool true]) (by simp[results,Tryz.results42,go_sem,r0,r1,r2,r3,r4,r5]) rfl ?_
   refine⟨_,_,_,_,_,_,_,_,_,rfl,fun _=>?_,fun q hq=>(by have h1:=(HRw.out.l.lt q hq).1;have h2:=Hsb.out.1;omega),fun q hq=>(by have h1:=(HRw.out.r.lt q hq).1;have h2:=Hsb.out.1;omega),HM.out⟩;rw[←Hn.out];exact⟨HRw.out.left,HRw.out.right,HRw.out.bools⟩
end Go.Proofs.YtknniemfpkjnbaaGreatDoor
