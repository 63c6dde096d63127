import Derived.Test.YtbbbmjiloihajaaGreatDoorZfRefNumA
import Derived.Test.YtbbbmjiloihajaaGreatDoorZfNumFits
import Derived.Test.YtbbbmjiloihajaaGreatDoorZfSumP
import Derived.Test.YtbbbmjiloihajaaGreatDoorZfNodeGen
/- What the claim of FnMovedCard needs of: NumQ RefGood BkKit RefSum RefNeg RefNum RefNumB RefNumC. -/
namespace Go.Proofs.YtbbbmjiloihajaaGreatDoor
set_option linter.unusedVariables false
set_option linter.unusedSimpArgs false
open Go.RowKit
section
variable {U:List Nat}{pb sb:Nat}{mo mc ms:Value}{w W w':World}{V V1:List PL}{BV BV1:List Nat}{M I M1 I1:Nat→Prop}{f f1:Nat→Option Nat}
theorem NegPost.step {c:Nat}{e:Ending}(nx:PNx sb w V M I W V1 M1 I1)(h:NegPost U pb sb mo mc ms W V1 M1 I1 c e w'):NegPost U pb sb mo mc ms w V M I c e w':=by
 obtain⟨i,V',BV',M',I',f',h1,h2,h3,h4,h5⟩:=h;exact⟨i,V',BV',M',I',f',h1,h2,nx.trans h3,h4,h5⟩
theorem NegPost.of0 {c:Nat}{e:Ending}(hf:Fr NoM w W)(h:NegPost U pb sb mo mc ms W V M I c e w'):NegPost U pb sb mo mc ms w V M I c e w':=h.step (PNx.of0 hf)
theorem zhv (hUl:U.length<1000000)(a1 a2:Option Addr)(n1 n2 c1 c2:Nat){L R cs ds:List Nat}(e1:n1=L.length)(e2:n2=R.length)(h:PSt encN NegMO U pb sb mo mc ms (.map (some sb)) W V BV M I f)(hL:Nats W (.slice a1 n1 c1) L)(hR:Nats W (.slice a2 n2 c2) R)
  (rL:RowC V L cs) (rR:RowC V R ds) (hc:mkC cs ds∈U) (ll:L.length≤1000) (lr:R.length≤1000) :
  Calls Tryz.prog 79 #[.pointer (some ⟨pb,0,none⟩),.slice a1 n1 c1,.slice a2 n2 c2] W fun e w'=>NegPost U pb sb mo mc ms W V M I (mkC cs ds) e w':=by
 subst e1;subst e2;have hlen:=h.len;refine(yb5 pb V BV L R mo mc ms (.map (some sb)) a1 a2 c1 c2 W h.pool hL hR rL.1 rR.1 (by omega) (by omega) (by omega) (fun q hq=>by have:=(zgh h.ok).lt V.length (Nat.le_refl _) q hq;omega)).mono ?_
 rintro e w' ⟨rfl,M5,I5,p5,hM5,hI5,f5⟩;obtain⟨st5,nx5,hr5,hc5⟩:=h.node (fun h hp=>h.mono hp) rL rR hc p5 hM5 hI5 f5;exact⟨_,_,_,_,_,_,rfl,st5,nx5,hr5,hc5⟩
end
def yf2 (U:List Nat)(pb sb:Nat)(mo mc ms:Value)(t:Int)(p:Nat):Prop:=∀(V:List PL) (BV:List Nat) (M I:Nat→Prop) (f:Nat→Option Nat) (w:World),PSt encN NegMO U pb sb mo mc ms (.map (some sb)) w V BV M I f →
  Calls Tryz.prog 147 #[.pointer (some ⟨pb,0,none⟩),.agg #[.int .i64 t,.int .i64 (p:Int)]] w fun e w'=>NegPost U pb sb mo mc ms w V M I (numC t p) e w'
set_option maxRecDepth 8000 in
set_option maxHeartbeats 16000000 in
theorem zuz {U:List Nat}(hUl:U.length<1000000)(pb sb:Nat)(mo mc ms:Value):∀(n:Nat) (t:Int) (p:Nat),p<n→Red t p→t.natAbs≤1000000→p≤16→(∀a,SubC (numC t p) a→a∈U)→yf2 U pb sb mo mc ms t p:=by
 intro n;induction n with
 | zero=>intro t p h;omega
 | succ n ih =>
  intro t p hn hr ht hp hU V BV M I f w hst;obtain⟨w1,hw1⟩:∃w1,w1=w.alloc (.cells #[.int .i64 t,.int .i64 (p:Int)] 45):=⟨_,rfl⟩;have f1:Fr NoM w w1:=by rw[hw1];exact(Fr.refl NoM w).alloc _
  have e1:w1.heap[w.heap.size]?=some (.cells #[.int .i64 t,.int .i64 (p:Int)] 45 (0,0)):=by rw[hw1];exact heap_alloc_new w _
  have hst1:=hst.fr0 f1;have hml:∀q,M q∨q=sb→q<w.heap.size:=fun q hq=>by
   rcases hq with h|h
   ·exact(hst.mlt q h).1
   ·rw[h];exact hst.map.lt
  have HK:=Hh (fun(W:World) (f:Fr (fun q=>(M q∨q=sb)∨w1.heap.size≤q) w1 W)=>(by
   have l1:=(Array.getElem?_eq_some_iff.1 e1).1;have h0:=f.heap e1 (fun h=>by
    rcases h with h|h
    ·have:=hml _ h;omega
    ·omega)
   exact⟨by rw[cell_of_row W _ 0 _ _ _ h0];rfl,by rw[cell_of_row W _ 1 _ _ _ h0];rfl⟩:W.cell? ⟨w.heap.size,0,none⟩=some (.int .i64 t)/\W.cell? ⟨w.heap.size,1,none⟩=some (.int .i64 (p:Int))))
  have HSt:=Hh hst1;have F1:=Hh f1;have HIh:=Hh ih;have HUl:=Hh hUl;have HR:=Hh hr;have HT:=Hh ht;have HP:=Hh hp;have HU:=Hh hU;have Hn:=Hh hn;have htb:-1000000≤t/\t≤1000000:=by omega
  have hNil:=fun(W:World) (f':Fr NoM w1 W) (hz:zk8∈U)=>zhv (L:=[]) (R:=[]) hUl none none 0 0 0 0 rfl rfl (hst1.fr0 f') (SliceOf.nil _ _) (SliceOf.nil _ _) (RowC.nil V) (RowC.nil V) (show mkC [] []∈U from hz) (by simp) (by simp)
  have HNil:=Hh hNil;clear hst hst1 hml f1 e1 ih hUl hr ht hp hU hn hNil;obtain⟨k0,k1⟩:=HK.out w1 (Fr.refl _ _);by_cases hp0:p=0
  ·have hpz:((p:Int) == 0)=true:=by simp[hp0]
   have hC:numC t p=intC t:=by rw[hp0];rfl
   have hUi:=HU.out;rw[hC]at hUi ⊢;have HUi:=Hh hUi;clear hC hUi;by_cases ht0:t=0
   ·have htz:(t == 0)=true:=by simp[ht0]
    have hCz:intC t=zk8:=by rw[ht0];rfl
    have HN0:=Hh (HNil.out w1 (Fr.refl _ _) (by rw[←hCz];exact HUi.out _ .root));rw[hCz];clear hp0 ht0 hCz;go_enter Tryz.func147,Tryz.ntmps147;go_wp2_with fail;rw[←hw1];clear hw1;(with_reducible refine HN0.out.mono ?_);rintro e w2 ⟨i,V',BV',M',I',f',rfl,h2,h3,h4,h5⟩;have HE:=Hh (NegPost.of0 F1.out ⟨i,V',BV',M',I',f',rfl,h2,h3,h4,h5⟩:NegPost U pb sb mo mc ms w V M I zk8 (.returned (.int .i64 (i:Int))) w2);clear h2 h3 h4 h5;go_wp2_with fail;go_ret;exact HE.out
   ·have htz:(t == 0)=false:=by simp[ht0]
    by_cases htp:0<t
    ·obtain⟨m,rfl⟩:∃m:Nat,t=(m:Int):=⟨t.toNat,by omega⟩
     rw[zi4];have hUp:=HUi.out;rw[zi4]at hUp;have HUp:=Hh (fun k (hk:k≤m)=>hUp _ (ycz hk));have HN0:=Hh (HNil.out w1 (Fr.refl _ _) (HUp.out 0 (Nat.zero_le _)));clear hp0 ht0 hUp HUi;go_enter Tryz.func147,Tryz.ntmps147;go_wp2_with fail;rw[←hw1];clear hw1;(with_reducible refine HN0.out.mono ?_);rintro e w2 ⟨i,V',BV',M',I',f',rfl,h2,h3,h4,h5⟩;have F2:=Hh (h3.fr.mono (fun _ _ q=>.inl q):Fr (fun q=>(M q∨q=sb)∨w1.heap.size≤q) w1 w2);have HE:=Hh (⟨i,V',BV',M',I',f',rfl,h2,h3,h4,h5⟩:NegPost U pb sb mo mc ms w1 V M I (posC 0) (.returned (.int .i64 (i:Int))) w2);clear h2 h3 h4 h5 k0 k1;obtain⟨k0,k1⟩:=HK.out w2 F2.out;go_wp2_with fail;clear k0 k1;go_loopw [5,35] (fun v5 t' W=>∃(k:Nat),t'=.int .i64 k/\k≤m/\NegPost U pb sb mo mc ms w1 V M I (posC k) (.returned v5) W) (fun _ t _=>m-(intOf t).toNat)
     case atStart=>exact⟨0,rfl,Nat.zero_le _,HE.out⟩
     case round =>
      obtain⟨k,rfl,hk,i1,V1,B1,M1,I1,f1,he,st1,nx1,l1,q1⟩:=hrel;obtain⟨w7,rfl⟩:∃w7,w7=wr:=⟨_,rfl⟩;have he:=Ending.returned.inj he;subst he;by_cases hkm:k<m
      ·have HNd:=Hh (zhv (R:=[]) HUl.out (some ⟨w7.heap.size,0,none⟩) none 1 0 1 0 rfl rfl (st1.fr0 ((Fr.refl NoM w7).alloc (.cells #[.int .i64 (i1:Int)] 3))) (SliceOf.one encN w7 i1 3) (SliceOf.nil _ _) ((RowC.nil V1).snoc l1 q1) (RowC.nil _) (HUp.out (k+1) (by omega)) (by simp) (by simp))
       have HNx:=Hh (nx1.trans (PNx.of0 ((Fr.refl NoM w7).alloc (.cells #[.int .i64 (i1:Int)] 3))));clear st1 nx1 l1 q1;go_wp2_with fail;(with_reducible refine HNd.out.mono ?_);rintro e w8 ⟨i2,V2,B2,M2,I2,f2,rfl,st2,nx2,l2,q2⟩;have HE2:=Hh (NegPost.step HNx.out ⟨i2,V2,B2,M2,I2,f2,rfl,st2,nx2,l2,q2⟩:NegPost U pb sb mo mc ms w1 V M I (posC (k+1)) (.returned (.int .i64 (i2:Int))) w8);clear st2 nx2 l2 q2;go_wp2;go_roundw
       case rel=>exact⟨k+1,by go_num,by omega,HE2.out⟩
       case measure=>simp[intOf];omega
      ·obtain rfl:k=m:=by omega
       have HE2:=Hh (NegPost.of0 F1.out ⟨i1,V1,B1,M1,I1,f1,rfl,st1,nx1,l1,q1⟩:NegPost U pb sb mo mc ms w V M I (posC k) (.returned (.int .i64 (i1:Int))) w7);clear st1 nx1 l1 q1;go_wp2;go_ret;exact HE2.out
    ·obtain⟨m,rfl⟩:∃m:Nat,t=-(m:Int):=⟨(-t).toNat,by omega⟩
     rw[zg8];have hUp:=HUi.out;rw[zg8]at hUp;have HUp:=Hh (fun k (hk:k≤m)=>hUp _ (yae hk));have HN0:=Hh (HNil.out w1 (Fr.refl _ _) (HUp.out 0 (Nat.zero_le _)));clear hp0 ht0 hUp HUi;go_enter Tryz.func147,Tryz.ntmps147;go_wp2_with fail;rw[←hw1];clear hw1;(with_reducible refine HN0.out.mono ?_);rintro e w2 ⟨i,V',BV',M',I',f',rfl,h2,h3,h4,h5⟩;have F2:=Hh (h3.fr.mono (fun _ _ q=>.inl q):Fr (fun q=>(M q∨q=sb)∨w1.heap.size≤q) w1 w2);have HE:=Hh (⟨i,V',BV',M',I',f',rfl,h2,h3,h4,h5⟩:NegPost U pb sb mo mc ms w1 V M I (zg6 0) (.returned (.int .i64 (i:Int))) w2);clear h2 h3 h4 h5 k0 k1;obtain⟨k0,k1⟩:=HK.out w2 F2.out;go_wp2_with fail;clear k0 k1;go_loopw [6,52] (fun v5 t' W=>∃(k:Nat),t'=.int .i64 k/\k≤m/\NegPost U pb sb mo mc ms w1 V M I (zg6 k) (.returned v5) W) (fun _ t _=>m-(intOf t).toNat)
     case atStart=>exact⟨0,rfl,Nat.zero_le _,HE.out⟩
     case round =>
      obtain⟨k,rfl,hk,i1,V1,B1,M1,I1,f1,he,st1,nx1,l1,q1⟩:=hrel;obtain⟨w7,rfl⟩:∃w7,w7=wr:=⟨_,rfl⟩;have he:=Ending.returned.inj he;subst he;by_cases hkm:k<m
      ·have HNd:=Hh (zhv (L:=[]) HUl.out none (some ⟨w7.heap.size,0,none⟩) 0 1 0 1 rfl rfl (st1.fr0 ((Fr.refl NoM w7).alloc (.cells #[.int .i64 (i1:Int)] 3))) (SliceOf.nil _ _) (SliceOf.one encN w7 i1 3) (RowC.nil _) ((RowC.nil V1).snoc l1 q1) (HUp.out (k+1) (by omega)) (by simp) (by simp))
       have HNx:=Hh (nx1.trans (PNx.of0 ((Fr.refl NoM w7).alloc (.cells #[.int .i64 (i1:Int)] 3))));clear st1 nx1 l1 q1;go_wp2_with fail;(with_reducible refine HNd.out.mono ?_);rintro e w8 ⟨i2,V2,B2,M2,I2,f2,rfl,st2,nx2,l2,q2⟩;have HE2:=Hh (NegPost.step HNx.out ⟨i2,V2,B2,M2,I2,f2,rfl,st2,nx2,l2,q2⟩:NegPost U pb sb mo mc ms w1 V M I (zg6 (k+1)) (.returned (.int .i64 (i2:Int))) w8);clear st2 nx2 l2 q2;go_wp2;go_roundw
       case rel=>exact⟨k+1,by go_num,by omega,HE2.out⟩
       case measure=>simp[intOf];omega
      ·obtain rfl:k=m:=by omega
       have HE2:=Hh (NegPost.of0 F1.out ⟨i1,V1,B1,M1,I1,f1,rfl,st1,nx1,l1,q1⟩:NegPost U pb sb mo mc ms w V M I (zg6 k) (.returned (.int .i64 (i1:Int))) w7);clear st1 nx1 l1 q1;go_wp2;go_ret;exact HE2.out
  ·have hpp:0<p:=by have:¬p=0:=hp0;omega
   have hpz:((p:Int) == 0)=false:=by simp[hp0]
   obtain⟨⟨x1,y1⟩,hx1⟩:∃x,x=redT (t-1) p:=⟨_,rfl⟩;obtain⟨⟨x2,y2⟩,hx2⟩:∃x,x=redT (t+1) p:=⟨_,rfl⟩;have hside:=zta HR.out hpp;rw[←hx1,←hx2]at hside;have hside:numC t p=mkC [numC x1 y1] [numC x2 y2]:=hside;have g1:=zfb HR.out HT.out hpp HP.out (t-1) (.inl rfl);have g2:=zfb HR.out HT.out hpp HP.out (t+1) (.inr rfl);have HL1:=Hh (fun(W:World)=>show Calls Tryz.prog 111 #[.int .i64 (t-1),.int .i64 (p:Int)] W fun e w'=>e=.returned (.tuple #[.agg #[.int .i64 x1,.int .i64 (y1:Int)],.bool true])/\Fr NoM W w' from by
    have h:=zni (t-1) p W (by omega) (by have:=HP.out;omega) true (by simp[g1.1]);unfold lowT at h;rw[←hx1]at h;exact h)
   have HL2:=Hh (fun(W:World)=>show Calls Tryz.prog 111 #[.int .i64 (t+1),.int .i64 (p:Int)] W fun e w'=>e=.returned (.tuple #[.agg #[.int .i64 x2,.int .i64 (y2:Int)],.bool true])/\Fr NoM W w' from by
    have h:=zni (t+1) p W (by omega) (by have:=HP.out;omega) true (by simp[g2.1]);unfold lowT at h;rw[←hx2]at h;exact h)
   rw[←hx1]at g1;rw[←hx2]at g2;have o1:optC (numC t p) (numC x1 y1):=by rw[hside];exact .inl ((zai _ _ _).2 (by simp))
   have o2:optC (numC t p) (numC x2 y2):=by rw[hside];exact .inr ((zah _ _ _).2 (by simp))
   have HI1:=Hh (HIh.out x1 y1 (by have:=g1.2.1;have:=Hn.out;show y1<n;have h:y1<p:=g1.2.1;omega) g1.2.2.1 g1.2.2.2 (by have h:y1<p:=g1.2.1;have:=HP.out;omega) (fun a ha=>HU.out a ((SubC.root.step o1).trans ha)));have HI2:=Hh (HIh.out x2 y2 (by have:=Hn.out;have h:y2<p:=g2.2.1;omega) g2.2.2.1 g2.2.2.2 (by have h:y2<p:=g2.2.1;have:=HP.out;omega) (fun a ha=>HU.out a ((SubC.root.step o2).trans ha)));have HSd:=Hh hside;have HIn:=Hh (HU.out _ .root);clear hp0 hpp hx1 hx2 hside g1 g2 o1 o2;go_enter Tryz.func147,Tryz.ntmps147;go_wp2_with fail;rw[←hw1];clear hw1;(with_reducible refine(HL1.out w1).mono ?_);rintro e w2 ⟨rfl,f2⟩;have F2:=Hh f2;obtain⟨w3,hw3⟩:∃w3,w3=w2.alloc (.cells #[.int .i64 x1,.int .i64 (y1:Int)] 45):=⟨_,rfl⟩;have f3:Fr NoM w1 w3:=by rw[hw3];exact f2.alloc _
   have e3:w3.heap[w2.heap.size]?=some (.cells #[.int .i64 x1,.int .i64 (y1:Int)] 45 (0,0)):=by rw[hw3];exact heap_alloc_new w2 _
   have F3:=Hh f3;have E3:=Hh e3;clear f2 f3 e3 k0 k1;go_upto_region 18 with fail;rw[←hw3];clear hw3;obtain⟨k0,k1⟩:=HK.out w3 F3.out.any;go_wp2_with fail;(with_reducible refine(HL2.out w3).mono ?_);rintro e w4 ⟨rfl,f4⟩;obtain⟨w5,hw5⟩:∃w5,w5=w4.alloc (.cells #[.int .i64 x2,.int .i64 (y2:Int)] 45):=⟨_,rfl⟩;have f5:Fr NoM w3 w5:=by rw[hw5];exact f4.alloc _
   have e5:w5.heap[w4.heap.size]?=some (.cells #[.int .i64 x2,.int .i64 (y2:Int)] 45 (0,0)):=by rw[hw5];exact heap_alloc_new w4 _
   have e35:=f5.heap E3.out (fun q=>q);have HW:=Hh (fun(W:World) (f:Fr (fun q=>(M q∨q=sb)∨w5.heap.size≤q) w5 W)=>(by
    have l3:=(Array.getElem?_eq_some_iff.1 e35).1;have l5:=(Array.getElem?_eq_some_iff.1 e5).1;have z2:=F2.out.size;have z4:=f4.size;have z3:=F3.out.size;have hb:∀q,M q∨q=sb→q<w1.heap.size:=fun q hq=>by
     rcases hq with h|h
     ·exact(HSt.out.mlt q h).1
     ·rw[h];exact HSt.out.map.lt
    have h3:=f.heap e35 (fun h=>by
     rcases h with h|h
     ·have:=hb _ h;omega
     ·omega)
    have h5:=f.heap e5 (fun h=>by
     rcases h with h|h
     ·have:=hb _ h;omega
     ·omega)
    exact⟨by rw[cell_of_row W _ 0 _ _ _ h3];rfl,by rw[cell_of_row W _ 1 _ _ _ h3];rfl,by rw[cell_of_row W _ 0 _ _ _ h5];rfl,by rw[cell_of_row W _ 1 _ _ _ h5];rfl⟩:W.cell? ⟨w2.heap.size,0,none⟩=some (.int .i64 x1)/\W.cell? ⟨w2.heap.size,1,none⟩=some (.int .i64 (y1:Int))/\W.cell? ⟨w4.heap.size,0,none⟩=some (.int .i64 x2)/\W.cell? ⟨w4.heap.size,1,none⟩=some (.int .i64 (y2:Int))))
   have F5:=Hh (F3.out.trans f5 (fun _ _ q=>q));clear f4 f5 e5 e35 k0 k1;go_upto_region 19 with fail;rw[←hw5];clear hw5;have K0:Fr NoM w5 w5.drew:=(Fr.refl NoM w5).drew;obtain⟨i0,i1,i2,i3⟩:=HW.out w5.drew K0.any;have HA1:=Hh (fun(W:World) (ff:Fr NoM w5 W)=>show Calls Tryz.prog 147 #[.pointer (some ⟨pb,0,none⟩),.agg #[.int .i64 x1,.int .i64 (y1:Int)]] W fun e w'=>NegPost U pb sb mo mc ms W V M I (numC x1 y1) e w' from HI1.out V BV M I f W (HSt.out.fr0 (F5.out.trans ff (fun _ _ q=>q))));have HA2:=Hh (fun(W:World) (V1:List PL) (B1:List Nat) (M1 I1:Nat→Prop) (f1:Nat→Option Nat) (h:PSt encN NegMO U pb sb mo mc ms (.map (some sb)) W V1 B1 M1 I1 f1)=>show Calls Tryz.prog 147 #[.pointer (some ⟨pb,0,none⟩),.agg #[.int .i64 x2,.int .i64 (y2:Int)]] W fun e w'=>NegPost U pb sb mo mc ms W V1 M1 I1 (numC x2 y2) e w' from HI2.out V1 B1 M1 I1 f1 W h);have HNd:=Hh (fun(W:World) (V2:List PL) (B2:List Nat) (M2 I2:Nat→Prop) (f2:Nat→Option Nat) (g1 g2 p1 p2:Nat) (h:PSt encN NegMO U pb sb mo mc ms (.map (some sb)) W V2 B2 M2 I2 f2) (n1:Nats W (.slice (some ⟨g1,0,none⟩) 1 1) [p1]) (n2:Nats W (.slice (some ⟨g2,0,none⟩) 1 1) [p2]) (l1:p1<V2.length) (q1:(za0 V2).getD p1 0=numC x1 y1) (l2:p2<V2.length) (q2:(za0 V2).getD p2 0=numC x2 y2) =>
    show Calls Tryz.prog 79 #[.pointer (some ⟨pb,0,none⟩),.slice (some ⟨g1,0,none⟩) 1 1,.slice (some ⟨g2,0,none⟩) 1 1] W fun e w'=>NegPost U pb sb mo mc ms W V2 M2 I2 (numC t p) e w' from by
     rw[HSd.out];exact zhv HUl.out (some ⟨g1,0,none⟩) (some ⟨g2,0,none⟩) 1 1 1 1 rfl rfl h n1 n2 ((RowC.nil V2).snoc l1 q1) ((RowC.nil V2).snoc l2 q2) (by rw[←HSd.out];exact HIn.out) (by simp) (by simp))
   have HF5:=Hh (F1.out.trans (F5.out.trans K0 (fun _ _ q=>q)) (fun _ _ q=>q));go_region_law (first
    | (go_simp;first
     | (go_at_call 147;(with_reducible refine(HA1.out _ K0).mono ?_);rintro e wa ⟨p1,V1,B1,M1,I1,f1,rfl,st1,nx1,l1,q1⟩;obtain⟨j0,j1,j2,j3⟩:=HW.out wa (K0.any.trans (nx1.fr.mono (fun _ _ q=>.inl q)) (fun _ _ q=>q));have jj:=(fun o=>HW.out (wa.alloc o) ((K0.any.trans (nx1.fr.mono (fun _ _ q=>.inl q)) (fun _ _ q=>q)).alloc o));have j4:=(fun o=>(jj o).2.2.1);have j5:=(fun o=>(jj o).2.2.2);clear jj;have HNx1:=Hh ((PNx.of0 HF5.out).trans nx1);have HSt1:=Hh st1;have HL1q:=Hh (And.intro l1 q1);clear st1 nx1 l1 q1)
     | (go_at_call 147;(with_reducible refine(HA2.out (wa.alloc (.cells #[.int .i64 (p1:Int)] 3)) V1 B1 M1 I1 f1 (HSt1.out.fr0 ((Fr.refl NoM wa).alloc _))).mono ?_);rintro e wb ⟨p2,V2,B2,M2,I2,f2,rfl,st2,nx2,l2,q2⟩;have HND1:=Hh (HNd.out (wb.alloc (.cells #[.int .i64 (p2:Int)] 3)) V2 B2 M2 I2 f2 wa.heap.size wb.heap.size p1 p2 (st2.fr0 ((Fr.refl NoM wb).alloc _)) (((SliceOf.one encN wa p1 3).fr nx2.fr (fun _ q hq h=>by { have hq:wa.heap.size=q:=Option.some.inj hq;have:=HSt1.out.map.lt;rcases h with h|h;{ have:=(HSt1.out.mlt q h).1;omega };{ omega } })).fr0 ((Fr.refl NoM wb).alloc _)) (SliceOf.one encN wb p2 3) (by have:=nx2.pre.length_le;have:=HL1q.out.1;omega) (by rw[zan nx2.pre HL1q.out.1];exact HL1q.out.2) l2 q2);have HEn1:=Hh (fun(e:Ending) (w':World) (h:NegPost U pb sb mo mc ms (wb.alloc (.cells #[.int .i64 (p2:Int)] 3)) V2 M2 I2 (numC t p) e w')=>(NegPost.step (((HNx1.out.trans (PNx.of0 ((Fr.refl NoM wa).alloc _))).trans nx2).trans (PNx.of0 ((Fr.refl NoM wb).alloc _))) h:NegPost U pb sb mo mc ms w V M I (numC t p) e w'));clear st2 nx2 l2 q2)
     | (go_at_call 147;(with_reducible refine(HA2.out wa V1 B1 M1 I1 f1 HSt1.out).mono ?_);rintro e wb ⟨p2,V2,B2,M2,I2,f2,rfl,st2,nx2,l2,q2⟩;have HND2:=Hh (HNd.out ((wb.alloc (.cells #[.int .i64 (p1:Int)] 3)).alloc (.cells #[.int .i64 (p2:Int)] 3)) V2 B2 M2 I2 f2 wb.heap.size (wb.heap.size+1) p1 p2 (st2.fr0 (((Fr.refl NoM wb).alloc _).alloc _)) ((SliceOf.one encN wb p1 3).fr0 ((Fr.refl NoM _).alloc _)) (by have h:=SliceOf.one encN (wb.alloc (.cells #[.int .i64 (p1:Int)] 3)) p2 3;rw[World.size_alloc]at h;exact h) (by have:=nx2.pre.length_le;have:=HL1q.out.1;omega) (by rw[zan nx2.pre HL1q.out.1];exact HL1q.out.2) l2 q2);have HEn2:=Hh (fun(e:Ending) (w':World) (h:NegPost U pb sb mo mc ms ((wb.alloc (.cells #[.int .i64 (p1:Int)] 3)).alloc (.cells #[.int .i64 (p2:Int)] 3)) V2 M2 I2 (numC t p) e w')=>(NegPost.step ((HNx1.out.trans nx2).trans (PNx.of0 (((Fr.refl NoM wb).alloc _).alloc _))) h:NegPost U pb sb mo mc ms w V M I (numC t p) e w'));have HND3:=Hh (HNd.out ((wb.alloc (.cells #[.int .i64 (p2:Int)] 3)).alloc (.cells #[.int .i64 (p1:Int)] 3)) V2 B2 M2 I2 f2 (wb.heap.size+1) wb.heap.size p1 p2 (st2.fr0 (((Fr.refl NoM wb).alloc _).alloc _)) (by have h:=SliceOf.one encN (wb.alloc (.cells #[.int .i64 (p2:Int)] 3)) p1 3;rw[World.size_alloc]at h;exact h) ((SliceOf.one encN wb p2 3).fr0 ((Fr.refl NoM _).alloc _)) (by have:=nx2.pre.length_le;have:=HL1q.out.1;omega) (by rw[zan nx2.pre HL1q.out.1];exact HL1q.out.2) l2 q2);have HEn3:=Hh (fun(e:Ending) (w':World) (h:NegPost U pb sb mo mc ms ((wb.alloc (.cells #[.int .i64 (p2:Int)] 3)).alloc (.cells #[.int .i64 (p1:Int)] 3)) V2 M2 I2 (numC t p) e w')=>(NegPost.step ((HNx1.out.trans nx2).trans (PNx.of0 (((Fr.refl NoM wb).alloc _).alloc _))) h:NegPost U pb sb mo mc ms w V M I (numC t p) e w'));clear st2 nx2 l2 q2)
     | (go_at_call 79;(with_reducible refine HND1.out.mono ?_);rintro e wc hP;have HPr:=Hh (HEn1.out e wc hP);obtain⟨p3,V3,B3,M3,I3,f3,rfl,zz⟩:=hP;clear zz)
     | (go_at_call 79;(with_reducible refine HND2.out.mono ?_);rintro e wc hP;have HPr:=Hh (HEn2.out e wc hP);obtain⟨p3,V3,B3,M3,I3,f3,rfl,zz⟩:=hP;clear zz)
     | (go_at_call 79;(with_reducible refine HND3.out.mono ?_);rintro e wc hP;have HPr:=Hh (HEn3.out e wc hP);obtain⟨p3,V3,B3,M3,I3,f3,rfl,zz⟩:=hP;clear zz)
     | fail)
    | fail)
   all_goals
    go_wp2;go_ret;exact HPr.out
theorem zkq:(Tryz.prog.info? 31).map (fun i=>(i.zero,i.size,i.bytes))=some (some (.agg #[.slice none 0 0]),1,24):=by kernel_rfl
theorem zex (a:Option Addr)(n c k b off:Nat)(hk:k<n)(ha:a=some ⟨b,off,none⟩)(w:World) :
  (Instr.indexAt 68 (.slice a n c) (.int .i64 (k:Int))).run Tryz.prog w=.ok (.pointer (some ⟨b,off+k,none⟩)) w:=by
 subst ha;go_simp
def FormsL (R:Nat→Prop)(w:World)(v:Value)(FL:List (List PL)):Prop :=
 ∃VS:List Value,Vals w v VS/\VS.length=FL.length/\∀(j:Nat) (nv:Value) (Fm:List PL),VS[j]?=some nv→FL[j]?=some Fm→NodeL R encN w nv Fm
theorem NodeL.low {α:Type}{R:Nat→Prop}{enc:α→Value}{w:World}{v:Value}{NL:List (List α × List α)}(h:NodeL R enc w v NL):NodeL (· < w.heap.size) enc w v NL:=by
 obtain⟨a,c,rfl,h1,h2,h3⟩:=h;refine⟨a,c,rfl,h1,h2,fun j y hy=>?_⟩;obtain⟨b,off,lv,rv,ha,hb,c1,c2,s1,s2,r1,r2⟩:=h3 j y hy;refine⟨b,off,lv,rv,ha,World.block_lt_of_cell? w _ c1,c1,c2,s1,s2,fun hne q hq=>?_,fun hne q hq=>?_⟩
 ·obtain⟨b',hb',hl⟩:=s1.block hne;rw[hq]at hb';cases hb';exact hl
 ·obtain⟨b',hb',hl⟩:=s2.block hne;rw[hq]at hb';cases hb';exact hl
structure Mk (w1 W:World) (bb:Nat) (s:List PL × List Nat) (S1:Nat→Prop) (v:Value) (A:List Nat) (u:Value) (B:List Nat):Prop where
 book:BookS S1 W bb s.1 s.2
 sub:∀q,S1 q→w1.heap.size≤q/\q<W.heap.size
 own1:W.ownsRow w1.heap.size 3 1 v A.length (A.map encN)
 own2:W.ownsRow w1.heap.size 3 1 u B.length (B.map encN)
 no1:∀b,v.ownBlock=some b→¬S1 b
 no2:∀b,u.ownBlock=some b→¬S1 b
 sep:∀b,v.ownBlock=some b→u.ownBlock≠some b
 fr:Fr NoM w1 W
theorem Mk.swap {w1 W:World}{bb:Nat}{s:List PL × List Nat}{S1:Nat→Prop}{v u:Value}{A B:List Nat}(h:Mk w1 W bb s S1 v A u B):Mk w1 W bb s S1 u B v A :=
 ⟨h.book,h.sub,h.own2,h.own1,h.no2,h.no1,fun b h1 h2=>h.sep b h2 h1,h.fr⟩
theorem Mk.root {w1 W W':World}{bb:Nat}{s s':List PL × List Nat}{S1 S':Nat→Prop}{v u:Value}{A B:List Nat}(h:Mk w1 W bb s S1 v A u B)(hb:BookS S' W' bb s'.1 s'.2)(hs:∀k,S' k→S1 k∨W.heap.size≤k)(hf:Fr S1 W W'):Mk w1 W' bb s' (fun k=>S' k/\k<W'.heap.size) v A u B:=by
 have key:∀b,(¬S1 b/\b<W.heap.size)→¬(S' b/\b<W'.heap.size):=fun b ⟨h1,h2⟩ ⟨h3,_⟩=>by
  rcases hs b h3 with h|h
  ·exact h1 h
  ·omega
 exact⟨hb.cut,fun q hq=>⟨by
   rcases hs q hq.1 with h1|h1
   ·exact(h.sub q h1).1
   ·exact Nat.le_trans h.fr.size h1,hq.2⟩,za1 h.own1 hf (fun b hb=>h.no1 b hb),za1 h.own2 hf (fun b hb=>h.no2 b hb),fun b hb=>key b ⟨h.no1 b hb,(h.own1.lt b hb).2⟩,fun b hb=>key b ⟨h.no2 b hb,(h.own2.lt b hb).2⟩,h.sep,
  h.fr.trans hf (fun q hq hS=>by have:=(h.sub q hS).1;omega)⟩
theorem Mk.app {w1 W Wa W4:World}{bb:Nat}{s:List PL × List Nat}{S1:Nat→Prop}{v v4 u:Value}{A B:List Nat}{x:Nat}(h:Mk w1 W bb s S1 v A u B)(ha:Fr NoM W Wa)(ho:W4.ownsRow w1.heap.size 3 1 v4 (A.length+1) (A.map encN ++ [x].map encN))(hf:Fr (Own1 v) Wa W4)(hq:v4.ownBlock=v.ownBlock∨∃b,v4.ownBlock=some b/\Wa.heap.size≤b):Mk w1 W4 bb s S1 v4 (A ++ [x]) u B:=by
 have hfa:Fr (Own1 v) W W4:=ha.any.trans hf (fun q _ e=>e);have hlt:∀b,v4.ownBlock=some b→v.ownBlock=some b∨W.heap.size≤b:=fun b hb=>by
  rcases hq with h1|⟨b',h1,h2⟩
  ·rw[h1]at hb;exact .inl hb
  ·rw[h1]at hb;cases hb;exact .inr (Nat.le_trans ha.size h2)
 exact⟨h.book.fr hfa (fun k hk e=>h.no1 k e hk),fun q hq=>⟨(h.sub q hq).1,Nat.lt_of_lt_of_le (h.sub q hq).2 hfa.size⟩,by rw[List.length_append,List.map_append];exact ho,za1 h.own2 hfa (fun b hb e=>h.sep b e hb),
  fun b hb hS=>by
   rcases hlt b hb with h1|h1
   ·exact h.no1 b h1 hS
   ·have:=(h.sub b hS).2;omega,
  h.no2,fun b hb hu=>by
   rcases hlt b hb with h1|h1
   ·exact h.sep b h1 hu
   ·have:=(h.own2.lt b hu).2;omega,
  h.fr.trans hfa (fun q hq e=>by have:=(h.own1.lt q e).1;omega)⟩
theorem BookS.made {w:World}{bb:Nat}(h:w.heap[bb]?=some (.cells #[.slice none 0 0,.slice none 0 0] 137 (0,0))):BookS (fun q=>q=bb) w bb [] [] :=
 ⟨.slice none 0 0,.slice none 0 0,[],⟨h,World.ownsRow_nil _ _ _ _,World.ownsRow_nil _ _ _ _,rfl,rfl,by simp,by simp[Value.ownBlock],by simp[Value.ownBlock],by simp[Value.ownBlock]⟩,fun k hk=>by
  rcases (zbu h).1 hk with h|h|h
  ·exact h
  ·simp[Value.ownBlock]at h
  ·simp[Value.ownBlock]at h,by intro j x y hx;simp at hx⟩
theorem yag {FL:List (List PL)}:∀ {n:Nat}{s:List PL × List Nat × List Nat},RootsOK n s→(∀Fm∈FL,GoodF Fm)→s.1.length≤(FL.foldl zbd s).1.length:=by
 induction FL with
 | nil=>intro n s _ _;exact Nat.le_refl _
 | cons f l ih =>
  intro n s h hF;have hf:=hF f List.mem_cons_self;have h1:=ih (h.step hf) (fun g hg=>hF g (List.mem_cons_of_mem _ hg));have h2:=(zgi h.ok f hf.opts).2.2.2.2.length_le;rw[List.foldl_cons];exact Nat.le_trans h2 h1
theorem RootsOK.start:RootsOK 0 ([],[],[]):=⟨BookOK.nil,BookUp.nil,by simp,by simp⟩
theorem znc {NL:List PL}{BL:List Nat}{FL:List (List PL)}{j:Nat}(hj:j<FL.length):zbp NL BL (FL.take (j+1))=zbd (zbp NL BL (FL.take j)) FL[j]:=by
 rw[List.take_succ_eq_append_getElem hj,zrk]
set_option maxHeartbeats 4000000 in
theorem zvc {R:Nat→Prop}(lv rv:Value)(FL FR:List (List PL))(w:World)(hL:FormsL R w lv FL)(hR:FormsL R w rv FR)(gL:∀Fm∈FL,GoodF Fm)(gR:∀Fm∈FR,GoodF Fm)(nL:FL.length≤1000)(nR:FR.length≤1000) :
  Calls Tryz.prog 87 #[lv,rv] w fun e w'=>∃v',e=.returned (.agg #[v'])/\NodeOwn w.heap.size w' v' (zpq FL FR)/\Fr NoM w w':=by
 obtain⟨VL,hvl,hll,hfl⟩:=hL;obtain⟨VR,hvr,hlr,hfr⟩:=hR;obtain⟨al,cl,rfl,zl1,zl2,hcl⟩:=hvl;obtain⟨ar,cr,rfl,zr1,zr2,hcr⟩:=hvr;rw[hll,hlr];have HFl:=Hh hfl;have HFr:=Hh hfr;have HCl:=Hh hcl;have HCr:=Hh hcr;have GL:=Hh gL;have GR:=Hh gR;have HLl:=Hh hll;have HLr:=Hh hlr;clear hfl hfr hcl hcr gL gR hll hlr zl1 zl2 zr1 zr2;go_enter Tryz.func87,Tryz.ntmps87;go_wp2_with fail;obtain⟨w1,hw1⟩:∃w1,w1=w.alloc (.cells #[.slice none 0 0] 31):=⟨_,rfl⟩;have hs1:w1.heap.size=w.heap.size+1:=by rw[hw1];simp
 have hf1:Fr NoM w w1:=by rw[hw1];exact(Fr.refl NoM w).alloc _
 have hb1:w1.heap[w.heap.size]?=some (.cells #[.slice none 0 0] 31 (0,0)):=by rw[hw1];exact heap_alloc_new w _
 rw[←hw1];obtain⟨bb,hbb⟩:∃bb,bb=w.heap.size+1:=⟨_,rfl⟩;obtain⟨w4,hw4⟩:∃w4,w4=((w1.alloc (.cells #[.slice none 0 0,.slice none 0 0] 137)).alloc (.cells #[] 3)).alloc (.cells #[] 3):=⟨_,rfl⟩;have hmk:Mk w1 w4 bb ([],[]) (fun q=>q=bb) (.slice (some ⟨bb+1,0,none⟩) 0 0) [] (.slice (some ⟨bb+1+1,0,none⟩) 0 0) []:=by
  rw[hbb];have hF:Fr NoM w1 w4:=by rw[hw4];exact(((Fr.refl NoM w1).alloc _).alloc _).alloc _
  have hsz:w4.heap.size=w.heap.size+4:=by rw[hw4];simp[hs1]
  have k0:w4.heap[w.heap.size+1]?=some (.cells #[.slice none 0 0,.slice none 0 0] 137 (0,0)):=by
   have h:=heap_alloc_new w1 (.cells #[.slice none 0 0,.slice none 0 0] 137);rw[hs1]at h;rw[hw4];exact(((Fr.refl NoM _).alloc _).alloc _).heap h (fun q=>q)
  have o1:w4.ownsRow w1.heap.size 3 1 (.slice (some ⟨w.heap.size+1+1,0,none⟩) 0 0) 0 []:=by
   have h:=World.ownsRow_made (base:=w1.heap.size) (e:=3) (size:=1) (w1.alloc (.cells #[.slice none 0 0,.slice none 0 0] 137)) #[] 0 (by simp) (by decide) (by simp);simp only[World.size_alloc,hs1]at h;rw[hw4,hs1];exact za1 h ((Fr.refl NoM _).alloc _) (fun _ _ q=>q)
  have o2:w4.ownsRow w1.heap.size 3 1 (.slice (some ⟨w.heap.size+1+1+1,0,none⟩) 0 0) 0 []:=by
   have h:=World.ownsRow_made (base:=w1.heap.size) (e:=3) (size:=1) ((w1.alloc (.cells #[.slice none 0 0,.slice none 0 0] 137)).alloc (.cells #[] 3)) #[] 0 (by simp;omega) (by decide) (by simp);simp only[World.size_alloc,hs1]at h;rw[hw4,hs1];exact h
  refine⟨BookS.made k0,fun q hq=>⟨by omega,by omega⟩,o1,o2,fun b hb e=>?_,fun b hb e=>?_,fun b hb e=>?_,hF⟩
  ·have hb:w.heap.size+1+1=b:=Option.some.inj hb
   omega
  ·have hb:w.heap.size+1+1+1=b:=Option.some.inj hb
   omega
  ·have hb:w.heap.size+1+1=b:=Option.some.inj hb
   have e:w.heap.size+1+1+1=b:=Option.some.inj e;omega
 rw[←hw4];have HMk:=Hh hmk;have HF1:=Hh hf1;have HB1:=Hh hb1;have HS1:=Hh hs1;clear hmk hf1 hb1 hs1 hw4 hw1;rw[←hbb];have HBb:=Hh hbb;clear hbb;go_loopw [6,8] (fun v0 i W=>∃(j:Nat) (S1:Nat→Prop) (v:Value),v=v0/\i=.int .i64 j/\j≤FL.length/\Mk w1 W bb ((zbp [] [] (FL.take j)).1,(zbp [] [] (FL.take j)).2.1) S1 v (zbp [] [] (FL.take j)).2.2 (.slice (some ⟨bb+1+1,0,none⟩) 0 0) []) (fun _ i _=>FL.length-(intOf i).toNat)
 case atStart=>exact⟨0,_,_,rfl,rfl,Nat.zero_le _,HMk.out⟩
 case round =>
  obtain⟨j,S1,v,rfl,rfl,hj,hm⟩:=hrel;obtain⟨w7,rfl⟩:∃w7,w7=wr:=⟨_,rfl⟩;by_cases hlt:j<FL.length
  ·have hro:=zek (FL:=FL.take j) RootsOK.start (fun Fm h=>GL.out Fm (List.mem_of_mem_take h))
   have hnx:=znc (NL:=[]) (BL:=[]) hlt;have hg:=GL.out FL[j] (List.getElem_mem _);obtain⟨Fm,hFm⟩:∃Fm,Fm=FL[j]:=⟨_,rfl⟩;have hFe:FL[j]?=some Fm:=by rw[hFm];exact List.getElem?_eq_getElem _
   obtain⟨nv,hnv⟩:∃nv,VL[j]?=some nv:=⟨VL[j]'(by rw[HLl.out];exact hlt),List.getElem?_eq_getElem _⟩;have hN:=(HFl.out j nv Fm hnv hFe).low;obtain⟨an,cn,rfl,z⟩:=id hN;clear z;obtain⟨b1,o1,rfl,c1⟩:=HCl.out j _ hnv;have ix:=zex (some ⟨b1,o1,none⟩) FL.length cl j b1 o1 hlt rfl;rw[←hFm]at hg hnx;have hro:RootsOK (0+120*(FL.take j).length) (zbp [] [] (FL.take j)):=hro;obtain⟨⟨NLk,BLk,A⟩,hA⟩:∃s,zbp [] [] (FL.take j)=s:=⟨_,rfl⟩;rw[hA]at hm hro hnx;have hwf:=HF1.out.trans hm.fr (fun _ _ q=>q);have d1:w7.cell? ⟨b1,o1+j,none⟩=some (.slice an Fm.length cn):=hwf.cell c1 (fun q=>q);have hlen:NLk.length≤120*j:=by have h1:=hro.len;rw[List.length_take,Nat.min_eq_left (by omega)]at h1;have h1:NLk.length≤0+120*j:=h1;omega
   have hal:A.length=j:=by
    have h1:=zgp (FL.take j) ([],[],[]);have h1:(zbp [] [] (FL.take j)).2.2.length=0+(FL.take j).length:=h1;rw[hA,List.length_take,Nat.min_eq_left (by omega)]at h1;have h1:A.length=0+j:=h1;omega
   have hroot:=zo5 (R:=(· < w.heap.size)) bb (.slice an Fm.length cn) NLk Fm BLk w7 hm.book hro.ok (hN.fr0 hwf) (fun k hk hS=>by have h1:k<w.heap.size:=hk;have:=(hm.sub k hS).1;have:=HS1.out;omega) hg.opts (by have:=hg.le;omega) (fun y hy=>by have:=hg.lens y hy;omega) hg.pos;have HRoot:=Hh hroot;have HM:=Hh hm;have HNx:=Hh hnx;have HAl:=Hh hal;have HA:=Hh hA;clear hroot hm hnx hal hA hro hlen hN hg hFm hFe hnv c1 hwf;go_wp2_with fail;refine HRoot.out.mono ?_
   rintro e w8 ⟨S',rfl,b8,s8,f8⟩;have hM8:=HM.out.root (s':=((addB NLk BLk Fm).1,(addB NLk BLk Fm).2.1)) b8 s8 f8;obtain⟨x,hx⟩:∃x,x=zff NLk BLk Fm:=⟨_,rfl⟩;rw[←hx];have HM8:=Hh hM8;have HX:=Hh hx;clear hM8 b8 s8 f8 hx d1 ix;go_wp2_with (at_builtin;refine zag (enc:=encN) _ rfl (.tmp 20) (.tmp 27) 26 rfl w1.heap.size 3 (.int .i64 0) 8 Tryz.underlying26 zaa rfl v A.length (A.map encN) rfl (za1 HM8.out.own1 ((Fr.refl NoM w8).alloc _) (fun _ _ q=>q)) (.slice (some ⟨w8.heap.size,0,none⟩) 1 1) rfl [x] (SliceOf.one encN w8 x 3) (fun _=>rfl) (by have:=HAl.out;simp;omega) (by decide) (by have:=HM8.out.fr.size;rw[World.size_alloc];omega) ?_);intro v9 w9 h9 f9 q9;have hM9:=HM8.out.app ((Fr.refl NoM w8).alloc _) h9 f9 (by rw[World.size_alloc];exact q9);have HM9:=Hh hM9;clear hM9 h9 f9 q9;go_wp2;go_roundw
   case rel =>
    refine⟨j+1,fun k=>S' k/\k<w8.heap.size,v9,rfl,by go_num,by omega,?_⟩;have h:=HM9.out;rw[HNx.out];rw[HX.out]at h;exact h
   case measure=>simp[intOf];omega
  ·have hje:j=FL.length:=by omega
   subst hje;rw[List.take_length]at hm;clear hlt hj;have hro:=zek (FL:=FL) RootsOK.start GL.out;have hro:RootsOK (0+120*FL.length) (zbp [] [] FL):=hro;have hal:=zgp FL ([],[],[]);have hal:(zbp [] [] FL).2.2.length=0+FL.length:=hal;obtain⟨⟨NL1,BL1,A1⟩,hA1⟩:∃s,zbp [] [] FL=s:=⟨_,rfl⟩;rw[hA1]at hm hro hal;have hal:A1.length=FL.length:=by have h1:A1.length=0+FL.length:=hal;omega
   have hst:RootsOK (120*FL.length) (NL1,BL1,[]):=⟨hro.ok,hro.up,by have h1:NL1.length≤0+120*FL.length:=hro.len;show NL1.length≤120*FL.length;omega,by simp⟩;have HM:=Hh hm.swap;have HRo:=Hh hro;have HAl1:=Hh hal;have HA1:=Hh hA1;have HSt:=Hh hst;clear hm hro hal hA1 hst;go_wp2_with fail;go_loopw [7,9] (fun v0 i W=>∃(j:Nat) (S2:Nat→Prop) (u:Value),u=v0/\i=.int .i64 j/\j≤FR.length/\Mk w1 W bb ((zbp NL1 BL1 (FR.take j)).1,(zbp NL1 BL1 (FR.take j)).2.1) S2 u (zbp NL1 BL1 (FR.take j)).2.2 v A1) (fun _ i _=>FR.length-(intOf i).toNat)
   case atStart=>exact⟨0,_,_,rfl,rfl,Nat.zero_le _,HM.out⟩
   case round =>
    obtain⟨j,S2,u,rfl,rfl,hj,hm⟩:=hrel;obtain⟨w17,rfl⟩:∃w17,w17=wr:=⟨_,rfl⟩;by_cases hlt:j<FR.length
    ·have hro:=zek (FL:=FR.take j) HSt.out (fun Fm h=>GR.out Fm (List.mem_of_mem_take h))
     have hnx:=znc (NL:=NL1) (BL:=BL1) hlt;have hg:=GR.out FR[j] (List.getElem_mem _);obtain⟨Fm,hFm⟩:∃Fm,Fm=FR[j]:=⟨_,rfl⟩;have hFe:FR[j]?=some Fm:=by rw[hFm];exact List.getElem?_eq_getElem _
     obtain⟨nv,hnv⟩:∃nv,VR[j]?=some nv:=⟨VR[j]'(by rw[HLr.out];exact hlt),List.getElem?_eq_getElem _⟩;have hN:=(HFr.out j nv Fm hnv hFe).low;obtain⟨an,cn,rfl,z⟩:=id hN;clear z;obtain⟨b1,o1,rfl,c1⟩:=HCr.out j _ hnv;have ix:=zex (some ⟨b1,o1,none⟩) FR.length cr j b1 o1 hlt rfl;rw[←hFm]at hg hnx;have hro:RootsOK (120*FL.length+120*(FR.take j).length) (zbp NL1 BL1 (FR.take j)):=hro;obtain⟨⟨NLk,BLk,A⟩,hA⟩:∃s,zbp NL1 BL1 (FR.take j)=s:=⟨_,rfl⟩;rw[hA]at hm hro hnx;have hwf:=HF1.out.trans hm.fr (fun _ _ q=>q);have d1:w17.cell? ⟨b1,o1+j,none⟩=some (.slice an Fm.length cn):=hwf.cell c1 (fun q=>q);have hlen:NLk.length≤120*FL.length+120*j:=by have h1:=hro.len;rw[List.length_take,Nat.min_eq_left (by omega)]at h1;exact h1
     have hal:A.length=j:=by
      have h1:=zgp (FR.take j) (NL1,BL1,[]);have h1:(zbp NL1 BL1 (FR.take j)).2.2.length=0+(FR.take j).length:=h1;rw[hA,List.length_take,Nat.min_eq_left (by omega)]at h1;have h1:A.length=0+j:=h1;omega
     have hroot:=zo5 (R:=(· < w.heap.size)) bb (.slice an Fm.length cn) NLk Fm BLk w17 hm.book hro.ok (hN.fr0 hwf) (fun k hk hS=>by have h1:k<w.heap.size:=hk;have:=(hm.sub k hS).1;have:=HS1.out;omega) hg.opts (by have:=hg.le;omega) (fun y hy=>by have:=hg.lens y hy;omega) hg.pos;have HRoot:=Hh hroot;have HM2:=Hh hm;have HNx:=Hh hnx;have HAl:=Hh hal;have HA:=Hh hA;clear hroot hm hnx hal hA hro hlen hN hg hFm hFe hnv c1 hwf;go_wp2_with fail;refine HRoot.out.mono ?_
     rintro e w18 ⟨S',rfl,b8,s8,f8⟩;have hM8:=HM2.out.root (s':=((addB NLk BLk Fm).1,(addB NLk BLk Fm).2.1)) b8 s8 f8;obtain⟨x,hx⟩:∃x,x=zff NLk BLk Fm:=⟨_,rfl⟩;rw[←hx];have HM8:=Hh hM8;have HX:=Hh hx;clear hM8 b8 s8 f8 hx d1 ix;go_wp2_with (at_builtin;refine zag (enc:=encN) _ rfl (.tmp 35) (.tmp 42) 26 rfl w1.heap.size 3 (.int .i64 0) 8 Tryz.underlying26 zaa rfl u A.length (A.map encN) rfl (za1 HM8.out.own1 ((Fr.refl NoM w18).alloc _) (fun _ _ q=>q)) (.slice (some ⟨w18.heap.size,0,none⟩) 1 1) rfl [x] (SliceOf.one encN w18 x 3) (fun _=>rfl) (by have:=HAl.out;simp;omega) (by decide) (by have:=HM8.out.fr.size;rw[World.size_alloc];omega) ?_);intro v9 w9 h9 f9 q9;have hM9:=HM8.out.app ((Fr.refl NoM w18).alloc _) h9 f9 (by rw[World.size_alloc];exact q9);have HM9:=Hh hM9;clear hM9 h9 f9 q9;go_wp2;go_roundw
     case rel =>
      refine⟨j+1,fun k=>S' k/\k<w18.heap.size,v9,rfl,by go_num,by omega,?_⟩;have h:=HM9.out;rw[HNx.out];rw[HX.out]at h;exact h
     case measure=>simp[intOf];omega
    ·have hje:j=FR.length:=by omega
     subst hje;rw[List.take_length]at hm;clear hlt hj;have hro:=zek (FL:=FR) HSt.out GR.out;have hle:=yag (FL:=FR) HSt.out GR.out;have hro:RootsOK (120*FL.length+120*FR.length) (zbp NL1 BL1 FR):=hro;have hle:NL1.length≤(zbp NL1 BL1 FR).1.length:=hle;have hal:=zgp FR (NL1,BL1,[]);have hal:(zbp NL1 BL1 FR).2.2.length=0+FR.length:=hal;obtain⟨⟨NL2,BL2,A2⟩,hA2⟩:∃s,zbp NL1 BL1 FR=s:=⟨_,rfl⟩;rw[hA2]at hm hro hal hle;have hlen:NL2.length≤120*FL.length+120*FR.length:=hro.len;have hA1l:∀x∈A1,x<NL2.length:=fun x hx=>Nat.lt_of_lt_of_le (HRo.out.lt x hx) hle
     have hA2l:∀x∈A2,x<NL2.length:=fun x hx=>hro.lt x hx
     have hal:A2.length=FR.length:=by have h1:A2.length=0+FR.length:=hal;omega
     obtain⟨k1,k2,k3,k4,k5⟩:=zxp hro.ok A1 A2 hA1l hA2l;have hup:=zxn (BL:=BL2) hro.up A1 A2;have hfin:zpq FL FR=zd5 (putB NL2 BL2 A1 A2).1 (putB NL2 BL2 A1 A2).2.1 (putB NL2 BL2 A1 A2).2.2:=by
      unfold zpq;simp only[HA1.out,hA2]
     have hput:=zhd bb v u NL2 BL2 A1 A2 w17 hm.book (SliceOf.of_owns hm.own2 rfl) (SliceOf.of_owns hm.own1 rfl) (fun j x hx=>hA1l x (List.mem_of_getElem? hx)) (fun j x hx=>hA2l x (List.mem_of_getElem? hx)) (by have:=HAl1.out;omega) (by omega) (by omega)
      (fun x hx=>by have:=hro.ok.lt NL2.length (Nat.le_refl _) x hx;omega)
     have hlens:=hup.lens k1;have HPut:=Hh hput;have HM2:=Hh hm;have HFin:=Hh hfin;have HK:=Hh (And.intro k1 (And.intro k2 (And.intro k3 hlens)));have HLen:=Hh hlen;clear hput hm hfin k1 k2 k3 k4 k5 hlens hlen hup hA1l hA2l hal hle hro hA2;go_wp2_with fail;refine HPut.out.mono ?_
     rintro e w18 ⟨rfl,b8,f8⟩;obtain⟨x,hx⟩:∃x,x=(putB NL2 BL2 A1 A2).2.2:=⟨_,rfl⟩;have hform:=zoh bb x _ _ w18 b8 HK.out.1 (by rw[hx];exact HK.out.2.1) (by have:=HK.out.2.2.1;have:=HLen.out;omega) (fun y hy=>by have:=HK.out.2.2.2 y hy;have:=HK.out.2.2.1;have:=HLen.out;omega);have hf8:Fr NoM w1 w18:=HM2.out.fr.trans f8 (fun q hq e=>by
      have h1:=(HM2.out.sub q (HM2.out.book.m q e)).1;omega)
     rw[←hx];have HForm:=Hh hform;have HF8:=Hh hf8;have HX:=Hh hx;clear hform hf8 b8 f8 hx;go_wp2_with fail;refine HForm.out.mono ?_
     rintro e w19 ⟨v',rfl,n9,f9⟩;obtain⟨av,cv,rfl,z⟩:=id n9.nodeL;clear z;have hb9:=(HF8.out.trans f9 (fun _ _ q=>q)).heap HB1.out (fun q=>q);have k9:w19.cell? ⟨w.heap.size,0,none⟩=some (.slice none 0 0):=by rw[cell_of_row w19 _ 0 _ _ _ hb9];rfl
     have z9:w19.frozen? ⟨w.heap.size,0,none⟩=false:=by simp[World.frozen?,hb9]
     have HN9:=Hh n9;have HF9:=Hh f9;clear n9 f9 hb9;go_wp2;refine bodyPost_ret (v:=.agg #[.slice av (zd5 (putB NL2 BL2 A1 A2).1 (putB NL2 BL2 A1 A2).2.1 x).length cv]) (by simp[results,Tryz.results87,go_sem,k9]) rfl ?_
     have hlow:w.heap.size<w18.heap.size:=by have:=HF8.out.size;have:=HS1.out;omega
     refine⟨_,rfl,?_,(((HF1.out.trans HF8.out (fun _ _ q=>q)).trans HF9.out (fun _ _ q=>q))).setCell _ _ (fun h=>absurd h (Nat.lt_irrefl _))⟩;rw[HFin.out,←HX.out];refine(HN9.out.fr (Fr.set w19 ⟨w.heap.size,0,none⟩ _) (fun q hq e=>?_)).mono (Nat.le_of_lt hlow);have e:q=w.heap.size:=e;omega
theorem SliceOf.unmap {α β:Type}{enc:α→Value}{enc':β→Value}{w:World}{v:Value}{L:List α}{f:α→β}(h:SliceOf enc' w v (L.map f))(hf:∀x,enc' (f x)=enc x):SliceOf enc w v L:=by
 obtain⟨a,c,rfl,h1,h2,h3⟩:=h;refine⟨a,c,by simp,by simpa using h1,h2,fun j x hx=>?_⟩;obtain⟨b,off,ha,hc⟩:=h3 j (f x) (by rw[List.getElem?_map,hx];rfl);exact⟨b,off,ha,by rw[←hf];exact hc⟩
theorem NodeL.toI {R:Nat→Prop}{w:World}{v:Value}{Fm:List PL}(h:NodeL R encN w v Fm):NodeL R encI w v (i2 Fm):=by
 obtain⟨a,c,rfl,h1,h2,h3⟩:=h;refine⟨a,c,by rw[zcg],by rw[zcg];exact h1,h2,fun j y hy=>?_⟩;obtain⟨x,hx,rfl⟩:=ycp hy;obtain⟨b,off,lv,rv,ha,hb,c1,c2,s1,s2,r1,r2⟩:=h3 j x hx;exact⟨b,off,lv,rv,ha,hb,c1,c2,Nats.ints s1,Nats.ints s2,fun hne=>r1 (fun e=>hne (by rw[e];rfl)),fun hne=>r2 (fun e=>hne (by rw[e];rfl))⟩
theorem NodeL.ofI {R:Nat→Prop}{w:World}{v:Value}{Fm:List PL}(h:NodeL R encI w v (i2 Fm)):NodeL R encN w v Fm:=by
 obtain⟨a,c,rfl,h1,h2,h3⟩:=h;rw[zcg]at h1 ⊢;refine⟨a,c,rfl,h1,h2,fun j x hx=>?_⟩;obtain⟨b,off,lv,rv,ha,hb,c1,c2,s1,s2,r1,r2⟩:=h3 j (ints x.1,ints x.2) (by unfold i2;rw[List.getElem?_map,hx];rfl);have hne:∀L:List Nat,L≠[]→ints L≠[]:=fun L h e=>h (by unfold ints at e;simpa using e)
 exact⟨b,off,lv,rv,ha,hb,c1,c2,SliceOf.unmap s1 (fun _=>rfl),SliceOf.unmap s2 (fun _=>rfl),fun h=>r1 (hne _ h),fun h=>r2 (hne _ h)⟩
theorem ybn {Fm:List PL}(h:zam Fm=true)(ho:∀(j:Nat) (y:PL),Fm[j]?=some y→(∀i∈y.1,i<j)/\∀i∈y.2,i<j):GoodF Fm:=by
 obtain⟨h1,h2,h3⟩:=of_decide_eq_true h;exact⟨by omega,h1,ho,fun y hy=>by have:=h3 y hy;omega⟩
set_option maxRecDepth 4000 in
set_option maxHeartbeats 4000000 in
theorem ziq {R:Nat→Prop}(nv:Value)(Fi:List (List Int × List Int))(w:World)(h:NodeL R encI w nv Fi) :
  Calls Tryz.prog 64 #[.agg #[nv]] w fun e w'=>∃b,e=.returned (.bool b)/\(b=true↔zb2 Fi)/\Fr NoM w w':=by
 have hN:=h.low;obtain⟨a,c,rfl,h1,h2,h3⟩:=id h;clear h h1 h2;obtain⟨w1,hw1⟩:∃w1,w1=w.alloc (.cells #[.slice a Fi.length c] 31):=⟨_,rfl⟩;have hf1:Fr NoM w w1:=by rw[hw1];exact(Fr.refl NoM w).alloc _
 have hb1:w1.heap[w.heap.size]?=some (.cells #[.slice a Fi.length c] 31 (0,0)):=by rw[hw1];exact heap_alloc_new w _
 have HK:=Hh (fun(W:World) (f:Fr NoM w1 W)=>show W.cell? ⟨w.heap.size,0,none⟩=some (.slice a Fi.length c)from by rw[cell_of_row W _ 0 _ _ _ (f.heap hb1 (fun q=>q))];rfl);have HRd:=Hh (fun(k:Nat) (hk:k<Fi.length) (W:World) (f:Fr NoM w1 W)=>show ∃b off al cl ar cr,a=some ⟨b,off,none⟩/\W.cell? ⟨b,off+k*2,none⟩=some (.slice al Fi[k].1.length cl)/\W.cell? ⟨b,off+k*2+1,none⟩=some (.slice ar Fi[k].2.length cr)/\Ints W (.slice al Fi[k].1.length cl) Fi[k].1/\Ints W (.slice ar Fi[k].2.length cr) Fi[k].2 from by
  obtain⟨b,off,lv,rv,ha,_,c1,c2,s1,s2,_,_⟩:=h3 k Fi[k] (List.getElem?_eq_getElem hk);have f0:=hf1.trans f (fun _ _ q=>q);have s1:=s1.fr0 f0;have s2:=s2.fr0 f0;obtain⟨al,cl,rfl,_⟩:=id s1;obtain⟨ar,cr,rfl,_⟩:=id s2;exact⟨b,off,al,cl,ar,cr,ha,f0.cell c1 (fun q=>q),f0.cell c2 (fun q=>q),s1,s2⟩)
 have HN:=Hh hN;have HF1:=Hh hf1;have HB1:=Hh hb1;have hk1:=HK.out w1 (Fr.refl _ _);clear hN hf1 hb1 h3;go_enter Tryz.func64,Tryz.ntmps64;go_wp2_with fail;rw[←hw1];clear hw1;refine(znk (.slice a Fi.length c) Fi w1 (HN.out.fr0 HF1.out)).mono ?_
 rintro e w2 ⟨rfl,f2⟩;have F2:=Hh f2;clear f2 hk1;cases hfit:zam Fi with
 | false =>
  have HFit:=Hh hfit;clear hfit;go_wp2;go_ret;exact⟨false,rfl,⟨fun e=>(by cases e),fun e=>by have:=e.1;rw[HFit.out]at this;cases this⟩,HF1.out.trans F2.out (fun _ _ q=>q)⟩
 | true =>
  have HFit:=Hh hfit;clear hfit;go_wp2_with fail;go_loopw [3] (fun i W=>∃k:Nat,i=.int .i64 k/\k≤Fi.length/\risI Fi k/\Fr NoM w1 W) (fun i _=>Fi.length-(intOf i).toNat)
  case atStart=>exact⟨0,rfl,Nat.zero_le _,fun j y hj=>by omega,F2.out⟩
  case round =>
   obtain⟨k,rfl,hk,hris,hfr⟩:=hrel;obtain⟨w3,rfl⟩:∃w3,w3=wr:=⟨_,rfl⟩;have HRis:=Hh hris;have HFr:=Hh hfr;have HKl:=Hh hk;clear hris hfr hk;have k3:=HK.out w3 HFr.out;have hfl:Fi.length≤120:=(of_decide_eq_true HFit.out).1;by_cases hlt:k<Fi.length
   ·obtain⟨b,off,al,cl,ar,cr,ha,c1,c2,s1,s2⟩:=HRd.out k hlt w3 HFr.out
    subst ha;have ix:=zbe (some ⟨b,off,none⟩) Fi.length c k b off hlt rfl;have hc1:=zk5 (.slice al Fi[k].1.length cl) Fi[k].1 0 ((k:Int)-1) w3 s1;obtain⟨b1,hb1⟩:∃b1,b1=zar 0 ((k:Int)-1) none Fi[k].1:=⟨_,rfl⟩;obtain⟨b2,hb2⟩:∃b2,b2=zar 0 ((k:Int)-1) none Fi[k].2:=⟨_,rfl⟩;have HC2:=Hh (fun(W:World) (f:Fr NoM w3 W)=>zk5 (.slice ar Fi[k].2.length cr) Fi[k].2 0 ((k:Int)-1) W (s2.fr0 f));rw[←hb1]at hc1;rw[←hb2]at HC2;have HCell:=Hh (fun(W:World) (f:Fr NoM w3 W)=>show W.cell? ⟨w.heap.size,0,none⟩=some (.slice (some ⟨b,off,none⟩) Fi.length c)/\W.cell? ⟨b,off+k*2+1,none⟩=some (.slice ar Fi[k].2.length cr)from⟨f.cell k3 (fun q=>q),f.cell c2 (fun q=>q)⟩);have HC1:=Hh hc1;have HB1':=Hh hb1;have HB2':=Hh hb2;clear hc1 hb1 hb2 s1 s2 c2;go_wp2_with fail;refine HC1.out.mono ?_
    rintro e w4 ⟨rfl,q,hw4⟩;have hf4:Fr NoM w3 w4:=by rw[hw4];exact⟨rfl,rfl,rfl,Nat.le_refl _,fun _ _ _=>rfl⟩
    obtain⟨k4,c4⟩:=HCell.out w4 hf4;have hc2:=HC2.out w4 hf4;have HC2':=Hh hc2;have HF4:=Hh hf4;clear hc2 hf4 hw4 k3 c1;cases hb:b1 with
    | false =>
     have HBad:=Hh (show zar 0 ((k:Int)-1) none Fi[k].1=false from by rw[←HB1'.out,hb]);subst hb;go_wp2;go_ret;exact⟨false,rfl,⟨fun e=>(by cases e),fun e=>by have h1:=(e.2.1 k Fi[k] hlt (List.getElem?_eq_getElem hlt)).1;rw[HBad.out]at h1;cases h1⟩,(HF1.out.trans HFr.out (fun _ _ q=>q)).trans HF4.out (fun _ _ q=>q)⟩
    | true =>
     have HGood:=Hh (show zar 0 ((k:Int)-1) none Fi[k].1=true from by rw[←HB1'.out,hb]);subst hb;go_wp2_with fail;refine HC2'.out.mono ?_
     rintro e w5 ⟨rfl,q5,hw5⟩;have hf5:Fr NoM w4 w5:=by rw[hw5];exact⟨rfl,rfl,rfl,Nat.le_refl _,fun _ _ _=>rfl⟩
     have HF5:=Hh hf5;clear hf5 hw5 k4 c4;cases hb:b2 with
     | false =>
      have HBad:=Hh (show zar 0 ((k:Int)-1) none Fi[k].2=false from by rw[←HB2'.out,hb]);subst hb;go_wp2;go_ret;exact⟨false,rfl,⟨fun e=>(by cases e),fun e=>by have h1:=(e.2.1 k Fi[k] hlt (List.getElem?_eq_getElem hlt)).2;rw[HBad.out]at h1;cases h1⟩,((HF1.out.trans HFr.out (fun _ _ q=>q)).trans HF4.out (fun _ _ q=>q)).trans HF5.out (fun _ _ q=>q)⟩
     | true =>
      have HGood2:=Hh (show zar 0 ((k:Int)-1) none Fi[k].2=true from by rw[←HB2'.out,hb]);subst hb;go_wp2;go_roundw
      case rel =>
       refine⟨k+1,by go_num,by omega,fun j y hj hy=>?_,(HFr.out.trans HF4.out (fun _ _ q=>q)).trans HF5.out (fun _ _ q=>q)⟩;by_cases e:j=k
       ·subst e
        rw[List.getElem?_eq_getElem hlt]at hy;cases hy
        exact⟨HGood.out,HGood2.out⟩
       ·exact HRis.out j y (by omega) hy
      case measure=>simp[intOf];omega
   ·have hke:k=Fi.length:=by have:=HKl.out;omega
    subst hke;obtain⟨Fm,hFm,ho,hu⟩:=zkh HRis.out;have hgF:GoodF Fm:=ybn (by rw[←zhm,←hFm];exact HFit.out) ho;have hfin:∀b:Bool,b=decide (i2 (zd5 (addB [] [] Fm).1 (addB [] [] Fm).2.1 (zff [] [] Fm))=Fi)→(b=true↔zb2 Fi):=fun b hb=>by
     rw[hb,decide_eq_true_iff];constructor
     ·intro e
      refine⟨HFit.out,HRis.out,fun F' hF'=>?_⟩;have e1:Fm=F':=ztv (hFm.symm.trans hF');subst e1;rw[hFm]at e;exact ztv e
     ·intro e
      rw[e.2.2 Fm hFm];exact hFm.symm
    obtain⟨k1,k2,k3',k4,k5⟩:=zgi BookOK.nil Fm hgF.opts;have hup:=zzv (BL:=[]) BookUp.nil Fm;have hlens:=hup.lens k1;obtain⟨NL1,hNL⟩:∃x,x=(addB [] [] Fm).1:=⟨_,rfl⟩;obtain⟨BL1,hBL⟩:∃x,x=(addB [] [] Fm).2.1:=⟨_,rfl⟩;obtain⟨x,hx⟩:∃x,x=zff [] [] Fm:=⟨_,rfl⟩;have hxl:x<NL1.length:=by
     rw[hx,hNL];unfold zff;have hp:=hgF.pos;rw[List.getD_eq_getElem?_getD,List.getElem?_eq_getElem (by omega)];exact k3' _ (List.getElem_mem _)
    have hnl:NL1.length≤120:=by have h1:=hgF.le;have h2:(addB [] [] Fm).1.length≤0+Fm.length:=k4;rw[hNL];omega
    rw[←hNL,←hBL,←hx]at hfin;rw[←hNL,←hBL]at k1;rw[←hNL]at hlens;obtain⟨w5,hw5⟩:∃w5,w5=w3.alloc (.cells #[.slice none 0 0,.slice none 0 0] 137):=⟨_,rfl⟩;have hf5:Fr NoM w3 w5:=by rw[hw5];exact(Fr.refl NoM w3).alloc _
    have hb5:w5.heap[w3.heap.size]?=some (.cells #[.slice none 0 0,.slice none 0 0] 137 (0,0)):=by rw[hw5];exact heap_alloc_new w3 _
    obtain⟨bb,hbb⟩:∃bb,bb=w3.heap.size:=⟨_,rfl⟩;rw[←hbb]at hb5;have hwb:w.heap.size<bb:=by
     have e1:=HFr.out.size;have e2:w.heap.size<w1.heap.size:=(Array.getElem?_eq_some_iff.1 HB1.out).1;omega
    have hf05:=(HF1.out.trans HFr.out (fun _ _ q=>q)).trans hf5 (fun _ _ q=>q);have hNm:NodeL (· < w.heap.size) encN w5 (.slice a Fi.length c) Fm:=by
     have h:=HN.out.fr0 hf05;rw[hFm]at h ⊢;exact h.ofI
    have HRoot:=Hh (fun(W:World) (f:Fr NoM w5 W)=>show Calls Tryz.prog 125 #[.pointer (some ⟨bb,0,none⟩),.agg #[.slice a Fi.length c]] W fun e w'=>∃S',e=.returned (.int .i64 (x:Nat))/\BookS S' w' bb NL1 BL1/\(∀k,S' k→k=bb∨W.heap.size≤k)/\Fr (fun k=>k=bb) W w' from by
     have h:=zo5 (R:=(· < w.heap.size)) bb (.slice a Fi.length c) [] Fm [] W ((BookS.made hb5).fr0 f) BookOK.nil (hNm.fr0 f) (fun k hk e=>by have hk:k<w.heap.size:=hk;omega) hgF.opts (by have:=hgF.le;simp;omega) (fun y hy=>by have:=hgF.lens y hy;omega) hgF.pos;rw[←hNL,←hBL,←hx]at h;exact h)
    have HForm:=Hh (fun(S':Nat→Prop) (W:World) (b:BookS S' W bb NL1 BL1)=>zks bb x NL1 BL1 W b k1 hxl (by omega) (fun y hy=>by have:=hlens y hy;omega));have HSame:=Hh (fun(W:World) (f:Fr (fun k=>k=bb) w5 W) (R2:Nat→Prop) (v':Value) (G:List PL) (n:NodeL R2 encN W v' G)=>zv9 v' (.slice a Fi.length c) (i2 G) Fi W n.toI ((HN.out.fr0 hf05).fr f (fun k hk e=>by have hk:k<w.heap.size:=hk;omega)));have HCell:=Hh (fun(W:World) (f:Fr (fun k=>k=bb) w5 W)=>show W.cell? ⟨w.heap.size,0,none⟩=some (.slice a Fi.length c)from f.cell (hf5.cell k3 (fun q=>q)) (fun e=>by have e:w.heap.size=bb:=e;omega));have HFin:=Hh hfin;have HBb:=Hh hbb;have HF05:=Hh hf05;have HWb:=Hh hwb;clear hfin hf5 hb5 hf05 hNm hwb k1 k2 k3' k4 k5 hup hlens hNL hBL hx hxl hnl hgF ho hu hFm;go_upto_region 9 with fail;rw[←hw5,←hbb];have HW5:=Hh hw5;clear hw5 hbb k3;have F0:Fr NoM w5 w5.drew:=(Fr.refl NoM w5).drew;have G0:Fr (fun k=>k=bb) w5 w5.drew:=(Fr.refl _ w5).drew;have hc5:=HCell.out w5 (Fr.refl _ _);go_region_held3 (fun(W:World)=>W.cell? ⟨w.heap.size,0,none⟩=some (.slice a Fi.length c))
     (exact HCell.out _ (by assumption))
     (first
      | (go_at_call 125;(with_reducible refine(HRoot.out _ (by assumption)).mono ?_);rintro e w6 ⟨S',rfl,b6,s6,f6⟩;have G6:Fr (fun k=>k=bb) w5 w6:=Fr.trans (by assumption) f6 (fun _ _ q=>q))
      | (go_at_call 124;(with_reducible refine(HForm.out _ _ b6).mono ?_);rintro e w7 ⟨v7,rfl,n7,f7⟩;obtain⟨a7,c7,rfl,z7⟩:=id n7;clear z7;have G7:Fr (fun k=>k=bb) w5 w7:=Fr.trans G6 f7 (fun _ _ q=>q.elim))
      | (go_at_call 123;(with_reducible refine(HSame.out _ (by assumption) _ _ _ n7).mono ?_);rintro e w8 ⟨rfl,f8⟩;have G8:Fr (fun k=>k=bb) w5 w8:=Fr.trans G7 f8 (fun _ _ q=>q.elim))
      | fail)
    all_goals
     have HG8:=Hh G8;clear n7 f7 f8 G6 G7 G8 b6 s6 f6 hc5 F0 G0;obtain⟨bR,hbR⟩:∃bR,bR=decide (i2 (zd5 NL1 BL1 x)=Fi):=⟨_,rfl⟩;rw[←hbR];have HBR:=Hh hbR;clear hbR;go_wp2;go_ret;refine⟨bR,rfl,HFin.out bR HBR.out,HF05.out.trans HG8.out (fun q hq e=>?_)⟩;have:=HWb.out;omega
structure BkSt (w1 W:World) (bb:Nat) (V:List PL) (BV:List Nat) (S:Nat→Prop) (v1:Value) (A1 c1:List Nat) (v2:Value) (A2 c2:List Nat) (v3:Value) (A3 c3:List Nat):Prop where
 book:BookS S W bb V BV
 ok:PoolOK V BV
 sub:∀q,S q→w1.heap.size≤q/\q<W.heap.size
 o1:W.ownsRow w1.heap.size 3 1 v1 A1.length (A1.map encN)
 o2:W.ownsRow w1.heap.size 3 1 v2 A2.length (A2.map encN)
 o3:W.ownsRow w1.heap.size 3 1 v3 A3.length (A3.map encN)
 n1:∀b,v1.ownBlock=some b→¬S b
 n2:∀b,v2.ownBlock=some b→¬S b
 n3:∀b,v3.ownBlock=some b→¬S b
 s12:∀b,v1.ownBlock=some b→v2.ownBlock≠some b
 s13:∀b,v1.ownBlock=some b→v3.ownBlock≠some b
 s23:∀b,v2.ownBlock=some b→v3.ownBlock≠some b
 r1:RowC V A1 c1
 r2:RowC V A2 c2
 r3:RowC V A3 c3
 fr:Fr NoM w1 W
section
variable {w1 W W' Wa:World}{bb:Nat}{V:List PL}{BV:List Nat}{S S':Nat→Prop}{v1 v2 v3 v4:Value}{A1 c1 A2 c2 A3 c3:List Nat}{x c:Nat}
theorem BkSt.swap12 (h:BkSt w1 W bb V BV S v1 A1 c1 v2 A2 c2 v3 A3 c3):BkSt w1 W bb V BV S v2 A2 c2 v1 A1 c1 v3 A3 c3 :=
 ⟨h.book,h.ok,h.sub,h.o2,h.o1,h.o3,h.n2,h.n1,h.n3,fun b p q=>h.s12 b q p,h.s23,h.s13,h.r2,h.r1,h.r3,h.fr⟩
theorem BkSt.swap13 (h:BkSt w1 W bb V BV S v1 A1 c1 v2 A2 c2 v3 A3 c3):BkSt w1 W bb V BV S v3 A3 c3 v2 A2 c2 v1 A1 c1 :=
 ⟨h.book,h.ok,h.sub,h.o3,h.o2,h.o1,h.n3,h.n2,h.n1,fun b p q=>h.s23 b q p,fun b p q=>h.s13 b q p,fun b p q=>h.s12 b q p,h.r3,h.r2,h.r1,h.fr⟩
theorem BkSt.fr0 (h:BkSt w1 W bb V BV S v1 A1 c1 v2 A2 c2 v3 A3 c3)(hf:Fr NoM W W'):BkSt w1 W' bb V BV S v1 A1 c1 v2 A2 c2 v3 A3 c3 :=
 ⟨h.book.fr0 hf,h.ok,fun q hq=>⟨(h.sub q hq).1,Nat.lt_of_lt_of_le (h.sub q hq).2 hf.size⟩,za1 h.o1 hf (fun _ _ q=>q),za1 h.o2 hf (fun _ _ q=>q),za1 h.o3 hf (fun _ _ q=>q),h.n1,h.n2,h.n3,h.s12,h.s13,h.s23,h.r1,h.r2,h.r3,h.fr.trans hf (fun _ _ q=>q)⟩
theorem BkSt.app (h:BkSt w1 W bb V BV S v1 A1 c1 v2 A2 c2 v3 A3 c3)(ha:Fr NoM W Wa)(ho:W'.ownsRow w1.heap.size 3 1 v4 (A1.length+1) (A1.map encN ++ [x].map encN))(hf:Fr (Own1 v1) Wa W')(hq:v4.ownBlock=v1.ownBlock∨∃b,v4.ownBlock=some b/\Wa.heap.size≤b)(hx:x<V.length)(hc:(za0 V).getD x 0=c) :
  BkSt w1 W' bb V BV S v4 (A1 ++ [x]) (c1 ++ [c]) v2 A2 c2 v3 A3 c3:=by
 have h:=h.fr0 ha;have hlt:∀b,v4.ownBlock=some b→v1.ownBlock=some b∨Wa.heap.size≤b:=fun b hb=>by
  rcases hq with h1|⟨b',h1,h2⟩
  ·rw[h1]at hb;exact .inl hb
  ·rw[h1]at hb;cases hb;exact .inr h2
 exact⟨h.book.fr hf (fun k hk e=>h.n1 k e hk),h.ok,fun q hq=>⟨(h.sub q hq).1,Nat.lt_of_lt_of_le (h.sub q hq).2 hf.size⟩,by rw[List.length_append,List.map_append];exact ho,za1 h.o2 hf (fun b hb e=>h.s12 b e hb),za1 h.o3 hf (fun b hb e=>h.s13 b e hb),
  fun b hb hS=>by
   rcases hlt b hb with h1|h1
   ·exact h.n1 b h1 hS
   ·have:=(h.sub b hS).2;omega,
  h.n2,h.n3,fun b hb hu=>by
   rcases hlt b hb with h1|h1
   ·exact h.s12 b h1 hu
   ·have:=(h.o2.lt b hu).2;omega,fun b hb hu=>by
   rcases hlt b hb with h1|h1
   ·exact h.s13 b h1 hu
   ·have:=(h.o3.lt b hu).2;omega,h.s23,h.r1.snoc hx hc,h.r2,h.r3,
  h.fr.trans hf (fun q hq e=>by have:=(h.o1.lt q e).1;omega)⟩
theorem BkSt.rows (h:BkSt w1 W bb V BV S v1 A1 c1 v2 A2 c2 v3 A3 c3)(hW:W'=(W.alloc (.cells #[] 3)).alloc (.cells #[] 3)) :
  BkSt w1 W' bb V BV S v1 A1 c1 (.slice (some ⟨W.heap.size,0,none⟩) 0 0) [] [] (.slice (some ⟨W.heap.size+1,0,none⟩) 0 0) [] []:=by
 have hf:Fr NoM W W':=by rw[hW];exact((Fr.refl NoM W).alloc _).alloc _
 have h0:=h;have h:=h.fr0 hf;have hs:W'.heap.size=W.heap.size+2:=by rw[hW];simp
 have hw:=h.fr.size;have m1:W'.ownsRow W.heap.size 3 1 (.slice (some ⟨W.heap.size,0,none⟩) 0 0) 0 []:=by
  rw[hW];exact za1 (World.ownsRow_made W #[] 0 (Nat.le_refl _) (by decide) (by simp)) ((Fr.refl NoM _).alloc _) (fun _ _ q=>q)
 have m2:W'.ownsRow (W.heap.size+1) 3 1 (.slice (some ⟨W.heap.size+1,0,none⟩) 0 0) 0 []:=by
  have h:((W.alloc (.cells #[] 3)).alloc (.cells #[] 3)).ownsRow (W.alloc (.cells #[] 3)).heap.size 3 1 (.slice (some ⟨(W.alloc (.cells #[] 3)).heap.size,0,none⟩) 0 0) 0 []:=World.ownsRow_made (W.alloc (.cells #[] 3)) #[] 0 (Nat.le_refl _) (by decide) (by simp);rw[World.size_alloc,←hW]at h;exact h
 exact⟨h.book,h.ok,h.sub,h.o1,zay m1 h0.fr.size,zay m2 (by have:=h0.fr.size;omega),h.n1,fun b hb hS=>by
   have e:W.heap.size=b:=Option.some.inj hb;have:=(h0.sub b hS).2;omega,fun b hb hS=>by
   have e:W.heap.size+1=b:=Option.some.inj hb;have:=(h0.sub b hS).2;omega,fun b hb hu=>by
   have e:W.heap.size=b:=Option.some.inj hu;have:=(h0.o1.lt b hb).2;omega,fun b hb hu=>by
   have e:W.heap.size+1=b:=Option.some.inj hu;have:=(h0.o1.lt b hb).2;omega,fun b hb hu=>by
   have e:W.heap.size=b:=Option.some.inj hb;have e':W.heap.size+1=b:=Option.some.inj hu;omega,h.r1,RowC.nil _,RowC.nil _,h.fr⟩
theorem BkSt.close (h:BkSt w1 W bb V BV S v1 A1 c1 v2 A2 c2 v3 A3 c3):BkSt w1 W bb V BV S v1 A1 c1 (.slice none 0 0) [] [] (.slice none 0 0) [] [] :=
 ⟨h.book,h.ok,h.sub,h.o1,World.ownsRow_nil W _ _ _,World.ownsRow_nil W _ _ _,h.n1,(fun b hb=>by cases hb),(fun b hb=>by cases hb),(fun b _ hb=>by cases hb),(fun b _ hb=>by cases hb),(fun b hb=>by cases hb),h.r1,RowC.nil _,RowC.nil _,h.fr⟩
theorem BkSt.put {L3 R3 cs ds:List Nat}(h:BkSt w1 W bb V BV S v1 A1 c1 v2 A2 c2 v3 A3 c3)(hL:RowC V L3 cs)(hR:RowC V R3 ds)(hb:BookS (fun k=>S k∨W.heap.size≤k) W' bb (putB V BV L3 R3).1 (putB V BV L3 R3).2.1)(hf:Fr (zcr W bb) W W') :
  BkSt w1 W' bb (za4 V BV L3 R3).1 (za4 V BV L3 R3).2.1 (fun k=>(S k∨W.heap.size≤k)/\k<W'.heap.size) v1 A1 c1 v2 A2 c2 v3 A3 c3/\(putB V BV L3 R3).2.2<(za4 V BV L3 R3).1.length/\(za0 (za4 V BV L3 R3).1).getD (putB V BV L3 R3).2.2 0=mkC cs ds ∧
   V <+: (za4 V BV L3 R3).1/\(za4 V BV L3 R3).1.length≤V.length+1:=by
 obtain⟨q1,q2,q3,q4⟩:=zev h.ok hL hR;obtain⟨_,q5,_⟩:=zd2 V BV L3 R3;rw[zcf h.ok]at hb ⊢;have hm:=h.book.m;have hsz:=h.fr.size;refine⟨⟨hb.cut,q1,fun q hq=>⟨hq.1.elim (fun e=>(h.sub q e).1) (fun e=>by omega),hq.2⟩,za1 h.o1 hf (fun b e z=>h.n1 b e (hm b z)),za1 h.o2 hf (fun b e z=>h.n2 b e (hm b z)),za1 h.o3 hf (fun b e z=>h.n3 b e (hm b z)),
  fun b e z=>z.1.elim (h.n1 b e) (fun k=>by have:=(h.o1.lt b e).2;omega),fun b e z=>z.1.elim (h.n2 b e) (fun k=>by have:=(h.o2.lt b e).2;omega),fun b e z=>z.1.elim (h.n3 b e) (fun k=>by have:=(h.o3.lt b e).2;omega),
  h.s12,h.s13,h.s23,h.r1.mono q2,h.r2.mono q2,h.r3.mono q2,h.fr.trans hf (fun q hq z=>by have:=(h.sub q (hm q z)).1;omega)⟩,q3,q4,q2,q5⟩
theorem BkSt.nats1 (h:BkSt w1 W bb V BV S v1 A1 c1 v2 A2 c2 v3 A3 c3):Nats W v1 A1:=SliceOf.of_owns h.o1 rfl
end
theorem yeg {Fs:List PL}(h:∀y∈Fs,y.1.length≤24/\y.2.length≤24){i:Nat}{y:PL}(hy:Fs[i]?=some y):y.1.length≤24/\y.2.length≤24:=h y (List.mem_of_getElem? hy)
set_option maxRecDepth 8000 in
set_option maxHeartbeats 16000000 in
theorem zyg {R S0:Nat→Prop}(v1 v2:Value)(Fs Gs:List PL)(w:World)(h1:NodeL R encN w v1 Fs)(h2:NodeL S0 encN w v2 Gs)(oF:OptsOK Fs)(oG:OptsOK Gs)(lF:∀y∈Fs,y.1.length≤24/\y.2.length≤24)(lG:∀y∈Gs,y.1.length≤24/\y.2.length≤24)(pF:0<Fs.length)(pG:0<Gs.length)(hFG:Fs.length*Gs.length≤1600) :
  Calls Tryz.prog 116 #[.agg #[v1],.agg #[v2]] w fun e w'=>∃v',e=.returned (.agg #[v'])/\NodeL (fun b=>w.heap.size≤b) encN w' v' (zak (sumC (zab Fs) (zab Gs)))/\Fr NoM w w':=by
 obtain⟨w3,hw3⟩:∃w3,w3=((w.alloc (.cells #[v1] 31)).alloc (.cells #[v2] 31)).alloc (.cells #[.slice none 0 0] 31):=⟨_,rfl⟩;have f3:Fr NoM w w3:=by rw[hw3];exact(((Fr.refl NoM w).alloc _).alloc _).alloc _
 have hs3:w3.heap.size=w.heap.size+3:=by rw[hw3];simp
 have e0:w3.heap[w.heap.size]?=some (.cells #[v1] 31 (0,0)):=by rw[hw3];exact(((Fr.refl NoM _).alloc _).alloc _).heap (heap_alloc_new w _) (fun q=>q)
 have e1:w3.heap[w.heap.size+1]?=some (.cells #[v2] 31 (0,0)):=by
  have h:=heap_alloc_new (w.alloc (.cells #[v1] 31)) (.cells #[v2] 31);rw[World.size_alloc]at h;rw[hw3];exact((Fr.refl NoM _).alloc _).heap h (fun q=>q)
 have e2:w3.heap[w.heap.size+2]?=some (.cells #[.slice none 0 0] 31 (0,0)):=by
  have h:=heap_alloc_new ((w.alloc (.cells #[v1] 31)).alloc (.cells #[v2] 31)) (.cells #[.slice none 0 0] 31);rw[World.size_alloc,World.size_alloc]at h;rw[hw3];exact h
 obtain⟨bb,hbb⟩:∃bb,bb=w.heap.size+1+1+1:=⟨_,rfl⟩;obtain⟨q0,hq0⟩:∃q0,q0=Value.slice (some ⟨w.heap.size+1+1+1+1,0,none⟩) 0 0:=⟨_,rfl⟩;obtain⟨w4,hw4⟩:∃w4,w4=w3.alloc (.cells #[.slice none 0 0,.slice none 0 0] 137):=⟨_,rfl⟩;have f4:Fr NoM w3 w4:=by rw[hw4];exact(Fr.refl NoM w3).alloc _
 have hs4:w4.heap.size=w.heap.size+4:=by rw[hw4];simp[hs3]
 have e4:w4.heap[bb]?=some (.cells #[.slice none 0 0,.slice none 0 0] 137 (0,0)):=by rw[hw4,hbb,show w.heap.size+1+1+1=w3.heap.size from by omega];exact heap_alloc_new w3 _
 obtain⟨w5,hw5⟩:∃w5,w5=w4.alloc (.cells #[] 3):=⟨_,rfl⟩;have f5:Fr NoM w4 w5:=by rw[hw5];exact(Fr.refl NoM w4).alloc _
 have hs5:w5.heap.size=w.heap.size+5:=by rw[hw5];simp[hs4]
 have m5:w5.ownsRow (w.heap.size+4) 3 1 (.slice (some ⟨w.heap.size+4,0,none⟩) 0 0) 0 []:=by
  have h:(w4.alloc (.cells #[] 3)).ownsRow w4.heap.size 3 1 (.slice (some ⟨w4.heap.size,0,none⟩) 0 0) 0 []:=World.ownsRow_made w4 #[] 0 (Nat.le_refl _) (by decide) (by simp);rw[hs4,←hw5]at h;exact h
 obtain⟨n,hn⟩:∃n,n=Gs.length:=⟨_,rfl⟩;obtain⟨nF,hnF⟩:∃nF,nF=Fs.length:=⟨_,rfl⟩;have hst:BkSt w3 w5 bb [] [] (fun q=>q=bb) q0 [] ((ze7 (za0 Fs) (za0 Gs)).take 0) (.slice none 0 0) [] [] (.slice none 0 0) [] [] :=
  ⟨(BookS.made e4).fr0 f5,PoolOK.nil,fun q hq=>⟨by rw[hq];omega,by rw[hq];omega⟩,(by rw[hq0];exact zay m5 (by omega)),World.ownsRow_nil _ _ _ _,World.ownsRow_nil _ _ _ _,fun b e hq=>by
   rw[hq0]at e;have e:w.heap.size+4=b:=Option.some.inj e;omega,(fun b hb=>by cases hb),(fun b hb=>by cases hb),(fun b _ hb=>by cases hb),(fun b _ hb=>by cases hb),(fun b hb=>by cases hb),RowC.nil _,RowC.nil _,RowC.nil _,f4.trans f5 (fun _ _ q=>q)⟩
 have H1:=Hh (h1.fr0 f3);have H2:=Hh (h2.fr0 f3);obtain⟨na1,nc1,rfl,z⟩:=id h1;clear z;obtain⟨na2,nc2,rfl,z⟩:=id h2;clear z;have HK:=Hh (fun(W:World) (f:Fr NoM w3 W)=>show W.cell? ⟨w.heap.size,0,none⟩=some (.slice na1 Fs.length nc1)/\W.cell? ⟨w.heap.size+1,0,none⟩=some (.slice na2 Gs.length nc2)/\W.cell? ⟨w.heap.size+2,0,none⟩=some (.slice none 0 0)/\W.frozen? ⟨w.heap.size+2,0,none⟩=false from by
  have k0:=f.heap e0 (fun q=>q);have k1:=f.heap e1 (fun q=>q);have k2:=f.heap e2 (fun q=>q);exact⟨by rw[cell_of_row W _ 0 _ _ _ k0];rfl,by rw[cell_of_row W _ 0 _ _ _ k1];rfl,by rw[cell_of_row W _ 0 _ _ _ k2];rfl,by simp[World.frozen?,k2]⟩)
 rw[←hnF,←hn]at hFG HK;have HSt:=Hh hst;have HF3:=Hh f3;have HS3:=Hh hs3;have OF:=Hh oF;have OG:=Hh oG;have LF:=Hh lF;have LG:=Hh lG;have HFG:=Hh hFG;have PF:=Hh pF;have PG:=Hh pG;have Hn:=Hh hn;have HnF:=Hh hnF;have HTab:=Hh (fun i k (hi:i<nF) (hk:k<n)=>show(ze7 (za0 Fs) (za0 Gs))[i*n+k]?=some (sumC ((za0 Fs).getD i 0) ((za0 Gs).getD k 0))from by
  have h:=zun (CF:=za0 Fs) (CG:=za0 Gs) (i:=i) (k:=k) (by rw[za3];omega) (by rw[za3];omega);rw[za3,←hn]at h;exact h)
 have hnb:n≤1600/\nF≤1600:=by
  constructor
  ·have:=Nat.le_mul_of_pos_left n (show 0<nF by omega);omega
  ·have:=Nat.le_mul_of_pos_right nF (show 0<n by omega);omega
 have HNb:=Hh hnb;rw[←hnF,←hn]at hw3 ⊢;clear h1 h2 oF oG lF lG pF pG hFG hnb hst hs3 e0 e1 e2 e4 f3 f4 f5 m5 hn hnF;obtain⟨k0,k1,k2,k3⟩:=HK.out w5 HSt.out.fr;go_enter Tryz.func116,Tryz.ntmps116;go_upto_region 4 with fail;rw[←hw3,←hw4,←hw5,←hq0,←hbb];clear hw3 hw4 hw5 hbb hq0 hs4 hs5;go_wp2_with fail;clear k0 k1 k2 k3;go_loopw [7,8] (fun v7 t W=>∃(i:Nat) (va:Value) (V:List PL) (BV:List Nat) (S:Nat→Prop) (A:List Nat),va=v7/\t=.int .i64 i/\i≤nF/\BkSt w3 W bb V BV S va A ((ze7 (za0 Fs) (za0 Gs)).take (i*n)) (.slice none 0 0) [] [] (.slice none 0 0) [] []/\V.length≤i*n) (fun _ t _=>nF-(intOf t).toNat)
 case atStart=>exact⟨0,_,[],[],_,[],rfl,rfl,Nat.zero_le _,by rw[Nat.zero_mul];exact HSt.out,Nat.zero_le _⟩
 case round =>
  obtain⟨i,va,V,BV,S,A,rfl,rfl,hi,hs,hV⟩:=hrel;obtain⟨w7,rfl⟩:∃w7,w7=wr:=⟨_,rfl⟩;have HS:=Hh hs;have HV:=Hh hV;obtain⟨k0,k1,k2,k3⟩:=HK.out w7 hs.fr;clear hs hV;by_cases hlt:i<nF
  ·obtain⟨X,hX⟩:∃X,Fs[i]?=some X:=⟨_,List.getElem?_eq_getElem (by have:=HnF.out;omega)⟩
   obtain⟨_,_,ee,_,_,hnn⟩:=id H1.out;obtain⟨rfl,hz,rfl⟩:=Value.slice.inj ee;clear ee hz;obtain⟨b1,o1,xl,xr,ha1,hR1,d1,d2,n1,n2,m1,m2⟩:=hnn i X hX;have ixn1:=zbe na1 nF nc1 i b1 o1 hlt ha1;have HXd:=Hh (fun(W:World) (f:Fr NoM w3 W)=>(⟨f.cell d1 (fun q=>q),f.cell d2 (fun q=>q),n1.fr0 f,n2.fr0 f⟩:W.cell? ⟨b1,o1+i*2,none⟩=some xl/\W.cell? ⟨b1,o1+i*2+1,none⟩=some xr/\Nats W xl X.1/\Nats W xr X.2));obtain⟨xla,xlc,rfl,z⟩:=id n1;clear z;obtain⟨xra,xrc,rfl,z⟩:=id n2;clear z;have HXo:=Hh (OF.out i X hX);have HXl:=Hh (yeg LF.out hX);have HXc:=Hh (zby Fs OF.out i X hX);obtain⟨q,hq⟩:∃q,q=i*n:=⟨_,rfl⟩;have hqb:q+n≤1600:=by
    have h:=Nat.mul_le_mul_right n (show i+1≤nF by omega);rw[Nat.succ_mul]at h;have:=HFG.out;omega
   have hmq:(i:Int)*(n:Int)=(q:Int):=by rw[hq];exact(Int.natCast_mul _ _).symm
   rw[←hq]at HS HV;have Hq:=Hh hq;have HQb:=Hh hqb;clear hX hnn ha1 hR1 d1 d2 n1 n2 m1 m2 hq;go_wp2_with fail;clear k0 k1 k2 k3;go_loopw [7,9] (fun v7 t W=>∃(k:Nat) (va:Value) (V:List PL) (BV:List Nat) (S:Nat→Prop) (A:List Nat),va=v7/\t=.int .i64 k/\k≤n/\BkSt w3 W bb V BV S va A ((ze7 (za0 Fs) (za0 Gs)).take (q+k)) (.slice none 0 0) [] [] (.slice none 0 0) [] []/\V.length≤q+k) (fun _ t _=>n-(intOf t).toNat)
   case atStart=>exact⟨0,_,_,_,_,_,rfl,rfl,Nat.zero_le _,HS.out,HV.out⟩
   case round =>
    clear HS HV;obtain⟨k,va,V,BV,S,A,rfl,rfl,hk,hs,hV⟩:=hrel;obtain⟨w8,rfl⟩:∃w8,w8=wr:=⟨_,rfl⟩;have HS:=Hh hs;have HV:=Hh hV;obtain⟨k0,k1,k2,k3⟩:=HK.out w8 hs.fr;clear hs hV;by_cases hkl:k<n
    ·obtain⟨Y,hY⟩:∃Y,Gs[k]?=some Y:=⟨_,List.getElem?_eq_getElem (by have:=Hn.out;omega)⟩
     obtain⟨_,_,ee,_,_,hnn⟩:=id H2.out;obtain⟨rfl,hz,rfl⟩:=Value.slice.inj ee;clear ee hz;obtain⟨b2,o2,yl,yr,ha2,hR2,d1,d2,n1,n2,m1,m2⟩:=hnn k Y hY;have ixn2:=zbe na2 n nc2 k b2 o2 hkl ha2;have HYd:=Hh (fun(W:World) (f:Fr NoM w3 W)=>(⟨f.cell d1 (fun q=>q),f.cell d2 (fun q=>q),n1.fr0 f,n2.fr0 f⟩:W.cell? ⟨b2,o2+k*2,none⟩=some yl/\W.cell? ⟨b2,o2+k*2+1,none⟩=some yr/\Nats W yl Y.1/\Nats W yr Y.2));obtain⟨yla,ylc,rfl,z⟩:=id n1;clear z;obtain⟨yra,yrc,rfl,z⟩:=id n2;clear z;have HYo:=Hh (OG.out k Y hY);have HYl:=Hh (yeg LG.out hY);have HYc:=Hh (zby Gs OG.out k Y hY);obtain⟨CF,hCF⟩:∃CF,CF=za0 Fs:=⟨_,rfl⟩;obtain⟨CG,hCG⟩:∃CG,CG=za0 Gs:=⟨_,rfl⟩;obtain⟨ca,hca⟩:∃ca,ca=CF.getD i 0:=⟨_,rfl⟩;obtain⟨cb,hcb⟩:∃cb,cb=CG.getD k 0:=⟨_,rfl⟩;rw[←hCF]at HXc;rw[←hCG]at HYc;rw[←hca]at HXc;rw[←hcb]at HYc;rw[←hCF,←hCG]at HS;have hmk:=yck HXc.out HYc.out;obtain⟨TL,hTL⟩:∃TL,TL=(za2 CF X.1).map (fun l=>sumC l cb)++(za2 CG Y.1).map fun l=>sumC ca l:=⟨_,rfl⟩
     obtain⟨TR,hTR⟩:∃TR,TR=(za2 CF X.2).map (fun l=>sumC l cb)++(za2 CG Y.2).map fun l=>sumC ca l:=⟨_,rfl⟩
     rw[←hTL,←hTR]at hmk;have HTl:=Hh (show TL.length=X.1.length+Y.1.length/\TR.length=X.2.length+Y.2.length from⟨by rw[hTL];simp[za2],by rw[hTR];simp[za2]⟩)
     -- what stands in the row of all sums
     have HAt:=Hh (fun(j m:Nat) (hj:j<nF) (hm:m<n) (hp:j*n+m<q+k)=>(by
      obtain⟨x,hx,hxl,hc⟩:=HS.out.r1.get hp (by rw[hCF,hCG];exact HTab.out j m hj hm);exact⟨x,hx,hxl,by rw[hc,hCF,hCG]⟩:∃x,A[j*n+m]?=some x/\x<V.length/\(za0 V).getD x 0=sumC (CF.getD j 0) (CG.getD m 0)))
     have HG3:=Hh (fun m l (h:X.1[m]?=some l)=>(by rw[hTL];exact znx h:TL[m]?=some (sumC (CF.getD l 0) cb)));have HG4:=Hh (fun m l (h:Y.1[m]?=some l)=>(by rw[hTL];exact zkf h:TL[X.1.length+m]?=some (sumC ca (CG.getD l 0))));have HG5:=Hh (fun m l (h:X.2[m]?=some l)=>(by rw[hTR];exact znx h:TR[m]?=some (sumC (CF.getD l 0) cb)));have HG6:=Hh (fun m l (h:Y.2[m]?=some l)=>(by rw[hTR];exact zkf h:TR[X.2.length+m]?=some (sumC ca (CG.getD l 0))));have HMk:=Hh hmk;have HTn:=Hh (show(ze7 CF CG)[q+k]?=some (sumC ca cb)from by rw[hCF,hCG,hca,hcb,Hq.out,hCF,hCG];exact HTab.out i k hlt hkl);have HCa:=Hh hca;have HCb:=Hh hcb;have HCF:=Hh hCF;have HCG:=Hh hCG;clear hY hnn ha2 hR2 d1 d2 n1 n2 m1 m2 hmk hTL hTR hca hcb hCF hCG;go_upto_region 11 with fail;obtain⟨w9,hw9⟩:∃w9,w9=(w8.alloc (.cells #[] 3)).alloc (.cells #[] 3):=⟨_,rfl⟩;have H9:=Hh (HS.out.rows hw9);rw[←hw9];obtain⟨l0,hl0⟩:∃l0,l0=Value.slice (some ⟨w8.heap.size,0,none⟩) 0 0:=⟨_,rfl⟩;obtain⟨r0,hr0⟩:∃r0,r0=Value.slice (some ⟨w8.heap.size+1,0,none⟩) 0 0:=⟨_,rfl⟩;rw[←hl0,←hr0]at H9 ⊢;clear hw9 hl0 hr0 k0 k1 k2 k3;obtain⟨k0,k1,k2,k3⟩:=HK.out w9 H9.out.fr;go_wp2_with fail;clear k0 k1 k2 k3;go_loopw [10,12] (fun v7 t W=>∃(m:Nat) (v:Value) (L:List Nat),v=v7/\t=.int .i64 m/\m≤X.1.length/\BkSt w3 W bb V BV S va A ((ze7 CF CG).take (q+k)) v L (TL.take (m)) r0 [] []) (fun _ t _=>X.1.length-(intOf t).toNat)
     case atStart=>exact⟨0,_,[],rfl,rfl,Nat.zero_le _,H9.out⟩
     case round =>
      obtain⟨m,lv3,L3,rfl,rfl,hm,hs⟩:=hrel;obtain⟨wa3,rfl⟩:∃w7,w7=wr:=⟨_,rfl⟩;have HB3:=Hh hs;obtain⟨k0,k1,k2,k3⟩:=HK.out wa3 hs.fr;obtain⟨d1,d2,n1,n2⟩:=HXd.out wa3 hs.fr;by_cases hml:m<X.1.length
      ·obtain⟨l,hl⟩:∃l,X.1[m]?=some l:=⟨_,List.getElem?_eq_getElem hml⟩
       obtain⟨_,_,ee,_,_,hcc⟩:=id n1;cases ee
       obtain⟨b3,o3,ha3,c3⟩:=hcc m l hl;unfold encN at c3;have ix3:=za8 xla X.1.length xlc m b3 o3 hml ha3;have hlx:=HXo.out.1 l (List.mem_of_getElem? hl);have hqb':=HQb.out;have hqe:=Hq.out;have hnb1:=HNb.out.1;obtain⟨ql,hql⟩:∃ql,ql=l*n:=⟨_,rfl⟩;have hqn:ql+n≤q:=by
        have h:=Nat.mul_le_mul_right n (show l+1≤i by omega);rw[Nat.succ_mul]at h;omega
       have hmm:(l:Int)*(n:Int)=(ql:Int):=by rw[hql];exact(Int.natCast_mul _ _).symm
       obtain⟨x,hx,hxl,hxc⟩:=HAt.out l k (by omega) hkl (by rw[←hql];omega);rw[←hql]at hx;rw[←HCb.out]at hxc;obtain⟨p,hp⟩:∃p,p=ql+k:=⟨_,rfl⟩;have hcast:(ql:Int)+(k:Int)=(p:Int):=by omega
       rw[←hp]at hx;have hpb:p<1600:=by omega
       have hpl:p<A.length:=(List.getElem?_eq_some_iff.1 hx).1;obtain⟨aa,ac,rfl,_,_,hac⟩:=HB3.out.nats1;obtain⟨b4,o4,ha4,c4⟩:=hac p x hx;unfold encN at c4;have ix4:=za8 aa A.length ac p b4 o4 hpl ha4;have HXx:=Hh (And.intro hxl hxc);have HL:=Hh hl;clear hl hcc ha3 hs hx hxl hxc hac ha4 hqe n1 n2 hp hql;go_wp2_with (at_builtin;refine zag (enc:=encN) _ rfl (.tmp 47) (.tmp 64) 26 rfl w3.heap.size 3 (.int .i64 0) 8 Tryz.underlying26 zaa rfl lv3 L3.length (L3.map encN) rfl (za1 HB3.out.o2 ((Fr.refl NoM wa3).alloc _) (fun _ _ q=>q)) (.slice (some ⟨wa3.heap.size,0,none⟩) 1 1) rfl [x] (SliceOf.one encN wa3 x 3) (fun _=>rfl) (by have h1:=HB3.out.r2.len;have h2:=HTl.out.1;have h3:=HXl.out;have h4:=HYl.out;rw[List.length_take]at h1;simp only[List.length_singleton];omega) (by decide) (by have:=HB3.out.fr.size;rw[World.size_alloc];omega) ?_);intro v9 w10 h9 f9 q9;have hap:=(HB3.out.swap12.app ((Fr.refl NoM wa3).alloc _) h9 f9 (by rw[World.size_alloc];exact q9) HXx.out.1 HXx.out.2).swap12;rw[zgk (HG3.out m l HL.out)]at hap;have HAp:=Hh hap;clear h9 f9 q9 hap;go_wp2;go_roundw
       case rel=>exact⟨m+1,v9,L3 ++ [x],rfl,by go_num,by omega,HAp.out⟩
       case measure=>simp[intOf];omega
      ·obtain rfl:m=X.1.length:=by omega
       clear hs hm hml n1 n2;go_wp2_with fail;clear k0 k1 k2 k3 d1 d2;go_loopw [10,13] (fun v7 t W=>∃(m:Nat) (v:Value) (L:List Nat),v=v7/\t=.int .i64 m/\m≤Y.1.length/\BkSt w3 W bb V BV S va A ((ze7 CF CG).take (q+k)) v L (TL.take (X.1.length+m)) r0 [] []) (fun _ t _=>Y.1.length-(intOf t).toNat)
       case atStart=>exact⟨0,_,L3,rfl,rfl,Nat.zero_le _,HB3.out⟩
       case round =>
        obtain⟨m,lv4,L4,rfl,rfl,hm,hs⟩:=hrel;obtain⟨wa4,rfl⟩:∃w7,w7=wr:=⟨_,rfl⟩;have HB4:=Hh hs;obtain⟨k0,k1,k2,k3⟩:=HK.out wa4 hs.fr;obtain⟨d1,d2,n1,n2⟩:=HYd.out wa4 hs.fr;by_cases hml:m<Y.1.length
        ·obtain⟨l,hl⟩:∃l,Y.1[m]?=some l:=⟨_,List.getElem?_eq_getElem hml⟩
         obtain⟨_,_,ee,_,_,hcc⟩:=id n1;cases ee
         obtain⟨b3,o3,ha3,c3⟩:=hcc m l hl;unfold encN at c3;have ix3:=za8 yla Y.1.length ylc m b3 o3 hml ha3;have hlx:=HYo.out.1 l (List.mem_of_getElem? hl);have hqb':=HQb.out;have hqe:=Hq.out;have hnb1:=HNb.out.1;obtain⟨x,hx,hxl,hxc⟩:=HAt.out i l hlt (by omega) (by rw[←hqe];omega);rw[←hqe]at hx;rw[←HCa.out]at hxc;obtain⟨p,hp⟩:∃p,p=q+l:=⟨_,rfl⟩;have hcast:(q:Int)+(l:Int)=(p:Int):=by omega
         rw[←hp]at hx;have hpb:p<1600:=by omega
         have hpl:p<A.length:=(List.getElem?_eq_some_iff.1 hx).1;obtain⟨aa,ac,rfl,_,_,hac⟩:=HB4.out.nats1;obtain⟨b4,o4,ha4,c4⟩:=hac p x hx;unfold encN at c4;have ix4:=za8 aa A.length ac p b4 o4 hpl ha4;have HXx:=Hh (And.intro hxl hxc);have HL:=Hh hl;clear hl hcc ha3 hs hx hxl hxc hac ha4 hqe n1 n2 hp;go_wp2_with (at_builtin;refine zag (enc:=encN) _ rfl (.tmp 77) (.tmp 94) 26 rfl w3.heap.size 3 (.int .i64 0) 8 Tryz.underlying26 zaa rfl lv4 L4.length (L4.map encN) rfl (za1 HB4.out.o2 ((Fr.refl NoM wa4).alloc _) (fun _ _ q=>q)) (.slice (some ⟨wa4.heap.size,0,none⟩) 1 1) rfl [x] (SliceOf.one encN wa4 x 3) (fun _=>rfl) (by have h1:=HB4.out.r2.len;have h2:=HTl.out.1;have h3:=HXl.out;have h4:=HYl.out;rw[List.length_take]at h1;simp only[List.length_singleton];omega) (by decide) (by have:=HB4.out.fr.size;rw[World.size_alloc];omega) ?_);intro v9 w10 h9 f9 q9;have hap:=(HB4.out.swap12.app ((Fr.refl NoM wa4).alloc _) h9 f9 (by rw[World.size_alloc];exact q9) HXx.out.1 HXx.out.2).swap12;rw[zgk (HG4.out m l HL.out)]at hap;have HAp:=Hh hap;clear h9 f9 q9 hap;go_wp2;go_roundw
         case rel=>exact⟨m+1,v9,L4 ++ [x],rfl,by go_num,by omega,HAp.out⟩
         case measure=>simp[intOf];omega
        ·obtain rfl:m=Y.1.length:=by omega
         clear hs hm hml n1 n2;go_wp2_with fail;clear k0 k1 k2 k3 d1 d2;go_loopw [11,14] (fun v7 t W=>∃(m:Nat) (v:Value) (L:List Nat),v=v7/\t=.int .i64 m/\m≤X.2.length/\BkSt w3 W bb V BV S va A ((ze7 CF CG).take (q+k)) lv4 L4 (TL.take (X.1.length+Y.1.length)) v L (TR.take (m))) (fun _ t _=>X.2.length-(intOf t).toNat)
         case atStart=>exact⟨0,_,[],rfl,rfl,Nat.zero_le _,HB4.out⟩
         case round =>
          obtain⟨m,rv5,L5,rfl,rfl,hm,hs⟩:=hrel;obtain⟨wa5,rfl⟩:∃w7,w7=wr:=⟨_,rfl⟩;have HB5:=Hh hs;obtain⟨k0,k1,k2,k3⟩:=HK.out wa5 hs.fr;obtain⟨d1,d2,n1,n2⟩:=HXd.out wa5 hs.fr;by_cases hml:m<X.2.length
          ·obtain⟨l,hl⟩:∃l,X.2[m]?=some l:=⟨_,List.getElem?_eq_getElem hml⟩
           obtain⟨_,_,ee,_,_,hcc⟩:=id n2;cases ee
           obtain⟨b3,o3,ha3,c3⟩:=hcc m l hl;unfold encN at c3;have ix3:=za8 xra X.2.length xrc m b3 o3 hml ha3;have hlx:=HXo.out.2 l (List.mem_of_getElem? hl);have hqb':=HQb.out;have hqe:=Hq.out;have hnb1:=HNb.out.1;obtain⟨ql,hql⟩:∃ql,ql=l*n:=⟨_,rfl⟩;have hqn:ql+n≤q:=by
            have h:=Nat.mul_le_mul_right n (show l+1≤i by omega);rw[Nat.succ_mul]at h;omega
           have hmm:(l:Int)*(n:Int)=(ql:Int):=by rw[hql];exact(Int.natCast_mul _ _).symm
           obtain⟨x,hx,hxl,hxc⟩:=HAt.out l k (by omega) hkl (by rw[←hql];omega);rw[←hql]at hx;rw[←HCb.out]at hxc;obtain⟨p,hp⟩:∃p,p=ql+k:=⟨_,rfl⟩;have hcast:(ql:Int)+(k:Int)=(p:Int):=by omega
           rw[←hp]at hx;have hpb:p<1600:=by omega
           have hpl:p<A.length:=(List.getElem?_eq_some_iff.1 hx).1;obtain⟨aa,ac,rfl,_,_,hac⟩:=HB5.out.nats1;obtain⟨b4,o4,ha4,c4⟩:=hac p x hx;unfold encN at c4;have ix4:=za8 aa A.length ac p b4 o4 hpl ha4;have HXx:=Hh (And.intro hxl hxc);have HL:=Hh hl;clear hl hcc ha3 hs hx hxl hxc hac ha4 hqe n1 n2 hp hql;go_wp2_with (at_builtin;refine zag (enc:=encN) _ rfl (.tmp 107) (.tmp 124) 26 rfl w3.heap.size 3 (.int .i64 0) 8 Tryz.underlying26 zaa rfl rv5 L5.length (L5.map encN) rfl (za1 HB5.out.o3 ((Fr.refl NoM wa5).alloc _) (fun _ _ q=>q)) (.slice (some ⟨wa5.heap.size,0,none⟩) 1 1) rfl [x] (SliceOf.one encN wa5 x 3) (fun _=>rfl) (by have h1:=HB5.out.r3.len;have h2:=HTl.out.2;have h3:=HXl.out;have h4:=HYl.out;rw[List.length_take]at h1;simp only[List.length_singleton];omega) (by decide) (by have:=HB5.out.fr.size;rw[World.size_alloc];omega) ?_);intro v9 w10 h9 f9 q9;have hap:=(HB5.out.swap13.app ((Fr.refl NoM wa5).alloc _) h9 f9 (by rw[World.size_alloc];exact q9) HXx.out.1 HXx.out.2).swap13;rw[zgk (HG5.out m l HL.out)]at hap;have HAp:=Hh hap;clear h9 f9 q9 hap;go_wp2;go_roundw
           case rel=>exact⟨m+1,v9,L5 ++ [x],rfl,by go_num,by omega,HAp.out⟩
           case measure=>simp[intOf];omega
          ·obtain rfl:m=X.2.length:=by omega
           clear hs hm hml n1 n2;go_wp2_with fail;clear k0 k1 k2 k3 d1 d2;go_loopw [11,15] (fun v7 t W=>∃(m:Nat) (v:Value) (L:List Nat),v=v7/\t=.int .i64 m/\m≤Y.2.length/\BkSt w3 W bb V BV S va A ((ze7 CF CG).take (q+k)) lv4 L4 (TL.take (X.1.length+Y.1.length)) v L (TR.take (X.2.length+m))) (fun _ t _=>Y.2.length-(intOf t).toNat)
           case atStart=>exact⟨0,_,L5,rfl,rfl,Nat.zero_le _,HB5.out⟩
           case round =>
            obtain⟨m,rv6,L6,rfl,rfl,hm,hs⟩:=hrel;obtain⟨wa6,rfl⟩:∃w7,w7=wr:=⟨_,rfl⟩;have HB6:=Hh hs;obtain⟨k0,k1,k2,k3⟩:=HK.out wa6 hs.fr;obtain⟨d1,d2,n1,n2⟩:=HYd.out wa6 hs.fr;by_cases hml:m<Y.2.length
            ·obtain⟨l,hl⟩:∃l,Y.2[m]?=some l:=⟨_,List.getElem?_eq_getElem hml⟩
             obtain⟨_,_,ee,_,_,hcc⟩:=id n2;cases ee
             obtain⟨b3,o3,ha3,c3⟩:=hcc m l hl;unfold encN at c3;have ix3:=za8 yra Y.2.length yrc m b3 o3 hml ha3;have hlx:=HYo.out.2 l (List.mem_of_getElem? hl);have hqb':=HQb.out;have hqe:=Hq.out;have hnb1:=HNb.out.1;obtain⟨x,hx,hxl,hxc⟩:=HAt.out i l hlt (by omega) (by rw[←hqe];omega);rw[←hqe]at hx;rw[←HCa.out]at hxc;obtain⟨p,hp⟩:∃p,p=q+l:=⟨_,rfl⟩;have hcast:(q:Int)+(l:Int)=(p:Int):=by omega
             rw[←hp]at hx;have hpb:p<1600:=by omega
             have hpl:p<A.length:=(List.getElem?_eq_some_iff.1 hx).1;obtain⟨aa,ac,rfl,_,_,hac⟩:=HB6.out.nats1;obtain⟨b4,o4,ha4,c4⟩:=hac p x hx;unfold encN at c4;have ix4:=za8 aa A.length ac p b4 o4 hpl ha4;have HXx:=Hh (And.intro hxl hxc);have HL:=Hh hl;clear hl hcc ha3 hs hx hxl hxc hac ha4 hqe n1 n2 hp;go_wp2_with (at_builtin;refine zag (enc:=encN) _ rfl (.tmp 137) (.tmp 154) 26 rfl w3.heap.size 3 (.int .i64 0) 8 Tryz.underlying26 zaa rfl rv6 L6.length (L6.map encN) rfl (za1 HB6.out.o3 ((Fr.refl NoM wa6).alloc _) (fun _ _ q=>q)) (.slice (some ⟨wa6.heap.size,0,none⟩) 1 1) rfl [x] (SliceOf.one encN wa6 x 3) (fun _=>rfl) (by have h1:=HB6.out.r3.len;have h2:=HTl.out.2;have h3:=HXl.out;have h4:=HYl.out;rw[List.length_take]at h1;simp only[List.length_singleton];omega) (by decide) (by have:=HB6.out.fr.size;rw[World.size_alloc];omega) ?_);intro v9 w10 h9 f9 q9;have hap:=(HB6.out.swap13.app ((Fr.refl NoM wa6).alloc _) h9 f9 (by rw[World.size_alloc];exact q9) HXx.out.1 HXx.out.2).swap13;rw[zgk (HG6.out m l HL.out)]at hap;have HAp:=Hh hap;clear h9 f9 q9 hap;go_wp2;go_roundw
             case rel=>exact⟨m+1,v9,L6 ++ [x],rfl,by go_num,by omega,HAp.out⟩
             case measure=>simp[intOf];omega
            ·obtain rfl:m=Y.2.length:=by omega
             clear hs hm hml n1 n2;have hput:=HB6.out;have hr2:=hput.r2.len;have hr3:=hput.r3.len;have hl1:=HTl.out;have hl2:=HXl.out;have hl3:=HYl.out;have hv0:=HV.out;have hqb9:=HQb.out;rw[List.length_take]at hr2 hr3;have hpa:=zhd bb lv4 rv6 V BV L4 L6 wa6 hput.book (SliceOf.of_owns hput.o2 rfl) (SliceOf.of_owns hput.o3 rfl) (fun j x hx=>hput.r2.1 x (List.mem_of_getElem? hx)) (fun j x hx=>hput.r3.1 x (List.mem_of_getElem? hx)) (by omega) (by omega) (by omega) (fun x hx=>by have:=(ze2 hput.ok).lt V.length (Nat.le_refl _) x hx;omega);have HPa:=Hh hpa;clear hput hr2 hr3 hl1 hl2 hl3 hv0 hqb9 hpa;go_wp2_with fail;refine HPa.out.mono ?_
             rintro e w11 ⟨rfl,p1,p2⟩;obtain⟨st,hr,hc,hpre,hlen⟩:=HB6.out.put HB6.out.r2 HB6.out.r3 p1 p2;rw[List.take_of_length_le (by rw[HTl.out.1];exact Nat.le_refl _),List.take_of_length_le (by rw[HTl.out.2];exact Nat.le_refl _),HMk.out]at hc;obtain⟨x,hx⟩:∃x,x=(putB V BV L4 L6).2.2:=⟨_,rfl⟩;rw[←hx]at hr hc ⊢;have HSt2:=Hh st.close;have HR:=Hh hr;have HC:=Hh hc;have HLn:=Hh hlen;clear st hr hc hpre hlen p1 p2 hx k0 k1 k2 k3 d1 d2;go_wp2_with (at_builtin;refine zag (enc:=encN) _ rfl (.tmp 156) (.tmp 161) 26 rfl w3.heap.size 3 (.int .i64 0) 8 Tryz.underlying26 zaa rfl va A.length (A.map encN) rfl (za1 HSt2.out.o1 ((Fr.refl NoM w11).alloc _) (fun _ _ q=>q)) (.slice (some ⟨w11.heap.size,0,none⟩) 1 1) rfl [x] (SliceOf.one encN w11 x 3) (fun _=>rfl) (by have h1:=HSt2.out.r1.len;have h2:=HQb.out;rw[List.length_take]at h1;simp only[List.length_singleton];omega) (by decide) (by have:=HSt2.out.fr.size;rw[World.size_alloc];omega) ?_);intro v9 w12 h9 f9 q9;have hap:=HSt2.out.app ((Fr.refl NoM w11).alloc _) h9 f9 (by rw[World.size_alloc];exact q9) HR.out HC.out;rw[zgk HTn.out,HCF.out,HCG.out]at hap;have HAp:=Hh hap;clear h9 f9 q9 hap;go_wp2;go_roundw
             case rel=>exact⟨k+1,v9,_,_,_,A ++ [x],rfl,by go_num,by omega,HAp.out,by have h1:=HLn.out;have h2:=HV.out;omega⟩
             case measure=>simp[intOf];omega
    ·obtain rfl:k=n:=by omega
     have hnb2:=HNb.out.2;clear hk hkl;go_wp2_with fail;go_roundw
     case rel=>exact⟨i+1,va,V,BV,S,A,rfl,by go_num,by omega,by rw[Nat.succ_mul,←Hq.out];exact HS.out,by rw[Nat.succ_mul,←Hq.out];exact HV.out⟩
     case measure=>simp[intOf];omega
  ·obtain rfl:i=nF:=by omega
   have hn1:=Hn.out;have hn2:=HnF.out;have hpf:0<i:=by have:=PF.out;omega
   have hpg:0<n:=by have:=PG.out;omega
   have hfg:=HFG.out;obtain⟨N,hN⟩:∃N,N=i*n:=⟨_,rfl⟩;rw[←hN]at hfg HV HS;have hNp:0<N:=by rw[hN];exact Nat.mul_pos hpf hpg
   have hAl:A.length=N:=by
    have h:=HS.out.r1.len;rw[h,List.length_take,zum,za3,za3,←Hn.out,←HnF.out,←hN,Nat.min_self]
   obtain⟨x,hx,hxl,hxc⟩:=HS.out.r1.get (p:=N-1) (by omega) (by
    have h:=HTab.out (i-1) (n-1) (by omega) (by omega);have e:(i-1)*n+(n-1)=N-1:=by
     have h2:(i-1+1)*n=N:=by rw[hN,show i-1+1=i from by omega]
     rw[Nat.succ_mul]at h2;omega
    rw[e]at h;exact h)
   obtain⟨p,hp⟩:∃p,N=p+1:=⟨N-1,by omega⟩;rw[show N-1=p from by omega]at hx;obtain⟨aa,ac,rfl,_,_,hac⟩:=HS.out.nats1;obtain⟨b4,o4,ha4,c4⟩:=hac p x hx;unfold encN at c4;have ix4:=za8 aa A.length ac p b4 o4 (by omega) ha4;have hcast:((A.length:Int)-1)=(p:Int):=by omega
   have hpb:p<1600:=by omega
   have hAb:A.length<1000000:=by omega
   have hlen:=HS.out.ok.lens (n:=100000000) (by have:=HV.out;omega);have HFo:=Hh (zks bb x V BV w7 HS.out.book (ze2 HS.out.ok) hxl (by have:=HV.out;omega) hlen);have hfo:=ze1 HS.out.ok hxl hxc;have HFe:=Hh (show zd5 V BV x=zak (sumC (zab Fs) (zab Gs))from by
    rw[hfo];unfold zab;rw[←Hn.out,←HnF.out])
   clear hx hxl hxc hac ha4 hlen hfo hN hNp hAl hp hfg hpf hpg hi hlt hn1 hn2;go_wp2_with fail;refine HFo.out.mono ?_
   rintro e w11 ⟨v',rfl,hn',f11⟩;rw[HFe.out]at hn';obtain⟨k0',k1',k2',k3'⟩:=HK.out w11 (HS.out.fr.trans f11 (fun _ _ q=>q));have HFn:=Hh hn';have F11:=Hh (HS.out.fr.trans f11 (fun _ _ q=>q));have HSz:=Hh (show w.heap.size+3≤w7.heap.size from by have:=HS.out.fr.size;have:=HS3.out;omega);obtain⟨va',vc',rfl,zz⟩:=id hn';clear zz hn' f11 k0' k1' k0 k1 k2 k3 c4 ix4;go_wp2;refine bodyPost_ret (v:=.agg #[.slice va' (zak (sumC (zab Fs) (zab Gs))).length vc']) (by simp[results,Tryz.results116,go_sem,k2']) rfl ?_
   refine⟨_,rfl,?_,(HF3.out.trans F11.out (fun _ _ q=>q)).setCell _ _ (fun h=>by have h:w.heap.size+2<w.heap.size:=h;omega)⟩;exact(HFn.out.fr (Fr.set w11 ⟨w.heap.size+2,0,none⟩ _) (fun q hq e=>by have e:q=w.heap.size+2:=e;have:=HSz.out;omega)).mono (fun q hq=>by have:=HSz.out;omega)
structure BkN (U:List Nat) (S:Nat→Prop) (W:World) (bb:Nat) (V:List PL) (BV:List Nat):Prop where
 book:BookS S W bb V BV
 ok:PoolOK V BV
 lt:∀q,S q→q<W.heap.size
 inU:∀x,x<V.length→(za0 V).getD x 0∈U
def BkPost (U:List Nat)(bb:Nat)(w:World)(S:Nat→Prop)(V:List PL)(c:Nat)(e:Ending)(w':World):Prop :=
 ∃(i:Nat) (V':List PL) (BV':List Nat) (S':Nat→Prop),e=.returned (.int .i64 (i:Int))/\BkN U S' w' bb V' BV'∧V <+: V'∧(∀q,S' q→S q∨w.heap.size≤q)/\Fr S w w'∧i<V'.length/\(za0 V').getD i 0=c
section
variable {U:List Nat}{S:Nat→Prop}{w w':World}{bb:Nat}{V:List PL}{BV:List Nat}
theorem BkN.fr0 (h:BkN U S w bb V BV)(hf:Fr NoM w w'):BkN U S w' bb V BV:=⟨h.book.fr0 hf,h.ok,fun q hq=>Nat.lt_of_lt_of_le (h.lt q hq) hf.size,h.inU⟩
theorem BkN.len (h:BkN U S w bb V BV):V.length≤U.length:=zf7 h.ok h.inU
theorem BkN.start {W:World}(h:W.heap[bb]?=some (.cells #[.slice none 0 0,.slice none 0 0] 137 (0,0))):BkN U (fun q=>q=bb) W bb [] [] :=
 ⟨BookS.made h,PoolOK.nil,fun q hq=>by
  have:=(Array.getElem?_eq_some_iff.1 h).1;rw[hq];exact this,fun x hx=>by simp at hx⟩
theorem BkPost.of0 {w0:World}{c:Nat}{e:Ending}(hf:Fr NoM w0 w)(h:BkPost U bb w S V c e w'):BkPost U bb w0 S V c e w':=by
 obtain⟨i,V',BV',S',h1,h2,h3,h4,h5,h6⟩:=h;exact⟨i,V',BV',S',h1,h2,h3,fun q hq=>(h4 q hq).imp_right (Nat.le_trans hf.size),hf.any.trans h5 (fun _ _ q=>q),h6⟩
theorem yap (lv rv:Value)(L R cs ds:List Nat)(h:BkN U S w bb V BV)(hL:Nats w lv L)(hR:Nats w rv R)(rL:RowC V L cs)(rR:RowC V R ds)(hin:mkC cs ds∈U)(hUl:U.length<1000000)(ll:L.length<1000000000)(lr:R.length<1000000000) :
  Calls Tryz.prog 155 #[.pointer (some ⟨bb,0,none⟩),lv,rv] w fun e w'=>BkPost U bb w S V (mkC cs ds) e w':=by
 have hlen:=h.len;refine(zhd bb lv rv V BV L R w h.book hL hR (fun j x hx=>rL.1 x (List.mem_of_getElem? hx)) (fun j x hx=>rR.1 x (List.mem_of_getElem? hx)) ll lr (by omega) (fun x hx=>by have:=(ze2 h.ok).lt V.length (Nat.le_refl _) x hx;omega)).mono ?_
 rintro e w' ⟨rfl,hb,hf⟩;obtain⟨q1,q2,q3,q4⟩:=zev h.ok rL rR;rw[zcf h.ok]at hb ⊢;have hm:=h.book.m;refine⟨(za4 V BV L R).2.2,(za4 V BV L R).1,(za4 V BV L R).2.1,_,rfl,⟨hb.cut,q1,fun q hq=>hq.2,zgr h.inU (by rw[q4];exact hin)⟩,q2,fun q hq=>hq.1,hf.mono (fun k _ z=>hm k z),q3,q4⟩
end
theorem zuq {t:Int}{p:Nat}(hp:p≤24)(x:Int):redT (t*2^(24-p)+x*2^(24-p)) 24=redT (t+x) p:=by
 rw[←Int.add_mul];have h:=zca (24-p) p (t+x);rw[show p+(24-p)=24 from by omega]at h;exact h
def yf1 (U:List Nat)(bb:Nat)(t:Int)(p:Nat):Prop:=∀(S:Nat→Prop) (V:List PL) (BV:List Nat) (w:World),BkN U S w bb V BV →
  Calls Tryz.prog 168 #[.pointer (some ⟨bb,0,none⟩),.agg #[.int .i64 t,.int .i64 (p:Int)]] w fun e w'=>BkPost U bb w S V (numC t p) e w'
set_option maxRecDepth 8000 in
set_option maxHeartbeats 8000000 in
theorem zyf {U:List Nat}(hUl:U.length<1000000)(bb:Nat):∀(n:Nat) (t:Int) (p:Nat),numC t p<n→Red t p→t.natAbs≤1000000→p≤16→(∀a,SubC (numC t p) a→a∈U)→yf1 U bb t p:=by
 intro n;induction n with
 | zero=>intro t p h;omega
 | succ n ih =>
  intro t p hn hr ht hp hU S V BV w hB;have hin:numC t p∈U:=hU _ .root;obtain⟨w1,hw1⟩:∃w1,w1=w.alloc (.cells #[.int .i64 t,.int .i64 (p:Int)] 45):=⟨_,rfl⟩;obtain⟨w2,hw2⟩:∃w2,w2=w1.alloc (.cells #[.int .i64 1,.int .i64 (p:Int)] 45):=⟨_,rfl⟩;have f1:Fr NoM w w1:=by rw[hw1];exact(Fr.refl NoM w).alloc _
  have f2:Fr NoM w1 w2:=by rw[hw2];exact(Fr.refl NoM w1).alloc _
  have hs1:w1.heap.size=w.heap.size+1:=by rw[hw1];simp
  have e1:w2.heap[w.heap.size]?=some (.cells #[.int .i64 t,.int .i64 (p:Int)] 45 (0,0)):=by rw[hw2,hw1];exact((Fr.refl NoM _).alloc _).heap (heap_alloc_new w _) (fun q=>q)
  have e2:w2.heap[w.heap.size+1]?=some (.cells #[.int .i64 1,.int .i64 (p:Int)] 45 (0,0)):=by rw[hw2,←hs1];exact heap_alloc_new w1 _
  have hlt:=hB.lt;have HK:=Hh (fun(W:World) (f:Fr (fun q=>S q∨w2.heap.size≤q) w2 W)=>show W.cell? ⟨w.heap.size,0,none⟩=some (.int .i64 t)/\W.cell? ⟨w.heap.size,1,none⟩=some (.int .i64 (p:Int))/\W.cell? ⟨w.heap.size+1,0,none⟩=some (.int .i64 1)/\W.cell? ⟨w.heap.size+1,1,none⟩=some (.int .i64 (p:Int))from by
   have l1:=(Array.getElem?_eq_some_iff.1 e1).1;have l2:=(Array.getElem?_eq_some_iff.1 e2).1;have h1:=f.heap e1 (fun q=>by
    rcases q with q|q
    ·have:=hlt _ q;omega
    ·omega)
   have h2:=f.heap e2 (fun q=>by
    rcases q with q|q
    ·have:=hlt _ q;omega
    ·omega)
   exact⟨by rw[cell_of_row W _ 0 _ _ _ h1];rfl,by rw[cell_of_row W _ 1 _ _ _ h1];rfl,by rw[cell_of_row W _ 0 _ _ _ h2];rfl,by rw[cell_of_row W _ 1 _ _ _ h2];rfl⟩)
  have HB:=Hh (hB.fr0 (f1.trans f2 (fun _ _ q=>q)));have F2:=Hh (f1.trans f2 (fun _ _ q=>q));have HNeg:=Hh (fun(W:World)=>zg7 1 (p:Int) W (by omega));have HAdd:=Hh (fun(W:World) (x:Int) (hx:x=1∨x=-1)=>show Calls Tryz.prog 209 #[.agg #[.int .i64 t,.int .i64 (p:Int)],.agg #[.int .i64 x,.int .i64 (p:Int)]] W fun e w'=>e=.returned (dyV (redT (t+x) p))/\Fr NoM W w' from by
   have h:=zmm t x p p W (by omega) (by omega) (by omega) (by omega);rw[zuq (by omega)]at h;exact h)
  have HIh:=Hh ih;have HUl:=Hh hUl;have Hn:=Hh hn;have HR:=Hh hr;have HU:=Hh hU;have HIn:=Hh hin;have HLt:=Hh hlt;have HPt:=Hh (And.intro ht hp);have htb:-1000000≤t/\t≤1000000:=by omega
  clear f1 f2 hs1 e1 e2 hB ih hn hr hU hin hUl hlt ht;obtain⟨k0,k1,k2,k3⟩:=HK.out w2 (Fr.refl _ _);obtain⟨⟨x1,y1⟩,hx1⟩:∃x,x=redT (t-1) p:=⟨_,rfl⟩;obtain⟨⟨x2,y2⟩,hx2⟩:∃x,x=redT (t+1) p:=⟨_,rfl⟩;have HX1:=Hh hx1;have HX2:=Hh hx2;have HA1:=Hh (fun(W:World)=>show Calls Tryz.prog 209 #[.agg #[.int .i64 t,.int .i64 (p:Int)],.agg #[.int .i64 (-1),.int .i64 (p:Int)]] W fun e w'=>e=.returned (.agg #[.int .i64 x1,.int .i64 (y1:Int)])/\Fr NoM W w' from by
   have h:=HAdd.out W (-1) (.inr rfl);rw[show t + -1=t-1 from by omega,←hx1]at h;exact h)
  have HA2:=Hh (fun(W:World)=>show Calls Tryz.prog 209 #[.agg #[.int .i64 t,.int .i64 (p:Int)],.agg #[.int .i64 1,.int .i64 (p:Int)]] W fun e w'=>e=.returned (.agg #[.int .i64 x2,.int .i64 (y2:Int)])/\Fr NoM W w' from by
   have h:=HAdd.out W 1 (.inl rfl);rw[←hx2]at h;exact h)
  clear HAdd hx1 hx2
  -- what comes of a call of put for rows of one game each
  have HPut:=Hh (fun(W:World) (S':Nat→Prop) (V':List PL) (BV':List Nat) (lv rv:Value) (L R cs ds:List Nat) (hb:BkN U S' W bb V' BV') (hL:Nats W lv L) (hR:Nats W rv R) (rL:RowC V' L cs) (rR:RowC V' R ds) (hc:mkC cs ds=numC t p) (ll:L.length≤1) (lr:R.length≤1)=>show Calls Tryz.prog 155 #[.pointer (some ⟨bb,0,none⟩),lv,rv] W fun e w'=>BkPost U bb W S' V' (numC t p) e w' from by
   have h:=yap lv rv L R cs ds hb hL hR rL rR (by rw[hc];exact HIn.out) HUl.out (by omega) (by omega);rw[hc]at h;exact h)
  by_cases ht0:t=0
  ·have hq:(t == 0)=true:=by simp[ht0]
   have hp0:p=0:=HR.out.resolve_right (by rw[ht0];simp);have hc:mkC [] []=numC t p:=by rw[ht0,hp0];rfl
   have HP:=Hh (HPut.out w2 S V BV (.slice none 0 0) (.slice none 0 0) [] [] [] [] HB.out (SliceOf.nil _ _) (SliceOf.nil _ _) (RowC.nil _) (RowC.nil _) hc (by simp) (by simp));clear hc hp0 ht0;go_enter Tryz.func168,Tryz.ntmps168;go_wp2_with fail;rw[←hw1,←hw2];clear hw1 hw2;(with_reducible refine HP.out.mono ?_);rintro e w3 ⟨i,V',BV',S',rfl,h2,h3,h4,h5,h6⟩;have HE:=Hh (BkPost.of0 F2.out ⟨i,V',BV',S',rfl,h2,h3,h4,h5,h6⟩:BkPost U bb w S V (numC t p) (.returned (.int .i64 (i:Int))) w3);clear h2 h3 h4 h5 h6;go_wp2_with fail;go_ret;exact HE.out
  ·have hq:(t == 0)=false:=by simp[ht0]
   by_cases hpp:0<p
   ·have hside:=zta HR.out hpp
    rw[←HX1.out,←HX2.out]at hside;have hside:numC t p=mkC [numC x1 y1] [numC x2 y2]:=hside;have g1:=zfb HR.out HPt.out.1 hpp HPt.out.2 (t-1) (.inl rfl);have g2:=zfb HR.out HPt.out.1 hpp HPt.out.2 (t+1) (.inr rfl);rw[←HX1.out]at g1;rw[←HX2.out]at g2;have o1:optC (numC t p) (numC x1 y1):=by rw[hside];exact .inl ((zai _ _ _).2 (by simp))
    have o2:optC (numC t p) (numC x2 y2):=by rw[hside];exact .inr ((zah _ _ _).2 (by simp))
    have HI1:=Hh (HIh.out x1 y1 (by have:=za7 o1;have:=Hn.out;omega) g1.2.2.1 g1.2.2.2 (by have:=g1.2.1;have:=HPt.out.2;show y1≤16;omega) (fun a ha=>HU.out a ((SubC.root.step o1).trans ha)));have HI2:=Hh (HIh.out x2 y2 (by have:=za7 o2;have:=Hn.out;omega) g2.2.2.1 g2.2.2.2 (by have:=g2.2.1;have:=HPt.out.2;show y2≤16;omega) (fun a ha=>HU.out a ((SubC.root.step o2).trans ha)));have HL1:=Hh (fun(W:World) (f:Fr NoM w2 W)=>show Calls Tryz.prog 168 #[.pointer (some ⟨bb,0,none⟩),.agg #[.int .i64 x1,.int .i64 (y1:Int)]] W fun e w'=>BkPost U bb W S V (numC x1 y1) e w' from HI1.out S V BV W (HB.out.fr0 f));have HSd:=Hh hside;have K0:Fr NoM w2 w2.drew:=(Fr.refl NoM w2).drew;obtain⟨k4,k5,k6,k7⟩:=HK.out w2.drew K0.any;clear ht0 hside g1 g2 o1 o2;go_enter Tryz.func168,Tryz.ntmps168;go_upto_region 5 with fail;rw[←hw1,←hw2];clear hw1 hw2;clear k4 k5 k6 k7;go_cut [6]from 21 to 26 (fun v W=>BkPost U bb w2 S V (numC x1 y1) (.returned v) W)
    case first =>
     obtain⟨k4,k5,k6,k7⟩:=HK.out w2.drew K0.any;go_region_law (first
      | (go_simp;first
       | (go_at_call 210;(with_reducible refine(HNeg.out _).mono ?_);rintro e wa ⟨rfl,fa⟩;have ka:Fr NoM w2 wa:=Fr.trans (by assumption) fa (fun _ _ q=>q);obtain⟨i0,i1,i2,i3⟩:=HK.out wa ka.any)
       | (go_at_call 209;(with_reducible refine(HA1.out _).mono ?_);rintro e wb ⟨rfl,fb⟩;have kb:Fr NoM w2 wb:=Fr.trans (by assumption) fb (fun _ _ q=>q);obtain⟨j0,j1,j2,j3⟩:=HK.out wb kb.any)
       | (go_at_call 168;(with_reducible refine(HL1.out wb kb).mono ?_);rintro e wc ⟨p1,V1,B1,S1,rfl,b1,v1,s1,f1,l1,q1⟩;have HPst:=Hh (BkPost.of0 kb ⟨p1,V1,B1,S1,rfl,b1,v1,s1,f1,l1,q1⟩:BkPost U bb w2 S V (numC x1 y1) (.returned (.int .i64 (p1:Int))) wc);clear b1 v1 s1 f1 l1 q1)
       | fail)
      | fail)
     all_goals
      go_wp2_with fail;go_meet
      case rel=>exact HPst.out
    case rest =>
    obtain⟨p1,V1,B1,S1,he,b1,v1,s1,f1,l1,q1⟩:=hcut;have he:=Ending.returned.inj he;subst he;have FC:=Hh (f1.mono (fun _ _ q=>.inl q):Fr (fun q=>S q∨w2.heap.size≤q) w2 wc);have HP2:=Hh (fun(W:World) (f:Fr NoM wc W)=>show Calls Tryz.prog 168 #[.pointer (some ⟨bb,0,none⟩),.agg #[.int .i64 x2,.int .i64 (y2:Int)]] W fun e w'=>BkPost U bb W S1 V1 (numC x2 y2) e w' from HI2.out S1 V1 B1 W (b1.fr0 f));have HS1:=Hh s1;have HV1:=Hh v1;have HL1':=Hh l1;have HQ1:=Hh q1;have HF1:=Hh f1;clear b1 v1 s1 f1 l1 q1;obtain⟨k4,k5,k6,k7⟩:=HK.out wc FC.out;go_wp2_with fail;(with_reducible refine(HA2.out wc).mono ?_);rintro e wd ⟨rfl,fd⟩;have FD:=Hh fd;clear k4 k5 k6 k7 fd;go_wp2_with fail;(with_reducible refine(HP2.out wd FD.out).mono ?_);rintro e we ⟨p2,V2,B2,S2,rfl,b2,v2,s2,f2,l2,q2⟩;obtain⟨w6,hw6⟩:∃w6,w6=(we.alloc (.cells #[.int .i64 (p1:Int)] 3)).alloc (.cells #[.int .i64 (p2:Int)] 3):=⟨_,rfl⟩;have f6:Fr NoM we w6:=by rw[hw6];exact((Fr.refl NoM we).alloc _).alloc _
    have n1:Nats w6 (.slice (some ⟨we.heap.size,0,none⟩) 1 1) [p1]:=by
     rw[hw6];exact(SliceOf.one encN we p1 3).fr0 ((Fr.refl NoM _).alloc _)
    have n2:Nats w6 (.slice (some ⟨we.heap.size+1,0,none⟩) 1 1) [p2]:=by
     have h:=SliceOf.one encN (we.alloc (.cells #[.int .i64 (p1:Int)] 3)) p2 3;rw[World.size_alloc]at h;rw[hw6];exact h
    have r1:RowC V2 [p1] [numC x1 y1]:=(RowC.nil V2).snoc (by have:=v2.length_le;have:=HL1'.out;omega) (by rw[zan v2 HL1'.out];exact HQ1.out);have r2:RowC V2 [p2] [numC x2 y2]:=(RowC.nil V2).snoc l2 q2;have HP3:=Hh (HPut.out w6 S2 V2 B2 _ _ [p1] [p2] [numC x1 y1] [numC x2 y2] (b2.fr0 f6) n1 n2 r1 r2 HSd.out.symm (by simp) (by simp));have HV2:=Hh (HV1.out.trans v2);have HF6:=Hh f6;have HF2:=Hh f2;have HS2:=Hh s2;clear b2 v2 s2 f2 l2 q2 f6 n1 n2 r1 r2;go_wp2_with fail;rw[←hw6];clear hw6;(with_reducible refine HP3.out.mono ?_);rintro e w7 ⟨p3,V3,B3,S3,rfl,b3,v3,s3,f3,l3,q3⟩;have hS2:∀q,S2 q→S q∨w2.heap.size≤q:=fun q hq=>by
     rcases HS2.out q hq with h|h
     ·exact HS1.out q h
     ·have:=FD.out.size;have:=HF1.out.size;exact .inr (by omega)
    have hfr:Fr S w2 we:=(HF1.out.trans FD.out (fun _ _ q=>q.elim)).trans HF2.out (fun k hk h=>by
     rcases HS1.out k h with h|h
     ·exact h
     ·omega)
    have HE:=Hh (BkPost.of0 F2.out ⟨p3,V3,B3,S3,rfl,b3,HV2.out.trans v3,(fun q hq=>by
     rcases s3 q hq with h|h
     ·exact hS2 q h
     ·have:=HF6.out.size;have:=hfr.size;exact .inr (by omega)),(hfr.trans HF6.out (fun _ _ q=>q.elim)).trans f3 (fun k hk h=>by
      rcases hS2 k h with h|h
      ·exact h
      ·omega),l3,q3⟩:BkPost U bb w S V (numC t p) (.returned (.int .i64 (p3:Int))) w7)
    clear b3 v3 s3 f3 l3 q3 hS2 hfr;go_wp2_with fail;go_ret;exact HE.out
   ·have hp0:p=0:=by omega
    have HEnd:=Hh (fun(we W':World) (p1:Nat) (V1:List PL) (S1:Nat→Prop) (e:Ending) (hv1:V <+: V1) (hS1:∀q,S1 q→S q∨w2.heap.size≤q) (hF1:Fr S w2 we) (h:BkPost U bb we S1 V1 (numC t p) e W')=>show BkPost U bb w S V (numC t p) e W' from by
     obtain⟨p3,V3,B3,S3,he,b3,v3,s3,f3,l3,q3⟩:=h;exact BkPost.of0 F2.out ⟨p3,V3,B3,S3,he,b3,hv1.trans v3,(fun q hq=>by
      rcases s3 q hq with h|h
      ·exact hS1 q h
      ·have:=hF1.size;exact .inr (by omega)),hF1.trans f3 (fun k hk h=>by
      rcases hS1 k h with h|h
      ·exact h
      ·omega),l3,q3⟩)
    by_cases htp:0<t
    ·have ex:x1=t-1/\y1=0:=by
      have h:=HX1.out;rw[hp0]at h;exact⟨congrArg Prod.fst h,congrArg Prod.snd h⟩
     have hside:numC t p=mkC [numC x1 y1] []:=by rw[hp0,ex.1,ex.2,zen,zen];exact zi2 htp
     have o1:optC (numC t p) (numC x1 y1):=by rw[hside];exact .inl ((zai _ _ _).2 (by simp))
     have HI1:=Hh (HIh.out x1 y1 (by have:=za7 o1;have:=Hn.out;omega) (.inl ex.2) (by have:=HPt.out.1;omega) (by omega) (fun a ha=>HU.out a ((SubC.root.step o1).trans ha)));have HL1:=Hh (fun(W:World) (f:Fr NoM w2 W)=>show Calls Tryz.prog 168 #[.pointer (some ⟨bb,0,none⟩),.agg #[.int .i64 x1,.int .i64 (y1:Int)]] W fun e w'=>BkPost U bb W S V (numC x1 y1) e w' from HI1.out S V BV W (HB.out.fr0 f));have HSd:=Hh hside;have K0:Fr NoM w2 w2.drew:=(Fr.refl NoM w2).drew;obtain⟨k4,k5,k6,k7⟩:=HK.out w2.drew K0.any;have hpf:¬(0:Int)<(p:Int):=by omega
     clear ht0 hside ex o1 hp0;go_enter Tryz.func168,Tryz.ntmps168;go_upto_region 9 with fail;rw[←hw1,←hw2];clear hw1 hw2;go_region_law (first
      | (go_simp;first
       | (go_at_call 210;(with_reducible refine(HNeg.out _).mono ?_);rintro e wa ⟨rfl,fa⟩;have ka:Fr NoM w2 wa:=Fr.trans (by assumption) fa (fun _ _ q=>q);obtain⟨i0,i1,i2,i3⟩:=HK.out wa ka.any)
       | (go_at_call 209;(with_reducible refine(HA1.out _).mono ?_);rintro e wb ⟨rfl,fb⟩;have kb:Fr NoM w2 wb:=Fr.trans (by assumption) fb (fun _ _ q=>q);obtain⟨j0,j1,j2,j3⟩:=HK.out wb kb.any)
       | (go_at_call 168;(with_reducible refine(HL1.out wb kb).mono ?_);rintro e wc ⟨p1,V1,B1,S1,rfl,b1,v1,s1,f1,l1,q1⟩;have HPp:=Hh (HPut.out (wc.alloc (.cells #[.int .i64 (p1:Int)] 3)) S1 V1 B1 (.slice (some ⟨wc.heap.size,0,none⟩) 1 1) (.slice none 0 0) [p1] [] [numC x1 y1] [] (b1.fr0 ((Fr.refl NoM wc).alloc _)) (SliceOf.one encN wc p1 3) (SliceOf.nil _ _) ((RowC.nil V1).snoc l1 q1) (RowC.nil _) HSd.out.symm (by simp) (by simp));have HPq:=Hh (fun(W':World) (e:Ending) (h:BkPost U bb (wc.alloc (.cells #[.int .i64 (p1:Int)] 3)) S1 V1 (numC t p) e W')=>HEnd.out (wc.alloc (.cells #[.int .i64 (p1:Int)] 3)) W' p1 V1 S1 e v1 (fun q hq=>(s1 q hq).imp_right (fun h=>Nat.le_trans kb.size h)) ((kb.any.trans f1 (fun _ _ q=>q)).alloc _) h);clear b1 v1 s1 f1 l1 q1)
       | (go_at_call 155;(with_reducible refine HPp.out.mono ?_);rintro e wd hP;have HPr:=Hh (HPq.out wd e hP);obtain⟨p3,V3,B3,S3,rfl,z⟩:=hP;clear z)
       | fail)
      | fail)
     all_goals
      go_wp2;go_ret;exact HPr.out
    ·have ex:x2=t+1/\y2=0:=by
      have h:=HX2.out;rw[hp0]at h;exact⟨congrArg Prod.fst h,congrArg Prod.snd h⟩
     have htn:t<0:=by omega
     have hside:numC t p=mkC [] [numC x2 y2]:=by rw[hp0,ex.1,ex.2,zen,zen];exact zi3 htn
     have o1:optC (numC t p) (numC x2 y2):=by rw[hside];exact .inr ((zah _ _ _).2 (by simp))
     have HI1:=Hh (HIh.out x2 y2 (by have:=za7 o1;have:=Hn.out;omega) (.inl ex.2) (by have:=HPt.out.1;omega) (by omega) (fun a ha=>HU.out a ((SubC.root.step o1).trans ha)));have HL1:=Hh (fun(W:World) (f:Fr NoM w2 W)=>show Calls Tryz.prog 168 #[.pointer (some ⟨bb,0,none⟩),.agg #[.int .i64 x2,.int .i64 (y2:Int)]] W fun e w'=>BkPost U bb W S V (numC x2 y2) e w' from HI1.out S V BV W (HB.out.fr0 f));have HSd:=Hh hside;have hpf:¬(0:Int)<(p:Int):=by omega
     clear ht0 hside ex o1 hp0;go_enter Tryz.func168,Tryz.ntmps168;go_upto_region 10 with fail;rw[←hw1,←hw2];clear hw1 hw2;go_wp2_with fail;(with_reducible refine(HA2.out w2).mono ?_);rintro e wb ⟨rfl,kb⟩;go_wp2_with fail;(with_reducible refine(HL1.out wb kb).mono ?_);rintro e wc ⟨p1,V1,B1,S1,rfl,b1,v1,s1,f1,l1,q1⟩;have HPp:=Hh (HPut.out (wc.alloc (.cells #[.int .i64 (p1:Int)] 3)) S1 V1 B1 (.slice none 0 0) (.slice (some ⟨wc.heap.size,0,none⟩) 1 1) [] [p1] [] [numC x2 y2] (b1.fr0 ((Fr.refl NoM wc).alloc _)) (SliceOf.nil _ _) (SliceOf.one encN wc p1 3) (RowC.nil _) ((RowC.nil V1).snoc l1 q1) HSd.out.symm (by simp) (by simp));have HPq:=Hh (fun(W':World) (e:Ending) (h:BkPost U bb (wc.alloc (.cells #[.int .i64 (p1:Int)] 3)) S1 V1 (numC t p) e W')=>HEnd.out (wc.alloc (.cells #[.int .i64 (p1:Int)] 3)) W' p1 V1 S1 e v1 (fun q hq=>(s1 q hq).imp_right (fun h=>Nat.le_trans kb.size h)) ((kb.any.trans f1 (fun _ _ q=>q)).alloc _) h);clear b1 v1 s1 f1 l1 q1;go_wp2_with fail;(with_reducible refine HPp.out.mono ?_);rintro e wd hP;have HPr:=Hh (HPq.out wd e hP);obtain⟨p3,V3,B3,S3,rfl,z⟩:=hP;clear z;go_wp2_with fail;go_ret;exact HPr.out
theorem zmv {t p:Nat}(hp:p≤24):(t:Int)*2^(24-p)/2^24=((t/2^p:Nat):Int):=by
 have e1:(t:Int)*2^(24-p)=((t*2^(24-p):Nat):Int):=by simp
 have e2:(2:Int)^24=((2^24:Nat):Int):=by simp
 rw[e1,e2,←Int.natCast_ediv,show(2:Nat)^24=2^p*2^(24-p)from by rw[←Nat.pow_add,show p+(24-p)=24 from by omega],Nat.mul_div_mul_right _ _ (Nat.pow_pos (by decide))]
set_option maxRecDepth 4000 in
set_option maxHeartbeats 2000000 in
theorem zmk (t p:Nat)(w:World)(hp:p≤24)(ht:t≤1073741824):Calls Tryz.prog 208 #[.agg #[.int .i64 (t:Int),.int .i64 (p:Int)]] w fun e w'=>e=.returned (.int .i64 ((t/2^p:Nat):Int))/\Fr NoM w w':=by
 obtain⟨w1,hw1⟩:∃w1,w1=w.alloc (.cells #[.int .i64 (t:Int),.int .i64 (p:Int)] 45):=⟨_,rfl⟩;have f1:Fr NoM w w1:=by rw[hw1];exact(Fr.refl NoM w).alloc _
 obtain⟨m,hm⟩:∃m:Int,m=(t:Int)*2^(24-p):=⟨_,rfl⟩;have hb:=zfz (T:=(t:Int)) hp (by omega);rw[←hm]at hb;have HS:=Hh (show Calls Tryz.prog 215 #[.agg #[.int .i64 (t:Int),.int .i64 (p:Int)]] w1 fun e w'=>e=.returned (.int .i64 m)/\Fr NoM w1 w' from by rw[hm];exact zc9 (t:Int) p w1 hp (by omega));have HE:=Hh (show m/16777216=((t/2^p:Nat):Int)from by rw[←zmv hp,hm];rfl);have F1:=Hh f1;clear f1 hm;go_enter Tryz.func208,Tryz.ntmps208;go_wp2_with fail;rw[←hw1];clear hw1;(with_reducible refine HS.out.mono ?_);rintro e w2 ⟨rfl,f2⟩;have F2:=Hh (F1.out.trans f2 (fun _ _ q=>q));clear f2;go_wp2;go_ret;exact⟨by rw[←HE.out];rfl,F2.out⟩
set_option maxRecDepth 4000 in
set_option maxHeartbeats 4000000 in
theorem zvd (t:Int)(p:Nat)(w:World)(hp:p≤16)(ht:t.natAbs≤1000000):Calls Tryz.prog 167 #[.agg #[.int .i64 t,.int .i64 (p:Int)]] w fun e w'=>e=.returned (.int .i64 ((numB t p:Nat):Int))/\Fr NoM w w':=by
 obtain⟨n,hn⟩:∃n,n=t.natAbs:=⟨_,rfl⟩;obtain⟨w1,hw1⟩:∃w1,w1=w.alloc (.cells #[.int .i64 (n:Int),.int .i64 (p:Int)] 45):=⟨_,rfl⟩;have f1:Fr NoM w w1:=by rw[hw1];exact(Fr.refl NoM w).alloc _
 have e1:w1.heap[w.heap.size]?=some (.cells #[.int .i64 (n:Int),.int .i64 (p:Int)] 45 (0,0)):=by rw[hw1];exact heap_alloc_new w _
 obtain⟨q,hq⟩:∃q,q=n/2^p:=⟨_,rfl⟩;have hql:q≤n:=by rw[hq];exact Nat.div_le_self _ _
 have HFl:=Hh (fun(W:World)=>show Calls Tryz.prog 208 #[.agg #[.int .i64 (n:Int),.int .i64 (p:Int)]] W fun e w'=>e=.returned (.int .i64 (q:Int))/\Fr NoM W w' from by rw[hq];exact zmk n p W (by omega) (by omega));have HK:=Hh (fun(W:World) (f:Fr NoM w1 W)=>(by
  have h0:=f.heap e1 (fun q=>q);exact⟨by rw[cell_of_row W _ 0 _ _ _ h0];rfl,by rw[cell_of_row W _ 1 _ _ _ h0];rfl⟩:W.cell? ⟨w.heap.size,0,none⟩=some (.int .i64 (n:Int))/\W.cell? ⟨w.heap.size,1,none⟩=some (.int .i64 (p:Int))))
 have F1:=Hh f1;have HNB:=Hh (show numB t p=if p=0 then n else q+p+1 from by unfold numB;rw[←hn,←hq]);clear hq;have HN:=Hh hn;have hnb:n≤1000000:=by omega
 have K0:Fr NoM w1 w1.drew:=(Fr.refl NoM w1).drew;by_cases hneg:t<0
 ·have hnt:-t=(n:Int):=by omega
  clear f1 e1 ht hn;by_cases hp0:p=0
  ·have hq0:((p:Int) == 0)=true:=by simp[hp0]
   have HE:=Hh (show numB t p=n from by rw[HNB.out,if_pos hp0]);clear hp0;go_enter Tryz.func167,Tryz.ntmps167;go_wp2;go_ret;rw[←hw1];exact⟨by rw[HE.out];rfl,F1.out⟩
  ·have hq0:((p:Int) == 0)=false:=by simp[hp0]
   have HE:=Hh (show numB t p=q+p+1 from by rw[HNB.out,if_neg hp0]);clear hp0;go_enter Tryz.func167,Tryz.ntmps167;go_upto_region 5 with fail;rw[←hw1];clear hw1;obtain⟨k0,k1⟩:=HK.out w1.drew K0;go_region_law (first
    | (go_simp;first
     | (go_at_call 208;(with_reducible refine(HFl.out _).mono ?_);rintro e wa ⟨rfl,fa⟩;have ka:Fr NoM w1 wa:=Fr.trans (by assumption) fa (fun _ _ q=>q);obtain⟨i0,i1⟩:=HK.out wa ka)
     | fail)
    | fail)
   all_goals
    go_wp2;go_ret;refine⟨?_,F1.out.trans ka (fun _ _ q=>q)⟩;rw[HE.out];first|rfl|(refine congrArg (fun x=>Ending.returned (Value.int .i64 x)) ?_;rw[IntKind.wrap_i64,IntKind.wrap_i64];omega)
 ·have hnt:t=(n:Int):=by omega
  clear f1 e1 ht hn;subst hnt;by_cases hp0:p=0
  ·have hq0:((p:Int) == 0)=true:=by simp[hp0]
   have HE:=Hh (show numB (n:Int) p=n from by rw[HNB.out,if_pos hp0]);clear hp0;go_enter Tryz.func167,Tryz.ntmps167;go_wp2;go_ret;rw[←hw1];exact⟨by rw[HE.out];rfl,F1.out⟩
  ·have hq0:((p:Int) == 0)=false:=by simp[hp0]
   have HE:=Hh (show numB (n:Int) p=q+p+1 from by rw[HNB.out,if_neg hp0]);clear hp0;go_enter Tryz.func167,Tryz.ntmps167;go_upto_region 5 with fail;rw[←hw1];clear hw1;obtain⟨k0,k1⟩:=HK.out w1.drew K0;go_region_law (first
    | (go_simp;first
     | (go_at_call 208;(with_reducible refine(HFl.out _).mono ?_);rintro e wa ⟨rfl,fa⟩;have ka:Fr NoM w1 wa:=Fr.trans (by assumption) fa (fun _ _ q=>q);obtain⟨i0,i1⟩:=HK.out wa ka)
     | fail)
    | fail)
   all_goals
    go_wp2;go_ret;refine⟨?_,F1.out.trans ka (fun _ _ q=>q)⟩;rw[HE.out];first|rfl|(refine congrArg (fun x=>Ending.returned (Value.int .i64 x)) ?_;rw[IntKind.wrap_i64,IntKind.wrap_i64];omega)
noncomputable def zke (t:Int)(p:Nat):List PL:=if 120≤numB t p then []else numN t p
theorem zvh {t:Int}{p:Nat}(hr:Red t p):zam (zke t p)=zam (numN t p)/\(if zam (zke t p)=true then zke t p else [])=if zam (numN t p)=true then numN t p else []:=by
 unfold zke;by_cases h:120≤numB t p
 ·rw[if_pos h,ztb hr h]
  exact⟨by decide,by simp[zam]⟩
 ·rw[if_neg h]
  exact⟨rfl,rfl⟩
theorem zy6 {t:Int}{p:Nat}(h:¬ 120≤numB t p):t.natAbs/2^p<120:=by
 unfold numB at h;by_cases hp:p=0
 ·rw[if_pos hp]at h
  subst hp;simp;omega
 ·rw[if_neg hp]at h
  omega
set_option maxRecDepth 4000 in
set_option maxHeartbeats 8000000 in
theorem zv4 (t:Int)(p:Nat)(w:World)(hr:Red t p)(ht:t.natAbs≤1000000)(hp:p≤16) :
  Calls Tryz.prog 108 #[.agg #[.int .i64 t,.int .i64 (p:Int)]] w fun e w'=>∃v',e=.returned (.agg #[v'])/\NodeL (fun b=>w.heap.size≤b) encN w' v' (zke t p)/\Fr NoM w w':=by
 obtain⟨w1,hw1⟩:∃w1,w1=(w.alloc (.cells #[.int .i64 t,.int .i64 (p:Int)] 45)).alloc (.cells #[.slice none 0 0] 31):=⟨_,rfl⟩;have f1:Fr NoM w w1:=by rw[hw1];exact((Fr.refl NoM w).alloc _).alloc _
 have hs1:w1.heap.size=w.heap.size+2:=by rw[hw1];simp
 have e0:w1.heap[w.heap.size]?=some (.cells #[.int .i64 t,.int .i64 (p:Int)] 45 (0,0)):=by rw[hw1];exact((Fr.refl NoM _).alloc _).heap (heap_alloc_new w _) (fun q=>q)
 have e1:w1.heap[w.heap.size+1]?=some (.cells #[.slice none 0 0] 31 (0,0)):=by
  have h:=heap_alloc_new (w.alloc (.cells #[.int .i64 t,.int .i64 (p:Int)] 45)) (.cells #[.slice none 0 0] 31);rw[World.size_alloc]at h;rw[hw1];exact h
 have HK:=Hh (fun(W:World) (f:Fr (fun q=>w1.heap.size≤q) w1 W)=>(by
  have h0:=f.heap e0 (fun q=>by omega);have h1:=f.heap e1 (fun q=>by omega);exact⟨by rw[cell_of_row W _ 0 _ _ _ h0];rfl,by rw[cell_of_row W _ 1 _ _ _ h0];rfl,by rw[cell_of_row W _ 0 _ _ _ h1];rfl,by simp[World.frozen?,h1]⟩:W.cell? ⟨w.heap.size,0,none⟩=some (.int .i64 t)/\W.cell? ⟨w.heap.size,1,none⟩=some (.int .i64 (p:Int))/\W.cell? ⟨w.heap.size+1,0,none⟩=some (.slice none 0 0)/\W.frozen? ⟨w.heap.size+1,0,none⟩=false))
 obtain⟨bn,hbn⟩:∃bn,bn=numB t p:=⟨_,rfl⟩;have HBo:=Hh (show Calls Tryz.prog 167 #[.agg #[.int .i64 t,.int .i64 (p:Int)]] w1 fun e w'=>e=.returned (.int .i64 (bn:Int))/\Fr NoM w1 w' from by rw[hbn];exact zvd t p w1 hp ht);have F1:=Hh f1;have HS1:=Hh hs1;have HBn:=Hh hbn;have HR:=Hh hr;have HT:=Hh ht;have HP:=Hh hp;clear f1 hs1 e0 e1 hbn hr ht hp;obtain⟨k0,k1,k2,k3⟩:=HK.out w1 (Fr.refl _ _);go_enter Tryz.func108,Tryz.ntmps108;go_wp2_with fail;rw[←hw1];clear hw1;(with_reducible refine HBo.out.mono ?_);rintro e w2 ⟨rfl,f2⟩;have F2:=Hh f2;clear k0 k1 k2 k3 f2;obtain⟨k0,k1,k2,k3⟩:=HK.out w2 F2.out.any;by_cases hbig:120≤bn
 ·go_wp2
  refine bodyPost_ret (v:=.agg #[.slice none 0 0]) (by simp[results,Tryz.results108,go_sem,k2,k3]) rfl ?_
  have hf:zke t p=[]:=by unfold zke;rw[←HBn.out,if_pos hbig]
  rw[hf];exact⟨_,rfl,⟨none,0,rfl,Nat.le_refl _,by decide,by simp⟩,(F1.out.trans F2.out (fun _ _ q=>q)).setCell _ _ (fun h=>by have h:w.heap.size+1<w.heap.size:=h;omega)⟩
 ·have hsm:=zy6 (t:=t) (p:=p) (by rw[←HBn.out];exact hbig)
  obtain⟨w3,hw3⟩:∃w3,w3=w2.alloc (.cells #[.slice none 0 0,.slice none 0 0] 137):=⟨_,rfl⟩;have f3:Fr NoM w2 w3:=by rw[hw3];exact(Fr.refl NoM w2).alloc _
  have e3:w3.heap[w2.heap.size]?=some (.cells #[.slice none 0 0,.slice none 0 0] 137 (0,0)):=by rw[hw3];exact heap_alloc_new w2 _
  obtain⟨bb,hbb⟩:∃bb,bb=w2.heap.size:=⟨_,rfl⟩;rw[←hbb]at e3;obtain⟨U,hU⟩:∃U,U=numU t p 121:=⟨_,rfl⟩;have hUl:U.length<1000:=by rw[hU,ztc];have:=HP.out;omega
  have HPu:=Hh (zyf (U:=U) (by omega) bb _ t p (Nat.lt_succ_self _) HR.out HT.out HP.out (fun a ha=>by rw[hU];exact zy4 HR.out hsm a ha));have HPt:=Hh (show Calls Tryz.prog 168 #[.pointer (some ⟨bb,0,none⟩),.agg #[.int .i64 t,.int .i64 (p:Int)]] w3 fun e w'=>BkPost U bb w3 (fun q=>q=bb) [] (numC t p) e w' from HPu.out _ [] [] w3 (BkN.start e3));have F3:=Hh (F2.out.trans f3 (fun _ _ q=>q));have HBB:=Hh hbb;have HUl:=Hh hUl;have HD:=Hh (show zke t p=zak (numC t p)from by unfold zke;rw[←HBn.out,if_neg hbig];rfl);clear k0 k1 k2 k3 f3 e3 hU hUl hsm;go_upto_region 4 with fail;rw[←hw3,←hbb];clear hw3 hbb;obtain⟨k0,k1,k2,k3⟩:=HK.out w3 F3.out.any;go_wp2_with fail;(with_reducible refine HPt.out.mono ?_);rintro e w4 ⟨i,V,BV,S,rfl,b4,_,s4,f4,i4,q4⟩;have hlen:=b4.len;have HFo:=Hh (zks bb i V BV w4 b4.book (ze2 b4.ok) i4 (by have:=HUl.out;omega) (b4.ok.lens (n:=100000000) (by have:=HUl.out;omega)));have HFe:=Hh (show zd5 V BV i=zke t p from by rw[HD.out];exact ze1 b4.ok i4 q4);have F4:=Hh (F3.out.any.trans f4 (fun k _ h=>by have h:k=bb:=h;have:=HBB.out;have:=F2.out.size;omega):Fr (fun q=>w1.heap.size≤q) w1 w4);clear b4 s4 f4 i4 q4 hlen k0 k1 k2 k3;obtain⟨k0,k1,k2,k3⟩:=HK.out w4 F4.out;go_wp2_with fail;(with_reducible refine HFo.out.mono ?_);rintro e w5 ⟨v',rfl,n5,f5⟩;rw[HFe.out]at n5;have F5:=Hh (F4.out.trans f5 (fun _ _ q=>q.elim));have HN5:=Hh n5;have HZ:=Hh (show w.heap.size+2≤w4.heap.size from by have:=F4.out.size;have:=HS1.out;omega);obtain⟨va,vc,rfl,zz⟩:=id n5;clear zz n5 f5 k0 k1 k2 k3;obtain⟨k0,k1,k2,k3⟩:=HK.out w5 F5.out;go_wp2;refine bodyPost_ret (v:=.agg #[.slice va (zke t p).length vc]) (by simp[results,Tryz.results108,go_sem,k2,k3]) rfl ?_
  refine⟨_,rfl,?_,(F1.out.trans F5.out (fun k hk h=>by have h:w1.heap.size≤k:=h;have:=HS1.out;omega)).setCell _ _ (fun h=>by have h:w.heap.size+1<w.heap.size:=h;omega)⟩;exact(HN5.out.fr (Fr.set w5 ⟨w.heap.size+1,0,none⟩ _) (fun q hq e=>by have e:q=w.heap.size+1:=e;have hq:w4.heap.size≤q:=hq;have:=HZ.out;omega)).mono (fun q hq=>by have hq:w4.heap.size≤q:=hq;have:=HZ.out;omega)
end Go.Proofs.YtbbbmjiloihajaaGreatDoor
