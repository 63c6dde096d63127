import Derived.Test.YtghekfmfonoocaaGreatDoorZtn
import Derived.Test.YtghekfmfonoocaaGreatDoorZtb
import Derived.Test.YtghekfmfonoocaaGreatDoorZtf
import Derived.Test.YtghekfmfonoocaaGreatDoorZt5
/- Lemmas. -/
namespace Go.Proofs.YtghekfmfonoocaaGreatDoor
set_option linter.unusedVariables false
set_option linter.unusedSimpArgs false
open Go.RowKit
section
variable {U:List Nat}{pb sb:Nat}{mo mc ms:Value}{w W w':World}{V V1:List PL}{BV BV1:List Nat}{M I M1 I1:Nat→Prop}{f f1:Nat→Option Nat}
theorem NegPost.step {c:Nat}{e:Ending}(nx:PNx sb w V M I W V1 M1 I1)(h:NegPost U pb sb mo mc ms W V1 M1 I1 c e w'):NegPost U pb sb mo mc ms w V M I c e w':=by
 obtain⟨i,V',BV',M',I',f',h1,h2,h3,h4,h5⟩:=h;exact⟨i,V',BV',M',I',f',h1,h2,nx.trans h3,h4,h5⟩
theorem NegPost.of0 {c:Nat}{e:Ending}(hf:Fr NoM w W)(h:NegPost U pb sb mo mc ms W V M I c e w'):NegPost U pb sb mo mc ms w V M I c e w':=h.step (PNx.of0 hf)
theorem zcf (hUl:U.length<1000000)(a1 a2:Option Addr)(n1 n2 c1 c2:Nat){L R cs ds:List Nat}(e1:n1=L.length)(e2:n2=R.length)(h:PSt encN NegMO U pb sb mo mc ms (.map (some sb)) W V BV M I f)(hL:Nats W (.slice a1 n1 c1) L)(hR:Nats W (.slice a2 n2 c2) R)
  (rL:RowC V L cs) (rR:RowC V R ds) (hc:mkC cs ds∈U) (ll:L.length≤1000) (lr:R.length≤1000) :
  Calls Tryz.prog 108 #[.pointer (some ⟨pb,0,none⟩),.slice a1 n1 c1,.slice a2 n2 c2] W fun e w'=>NegPost U pb sb mo mc ms W V M I (mkC cs ds) e w':=by
 subst e1;subst e2;have hlen:=h.len;refine(ybb pb V BV L R mo mc ms (.map (some sb)) a1 a2 c1 c2 W h.pool hL hR rL.1 rR.1 (by omega) (by omega) (by omega) (fun q hq=>by have:=(zf5 h.ok).lt V.length (Nat.le_refl _) q hq;omega)).mono ?_
 rintro e w' ⟨rfl,M5,I5,p5,hM5,hI5,f5⟩;obtain⟨st5,nx5,hr5,hc5⟩:=h.node (fun h hp=>h.mono hp) rL rR hc p5 hM5 hI5 f5;exact⟨_,_,_,_,_,_,rfl,st5,nx5,hr5,hc5⟩
end
def yfa (U:List Nat)(pb sb:Nat)(mo mc ms:Value)(t:Int)(p:Nat):Prop:=∀(V:List PL) (BV:List Nat) (M I:Nat→Prop) (f:Nat→Option Nat) (w:World),PSt encN NegMO U pb sb mo mc ms (.map (some sb)) w V BV M I f →
  Calls Tryz.prog 105 #[.pointer (some ⟨pb,0,none⟩),.agg #[.int .i64 t,.int .i64 (p:Int)]] w fun e w'=>NegPost U pb sb mo mc ms w V M I (numC t p) e w'
set_option maxRecDepth 8000 in
set_option maxHeartbeats 16000000 in
theorem zvd {U:List Nat}(hUl:U.length<1000000)(pb sb:Nat)(mo mc ms:Value):∀(n:Nat) (t:Int) (p:Nat),p<n→Red t p→t.natAbs≤1000000→p≤16→(∀a,SubC (numC t p) a→a∈U)→yfa U pb sb mo mc ms t p:=by
 intro n;induction n with
 | zero=>intro t p h;omega
 | succ n ih =>
  intro t p hn hr ht hp hU V BV M I f w hst;obtain⟨w1,hw1⟩:∃w1,w1=w.alloc (.cells #[.int .i64 t,.int .i64 (p:Int)] 29):=⟨_,rfl⟩;have f1:Fr NoM w w1:=by rw[hw1];exact(Fr.refl NoM w).alloc _
  have e1:w1.heap[w.heap.size]?=some (.cells #[.int .i64 t,.int .i64 (p:Int)] 29 (0,0)):=by rw[hw1];exact heap_alloc_new w _
  have hst1:=hst.fr0 f1;have hml:∀q,M q∨q=sb→q<w.heap.size:=fun q hq=>by
   rcases hq with h|h
   ·exact(hst.mlt q h).1
   ·rw[h];exact hst.map.lt
  have HK:=Hh (fun(W:World) (f:Fr (fun q=>(M q∨q=sb)∨w1.heap.size≤q) w1 W)=>(by
   have l1:=(Array.getElem?_eq_some_iff.1 e1).1;have h0:=f.heap e1 (fun h=>by
    rcases h with h|h
    ·have:=hml _ h;omega
    ·omega)
   exact⟨by rw[cell_of_row W _ 0 _ _ _ h0];rfl,by rw[cell_of_row W _ 1 _ _ _ h0];rfl⟩:W.cell? ⟨w.heap.size,0,none⟩=some (.int .i64 t)/\W.cell? ⟨w.heap.size,1,none⟩=some (.int .i64 (p:Int))))
  have HSt:=Hh hst1;have F1:=Hh f1;have HIh:=Hh ih;have HUl:=Hh hUl;have HR:=Hh hr;have HT:=Hh ht;have HP:=Hh hp;have HU:=Hh hU;have Hn:=Hh hn;have htb:-1000000≤t/\t≤1000000:=by omega
  have hNil:=fun(W:World) (f':Fr NoM w1 W) (hz:zar∈U)=>zcf (L:=[]) (R:=[]) hUl none none 0 0 0 0 rfl rfl (hst1.fr0 f') (SliceOf.nil _ _) (SliceOf.nil _ _) (RowC.nil V) (RowC.nil V) (show mkC [] []∈U from hz) (by simp) (by simp)
  have HNil:=Hh hNil;clear hst hst1 hml f1 e1 ih hUl hr ht hp hU hn hNil;obtain⟨k0,k1⟩:=HK.out w1 (Fr.refl _ _);by_cases hp0:p=0
  ·have hpz:((p:Int) == 0)=true:=by simp[hp0]
   have hC:numC t p=intC t:=by rw[hp0];rfl
   have hUi:=HU.out;rw[hC]at hUi ⊢;have HUi:=Hh hUi;clear hC hUi;by_cases ht0:t=0
   ·have htz:(t == 0)=true:=by simp[ht0]
    have hCz:intC t=zar:=by rw[ht0];rfl
    have HN0:=Hh (HNil.out w1 (Fr.refl _ _) (by rw[←hCz];exact HUi.out _ .root));rw[hCz];clear hp0 ht0 hCz;go_enter Tryz.func105,Tryz.ntmps105;go_wp2_with fail;rw[←hw1];clear hw1;(with_reducible refine HN0.out.mono ?_);rintro e w2 ⟨i,V',BV',M',I',f',rfl,h2,h3,h4,h5⟩;have HE:=Hh (NegPost.of0 F1.out ⟨i,V',BV',M',I',f',rfl,h2,h3,h4,h5⟩:NegPost U pb sb mo mc ms w V M I zar (.returned (.int .i64 (i:Int))) w2);clear h2 h3 h4 h5;go_wp2_with fail;go_ret;exact HE.out
   ·have htz:(t == 0)=false:=by simp[ht0]
    by_cases htp:0<t
    ·obtain⟨m,rfl⟩:∃m:Nat,t=(m:Int):=⟨t.toNat,by omega⟩
     rw[zhu];have hUp:=HUi.out;rw[zhu]at hUp;have HUp:=Hh (fun k (hk:k≤m)=>hUp _ (ydf hk));have HN0:=Hh (HNil.out w1 (Fr.refl _ _) (HUp.out 0 (Nat.zero_le _)));clear hp0 ht0 hUp HUi;go_enter Tryz.func105,Tryz.ntmps105;go_wp2_with fail;rw[←hw1];clear hw1;(with_reducible refine HN0.out.mono ?_);rintro e w2 ⟨i,V',BV',M',I',f',rfl,h2,h3,h4,h5⟩;have F2:=Hh (h3.fr.mono (fun _ _ q=>.inl q):Fr (fun q=>(M q∨q=sb)∨w1.heap.size≤q) w1 w2);have HE:=Hh (⟨i,V',BV',M',I',f',rfl,h2,h3,h4,h5⟩:NegPost U pb sb mo mc ms w1 V M I (posC 0) (.returned (.int .i64 (i:Int))) w2);clear h2 h3 h4 h5 k0 k1;obtain⟨k0,k1⟩:=HK.out w2 F2.out;go_wp2_with fail;clear k0 k1;go_loopw [5,35] (fun v5 t' W=>∃(k:Nat),t'=.int .i64 k/\k≤m/\NegPost U pb sb mo mc ms w1 V M I (posC k) (.returned v5) W) (fun _ t _=>m-(intOf t).toNat)
     case atStart=>exact⟨0,rfl,Nat.zero_le _,HE.out⟩
     case round =>
      obtain⟨k,rfl,hk,i1,V1,B1,M1,I1,f1,he,st1,nx1,l1,q1⟩:=hrel;obtain⟨w7,rfl⟩:∃w7,w7=wr:=⟨_,rfl⟩;have he:=Ending.returned.inj he;subst he;by_cases hkm:k<m
      ·have HNd:=Hh (zcf (R:=[]) HUl.out (some ⟨w7.heap.size,0,none⟩) none 1 0 1 0 rfl rfl (st1.fr0 ((Fr.refl NoM w7).alloc (.cells #[.int .i64 (i1:Int)] 3))) (SliceOf.one encN w7 i1 3) (SliceOf.nil _ _) ((RowC.nil V1).snoc l1 q1) (RowC.nil _) (HUp.out (k+1) (by omega)) (by simp) (by simp))
       have HNx:=Hh (nx1.trans (PNx.of0 ((Fr.refl NoM w7).alloc (.cells #[.int .i64 (i1:Int)] 3))));clear st1 nx1 l1 q1;go_wp2_with fail;(with_reducible refine HNd.out.mono ?_);rintro e w8 ⟨i2,V2,B2,M2,I2,f2,rfl,st2,nx2,l2,q2⟩;have HE2:=Hh (NegPost.step HNx.out ⟨i2,V2,B2,M2,I2,f2,rfl,st2,nx2,l2,q2⟩:NegPost U pb sb mo mc ms w1 V M I (posC (k+1)) (.returned (.int .i64 (i2:Int))) w8);clear st2 nx2 l2 q2;go_wp2;go_roundw
       case rel=>exact⟨k+1,by go_num,by omega,HE2.out⟩
       case measure=>simp[intOf];omega
      ·obtain rfl:k=m:=by omega
       have HE2:=Hh (NegPost.of0 F1.out ⟨i1,V1,B1,M1,I1,f1,rfl,st1,nx1,l1,q1⟩:NegPost U pb sb mo mc ms w V M I (posC k) (.returned (.int .i64 (i1:Int))) w7);clear st1 nx1 l1 q1;go_wp2;go_ret;exact HE2.out
    ·obtain⟨m,rfl⟩:∃m:Nat,t=-(m:Int):=⟨(-t).toNat,by omega⟩
     rw[zg3];have hUp:=HUi.out;rw[zg3]at hUp;have HUp:=Hh (fun k (hk:k≤m)=>hUp _ (yap hk));have HN0:=Hh (HNil.out w1 (Fr.refl _ _) (HUp.out 0 (Nat.zero_le _)));clear hp0 ht0 hUp HUi;go_enter Tryz.func105,Tryz.ntmps105;go_wp2_with fail;rw[←hw1];clear hw1;(with_reducible refine HN0.out.mono ?_);rintro e w2 ⟨i,V',BV',M',I',f',rfl,h2,h3,h4,h5⟩;have F2:=Hh (h3.fr.mono (fun _ _ q=>.inl q):Fr (fun q=>(M q∨q=sb)∨w1.heap.size≤q) w1 w2);have HE:=Hh (⟨i,V',BV',M',I',f',rfl,h2,h3,h4,h5⟩:NegPost U pb sb mo mc ms w1 V M I (zfz 0) (.returned (.int .i64 (i:Int))) w2);clear h2 h3 h4 h5 k0 k1;obtain⟨k0,k1⟩:=HK.out w2 F2.out;go_wp2_with fail;clear k0 k1;go_loopw [6,52] (fun v5 t' W=>∃(k:Nat),t'=.int .i64 k/\k≤m/\NegPost U pb sb mo mc ms w1 V M I (zfz k) (.returned v5) W) (fun _ t _=>m-(intOf t).toNat)
     case atStart=>exact⟨0,rfl,Nat.zero_le _,HE.out⟩
     case round =>
      obtain⟨k,rfl,hk,i1,V1,B1,M1,I1,f1,he,st1,nx1,l1,q1⟩:=hrel;obtain⟨w7,rfl⟩:∃w7,w7=wr:=⟨_,rfl⟩;have he:=Ending.returned.inj he;subst he;by_cases hkm:k<m
      ·have HNd:=Hh (zcf (L:=[]) HUl.out none (some ⟨w7.heap.size,0,none⟩) 0 1 0 1 rfl rfl (st1.fr0 ((Fr.refl NoM w7).alloc (.cells #[.int .i64 (i1:Int)] 3))) (SliceOf.nil _ _) (SliceOf.one encN w7 i1 3) (RowC.nil _) ((RowC.nil V1).snoc l1 q1) (HUp.out (k+1) (by omega)) (by simp) (by simp))
       have HNx:=Hh (nx1.trans (PNx.of0 ((Fr.refl NoM w7).alloc (.cells #[.int .i64 (i1:Int)] 3))));clear st1 nx1 l1 q1;go_wp2_with fail;(with_reducible refine HNd.out.mono ?_);rintro e w8 ⟨i2,V2,B2,M2,I2,f2,rfl,st2,nx2,l2,q2⟩;have HE2:=Hh (NegPost.step HNx.out ⟨i2,V2,B2,M2,I2,f2,rfl,st2,nx2,l2,q2⟩:NegPost U pb sb mo mc ms w1 V M I (zfz (k+1)) (.returned (.int .i64 (i2:Int))) w8);clear st2 nx2 l2 q2;go_wp2;go_roundw
       case rel=>exact⟨k+1,by go_num,by omega,HE2.out⟩
       case measure=>simp[intOf];omega
      ·obtain rfl:k=m:=by omega
       have HE2:=Hh (NegPost.of0 F1.out ⟨i1,V1,B1,M1,I1,f1,rfl,st1,nx1,l1,q1⟩:NegPost U pb sb mo mc ms w V M I (zfz k) (.returned (.int .i64 (i1:Int))) w7);clear st1 nx1 l1 q1;go_wp2;go_ret;exact HE2.out
  ·have hpp:0<p:=by have:¬p=0:=hp0;omega
   have hpz:((p:Int) == 0)=false:=by simp[hp0]
   obtain⟨⟨x1,y1⟩,hx1⟩:∃x,x=redT (t-1) p:=⟨_,rfl⟩;obtain⟨⟨x2,y2⟩,hx2⟩:∃x,x=redT (t+1) p:=⟨_,rfl⟩;have hside:=ztu HR.out hpp;rw[←hx1,←hx2]at hside;have hside:numC t p=mkC [numC x1 y1] [numC x2 y2]:=hside;have g1:=zi0 HR.out HT.out hpp HP.out (t-1) (.inl rfl);have g2:=zi0 HR.out HT.out hpp HP.out (t+1) (.inr rfl);have HL1:=Hh (fun(W:World)=>show Calls Tryz.prog 146 #[.int .i64 (t-1),.int .i64 (p:Int)] W fun e w'=>e=.returned (.tuple #[.agg #[.int .i64 x1,.int .i64 (y1:Int)],.bool true])/\Fr NoM W w' from by
    have h:=zns (t-1) p W (by omega) (by have:=HP.out;omega) true (by simp[g1.1]);unfold lowT at h;rw[←hx1]at h;exact h)
   have HL2:=Hh (fun(W:World)=>show Calls Tryz.prog 146 #[.int .i64 (t+1),.int .i64 (p:Int)] W fun e w'=>e=.returned (.tuple #[.agg #[.int .i64 x2,.int .i64 (y2:Int)],.bool true])/\Fr NoM W w' from by
    have h:=zns (t+1) p W (by omega) (by have:=HP.out;omega) true (by simp[g2.1]);unfold lowT at h;rw[←hx2]at h;exact h)
   rw[←hx1]at g1;rw[←hx2]at g2;have o1:optC (numC t p) (numC x1 y1):=by rw[hside];exact .inl ((zab _ _ _).2 (by simp))
   have o2:optC (numC t p) (numC x2 y2):=by rw[hside];exact .inr ((zad _ _ _).2 (by simp))
   have HI1:=Hh (HIh.out x1 y1 (by have:=g1.2.1;have:=Hn.out;show y1<n;have h:y1<p:=g1.2.1;omega) g1.2.2.1 g1.2.2.2 (by have h:y1<p:=g1.2.1;have:=HP.out;omega) (fun a ha=>HU.out a ((SubC.root.step o1).trans ha)));have HI2:=Hh (HIh.out x2 y2 (by have:=Hn.out;have h:y2<p:=g2.2.1;omega) g2.2.2.1 g2.2.2.2 (by have h:y2<p:=g2.2.1;have:=HP.out;omega) (fun a ha=>HU.out a ((SubC.root.step o2).trans ha)));have HSd:=Hh hside;have HIn:=Hh (HU.out _ .root);clear hp0 hpp hx1 hx2 hside g1 g2 o1 o2;go_enter Tryz.func105,Tryz.ntmps105;go_wp2_with fail;rw[←hw1];clear hw1;(with_reducible refine(HL1.out w1).mono ?_);rintro e w2 ⟨rfl,f2⟩;have F2:=Hh f2;obtain⟨w3,hw3⟩:∃w3,w3=w2.alloc (.cells #[.int .i64 x1,.int .i64 (y1:Int)] 29):=⟨_,rfl⟩;have f3:Fr NoM w1 w3:=by rw[hw3];exact f2.alloc _
   have e3:w3.heap[w2.heap.size]?=some (.cells #[.int .i64 x1,.int .i64 (y1:Int)] 29 (0,0)):=by rw[hw3];exact heap_alloc_new w2 _
   have F3:=Hh f3;have E3:=Hh e3;clear f2 f3 e3 k0 k1;go_upto_region 18 with fail;rw[←hw3];clear hw3;obtain⟨k0,k1⟩:=HK.out w3 F3.out.any;go_wp2_with fail;(with_reducible refine(HL2.out w3).mono ?_);rintro e w4 ⟨rfl,f4⟩;obtain⟨w5,hw5⟩:∃w5,w5=w4.alloc (.cells #[.int .i64 x2,.int .i64 (y2:Int)] 29):=⟨_,rfl⟩;have f5:Fr NoM w3 w5:=by rw[hw5];exact f4.alloc _
   have e5:w5.heap[w4.heap.size]?=some (.cells #[.int .i64 x2,.int .i64 (y2:Int)] 29 (0,0)):=by rw[hw5];exact heap_alloc_new w4 _
   have e35:=f5.heap E3.out (fun q=>q);have HW:=Hh (fun(W:World) (f:Fr (fun q=>(M q∨q=sb)∨w5.heap.size≤q) w5 W)=>(by
    have l3:=(Array.getElem?_eq_some_iff.1 e35).1;have l5:=(Array.getElem?_eq_some_iff.1 e5).1;have z2:=F2.out.size;have z4:=f4.size;have z3:=F3.out.size;have hb:∀q,M q∨q=sb→q<w1.heap.size:=fun q hq=>by
     rcases hq with h|h
     ·exact(HSt.out.mlt q h).1
     ·rw[h];exact HSt.out.map.lt
    have h3:=f.heap e35 (fun h=>by
     rcases h with h|h
     ·have:=hb _ h;omega
     ·omega)
    have h5:=f.heap e5 (fun h=>by
     rcases h with h|h
     ·have:=hb _ h;omega
     ·omega)
    exact⟨by rw[cell_of_row W _ 0 _ _ _ h3];rfl,by rw[cell_of_row W _ 1 _ _ _ h3];rfl,by rw[cell_of_row W _ 0 _ _ _ h5];rfl,by rw[cell_of_row W _ 1 _ _ _ h5];rfl⟩:W.cell? ⟨w2.heap.size,0,none⟩=some (.int .i64 x1)/\W.cell? ⟨w2.heap.size,1,none⟩=some (.int .i64 (y1:Int))/\W.cell? ⟨w4.heap.size,0,none⟩=some (.int .i64 x2)/\W.cell? ⟨w4.heap.size,1,none⟩=some (.int .i64 (y2:Int))))
   have F5:=Hh (F3.out.trans f5 (fun _ _ q=>q));clear f4 f5 e5 e35 k0 k1;go_upto_region 19 with fail;rw[←hw5];clear hw5;have K0:Fr NoM w5 w5.drew:=(Fr.refl NoM w5).drew;obtain⟨i0,i1,i2,i3⟩:=HW.out w5.drew K0.any;have HA1:=Hh (fun(W:World) (ff:Fr NoM w5 W)=>show Calls Tryz.prog 105 #[.pointer (some ⟨pb,0,none⟩),.agg #[.int .i64 x1,.int .i64 (y1:Int)]] W fun e w'=>NegPost U pb sb mo mc ms W V M I (numC x1 y1) e w' from HI1.out V BV M I f W (HSt.out.fr0 (F5.out.trans ff (fun _ _ q=>q))));have HA2:=Hh (fun(W:World) (V1:List PL) (B1:List Nat) (M1 I1:Nat→Prop) (f1:Nat→Option Nat) (h:PSt encN NegMO U pb sb mo mc ms (.map (some sb)) W V1 B1 M1 I1 f1)=>show Calls Tryz.prog 105 #[.pointer (some ⟨pb,0,none⟩),.agg #[.int .i64 x2,.int .i64 (y2:Int)]] W fun e w'=>NegPost U pb sb mo mc ms W V1 M1 I1 (numC x2 y2) e w' from HI2.out V1 B1 M1 I1 f1 W h);have HNd:=Hh (fun(W:World) (V2:List PL) (B2:List Nat) (M2 I2:Nat→Prop) (f2:Nat→Option Nat) (g1 g2 p1 p2:Nat) (h:PSt encN NegMO U pb sb mo mc ms (.map (some sb)) W V2 B2 M2 I2 f2) (n1:Nats W (.slice (some ⟨g1,0,none⟩) 1 1) [p1]) (n2:Nats W (.slice (some ⟨g2,0,none⟩) 1 1) [p2]) (l1:p1<V2.length) (q1:(za0 V2).getD p1 0=numC x1 y1) (l2:p2<V2.length) (q2:(za0 V2).getD p2 0=numC x2 y2) =>
    show Calls Tryz.prog 108 #[.pointer (some ⟨pb,0,none⟩),.slice (some ⟨g1,0,none⟩) 1 1,.slice (some ⟨g2,0,none⟩) 1 1] W fun e w'=>NegPost U pb sb mo mc ms W V2 M2 I2 (numC t p) e w' from by
     rw[HSd.out];exact zcf HUl.out (some ⟨g1,0,none⟩) (some ⟨g2,0,none⟩) 1 1 1 1 rfl rfl h n1 n2 ((RowC.nil V2).snoc l1 q1) ((RowC.nil V2).snoc l2 q2) (by rw[←HSd.out];exact HIn.out) (by simp) (by simp))
   have HF5:=Hh (F1.out.trans (F5.out.trans K0 (fun _ _ q=>q)) (fun _ _ q=>q));go_region_law (first
    | (go_simp;first
     | (go_at_call 105;(with_reducible refine(HA1.out _ K0).mono ?_);rintro e wa ⟨p1,V1,B1,M1,I1,f1,rfl,st1,nx1,l1,q1⟩;obtain⟨j0,j1,j2,j3⟩:=HW.out wa (K0.any.trans (nx1.fr.mono (fun _ _ q=>.inl q)) (fun _ _ q=>q));have jj:=(fun o=>HW.out (wa.alloc o) ((K0.any.trans (nx1.fr.mono (fun _ _ q=>.inl q)) (fun _ _ q=>q)).alloc o));have j4:=(fun o=>(jj o).2.2.1);have j5:=(fun o=>(jj o).2.2.2);clear jj;have HNx1:=Hh ((PNx.of0 HF5.out).trans nx1);have HSt1:=Hh st1;have HL1q:=Hh (And.intro l1 q1);clear st1 nx1 l1 q1)
     | (go_at_call 105;(with_reducible refine(HA2.out (wa.alloc (.cells #[.int .i64 (p1:Int)] 3)) V1 B1 M1 I1 f1 (HSt1.out.fr0 ((Fr.refl NoM wa).alloc _))).mono ?_);rintro e wb ⟨p2,V2,B2,M2,I2,f2,rfl,st2,nx2,l2,q2⟩;have HND1:=Hh (HNd.out (wb.alloc (.cells #[.int .i64 (p2:Int)] 3)) V2 B2 M2 I2 f2 wa.heap.size wb.heap.size p1 p2 (st2.fr0 ((Fr.refl NoM wb).alloc _)) (((SliceOf.one encN wa p1 3).fr nx2.fr (fun _ q hq h=>by { have hq:wa.heap.size=q:=Option.some.inj hq;have:=HSt1.out.map.lt;rcases h with h|h;{ have:=(HSt1.out.mlt q h).1;omega };{ omega } })).fr0 ((Fr.refl NoM wb).alloc _)) (SliceOf.one encN wb p2 3) (by have:=nx2.pre.length_le;have:=HL1q.out.1;omega) (by rw[zak nx2.pre HL1q.out.1];exact HL1q.out.2) l2 q2);have HEn1:=Hh (fun(e:Ending) (w':World) (h:NegPost U pb sb mo mc ms (wb.alloc (.cells #[.int .i64 (p2:Int)] 3)) V2 M2 I2 (numC t p) e w')=>(NegPost.step (((HNx1.out.trans (PNx.of0 ((Fr.refl NoM wa).alloc _))).trans nx2).trans (PNx.of0 ((Fr.refl NoM wb).alloc _))) h:NegPost U pb sb mo mc ms w V M I (numC t p) e w'));clear st2 nx2 l2 q2)
     | (go_at_call 105;(with_reducible refine(HA2.out wa V1 B1 M1 I1 f1 HSt1.out).mono ?_);rintro e wb ⟨p2,V2,B2,M2,I2,f2,rfl,st2,nx2,l2,q2⟩;have HND2:=Hh (HNd.out ((wb.alloc (.cells #[.int .i64 (p1:Int)] 3)).alloc (.cells #[.int .i64 (p2:Int)] 3)) V2 B2 M2 I2 f2 wb.heap.size (wb.heap.size+1) p1 p2 (st2.fr0 (((Fr.refl NoM wb).alloc _).alloc _)) ((SliceOf.one encN wb p1 3).fr0 ((Fr.refl NoM _).alloc _)) (by have h:=SliceOf.one encN (wb.alloc (.cells #[.int .i64 (p1:Int)] 3)) p2 3;rw[World.size_alloc]at h;exact h) (by have:=nx2.pre.length_le;have:=HL1q.out.1;omega) (by rw[zak nx2.pre HL1q.out.1];exact HL1q.out.2) l2 q2);have HEn2:=Hh (fun(e:Ending) (w':World) (h:NegPost U pb sb mo mc ms ((wb.alloc (.cells #[.int .i64 (p1:Int)] 3)).alloc (.cells #[.int .i64 (p2:Int)] 3)) V2 M2 I2 (numC t p) e w')=>(NegPost.step ((HNx1.out.trans nx2).trans (PNx.of0 (((Fr.refl NoM wb).alloc _).alloc _))) h:NegPost U pb sb mo mc ms w V M I (numC t p) e w'));have HND3:=Hh (HNd.out ((wb.alloc (.cells #[.int .i64 (p2:Int)] 3)).alloc (.cells #[.int .i64 (p1:Int)] 3)) V2 B2 M2 I2 f2 (wb.heap.size+1) wb.heap.size p1 p2 (st2.fr0 (((Fr.refl NoM wb).alloc _).alloc _)) (by have h:=SliceOf.one encN (wb.alloc (.cells #[.int .i64 (p2:Int)] 3)) p1 3;rw[World.size_alloc]at h;exact h) ((SliceOf.one encN wb p2 3).fr0 ((Fr.refl NoM _).alloc _)) (by have:=nx2.pre.length_le;have:=HL1q.out.1;omega) (by rw[zak nx2.pre HL1q.out.1];exact HL1q.out.2) l2 q2);have HEn3:=Hh (fun(e:Ending) (w':World) (h:NegPost U pb sb mo mc ms ((wb.alloc (.cells #[.int .i64 (p2:Int)] 3)).alloc (.cells #[.int .i64 (p1:Int)] 3)) V2 M2 I2 (numC t p) e w')=>(NegPost.step ((HNx1.out.trans nx2).trans (PNx.of0 (((Fr.refl NoM wb).alloc _).alloc _))) h:NegPost U pb sb mo mc ms w V M I (numC t p) e w'));clear st2 nx2 l2 q2)
     | (go_at_call 108;(with_reducible refine HND1.out.mono ?_);rintro e wc hP;have HPr:=Hh (HEn1.out e wc hP);obtain⟨p3,V3,B3,M3,I3,f3,rfl,zz⟩:=hP;clear zz)
     | (go_at_call 108;(with_reducible refine HND2.out.mono ?_);rintro e wc hP;have HPr:=Hh (HEn2.out e wc hP);obtain⟨p3,V3,B3,M3,I3,f3,rfl,zz⟩:=hP;clear zz)
     | (go_at_call 108;(with_reducible refine HND3.out.mono ?_);rintro e wc hP;have HPr:=Hh (HEn3.out e wc hP);obtain⟨p3,V3,B3,M3,I3,f3,rfl,zz⟩:=hP;clear zz)
     | fail)
    | fail)
   all_goals
    go_wp2;go_ret;exact HPr.out
end Go.Proofs.YtghekfmfonoocaaGreatDoor
