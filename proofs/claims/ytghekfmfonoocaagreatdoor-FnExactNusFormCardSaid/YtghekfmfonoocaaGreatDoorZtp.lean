import Derived.Test.YtghekfmfonoocaaGreatDoorZtn
import Derived.Test.YtghekfmfonoocaaGreatDoorZtb
import Derived.Test.YtghekfmfonoocaaGreatDoorZto
/- Lemmas. -/
namespace Go.Proofs.YtghekfmfonoocaaGreatDoor
set_option linter.unusedVariables false
set_option linter.unusedSimpArgs false
open Go.RowKit
theorem zv3 {t:Int}{p:Nat}(hp:p≤24)(x:Int):redT (t*2^(24-p)+x*2^(24-p)) 24=redT (t+x) p:=by
 rw[←Int.add_mul];have h:=znn (24-p) p (t+x);rw[show p+(24-p)=24 from by omega]at h;exact h
def yf9 (U:List Nat)(bb:Nat)(t:Int)(p:Nat):Prop:=∀(S:Nat→Prop) (V:List PL) (BV:List Nat) (w:World),BkN U S w bb V BV →
  Calls Tryz.prog 96 #[.pointer (some ⟨bb,0,none⟩),.agg #[.int .i64 t,.int .i64 (p:Int)]] w fun e w'=>BkPost U bb w S V (numC t p) e w'
set_option maxRecDepth 8000 in
set_option maxHeartbeats 8000000 in
theorem zz4 {U:List Nat}(hUl:U.length<1000000)(bb:Nat):∀(n:Nat) (t:Int) (p:Nat),numC t p<n→Red t p→t.natAbs≤1000000→p≤16→(∀a,SubC (numC t p) a→a∈U)→yf9 U bb t p:=by
 intro n;induction n with
 | zero=>intro t p h;omega
 | succ n ih =>
  intro t p hn hr ht hp hU S V BV w hB;have hin:numC t p∈U:=hU _ .root;obtain⟨w1,hw1⟩:∃w1,w1=w.alloc (.cells #[.int .i64 t,.int .i64 (p:Int)] 29):=⟨_,rfl⟩;obtain⟨w2,hw2⟩:∃w2,w2=w1.alloc (.cells #[.int .i64 1,.int .i64 (p:Int)] 29):=⟨_,rfl⟩;have f1:Fr NoM w w1:=by rw[hw1];exact(Fr.refl NoM w).alloc _
  have f2:Fr NoM w1 w2:=by rw[hw2];exact(Fr.refl NoM w1).alloc _
  have hs1:w1.heap.size=w.heap.size+1:=by rw[hw1];simp
  have e1:w2.heap[w.heap.size]?=some (.cells #[.int .i64 t,.int .i64 (p:Int)] 29 (0,0)):=by rw[hw2,hw1];exact((Fr.refl NoM _).alloc _).heap (heap_alloc_new w _) (fun q=>q)
  have e2:w2.heap[w.heap.size+1]?=some (.cells #[.int .i64 1,.int .i64 (p:Int)] 29 (0,0)):=by rw[hw2,←hs1];exact heap_alloc_new w1 _
  have hlt:=hB.lt;have HK:=Hh (fun(W:World) (f:Fr (fun q=>S q∨w2.heap.size≤q) w2 W)=>show W.cell? ⟨w.heap.size,0,none⟩=some (.int .i64 t)/\W.cell? ⟨w.heap.size,1,none⟩=some (.int .i64 (p:Int))/\W.cell? ⟨w.heap.size+1,0,none⟩=some (.int .i64 1)/\W.cell? ⟨w.heap.size+1,1,none⟩=some (.int .i64 (p:Int))from by
   have l1:=(Array.getElem?_eq_some_iff.1 e1).1;have l2:=(Array.getElem?_eq_some_iff.1 e2).1;have h1:=f.heap e1 (fun q=>by
    rcases q with q|q
    ·have:=hlt _ q;omega
    ·omega)
   have h2:=f.heap e2 (fun q=>by
    rcases q with q|q
    ·have:=hlt _ q;omega
    ·omega)
   exact⟨by rw[cell_of_row W _ 0 _ _ _ h1];rfl,by rw[cell_of_row W _ 1 _ _ _ h1];rfl,by rw[cell_of_row W _ 0 _ _ _ h2];rfl,by rw[cell_of_row W _ 1 _ _ _ h2];rfl⟩)
  have HB:=Hh (hB.fr0 (f1.trans f2 (fun _ _ q=>q)));have F2:=Hh (f1.trans f2 (fun _ _ q=>q));have HNeg:=Hh (fun(W:World)=>zz8 1 (p:Int) W (by omega));have HAdd:=Hh (fun(W:World) (x:Int) (hx:x=1∨x=-1)=>show Calls Tryz.prog 121 #[.agg #[.int .i64 t,.int .i64 (p:Int)],.agg #[.int .i64 x,.int .i64 (p:Int)]] W fun e w'=>e=.returned (dyV (redT (t+x) p))/\Fr NoM W w' from by
   have h:=zz9 t x p p W (by omega) (by omega) (by omega) (by omega);rw[zv3 (by omega)]at h;exact h)
  have HIh:=Hh ih;have HUl:=Hh hUl;have Hn:=Hh hn;have HR:=Hh hr;have HU:=Hh hU;have HIn:=Hh hin;have HLt:=Hh hlt;have HPt:=Hh (And.intro ht hp);have htb:-1000000≤t/\t≤1000000:=by omega
  clear f1 f2 hs1 e1 e2 hB ih hn hr hU hin hUl hlt ht;obtain⟨k0,k1,k2,k3⟩:=HK.out w2 (Fr.refl _ _);obtain⟨⟨x1,y1⟩,hx1⟩:∃x,x=redT (t-1) p:=⟨_,rfl⟩;obtain⟨⟨x2,y2⟩,hx2⟩:∃x,x=redT (t+1) p:=⟨_,rfl⟩;have HX1:=Hh hx1;have HX2:=Hh hx2;have HA1:=Hh (fun(W:World)=>show Calls Tryz.prog 121 #[.agg #[.int .i64 t,.int .i64 (p:Int)],.agg #[.int .i64 (-1),.int .i64 (p:Int)]] W fun e w'=>e=.returned (.agg #[.int .i64 x1,.int .i64 (y1:Int)])/\Fr NoM W w' from by
   have h:=HAdd.out W (-1) (.inr rfl);rw[show t + -1=t-1 from by omega,←hx1]at h;exact h)
  have HA2:=Hh (fun(W:World)=>show Calls Tryz.prog 121 #[.agg #[.int .i64 t,.int .i64 (p:Int)],.agg #[.int .i64 1,.int .i64 (p:Int)]] W fun e w'=>e=.returned (.agg #[.int .i64 x2,.int .i64 (y2:Int)])/\Fr NoM W w' from by
   have h:=HAdd.out W 1 (.inl rfl);rw[←hx2]at h;exact h)
  clear HAdd hx1 hx2
  -- what comes of a call of put for rows of one game each
  have HPut:=Hh (fun(W:World) (S':Nat→Prop) (V':List PL) (BV':List Nat) (lv rv:Value) (L R cs ds:List Nat) (hb:BkN U S' W bb V' BV') (hL:Nats W lv L) (hR:Nats W rv R) (rL:RowC V' L cs) (rR:RowC V' R ds) (hc:mkC cs ds=numC t p) (ll:L.length≤1) (lr:R.length≤1)=>show Calls Tryz.prog 94 #[.pointer (some ⟨bb,0,none⟩),lv,rv] W fun e w'=>BkPost U bb W S' V' (numC t p) e w' from by
   have h:=yay lv rv L R cs ds hb hL hR rL rR (by rw[hc];exact HIn.out) HUl.out (by omega) (by omega);rw[hc]at h;exact h)
  by_cases ht0:t=0
  ·have hq:(t == 0)=true:=by simp[ht0]
   have hp0:p=0:=HR.out.resolve_right (by rw[ht0];simp);have hc:mkC [] []=numC t p:=by rw[ht0,hp0];rfl
   have HP:=Hh (HPut.out w2 S V BV (.slice none 0 0) (.slice none 0 0) [] [] [] [] HB.out (SliceOf.nil _ _) (SliceOf.nil _ _) (RowC.nil _) (RowC.nil _) hc (by simp) (by simp));clear hc hp0 ht0;go_enter Tryz.func96,Tryz.ntmps96;go_wp2_with fail;rw[←hw1,←hw2];clear hw1 hw2;(with_reducible refine HP.out.mono ?_);rintro e w3 ⟨i,V',BV',S',rfl,h2,h3,h4,h5,h6⟩;have HE:=Hh (BkPost.of0 F2.out ⟨i,V',BV',S',rfl,h2,h3,h4,h5,h6⟩:BkPost U bb w S V (numC t p) (.returned (.int .i64 (i:Int))) w3);clear h2 h3 h4 h5 h6;go_wp2_with fail;go_ret;exact HE.out
  ·have hq:(t == 0)=false:=by simp[ht0]
   by_cases hpp:0<p
   ·have hside:=ztu HR.out hpp
    rw[←HX1.out,←HX2.out]at hside;have hside:numC t p=mkC [numC x1 y1] [numC x2 y2]:=hside;have g1:=zi0 HR.out HPt.out.1 hpp HPt.out.2 (t-1) (.inl rfl);have g2:=zi0 HR.out HPt.out.1 hpp HPt.out.2 (t+1) (.inr rfl);rw[←HX1.out]at g1;rw[←HX2.out]at g2;have o1:optC (numC t p) (numC x1 y1):=by rw[hside];exact .inl ((zab _ _ _).2 (by simp))
    have o2:optC (numC t p) (numC x2 y2):=by rw[hside];exact .inr ((zad _ _ _).2 (by simp))
    have HI1:=Hh (HIh.out x1 y1 (by have:=za5 o1;have:=Hn.out;omega) g1.2.2.1 g1.2.2.2 (by have:=g1.2.1;have:=HPt.out.2;show y1≤16;omega) (fun a ha=>HU.out a ((SubC.root.step o1).trans ha)));have HI2:=Hh (HIh.out x2 y2 (by have:=za5 o2;have:=Hn.out;omega) g2.2.2.1 g2.2.2.2 (by have:=g2.2.1;have:=HPt.out.2;show y2≤16;omega) (fun a ha=>HU.out a ((SubC.root.step o2).trans ha)));have HL1:=Hh (fun(W:World) (f:Fr NoM w2 W)=>show Calls Tryz.prog 96 #[.pointer (some ⟨bb,0,none⟩),.agg #[.int .i64 x1,.int .i64 (y1:Int)]] W fun e w'=>BkPost U bb W S V (numC x1 y1) e w' from HI1.out S V BV W (HB.out.fr0 f));have HSd:=Hh hside;have K0:Fr NoM w2 w2.drew:=(Fr.refl NoM w2).drew;obtain⟨k4,k5,k6,k7⟩:=HK.out w2.drew K0.any;clear ht0 hside g1 g2 o1 o2;go_enter Tryz.func96,Tryz.ntmps96;go_upto_region 5 with fail;rw[←hw1,←hw2];clear hw1 hw2;clear k4 k5 k6 k7;go_cut [6]from 21 to 26 (fun v W=>BkPost U bb w2 S V (numC x1 y1) (.returned v) W)
    case first =>
     obtain⟨k4,k5,k6,k7⟩:=HK.out w2.drew K0.any;go_region_law (first
      | (go_simp;first
       | (go_at_call 122;(with_reducible refine(HNeg.out _).mono ?_);rintro e wa ⟨rfl,fa⟩;have ka:Fr NoM w2 wa:=Fr.trans (by assumption) fa (fun _ _ q=>q);obtain⟨i0,i1,i2,i3⟩:=HK.out wa ka.any)
       | (go_at_call 121;(with_reducible refine(HA1.out _).mono ?_);rintro e wb ⟨rfl,fb⟩;have kb:Fr NoM w2 wb:=Fr.trans (by assumption) fb (fun _ _ q=>q);obtain⟨j0,j1,j2,j3⟩:=HK.out wb kb.any)
       | (go_at_call 96;(with_reducible refine(HL1.out wb kb).mono ?_);rintro e wc ⟨p1,V1,B1,S1,rfl,b1,v1,s1,f1,l1,q1⟩;have HPst:=Hh (BkPost.of0 kb ⟨p1,V1,B1,S1,rfl,b1,v1,s1,f1,l1,q1⟩:BkPost U bb w2 S V (numC x1 y1) (.returned (.int .i64 (p1:Int))) wc);clear b1 v1 s1 f1 l1 q1)
       | fail)
      | fail)
     all_goals
      go_wp2_with fail;go_meet
      case rel=>exact HPst.out
    case rest =>
    obtain⟨p1,V1,B1,S1,he,b1,v1,s1,f1,l1,q1⟩:=hcut;have he:=Ending.returned.inj he;subst he;have FC:=Hh (f1.mono (fun _ _ q=>.inl q):Fr (fun q=>S q∨w2.heap.size≤q) w2 wc);have HP2:=Hh (fun(W:World) (f:Fr NoM wc W)=>show Calls Tryz.prog 96 #[.pointer (some ⟨bb,0,none⟩),.agg #[.int .i64 x2,.int .i64 (y2:Int)]] W fun e w'=>BkPost U bb W S1 V1 (numC x2 y2) e w' from HI2.out S1 V1 B1 W (b1.fr0 f));have HS1:=Hh s1;have HV1:=Hh v1;have HL1':=Hh l1;have HQ1:=Hh q1;have HF1:=Hh f1;clear b1 v1 s1 f1 l1 q1;obtain⟨k4,k5,k6,k7⟩:=HK.out wc FC.out;go_wp2_with fail;(with_reducible refine(HA2.out wc).mono ?_);rintro e wd ⟨rfl,fd⟩;have FD:=Hh fd;clear k4 k5 k6 k7 fd;go_wp2_with fail;(with_reducible refine(HP2.out wd FD.out).mono ?_);rintro e we ⟨p2,V2,B2,S2,rfl,b2,v2,s2,f2,l2,q2⟩;obtain⟨w6,hw6⟩:∃w6,w6=(we.alloc (.cells #[.int .i64 (p1:Int)] 3)).alloc (.cells #[.int .i64 (p2:Int)] 3):=⟨_,rfl⟩;have f6:Fr NoM we w6:=by rw[hw6];exact((Fr.refl NoM we).alloc _).alloc _
    have n1:Nats w6 (.slice (some ⟨we.heap.size,0,none⟩) 1 1) [p1]:=by
     rw[hw6];exact(SliceOf.one encN we p1 3).fr0 ((Fr.refl NoM _).alloc _)
    have n2:Nats w6 (.slice (some ⟨we.heap.size+1,0,none⟩) 1 1) [p2]:=by
     have h:=SliceOf.one encN (we.alloc (.cells #[.int .i64 (p1:Int)] 3)) p2 3;rw[World.size_alloc]at h;rw[hw6];exact h
    have r1:RowC V2 [p1] [numC x1 y1]:=(RowC.nil V2).snoc (by have:=v2.length_le;have:=HL1'.out;omega) (by rw[zak v2 HL1'.out];exact HQ1.out);have r2:RowC V2 [p2] [numC x2 y2]:=(RowC.nil V2).snoc l2 q2;have HP3:=Hh (HPut.out w6 S2 V2 B2 _ _ [p1] [p2] [numC x1 y1] [numC x2 y2] (b2.fr0 f6) n1 n2 r1 r2 HSd.out.symm (by simp) (by simp));have HV2:=Hh (HV1.out.trans v2);have HF6:=Hh f6;have HF2:=Hh f2;have HS2:=Hh s2;clear b2 v2 s2 f2 l2 q2 f6 n1 n2 r1 r2;go_wp2_with fail;rw[←hw6];clear hw6;(with_reducible refine HP3.out.mono ?_);rintro e w7 ⟨p3,V3,B3,S3,rfl,b3,v3,s3,f3,l3,q3⟩;have hS2:∀q,S2 q→S q∨w2.heap.size≤q:=fun q hq=>by
     rcases HS2.out q hq with h|h
     ·exact HS1.out q h
     ·have:=FD.out.size;have:=HF1.out.size;exact .inr (by omega)
    have hfr:Fr S w2 we:=(HF1.out.trans FD.out (fun _ _ q=>q.elim)).trans HF2.out (fun k hk h=>by
     rcases HS1.out k h with h|h
     ·exact h
     ·omega)
    have HE:=Hh (BkPost.of0 F2.out ⟨p3,V3,B3,S3,rfl,b3,HV2.out.trans v3,(fun q hq=>by
     rcases s3 q hq with h|h
     ·exact hS2 q h
     ·have:=HF6.out.size;have:=hfr.size;exact .inr (by omega)),(hfr.trans HF6.out (fun _ _ q=>q.elim)).trans f3 (fun k hk h=>by
      rcases hS2 k h with h|h
      ·exact h
      ·omega),l3,q3⟩:BkPost U bb w S V (numC t p) (.returned (.int .i64 (p3:Int))) w7)
    clear b3 v3 s3 f3 l3 q3 hS2 hfr;go_wp2_with fail;go_ret;exact HE.out
   ·have hp0:p=0:=by omega
    have HEnd:=Hh (fun(we W':World) (p1:Nat) (V1:List PL) (S1:Nat→Prop) (e:Ending) (hv1:V <+: V1) (hS1:∀q,S1 q→S q∨w2.heap.size≤q) (hF1:Fr S w2 we) (h:BkPost U bb we S1 V1 (numC t p) e W')=>show BkPost U bb w S V (numC t p) e W' from by
     obtain⟨p3,V3,B3,S3,he,b3,v3,s3,f3,l3,q3⟩:=h;exact BkPost.of0 F2.out ⟨p3,V3,B3,S3,he,b3,hv1.trans v3,(fun q hq=>by
      rcases s3 q hq with h|h
      ·exact hS1 q h
      ·have:=hF1.size;exact .inr (by omega)),hF1.trans f3 (fun k hk h=>by
      rcases hS1 k h with h|h
      ·exact h
      ·omega),l3,q3⟩)
    by_cases htp:0<t
    ·have ex:x1=t-1/\y1=0:=by
      have h:=HX1.out;rw[hp0]at h;exact⟨congrArg Prod.fst h,congrArg Prod.snd h⟩
     have hside:numC t p=mkC [numC x1 y1] []:=by rw[hp0,ex.1,ex.2,zki,zki];exact zhs htp
     have o1:optC (numC t p) (numC x1 y1):=by rw[hside];exact .inl ((zab _ _ _).2 (by simp))
     have HI1:=Hh (HIh.out x1 y1 (by have:=za5 o1;have:=Hn.out;omega) (.inl ex.2) (by have:=HPt.out.1;omega) (by omega) (fun a ha=>HU.out a ((SubC.root.step o1).trans ha)));have HL1:=Hh (fun(W:World) (f:Fr NoM w2 W)=>show Calls Tryz.prog 96 #[.pointer (some ⟨bb,0,none⟩),.agg #[.int .i64 x1,.int .i64 (y1:Int)]] W fun e w'=>BkPost U bb W S V (numC x1 y1) e w' from HI1.out S V BV W (HB.out.fr0 f));have HSd:=Hh hside;have K0:Fr NoM w2 w2.drew:=(Fr.refl NoM w2).drew;obtain⟨k4,k5,k6,k7⟩:=HK.out w2.drew K0.any;have hpf:¬(0:Int)<(p:Int):=by omega
     clear ht0 hside ex o1 hp0;go_enter Tryz.func96,Tryz.ntmps96;go_upto_region 9 with fail;rw[←hw1,←hw2];clear hw1 hw2;go_region_law (first
      | (go_simp;first
       | (go_at_call 122;(with_reducible refine(HNeg.out _).mono ?_);rintro e wa ⟨rfl,fa⟩;have ka:Fr NoM w2 wa:=Fr.trans (by assumption) fa (fun _ _ q=>q);obtain⟨i0,i1,i2,i3⟩:=HK.out wa ka.any)
       | (go_at_call 121;(with_reducible refine(HA1.out _).mono ?_);rintro e wb ⟨rfl,fb⟩;have kb:Fr NoM w2 wb:=Fr.trans (by assumption) fb (fun _ _ q=>q);obtain⟨j0,j1,j2,j3⟩:=HK.out wb kb.any)
       | (go_at_call 96;(with_reducible refine(HL1.out wb kb).mono ?_);rintro e wc ⟨p1,V1,B1,S1,rfl,b1,v1,s1,f1,l1,q1⟩;have HPp:=Hh (HPut.out (wc.alloc (.cells #[.int .i64 (p1:Int)] 3)) S1 V1 B1 (.slice (some ⟨wc.heap.size,0,none⟩) 1 1) (.slice none 0 0) [p1] [] [numC x1 y1] [] (b1.fr0 ((Fr.refl NoM wc).alloc _)) (SliceOf.one encN wc p1 3) (SliceOf.nil _ _) ((RowC.nil V1).snoc l1 q1) (RowC.nil _) HSd.out.symm (by simp) (by simp));have HPq:=Hh (fun(W':World) (e:Ending) (h:BkPost U bb (wc.alloc (.cells #[.int .i64 (p1:Int)] 3)) S1 V1 (numC t p) e W')=>HEnd.out (wc.alloc (.cells #[.int .i64 (p1:Int)] 3)) W' p1 V1 S1 e v1 (fun q hq=>(s1 q hq).imp_right (fun h=>Nat.le_trans kb.size h)) ((kb.any.trans f1 (fun _ _ q=>q)).alloc _) h);clear b1 v1 s1 f1 l1 q1)
       | (go_at_call 94;(with_reducible refine HPp.out.mono ?_);rintro e wd hP;have HPr:=Hh (HPq.out wd e hP);obtain⟨p3,V3,B3,S3,rfl,z⟩:=hP;clear z)
       | fail)
      | fail)
     all_goals
      go_wp2;go_ret;exact HPr.out
    ·have ex:x2=t+1/\y2=0:=by
      have h:=HX2.out;rw[hp0]at h;exact⟨congrArg Prod.fst h,congrArg Prod.snd h⟩
     have htn:t<0:=by omega
     have hside:numC t p=mkC [] [numC x2 y2]:=by rw[hp0,ex.1,ex.2,zki,zki];exact zht htn
     have o1:optC (numC t p) (numC x2 y2):=by rw[hside];exact .inr ((zad _ _ _).2 (by simp))
     have HI1:=Hh (HIh.out x2 y2 (by have:=za5 o1;have:=Hn.out;omega) (.inl ex.2) (by have:=HPt.out.1;omega) (by omega) (fun a ha=>HU.out a ((SubC.root.step o1).trans ha)));have HL1:=Hh (fun(W:World) (f:Fr NoM w2 W)=>show Calls Tryz.prog 96 #[.pointer (some ⟨bb,0,none⟩),.agg #[.int .i64 x2,.int .i64 (y2:Int)]] W fun e w'=>BkPost U bb W S V (numC x2 y2) e w' from HI1.out S V BV W (HB.out.fr0 f));have HSd:=Hh hside;have hpf:¬(0:Int)<(p:Int):=by omega
     clear ht0 hside ex o1 hp0;go_enter Tryz.func96,Tryz.ntmps96;go_upto_region 10 with fail;rw[←hw1,←hw2];clear hw1 hw2;go_wp2_with fail;(with_reducible refine(HA2.out w2).mono ?_);rintro e wb ⟨rfl,kb⟩;go_wp2_with fail;(with_reducible refine(HL1.out wb kb).mono ?_);rintro e wc ⟨p1,V1,B1,S1,rfl,b1,v1,s1,f1,l1,q1⟩;have HPp:=Hh (HPut.out (wc.alloc (.cells #[.int .i64 (p1:Int)] 3)) S1 V1 B1 (.slice none 0 0) (.slice (some ⟨wc.heap.size,0,none⟩) 1 1) [] [p1] [] [numC x2 y2] (b1.fr0 ((Fr.refl NoM wc).alloc _)) (SliceOf.nil _ _) (SliceOf.one encN wc p1 3) (RowC.nil _) ((RowC.nil V1).snoc l1 q1) HSd.out.symm (by simp) (by simp));have HPq:=Hh (fun(W':World) (e:Ending) (h:BkPost U bb (wc.alloc (.cells #[.int .i64 (p1:Int)] 3)) S1 V1 (numC t p) e W')=>HEnd.out (wc.alloc (.cells #[.int .i64 (p1:Int)] 3)) W' p1 V1 S1 e v1 (fun q hq=>(s1 q hq).imp_right (fun h=>Nat.le_trans kb.size h)) ((kb.any.trans f1 (fun _ _ q=>q)).alloc _) h);clear b1 v1 s1 f1 l1 q1;go_wp2_with fail;(with_reducible refine HPp.out.mono ?_);rintro e wd hP;have HPr:=Hh (HPq.out wd e hP);obtain⟨p3,V3,B3,S3,rfl,z⟩:=hP;clear z;go_wp2_with fail;go_ret;exact HPr.out
theorem zsr {t p:Nat}(hp:p≤24):(t:Int)*2^(24-p)/2^24=((t/2^p:Nat):Int):=by
 have e1:(t:Int)*2^(24-p)=((t*2^(24-p):Nat):Int):=by simp
 have e2:(2:Int)^24=((2^24:Nat):Int):=by simp
 rw[e1,e2,←Int.natCast_ediv,show(2:Nat)^24=2^p*2^(24-p)from by rw[←Nat.pow_add,show p+(24-p)=24 from by omega],Nat.mul_div_mul_right _ _ (Nat.pow_pos (by decide))]
set_option maxRecDepth 4000 in
set_option maxHeartbeats 2000000 in
theorem zsm (t p:Nat)(w:World)(hp:p≤24)(ht:t≤1073741824):Calls Tryz.prog 141 #[.agg #[.int .i64 (t:Int),.int .i64 (p:Int)]] w fun e w'=>e=.returned (.int .i64 ((t/2^p:Nat):Int))/\Fr NoM w w':=by
 obtain⟨w1,hw1⟩:∃w1,w1=w.alloc (.cells #[.int .i64 (t:Int),.int .i64 (p:Int)] 29):=⟨_,rfl⟩;have f1:Fr NoM w w1:=by rw[hw1];exact(Fr.refl NoM w).alloc _
 obtain⟨m,hm⟩:∃m:Int,m=(t:Int)*2^(24-p):=⟨_,rfl⟩;have hb:=zhe (T:=(t:Int)) hp (by omega);rw[←hm]at hb;have HS:=Hh (show Calls Tryz.prog 155 #[.agg #[.int .i64 (t:Int),.int .i64 (p:Int)]] w1 fun e w'=>e=.returned (.int .i64 m)/\Fr NoM w1 w' from by rw[hm];exact zg2 (t:Int) p w1 hp (by omega));have HE:=Hh (show m/16777216=((t/2^p:Nat):Int)from by rw[←zsr hp,hm];rfl);have F1:=Hh f1;clear f1 hm;go_enter Tryz.func141,Tryz.ntmps141;go_wp2_with fail;rw[←hw1];clear hw1;(with_reducible refine HS.out.mono ?_);rintro e w2 ⟨rfl,f2⟩;have F2:=Hh (F1.out.trans f2 (fun _ _ q=>q));clear f2;go_wp2;go_ret;exact⟨by rw[←HE.out];rfl,F2.out⟩
set_option maxRecDepth 4000 in
set_option maxHeartbeats 4000000 in
theorem zvv (t:Int)(p:Nat)(w:World)(hp:p≤16)(ht:t.natAbs≤1000000):Calls Tryz.prog 95 #[.agg #[.int .i64 t,.int .i64 (p:Int)]] w fun e w'=>e=.returned (.int .i64 ((numB t p:Nat):Int))/\Fr NoM w w':=by
 obtain⟨n,hn⟩:∃n,n=t.natAbs:=⟨_,rfl⟩;obtain⟨w1,hw1⟩:∃w1,w1=w.alloc (.cells #[.int .i64 (n:Int),.int .i64 (p:Int)] 29):=⟨_,rfl⟩;have f1:Fr NoM w w1:=by rw[hw1];exact(Fr.refl NoM w).alloc _
 have e1:w1.heap[w.heap.size]?=some (.cells #[.int .i64 (n:Int),.int .i64 (p:Int)] 29 (0,0)):=by rw[hw1];exact heap_alloc_new w _
 obtain⟨q,hq⟩:∃q,q=n/2^p:=⟨_,rfl⟩;have hql:q≤n:=by rw[hq];exact Nat.div_le_self _ _
 have HFl:=Hh (fun(W:World)=>show Calls Tryz.prog 141 #[.agg #[.int .i64 (n:Int),.int .i64 (p:Int)]] W fun e w'=>e=.returned (.int .i64 (q:Int))/\Fr NoM W w' from by rw[hq];exact zsm n p W (by omega) (by omega));have HK:=Hh (fun(W:World) (f:Fr NoM w1 W)=>(by
  have h0:=f.heap e1 (fun q=>q);exact⟨by rw[cell_of_row W _ 0 _ _ _ h0];rfl,by rw[cell_of_row W _ 1 _ _ _ h0];rfl⟩:W.cell? ⟨w.heap.size,0,none⟩=some (.int .i64 (n:Int))/\W.cell? ⟨w.heap.size,1,none⟩=some (.int .i64 (p:Int))))
 have F1:=Hh f1;have HNB:=Hh (show numB t p=if p=0 then n else q+p+1 from by unfold numB;rw[←hn,←hq]);clear hq;have HN:=Hh hn;have hnb:n≤1000000:=by omega
 have K0:Fr NoM w1 w1.drew:=(Fr.refl NoM w1).drew;by_cases hneg:t<0
 ·have hnt:-t=(n:Int):=by omega
  clear f1 e1 ht hn;by_cases hp0:p=0
  ·have hq0:((p:Int) == 0)=true:=by simp[hp0]
   have HE:=Hh (show numB t p=n from by rw[HNB.out,if_pos hp0]);clear hp0;go_enter Tryz.func95,Tryz.ntmps95;go_wp2;go_ret;rw[←hw1];exact⟨by rw[HE.out];rfl,F1.out⟩
  ·have hq0:((p:Int) == 0)=false:=by simp[hp0]
   have HE:=Hh (show numB t p=q+p+1 from by rw[HNB.out,if_neg hp0]);clear hp0;go_enter Tryz.func95,Tryz.ntmps95;go_upto_region 5 with fail;rw[←hw1];clear hw1;obtain⟨k0,k1⟩:=HK.out w1.drew K0;go_region_law (first
    | (go_simp;first
     | (go_at_call 141;(with_reducible refine(HFl.out _).mono ?_);rintro e wa ⟨rfl,fa⟩;have ka:Fr NoM w1 wa:=Fr.trans (by assumption) fa (fun _ _ q=>q);obtain⟨i0,i1⟩:=HK.out wa ka)
     | fail)
    | fail)
   all_goals
    go_wp2;go_ret;refine⟨?_,F1.out.trans ka (fun _ _ q=>q)⟩;rw[HE.out];first|rfl|(refine congrArg (fun x=>Ending.returned (Value.int .i64 x)) ?_;rw[IntKind.wrap_i64,IntKind.wrap_i64];omega)
 ·have hnt:t=(n:Int):=by omega
  clear f1 e1 ht hn;subst hnt;by_cases hp0:p=0
  ·have hq0:((p:Int) == 0)=true:=by simp[hp0]
   have HE:=Hh (show numB (n:Int) p=n from by rw[HNB.out,if_pos hp0]);clear hp0;go_enter Tryz.func95,Tryz.ntmps95;go_wp2;go_ret;rw[←hw1];exact⟨by rw[HE.out];rfl,F1.out⟩
  ·have hq0:((p:Int) == 0)=false:=by simp[hp0]
   have HE:=Hh (show numB (n:Int) p=q+p+1 from by rw[HNB.out,if_neg hp0]);clear hp0;go_enter Tryz.func95,Tryz.ntmps95;go_upto_region 5 with fail;rw[←hw1];clear hw1;obtain⟨k0,k1⟩:=HK.out w1.drew K0;go_region_law (first
    | (go_simp;first
     | (go_at_call 141;(with_reducible refine(HFl.out _).mono ?_);rintro e wa ⟨rfl,fa⟩;have ka:Fr NoM w1 wa:=Fr.trans (by assumption) fa (fun _ _ q=>q);obtain⟨i0,i1⟩:=HK.out wa ka)
     | fail)
    | fail)
   all_goals
    go_wp2;go_ret;refine⟨?_,F1.out.trans ka (fun _ _ q=>q)⟩;rw[HE.out];first|rfl|(refine congrArg (fun x=>Ending.returned (Value.int .i64 x)) ?_;rw[IntKind.wrap_i64,IntKind.wrap_i64];omega)
noncomputable def zke (t:Int)(p:Nat):List PL:=if 120≤numB t p then []else numN t p
theorem zvz {t:Int}{p:Nat}(hr:Red t p):zam (zke t p)=zam (numN t p)/\(if zam (zke t p)=true then zke t p else [])=if zam (numN t p)=true then numN t p else []:=by
 unfold zke;by_cases h:120≤numB t p
 ·rw[if_pos h,ztv hr h]
  exact⟨by decide,by simp[zam]⟩
 ·rw[if_neg h]
  exact⟨rfl,rfl⟩
theorem zyt {t:Int}{p:Nat}(h:¬ 120≤numB t p):t.natAbs/2^p<120:=by
 unfold numB at h;by_cases hp:p=0
 ·rw[if_pos hp]at h
  subst hp;simp;omega
 ·rw[if_neg hp]at h
  omega
set_option maxRecDepth 4000 in
set_option maxHeartbeats 8000000 in
theorem zvi (t:Int)(p:Nat)(w:World)(hr:Red t p)(ht:t.natAbs≤1000000)(hp:p≤16) :
  Calls Tryz.prog 49 #[.agg #[.int .i64 t,.int .i64 (p:Int)]] w fun e w'=>∃v',e=.returned (.agg #[v'])/\NodeL (fun b=>w.heap.size≤b) encN w' v' (zke t p)/\Fr NoM w w':=by
 obtain⟨w1,hw1⟩:∃w1,w1=(w.alloc (.cells #[.int .i64 t,.int .i64 (p:Int)] 29)).alloc (.cells #[.slice none 0 0] 26):=⟨_,rfl⟩;have f1:Fr NoM w w1:=by rw[hw1];exact((Fr.refl NoM w).alloc _).alloc _
 have hs1:w1.heap.size=w.heap.size+2:=by rw[hw1];simp
 have e0:w1.heap[w.heap.size]?=some (.cells #[.int .i64 t,.int .i64 (p:Int)] 29 (0,0)):=by rw[hw1];exact((Fr.refl NoM _).alloc _).heap (heap_alloc_new w _) (fun q=>q)
 have e1:w1.heap[w.heap.size+1]?=some (.cells #[.slice none 0 0] 26 (0,0)):=by
  have h:=heap_alloc_new (w.alloc (.cells #[.int .i64 t,.int .i64 (p:Int)] 29)) (.cells #[.slice none 0 0] 26);rw[World.size_alloc]at h;rw[hw1];exact h
 have HK:=Hh (fun(W:World) (f:Fr (fun q=>w1.heap.size≤q) w1 W)=>(by
  have h0:=f.heap e0 (fun q=>by omega);have h1:=f.heap e1 (fun q=>by omega);exact⟨by rw[cell_of_row W _ 0 _ _ _ h0];rfl,by rw[cell_of_row W _ 1 _ _ _ h0];rfl,by rw[cell_of_row W _ 0 _ _ _ h1];rfl,by simp[World.frozen?,h1]⟩:W.cell? ⟨w.heap.size,0,none⟩=some (.int .i64 t)/\W.cell? ⟨w.heap.size,1,none⟩=some (.int .i64 (p:Int))/\W.cell? ⟨w.heap.size+1,0,none⟩=some (.slice none 0 0)/\W.frozen? ⟨w.heap.size+1,0,none⟩=false))
 obtain⟨bn,hbn⟩:∃bn,bn=numB t p:=⟨_,rfl⟩;have HBo:=Hh (show Calls Tryz.prog 95 #[.agg #[.int .i64 t,.int .i64 (p:Int)]] w1 fun e w'=>e=.returned (.int .i64 (bn:Int))/\Fr NoM w1 w' from by rw[hbn];exact zvv t p w1 hp ht);have F1:=Hh f1;have HS1:=Hh hs1;have HBn:=Hh hbn;have HR:=Hh hr;have HT:=Hh ht;have HP:=Hh hp;clear f1 hs1 e0 e1 hbn hr ht hp;obtain⟨k0,k1,k2,k3⟩:=HK.out w1 (Fr.refl _ _);go_enter Tryz.func49,Tryz.ntmps49;go_wp2_with fail;rw[←hw1];clear hw1;(with_reducible refine HBo.out.mono ?_);rintro e w2 ⟨rfl,f2⟩;have F2:=Hh f2;clear k0 k1 k2 k3 f2;obtain⟨k0,k1,k2,k3⟩:=HK.out w2 F2.out.any;by_cases hbig:120≤bn
 ·go_wp2
  refine bodyPost_ret (v:=.agg #[.slice none 0 0]) (by simp[results,Tryz.results49,go_sem,k2,k3]) rfl ?_
  have hf:zke t p=[]:=by unfold zke;rw[←HBn.out,if_pos hbig]
  rw[hf];exact⟨_,rfl,⟨none,0,rfl,Nat.le_refl _,by decide,by simp⟩,(F1.out.trans F2.out (fun _ _ q=>q)).setCell _ _ (fun h=>by have h:w.heap.size+1<w.heap.size:=h;omega)⟩
 ·have hsm:=zyt (t:=t) (p:=p) (by rw[←HBn.out];exact hbig)
  obtain⟨w3,hw3⟩:∃w3,w3=w2.alloc (.cells #[.slice none 0 0,.slice none 0 0] 109):=⟨_,rfl⟩;have f3:Fr NoM w2 w3:=by rw[hw3];exact(Fr.refl NoM w2).alloc _
  have e3:w3.heap[w2.heap.size]?=some (.cells #[.slice none 0 0,.slice none 0 0] 109 (0,0)):=by rw[hw3];exact heap_alloc_new w2 _
  obtain⟨bb,hbb⟩:∃bb,bb=w2.heap.size:=⟨_,rfl⟩;rw[←hbb]at e3;obtain⟨U,hU⟩:∃U,U=numU t p 121:=⟨_,rfl⟩;have hUl:U.length<1000:=by rw[hU,ztx];have:=HP.out;omega
  have HPu:=Hh (zz4 (U:=U) (by omega) bb _ t p (Nat.lt_succ_self _) HR.out HT.out HP.out (fun a ha=>by rw[hU];exact zyr HR.out hsm a ha));have HPt:=Hh (show Calls Tryz.prog 96 #[.pointer (some ⟨bb,0,none⟩),.agg #[.int .i64 t,.int .i64 (p:Int)]] w3 fun e w'=>BkPost U bb w3 (fun q=>q=bb) [] (numC t p) e w' from HPu.out _ [] [] w3 (BkN.start e3));have F3:=Hh (F2.out.trans f3 (fun _ _ q=>q));have HBB:=Hh hbb;have HUl:=Hh hUl;have HD:=Hh (show zke t p=zac (numC t p)from by unfold zke;rw[←HBn.out,if_neg hbig];rfl);clear k0 k1 k2 k3 f3 e3 hU hUl hsm;go_upto_region 4 with fail;rw[←hw3,←hbb];clear hw3 hbb;obtain⟨k0,k1,k2,k3⟩:=HK.out w3 F3.out.any;go_wp2_with fail;(with_reducible refine HPt.out.mono ?_);rintro e w4 ⟨i,V,BV,S,rfl,b4,_,s4,f4,i4,q4⟩;have hlen:=b4.len;have HFo:=Hh (zi2 bb i V BV w4 b4.book (zdi b4.ok) i4 (by have:=HUl.out;omega) (b4.ok.lens (n:=100000000) (by have:=HUl.out;omega)));have HFe:=Hh (show zd3 V BV i=zke t p from by rw[HD.out];exact zdh b4.ok i4 q4);have F4:=Hh (F3.out.any.trans f4 (fun k _ h=>by have h:k=bb:=h;have:=HBB.out;have:=F2.out.size;omega):Fr (fun q=>w1.heap.size≤q) w1 w4);clear b4 s4 f4 i4 q4 hlen k0 k1 k2 k3;obtain⟨k0,k1,k2,k3⟩:=HK.out w4 F4.out;go_wp2_with fail;(with_reducible refine HFo.out.mono ?_);rintro e w5 ⟨v',rfl,n5,f5⟩;rw[HFe.out]at n5;have F5:=Hh (F4.out.trans f5 (fun _ _ q=>q.elim));have HN5:=Hh n5;have HZ:=Hh (show w.heap.size+2≤w4.heap.size from by have:=F4.out.size;have:=HS1.out;omega);obtain⟨va,vc,rfl,zz⟩:=id n5;clear zz n5 f5 k0 k1 k2 k3;obtain⟨k0,k1,k2,k3⟩:=HK.out w5 F5.out;go_wp2;refine bodyPost_ret (v:=.agg #[.slice va (zke t p).length vc]) (by simp[results,Tryz.results49,go_sem,k2,k3]) rfl ?_
  refine⟨_,rfl,?_,(F1.out.trans F5.out (fun k hk h=>by have h:w1.heap.size≤k:=h;have:=HS1.out;omega)).setCell _ _ (fun h=>by have h:w.heap.size+1<w.heap.size:=h;omega)⟩;exact(HN5.out.fr (Fr.set w5 ⟨w.heap.size+1,0,none⟩ _) (fun q hq e=>by have e:q=w.heap.size+1:=e;have hq:w4.heap.size≤q:=hq;have:=HZ.out;omega)).mono (fun q hq=>by have hq:w4.heap.size≤q:=hq;have:=HZ.out;omega)
end Go.Proofs.YtghekfmfonoocaaGreatDoor
