import Derived.Test.YtghekfmfonoocaaGreatDoorZuy
import Derived.Test.YtghekfmfonoocaaGreatDoorZuf
import Derived.Test.YtghekfmfonoocaaGreatDoorZus
/- Lemmas. -/
set_option linter.all false
set_option maxHeartbeats 8000000
set_option maxRecDepth 4000
namespace Go.Proofs.YtghekfmfonoocaaGreatDoor
open Go.RowKit
theorem znd {R:Nat->Prop}(p:Value)(z:List (List Int × List Int))(w:World)(h:NodeL R encI w p z)(g:Bool)(hg:g=true↔zbh z)(ok:Bool)(F:ok=(g && zah (canN (natF z)))) :
  Calls Tryz.prog 63 #[.agg #[p]] w λe w'=>∃v',e=.returned (.tuple #[.agg #[v'],.bool ok])/\NodesS w.heap.size w' v' (if ok=true then canN (natF z)else [])/\Fr NoM w w':=by
 have ad:=Hh F;clear F;obtain⟨l,t⟩:=eX ((w.alloc (.cells #[p] 26)).alloc (.cells #[.slice none 0 0] 26));have O:Fr NoM w l:=by rw[t];exact((nW w).alloc _).alloc _
 have aq:l.heap.size=w.heap.size+2:=by rw[t];simp
 have e0:l.heap[w.heap.size]?=some (.cells #[p] 26 (0,0)):=by rw[t];exact((nW _).alloc _).heap (xJ w _) id
 have e1:l.heap[w.heap.size+1]?=some (.cells #[.slice none 0 0] 26 (0,0)):=by
  have h:=xJ (w.alloc (.cells #[p] 26)) (.cells #[.slice none 0 0] 26);rw[xZ]at h;rw[t];exact h
 have B:=Hh (λk (N:Fr NoM l k)=>show k.cell? ⟨w.heap.size,0,none⟩=some p/\k.cell? ⟨w.heap.size+1,0,none⟩=some (.slice none 0 0)/\k.frozen? ⟨w.heap.size+1,0,none⟩=false from by
  have h0:=N.heap e0 id;have f:=N.heap e1 id;exact⟨qR h0 rfl,qR f rfl,fZ f⟩)
 obtain⟨Z,aO,HG,HN,aP⟩:=Hhp5 O aq hg (h.low.fr0 O) (zf5 p z l (h.fr0 O) g hg);obtain⟨na,nc,rfl,aT⟩:=id h;clear aT h O aq e0 e1 hg;obtain⟨u,q,y⟩:=B.o l (Fr.refl _ _);go_enter Tryz.func63,Tryz.ntmps63;go_wp2_with fail;rw[<-t];clear t;(with_reducible refine aP.o.mono ?_);rintro e c ⟨rfl,f2⟩;have r:=Hh f2;clear f2 u q y;cases g with
 | false =>
  obtain⟨u,q,y⟩:=B.o c r.o;have F:=ad.o;rw[Bool.false_and]at F;subst F;go_wp2;refine yJ (v:=.tuple #[.agg #[.slice none 0 0],.bool false]) (by simp[results,Tryz.results63,go_sem,q]) rfl ?_
  exact⟨_,rfl,NodesS.nil _ _,(Z.o.trans r.o kP).setCell _ _ (λh=>by have h:w.heap.size+1<w.heap.size:=h;omega)⟩
 | true =>
  obtain⟨A,rfl⟩:=zfk (HG.o.1 rfl);have a3:=HG.o.1 rfl;obtain⟨u,q,y⟩:=B.o c r.o;go_wp2_with fail;refine(zff c).mono ?_
  rintro e d ⟨rfl,s,a5,f3⟩;obtain⟨H,ap⟩:=eX (c.heap.size+5);obtain⟨i,ak⟩:=eX (c.heap.size+1);obtain⟨j,ar⟩:=eX (c.heap.size+2);have T:=a5 2 (by omega);have U:=a5 1 (by omega);rw[<-ak]at U s;rw[<-ar]at T s;rw[<-ap]at s ⊢;obtain⟨ms,ai⟩:=eX (Value.map (some (c.heap.size+3)));obtain⟨mn,ah⟩:=eX (Value.map (some (c.heap.size+4)));rw[<-ai,<-ah]at s;clear a5 ai ah;have au:j<d.heap.size:=(yZ.1 T).1;have al:i<d.heap.size:=(yZ.1 U).1;have am:i≠j:=by omega
  have aH:=Hh (show MapF encP encB d i (λ_=>none)from⟨#[],0,U,by simp,by simp,by simp⟩);have av:w.heap.size+2<=c.heap.size:=by have:=r.o.size;have:=aO.o;omega
  have Q:=r.o.trans f3 kP;have aI:=Hh (show MapF encN encN d j (λ_=>none)from⟨#[],0,T,by simp,by simp,by simp⟩);have ao:=s.low;have n:=Hh (show ∀a,(λa=>(a=c.heap.size\/a=H)/\a<d.heap.size) a->c.heap.size<=a/\a≠j/\a≠i from λa b=>by
   rcases b.1 with e|e <;> omega)
  have a7:=zhn H (.slice na (i2 A).length nc) [] A [] (.map (some i)) (.map (some j)) ms mn d ao (λa b=>b.2) (λa b=>b.2) PoolOK.nil (HN.o.fr0 Q).ofI (λax hk hm=>by have:=(n.o ax hm).1;have hk:ax<w.heap.size:=hk;omega) a3 (by simp);obtain⟨C,a2⟩:∃C:Nat->Prop,C=λa=>(a=c.heap.size\/a=H)/\a<d.heap.size:=⟨_,rfl⟩
  obtain⟨I3,a1⟩:∃I3:Nat->Prop,I3=λa=>NoM a/\a<d.heap.size:=⟨_,rfl⟩
  have n:=Hh (show ∀a,C a->c.heap.size<=a/\a≠j/\a≠i from by rw[a2];exact n.o);have aa:=Hh (show ∀a,¬I3 a from by rw[a1];exact λa h=>h.1);rw[<-a2,<-a1]at a7;have aN:=Hh a7;have aE:=Hh (λk (N:Fr (λa=>C a\/a=i\/a=j) d k)=>(Q.trans N (λa b h=>by
   have o:=r.o.size;rcases h with h|h
   ·have:=(n.o a h).1;omega
   ·omega):Fr NoM l k))
  have af:A.length<=120:=by have h:=a3.1;unfold zah at h;rw[kV,zck]at h;exact h.1
  obtain⟨Y,a0⟩:=eX (canN A);have aj:ok=zah Y:=by rw[ad.o,zbe,a0];rfl
  obtain⟨aJ,ac,aK,a9,ae,aR,aA,aC⟩:=Hhp8 aj al am a0 au av f3 af;clear u q y;obtain⟨u,q,y⟩:=B.o d Q;clear s T U ap ar ak al am au av Q ao a7 a2 a1 af aj a0 f3 a3 q y;go_wp2_with fail;(with_reducible refine aN.o.mono ?_);rintro e wa ⟨r1,V1,B1,M1,I1,rfl,pa,oa,va,ra,ca,ua,G,X,P⟩;have ay:V1.length<=120:=by
   have f:=zfe oa ua;have o:=aC.o;rw[yX,za1,za1]at f;simp at f;omega
  have aQ:=Hh (ya7 H i j ms mn V1 B1 r1 wa pa oa (aH.o.fr P (λh=>(n.o _ h).2.2 rfl)) (aI.o.fr P (λh=>(n.o _ h).2.1 rfl)) (λa b=>⟨(G a b).2,λe=>by
   have hs:=ac.o;rcases (G a b).1 with h|h
   ·exact(n.o a h).2.2 e
   ·omega,λe=>by
   have hs:=ae.o;rcases (G a b).1 with h|h
   ·exact(n.o a h).2.1 e
   ·omega⟩) (λa b=>⟨(X a b).2,λe=>by
   have hs:=ac.o;rcases (X a b).1 with h|h
   ·exact aa.o a h
   ·omega,λe=>by
   have hs:=ae.o;rcases (X a b).1 with h|h
   ·exact aa.o a h
   ·omega⟩) aK.o ra (by omega))
  obtain⟨FA,aG,aB,aF⟩:=Hhp4 P G ca ay;clear pa oa va ra ca ua G X P ay u;go_wp2_with fail;(with_reducible refine aQ.o.mono ?_);rintro e wc ⟨aw,V3,B3,M4,I4,aV,aU,rfl,x,nx,S,E⟩;have kc:Fr (λa=>C a\/a=i\/a=j) d wc:=(FA.o.mono (λ_ _ a=>.inl a)).trans nx.fr (λa b h=>h.elim (λh=>by
   rcases (aG.o a h).1 with h|h
   ·exact .inl h
   ·omega) .inr)
  rw[aB.o]at E;have E:=E.eq;have ag:=zee x.ok S E;have a4:=x.len;unfold canU at a4;rw[yX,uK,za1]at a4;have aS:=aF.o;obtain⟨aL,aM,aD,KC⟩:=Hhp4 (zkh H aw V3 B3 (.map (some i)) (.map (some j)) ms mn wc x.pool x.ok S (by omega)) (λ(a8:Bool) (m:List PL) (W:FormRes V3 B3 aw a8 m)=>FormRes.is x.ok S W) ag kc;clear x nx S E kc ag a4 aS;go_wp2_with fail;(with_reducible refine aL.o.mono ?_);rintro e I ⟨p,a8,m,rfl,W,a6,f8⟩;obtain⟨L,M,rfl,zz⟩:=id a6.nodeL;clear zz;have kd:Fr NoM l I:=aE.o I (KC.o.trans f8 (λ_ _ a=>a.elim));obtain⟨_,az,aW⟩:=B.o I kd;obtain⟨f,o⟩:=aM.o _ _ W;rw[aD.o]at f o;rw[show za8 (canC (zas A))=Y from a9.o.symm]at f o;rw[<-aJ.o]at f;obtain⟨ab,KD,K⟩:=Hhp3 a6 kd (show w.heap.size+2<=wc.heap.size from by have:=KC.o.size;have:=aA.o.size;have:=aR.o;omega);clear a6 kd f8 W;subst f;cases a8 with
  | true =>
   have D:m=Y:=by simpa using o
   have J:=Hh D;clear o D;go_wp2_with fail;refine yJ (v:=.tuple #[.agg #[.slice L m.length M],.bool true]) (by simp[results,Tryz.results63,go_sem,az]) rfl ?_
   refine⟨_,rfl,?_,(Z.o.trans KD.o kP).setCell ⟨w.heap.size+1,0,none⟩ _ (λh=>by have h:w.heap.size+1<w.heap.size:=h;omega)⟩;have V:=(ab.o.fr (Fr.set I ⟨w.heap.size+1,0,none⟩ (.slice L m.length M)) (λa b _ e=>by have e:a=w.heap.size+1:=e;have:=K.o;omega)).base (D':=w.heap.size) (by have:=K.o;omega);rw[zbe,<-a9.o,<-J.o];exact V
  | false =>
   have D:m=[]:=by simpa using o
   have J:=Hh D;clear o D;go_wp2_with fail;refine yJ (v:=.tuple #[.agg #[.slice L m.length M],.bool false]) (by simp[results,Tryz.results63,go_sem,az]) rfl ?_
   refine⟨_,rfl,?_,(Z.o.trans KD.o kP).setCell ⟨w.heap.size+1,0,none⟩ _ (λh=>by have h:w.heap.size+1<w.heap.size:=h;omega)⟩;have V:=(ab.o.fr (Fr.set I ⟨w.heap.size+1,0,none⟩ (.slice L m.length M)) (λa b _ e=>by have e:a=w.heap.size+1:=e;have:=K.o;omega)).base (D':=w.heap.size) (by have:=K.o;omega);rw[J.o]at V;rw[J.o];exact V
