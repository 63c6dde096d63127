import Derived.Test.YtghekfmfonoocaaGreatDoorZuy
import Derived.Test.YtghekfmfonoocaaGreatDoorZuf
/- Lemmas. -/
set_option linter.all false
set_option maxHeartbeats 8000000
set_option maxRecDepth 4000
namespace Go.Proofs.YtghekfmfonoocaaGreatDoor
open Go.RowKit
theorem ygd {M I:Nat->Prop}(pb sb:Nat)(h f g:Value)(V:List PL)(BV:List Nat)(c d:Nat)(a:World)(o:PoolS M I a pb V BV h f (.map (some sb)) g)(e:PoolOK V BV)(r:MapF encP encN a sb (λ_=>none))(n:∀b,M b->b<a.heap.size/\b≠sb)(m:∀b,I b->b<a.heap.size/\b≠sb)
  (i:c<V.length) (j:d<V.length) (k:V.length<=240) :
  Calls Tryz.prog 112 #[.pointer (some ⟨pb,0,none⟩),.int .i64 (c:Int),.int .i64 (d:Int)] a λl t=>yg4 (sumU (za0 V)) pb sb h f g a V M I (sumC ((za0 V).getD c 0) ((za0 V).getD d 0)) l t :=
 ym6 (U:=sumU (za0 V)) (by rw[zyb,za1];have:=Nat.mul_le_mul k k;omega) pb sb h f g _ c d (vW _) V BV M I _ a
  ⟨o,e,λw s=>vQ _ (zd8 (by rw[za1];exact s)),r,SumMO.none V,n,m⟩ i j (λu v p q=>yi1 (zoe e i p) (zoe e j q))
theorem yb9 {R S:Nat->Prop}(f g:Value)(b c:List (List Int × List Int))(w:World)(i:NodeL R encI w f b)(x:NodeL S encI w g c)(p:Bool)(Q:p=true↔zbh b/\zbh c/\b.length*c.length<=1600) : Calls Tryz.prog 111 #[.agg #[f],.agg #[g]] w λv w'=>v=.returned (.bool p)/\Fr NoM w w':=by(obtain⟨O,z⟩:=zin b;obtain⟨P,A⟩:=zin c;obtain⟨h,j⟩:=eX ((w.alloc (.cells #[f] 26)).alloc (.cells #[g] 26));have o:Fr NoM w h:=by rw[j];exact((nW w).alloc _).alloc _);(have K:h.heap[w.heap.size]?=some (.cells #[f] 26 (0,0)):=by rw[j];exact((nW _).alloc _).heap (xJ w _) id);have L:h.heap[w.heap.size+1]?=some (.cells #[g] 26 (0,0)):=by{have a:=xJ (w.alloc (.cells #[f] 26)) (.cells #[g] 26);rw[xZ]at a;rw[j];exact a};obtain⟨t,V,W,u,H,I,k⟩:=Hhp7 (λd (n:Fr NoM h d)=>show d.cell? ⟨w.heap.size,0,none⟩=some f/\d.cell? ⟨w.heap.size+1,0,none⟩=some g from by{have Y:=n.heap K id;have i:=n.heap L id;exact⟨qR Y rfl,qR i rfl⟩}) (zf5 f b h (i.fr0 o) O z) (λd (n:Fr NoM h d)=>zf5 g c d ((x.fr0 o).fr0 n) P A) Q z A o;obtain⟨a1,c1,rfl,G⟩:=id i;clear G;obtain⟨a2,c2,rfl,G⟩:=id x;clear G i x o K L Q z A;obtain⟨r,s⟩:=t.o h (Fr.refl _ _);go_enter Tryz.func111,Tryz.ntmps111;go_wp2_with fail;rw[<-j];clear j;refine V.o.mono ?_;rintro v U ⟨rfl,M⟩;have l:=Hh M;clear M r s;obtain⟨r,s⟩:=t.o U l.o;cases O with| false =>{have E:p=false:=by{cases p with| false=>rfl| true=>exact absurd (H.o.2 (u.o.1 rfl).1) (by simp)};subst E;go_wp2;go_ret;exact⟨rfl,k.o.trans l.o kP⟩}| true =>{have X:=Hh (H.o.1 rfl);go_wp2_with fail;refine(W.o U l.o).mono ?_;rintro v w3 ⟨rfl,N⟩;have m:=Hh (l.o.trans N kP);clear N r s;obtain⟨r,s⟩:=t.o w3 m.o;cases P with| false =>{have E:p=false:=by{cases p with| false=>rfl| true=>exact absurd (I.o.2 (u.o.1 rfl).2.1) (by simp)};subst E;go_wp2;go_ret;exact⟨rfl,k.o.trans m.o kP⟩}| true =>{(have B:=X.o;have C:=I.o.1 rfl;have Z:b.length<=120:=by have a:=B.1;unfold zah at a;rw[kV]at a;exact a.1);(have a0:c.length<=120:=by have a:=C.1;unfold zah at a;rw[kV]at a;exact a.1);obtain⟨e,D⟩:=eX (b.length*c.length);have a4:e<=14400:=by{have:=Nat.mul_le_mul Z a0;omega};(have a5:(b.length:Int)*(c.length:Int)=(e:Int):=by rw[D];exact(Int.natCast_mul _ _).symm);have T:p=decide (e<=1600):=by{have a:p=true↔e<=1600:=by{rw[u.o,D];exact⟨λa=>a.2.2,λa=>⟨B,C,a⟩⟩};cases p with| true=>exact(vJ (a.1 rfl)).symm| false=>exact(vV (λa3=>by cases a.2 a3)).symm};have J:=Hh T;clear B C D T;by_cases q:e<=1600;{(have F:p=true:=by rw[J.o];exact vJ q);(subst F;have y:(e:Int)<=1600:=by omega);clear q;go_wp2;go_ret;exact⟨by simp[y],k.o.trans m.o kP⟩};{(have F:p=false:=by rw[J.o];exact vV q);(subst F;have y:¬(e:Int)<=1600:=by omega);clear q;go_wp2;go_ret;exact⟨by simp[y],k.o.trans m.o kP⟩}}}
theorem zs9 {R S:Nat->Prop}(n o:Value)(y z:List (List Int × List Int))(w:World)(g:NodeL R encI w n y)(f:NodeL S encI w o z)(ok:Bool)(ad:ok=ze1 y z) :
  Calls Tryz.prog 64 #[.agg #[n],.agg #[o]] w λe w'=>∃v',e=.returned (.tuple #[.agg #[v'],.bool ok])/\NodesS w.heap.size w' v' (if ok=true then sumN (natF y) (natF z)else [])/\Fr NoM w w':=by
 obtain⟨aI,hp,aC⟩:=zyu y z;rw[aC]at ad;obtain⟨i,s⟩:=eX (((w.alloc (.cells #[n] 26)).alloc (.cells #[o] 26)).alloc (.cells #[.slice none 0 0] 26));have B:Fr NoM w i:=by rw[s];exact(((nW w).alloc _).alloc _).alloc _
 have aE:i.heap.size=w.heap.size+3:=by rw[s];simp
 have e0:i.heap[w.heap.size]?=some (.cells #[n] 26 (0,0)):=by rw[s];exact(((nW _).alloc _).alloc _).heap (xJ w _) id
 have e1:i.heap[w.heap.size+1]?=some (.cells #[o] 26 (0,0)):=by
  have h:=xJ (w.alloc (.cells #[n] 26)) (.cells #[o] 26);rw[xZ]at h;rw[s];exact((nW _).alloc _).heap h id
 have e2:i.heap[w.heap.size+1+1]?=some (.cells #[.slice none 0 0] 26 (0,0)):=by
  have h:=xJ ((w.alloc (.cells #[n] 26)).alloc (.cells #[o] 26)) (.cells #[.slice none 0 0] 26);rw[xZ,xZ]at h;rw[s];exact h
 have I:=Hh (λb (k:Fr NoM i b)=>show b.cell? ⟨w.heap.size,0,none⟩=some n/\b.cell? ⟨w.heap.size+1,0,none⟩=some o/\b.cell? ⟨w.heap.size+1+1,0,none⟩=some (.slice none 0 0)/\b.frozen? ⟨w.heap.size+1+1,0,none⟩=false from by
  have h0:=k.heap e0 id;have g:=k.heap e1 id;have f:=k.heap e2 id;exact⟨qR h0 rfl,qR g rfl,qR f rfl,fZ f⟩)
 obtain⟨aR,aO,aP,HP,aj,F1,aU⟩:=Hhp7 (yb9 n o y z i (g.fr0 B) (f.fr0 B) aI hp) (λb (k:Fr NoM i b)=>((g.low.fr0 B).fr0 k:NodeL (· < w.heap.size) encI b n y)) (λb (k:Fr NoM i b)=>((f.low.fr0 B).fr0 k:NodeL (· < w.heap.size) encI b o z)) hp ad B aE;obtain⟨a1,c1,rfl,a6⟩:=id g;clear a6;obtain⟨a2,c2,rfl,a6⟩:=id f;clear a6 g f B aE e0 e1 e2 hp ad aC;obtain⟨O,P,E,Q⟩:=I.o i (Fr.refl _ _);go_enter Tryz.func64,Tryz.ntmps64;go_wp2_with fail;rw[<-s];clear s;refine aR.o.mono ?_
 rintro e j ⟨rfl,f2⟩;have H:=Hh f2;clear f2 O P E Q;obtain⟨O,P,E,Q⟩:=I.o j H.o;cases aI with
 | false =>
  have r:ok=false:=by rw[aj.o];rfl
  subst r;go_wp2;refine yJ (v:=.tuple #[.agg #[.slice none 0 0],.bool false]) (by simp[results,Tryz.results64,go_sem,E]) rfl ?_
  exact⟨_,rfl,NodesS.nil _ _,(F1.o.trans H.o kP).setCell _ _ (λh=>by have h:w.heap.size+1+1<w.heap.size:=h;omega)⟩
 | true =>
  obtain⟨a3,a4,M⟩:=HP.o.1 rfl;obtain⟨p,rfl⟩:=zfk a3;obtain⟨A,rfl⟩:=zfk a4;go_wp2_with fail;refine(zff j).mono ?_
  rintro e d ⟨rfl,N,av,f3⟩;obtain⟨u,aB⟩:=eX (j.heap.size+5);obtain⟨l,aF⟩:=eX (j.heap.size+3);have a5:=av 3 (by omega);rw[<-aF]at a5 N;rw[<-aB]at N ⊢;obtain⟨V,ay⟩:=eX (Value.map (some (j.heap.size+1)));obtain⟨T,aw⟩:=eX (Value.map (some (j.heap.size+2)));obtain⟨U,ax⟩:=eX (Value.map (some (j.heap.size+4)));rw[<-ay,<-aw,<-ax]at N;clear av ay aw ax;have aG:l<d.heap.size:=(yZ.1 a5).1;have aH:w.heap.size+3<=j.heap.size:=by have:=H.o.size;have:=aU.o;omega
  have L:=H.o.trans f3 kP;have aN:=Hh (show MapF encP encN d l (λ_=>none)from⟨#[],0,a5,by simp,by simp,by simp⟩);have aA:=N.low
  -- the blocks of the pool are its own
  have q:=Hh (show ∀a,(λa=>(a=j.heap.size\/a=u)/\a<d.heap.size) a->j.heap.size<=a/\a≠l from λa c=>by
   rcases c.1 with e|e <;> omega)
  have J:Fr NoM d d.drew:=(nW d).drew;have ae:=zhn u (.slice a1 (i2 p).length c1) [] p [] V T (.map (some l)) U d.drew (aA.fr0 J) (λa c=>by rw[World.size_drew];exact c.2) (λa c=>by rw[World.size_drew];exact c.2) PoolOK.nil (aO.o d.drew (L.trans J kP)).ofI (λD r M=>by have:=(q.o D M).1;have r:D<w.heap.size:=r;omega) a3 (by simp);obtain⟨m,aa⟩:∃m:Nat->Prop,m=λa=>(a=j.heap.size\/a=u)/\a<d.heap.size:=⟨_,rfl⟩
  obtain⟨Z,a9⟩:∃Z:Nat->Prop,Z=λa=>NoM a/\a<d.heap.size:=⟨_,rfl⟩
  have q:=Hh (show ∀a,m a->j.heap.size<=a/\a≠l from by rw[aa];exact q.o);have aM:=Hh (show ∀a,¬Z a from by rw[a9];exact λa h=>h.1);rw[<-aa,<-a9]at ae;have aS:=Hh ae
  -- what stands in memory behind the pool's own calls
  have a7:=Hh (λb (k:Fr (λa=>m a\/a=l) d b)=>(L.trans k (λa c h=>by
   have f:=H.o.size;rcases h with h|h
   ·have:=(q.o a h).1;omega
   ·omega):Fr NoM i b))
  have aq:=λ(b:World) (a0:List PL) (BV:List Nat) (am al:Nat->Prop) (k:Fr m d b) (hP:PoolS am al b u a0 BV V T (.map (some l)) U) (aY:PoolOK a0 BV) (hM:∀a,am a->(m a\/d.heap.size<=a)/\a<b.heap.size) (hI:∀a,al a->(Z a\/d.heap.size<=a)/\a<b.heap.size) (C:a0.length<1000000) =>
   zhn u (.slice a2 (i2 A).length c2) a0 A BV V T (.map (some l)) U b hP (λa c=>(hM a c).2) (λa c=>(hI a c).2) aY (aP.o b (a7.o b (k.mono (λ_ _ a=>.inl a)))).ofI (λD r M=>by
    have r:D<w.heap.size:=r;have h3:=f3.size;rcases (hM D M).1 with h|h
    ·have:=(q.o D h).1;omega
    ·omega) a4 C
  have aT:=Hh aq;have ao:p.length<=120:=by have h:=a3.1;unfold zah at h;rw[kV,zck]at h;exact h.1
  have ap:A.length<=120:=by have h:=a4.1;unfold zah at h;rw[kV,zck]at h;exact h.1
  have ah:=Hh (And.intro ao ap);obtain⟨FN,a8⟩:=eX (sumN p A);have az:ok=zah FN:=by rw[aj.o,zbe,zbe,a8];rfl
  obtain⟨aQ,ag,ak,aW,b2,aL⟩:=Hhp6 az a8 aG aH L f3;clear O P E Q;obtain⟨O,P,E,Q⟩:=I.o d L;have C0:d.drew.cell? ⟨w.heap.size,0,none⟩=some (.slice a1 (i2 p).length c1):=J.cell O id;have C1:d.drew.cell? ⟨w.heap.size+1,0,none⟩=some (.slice a2 (i2 A).length c2):=J.cell P id;clear N a5 aB aF aG aH L aA ae aa a9 aq ao ap az a8 f3 a3 a4 M E Q;go_upto_region 4 with fail;go_region_law (first
   | (go_simp;first
    | (go_at_call 41;(with_reducible refine aS.o.mono ?_);rintro e wa ⟨r1,V1,B1,M1,I1,rfl,pa,oa,va,ra,ca,ua,F,ia,fa⟩;have t:Fr m d wa:=J.any.trans fa kP;obtain⟨j0,j1,j2,j3⟩:=I.o wa (a7.o wa (t.mono (λ_ _ a=>.inl a)));(try simp only[World.size_drew]at F ia);have b3:V1.length<=120:=by { have g:=zfe oa ua;have f:=ah.o;simp[za1,za0]at g;have h3:=za1 p;unfold za0 at h3;omega })
    | (go_at_call 41;(with_reducible refine(aT.o wa V1 B1 M1 I1 t pa oa F ia (by omega)).mono ?_);rintro e wb ⟨r2,V2,B2,M2,I2,rfl,aJ,ob,vb,rb,cb,ub,mb,ib,fb⟩;have kb:Fr m d wb:=t.trans fb (λa c h=>(F a h).1.elim id (λa6=>by omega));have aX:(za0 V2).getD r1 0=zas p:=by { rw[zai vb ra];exact ca };have la:=vb.length_le;have af:V2.length<=240:=by { have g:=zfe ob ub;have f:=ah.o;rw[yX,za1,za1]at g;omega };have aV:=Hh (ygd u l V T U V2 B2 r1 r2 wb aJ ob (aN.o.fr kb (λh=>(q.o _ h).2 rfl)) (λa c=>⟨(mb a c).2,λe=>by { have hs:=ak.o;have hz:=t.size;rcases (mb a c).1 with h|h;{ rcases (F a h).1 with h|h;{ exact(q.o a h).2 e };{ omega } };{ omega } }⟩) (λa c=>⟨(ib a c).2,λe=>by { have hs:=ak.o;have hz:=t.size;rcases (ib a c).1 with h|h;{ rcases (ia a h).1 with h|h;{ exact aM.o a h };{ omega } };{ omega } }⟩) (by omega) rb af))
    | (go_at_call 112;(with_reducible refine aV.o.mono ?_);rintro e wc ⟨b0,V3,B3,M4,I4,ff,rfl,G,nx,hi,ab⟩;have kc:Fr (λa=>m a\/a=l) d wc:=(kb.mono (λ_ _ a=>.inl a)).trans nx.fr (λa c h=>h.elim (λh=>by { have hz:=t.size;rcases (mb a h).1 with h|h;{ rcases (F a h).1 with h|h;{ exact .inl h };{ omega } };{ omega } }) .inr);rw[aX,cb]at ab;have ar:=zee G.ok hi ab;have au:=G.len;rw[zyb,za1]at au;have aZ:=Nat.mul_le_mul af af)
    | (go_at_call 60;(with_reducible refine(zkh u b0 V3 B3 V T (.map (some l)) U wc G.pool G.ok hi (by omega)).mono ?_);rintro e W ⟨nv,b1,x,rfl,aD,ac,f8⟩;obtain⟨an,cn,rfl,zz⟩:=id ac.nodeL;clear zz;have kd:Fr NoM i W:=a7.o W (kc.trans f8 (λ_ _ a=>a.elim));obtain⟨_,_,aK,b4⟩:=I.o W kd)
    | fail)
   | fail)
  all_goals
   obtain⟨g,f⟩:=FormRes.is G.ok hi aD;rw[ar]at g f;rw[show za8 (sumC (zas p) (zas A))=FN from ag.o.symm]at g f;rw[<-aQ.o]at g;obtain⟨ai,KD,Y⟩:=Hhp3 ac kd (show w.heap.size+3<=wc.heap.size from by have:=kc.size;have:=aL.o.size;have:=aW.o;omega);clear ac kd kc f8 G nx hi ab ar au aZ aD kb t fa fb F ia mb ib pa aJ oa ob;subst g;cases b1 with
   | true =>
    have K:x=FN:=by simpa using f
    have X:=Hh K;clear f K;go_wp2_with fail;refine yJ (v:=.tuple #[.agg #[.slice an x.length cn],.bool true]) (by simp[results,Tryz.results64,go_sem,aK]) rfl ?_
    refine⟨_,rfl,?_,(F1.o.trans KD.o kP).setCell ⟨w.heap.size+1+1,0,none⟩ _ (λh=>by have h:w.heap.size+1+1<w.heap.size:=h;omega)⟩;have C:=(ai.o.fr (Fr.set W ⟨w.heap.size+1+1,0,none⟩ (.slice an x.length cn)) (λa c _ e=>by have e:a=w.heap.size+1+1:=e;have:=Y.o;omega)).base (D':=w.heap.size) (by have:=Y.o;omega);rw[zbe,zbe,<-ag.o,<-X.o];exact C
   | false =>
    have K:x=[]:=by simpa using f
    have X:=Hh K;clear f K;go_wp2_with fail;refine yJ (v:=.tuple #[.agg #[.slice an x.length cn],.bool false]) (by simp[results,Tryz.results64,go_sem,aK]) rfl ?_
    refine⟨_,rfl,?_,(F1.o.trans KD.o kP).setCell ⟨w.heap.size+1+1,0,none⟩ _ (λh=>by have h:w.heap.size+1+1<w.heap.size:=h;omega)⟩;have C:=(ai.o.fr (Fr.set W ⟨w.heap.size+1+1,0,none⟩ (.slice an x.length cn)) (λa c _ e=>by have e:a=w.heap.size+1+1:=e;have:=Y.o;omega)).base (D':=w.heap.size) (by have:=Y.o;omega);rw[X.o]at C;rw[X.o];exact C
def FormsI (R:Nat->Prop)(w:World)(v:Value)(FL:List (List (List Int × List Int))):Prop :=
 ∃a:List Value,SliceOf encV w v a/\a.length=FL.length/\∀(c:Nat) (d:Value) (b:List (List Int × List Int)),a[c]?=some d->FL[c]?=some b->NodeL R encI w d b
theorem FormsI.fr0 {R:Nat->Prop}{w b:World}{v:Value}{FL:List (List (List Int × List Int))}(g:FormsI R w v FL)(a:Fr NoM w b):FormsI R b v FL:=by obtain⟨d,h,i,j⟩:=g;exact⟨d,h.fr0 a,i,λk l c e f=>(j k l c e f).fr0 a⟩
theorem FormsI.low {R:Nat->Prop}{w:World}{v:Value}{FL:List (List (List Int × List Int))}(e:FormsI R w v FL):FormsI (· < w.heap.size) w v FL:=by obtain⟨b,f,g,h⟩:=e;exact⟨b,f,g,λi j a c d=>(h i j a c d).low⟩
theorem FormsI.shape {R:Nat->Prop}{w:World}{v:Value}{FL:List (List (List Int × List Int))}(d:FormsI R w v FL):∃a b,v=.slice a FL.length b/\FL.length<=9223372036854775807:=by obtain⟨f,⟨a,b,c,g,h,_⟩,e,_⟩:=d;exact⟨a,b,by rw[c,e],by omega⟩
theorem FormsI.get {R:Nat->Prop}{w:World}{a:Option Addr}{c:Nat}{FL:List (List (List Int × List Int))}(n:FormsI R w (.slice a FL.length c) FL){k:Nat}{e:List (List Int × List Int)}(g:FL[k]?=some e) : ∃b d h,a=some ⟨b,d,none⟩/\w.cell? ⟨b,d+k,none⟩=some h/\NodeL R encI w h e:=by obtain⟨i,⟨q,r,j,_,_,p⟩,s,o⟩:=n;obtain⟨rfl,u,rfl⟩:=Value.slice.inj j;have t:=(xV.1 g).1;have f:=xQ (show k<i.length by omega);obtain⟨b,d,l,m⟩:=p k _ f;exact⟨b,d,_,l,m,o k _ _ f g⟩
theorem zt9 (w:World):Calls Tryz.prog 62 #[] w λd o=>∃n,d=.returned (.agg #[n])/\NodesS w.heap.size o n [([],[])]/\Fr NoM w o:=by(obtain⟨c,b⟩:=eX ((w.alloc (.cells #[.slice (some ⟨w.heap.size+1,0,none⟩) 1 1] 26)).alloc (.cells #[.slice none 0 0,.slice none 0 0] 85));have j:Fr NoM w c:=by rw[b];exact((nW w).alloc _).alloc _);have h:c.heap[w.heap.size]?=some (.cells #[.slice (some ⟨w.heap.size+1,0,none⟩) 1 1] 26 (0,0)):=by{rw[b];exact((nW _).alloc _).heap (xJ w _) id};have i:c.heap[w.heap.size+1]?=some (.cells #[.slice none 0 0,.slice none 0 0] 85 (0,0)):=by{have g:=xJ (w.alloc (.cells #[.slice (some ⟨w.heap.size+1,0,none⟩) 1 1] 26)) (.cells #[.slice none 0 0,.slice none 0 0] 85);rw[xZ]at g;rw[b];exact g};(have m:c.cell? ⟨w.heap.size,0,none⟩=some (.slice (some ⟨w.heap.size+1,0,none⟩) 1 1):=qR h rfl);obtain⟨q,p,r⟩:=Hhp3 j i m;clear j h i m;go_enter Tryz.func62,Tryz.ntmps62;go_upto_region 1 with fail;go_wp2_with fail;rw[<-b];clear b;refine yJ (v:=.agg #[.slice (some ⟨w.heap.size+1,0,none⟩) 1 1]) (by simp[results,Tryz.results62,go_sem,r.o]) rfl ?_;refine⟨_,rfl,⟨[(.slice none 0 0,.slice none 0 0)],⟨rfl,.inr ⟨w.heap.size+1,1,_,rfl,Nat.le_succ _,p.o,by simp,by decide,by simp,by simp[zau]⟩⟩,rfl,λl u x t k=>?_,λf e=>(List.not_mem_nil (a:=f) e).elim,List.nodup_nil,λf e=>(List.not_mem_nil (a:=f) e).elim⟩,q.o⟩;cases l with| zero =>{(have d:([],[])=x:=by simpa using k);(have s:(Value.slice none 0 0,Value.slice none 0 0)=u:=by simpa using t);subst d;subst s;exact⟨SliceOf.nil _ _,SliceOf.nil _ _⟩}| succ l=>simp at k
