import Derived.Test.YtghekfmfonoocaaGreatDoorZux
/- Lemmas. -/
set_option linter.all false
set_option maxHeartbeats 8000000
set_option maxRecDepth 4000
namespace Go.Proofs.YtghekfmfonoocaaGreatDoor
open Go.RowKit
theorem yhp {T P n s:Int}{g ok:Bool}(i:g=true↔GoodD T P)(j:NsOk T P n s ok):ok=((g && zah (numN T P.toNat)) && upOk n s):=by have h:ok=true↔((g && zah (numN T P.toNat)) && upOk n s)=true:=by{rw[Bool.and_eq_true,Bool.and_eq_true,i];unfold upOk betw;rw[Bool.and_eq_true,decide_eq_true_iff,decide_eq_true_iff];refine j.trans ⟨λ⟨a,b,c,d,e,f⟩=>⟨⟨a,b⟩,⟨c,d⟩,e,f⟩,λ⟨⟨a,b⟩,⟨c,d⟩,e,f⟩=>⟨a,b,c,d,e,f⟩⟩};exact Bool.eq_iff_iff.2 h
theorem yhn (T P n s:Int):∃ok:Bool,NsOk T P n s ok:=by by_cases b:GoodD T P/\zah (numN T P.toNat)=true∧-12<=n/\n<=12/\0<=s/\s<=15;{exact⟨true,λ_=>b,λ_=>rfl⟩};{exact⟨false,⟨λa=>absurd a (by simp),λa=>absurd a b⟩⟩}
def yac (g:Bool)(b:List (List Int × List Int))(w:World)(e:Ending)(c:World):Prop :=
 ∃(a:(Int × Nat) × Int × Nat) (ok:Bool),e=.returned (.tuple #[.agg #[.int .i64 a.1.1,.int .i64 (a.1.2:Int)],.int .i64 a.2.1,.int .i64 (a.2.2:Int),.bool ok])/\NsIs g b a ok/\Fr NoM w c
theorem ztz (T P n s:Int)(w:World)(ok:Bool)(a9:NsOk T P n s ok)(d:Option (List PL))(a8:d=nsV true ok (numN T P.toNat) (uqC n s.toNat)) :
  Calls Tryz.prog 8 #[.agg #[.int .i64 T,.int .i64 P],.int .i64 n,.int .i64 s] w λg w'=>∃j,g=.returned (.tuple #[.agg #[j],.bool d.isSome])/\NodesS w.heap.size w' j (d.getD [])/\Fr NoM w w':=by
 obtain⟨a6,S⟩:=zk8 T P;have O:=yhp S a9;obtain⟨a0,V⟩:=eX ((a6 && zah (numN T P.toNat)));obtain⟨a1,W⟩:=eX (upOk n s);rw[<-V,<-W]at O;obtain⟨o,l⟩:=eX ((w.alloc (.cells #[.int .i64 T,.int .i64 P] 29)).alloc (.cells #[.slice none 0 0] 26));have f1:Fr NoM w o:=by rw[l];exact((nW w).alloc _).alloc _
 have ab:o.heap.size=w.heap.size+2:=by rw[l];simp
 have e2:o.heap[w.heap.size+1]?=some (.cells #[.slice none 0 0] 26 (0,0)):=by
  have c:=xJ (w.alloc (.cells #[.int .i64 T,.int .i64 P] 29)) (.cells #[.slice none 0 0] 26);rw[xZ]at c;rw[l];exact c
 have H:=Hh (λa (k:Fr NoM o a)=>(by
  have h2:=k.heap e2 id;exact⟨qR h2 rfl,fZ h2⟩:a.cell? ⟨w.heap.size+1,0,none⟩=some (.slice none 0 0)/\a.frozen? ⟨w.heap.size+1,0,none⟩=false))
 obtain⟨e,M⟩:=eX ((if a0=true then numN T P.toNat else []));obtain⟨f,N⟩:=eX ((if a1=true then za8 (uqC n s.toNat)else []));have U:=λ(a:World)=>zox T P a a6 S a0 V
 rw[<-M]at U;have A:=λ(a:World)=>ym4 n s a a1 W
 unfold zy0 at A;rw[<-N]at A;obtain⟨ak,aq,am,ap,F1,ao,F,a5⟩:=Hhp8 U A M N f1 ab O a8;clear f1 ab e2 U A M N O a8 a9 V W S;go_enter Tryz.func8,Tryz.ntmps8;go_wp2_with fail;rw[<-l];clear l;(with_reducible refine(ak.o o).mono ?_);rintro g p ⟨v2,rfl,ad,f2⟩;have Y:=ad.nodeL;obtain⟨u,y,rfl,a3⟩:=id Y;obtain⟨q,B⟩:=eX (p.alloc (.cells #[.slice u e.length y] 26));obtain⟨b2,Q⟩:=eX p.heap.size;have J:Fr NoM p q:=by rw[B];exact(nW p).alloc _
 have t:=Hh (f2.trans J kP);have ah:=Hh (λa (k:Fr NoM q a)=>(Y.fr0 J).fr0 k);have e3:q.heap[b2]?=some (.cells #[.slice u e.length y] 26 (0,0)):=by rw[B,Q];exact xJ p _
 have K2:=Hh (λa (k:Fr NoM q a)=>show a.cell? ⟨b2,0,none⟩=some (.slice u e.length y)from by rw[xX a _ 0 _ _ _ (k.heap e3 id)];rfl);clear a3 Y ad f2 J e3;go_upto_region 2 with fail;rw[<-B,<-Q];clear B Q;go_wp2_with fail;(with_reducible refine(aq.o q).mono ?_);rintro g r ⟨v4,rfl,ae,f4⟩;have Z:=ae.nodeL;obtain⟨x,z,rfl,a3⟩:=id Z;obtain⟨b,C⟩:=eX (r.alloc (.cells #[.slice x f.length z] 26));obtain⟨b4,R⟩:=eX r.heap.size;have K:Fr NoM r b:=by rw[C];exact(nW r).alloc _
 have i:=Hh (f4.trans K kP);have ai:=Hh (Z.fr0 K);have e5:b.heap[b4]?=some (.cells #[.slice x f.length z] 26 (0,0)):=by rw[C,R];exact xJ r _
 have K4:=Hh (show b.cell? ⟨b4,0,none⟩=some (.slice x f.length z)from qR e5 rfl);clear a3 Z ae f4 K e5;go_upto_region 3 with fail;rw[<-C,<-R];clear C R;have I:=Hh (λ(c:ok=false)=>show ∃j,Ending.returned (.tuple #[.agg #[.slice none 0 0],.bool false])=.returned (.tuple #[.agg #[j],.bool d.isSome])/\NodesS w.heap.size (b.setCell ⟨w.heap.size+1,0,none⟩ (.slice none 0 0)) j (d.getD [])/\Fr NoM w (b.setCell ⟨w.heap.size+1,0,none⟩ (.slice none 0 0))from by
  have h1:d=none:=by rw[a5.o,c];rfl
  subst h1;exact⟨_,rfl,NodesS.nil _ _,(F1.o.trans (t.o.trans i.o kP) kP).setCell _ _ (λc=>by have c:w.heap.size+1<w.heap.size:=c;omega)⟩)
 cases a0 with
 | false =>
  have G:=Hh (I.o F.o);obtain⟨m,h⟩:=H.o b (t.o.trans i.o kP);go_wp2_with fail;refine yJ (v:=.tuple #[.agg #[.slice none 0 0],.bool false]) (by simp[results,Tryz.results8,go_sem,m,h]) rfl ?_
  exact G.o
 | true =>
 cases a1 with
 | false =>
  have G:=Hh (I.o F.o);obtain⟨m,h⟩:=H.o b (t.o.trans i.o kP);go_wp2_with fail;refine yJ (v:=.tuple #[.agg #[.slice none 0 0],.bool false]) (by simp[results,Tryz.results8,go_sem,m,h]) rfl ?_
  exact G.o
 | true =>
  have hk:ok=true:=F.o;have aa:e=numN T P.toNat:=by rw[am.o];rfl
  have ac:f=za8 (uqC n s.toNat):=by rw[ap.o];rfl
  have a7:d=csR true [i2 e,i2 f]:=by rw[a5.o,hk,aa,ac];rfl
  obtain⟨w6,D⟩:=eX (b.alloc (.cells #[.slice u e.length y,.slice x f.length z] 26));have f6:Fr NoM b w6:=by rw[D];exact(nW b).alloc _
  have af:=Hh (zxt _ [i2 e,i2 f] w6 (ynr (ah.o b i.o).toI ai.o.toI D) d a7);have F6:=Hh ((t.o.trans i.o kP).trans f6 kP);clear hk aa ac a7 f6 I;have k2:=K2.o b i.o;have h:=K4.o;go_wp2_with fail;rw[<-D];clear D k2 h;(with_reducible refine af.o.mono ?_);rintro g w7 ⟨j,rfl,E,f7⟩;obtain⟨ar,X⟩:=eX d.isSome;obtain⟨FN,L⟩:=eX (d.getD []);rw[<-X];rw[<-L]at E;have ag:=Hh L;have al:=Hh X;obtain⟨an,cn,rfl,zz⟩:=id E.nodeL;obtain⟨aj,F7,HZ⟩:=Hhp3 E (F6.o.trans f7 kP) (show w.heap.size+2<=w6.heap.size from by have:=F6.o.size;have:=ao.o;omega);clear zz E f7 X L;obtain⟨m,h⟩:=H.o w7 F7.o;go_wp2_with fail;refine yJ (v:=.tuple #[.agg #[.slice an FN.length cn],.bool ar]) (by simp[results,Tryz.results8,go_sem,m,h]) rfl ?_
  refine⟨_,by rw[al.o],?_,(F1.o.trans F7.o kP).setCell _ _ (λc=>by have c:w.heap.size+1<w.heap.size:=c;omega)⟩;rw[<-ag.o];exact(aj.o.fr (Fr.set w7 ⟨w.heap.size+1,0,none⟩ _) (λau hq _ g=>by have g:au=w.heap.size+1:=g;have:=HZ.o;omega)).base (D':=w.heap.size) (by have:=HZ.o;omega)
