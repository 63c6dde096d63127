import Derived.Test.YtghekfmfonoocaaGreatDoorZu11
/- Lemmas. -/
set_option linter.all false
set_option maxHeartbeats 8000000
set_option maxRecDepth 8000
namespace Go.Proofs.YtghekfmfonoocaaGreatDoor
open Go.RowKit
theorem yap {T n:Int}{p t:Nat}{g ok1 ok2 ok:Bool}(q:g=true↔GoodD T p)(m:ok1=(g && zah (numN T p)))(o:ok2=upOk n t)(c:ok=true↔zni ((T,p),n,t)) : (ok1=false->ok=false)/\(ok2=false->ok=false)/\(ok1=true->ok2=true->(T=0\/(n=0/\t=0))->ok=true)/\(ok1=true->ok2=true->ok=ze1 (i2 (numN T p)) (i2 (za8 (uqC n t))))/\(ok2=true->n.natAbs<=12/\t<=15):=by have i:ok2=true↔n.natAbs<=12/\t<=15:=by{rw[o];unfold upOk betw;rw[Bool.and_eq_true,decide_eq_true_iff,decide_eq_true_iff];omega};(have k:ok1=true↔GoodD T p/\zah (numN T p)=true:=by rw[m,Bool.and_eq_true,q]);(have l:¬ok=true->ok=false:=λa=>by cases ok <;> simp_all);refine⟨λb=>l λa=>?_,λb=>l λa=>?_,λb j s=>?_,λb j=>?_,i.1⟩;{have a:=c.1 a;have:=k.2 ⟨a.1,a.2.1⟩;rw[b]at this;cases this};{have a:=c.1 a;have:=i.2 ⟨a.2.2.1,a.2.2.2.1⟩;rw[b]at this;cases this};{obtain⟨d,e⟩:=k.1 b;(obtain⟨f,h⟩:=i.1 j;obtain⟨u,v,_,r,_⟩:=d.nat;obtain rfl:p=u:=by omega);exact c.2 ⟨d,e,f,h,yhd r e f h s⟩};{obtain⟨d,e⟩:=k.1 b;obtain⟨f,h⟩:=i.1 j;refine Bool.eq_iff_iff.2 ⟨λa=>(c.1 a).2.2.2.2,λa=>c.2 ⟨d,e,f,h,a⟩⟩}
theorem ybi (T P n s:Int)(p t:Nat)(R:P=p)(S:s=t)(w:World)(ok:Bool)(aq:ok=true↔zni ((T,p),n,t)) :
  Calls Tryz.prog 80 #[.agg #[.int .i64 T,.int .i64 P],.int .i64 n,.int .i64 s] w λh k=>h=.returned (.bool ok)/\Fr NoM w k:=by
 obtain⟨g,hg⟩:=zk8 T P;obtain⟨a0,ad⟩:=eX ((g && zah (numN T P.toNat)));obtain⟨a1,ae⟩:=eX (upOk n s);obtain⟨UC,a7⟩:=eX (uqC n s.toNat);have D:=Hh (yap (g:=g) (ok1:=a0) (ok2:=a1) (by rw[hg,R]) (by rw[ad,R];rfl) (by rw[ae,S]) aq);obtain⟨w1,X⟩:=eX (w.alloc (.cells #[.int .i64 T,.int .i64 P] 29));have f1:Fr NoM w w1:=by rw[X];exact(nW w).alloc _
 have e1:w1.heap[w.heap.size]?=some (.cells #[.int .i64 T,.int .i64 P] 29 (0,0)):=by rw[X];exact xJ w _
 have HK:=Hh (λa (i:Fr NoM w1 a)=>show a.cell? ⟨w.heap.size,0,none⟩=some (.int .i64 T)from by rw[xX a _ 0 _ _ _ (i.heap e1 id)];rfl);obtain⟨l,a6⟩:=eX ((if a0=true then numN T P.toNat else []));obtain⟨f,a8⟩:=eX ((if a1=true then za8 UC else []));have ac:=λ(a:World)=>zov T P a g hg a0 ad
 rw[<-a6]at ac;have V:=λ(a:World)=>ym3 n s a a1 ae
 unfold zxz at V;rw[<-a7,<-a8]at V;obtain⟨az,aE,aA,aD,F1,a3,HP,HS,aC⟩:=Hhp9 ac V a6 a8 f1 a7 R S (show s=0↔t=0 from by rw[S];omega);clear f1 e1 ac V a6 a8 aq ad ae hg a7 R S;go_enter Tryz.func80,Tryz.ntmps80;go_wp2_with fail;rw[<-X];clear X;(with_reducible refine(az.o w1).mono ?_);rintro h L ⟨v2,rfl,n2,f2⟩;obtain⟨u,v,rfl,ak⟩:=id n2;obtain⟨M,Y⟩:=eX (L.alloc (.cells #[.slice u l.length v] 26));obtain⟨F,a9⟩:=eX L.heap.size;have f3:Fr NoM L M:=by rw[Y];exact(nW L).alloc _
 have F3:=Hh (f2.trans f3 kP);have ax:=Hh (λa (i:Fr NoM M a)=>(n2.fr0 f3).fr0 i);have e3:M.heap[F]?=some (.cells #[.slice u l.length v] 26 (0,0)):=by rw[Y,a9];exact xJ L _
 have K2:=Hh (λa (i:Fr NoM M a)=>show a.cell? ⟨F,0,none⟩=some (.slice u l.length v)from by rw[xX a _ 0 _ _ _ (i.heap e3 id)];rfl);clear ak n2 f2 f3 e3;go_upto_region 2 with fail;rw[<-Y,<-a9];clear Y a9;go_wp2_with fail;(with_reducible refine(aE.o M).mono ?_);rintro h N ⟨v4,rfl,n4,f4⟩;obtain⟨y,z,rfl,ak⟩:=id n4;obtain⟨b,Z⟩:=eX (N.alloc (.cells #[.slice y f.length z] 26));obtain⟨G,aa⟩:=eX N.heap.size;have f5:Fr NoM N b:=by rw[Z];exact(nW N).alloc _
 have O:=Hh (f4.trans f5 kP);have ay:=Hh (λa (i:Fr NoM b a)=>(n4.fr0 f5).fr0 i);have e5:b.heap[G]?=some (.cells #[.slice y f.length z] 26 (0,0)):=by rw[Z,aa];exact xJ N _
 have K4:=Hh (λa (i:Fr NoM b a)=>show a.cell? ⟨G,0,none⟩=some (.slice y f.length z)from by rw[xX a _ 0 _ _ _ (i.heap e5 id)];rfl);clear ak n4 f4 f5 e5;go_upto_region 3 with fail;rw[<-Z,<-aa];clear Z aa;have C:=Hh (F1.o.trans (F3.o.trans O.o kP) kP);cases a0 with
 | false =>
  have x:=Hh (D.o.1 rfl);go_wp2_with fail;go_ret;exact⟨by rw[x.o];rfl,C.o⟩
 | true =>
 cases a1 with
 | false =>
  have x:=Hh (D.o.2.1 rfl);go_wp2_with fail;go_ret;exact⟨by rw[x.o];rfl,C.o⟩
 | true =>
 obtain⟨am,aB,aF⟩:=Hhp3 (D.o.2.2.1 rfl rfl) (D.o.2.2.2.1 rfl rfl) (D.o.2.2.2.2 rfl);clear D;have k0:=HK.o b (F3.o.trans O.o kP);by_cases hT:T=0
 ·subst hT
  have x:=Hh (am.o (.inl rfl));go_wp2_with fail;go_ret;exact⟨by rw[x.o];rfl,C.o⟩
 have aI:(T == 0)=false:=by rw[beq_eq_false_iff_ne];exact hT
 by_cases hz:n=0/\s=0
 ·obtain⟨rfl,rfl⟩:=hz
  have x:=Hh (am.o (.inr ⟨rfl,aC.o.1 rfl⟩));go_wp2_with fail;go_ret;exact⟨by rw[x.o];rfl,C.o⟩
 have au:l=numN T P.toNat:=by rw[aA.o];rfl
 have W:f=za8 UC:=by rw[aD.o];rfl
 have ar:P.toNat=p:=by rw[HP.o];rfl
 have U:s.toNat=t:=by rw[HS.o];rfl
 have J:=aF.o;have ap:zbh (i2 f):=by rw[W,a3.o,U];exact zo7 J.1 J.2
 have an:za8 (canC (zas f))=f:=by rw[W,zb5,a3.o,U,zfp (zvb J.1 J.2)]
 obtain⟨q1,q2,q3,q4,_⟩:=zcd ap;have al:=Hh (λa (i:Fr NoM b a)=>show Calls Tryz.prog 34 #[.agg #[.slice y f.length z]] a λh k=>∃q,h=.returned (.agg #[q])/\NodeL (λa5=>a.heap.size<=a5) encN k q f/\Fr NoM a k from by
  have c:=zp6 _ f a (ay.o a i) q4.opts q3 q1 q2;rw[an]at c;exact c)
 have av:ok=ze1 (i2 l) (i2 f):=by rw[aB.o,au,W,a3.o,ar,U]
 have Q:=Hh (λ(aG:Nat->Prop) (a:World) (ai:Value) (c:NodeL aG encN a ai f) (i:Fr NoM b a)=>show Calls Tryz.prog 58 #[.agg #[.slice u l.length v],.agg #[ai]] a λh k=>∃(q:Value) (E:List PL),h=.returned (.tuple #[.agg #[q],.bool ok])/\NodeL (λa5=>a.heap.size<=a5) encN k q E/\Fr NoM a k from(zs8 (.slice u l.length v) ai (i2 l) (i2 f) a (ax.o a (O.o.trans i kP)).toI c.toI ok av).mono λh k ⟨q,h1,h2,h3⟩=>⟨q,_,h1,h2,h3⟩);have r:=Hh (λa (i:Fr NoM b a)=>show a.cell? ⟨F,0,none⟩=some (.slice u l.length v)/\a.cell? ⟨G,0,none⟩=some (.slice y f.length z)from⟨K2.o a (O.o.trans i kP),K4.o a i⟩);have KZ:Fr NoM b b.drew:=(nW b).drew;have GZ:Fr NoM b (b.alloc (.cells #[.slice none 0 0] 26)).drew:=((nW b).alloc _).drew;clear au W ar U J ap an q1 q2 q3 q4 av;have ao:(n=0->(s == 0)=false):=λh=>by rw[beq_eq_false_iff_ne];exact λe'=>hz ⟨h,e'⟩
 have aw:=Hh ao;clear ao hz;by_cases ab:n=0
 ·have aK:=aw.o ab
  subst ab;go_upto_region 5 with fail;go_cut [11,12]from 48 to 54 (λaH aj k=>aj=.bool ok/\Fr NoM b k)
  case first =>
   go_region_held3 (λ(a:World)=>a.cell? ⟨F,0,none⟩=some (.slice u l.length v)/\a.cell? ⟨G,0,none⟩=some (.slice y f.length z))
    (first|exact r.o _ (‹_›)|exact r.o _ (Fr.alloc (‹_›) _)|exact r.o _ (Fr.setCell d _ _ (λc=>absurd c (Nat.lt_irrefl _)))|exact r.o _ (Fr.setCell d _ _ (λc=>absurd c (Nat.not_lt.2 j.size)))|exact r.o _ (Fr.setCell (Fr.alloc d _) _ _ (λc=>absurd c (Nat.not_lt.2 d.size))))
    (first
     | (go_at_call 34;(with_reducible refine(al.o _ (‹_›)).mono ?_);rintro h e ⟨vb,rfl,K,I⟩;have j:Fr NoM b e:=Fr.trans (‹_›) I kP;(try (have ah:e.heap[b.heap.size]?=some (.cells #[.slice none 0 0] 26 (0,0)):=I.heap (xJ b _) id)))
     | (go_at_call 58;(with_reducible refine(Q.o _ e _ K j).mono ?_);rintro h wc ⟨q,E,rfl,A,m⟩;obtain⟨xa,xc,rfl,B⟩:=id A;clear B;have d:Fr NoM b wc:=Fr.trans j m kP;(try (have o:wc.heap[b.heap.size]?=some (.cells #[.slice none 0 0] 26 (0,0)):=m.heap ah id;have af:wc.cell? ⟨b.heap.size,0,none⟩=some (.slice none 0 0):=(qR o rfl);have ag:wc.frozen? ⟨b.heap.size,0,none⟩=false:=(fZ o))))
     | (go_at_call 58;(with_reducible refine(Q.o _ (e.alloc (.cells #[.slice none 0 0] 26)) _ (K.fr0 ((nW e).alloc _)) (j.alloc _)).mono ?_);rintro h wc ⟨q,E,rfl,A,m⟩;obtain⟨xa,xc,rfl,B⟩:=id A;clear B;have d:Fr NoM b wc:=Fr.trans (j.alloc _) m kP;have o:wc.heap[e.heap.size]?=some (.cells #[.slice none 0 0] 26 (0,0)):=m.heap (xJ e _) id;have af:wc.cell? ⟨e.heap.size,0,none⟩=some (.slice none 0 0):=(qR o rfl);have ag:wc.frozen? ⟨e.heap.size,0,none⟩=false:=(fZ o))
     | fail)
   all_goals
    go_wp2_with fail;go_meet
    case rel=>first
     | exact⟨rfl,d.alloc _⟩
     | exact⟨rfl,Fr.setCell d _ _ (λc=>absurd c (Nat.not_lt.2 j.size))⟩
     | exact⟨rfl,Fr.setCell d _ _ (λc=>absurd c (Nat.lt_irrefl _))⟩
     | exact⟨rfl,Fr.setCell (Fr.alloc d _) _ _ (λc=>absurd c (Nat.not_lt.2 d.size))⟩
  case rest =>
  obtain⟨rfl,H⟩:=hcut;have FE:=Hh (C.o.trans H kP);clear H;go_wp2_with fail;go_ret;exact⟨rfl,FE.o⟩
 ·have aJ:(n == 0)=false:=by rw[beq_eq_false_iff_ne];exact ab
  go_upto_region 5 with fail;go_cut [11,12]from 48 to 54 (λaH aj k=>aj=.bool ok/\Fr NoM b k)
  case first =>
   go_region_held3 (λ(a:World)=>a.cell? ⟨F,0,none⟩=some (.slice u l.length v)/\a.cell? ⟨G,0,none⟩=some (.slice y f.length z))
    (first|exact r.o _ (‹_›)|exact r.o _ (Fr.alloc (‹_›) _)|exact r.o _ (Fr.setCell d _ _ (λc=>absurd c (Nat.lt_irrefl _)))|exact r.o _ (Fr.setCell d _ _ (λc=>absurd c (Nat.not_lt.2 j.size)))|exact r.o _ (Fr.setCell (Fr.alloc d _) _ _ (λc=>absurd c (Nat.not_lt.2 d.size))))
    (first
     | (go_at_call 34;(with_reducible refine(al.o _ (‹_›)).mono ?_);rintro h e ⟨vb,rfl,K,I⟩;have j:Fr NoM b e:=Fr.trans (‹_›) I kP;(try (have ah:e.heap[b.heap.size]?=some (.cells #[.slice none 0 0] 26 (0,0)):=I.heap (xJ b _) id)))
     | (go_at_call 58;(with_reducible refine(Q.o _ e _ K j).mono ?_);rintro h wc ⟨q,E,rfl,A,m⟩;obtain⟨xa,xc,rfl,B⟩:=id A;clear B;have d:Fr NoM b wc:=Fr.trans j m kP;(try (have o:wc.heap[b.heap.size]?=some (.cells #[.slice none 0 0] 26 (0,0)):=m.heap ah id;have af:wc.cell? ⟨b.heap.size,0,none⟩=some (.slice none 0 0):=(qR o rfl);have ag:wc.frozen? ⟨b.heap.size,0,none⟩=false:=(fZ o))))
     | (go_at_call 58;(with_reducible refine(Q.o _ (e.alloc (.cells #[.slice none 0 0] 26)) _ (K.fr0 ((nW e).alloc _)) (j.alloc _)).mono ?_);rintro h wc ⟨q,E,rfl,A,m⟩;obtain⟨xa,xc,rfl,B⟩:=id A;clear B;have d:Fr NoM b wc:=Fr.trans (j.alloc _) m kP;have o:wc.heap[e.heap.size]?=some (.cells #[.slice none 0 0] 26 (0,0)):=m.heap (xJ e _) id;have af:wc.cell? ⟨e.heap.size,0,none⟩=some (.slice none 0 0):=(qR o rfl);have ag:wc.frozen? ⟨e.heap.size,0,none⟩=false:=(fZ o))
     | fail)
   all_goals
    go_wp2_with fail;go_meet
    case rel=>first
     | exact⟨rfl,d.alloc _⟩
     | exact⟨rfl,Fr.setCell d _ _ (λc=>absurd c (Nat.not_lt.2 j.size))⟩
     | exact⟨rfl,Fr.setCell d _ _ (λc=>absurd c (Nat.lt_irrefl _))⟩
     | exact⟨rfl,Fr.setCell (Fr.alloc d _) _ _ (λc=>absurd c (Nat.not_lt.2 d.size))⟩
  case rest =>
  obtain⟨rfl,H⟩:=hcut;have FE:=Hh (C.o.trans H kP);clear H;go_wp2_with fail;go_ret;exact⟨rfl,FE.o⟩
theorem zxa (x:NX)(w:World)(ok:Bool)(i:ok=true↔(x.1=true/\zni x.2)) :
  Calls Tryz.prog 35 #[encX x] w λh D=>h=.returned (.bool ok)/\Fr NoM w D:=by
 obtain⟨k,⟨g,L⟩,e,M⟩:=x;unfold encX;simp only at i ⊢;obtain⟨f,p⟩:=eX (L:Int);obtain⟨j,v⟩:=eX (M:Int);rw[<-p,<-v];obtain⟨o,q⟩:=eX (w.alloc (.cells #[.bool k,.int .i64 g,.int .i64 f,.int .i64 e,.int .i64 j] 62));have H:Fr NoM w o:=by rw[q];exact(nW w).alloc _
 have G:o.heap[w.heap.size]?=some (.cells #[.bool k,.int .i64 g,.int .i64 f,.int .i64 e,.int .i64 j] 62 (0,0)):=by rw[q];exact xJ w _
 have F:=Hh (λa (W:Fr NoM o a)=>show a.cell? ⟨w.heap.size,0,none⟩=some (.bool k)/\a.cell? ⟨w.heap.size,1,none⟩=some (.int .i64 g)/\a.cell? ⟨w.heap.size,2,none⟩=some (.int .i64 f)/\a.cell? ⟨w.heap.size,3,none⟩=some (.int .i64 e)/\a.cell? ⟨w.heap.size,4,none⟩=some (.int .i64 j)from by
  have b:=W.heap G id;exact⟨qR b rfl,qR b rfl,qR b rfl,qR b rfl,qR b rfl⟩)
 obtain⟨s,t⟩:=zk8 g f;obtain⟨r,u⟩:=eX (betw e (-12) 12);obtain⟨O,P,V,Q⟩:=Hhp4 (λ(a:World)=>zmv g f a s t) (λ(a:World)=>show Calls Tryz.prog 55 #[.int .i64 e,.int .i64 (-12),.int .i64 12] a λh D=>h=.returned (.bool r)/\a=D from by rw[u];exact zg0 e (-12) 12 a) (λ(b:k=true) (a:World)=>ybi g f e j L M p v a ok (by rw[i];simp[b])) (λ(b:k=false)=>show ok=false from by cases ok <;> simp_all);have R:=Hh (λ(b:s=false)=>show ok=false from by
  cases n:ok with
  | false=>rfl
  | true =>
   have d:=(i.1 n).2.1;simp only at d;rw[<-p]at d;have:=t.2 d;rw[b]at this;cases this)
 have S:=Hh (λ(b:r=false)=>show ok=false from by
  cases n:ok with
  | false=>rfl
  | true =>
   have d:=(i.1 n).2.2.2.1;simp only at d;have K:r=true:=by rw[u];unfold betw;rw[decide_eq_true_iff];omega
   rw[b]at K;cases K)
 have T:=Hh (λ(b:j>15)=>show ok=false from by
  cases n:ok with
  | false=>rfl
  | true =>
   have d:=(i.1 n).2.2.2.2.1;simp only at d;omega)
 have l:=Hh H;clear H G i t u p v;obtain⟨y,z,A,B,C⟩:=F.o o (Fr.refl _ _);go_enter Tryz.func35,Tryz.ntmps35;go_upto_region 1 with fail;rw[<-q];clear q;cases k with
 | false =>
  have c:=Hh (Q.o rfl);go_wp2_with fail;go_ret;exact⟨by rw[c.o];rfl,l.o⟩
 | true =>
 go_wp2_with fail;(with_reducible refine(O.o o).mono ?_);rintro h E ⟨rfl,I⟩;have m:=Hh I;clear y z A B C I;obtain⟨y,z,A,B,C⟩:=F.o E m.o;cases s with
 | false =>
  have c:=Hh (R.o rfl);go_wp2_with fail;go_ret;exact⟨by rw[c.o];rfl,l.o.trans m.o kP⟩
 | true =>
 go_wp2_with fail;(with_reducible refine(P.o E).mono ?_);rintro h Y ⟨rfl,rfl⟩;cases r with
 | false =>
  have c:=Hh (S.o rfl);go_wp2_with fail;go_ret;exact⟨by rw[c.o];rfl,l.o.trans m.o kP⟩
 | true =>
 by_cases X:j>15
 ·have c:=Hh (T.o X)
  go_wp2_with fail;go_ret;exact⟨by rw[c.o];rfl,l.o.trans m.o kP⟩
 ·have U:=Hh (V.o (by simp) E)
  go_wp2_with fail;(with_reducible refine U.o.mono ?_);rintro h Z ⟨rfl,J⟩;have N:=Hh J;clear J y z A B C;go_wp2_with fail;go_ret;exact⟨rfl,(l.o.trans m.o kP).trans N.o kP⟩
theorem ybc {R:Nat->Prop}(z:Value)(A:List (List Int × List Int))(w:World)(d:NodeL R encI w z A)(g:Bool)(hg:g=true↔zbh A) : Calls Tryz.prog 13 #[.agg #[z]] w λb w'=>yac g A w b w':=by(obtain⟨i,B⟩:=eX ((w.alloc (.cells #[z] 26)).alloc (.cells #[.int .i64 0,.int .i64 0] 29));have G:Fr NoM w i:=by rw[B];exact((nW w).alloc _).alloc _);(have av:i.heap.size=w.heap.size+2:=by rw[B];simp);(have e0:i.heap[w.heap.size]?=some (.cells #[z] 26 (0,0)):=by rw[B];exact((nW _).alloc _).heap (xJ w _) id);have F:i.heap[w.heap.size+1]?=some (.cells #[.int .i64 0,.int .i64 0] 29 (0,0)):=by{have d:=xJ (w.alloc (.cells #[z] 26)) (.cells #[.int .i64 0,.int .i64 0] 29);rw[xZ]at d;rw[B];exact d};have af:=zrr z A i (d.fr0 G);have HN:=Hh (λa (n:Fr NoM i a)=>(d.fr0 G).fr0 n);have HK:=Hh (λa (n:Fr NoM i a)=>show a.cell? ⟨w.heap.size,0,none⟩=some z from by{have h0:=n.heap e0 id;rw[xX _ _ 0 _ _ _ h0];rfl});obtain⟨c,a2⟩:=eX (w.heap.size+1);rw[<-a2]at F;obtain⟨HZ,aa,ac⟩:=Hhp3 (λa (n:Fr NoM i a)=>show(a.cell? ⟨c,0,none⟩=some (.int .i64 0)/\a.cell? ⟨c,1,none⟩=some (.int .i64 0))/\a.frozen? ⟨c,0,none⟩=false/\a.frozen? ⟨c,1,none⟩=false from by{have r:=n.heap F id;exact⟨⟨qR r rfl,qR r rfl⟩,fZ r,fZ r⟩}) (λa (n:Fr NoM i a) (H:NsIs g A ((0,0),0,0) false)=>show yac g A w (.returned (.tuple #[.agg #[.int .i64 0,.int .i64 0],.int .i64 0,.int .i64 0,.bool false])) ((a.setCell ⟨c,0,none⟩ (.int .i64 0)).setCell ⟨c,1,none⟩ (.int .i64 0))from ⟨((0,0),0,0),false,rfl,H,((G.trans n kP).setCell _ _ (λd=>by have d:c<w.heap.size:=d;omega)).setCell _ _ (λd=>by have d:c<w.heap.size:=d;omega)⟩) (show w.heap.size<=c/\c<i.heap.size from by omega);obtain⟨ay,az,rfl,ax⟩:=id d;obtain⟨F1,HG,a8⟩:=Hhp3 G hg af;clear ax d G e0 F av hg af;have I:=HK.o i (Fr.refl _ _);go_enter Tryz.func13,Tryz.ntmps13;go_upto_region 1 with fail;rw[<-B,<-a2];clear B a2;go_wp2_with fail;refine a8.o.mono ?_;rintro b K ⟨a0,rfl,hb,f2⟩;obtain rfl:a0=g:=by{have d:=HG.o;cases a0 <;> cases g <;> simp_all};clear I;have I:=HK.o K f2;have M:=Hh f2;have HB:=Hh hb;clear f2 hb;cases a0 with| false =>{have HE:=Hh (aa.o K M.o (.inr ⟨rfl,rfl,rfl⟩));obtain⟨⟨o,p⟩,J,s⟩:=HZ.o K M.o;go_wp2_with fail;refine yJ (v:=.tuple #[.agg #[.int .i64 0,.int .i64 0],.int .i64 0,.int .i64 0,.bool false]) (by simp[results,Tryz.results13,go_sem,o,p,J,s]) rfl ?_;exact HE.o}| true =>{have T:=HB.o.1 rfl;obtain⟨O,rfl⟩:=zfk T;obtain⟨s,q2,q3,q4,_⟩:=zcd T;have ad:=Hh (zp6 _ O K (HN.o K M.o).ofI q4.opts q3 s q2);obtain⟨x,S⟩:=eX (canC (zas O));obtain⟨b1,b2,b3,b4,b5⟩:=yk0 T x S;rw[<-S]at ad;have a5:=Hh (λ(R':Nat->Prop) (v:Value) (a:World) (hN:NodeL R' encN a v (za8 x))=>yeq b1 v a hN (by omega) b4);obtain⟨f,hm⟩:=eX ((za8 x).length);rw[<-hm]at a5;have ag:(allX (za0 (za8 x)) f)[f-1]?=some (nusX x):=by{have y:=yaa (za0 (za8 x)) (k:=f) (j:=f-1) (by omega);rw[y,hm,b5]};obtain⟨am,a9,a7⟩:=Hhp3 ag (show 0<f/\f<=120 from by omega) S;clear T s q2 q3 q4 b1 b2 b3 b4 b5 S hm ag a8;go_wp2_with fail;(with_reducible refine ad.o.mono ?_);rintro b w3 ⟨v3,rfl,n3,f3⟩;have an:=Hh (a5.o _ v3 w3 n3);have F3:=Hh (M.o.trans f3 kP);clear n3 f3 I;go_wp2_with fail;(with_reducible refine an.o.mono ?_);rintro b L ⟨v4,rfl,h4,f4⟩;obtain⟨a4,c4,rfl,_,_,ae⟩:=id h4;obtain⟨bb,a3,ha,o,p,Y,z3,Z⟩:=ae (f-1) _ am.o;rw[zt7]at *;have ar:0<f:=a9.o.1;have au:f<=120:=a9.o.2;have ix:=ixNX a4 f c4 (f-1) bb a3 (by omega) ha;rw[show((f-1:Nat):Int)=(f:Int)-1 by omega]at ix;have aw:IntKind.i64.wrap ((f:Int)-1)=(f:Int)-1:=(by rw[IntKind.wrap_i64];omega);obtain⟨C,H⟩:=eX (nusX x);rw[<-H]at o p Y z3 Z;obtain⟨aj,a1⟩:∃a3:Bool,(a3=true↔(C.1=true/\zni C.2)):=by{by_cases d:C.1=true/\zni C.2;{exact⟨true,by simp[d]⟩};{exact⟨false,by simp[d]⟩}};obtain⟨P,HX,ab⟩:=Hhp3 (λ(a:World)=>zxa C a aj a1) H a1;obtain⟨X,⟨m,xP⟩,u,xs⟩:=C;unfold encX at P;(try simp only at o p Y z3 Z P);(obtain⟨t,U⟩:=eX ((xP:Int):Int);obtain⟨D,W⟩:=eX ((xs:Int):Int);rw[<-U,<-W]at P;rw[<-U]at Y;rw[<-W]at Z;obtain⟨E,Q⟩:=eX (L.alloc (.cells #[.bool X,.int .i64 m,.int .i64 t,.int .i64 u,.int .i64 D] 62));obtain⟨e,V⟩:=eX L.heap.size;have F5:=Hh ((F3.o.trans f4 kP).trans (show Fr NoM L E by rw[Q];exact(nW L).alloc _) kP);have e5:E.heap[e]?=some (.cells #[.bool X,.int .i64 m,.int .i64 t,.int .i64 u,.int .i64 D] 62 (0,0)):=by rw[Q,V];exact xJ L _);obtain⟨a6,ao,ap,aq⟩:=Hhp4 (λa (n:Fr NoM E a)=>show a.cell? ⟨e,0,none⟩=some (.bool X)/\a.cell? ⟨e,1,none⟩=some (.int .i64 m)/\a.cell? ⟨e,2,none⟩=some (.int .i64 t)/\a.cell? ⟨e,3,none⟩=some (.int .i64 u)/\a.cell? ⟨e,4,none⟩=some (.int .i64 D)from by{have d:=n.heap e5 id;exact⟨qR d rfl,qR d rfl,qR d rfl,qR d rfl,qR d rfl⟩}) (show i.heap.size<=e from by rw[V];have y:=F3.o.size;have r:=f4.size;omega) U W;clear ae ha h4 f4 e5 H a1 ar U W;go_upto_region 5 with fail;rw[<-Q,<-V];clear Q V o p Y z3 Z ix aw au;obtain⟨x0,x1,x2,x3,x4⟩:=a6.o E (Fr.refl _ _);go_wp2_with fail;(with_reducible refine(P.o E).mono ?_);rintro b h ⟨rfl,f6⟩;have N:=Hh (F5.o.trans f6 kP);have ak:=Hh f6;clear f6 x0 x1 x2 x3 x4;cases aj with| false =>{have ah:NsIs true (i2 O) ((0,0),0,0) false:=.inl ⟨rfl,.inr ⟨rfl,rfl,λaA hy ht=>by{rw[zbe,<-a7.o]at hy;have b:=HX.o.trans (zkk hy);obtain⟨e1,F⟩:=Prod.mk.inj b;subst F;exact absurd (ab.o.2 ⟨e1,ht⟩) (by simp)}⟩⟩;have HE:=Hh (aa.o h N.o ah);clear ah;obtain⟨⟨o,p⟩,J,s⟩:=HZ.o h N.o;go_wp2_with fail;refine yJ (v:=.tuple #[.agg #[.int .i64 0,.int .i64 0],.int .i64 0,.int .i64 0,.bool false]) (by simp[results,Tryz.results13,go_sem,o,p,J,s]) rfl ?_;exact HE.o}| true =>{have ai:NsIs true (i2 O) ((m,xP),u,xs) true:=by{obtain⟨y,r⟩:=ab.o.1 rfl;refine .inl ⟨rfl,.inl ⟨rfl,?_,r⟩⟩;rw[zbe,<-a7.o];have b:=HX.o;have y:X=true:=y;rw[y]at b;exact zmm b.symm};have HY:=Hh ai;have HS:=Hh (λa (q:Fr (λl=>l=c) h a)=>show a.cell? ⟨e,1,none⟩=some (.int .i64 m)/\a.cell? ⟨e,2,none⟩=some (.int .i64 t)/\a.cell? ⟨e,3,none⟩=some (.int .i64 u)/\a.cell? ⟨e,4,none⟩=some (.int .i64 D)from by{obtain⟨_,x1,x2,x3,x4⟩:=a6.o h ak.o;have y:=ao.o;have r:=ac.o;exact⟨q.cell x1 (λb=>by have b:e=c:=b;omega),q.cell x2 (λb=>by have b:e=c:=b;omega),q.cell x3 (λb=>by have b:e=c:=b;omega),q.cell x4 (λb=>by have b:e=c:=b;omega)⟩});have I:Fr (λl=>l=c) h h.drew:=(Fr.refl _ h).drew;have HA:=Hh (λa (q:Fr (λl=>l=c) h a)=>((q.setCell ⟨c,0,none⟩ (.int .i64 m) (λ_=>rfl)).setCell ⟨c,1,none⟩ (.int .i64 t) (λ_=>rfl):Fr (λl=>l=c) h ((a.setCell ⟨c,0,none⟩ (.int .i64 m)).setCell ⟨c,1,none⟩ (.int .i64 t))));have al:=Hh (λa (q:Fr (λl=>l=c) h a)=>((F1.o.trans N.o kP).trans q (λl hq b=>by have b:l=c:=b;have:=ac.o;omega):Fr NoM w a));have k1:=HA.o h (Fr.refl _ _);have k2:=HA.o h.drew I;have k3:=k1.drew;clear ai;obtain⟨⟨o,p⟩,J,s⟩:=HZ.o h N.o;go_upto_region 7 with fail;go_region_held3 (λ(a:World)=>a.cell? ⟨e,1,none⟩=some (.int .i64 m)/\a.cell? ⟨e,2,none⟩=some (.int .i64 t)/\a.cell? ⟨e,3,none⟩=some (.int .i64 u)/\a.cell? ⟨e,4,none⟩=some (.int .i64 D)) (exact HS.o _ (‹_›)) (first|fail);all_goals(go_wp2_with fail;refine yJ (v:=.tuple #[.agg #[.int .i64 m,.int .i64 t],.int .i64 u,.int .i64 D,.bool true]) (by simp[results,Tryz.results13,go_sem,o,p,J,s]) rfl ?_;exact⟨((m,xP),u,xs),true,by rw[ap.o,aq.o],HY.o,al.o _ (‹_›)⟩)}}
noncomputable def xAt (a:List PL)(k:Nat):Nat:=canC ((za0 a).getD k 0)
def yox (x y:Int × Nat):Bool:=decide (x.1*2^(16-x.2)<y.1*2^(16-y.2))
def ynz (a:Bool)(s y:Int × Nat):Bool:=if a=true then yox s y else yox y s
def yp8 (a:Bool)(s y:Int × Nat):Int × Nat:=if ynz a s y=true then y else s
def yoy (a:Bool):List (Int × Nat)->Int × Nat
 | []=>(0,0)
 | x::b=>b.foldl (yp8 a) x
abbrev DyP:=(Int × Nat) × (Int × Nat)
noncomputable def yma (a:List PL)(A:List DyP)(k:Nat):DyP :=
 if isNB (xAt a k)=true then (valD (xAt a k),valD (xAt a k))
 else (yoy true ((za5 a k).1.map λb=>(A.getD b ((0,0),(0,0))).2),yoy false ((za5 a k).2.map λb=>(A.getD b ((0,0),(0,0))).1))
noncomputable def stL (a:List PL):Nat->List DyP
 | 0=>[]
 | k+1=>stL a k ++ [yma a (stL a k) k]
noncomputable def sL (a:List PL)(k:Nat):Int × Nat:=(yma a (stL a k) k).1
noncomputable def sR (a:List PL)(k:Nat):Int × Nat:=(yma a (stL a k) k).2
theorem yhz (n:Nat)(k:n<1000000000)(a:World):(Instr.makeSlice 111 (.int .i64 (n:Int)) (.int .i64 (n:Int))).run Tryz.prog a=.ok (.slice (some ⟨a.heap.size,0,none⟩) n n) (a.alloc (.cells (zcx encB false n) 4)):=by obtain⟨i,d,e,f,g⟩:=info_parts znv;have b:=run_make (P:=Tryz.prog) a 111 4 i (.bool false) Tryz.underlying111 d e .i64 .i64 (n:Int) (n:Int) (by omega) (by omega) (by rw[g];omega) (by omega);rw[b,f,show((n:Int)).toNat=n from by omega,Nat.mul_one];have:madeCells (Value.cells (.bool false)) n=(zcx encB false n):=by{apply Array.ext';unfold zcx;rw[List.toList_toArray,madeCells,Array.toList_map,Array.toList_range];refine(List.eq_replicate_iff.2 ⟨by simp,λj c=>?_⟩:_=List.replicate n (Value.bool false)).trans (by simp[encB]);obtain⟨h,_,rfl⟩:=y8.1 c;show(Value.cells (.bool false))[h%(Value.cells (.bool false)).size]! = .bool false;rw[show(Value.cells (.bool false)).size=1 from rfl,Nat.mod_one];rfl};rw[this]
section
variable {W W':World}{g n k:Nat}{f:Nat->Int × Nat}{o:Option (Int × Nat)}{M:Nat->Prop}
end
section
variable {W W':World}{g n k:Nat}{F:List PL}{M:Nat->Prop}
end
