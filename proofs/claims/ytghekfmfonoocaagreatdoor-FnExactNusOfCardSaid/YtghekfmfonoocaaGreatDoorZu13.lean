import Derived.Test.YtghekfmfonoocaaGreatDoorZuw
/- Lemmas. -/
set_option linter.all false
set_option maxHeartbeats 8000000
set_option maxRecDepth 8000
namespace Go.Proofs.YtghekfmfonoocaaGreatDoor
open Go.RowKit
theorem zhu (O:Value)(A:List NX)(w:World)(U:Fives w O A)(V:∀a5∈A,zgd a5)(T:A.length<=1000000) :
  Calls Tryz.prog 77 #[O] w λe w'=>yc9 w (zcr A) e w':=by
 obtain⟨w1,l⟩:=eX (w.alloc (.cells #[] 62));have HF:=Hh (show Fr NoM w w1 from by rw[l];exact(nW w).alloc _);have HR:=Hh (show w1.ownsRow w.heap.size 62 5 (.slice (some ⟨w.heap.size,0,none⟩) 0 0) 0 (ze8 (zcr (A.take 0)))from by
  rw[l];exact yW w #[] 0 (xW _) (by decide) (by simp))
 obtain⟨N,ac,rfl,_,_,Y⟩:=id U;have HA:=Hh (λ(a:Nat) (b:NX) (m:A[a]?=some b)=>show zgd b/\∃d f,N=some ⟨d,f,none⟩/\∀c,Fr NoM w c->c.cell? ⟨d,f+a*5,none⟩=some (.bool b.1)/\c.cell? ⟨d,f+a*5+1,none⟩=some (.int .i64 b.2.1.1) ∧
   c.cell? ⟨d,f+a*5+2,none⟩=some (.int .i64 (b.2.1.2:Int))/\c.cell? ⟨d,f+a*5+3,none⟩=some (.int .i64 b.2.2.1)/\c.cell? ⟨d,f+a*5+4,none⟩=some (.int .i64 (b.2.2.2:Int))from by
  obtain⟨d,f,ha,P,B,Q,C,R⟩:=Y a b m;refine⟨V b (xK m),d,f,ha,λc r=>?_⟩;exact⟨r.cell P id,r.cell B id,r.cell Q id,r.cell C id,r.cell R id⟩)
 have I:=Hh T;clear U Y V T;obtain⟨i,G⟩:=eX A.length;rw[<-G]at I ⊢;have L:=Hh G;clear G;go_enter Tryz.func77,Tryz.ntmps77;go_upto_region 2 with fail;rw[<-l];have HW:=Hh l;clear l;go_wp2_with fail;go_loopw [3,4] (λv3 H wr=>∃(x:Value) (a:Nat),x=v3/\H=.int .i64 (a:Int)/\a<=i/\wr.ownsRow w.heap.size 62 5 x a (ze8 (zcr (A.take a)))/\Fr NoM w wr) (λ_ H _=>i-(intOf H).toNat)
 case atStart=>exact⟨_,0,rfl,rfl,yK _,HR.o,HF.o⟩
 case round =>
  obtain⟨x,a,rfl,rfl,hk,v,k⟩:=hrel;by_cases t:a<i
  ·obtain⟨b,m⟩:∃b,A[a]?=some b:=⟨_,xQ (show a<A.length by have:=L.o;omega)⟩
   obtain⟨⟨Z,a0,_⟩,j,o,W,X⟩:=HA.o a b m;have p:=Hh X;obtain⟨P,B,Q,C,R⟩:=p.o wr k;obtain⟨z,F⟩:=eX b.2.1.1;obtain⟨u,E⟩:=eX b.2.2.1;rw[<-F]at Z p B;rw[<-E]at a0 p C;have l:IntKind.i64.wrap (-u)=-u:=(by rw[IntKind.wrap_i64];omega);have a2:=Hh (λ(c:World)=>zgm z (b.2.1.2:Int) c (by omega));have a7:=ixNX N i ac a j o t W;have aL:(a:Int)<(i:Int):=by omega
   have a6:i<=1000000:=I.o;obtain⟨q,g,HY,J,K,a3,a1⟩:=Hhp7 v k m t (And.intro F E) (show w.heap.size<=wr.heap.size from k.size) (show(a+1)*40<=140737488355328 by omega);clear v k m X hk W t F E Z a0;go_upto_region 5 with fail;have K0:Fr NoM w wr:=g.o;have K1:Fr NoM w wr.drew:=g.o.drew;go_region_held3 (λ(c:World)=>c.cell? ⟨j,o+a*5,none⟩=some (.bool b.1)/\c.cell? ⟨j,o+a*5+1,none⟩=some (.int .i64 z)/\c.cell? ⟨j,o+a*5+2,none⟩=some (.int .i64 (b.2.1.2:Int))/\c.cell? ⟨j,o+a*5+3,none⟩=some (.int .i64 u)/\c.cell? ⟨j,o+a*5+4,none⟩=some (.int .i64 (b.2.2.2:Int)))
    (first|exact p.o _ (‹_›)|exact p.o _ (Fr.alloc (‹_›) _))
    (first
     | ((refine zof rfl (.tmp 12) (.tmp 36) 58 rfl w.heap.size 62 _ 5 40 Tryz.underlying58 zru rfl (by decide) x a (ze8 (zcr (A.take a))) rfl (by exact za3 q.o (h.alloc _) kP) y.heap.size rfl [.bool b.1,.int .i64 (-z),.int .i64 (b.2.1.2:Int),.int .i64 (-u),.int .i64 (b.2.2.2:Int)] 62 (xJ y _) rfl (by intro a8 hu;simp at hu;rcases hu with rfl|rfl|rfl|rfl|rfl <;> rfl) a1.o (by decide) (by have:=a3.o;have:=h.size;simp;omega) ?_);(intro v' w7 s D s7);(have K7:Fr NoM w w7:=Fr.own (e:=62) (size:=5) (n:=a) (xs:=ze8 (zcr (A.take a))) (g.o.trans (h.alloc _) kP) (za3 q.o (h.alloc _) kP) D))
     | ((go_simp;go_at_call 122);(with_reducible refine(a2.o _).mono ?_);(rintro e y ⟨rfl,fd⟩);(have h:Fr NoM wr y:=Fr.trans (by first|exact Fr.refl _ _|exact(nW wr).drew) fd kP);(have kw:Fr NoM w y:=g.o.trans h kP))
     | fail)
   all_goals
    obtain⟨H7,F7,M⟩:=Hhp3 s D h;clear s D s7 h;go_wp2;go_roundw
    case rel =>
     have t:=J.o;have s:=H7.o;refine⟨v',a+1,rfl,by go_num,by omega,?_,?_⟩
     ·rw[yan A HY.o,zmz];rw[K.o.1,K.o.2]at s;exact s
     ·exact Fr.own (e:=62) (size:=5) (n:=a) (xs:=ze8 (zcr (A.take a))) (g.o.trans (M.o.alloc _) kP) (za3 q.o (M.o.alloc _) kP) F7.o
    case measure=>have t:=J.o;simp[intOf];omega
  ·have a4:a=i:=by omega
   subst a4;have aL:¬(a:Int)<(a:Int):=by omega
   have q:=Hh v;have g:=Hh k;clear v k;go_wp2;have e:A.take a=A:=by rw[L.o];exact y7
   have S:=q.o;rw[e]at S;go_ret;exact⟨_,rfl,Fives.of_owns S,g.o⟩
noncomputable def valV (c:Nat):Value:=.agg #[.int .i64 (valD c).1,.int .i64 ((valD c).2:Int)]
theorem zx8 {c:Nat}(b:isNB c=true){s:Int}{N:Nat}(e:redT s N=valT c):(valB c=true↔GoodD (redT s N).1 (redT s N).2)/\lowT s N (valB c)=valV c:=by have d:=(zxe b).good;rw[e];refine⟨d,?_⟩;unfold lowT valV;rw[e];cases a:valB c with| true=>rw[if_pos rfl];unfold valD;rw[if_pos a]| false=>rw[zeq a];rfl
theorem zy4 {c l:Nat}(f:isNB c=true)(k:hasL c l)(i:∀m,¬hasR c m):(valB l=false->valB c=false)/\(valB l=true->redT ((valD l).1*2^(16-(valD l).2)+1*2^(16-0)) 16=valT c):=by obtain⟨a,n,e,d⟩:=zy6 f k i;constructor;{intro b;cases j:valB c with| false=>rfl| true =>{have g:=e.good.1 j;have h:GoodD (a-1) (0:Nat):=⟨by have:=g.1;omega,by decide,.inl rfl⟩;rw[d.good.2 h]at b;cases b}};{intro b;rw[(d.goodD (d.good.1 b)).2,e.val];have:=zcy 16 0 a;rw[show(a-1,0).1*2^(16-(a-1,0).2)+1*2^(16-0)=a*2^16 from by simp only[Nat.sub_zero];omega];rw[show 16=0+16 from rfl,this];rfl}
theorem zy3 {c r:Nat}(h:isNB c=true)(hr:hasR c r)(hL:∀l,¬hasL c l):(valB r=false->valB c=false)/\(valB r=true->redT ((valD r).1*2^(16-(valD r).2) + -1*2^(16-0)) 16=valT c):=by obtain⟨k,k0,v1,v2⟩:=ztb h hr hL;constructor;{intro e;cases hc:valB c with| false=>rfl| true =>{have h1:=v1.good.1 hc;have h2:GoodD (k+1) (0:Nat):=⟨by have:=h1.1;omega,by decide,.inl rfl⟩;rw[v2.good.2 h2]at e;cases e}};{intro e;rw[(v2.goodD (v2.good.1 e)).2,v1.val];have:=zcy 16 0 k;rw[show(k+1,0).1*2^(16-(k+1,0).2) + -1*2^(16-0)=k*2^16 from by simp only[Nat.sub_zero];omega];rw[show 16=0+16 from rfl,this];rfl}
theorem zo6 {c l r:Nat}(m:isNB c=true)(o:hasL c l)(p:hasR c r):(valB l=false\/valB r=false->valB c=false)/\(valB l=true->valB r=true->redT ((valD l).1*2^(16-(valD l).2)+(valD r).1*2^(16-(valD r).2)) 17=valT c):=by obtain⟨s,q,i,h,g,e,f⟩:=zy7 m o p;constructor;{intro a;cases n:valB c with| false=>rfl| true =>{obtain⟨b,d⟩:=ycf h g (i.good.1 n);rcases a with a|a;{rw[e.good.2 b]at a;cases a};{rw[f.good.2 d]at a;cases a}}};{intro j k;have b:=e.good.1 j;have d:=f.good.1 k;rw[(e.goodD b).2,(f.goodD d).2,i.val];exact(ycg h g b d).2}
theorem zy2 {c:Nat}(a:isNB c=true)(b:∀e,¬hasL c e)(d:∀f,¬hasR c f):valB c=true/\valD c=(0,0) :=
 (yg7 a b d).goodD ⟨by decide,by decide,.inl rfl⟩
theorem zmc {c:Nat}(a:isNB c=false):valB c=false:=by unfold valB;rw[a];rfl
theorem eqNX (x y:NX)(w:World):(binOp .eql 62 (encX x) (encX y)).run Tryz.prog w=.ok (.bool (decide (x=y))) w:=by
 obtain⟨e,⟨o,a⟩,m,c⟩:=x;obtain⟨f,⟨p,b⟩,n,d⟩:=y;unfold encX;go_simp;have l:((a:Int)=(b:Int))↔a=b:=by omega
 have i2:((c:Int)=(d:Int))↔c=d:=by omega
 simp only[l,i2];by_cases g:e=f <;> by_cases h:o=p <;> by_cases i:a=b <;> by_cases j:m=n <;> by_cases k:c=d <;> simp[g,h,i,j,k]
theorem zsv {L:List NX}{k:Nat}{y z:NX}(a:L[k]?=some y):z∈L.take (k+1)↔z∈L.take k\/y=z:=by rw[List.take_add_one,a,y6];simp[eq_comm]
theorem zp5 (lv:Value)(L:List NX)(T:Int)(P:Nat)(w:World)(hL:Fives w lv L)(h9:L.length<=1000000)(d:Bool)(hb:d=zcs L (T,P)) :
  Calls Tryz.prog 125 #[lv,.agg #[.int .i64 T,.int .i64 (P:Int)]] w λp w'=>p=.returned (.bool d)/\Fr NoM w w':=by
 obtain⟨m,y⟩:=eX (w.alloc (.cells #[.int .i64 T,.int .i64 (P:Int)] 29));have Q:Fr NoM w m:=by rw[y];exact(nW w).alloc _
 have e1:m.heap[w.heap.size]?=some (.cells #[.int .i64 T,.int .i64 (P:Int)] 29 (0,0)):=by rw[y];exact xJ w _
 have HD:=Hh (λc (e:Fr NoM m c)=>show c.cell? ⟨w.heap.size,0,none⟩=some (.int .i64 T)/\c.cell? ⟨w.heap.size,1,none⟩=some (.int .i64 (P:Int))from by
  have h1:=e.heap e1 id;exact⟨qR h1 rfl,qR h1 rfl⟩)
 obtain⟨la,lc,rfl,_,_,a2⟩:=id hL;have HL:=Hh (λ(a:Nat) (g:NX) (hx:L[a]?=some g)=>show ∃d k,la=some ⟨d,k,none⟩/\∀c,Fr NoM m c->c.cell? ⟨d,k+a*5,none⟩=some (.bool g.1)/\c.cell? ⟨d,k+a*5+1,none⟩=some (.int .i64 g.2.1.1) ∧
   c.cell? ⟨d,k+a*5+2,none⟩=some (.int .i64 (g.2.1.2:Int))/\c.cell? ⟨d,k+a*5+3,none⟩=some (.int .i64 g.2.2.1)/\c.cell? ⟨d,k+a*5+4,none⟩=some (.int .i64 (g.2.2.2:Int))from by
  obtain⟨d,k,ha,J,K,M,N,O⟩:=a2 a g hx;refine⟨d,k,ha,λc f'=>?_⟩;have e:=Q.trans f' kP;exact⟨e.cell J id,e.cell K id,e.cell M id,e.cell N id,e.cell O id⟩)
 obtain⟨Y,Z,HB⟩:=Hhp3 Q h9 hb;clear hL a2 h9 Q e1 hb;obtain⟨f,S⟩:=eX L.length;rw[<-S]at Z ⊢;have s:=Hh S;clear S;go_enter Tryz.func125,Tryz.ntmps125;go_upto_region 1 with fail;rw[<-y];clear y;go_wp2_with fail;go_loopw [5] (λW wr=>∃(b:Nat),W=.int .i64 (b:Int)/\b<=f/\(∀l,l<b->(true,(T,P),(0:Int),l)∈L)/\Fr NoM m wr) (λW _=>f-(intOf W).toNat)
 case atStart=>exact⟨0,rfl,yK _,λl hj=>absurd hj (Nat.not_lt_zero _),Fr.refl _ _⟩
 case round =>
  obtain⟨b,rfl,hi,x,h⟩:=hrel;obtain⟨w5,rfl⟩:=eX wr;by_cases j:b<f
  ·have aL:(b:Int)<(f:Int):=by omega
   have a7:f<=1000000:=Z.o;obtain⟨F,D,G⟩:=Hhp3 h x j;clear h x j hi;go_wp2_with fail;go_loopw [6,7] (λv6 X wr=>∃(a:Nat) (e:Bool),v6=.bool e/\X=.int .i64 (a:Int)/\a<=f/\(e=true↔(true,(T,P),(0:Int),b)∈L.take a)/\Fr NoM m wr) (λ_ X _=>f-(intOf X).toNat)
   case atStart=>exact⟨0,false,rfl,rfl,yK _,(by simp),F.o⟩
   case round =>
    obtain⟨a,e,rfl,rfl,hk,q,h⟩:=hrel;obtain⟨w6,rfl⟩:=eX wr;by_cases R:a<f
    ·obtain⟨g,A⟩:∃g,L[a]?=some g:=⟨_,xQ (show a<L.length by have:=s.o;omega)⟩
     obtain⟨b1,o1,a0,a1⟩:=HL.o a g A;obtain⟨J,K,M,N,O⟩:=a1 w6 h;obtain⟨d1,d2⟩:=HD.o w6 h;have a8:=ixNX la f lc a b1 o1 R a0;have bL:(a:Int)<(f:Int):=by omega
     obtain⟨o,n,HY,r,I⟩:=Hhp5 h q A R (zsv (z:=(true,(T,P),(0:Int),b)) A);clear h q A R a1 hk a0;cases e with
     | true =>
      have H:=Hh (n.o.1 rfl);go_wp2_with fail;go_quiet (fail);go_wp2;go_roundw
      case rel=>have j:=r.o;exact⟨a+1,true,rfl,by go_num,by omega,⟨λ_=>I.o.2 (.inl H.o),λ_=>rfl⟩,o.o.trans (zdp _ _) kP⟩
      case measure=>have j:=r.o;simp[intOf];omega
     | false =>
      have a3:=Hh (show ¬(true,(T,P),(0:Int),b)∈L.take a from λi=>by have:=n.o.2 i;cases this);obtain⟨v,⟨u,t⟩,B,C⟩:=g;simp only at J K M N O;obtain⟨V,U⟩:=eX (decide (((v,(u,t),B,C):NX)=(true,(T,P),(0:Int),b)):Bool);have a6:∀c:World,(binOp .eql 62 (.agg #[.bool v,.int .i64 u,.int .i64 (t:Int),.int .i64 B,.int .i64 (C:Int)]) (.agg #[.bool true,.int .i64 T,.int .i64 (P:Int),.int .i64 0,.int .i64 (b:Int)])).run Tryz.prog c=.ok (.bool V) c:=λc=>by rw[U];exact eqNX (v,(u,t),B,C) (true,(T,P),0,b) c
      have HQ:=Hh (show V=true↔((v,(u,t),B,C):NX)=(true,(T,P),(0:Int),b)from by rw[U,decide_eq_true_iff]);clear U;go_wp2_with fail;go_quiet (fail);go_wp2;go_roundw
      case rel=>have j:=r.o;exact⟨a+1,V,rfl,by go_num,by omega,HQ.o.trans ⟨λp=>I.o.2 (.inr p),λi=>(I.o.1 i).elim (λi=>absurd i a3.o) id⟩,o.o.trans (zdp _ _) kP⟩
      case measure=>have j:=r.o;simp[intOf];omega
    ·have a5:a=f:=by omega
     subst a5;have bL:¬(a:Int)<(a:Int):=by omega
     have ek:L.take a=L:=by rw[s.o];exact y7
     rw[ek]at q;have o:=Hh h;have n:=Hh q;clear h q ek hk;cases e with
     | true =>
      have H:=Hh (n.o.1 rfl);go_wp2;go_roundw
      case rel =>
       have j:=G.o;refine⟨b+1,by go_num,by omega,λl hj=>?_,o.o⟩;by_cases p:l=b
       ·rw[p];exact H.o
       ·exact D.o l (by omega)
      case measure=>have j:=G.o;simp[intOf];omega
     | false =>
      have E:=Hh (show d=false from by
       rw[HB.o];refine vV λi=>?_
       have:=n.o.2 (i.2 b (by rw[<-s.o];exact G.o));cases this)
      go_wp2;go_ret;exact⟨by rw[E.o];rfl,Y.o.trans o.o kP⟩
  ·have a4:b=f:=by omega
   subst a4;have aL:¬(b:Int)<(b:Int):=by omega
   have F:=Hh h;have D:=Hh x;have E:=Hh (show d=decide (0<b)from by
    rw[HB.o];unfold zcs;rw[<-s.o,decide_eq_decide];exact⟨λi=>by have:=i.1;omega,λi=>⟨by omega,D.o⟩⟩)
   clear h x hi;go_wp2;go_ret;exact⟨by rw[E.o];rfl,Y.o.trans F.o kP⟩
theorem yn5 {L R:List NX}(a:L.length=0):zci L R=nx0:=by unfold zci;rw[if_pos (.inl a)]
theorem yn4 {L R:List NX}(a:R.length=0):zci L R=nx0:=by unfold zci;rw[if_pos (.inr (.inl a))]
theorem yn3 {L R:List NX}(a:(zan L).1=false):zci L R=nx0:=by unfold zci;rw[if_pos (.inr (.inr (.inl a)))]
theorem yn2 {L R:List NX}(a:(zan R).1=false):zci L R=nx0:=by unfold zci;rw[if_pos (.inr (.inr (.inr (.inl a))))]
theorem yn1 {L R:List NX}(a:(zan L).2.1≠(zan R).2.1):zci L R=nx0:=by unfold zci;rw[if_pos (.inr (.inr (.inr (.inr a))))]
def zok (n m:Nat)(d:Int × Nat)(y:NX)(t1 t2:Bool):NX :=
 if t1=false then nx0
 else if n=m/\t2=true then (true,d,0,n)
 else if n=2/\m=1/\y=(true,d,0,0)then (true,d,1,1)
 else if n=1/\m=1/\0<=y.2.2.1 then (true,d,y.2.2.1+1,y.2.2.2 ^^^ 1)
 else nx0
theorem ybg {L R:List NX}(b:L.length≠0)(c:R.length≠0)(d:(zan L).1=true)(e:(zan R).1=true)(f:(zan L).2.1=(zan R).2.1):zci L R=zok L.length R.length (zan L).2.1 (zan R) (zcs L (zan L).2.1) (zcs R (zan L).2.1):=by unfold zci;rw[if_neg (by{rintro(a|a|a|a|a);{exact b a};{exact c a};{rw[d]at a;cases a};{rw[e]at a;cases a};{exact a f}})];rfl
theorem ixN0 (a:Option Addr)(n c b d:Nat)(g:0<n)(f:a=some ⟨b,d,none⟩)(w:World) : (Instr.indexAt 58 (.slice a n c) (.int .i64 0)).run Tryz.prog w=.ok (.pointer (some ⟨b,d,none⟩)) w:=by have e:=ixNX a n c 0 b d g f w;rw[Nat.zero_mul,Nat.add_zero]at e;exact e
theorem yp5 (t b:Int)(p a:Nat)(w:World):(binOp .neq 29 (.agg #[.int .i64 t,.int .i64 (p:Int)]) (.agg #[.int .i64 b,.int .i64 (a:Int)])).run Tryz.prog w=.ok (.bool (decide (¬(t,p)=(b,a)))) w:=by(go_simp;have e:((p:Int)=(a:Int))↔p=a:=by omega);simp only[e];by_cases c:t=b <;> by_cases d:p=a <;> simp[c,d]
theorem zzt {L:List NX}(a:L.length≠0):L[0]?=some (zan L):=by cases L with| nil=>exact absurd rfl a| cons b L=>rfl
theorem zrp (lv rv:Value)(L R:List NX)(w:World)(hL:Fives w lv L)(hR:Fives w rv R)(h9:L.length<=1000000)(k9:R.length<=1000000)(hS:∀aj∈R,zgd aj) :
  Calls Tryz.prog 76 #[lv,rv] w λE w'=>E=.returned (encX (zci L R))/\Fr NoM w w':=by
 obtain⟨B,ac⟩:=eX (w.alloc (.cells #[.bool false,.int .i64 0,.int .i64 0,.int .i64 0,.int .i64 0] 62));have f1:Fr NoM w B:=by rw[ac];exact(nW w).alloc _
 have e1:B.heap[w.heap.size]?=some (.cells #[.bool false,.int .i64 0,.int .i64 0,.int .i64 0,.int .i64 0] 62 (0,0)):=by rw[ac];exact xJ w _
 have a5:=Hh (λa (e:Fr NoM B a)=>show(a.cell? ⟨w.heap.size,0,none⟩=some (.bool false)/\a.cell? ⟨w.heap.size,1,none⟩=some (.int .i64 0)/\a.cell? ⟨w.heap.size,2,none⟩=some (.int .i64 0)/\a.cell? ⟨w.heap.size,3,none⟩=some (.int .i64 0)/\a.cell? ⟨w.heap.size,4,none⟩=some (.int .i64 0)) ∧
   a.frozen? ⟨w.heap.size,0,none⟩=false/\a.frozen? ⟨w.heap.size,1,none⟩=false/\a.frozen? ⟨w.heap.size,2,none⟩=false/\a.frozen? ⟨w.heap.size,3,none⟩=false/\a.frozen? ⟨w.heap.size,4,none⟩=false from by
  have d:=e.heap e1 id;exact⟨⟨qR d rfl,qR d rfl,qR d rfl,qR d rfl,qR d rfl⟩,fZ d,fZ d,fZ d,fZ d,fZ d⟩)
 obtain⟨c,ae,af⟩:=Hhp3 (λ(a:World) (y0 y1 y2 y3 y4:Value) (e:Fr NoM B a)=>(((((((f1.trans e kP).setCell ⟨w.heap.size,0,none⟩ y0 (λC=>by have C:w.heap.size<w.heap.size:=C;omega)).setCell ⟨w.heap.size,1,none⟩ y1 (λC=>by have C:w.heap.size<w.heap.size:=C;omega)).setCell ⟨w.heap.size,2,none⟩ y2 (λC=>by have C:w.heap.size<w.heap.size:=C;omega)).setCell ⟨w.heap.size,3,none⟩ y3 (λC=>by have C:w.heap.size<w.heap.size:=C;omega)).setCell ⟨w.heap.size,4,none⟩ y4 (λC=>by have C:w.heap.size<w.heap.size:=C;omega)):Fr NoM w (((((a.setCell ⟨w.heap.size,0,none⟩ y0).setCell ⟨w.heap.size,1,none⟩ y1).setCell ⟨w.heap.size,2,none⟩ y2).setCell ⟨w.heap.size,3,none⟩ y3).setCell ⟨w.heap.size,4,none⟩ y4))) (λa (e:Fr NoM B a) (a3:Int) (a0:Nat) (j:Bool) (hb:j=zcs L (a3,a0))=>zp5 lv L a3 a0 a (hL.fr0 (f1.trans e kP)) h9 j hb) (λa (e:Fr NoM B a) (a3:Int) (a0:Nat) (j:Bool) (hb:j=zcs R (a3,a0))=>zp5 rv R a3 a0 a (hR.fr0 (f1.trans e kP)) k9 j hb);obtain⟨la,lc,rfl,_,_,av⟩:=id hL;obtain⟨ra,rc,rfl,_,_,aw⟩:=id hR;have HL:=Hh (λ(V:L.length≠0)=>show ∃j A,la=some ⟨j,A,none⟩/\∀a,Fr NoM B a->a.cell? ⟨j,A,none⟩=some (.bool (zan L).1)/\a.cell? ⟨j,A+1,none⟩=some (.int .i64 (zan L).2.1.1) ∧
   a.cell? ⟨j,A+2,none⟩=some (.int .i64 ((zan L).2.1.2:Int))/\a.cell? ⟨j,A+3,none⟩=some (.int .i64 (zan L).2.2.1)/\a.cell? ⟨j,A+4,none⟩=some (.int .i64 ((zan L).2.2.2:Int))from by
  obtain⟨j,A,ha,J,M,N,c4,c5⟩:=av 0 _ (zzt V);rw[Nat.zero_mul,Nat.add_zero]at J M N c4 c5;refine⟨j,A,ha,λa f'=>?_⟩;have e:=f1.trans f' kP;exact⟨e.cell J id,e.cell M id,e.cell N id,e.cell c4 id,e.cell c5 id⟩)
 have HR:=Hh (λ(V:R.length≠0)=>show ∃j A,ra=some ⟨j,A,none⟩/\zgd (zan R)/\j<w.heap.size/\∀a,Fr NoM B a->a.cell? ⟨j,A,none⟩=some (.bool (zan R).1)/\a.cell? ⟨j,A+1,none⟩=some (.int .i64 (zan R).2.1.1) ∧
   a.cell? ⟨j,A+2,none⟩=some (.int .i64 ((zan R).2.1.2:Int))/\a.cell? ⟨j,A+3,none⟩=some (.int .i64 (zan R).2.2.1)/\a.cell? ⟨j,A+4,none⟩=some (.int .i64 ((zan R).2.2.2:Int))from by
  obtain⟨j,A,ha,J,M,N,c4,c5⟩:=aw 0 _ (zzt V);rw[Nat.zero_mul,Nat.add_zero]at J M N c4 c5;refine⟨j,A,ha,hS _ (zzs V),World.block_lt_of_cell? w _ J,λa f'=>?_⟩;have e:=f1.trans f' kP;exact⟨e.cell J id,e.cell M id,e.cell N id,e.cell c4 id,e.cell c5 id⟩)
 have H9:=Hh (And.intro h9 k9);have aH:=Hh (show w.heap.size<B.heap.size from(yZ.1 e1).1);clear hL hR av aw h9 k9 f1 e1 hS;obtain⟨i,hn⟩:=eX L.length;obtain⟨G,hm⟩:=eX R.length;rw[<-hn]at H9 HL ae ⊢;rw[<-hm]at H9 HR af ⊢;have Hn:=Hh hn;have Hm:=Hh hm;clear hn hm;obtain⟨z,hz⟩:=eX (zci L R);rw[<-hz];have W:=Hh hz;clear hz;obtain⟨⟨q,r,s,t,u⟩,l,m,n,o,p⟩:=a5.o B (Fr.refl _ _);go_enter Tryz.func76,Tryz.ntmps76;go_upto_region 1 with fail;rw[<-ac];clear ac;by_cases l0:i=0
 ·have a1:((i:Int) == 0)=true:=by rw[l0];rfl
  have f:=Hh (show z=nx0 from by rw[W.o];exact yn5 (by rw[<-Hn.o];exact l0));go_wp2_with fail;go_quiet (fail);go_wp2_with fail;refine yJ (v:=encX nx0) (by simp[results,Tryz.results76,go_sem,q,r,s,t,u,l,m,n,o,p,encX,nx0]) rfl ?_
  exact⟨by rw[f.o],by first|exact c.o _ _ _ _ _ _ (Fr.refl _ _)|exact c.o _ _ _ _ _ _ (zdp _ _)|exact c.o _ _ _ _ _ _ (‹_›)⟩
 by_cases m0:G=0
 ·have a1:((i:Int) == 0)=false:=by rw[beq_eq_false_iff_ne];omega
  have a2:((G:Int) == 0)=true:=by rw[m0];rfl
  have f:=Hh (show z=nx0 from by rw[W.o];exact yn4 (by rw[<-Hm.o];exact m0));go_wp2_with fail;go_quiet (fail);go_wp2_with fail;refine yJ (v:=encX nx0) (by simp[results,Tryz.results76,go_sem,q,r,s,t,u,l,m,n,o,p,encX,nx0]) rfl ?_
  exact⟨by rw[f.o],by first|exact c.o _ _ _ _ _ _ (Fr.refl _ _)|exact c.o _ _ _ _ _ _ (zdp _ _)|exact c.o _ _ _ _ _ _ (‹_›)⟩
 have a1:((i:Int) == 0)=false:=by rw[beq_eq_false_iff_ne];omega
 have a2:((G:Int) == 0)=false:=by rw[beq_eq_false_iff_ne];omega
 obtain⟨b1,o1,aq,aa⟩:=HL.o l0;obtain⟨X,o2,ar,Z,au,ab⟩:=HR.o m0;have aO:=ixN0 la i lc b1 o1 (by omega) aq;have aP:=ixN0 ra G rc X o2 (by omega) ar;have HX:=Hh (show zan L=zan L from rfl);obtain⟨aj,V⟩:=eX (zan L);obtain⟨aJ,hy⟩:=eX (zan R);rw[<-V]at aa;rw[<-hy]at ab Z;obtain⟨g1,⟨h,g⟩,n1,s1⟩:=aj;obtain⟨g2,⟨P,O⟩,y,H⟩:=aJ;obtain⟨aA,ad,Hx,Hy,aD,aE⟩:=Hhp6 aa ab V hy Z au;obtain⟨J,M,N,_,_⟩:=aa B (Fr.refl _ _);obtain⟨Q,S,d3,d4,d5⟩:=ab B (Fr.refl _ _);simp only at J M N Q S d3 d4 d5;clear aa ab aq ar V hy Z au HX;cases g1 with
 | false =>
  have f:=Hh (show z=nx0 from by rw[W.o];exact yn3 (by rw[<-Hx.o]));go_wp2_with fail;go_quiet (fail);go_wp2_with fail;refine yJ (v:=encX nx0) (by simp[results,Tryz.results76,go_sem,q,r,s,t,u,l,m,n,o,p,encX,nx0]) rfl ?_
  exact⟨by rw[f.o],by first|exact c.o _ _ _ _ _ _ (Fr.refl _ _)|exact c.o _ _ _ _ _ _ (zdp _ _)|exact c.o _ _ _ _ _ _ (‹_›)⟩
 | true =>
 cases g2 with
 | false =>
  have f:=Hh (show z=nx0 from by rw[W.o];exact yn2 (by rw[<-Hy.o]));go_wp2_with fail;go_quiet (fail);go_wp2_with fail;refine yJ (v:=encX nx0) (by simp[results,Tryz.results76,go_sem,q,r,s,t,u,l,m,n,o,p,encX,nx0]) rfl ?_
  exact⟨by rw[f.o],by first|exact c.o _ _ _ _ _ _ (Fr.refl _ _)|exact c.o _ _ _ _ _ _ (zdp _ _)|exact c.o _ _ _ _ _ _ (‹_›)⟩
 | true =>
 obtain⟨b,Y⟩:=eX (decide (¬(h,g)=(P,O)):Bool);have aI:∀a:World,(binOp .neq 29 (.agg #[.int .i64 h,.int .i64 (g:Int)]) (.agg #[.int .i64 P,.int .i64 (O:Int)])).run Tryz.prog a=.ok (.bool b) a:=λa=>by rw[Y];exact yp5 h P g O a
 have HQ:=Hh (show b=true↔¬(h,g)=(P,O)from by rw[Y,decide_eq_true_iff]);clear Y;cases b with
 | true =>
  have f:=Hh (show z=nx0 from by rw[W.o];exact yn1 (by rw[<-Hx.o,<-Hy.o];exact HQ.o.1 rfl));go_wp2_with fail;go_quiet (fail);go_wp2_with fail;refine yJ (v:=encX nx0) (by simp[results,Tryz.results76,go_sem,q,r,s,t,u,l,m,n,o,p,encX,nx0]) rfl ?_
  exact⟨by rw[f.o],by first|exact c.o _ _ _ _ _ _ (Fr.refl _ _)|exact c.o _ _ _ _ _ _ (zdp _ _)|exact c.o _ _ _ _ _ _ (‹_›)⟩
 | false =>
 have ap:(h,g)=(P,O):=Classical.byContradiction λC=>by have:=HQ.o.2 C;cases this
 obtain⟨t1,ah⟩:=eX (zcs L (h,g));obtain⟨t2,ai⟩:=eX (zcs R (h,g));have U:=Hh (show z=zok i G (h,g) (true,(P,O),y,H) t1 t2 from by
  rw[W.o,ybg (by rw[<-Hn.o];exact l0) (by rw[<-Hm.o];exact m0) (by rw[<-Hx.o]) (by rw[<-Hy.o]) (by rw[<-Hx.o,<-Hy.o];exact ap),<-Hx.o,<-Hy.o,<-Hn.o,<-Hm.o,ah,ai])
 have an:=Hh (λa (e:Fr NoM B a)=>ae.o a e h g t1 ah);have ao:=Hh (λa (e:Fr NoM B a)=>af.o a e h g t2 ai);have Z:=aD.o;have HM:=Hh (show IntKind.i64.wrap (y+1)=y+1/\wrap64 (y+1)=y+1/\bits BinOp.xor IntKind.i64 (H:Int) 1=((H ^^^ 1:Nat):Int)from by
  have d:y.natAbs<=1000000:=Z.2.1;have F:H<=1000000:=Z.2.2;exact⟨by rw[IntKind.wrap_i64];omega,by unfold wrap64;omega,zi4 H (by omega)⟩)
 clear W ap ah ai ae af Z;go_wp2_with fail;go_quiet (fail);generalize ax:World.drewN B _=w2
 have f2:Fr NoM B w2:=by rw[<-ax];exact zdp _ _
 clear ax q r s t u l m n o p J M N Q S d3 d4 d5 aI;obtain⟨W3,a9⟩:=eX (w2.alloc (.cells #[.int .i64 h,.int .i64 (g:Int)] 29));obtain⟨T,ag⟩:=eX w2.heap.size;have f3:Fr NoM B W3:=f2.trans (by rw[a9];exact(nW w2).alloc _) kP;have e3:W3.heap[T]?=some (.cells #[.int .i64 h,.int .i64 (g:Int)] 29 (0,0)):=by rw[a9,ag];exact xJ w2 _
 have a4:=Hh (λa (e:Fr NoM W3 a)=>show a.cell? ⟨T,0,none⟩=some (.int .i64 h)/\a.cell? ⟨T,1,none⟩=some (.int .i64 (g:Int))from by
  have d:=e.heap e3 id;exact⟨qR d rfl,qR d rfl⟩)
 have aB:=Hh (show w.heap.size<T from by have d:=f2.size;have F:=aH.o;omega);have F3:=Hh f3;obtain⟨J,M,N,_,_⟩:=aA.o w2 f2
 (try simp only at J M N)
 clear e3 f3 f2;go_upto_region 4 with fail;rw[<-a9,<-ag];clear a9 ag J M N;obtain⟨Q,S⟩:=a4.o W3 (Fr.refl _ _);go_wp2_with fail;(with_reducible refine(an.o W3 F3.o).mono ?_);rintro E W4 ⟨rfl,f4⟩;have ak:=Hh f4;have F4:=Hh (F3.o.trans f4 kP);clear f4 Q S an;obtain⟨Q,S⟩:=a4.o W4 ak.o;obtain⟨⟨q,r,s,t,u⟩,l,m,n,o,p⟩:=a5.o W4 F4.o;cases t1 with
 | false =>
  have k:=Hh F4.o;have f:=Hh (show z=nx0 from by rw[U.o];unfold zok;rw[if_pos rfl])
  (try clear D);(try clear K);(try clear d);(try clear F);(try clear x)
  go_wp2_with fail;refine yJ (v:=encX nx0) (by simp[results,Tryz.results76,go_sem,q,r,s,t,u,l,m,n,o,p,encX,nx0]) rfl ?_
  exact⟨by rw[f.o],by first|exact c.o _ _ _ _ _ _ k.o|exact c.o _ _ _ _ _ _ (k.o.trans (zdp _ _) kP)⟩
 | true =>
 by_cases x:i=G
 ·have e0:((i:Int) == (G:Int))=true:=by rw[x];exact beq_self_eq_true _
  clear q r s t u l m n o p;have aG:=Hh x;clear x;go_wp2_with fail;(with_reducible refine(ao.o W4 F4.o).mono ?_);rintro E W5 ⟨rfl,f5⟩;have al:=Hh (ak.o.trans f5 kP);have F5:=Hh (F4.o.trans f5 kP);clear f5 Q S ao e0;obtain⟨Q,S⟩:=a4.o W5 al.o;have k:=Hh F5.o;have x:=aG.o;obtain⟨⟨q,r,s,t,u⟩,l,m,n,o,p⟩:=a5.o W5 F5.o;cases t2 with
  | true =>
   have f:=Hh (show z=(true,(h,g),0,i)from by rw[U.o];unfold zok;rw[if_neg (by decide),if_pos ⟨x,rfl⟩])
   (try clear D);(try clear K);(try clear d);(try clear F);(try clear x)
   go_wp2_with fail;refine yJ (v:=encX (true,(h,g),0,i)) (by simp[results,Tryz.results76,go_sem,q,r,s,t,u,l,m,n,o,p,encX,nx0]) rfl ?_
   exact⟨by rw[f.o],by first|exact c.o _ _ _ _ _ _ k.o|exact c.o _ _ _ _ _ _ (k.o.trans (zdp _ _) kP)⟩
  | false =>
  obtain⟨x1,x2,x3,x4,x5⟩:=ad.o W5 F5.o
  (try simp only at x1 x2 x3 x4 x5)
  by_cases d:i=1
  ·have K:G=1:=by omega
   have a8:((i:Int) == 2)=false:=by rw[beq_eq_false_iff_ne];omega
   have a7:((i:Int) == 1)=true:=by rw[beq_iff_eq];omega
   have a6:((G:Int) == 1)=true:=by rw[beq_iff_eq];omega
   by_cases hg:0<=y
   ·have g1:y>=0:=hg
    have f:=Hh (show z=(true,(h,g),y+1,H ^^^ 1)from by rw[U.o];unfold zok;rw[if_neg (by decide),if_neg (λb=>by cases b.2),if_neg (λb=>by omega),if_pos ⟨d,K,hg⟩]);obtain⟨aL,aM,aN⟩:=HM.o;have aF:=aE.o;have aC:=aB.o;clear x d K hg;go_wp2_with fail;go_quiet (fail);go_wp2_with fail;generalize ay:World.drewN W5 _=I
    have f6:Fr NoM W5 I:=by rw[<-ay];exact zdp _ _
    have F6:=Hh (F5.o.trans f6 kP);have az:=Hh (al.o.trans f6 kP);clear ay f6 Q S x1 x2 x3 x4 x5 q r s t u l m n o p;obtain⟨⟨q,r,s,t,u⟩,l,m,n,o,p⟩:=a5.o I F6.o;have HS:=Hh (λa (e:Fr (λb=>b=w.heap.size) I a)=>show a.cell? ⟨T,0,none⟩=some (.int .i64 h)/\a.cell? ⟨T,1,none⟩=some (.int .i64 (g:Int))/\a.cell? ⟨X,o2+3,none⟩=some (.int .i64 y)/\a.cell? ⟨X,o2+4,none⟩=some (.int .i64 (H:Int))from by
     obtain⟨Q,S⟩:=a4.o I az.o;obtain⟨x1,x2,x3,x4,x5⟩:=ad.o I F6.o;exact⟨e.cell Q (λE=>by have E:T=w.heap.size:=E;omega),e.cell S (λE=>by have E:T=w.heap.size:=E;omega),e.cell x4 (λE=>by have E:X=w.heap.size:=E;omega),e.cell x5 (λE=>by have E:X=w.heap.size:=E;omega)⟩)
    have am:=Hh (λa (e:Fr (λb=>b=w.heap.size) I a) (y0 y1 y2 y3 y4:Value)=>(((((e.setCell ⟨w.heap.size,0,none⟩ y0 (λ_=>rfl)).setCell ⟨w.heap.size,1,none⟩ y1 (λ_=>rfl)).setCell ⟨w.heap.size,2,none⟩ y2 (λ_=>rfl)).setCell ⟨w.heap.size,3,none⟩ y3 (λ_=>rfl)).setCell ⟨w.heap.size,4,none⟩ y4 (λ_=>rfl):Fr (λb=>b=w.heap.size) I (((((a.setCell ⟨w.heap.size,0,none⟩ y0).setCell ⟨w.heap.size,1,none⟩ y1).setCell ⟨w.heap.size,2,none⟩ y2).setCell ⟨w.heap.size,3,none⟩ y3).setCell ⟨w.heap.size,4,none⟩ y4)));have k0:Fr (λb=>b=w.heap.size) I I.drew:=(Fr.refl _ I).drew;have k1:=am.o I (Fr.refl _ I) (.bool true) (.int .i64 h) (.int .i64 (g:Int)) (.int .i64 (y+1)) (.int .i64 ((H ^^^ 1:Nat):Int));have k2:=k1.drew;have k3:=am.o I.drew k0 (.bool true) (.int .i64 h) (.int .i64 (g:Int)) (.int .i64 (y+1)) (.int .i64 ((H ^^^ 1:Nat):Int));clear aF aC;go_region_held3 (λ(a:World)=>a.cell? ⟨T,0,none⟩=some (.int .i64 h)/\a.cell? ⟨T,1,none⟩=some (.int .i64 (g:Int))/\a.cell? ⟨X,o2+3,none⟩=some (.int .i64 y)/\a.cell? ⟨X,o2+4,none⟩=some (.int .i64 (H:Int)))
     (exact HS.o _ (‹_›))
     (first|fail)
    all_goals
     go_wp2_with fail;refine yJ (v:=encX (true,(h,g),y+1,H ^^^ 1)) (by simp[results,Tryz.results76,go_sem,q,r,s,t,u,l,m,n,o,p,encX,nx0]) rfl ?_
     exact⟨by rw[f.o],by first|exact c.o _ _ _ _ _ _ F6.o|exact(c.o _ _ _ _ _ _ F6.o).drew|exact c.o _ _ _ _ _ _ F6.o.drew⟩
   ·have g1:¬y>=0:=hg
    have f:=Hh (show z=nx0 from by rw[U.o];unfold zok;rw[if_neg (by decide),if_neg (λb=>by cases b.2),if_neg (λb=>by omega),if_neg (λb=>hg b.2.2)])
    (try clear D);(try clear K);(try clear d);(try clear F);(try clear x)
    go_wp2_with fail;go_quiet (fail);go_wp2_with fail;refine yJ (v:=encX nx0) (by simp[results,Tryz.results76,go_sem,q,r,s,t,u,l,m,n,o,p,encX,nx0]) rfl ?_
    exact⟨by rw[f.o],by first|exact c.o _ _ _ _ _ _ k.o|exact c.o _ _ _ _ _ _ (k.o.trans (zdp _ _) kP)⟩
  ·have a7:((i:Int) == 1)=false:=by rw[beq_eq_false_iff_ne];omega
   have D:z=nx0:=by rw[U.o];unfold zok;rw[if_neg (by decide),if_neg (λb=>by cases b.2),if_neg (λb=>by omega),if_neg (λb=>d b.1)]
   by_cases F:i=2
   ·have a8:((i:Int) == 2)=true:=by rw[beq_iff_eq];omega
    have a6:((G:Int) == 1)=false:=by rw[beq_eq_false_iff_ne];omega
    have f:=Hh (show z=nx0 from D)
    (try clear D);(try clear K);(try clear d);(try clear F);(try clear x)
    go_wp2_with fail;go_quiet (fail);go_wp2_with fail;refine yJ (v:=encX nx0) (by simp[results,Tryz.results76,go_sem,q,r,s,t,u,l,m,n,o,p,encX,nx0]) rfl ?_
    exact⟨by rw[f.o],by first|exact c.o _ _ _ _ _ _ k.o|exact c.o _ _ _ _ _ _ (k.o.trans (zdp _ _) kP)⟩
   ·have a8:((i:Int) == 2)=false:=by rw[beq_eq_false_iff_ne];omega
    have f:=Hh (show z=nx0 from D)
    (try clear D);(try clear K);(try clear d);(try clear F);(try clear x)
    go_wp2_with fail;go_quiet (fail);go_wp2_with fail;refine yJ (v:=encX nx0) (by simp[results,Tryz.results76,go_sem,q,r,s,t,u,l,m,n,o,p,encX,nx0]) rfl ?_
    exact⟨by rw[f.o],by first|exact c.o _ _ _ _ _ _ k.o|exact c.o _ _ _ _ _ _ (k.o.trans (zdp _ _) kP)⟩
 ·have e0:((i:Int) == (G:Int))=false:=by rw[beq_eq_false_iff_ne];omega
  have k:=Hh F4.o;obtain⟨x1,x2,x3,x4,x5⟩:=ad.o W4 F4.o
  (try simp only at x1 x2 x3 x4 x5)
  by_cases F:i=2
  ·have a8:((i:Int) == 2)=true:=by rw[beq_iff_eq];omega
   have a7:((i:Int) == 1)=false:=by rw[beq_eq_false_iff_ne];omega
   by_cases d:G=1
   ·have a6:((G:Int) == 1)=true:=by rw[beq_iff_eq];omega
    obtain⟨b,Y⟩:=eX (decide (((true,(P,O),y,H):NX)=(true,(h,g),0,0)):Bool);have aK:∀a:World,(binOp .eql 62 (.agg #[.bool true,.int .i64 P,.int .i64 (O:Int),.int .i64 y,.int .i64 (H:Int)]) (.agg #[.bool true,.int .i64 h,.int .i64 (g:Int),.int .i64 0,.int .i64 0])).run Tryz.prog a=.ok (.bool b) a:=λa=>by rw[Y];exact eqNX (true,(P,O),y,H) (true,(h,g),0,0) a
    have HQ:=Hh (show b=true↔((true,(P,O),y,H):NX)=(true,(h,g),0,0)from by rw[Y,decide_eq_true_iff]);clear Y;cases b with
    | true =>
     have f:=Hh (show z=(true,(h,g),1,1)from by rw[U.o];unfold zok;rw[if_neg (by decide),if_neg (λb=>x b.1),if_pos ⟨F,d,HQ.o.1 rfl⟩])
     (try clear D);(try clear K);(try clear d);(try clear F);(try clear x)
     go_wp2_with fail;go_quiet (fail);go_wp2_with fail;refine yJ (v:=encX (true,(h,g),1,1)) (by simp[results,Tryz.results76,go_sem,q,r,s,t,u,l,m,n,o,p,encX,nx0]) rfl ?_
     exact⟨by rw[f.o],by first|exact c.o _ _ _ _ _ _ k.o|exact c.o _ _ _ _ _ _ (k.o.trans (zdp _ _) kP)⟩
    | false =>
     have f:=Hh (show z=nx0 from by rw[U.o];unfold zok;rw[if_neg (by decide),if_neg (λb=>x b.1),if_neg (λb=>by have:=HQ.o.2 b.2.2;cases this),if_neg (λb=>by omega)])
     (try clear D);(try clear K);(try clear d);(try clear F);(try clear x)
     go_wp2_with fail;go_quiet (fail);go_wp2_with fail;refine yJ (v:=encX nx0) (by simp[results,Tryz.results76,go_sem,q,r,s,t,u,l,m,n,o,p,encX,nx0]) rfl ?_
     exact⟨by rw[f.o],by first|exact c.o _ _ _ _ _ _ k.o|exact c.o _ _ _ _ _ _ (k.o.trans (zdp _ _) kP)⟩
   ·have a6:((G:Int) == 1)=false:=by rw[beq_eq_false_iff_ne];omega
    have f:=Hh (show z=nx0 from by rw[U.o];unfold zok;rw[if_neg (by decide),if_neg (λb=>x b.1),if_neg (λb=>d b.2.1),if_neg (λb=>d b.2.1)])
    (try clear D);(try clear K);(try clear d);(try clear F);(try clear x)
    go_wp2_with fail;go_quiet (fail);go_wp2_with fail;refine yJ (v:=encX nx0) (by simp[results,Tryz.results76,go_sem,q,r,s,t,u,l,m,n,o,p,encX,nx0]) rfl ?_
    exact⟨by rw[f.o],by first|exact c.o _ _ _ _ _ _ k.o|exact c.o _ _ _ _ _ _ (k.o.trans (zdp _ _) kP)⟩
  ·have a8:((i:Int) == 2)=false:=by rw[beq_eq_false_iff_ne];omega
   have D:z=nx0:=by rw[U.o];unfold zok;rw[if_neg (by decide),if_neg (λb=>x b.1),if_neg (λb=>F b.1),if_neg (λb=>x (by omega))]
   by_cases d:i=1
   ·have a7:((i:Int) == 1)=true:=by rw[beq_iff_eq];omega
    have a6:((G:Int) == 1)=false:=by rw[beq_eq_false_iff_ne];omega
    have f:=Hh (show z=nx0 from D)
    (try clear D);(try clear K);(try clear d);(try clear F);(try clear x)
    go_wp2_with fail;go_quiet (fail);go_wp2_with fail;refine yJ (v:=encX nx0) (by simp[results,Tryz.results76,go_sem,q,r,s,t,u,l,m,n,o,p,encX,nx0]) rfl ?_
    exact⟨by rw[f.o],by first|exact c.o _ _ _ _ _ _ k.o|exact c.o _ _ _ _ _ _ (k.o.trans (zdp _ _) kP)⟩
   ·have a7:((i:Int) == 1)=false:=by rw[beq_eq_false_iff_ne];omega
    have f:=Hh (show z=nx0 from D)
    (try clear D);(try clear K);(try clear d);(try clear F);(try clear x)
    go_wp2_with fail;go_quiet (fail);go_wp2_with fail;refine yJ (v:=encX nx0) (by simp[results,Tryz.results76,go_sem,q,r,s,t,u,l,m,n,o,p,encX,nx0]) rfl ?_
    exact⟨by rw[f.o],by first|exact c.o _ _ _ _ _ _ k.o|exact c.o _ _ _ _ _ _ (k.o.trans (zdp _ _) kP)⟩
