import Derived.Test.YtghekfmfonoocaaGreatDoorZuc
import Derived.Test.YtghekfmfonoocaaGreatDoorZur
/- Lemmas. -/
set_option linter.all false
set_option maxHeartbeats 8000000
set_option maxRecDepth 4000
namespace Go.Proofs.YtghekfmfonoocaaGreatDoor
open Go.RowKit
theorem yhy (n:Nat)(a:World)(i:n<1000000000):∃b:Array Value,b.size=n/\(Instr.makeSlice 82 (.int .i64 0) (.int .i64 (n:Int))).run Tryz.prog a=.ok (.slice (some ⟨a.heap.size,0,none⟩) 0 n) (a.alloc (.cells b 3)):=by obtain⟨h,d,e,f,g⟩:=info_parts zaa;have c:=run_make (P:=Tryz.prog) a 82 3 h _ Tryz.underlying82 d e .i64 .i64 0 n (by omega) (by omega) (by rw[g];omega) (by omega);rw[f,Int.toNat_natCast]at c;exact⟨_,by simp[madeCells],c⟩
theorem NRow.start (a:World)(b:Array Value)(n:Nat)(c:b.size=n)(d:n<1000000000):NRow a.heap.size (a.alloc (.cells b 3)) (.slice (some ⟨a.heap.size,0,none⟩) 0 n) [] :=
 ⟨⟨rfl,.inr ⟨a.heap.size,n,b,rfl,xW _,xJ a _,yK _,by unfold maxLen;omega,by rw[c,Nat.mul_one],by simp⟩⟩,_,_,rfl⟩
theorem yee {M I:Nat->Prop}(pb:Nat)(V:List PL)(BV L R:List Nat)(k i l j:Value)(g h m n:Nat)(p:m=L.length)(q:n=R.length)(w:World)(u:PoolS M I w pb V BV k i l j)(D:RowIs 3 encN w g L)(E:RowIs 3 encN w h R) (s:∀d∈L,d<V.length) (v:∀d∈R,d<V.length) (z:L.length<1000000000) (C:R.length<1000000000) (A:V.length<1000000000) (x:∀d∈BV,d<1000000000) : Calls Tryz.prog 108 #[.pointer (some ⟨pb,0,none⟩),.slice (some ⟨g,0,none⟩) m m,.slice (some ⟨h,0,none⟩) n n] w λo c=>o=.returned (.int .i64 ((za4 V BV L R).2.2:Nat)) ∧ ∃f e,PoolS f e c pb (za4 V BV L R).1 (za4 V BV L R).2.1 k i l j/\(∀a,f a->(M a\/w.heap.size<=a)/\a<c.heap.size)/\(∀a,e a->(I a\/w.heap.size<=a)/\a<c.heap.size)/\Fr M w c:=by subst p;subst q;refine(znr pb V BV L R k i l j g 0 L.length h 0 R.length w u (D.slice (by omega)) (E.slice (by omega)) s v z C A x).mono ?_;rintro o c ⟨rfl,f,e,B,t,r,y⟩;exact⟨rfl,_,_,B.low,λa b=>⟨t a b.1,b.2⟩,λa b=>⟨r a b.1,b.2⟩,y⟩
theorem later {d e:Nat->Prop}{a g c:World}(h:∀b,e b->(d b\/g.heap.size<=b)/\b<c.heap.size)(f:Fr NoM a g):∀b,e b->(d b\/a.heap.size<=b)/\b<c.heap.size :=
 λb i=>⟨(h b i).1.imp_right (kQ f.size),(h b i).2⟩
theorem zgu {V:List PL}{BV:List Nat}(d:PoolOK V BV):BookOK V BV:=by have h:∀a,a<V.length->BV.getD a 0<=a:=by{intro a;induction a using Nat.strongRecOn with| _ a g =>{intro e;have f:=za7 e;obtain⟨i,j⟩:=d.opts a _ f;rw[d.born a _ f,zen,zen];exact⟨⟨yK _,λc b=>by have:=i c b;have:=g c this (by omega);omega⟩,λc b=>by have:=j c b;have:=g c this (by omega);omega⟩}};exact⟨d.len,d.opts,λa c b=>by{have e:=(xV.1 b).1;have:=h a (by rw[<-d.len];exact e);rw[xY,b]at this;exact this}⟩
theorem yi4 {R M I:Nat->Prop}(pb:Nat)(nv:Value)(V Fs:List PL)(BV:List Nat)(mo mc ms mn:Value)(w:World)(hP:PoolS M I w pb V BV mo mc ms mn)(ar:∀a,M a->a<w.heap.size)(ap:∀a,I a->a<w.heap.size)(au:PoolOK V BV)(hF:NodeL R encN w nv Fs)(hR:∀ah,R ah->¬M ah)
  (u:OptsOK Fs) (hn:V.length+Fs.length<100000000) (ay:∀b∈Fs,b.1.length<100000000/\b.2.length<100000000) :
  Calls Tryz.prog 91 #[.pointer (some ⟨pb,0,none⟩),.agg #[nv]] w λf X=>∃(v':Value) (M' I':Nat->Prop),f=.returned v'/\NRow w.heap.size X v' (addB V BV Fs).2.2/\PoolS M' I' X pb (addB V BV Fs).1 (addB V BV Fs).2.1 mo mc ms mn ∧
   (∀a,M' a->(M a\/w.heap.size<=a)/\a<X.heap.size/\v'.ownBlock≠some a)/\(∀a,I' a->(I a\/w.heap.size<=a)/\a<X.heap.size/\v'.ownBlock≠some a)/\Fr M w X:=by
 obtain⟨O,P,rfl,_,_,aB⟩:=hF;obtain⟨o,z⟩:=eX (w.alloc (.cells #[.slice O Fs.length P] 26));have f1:Fr NoM w o:=by rw[z];exact(nW w).alloc _
 have af:o.heap.size=w.heap.size+1:=by rw[z];simp
 have e1:o.heap[w.heap.size]?=some (.cells #[.slice O Fs.length P] 26 (0,0)):=by rw[z];exact xJ w _
 have c1:o.cell? ⟨w.heap.size,0,none⟩=some (.slice O Fs.length P):=by rw[xX _ _ 0 _ _ _ e1];rfl
 obtain⟨an,aw,mk⟩:=yhy Fs.length o (by omega);rw[z]at mk;obtain⟨w2,a6⟩:=eX (o.alloc (.cells an 3));have f2:Fr NoM o w2:=by rw[a6];exact(nW o).alloc _
 have c2:w2.cell? ⟨w.heap.size,0,none⟩=some (.slice O Fs.length P):=f2.cell c1 id;have j:NRow o.heap.size w2 (.slice (some ⟨o.heap.size,0,none⟩) 0 Fs.length) []:=by rw[a6];exact NRow.start o an _ aw (by omega)
 rw[af]at j;obtain⟨Z,a3,b9,HP,al,ak,a9,HR,HO,aL,aM,ba⟩:=Hhp12 (f1.trans f2 kP) j af hP ar ap au hR u ay aB z;clear hP ar ap au hR u ay aB f1 f2 af e1 aw j;go_enter Tryz.func91,Tryz.ntmps91;go_wp2_with fail;rw[<-z,<-a6];clear mk c1 c2 z a6;go_loopw [5,15] (λv5 ai e=>∃(i:Nat) (W:Value) (k I1:Nat->Prop),W=v5/\ai=.int .i64 i/\i<=Fs.length/\NRow w.heap.size e W (addB V BV (Fs.take i)).2.2/\PoolS k I1 e pb (addB V BV (Fs.take i)).1 (addB V BV (Fs.take i)).2.1 mo mc ms mn ∧
   (∀a,k a->(M a\/w.heap.size<=a)/\a<e.heap.size/\W.ownBlock≠some a)/\(∀a,I1 a->(I a\/w.heap.size<=a)/\a<e.heap.size/\W.ownBlock≠some a)/\Fr M w e) (λ_ ai _=>Fs.length-(intOf ai).toNat)
 case atStart=>exact⟨0,_,M,I,rfl,rfl,yK _,⟨zb6 a3.o.own (by omega),a3.o.shape⟩,HP.o.fr0 Z.o,λa g=>⟨.inl g,by
   have h1:=al.o a g;have h2:=Z.o.size;omega,λf=>by have f:w.heap.size+1=a:=yY f;have h1:=al.o a g;omega⟩,λa g=>⟨.inl g,by
   have h1:=ak.o a g;have h2:=Z.o.size;omega,λf=>by have f:w.heap.size+1=a:=yY f;have h1:=ak.o a g;omega⟩,Z.o.any⟩
 case round =>
  clear a3;obtain⟨i,W,k,I1,rfl,rfl,b3,j,D,C,hI,s⟩:=hrel;obtain⟨p,rfl⟩:=eX wr;have a5:OptsOK (Fs.take i):=λb5 b r=>HO.o b5 b (by
   rw[List.getElem?_take]at r;split at r
   ·exact r
   ·cases r)
  obtain⟨Q,v,E,S,a7⟩:=zi5 (zgu a9.o) (Fs.take i) a5;have H:=zv5 (Fs.take i) a5 a9.o (zgu a9.o);rw[kJ,Nat.min_eq_left b3]at v S;obtain⟨m,n,rfl⟩:=j.shape;obtain⟨⟨x,A,c⟩,B⟩:∃b8,addB V BV (Fs.take i)=b8:=⟨_,rfl⟩;rw[B]at j D Q v E S a7 H ⊢;dsimp only at j D Q v E S a7 H ⊢
  by_cases az:i<Fs.length
  ·obtain⟨b,r⟩:∃b,Fs[i]?=some b:=⟨_,xQ az⟩
   obtain⟨b1,o1,lv,rv,av,ac,d1,d2,n1,n2,m1,m2⟩:=aM.o i b r;obtain⟨x1,x2⟩:=HO.o i b r;obtain⟨y1,y2⟩:=aL.o b (xK r);have ix:=zbn O Fs.length P i b1 o1 az av;have e1:=s.cell d1 (HR.o b1 ac);have e2:=s.cell d2 (HR.o b1 ac);have t1:=n1.fr s (λae G hb=>HR.o G (m1 ae G hb));have t2:=n2.fr s (λae G hb=>HR.o G (m2 ae G hb));have aA:addB V BV (Fs.take (i+1))=((za4 x A (za2 c b.1) (za2 c b.2)).1,(za4 x A (za2 c b.1) (za2 c b.2)).2.1,c ++ [(za4 x A (za2 c b.1) (za2 c b.2)).2.2]):=by
    obtain⟨b0,ee⟩:=xV.1 r
    rw[yQ b0,ee,zep,B,<-zd0 H];rfl
   have aE:=zg2 (L:=b.1) E (λq t=>by rw[v];exact x1 q t);have aF:=zg2 (L:=b.2) E (λq t=>by rw[v];exact x2 q t);obtain⟨K,N,rfl,aj⟩:=id n1;clear aj;obtain⟨T,U,rfl,aj⟩:=id n2;clear aj;obtain⟨h,J⟩:=eX (p.alloc (.cells #[.slice K b.1.length N,.slice T b.2.length U] 85));have y:Fr NoM p h:=by rw[J];exact(nW p).alloc _
   have aC:h.heap.size=p.heap.size+1:=by rw[J];simp
   have aD:h.heap[p.heap.size]?=some (.cells #[.slice K b.1.length N,.slice T b.2.length U] 85 (0,0)):=by rw[J];exact xJ p _
   have ag:∀a,(Value.slice (some ⟨m,0,none⟩) c.length n).ownBlock=some a->w.heap.size<=a/\a<p.heap.size:=λa g=>j.own.lt a g
   have HC:=Hh (λe (l:Fr (λa=>k a\/(Value.slice (some ⟨m,0,none⟩) c.length n).ownBlock=some a) h e)=>show e.cell? ⟨p.heap.size,0,none⟩=some (.slice K b.1.length N)/\e.cell? ⟨p.heap.size,1,none⟩=some (.slice T b.2.length U)from by
    have d:=l.heap aD (λf=>by
     rcases f with f|f
     ·have:=(C _ f).2.1;omega
     ·have:=ag _ f;omega)
    exact⟨qR d rfl,qR d rfl⟩)
   have aQ:=Hh (λe (l:Fr NoM h e)=>(t1.fr0 y).fr0 l);have aR:=Hh (λe (l:Fr NoM h e)=>(t2.fr0 y).fr0 l);have HV:=Hh (λe (l:Fr NoM h e)=>((j.nats.fr0 y).fr0 l:Nats e (.slice (some ⟨m,0,none⟩) c.length n) c));have aN:=Hh (λe (l:Fr (λa=>k a) h e)=>(j.fr y kP).fr l (λa g f=>(C a f).2.2 g));have aa:=Hh (λe (l:Fr NoM h e)=>(D.fr0 y).fr0 l);have aT:=Hh J;have aU:=Hh x1;have aV:=Hh x2;have aW:=Hh y1;have aX:=Hh y2;have am:=Hh aA;have aY:=Hh aE;have aZ:=Hh aF;have F:=Hh C;have HI:=Hh hI;have a0:=Hh s;obtain⟨F8,aO,ab,a8,aS,aG,a3,aP,aH,aI,aJ,aK⟩:=Hhp12 y aC ag v (show x.length<1000000000 from by omega) (show ∀q∈A,q<1000000000 from λq t=>by have:=Q.lt x.length (xW _) q t;omega) j (λe (l:Fr k h e)=>(show w.heap.size<=e.heap.size from by have:=l.size;have:=s.size;omega)) (show b.1.length=(za2 c b.1).length from by simp[za2]) (show b.2.length=(za2 c b.2).length from by simp[za2]) (show(za2 c b.1).length<1000000000 from by simp[za2];omega) (show(za2 c b.2).length<1000000000 from by simp[za2];omega);clear j D Q v E S a7 H B a5 r av ac d1 d2 n1 n2 m1 m2 x1 x2 y1 y2 t1 t2 aA aE aF C hI s aD y aC ag J;have F0:Fr NoM h h.drew:=(nW h).drew;have G0:Fr (λa=>k a\/(Value.slice (some ⟨m,0,none⟩) c.length n).ownBlock=some a) h h.drew:=F0.any;go_upto_region 5 with fail;rw[<-aT.o];have hs:=HC.o h (Fr.refl _ _);go_region_held3 (λ(e:World)=>e.cell? ⟨p.heap.size,0,none⟩=some (.slice K b.1.length N)/\e.cell? ⟨p.heap.size,1,none⟩=some (.slice T b.2.length U))
    (first|exact HC.o _ (‹_›)|exact HC.o _ (Fr.alloc (‹_›) _))
    (first
     | (go_at_call 138;(with_reducible refine(zom (.slice K b.1.length N) _ b.1 c _ (aQ.o _ (‹_›)) (HV.o _ (‹_›)) (λq t=>by rw[a8.o];exact aU.o q t) (by have:=aW.o;omega)).mono ?_);rintro f wa ⟨rfl,b6,fa⟩;(try simp only[World.size_drew]at b6);have ga:Fr NoM h wa:=Fr.trans (‹_›) fa kP;have ka:Fr (λa=>k a\/(Value.slice (some ⟨m,0,none⟩) c.length n).ownBlock=some a) h wa:=ga.any;try (have be:=RowIs.fr (L:=za2 c b.2) (‹_›) fa id))
     | (go_at_call 138;(with_reducible refine(zom (.slice T b.2.length U) _ b.2 c _ (aR.o _ (‹_›)) (HV.o _ (‹_›)) (λq t=>by rw[a8.o];exact aV.o q t) (by have:=aX.o;omega)).mono ?_);rintro f wb ⟨rfl,b7,fb⟩;(try simp only[World.size_drew]at b7);have gb:Fr NoM h wb:=Fr.trans (‹_›) fb kP;have kb:Fr (λa=>k a\/(Value.slice (some ⟨m,0,none⟩) c.length n).ownBlock=some a) h wb:=gb.any;try (have bd:=RowIs.fr (L:=za2 c b.1) (‹_›) fb id))
     | (go_at_call 108;(with_reducible refine(yee pb x A (za2 c b.1) (za2 c b.2) mo mc ms mn _ _ _ _ aH.o aI.o _ (aa.o _ (‹_›)) (‹_›) (‹_›) aY.o aZ.o aJ.o aK.o aS.o aG.o).mono ?_);rintro f Y ⟨rfl,M2,I2,p3,aq,ao,f3⟩;have a2:=Hh (later aq (‹_›));have a1:=Hh (later ao (‹_›));clear aq ao;have a4:Fr k h Y:=Fr.trans (Fr.any (‹_›)) f3 kP;have k3:Fr (λa=>k a\/(Value.slice (some ⟨m,0,none⟩) c.length n).ownBlock=some a) h Y:=a4.mono (λ_ _ a=>.inl a))
     | (refine zby (enc:=encN) rfl (.tmp 19) (.tmp 30) 82 rfl w.heap.size 3 (.int .i64 0) 8 Tryz.underlying82 zaa rfl (.slice (some ⟨m,0,none⟩) c.length n) c.length (c.map encN) rfl (aN.o _ (a4.alloc _)).own (.slice (some ⟨Y.heap.size,0,none⟩) 1 1) rfl [(za4 x A (za2 c b.1) (za2 c b.2)).2.2] (SliceOf.one encN Y _ 3) (λ_=>rfl) (by have:=a8.o;simp;omega) (by decide) (by have:=f3.size;have:=aP.o _ a4;rw[xZ];omega) ?_;intro v4 w4 h4 f4 q4;have k4:Fr (λa=>k a\/(Value.slice (some ⟨m,0,none⟩) c.length n).ownBlock=some a) h w4:=(k3.alloc _).trans f4 (λ_ _ a=>.inr a))
     | fail)
   all_goals
    go_wp2;go_roundw
    case rel =>
     have hz:=aO.o;have bb:=a0.o.size;have bc:=a4.size;have b4:=f4.size;rw[xZ]at b4;have hd:∀a,M2 a->¬Own1 (.slice (some ⟨m,0,none⟩) c.length n) a:=λa g u=>by
      rcases (a2.o a g).1 with d|d
      ·exact(F.o a d).2.2 u
      ·have:=(ab.o a u).2;omega
     have ax:∀a,I2 a->¬Own1 (.slice (some ⟨m,0,none⟩) c.length n) a:=λa g u=>by
      rcases (a1.o a g).1 with d|d
      ·exact(HI.o a d).2.2 u
      ·have:=(ab.o a u).2;omega
     refine⟨i+1,v4,M2,I2,rfl,by go_num,by omega,?_,?_,λa g=>⟨?_,?_,λf=>?_⟩,λa g=>⟨?_,?_,λf=>?_⟩,?_⟩
     ·rw[am.o];exact NRow.snoc h4
     ·rw[am.o];exact(p3.fr0 ((nW Y).alloc _)).fr f4 hd ax
     ·rcases (a2.o a g).1 with d|d
      ·exact(F.o a d).1
      ·exact .inr (by omega)
     ·have:=(a2.o a g).2;omega
     ·rcases q4 with d|⟨b',d,ad⟩
      ·exact hd a g (d.symm.trans f)
      ·rw[d]at f;cases f
       rw[xZ]at ad;have:=(a2.o a g).2;omega
     ·rcases (a1.o a g).1 with d|d
      ·exact(HI.o a d).1
      ·exact .inr (by omega)
     ·have:=(a1.o a g).2;omega
     ·rcases q4 with d|⟨b',d,ad⟩
      ·exact ax a g (d.symm.trans f)
      ·rw[d]at f;cases f
       rw[xZ]at ad;have:=(a1.o a g).2;omega
     ·refine a0.o.trans (F8.o.any.trans k4 (λah hk a=>a)) (λa g d=>?_)
      rcases d with d|d
      ·rcases (F.o a d).1 with d|d
       ·exact d
       ·omega
      ·have:=(ab.o a d).1;omega
    case measure=>simp[intOf];omega
  ·have b2:i=Fs.length:=by omega
   subst b2;rw[y7]at B;obtain⟨HO,a0,F,HI,aa,HA⟩:=Hhp6 j s C hI D B;clear j s C hI D B a5 Q v E S a7 H;go_wp2;go_ret;refine⟨_,k,I1,rfl,?_,?_,F.o,HI.o,a0.o⟩
   ·rw[HA.o];exact HO.o
   ·rw[HA.o];exact aa.o
theorem yeh {w:World}{a:Option Addr}{c x:Nat}{l:List Nat}(g:Nats w (.slice a (l.length+1) c) (x::l)):Nats w (.slice (if c=1 then a else Option.map (λx=>{ block:=x.block,off:=x.off+1 }) a) l.length (c-1)) l:=by obtain⟨n,o,f,h,p,j⟩:=g;cases f;simp only[List.length_cons]at h;refine⟨_,_,rfl,by omega,by omega,λd m b=>?_⟩;have q:=(xV.1 b).1;obtain⟨e,off,i,k⟩:=j (d+1) m (by simpa using b);rw[if_neg (by omega),i];exact⟨e,off+1,rfl,by rw[Nat.add_assoc,Nat.add_comm 1 d];exact k⟩
theorem zo5 (lv pv:Value)(L P:List Nat)(w:World)(v:Nats w lv L)(N:Nats w pv P)(Y:P.Pairwise (· < ·))(T:L.length<1000000000) :
  Calls Tryz.prog 160 #[lv,pv] w λk A=>∃z,k=.returned z/\NRow w.heap.size A z (zag L P)/\Fr NoM w A:=by
 obtain⟨la,lc,rfl,a7,a8,v⟩:=v;have HL:=Hh v;clear v;have HP:=Hh N;have HU:=Hh Y;clear N Y;have M:=Hh T;clear T;go_enter Tryz.func160,Tryz.ntmps160;go_wp2_with fail;go_loopw [1,5,11] (λa5 a6 J wr=>∃(a:Nat) (i:List Nat),a<=L.length/\J=.int .i64 a/\NRow w.heap.size wr a6 (zag (L.take a) P)/\Nats w a5 i/\i.Pairwise (· < ·)/\(∀b,b∈i↔b∈P/\a<=b)/\Fr NoM w wr) (λ_ _ J _=>L.length-(intOf J).toNat)
 case atStart=>exact⟨0,P,by omega,rfl,NRow.made w,HP.o,HU.o,λb=>by simp,(Fr.refl _ _).alloc _⟩
 case round =>
  obtain⟨a,i,hk,rfl,m,y,j,e,l⟩:=hrel;obtain⟨w7,rfl⟩:=eX wr;obtain⟨lb,aa,rfl⟩:=m.shape;by_cases U:a<L.length
  ·obtain⟨b1,o1,O,Q⟩:=HL.o a L[a] (by simp)
   have R:=l.cell Q id;have a9:=za9 la L.length lc a b1 o1 U O;unfold encN at R;have g:=zkb L P a U;have G:=zdc (L.take a) P;rw[kJ,Nat.min_eq_left hk]at G;obtain⟨n,hy⟩:∃n,L[a]=n:=⟨_,rfl⟩;rw[hy]at g R;obtain⟨pa,pc,rfl,_,_,x⟩:=id (y.fr0 l);obtain⟨u,E,o,K⟩:=Hhp4 y m l G;clear Q O l G m y;have t:a ∉ i->a ∉ P:=λc hp=>c ((e a).2 ⟨hp,xW _⟩)
   have r:a ∉ i->∀b,b∈i↔b∈P/\a+1<=b:=λc b=>by
    rw[e b];constructor
    ·rintro⟨d,h⟩
     refine⟨d,?_⟩;by_cases k:b=a
     ·subst k;exact absurd ((e b).2 ⟨d,h⟩) c
     ·omega
    ·rintro⟨d,h⟩;exact⟨d,by omega⟩
   cases i with
   | nil =>
    have s:=r (by simp);rw[if_neg (t (by simp))]at g;have p:=Hh g;have D:=Hh s;clear g x t r e j s;go_wp2_with (at_builtin;refine zd9 (enc:=encN) w (o.o.alloc _) rfl _ _ 82 rfl 3 (.int .i64 0) 8 Tryz.underlying82 zaa rfl _ (zag (L.take a) P).length _ rfl (E.o.own.alloc _) _ rfl [n] (SliceOf.one encN w7 n 3) (λ_=>rfl) ?c1 (by decide) ?_)
    case c1=>have:=K.o;have:=M.o;simp at *;omega
    intro z A d h;have B:=Hh d;have C:=Hh h;clear d h;go_wp2_with fail;go_roundw
    case rel=>exact⟨a+1,[],by omega,by go_num,by rw[p.o];exact NRow.snoc B.o,u.o,List.Pairwise.nil,D.o,C.o⟩
    case measure=>simp[intOf];omega
   | cons f q =>
    obtain⟨b2,o2,F,S⟩:=x 0 f rfl;have Z:=za9 pa (q.length+1) pc 0 b2 o2 (Nat.succ_pos _) F;have I:=yeh u.o;unfold encN at S;rw[Nat.add_zero]at Z S;rw[show((0:Nat):Int)=0 from rfl]at Z;simp only[List.length_cons]at u ⊢;by_cases W:f=a
    ·subst W
     rw[if_pos ((e f).1 (by simp)).1]at g;have X:=(List.pairwise_cons.1 j).2;have V:∀b,b∈q↔b∈P/\f+1<=b:=λb=>by
      have h0:=(List.pairwise_cons.1 j).1;constructor
      ·intro c
       exact⟨((e b).1 (uJ _ c)).1,h0 b c⟩
      ·rintro⟨d,h⟩
       rcases kW.1 ((e b).2 ⟨d,by omega⟩)with k|c
       ·omega
       ·exact c
     have hb:((f:Int) == (f:Int))=true:=beq_self_eq_true _;obtain⟨p,a3,a0,a2⟩:=Hhp4 g X V I;clear g x t r e j F X V I;go_wp2_with fail;go_roundw
     case rel=>exact⟨f+1,q,by omega,by go_num,by rw[p.o];exact E.o,a2.o,a3.o,a0.o,o.o⟩
     case measure=>simp[intOf];omega
    ·have H:a ∉ f::q:=λc=>by
      rcases kW.1 c with k|c
      ·exact W k.symm
      ·have:=(List.pairwise_cons.1 j).1 a c
       have:=((e f).1 (by simp)).2;omega
     have s:=r H;rw[if_neg (t H)]at g;have hb:((f:Int) == (a:Int))=false:=by rw[beq_eq_false_iff_ne];omega
     obtain⟨p,D,a1⟩:=Hhp3 g s j;clear g x t r e j s F I H;go_wp2_with (at_builtin;refine zd9 (enc:=encN) w (o.o.alloc _) rfl _ _ 82 rfl 3 (.int .i64 0) 8 Tryz.underlying82 zaa rfl _ (zag (L.take a) P).length _ rfl (E.o.own.alloc _) _ rfl [n] (SliceOf.one encN w7 n 3) (λ_=>rfl) ?c1 (by decide) ?_)
     case c1=>have:=K.o;have:=M.o;simp at *;omega
     intro z A d h;have B:=Hh d;have C:=Hh h;clear d h;go_wp2_with fail;go_roundw
     case rel=>exact⟨a+1,f::q,by omega,by go_num,by rw[p.o];exact NRow.snoc B.o,u.o,a1.o,D.o,C.o⟩
     case measure=>simp[intOf];omega
  ·have a4:a=L.length:=by omega
   subst a4;rw[y7]at m ⊢;have HO:=Hh m;have o:=Hh l;clear m l y e j;go_wp2_with fail;go_ret;exact⟨_,rfl,HO.o,o.o⟩
def domI (g:Nat->Nat->Bool)(L:List Nat)(i:Nat):List Nat:=(List.range i).filter λa=>(List.range L.length).any (domP g L a)
theorem zzy (g:Nat->Nat->Bool)(L:List Nat):domI g L L.length=domB g L:=rfl
theorem yiq {g:Nat->Nat->Bool}{L:List Nat}{i k:Nat}(b:k<L.length)(a:domP g L i k=true):domI g L (i+1)=domI g L i ++ [i]:=by have:(List.range L.length).any (domP g L i)=true:=List.any_eq_true.2 ⟨k,kZ.2 b,a⟩;unfold domI;rw[List.range_succ,List.filter_append];simp[this]
theorem ynx {g:Nat->Nat->Bool}{L:List Nat}{i:Nat}(a:(List.range L.length).any (domP g L i)=false):domI g L (i+1)=domI g L i:=by unfold domI;rw[List.range_succ,List.filter_append];simp[a]
theorem yir (g:Nat->Nat->Bool)(L:List Nat)(i:Nat):(domI g L i).length<=i:=by have:=List.length_filter_le (λa=>(List.range L.length).any (domP g L a)) (List.range i);rw[uV]at this;exact this
theorem zm5 {M I:Nat->Prop} {C:List Nat} {V:List PL} {BV:List Nat} (B:BookC V C) (pb e:Nat) (mc ms mn:Value) (a2:¬ M e) (a1:¬ I e) (n:Bool) (g:Nat->Nat->Bool) (hg:g=if n=true then gL C else gR C) (U:Value) (L:List Nat) (f:Nat × Nat->Option Bool) (w:World)
    (hP:PoolS M I w pb V BV (.map (some e)) mc ms mn) (hf:MapF encP encB w e f) (T:OrdF C f) (hL:Nats w U L) (au:L≠[]->∀ a,U.ownBlock=some a->a≠e) (av:∀ i∈L,i < V.length) (hl:L.length < 1000000) :
    Calls Tryz.prog 161 #[.pointer (some ⟨pb,0,none⟩),U,.bool n] w λk H=>∃ W,k=.returned W/\NRow w.heap.size H W (domB g L)/\∃ f',MapF encP encB H e f'/\OrdF C f'/\Fr (λa=>a=e) w H:=by
  have aL:e < w.heap.size:=hf.lt;obtain⟨HL,HP,aj⟩:=Hhp3 (λh (f:Fr (λa=>a=e) w h)=>show Nats h U L from hL.fr f au) (λh (f:Fr (λa=>a=e) w h)=>hP.fr f (λa d k=>a2 (k ▸ d)) (λa d k=>a1 (k ▸ d))) (λi j (s:i < V.length) (t:j < V.length)=>(yf6 B pb e mc ms mn a2 a1 (i + j + 1) i j (vW _) s t:GeIs M I C V BV pb e mc ms mn i j));obtain ⟨la,lc,rfl,b7,b8,b6⟩:=hL;obtain⟨ak,HF,HO,Hg,Hl,P⟩:=Hhp6 av hf T hg hl aL;clear hP hf T av b6 au a2 a1 hg hl aL;go_enter Tryz.func161,Tryz.ntmps161;go_wp2_with fail;go_loopw [7,17] (λac u h=>∃ (b:Nat) (E:Nat × Nat->Option Bool),u=.int .i64 b/\b<=L.length/\NRow w.heap.size h ac (domI g L b)/\MapF encP encB h e E/\OrdF C E/\Fr (λa=>a=e) w h) (λ_ u _=>L.length - (intOf u).toNat)
  case atStart=>exact ⟨0,f,rfl,yK _,NRow.made w,HF.o.fr ((nW w).alloc _) id,HO.o,(Fr.refl _ w).alloc _⟩
  case round =>
    obtain ⟨b,E,rfl,hi,r,ay,aH,aC⟩:=hrel;obtain ⟨X,rfl⟩:∃ X,X=wr:=⟨_,rfl⟩;obtain ⟨lb,aQ,rfl⟩:=r.shape;obtain⟨Q,af,al,p,aT⟩:=Hhp5 r ay aH aC (yir g L b);clear r ay aH aC;by_cases aD:b < L.length
    · obtain ⟨i, s⟩ : ∃ i, L[b]? = some i := ⟨_, xQ aD⟩
      have aO:=ak.o i (xK s);obtain ⟨_,_,ee,_,_,A⟩:=HL.o X p.o;cases ee
      obtain ⟨b1,o1,a3,d1⟩:=A b i s;have b4:=za9 la L.length lc b b1 o1 aD a3;unfold encN at d1;go_wp2_with fail;clear d1 b4 A;go_loopw [7,24] (λac u h=>∃ (c:Nat) (z:Nat × Nat->Option Bool),ac=.slice (some ⟨lb,0,none⟩) (domI g L b).length aQ/\u=.int .i64 c/\c<=L.length/\(List.range c).any (domP g L b)=false/\MapF encP encB h e z/\OrdF C z/\Fr (λa=>a=e) X h) (λ_ u _=>L.length - (intOf u).toNat)
      case atStart=>exact ⟨0,E,rfl,rfl,yK _,rfl,af.o,al.o,Fr.refl _ _⟩
      case round =>
        obtain ⟨c,z,rfl,rfl,hk,aw,az,aI,a7⟩:=hrel;obtain ⟨J,rfl⟩:∃ J,J=wr:=⟨_,rfl⟩;obtain⟨K,O,v,ad,R⟩:=Hhp5 az aI a7 aw (Q.o.fr a7 (λa d k=>by have:=(Q.o.own.lt a d).1;have:=P.o;omega));clear az aI a7 aw;by_cases aa:c < L.length
        · obtain ⟨j, t⟩ : ∃ j, L[c]? = some j := ⟨_, xQ aa⟩
          have aP:=ak.o j (xK t);obtain ⟨_,_,ee,_,_,A⟩:=HL.o J (p.o.trans v.o kP);cases ee
          obtain ⟨b2,o2,a4,d2⟩:=A c j t;have b5:=za9 la L.length lc c b2 o2 aa a4;unfold encN at d2;have G:(List.range (c + 1)).any (domP g L b)=domP g L b c:=by
            rw [List.range_succ,List.any_append,ad.o];simp
          by_cases aE:c=b
          · subst aE
            have aG:(List.range (c + 1)).any (domP g L c)=false:=by rw [G];simp [domP]
            have hb:((c:Int) == (c:Int))=true:=beq_self_eq_true _;have D:=Hh aG;clear A G aG s t a3 a4;go_wp2_with fail;go_roundw
            case rel=>exact ⟨c + 1,z,rfl,by go_num,by omega,D.o,K.o,O.o,v.o⟩
            case measure=>simp [intOf];omega
          · have hb : ((c : Int) == (b : Int)) = false := by rw [beq_eq_false_iff_ne]; omega
            obtain ⟨x,a5⟩:∃ x,x=geV C j i:=⟨_,rfl⟩;obtain ⟨y,a6⟩:∃ y,y=geV C i j:=⟨_,rfl⟩;obtain ⟨l,S⟩:∃ l,l=domP g L b c:=⟨_,rfl⟩;have ax:l=if n=true then (x && (!y || decide (c < b))) else (y && (!x || decide (c < b))):=by
              rw [S,Hg.o,a5,a6];unfold domP;rw [xY,xY,s,t,vJ aE];cases n <;> rfl
            have q:=aj.o j i aP aO;have m:=aj.o i j aO aP;unfold GeIs at q m;rw [<-a5] at q;rw [<-a6] at m;rw [<-S] at G;obtain⟨H1,H2,ae,D,aR⟩:=Hhp5 q m ax G S;clear A G s t a3 a4 q m ax a5 a6 S;go_wp2_with fail;refine (H1.o z J (HP.o J (p.o.trans v.o kP)) K.o O.o).mono ?_
            rintro k w8 ⟨rfl,f3,aA,aJ,a8⟩;obtain⟨ag,am,Z,a0⟩:=Hhp4 aA aJ (v.o.trans a8 kP) (R.o.fr a8 (λa d k=>by have:=(R.o.own.lt a d).1;have:=P.o;omega));clear aA aJ a8 K O v R d2 b5;go_wp2_with fail;refine (H2.o f3 w8 (HP.o w8 (p.o.trans Z.o kP)) ag.o am.o).mono ?_
            rintro k w9 ⟨rfl,f4,aB,aK,a9⟩;obtain⟨ah,an,ai,ar⟩:=Hhp4 aB aK (Z.o.trans a9 kP) (a0.o.fr a9 (λa d k=>by have:=(a0.o.own.lt a d).1;have:=P.o;omega));clear aB aK a9 ag am Z a0 hb;obtain ⟨o,hp⟩:∃ o,o=if n=true then x else y:=⟨_,rfl⟩
            obtain ⟨a,d⟩:∃ a,a=if n=true then y else x:=⟨_,rfl⟩
            have aM:l=(o && (!a || decide (c < b))):=by
              rw [ae.o,hp,d];cases n <;> rfl
            obtain⟨ap,ao,aq⟩:=Hhp3 aM hp d;clear aM hp d ae;go_upto_if 41 with fail
            go_cut [12,13] from 25 to 58 (λaW aX h=>aW=.bool o/\aX=.bool a/\h=w9)
            case first =>
              cases n <;>
                (go_wp2_with fail
                 go_meet
                 case rel=>exact ⟨by rw [ao.o] <;> rfl,by rw [aq.o] <;> rfl,rfl⟩)
            case rest =>
            obtain ⟨rfl,rfl,rfl⟩:=hcut;clear ao aq;go_upto_region 12 with fail;go_cut [53] from 25 to 58 (λaY h=>aY=.bool l/\h=wc)
            case first =>
              by_cases aF:c < b
              · have F : l = o := by rw [ap.o, vJ aF]; simp
                have Y:=Hh F;clear F;cases o <;> cases a <;>
                  (go_wp2_with fail
                   go_meet
                   case rel=>exact ⟨by rw [Y.o] <;> rfl,rfl⟩)
              · have F : l = (o && !a) := by rw [ap.o, vV aF]; simp
                have Y:=Hh F;clear F;cases o <;> cases a <;>
                  (go_wp2_with fail
                   go_meet
                   case rel=>exact ⟨by rw [Y.o] <;> rfl,rfl⟩)
            case rest =>
              obtain ⟨rfl,rfl⟩:=hcut;cases l with
              | true =>
                have HY:=Hh (yiq aa aR.o.symm);have N:=Hh (p.o.trans ai.o kP);go_wp2_with (at_builtin;refine zae (enc:=encN) _ rfl _ _ 82 rfl w.heap.size 3 (.int .i64 0) 8 Tryz.underlying82 zaa rfl _ (domI g L b).length _ rfl (ar.o.own.alloc _) _ rfl [b] (SliceOf.one encN wc b 3) (λ_=>rfl) ?c1 (by decide) ?c2 ?_)
                case c1=>have:=aT.o;have:=Hl.o;simp at *;omega
                case c2=>have:=N.o.size;simp at *;omega
                intro W H q m h3;have aN:NRow w.heap.size H W (domI g L (b + 1)):=by rw [HY.o];exact NRow.snoc q
                have ab:∀ a,a < w.heap.size->Own1 (.slice (some ⟨lb,0,none⟩) (domI g L b).length aQ) a->False:=λa d T=>by have:=(ar.o.own.lt a T).1;omega
                obtain⟨aV,aU,aS⟩:=Hhp3 aN ((ah.o.fr ((nW _).alloc (.cells #[.int .i64 (b:Int)] 3)) id).fr m (ab _ P.o)) ((N.o.alloc (.cells #[.int .i64 (b:Int)] 3)).trans m (λa d aZ=>(ab a d aZ).elim));clear q m h3 aN ab;go_wp2_with fail;go_roundw
                case rel=>exact ⟨b + 1,f4,by go_num,by omega,aV.o,aU.o,an.o,aS.o⟩
                case measure=>simp [intOf];omega
              | false =>
                go_wp2_with fail;go_roundw
                case rel=>exact ⟨c + 1,f4,rfl,by go_num,by omega,D.o,ah.o,an.o,ai.o⟩
                case measure=>simp [intOf];omega
        · have b3 : c = L.length := by omega
          subst b3;have D:=Hh (ynx ad.o);have N:=Hh (p.o.trans v.o kP);go_wp2_with fail;go_roundw
          case rel=>exact ⟨b + 1,z,by go_num,by omega,by rw [D.o];exact R.o,K.o,O.o,N.o⟩
          case measure=>simp [intOf];omega
    · have b0 : b = L.length := by omega
      subst b0;have r:=Q.o;rw [zzy] at r;rw [zzy] at *;have HO:=Hh r;clear r Q;go_wp2_with fail;go_ret;exact ⟨_,rfl,HO.o,E,af.o,al.o,p.o⟩
