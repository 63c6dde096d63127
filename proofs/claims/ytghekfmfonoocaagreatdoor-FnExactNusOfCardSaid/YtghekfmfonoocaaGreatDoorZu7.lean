import Derived.Shelf.Slices.In.SortNone
import Derived.Test.YtghekfmfonoocaaGreatDoorZu2
import Derived.Test.YtghekfmfonoocaaGreatDoorShelfG
/- Lemmas. -/
set_option linter.all false
set_option maxHeartbeats 8000000
set_option maxRecDepth 4000
namespace Go.Proofs.YtghekfmfonoocaaGreatDoor
open Go.RowKit
theorem zna (a:Option Addr)(c:Nat)(L:List Nat)(w:World)(i:Nats w (.slice a L.length c) L)(m:L.length<1000000000000) : Calls Tryz.prog 152 #[.slice a L.length c] w λe f=>∃d b,e=.returned (.slice d (zaf L).length b)/\f.ownsRow w.heap.size 3 1 (.slice d (zaf L).length b) (zaf L).length ((zaf L).map encN)/\Fr NoM w f:=by cases L with| cons o C =>{obtain⟨F,G,e,h,I,z⟩:=id i;obtain⟨u,D,v,_⟩:=z 0 o rfl;cases e;subst v;exact(zut u D c (o::C) w i m).mono λe f ⟨d,b,x⟩=>⟨some ⟨d,0,none⟩,b,x⟩}| nil =>{(have j:zaf []=[]:=by decide);rw[j];have r:=Hh (show Calls Tryz.prog 169 #[.slice a 0 c] w λe f=>∃d b,e=.returned (.slice d 0 b)/\f.ownsRow w.heap.size 3 1 (.slice d 0 b) 0 []/\Fr NoM w f from by{cases a with| none =>{refine Calls.mono (P:=Tryz.prog) (Any.slices_Clone_int_nil Tryz.layClone 0 c w) ?_;rintro e f ⟨rfl,rfl⟩;exact⟨none,0,rfl,World.ownsRow_nil _ _ _ _,Fr.refl _ _⟩}| some a =>{refine Calls.mono (P:=Tryz.prog) (Any.slices_Clone_int_zero Tryz.layClone a c w) ?_;rintro e f ⟨K,rfl,l,A,B⟩;rcases l.2 with ⟨y,_⟩|⟨d,b,H,rfl,J⟩;{exact absurd y A};{exact⟨some ⟨d,0,none⟩,b,rfl,l,Fr.of_below B⟩}}});clear i m j;go_enter Tryz.func152,Tryz.ntmps152;go_wp2_with fail;refine r.o.mono ?_;rintro e n ⟨d,b,rfl,h,k⟩;have q:=Hh h;have p:=Hh k;clear h k;have t:=Hh (Any.slices_Sort_int_none Tryz.laySort d b n);have s:=Hh (Any.slices_Compact_int_empty Tryz.layCompact d b n);go_wp2_with fail;refine Calls.mono (P:=Tryz.prog) t.o ?_;rintro e E ⟨rfl,g⟩;have g:=g.symm;subst g;go_wp2_with fail;refine Calls.mono (P:=Tryz.prog) s.o ?_;rintro e E ⟨rfl,g⟩;have g:=g.symm;subst g;go_wp2;go_ret;exact⟨d,b,rfl,q.o,p.o⟩}
theorem zvx {M I:Nat->Prop}{w wr w6 w8 a9 B:World}{pb j bn:Nat}{V:List PL}{BV l r:List Nat}{u1 u2 q s p Q R P mo mc ms mn:Value}{x y:List Value}
  (k:PoolAt w pb V BV q s p j mo mc ms mn x y) (Y:Fr NoM w wr)
  (aq:∀(f:Nat) (g:Value) (o:PL),x[f]?=some g->V[f]?=some o->Nats w g o.1/\(o.1≠[]->∀a,g.ownBlock=some a->I a))
  (ar:∀(f:Nat) (g:Value) (o:PL),y[f]?=some g->V[f]?=some o->Nats w g o.2/\(o.2≠[]->∀a,g.ownBlock=some a->I a))
  (au:M pb/\M j/\(∀a,q.ownBlock=some a->M a)/\(∀a,s.ownBlock=some a->M a)/\(∀a,p.ownBlock=some a->M a)/\(∀a,M a->¬I a))
  (an:pb≠j/\(∀a,q.ownBlock=some a->a≠pb/\a≠j)/\(∀a,s.ownBlock=some a->a≠pb/\a≠j)/\(∀a,p.ownBlock=some a->a≠pb/\a≠j) ∧
   (∀a,q.ownBlock=some a->s.ownBlock=some a->False)/\(∀a,q.ownBlock=some a->p.ownBlock=some a->False)/\(∀a,s.ownBlock=some a->p.ownBlock=some a->False))
  (e1:wr.ownsRow w.heap.size 3 1 u1 l.length (l.map encN)) (e2:wr.ownsRow w.heap.size 3 1 u2 r.length (r.map encN))
  (f6:Fr (λa=>a=j) wr w6) (aw:MapF encS encN w6 j (upd (zr4 V) (keyS (l,r)) BV.length)) (T:Fr (λa=>q.ownBlock=some a\/a=pb) w6 w8) (G:Fr (λa=>s.ownBlock=some a\/a=pb) w8 a9) (C:Fr (λa=>p.ownBlock=some a\/a=pb) a9 B)
  (av:B.heap[pb]?=some (.cells #[Q,R,P,.map (some j),mo,mc,ms,mn] 132 (0,0)))
  (o8:w8.ownsRow 0 82 1 Q (x.length+1) (x ++ [u1])) (ai:a9.ownsRow 0 82 1 R (y.length+1) (y ++ [u2])) (ay:B.ownsRow 0 3 1 P (BV.length+1) (BV.map encN ++ [encN bn]))
  (A:∀a,Q.ownBlock=some a->q.ownBlock=some a\/w6.heap.size<=a) (E:∀a,R.ownBlock=some a->s.ownBlock=some a\/w8.heap.size<=a) (L:∀a,P.ownBlock=some a->p.ownBlock=some a\/a9.heap.size<=a) (ax:(l,r) ∉ V) :
  ∃M' I',PoolS M' I' B pb (V ++ [(l,r)]) (BV ++ [bn]) mo mc ms mn/\(∀a,M' a->M a\/w.heap.size<=a)/\(∀a,I' a->I a\/w.heap.size<=a)/\Fr M w B:=by
 obtain⟨v,Z,a1,a2,a3,n⟩:=au;obtain⟨W,X,aa,ab,ac,ad,ae⟩:=an;have aC:pb<w.heap.size:=(yZ.1 k.blk).1;have aB:j<w.heap.size:=k.find.lt;have aj:=λa d=>(k.left.lt a d).2
 have a7:=λa d=>(k.right.lt a d).2
 have F:=λa d=>(k.born.lt a d).2
 have s0:=Y.size;have s6:=f6.size;have s8:=T.size;have az:=G.size;have aA:=C.size;have a4:=λa d=>e1.lt a d
 have a5:=λa d=>e2.lt a d
 have b7:=λa d=>(o8.lt a d).2
 have b9:=λa d=>(ai.lt a d).2
 have ao:Fr M w B:=by
  have a0:Fr M w wr:=Y.any;have a6:=a0.trans f6 (λa _ b=>by subst b;exact Z);have a8:=a6.trans T (λa _ b=>b.elim (a1 a) (λb=>by subst b;exact v));have ak:=a8.trans G (λa _ b=>b.elim (a2 a) (λb=>by subst b;exact v));exact ak.trans C (λa _ b=>b.elim (a3 a) (λb=>by subst b;exact v))
 refine⟨λa=>a=pb\/a=j\/Q.ownBlock=some a\/R.ownBlock=some a\/P.ownBlock=some a,λa=>(I a/\a<w.heap.size)\/u1.ownBlock=some a\/u2.ownBlock=some a,?_,?_,?_,ao⟩
 ·have ag:∀a,w.heap.size<=a->a<wr.heap.size->(a≠j)/\(¬(q.ownBlock=some a\/a=pb))/\(¬(s.ownBlock=some a\/a=pb))/\¬(p.ownBlock=some a\/a=pb):=λa t D =>
   ⟨by omega,λb=>b.elim (λb=>by have:=aj a b;omega) (λb=>by omega),λb=>b.elim (λb=>by have:=a7 a b;omega) (λb=>by omega),λb=>b.elim (λb=>by have:=F a b;omega) (λb=>by omega)⟩
  have ah:∀a,I a->(a≠j)/\(¬(q.ownBlock=some a\/a=pb))/\(¬(s.ownBlock=some a\/a=pb))/\¬(p.ownBlock=some a\/a=pb):=λa d =>
   ⟨λb=>by subst b;exact n _ Z d,λb=>b.elim (λb=>n a (a1 a b) d) (λb=>by subst b;exact n _ v d),λb=>b.elim (λb=>n a (a2 a b) d) (λb=>by subst b;exact n _ v d),
    λb=>b.elim (λb=>n a (a3 a b) d) (λb=>by subst b;exact n _ v d)⟩
  have U:∀(g:Value) (S:List Nat),Nats wr g S->(S≠[]->∀a,g.ownBlock=some a->(a≠j)/\(¬(q.ownBlock=some a\/a=pb))/\(¬(s.ownBlock=some a\/a=pb))/\¬(p.ownBlock=some a\/a=pb))->Nats B g S:=λg S c d =>
   (((c.fr f6 (λh a z=>(d h a z).1)).fr T (λh a z=>(d h a z).2.1)).fr G (λh a z=>(d h a z).2.2.1)).fr C (λh a z=>(d h a z).2.2.2)
  have af:=k.lenB;refine⟨Q,R,P,j,x ++ [u1],y ++ [u2],⟨av,?_,?_,?_,by rw[yX,yX,k.lenL];rfl,by rw[yX,yX,k.lenR];rfl,by rw[yX,yX,af];rfl,?_⟩,?_,?_,.inl rfl,.inr (.inl rfl),λa c=>.inr (.inr (.inl c)),λa c=>.inr (.inr (.inr (.inl c))),λa c=>.inr (.inr (.inr (.inr c))),?_,W,?_,?_,?_,?_,?_,?_⟩
  ·have c:=za3 (za3 o8 G (λa d b=>?_)) C (λa d b=>?_)
   ·rw[yX];exact c
   ·rcases A a d with c|c
    ·exact b.elim (λb=>ac a c b) (λb=>(X a c).1 b)
    ·exact b.elim (λb=>by have:=a7 a b;omega) (λb=>by omega)
   ·rcases A a d with c|c
    ·exact b.elim (λb=>ad a c b) (λb=>(X a c).1 b)
    ·exact b.elim (λb=>by have:=F a b;omega) (λb=>by omega)
  ·have c:=za3 ai C (λa d b=>?_)
   ·rw[yX];exact c
   ·rcases E a d with c|c
    ·exact b.elim (λb=>ae a c b) (λb=>(aa a c).1 b)
    ·exact b.elim (λb=>by have:=F a b;omega) (λb=>by omega)
  ·rw[yX,vZ];exact ay
  ·rw[yc0 V (l,r) ax,<-af]
   exact((aw.fr T (λb=>b.elim (λb=>(X _ b).2 rfl) (λb=>W b.symm))).fr G (λb=>b.elim (λb=>(aa _ b).2 rfl) (λb=>W b.symm))).fr C (λb=>b.elim (λb=>(ab _ b).2 rfl) (λb=>W b.symm))
  ·intro f g o i m
   by_cases K:f<x.length
   ·rw[yV K]at i
    rw[yV (by rw[<-k.lenL];exact K)]at m;obtain⟨N,O⟩:=aq f g o i m;refine⟨U g _ (N.fr0 Y) (λh a d=>ah a (O h a d)),λh a d=>.inl ⟨O h a d,?_⟩⟩;obtain⟨al,H,hl⟩:=N.block h;rw[d]at H;cases H;exact hl
   ·rw[kK (by omega)]at i
    rw[kK (by rw[<-k.lenL];omega),<-k.lenL]at m;cases J:f-x.length with
    | zero =>
     rw[J]at i m;simp at i m;subst i m;exact⟨U _ _ (SliceOf.of_owns e1 rfl) (λ_ a d=>ag _ (a4 a d).1 (a4 a d).2),λ_ a d=>.inr (.inl d)⟩
    | succ am=>rw[J]at i;simp at i
  ·intro f g o i m
   by_cases K:f<y.length
   ·rw[yV K]at i
    rw[yV (by rw[<-k.lenR];exact K)]at m;obtain⟨N,O⟩:=ar f g o i m;refine⟨U g _ (N.fr0 Y) (λh a d=>ah a (O h a d)),λh a d=>.inl ⟨O h a d,?_⟩⟩;obtain⟨al,H,hl⟩:=N.block h;rw[d]at H;cases H;exact hl
   ·rw[kK (by omega)]at i
    rw[kK (by rw[<-k.lenR];omega),<-k.lenR]at m;cases J:f-y.length with
    | zero =>
     rw[J]at i m;simp at i m;subst i m;exact⟨U _ _ (SliceOf.of_owns e2 rfl) (λ_ a d=>ag _ (a5 a d).1 (a5 a d).2),λ_ a d=>.inr (.inr d)⟩
    | succ am=>rw[J]at i;simp at i
  ·intro a hM ap
   have u:(I a/\a<w.heap.size)\/(w.heap.size<=a/\a<wr.heap.size)\/(w.heap.size<=a/\a<wr.heap.size):=ap.imp_right (λc=>c.imp (a4 a) (a5 a));rcases hM with b|b|b|b|b
   ·subst b
    rcases u with c|c|c
    ·exact n _ v c.1
    ·omega
    ·omega
   ·subst b
    rcases u with c|c|c
    ·exact n _ Z c.1
    ·omega
    ·omega
   ·rcases A a b with e|e
    ·have:=aj a e
     rcases u with c|c|c
     ·exact n a (a1 a e) c.1
     ·omega
     ·omega
    ·rcases u with c|c|c
     ·have:=c.2;omega
     ·omega
     ·omega
   ·rcases E a b with e|e
    ·have:=a7 a e
     rcases u with c|c|c
     ·exact n a (a2 a e) c.1
     ·omega
     ·omega
    ·rcases u with c|c|c
     ·have:=c.2;omega
     ·omega
     ·omega
   ·rcases L a b with e|e
    ·have:=F a e
     rcases u with c|c|c
     ·exact n a (a3 a e) c.1
     ·omega
     ·omega
    ·rcases u with c|c|c
     ·have:=c.2;omega
     ·omega
     ·omega
  ·intro a b
   rcases A a b with e|e
   ·exact X a e
   ·exact⟨by omega,by omega⟩
  ·intro a b
   rcases E a b with e|e
   ·exact aa a e
   ·exact⟨by omega,by omega⟩
  ·intro a b
   rcases L a b with e|e
   ·exact ab a e
   ·exact⟨by omega,by omega⟩
  ·intro a t D
   have:=b7 a t;rcases E a D with e|e
   ·rcases A a t with f|f
    ·exact ac a f e
    ·have:=a7 a e;omega
   ·omega
  ·intro a t D
   have:=b7 a t;rcases L a D with e|e
   ·rcases A a t with f|f
    ·exact ad a f e
    ·have:=F a e;omega
   ·omega
  ·intro a t D
   have:=b9 a t;rcases L a D with e|e
   ·rcases E a t with f|f
    ·exact ae a f e
    ·have:=F a e;omega
   ·omega
 ·intro a d
  rcases d with b|b|b|b|b
  ·subst b;exact .inl v
  ·subst b;exact .inl Z
  ·rcases A a b with e|e
   ·exact .inl (a1 a e)
   ·exact .inr (by omega)
  ·rcases E a b with e|e
   ·exact .inl (a2 a e)
   ·exact .inr (by omega)
  ·rcases L a b with e|e
   ·exact .inl (a3 a e)
   ·exact .inr (by omega)
 ·intro a d
  rcases d with b|b|b
  ·exact .inl b.1
  ·exact .inr (a4 a b).1
  ·exact .inr (a5 a b).1
theorem zz4 {M I:Nat->Prop}(pb:Nat)(V:List PL)(BV L R:List Nat)(mo mc ms mn:Value)(a1 a2:Option Addr)(c1 K:Nat)(w:World)(hP:PoolS M I w pb V BV mo mc ms mn)(hL:Nats w (.slice a1 L.length c1) L)(hR:Nats w (.slice a2 R.length K) R)
  (bi:∀h∈L,h<V.length) (bj:∀h∈R,h<V.length) (hl:L.length<1000000000) (hr:R.length<1000000000) (hn:V.length<1000000000) (hb:∀h∈BV,h<1000000000) :
  Calls Tryz.prog 108 #[.pointer (some ⟨pb,0,none⟩),.slice a1 L.length c1,.slice a2 R.length K] w λe w'=>e=.returned (.int .i64 ((za4 V BV L R).2.2:Nat)) ∧
   ∃M' I',PoolS M' I' w' pb (za4 V BV L R).1 (za4 V BV L R).2.1 mo mc ms mn/\(∀d,M' d->M d\/w.heap.size<=d)/\(∀d,I' d->I d\/w.heap.size<=d)/\Fr M w w':=by
 obtain⟨HP,HL,HR,bZ,cf,Hl,Hr,Hn,bd⟩:=Hhp9 hP hL hR bi bj hl hr hn hb;clear hP hL hR bi bj hb;go_enter Tryz.func108,Tryz.ntmps108;go_wp2_with fail;refine(zna a1 c1 L w HL.o (by omega)).mono ?_
 rintro e w1 ⟨g1,p1,rfl,T,f1⟩;have H1:=Hh T;have F1:=Hh f1;clear T f1;go_wp2_with fail;refine(zna a2 K R w1 (HR.o.fr0 F1.o) (by omega)).mono ?_
 rintro e l ⟨g2,p2,rfl,U,f2⟩;have H2:=Hh U;have F2:=Hh f2;clear U f2;obtain⟨a,ax⟩:=eX (zaf L);obtain⟨c,aF⟩:=eX (zaf R);have cC:a.length<=L.length:=by rw[ax];exact zeh L
 have cE:c.length<=R.length:=by rw[aF];exact zeh R
 have T:=H1.o;have U:=H2.o;rw[<-ax]at T ⊢;rw[<-aF]at U ⊢;obtain⟨H1,H2,aO,aP⟩:=Hhp4 T U ax aF;clear T U ax aF;obtain⟨i0,hi,bJ,bK,bL⟩:=info_parts zuf;have aE:=run_make (P:=Tryz.prog) l 43 5 i0 (.int .u8 0) Tryz.underlying43 hi bJ .i64 .i64 0 (4*(a.length+c.length)+1) (by omega) (by omega) (by rw[bL];omega) (by omega);have cF:wrap64 ((a.length:Int)+(c.length:Int))=(a.length:Int)+(c.length:Int):=by unfold wrap64;omega
 have cG:wrap64 (4*((a.length:Int)+(c.length:Int)))=4*((a.length:Int)+(c.length:Int)):=by unfold wrap64;omega
 have aG:wrap64 (4*((a.length:Int)+(c.length:Int))+1)=4*((a.length:Int)+(c.length:Int))+1:=by unfold wrap64;omega
 rw[bK]at aE;have bB:(l.alloc (.cells (madeCells #[.int .u8 0] (4*(a.length+c.length)+1)) 5)).ownsRow l.heap.size 5 1 (.slice (some ⟨l.heap.size,0,none⟩) 0 (4*(a.length+c.length)+1)) 0 [] :=
  yW l _ _ (xW _) (by unfold maxLen;omega) (by simp[madeCells])
 have c9:=Hh bB;have aE:(Instr.makeSlice 43 (.int .i64 0) (.int .i64 (4*((a.length:Int)+(c.length:Int))+1))).run Tryz.prog l=_:=aE;clear hi bJ bK bL bB
 -- what the walk reads of the pool
 have bt:∀h∈a,h<V.length:=λh k=>bZ.o h ((zba L h).1 (by rw[<-aO.o];exact k))
 have bG:∀h∈c,h<V.length:=λh k=>cf.o h ((zba R h).1 (by rw[<-aP.o];exact k))
 have aV:=F1.o.trans F2.o kP;have aW:=HP.o.fr0 aV;obtain⟨lv,rv,bv,C,t,r,A,au,av,ay,az,aA,aB,aC,aD,N,O,W,X,Y,Z,a0⟩:=id aW;obtain⟨ba,bc,rfl,ct,cu,bm⟩:=SliceOf.of_owns (L:=BV) A.born rfl;have bh:BV.length=V.length:=A.lenB;have HB:=Hh (λn (S:Fr NoM l n) (b:Nat) (B:b<BV.length)=>show n.cell? ⟨pb,2,none⟩=some (.slice ba BV.length bc)/\∃j p,ba=some ⟨j,p,none⟩/\n.cell? ⟨j,p+b,none⟩=some (.int .i64 (BV[b]:Int))from by
  refine⟨S.cell (by rw[xX l pb 2 _ _ _ A.blk];rfl) id,?_⟩;obtain⟨j,p,e,aS⟩:=bm b BV[b] (xQ B);exact⟨j,p,e,S.cell aS id⟩)
 have bR:=Hh (λn (S:Fr NoM l n) (b:Nat) (B:b<a.length)=>show ∃j p,g1=some ⟨j,p,none⟩/\n.cell? ⟨j,p+b,none⟩=some (.int .i64 (a[b]:Int))from by
  obtain⟨cg,aS,e,_,_,g⟩:=(SliceOf.of_owns (L:=a) H1.o rfl).fr0 (F2.o.trans S kP);obtain⟨j,p,e2,hc⟩:=g b a[b] (xQ B);cases e
  exact⟨j,p,e2,hc⟩)
 have bS:=Hh (λn (S:Fr NoM l n) (b:Nat) (B:b<c.length)=>show ∃j p,g2=some ⟨j,p,none⟩/\n.cell? ⟨j,p+b,none⟩=some (.int .i64 (c[b]:Int))from by
  obtain⟨cg,aS,e,_,_,g⟩:=(SliceOf.of_owns (L:=c) H2.o rfl).fr0 S;obtain⟨j,p,e2,hc⟩:=g b c[b] (xQ B);cases e
  exact⟨j,p,e2,hc⟩)
 have aI:=Hh bh;clear bh;obtain⟨cs,a7,ap,aL⟩:=Hhp4 aW bt bG aV;clear bt bG aV aW A au av ay az aA aB aC aD N O W X Y Z a0 bm;go_wp2;obtain⟨w3,aG⟩:=eX (l.alloc (.cells (madeCells #[.int .u8 0] (4*(a.length+c.length)+1)) 5):World);have bp:Fr NoM l w3:=by rw[aG];exact(nW l).alloc _
 have b0:=c9.o;rw[<-aG]at b0 ⊢;have bU:=Hh bp;have c8:=Hh b0;clear bp b0 aG aE;go_loopw [7,8,30] (λkv j Q n=>∃(b:Nat) (y:Value),y=kv/\Q=.int .i64 b/\b<=a.length/\j=.int .i64 (zak BV 0 (a.take b):Nat)/\n.ownsRow l.heap.size 5 1 y (keyL (a.take b)).length ((keyL (a.take b)).map encU)/\Fr NoM l n) (λ_ _ Q _=>a.length-(intOf Q).toNat)
 case atStart=>exact⟨0,_,rfl,rfl,yK _,by simp[zak],by simpa [keyL] using c8.o,bU.o⟩
 case round =>
  obtain⟨b,y,rfl,rfl,B,rfl,ai,ae⟩:=hrel;have J:=Hh ai;have q:=Hh ae;clear ai ae;by_cases x:b<a.length
  ·have k:a[b]<BV.length:=by rw[aI.o];exact a7.o _ (y9 _)
   obtain⟨b1,o1,bH,cx⟩:=bR.o _ q.o b x;have ix:=za9 g1 a.length p1 b b1 o1 x bH;clear bH;have ag:=zku (a.take b) (λh k=>by have:=a7.o h (List.mem_of_mem_take k);omega);have cm:(a.take b).length<=a.length:=by rw[kJ];omega
   have ah:(keyL (a.take b)).length<=20000000000:=by omega
   have aj:=zgt BV 0 a b x k;have af:keyL (a.take (b+1))=keyL (a.take b)++d36 a[b] ++ [44]:=by rw[yQ x,zue]
   have cn:a[b]<V.length:=a7.o _ (y9 _);have ak:a[b]<1000000000000:=by omega
   have ac:=zt4 12 a[b] (by decide) (by omega);obtain⟨a6,aQ,aN,aR,aJ,HX⟩:=Hhp6 ah aj af ak ac k;clear ag ah aj af ak ac;go_wp2_with fail;refine(zm9 (base:=l.heap.size) y (keyL (a.take b)) a[b] wr J.o aR.o q.o.size (by have:=a6.o;omega)).mono ?_
   rintro e w4 ⟨v4,rfl,h4,f4⟩;have g4:=q.o.own J.o f4;have H4:=Hh h4;have G4:=Hh g4;clear h4 f4 g4;go_wp2_with (at_builtin;refine zd9 (enc:=encU) l (G4.o.alloc _) rfl _ _ 43 rfl 5 (.int .u8 0) 1 Tryz.underlying43 zuf rfl v4 _ _ rfl (H4.o.alloc _) _ rfl [44] (SliceOf.one encU w4 44 5) (λ_=>rfl) ?c1 (by decide) ?_)
   case c1=>have:=a6.o;have:=aJ.o;simp;omega
   intro v5 w5 D v;obtain⟨cb,bb,ob,aa,ch⟩:=HB.o _ v a[b] k;have ib:=za9 ba BV.length bc a[b] bb ob k aa;have cj:BV[a[b]]<1000000000:=bd.o _ (y9 _);have H5:=Hh D;have F5:=Hh v;clear D v aa;go_wp2;go_roundw
   case rel =>
    refine⟨b+1,v5,rfl,by go_num,by omega,by rw[aQ.o],?_,F5.o⟩;rw[aN.o];simpa [Nat.add_assoc] using H5.o
   case measure=>simp[intOf];omega
  ·have aZ:b=a.length:=by omega
   subst aZ;obtain⟨BN,aU⟩:=eX (zak BV 0 a);have ab:zak BV 0 (a.take a.length)=BN:=by rw[y7,aU]
   have G:=J.o;rw[y7]at G;have HO:=Hh G;have bQ:=Hh aU;rw[ab];clear G aU ab B;have ag:=zku a (λh k=>by have:=a7.o h k;omega);go_wp2_with (at_builtin;refine zd9 (enc:=encU) l (q.o.alloc _) rfl _ _ 43 rfl 5 (.int .u8 0) 1 Tryz.underlying43 zuf rfl y _ _ rfl (HO.o.alloc _) _ rfl [124] (SliceOf.one encU wr 124 5) (λ_=>rfl) ?c1 (by decide) ?_)
   case c1=>simp;omega
   intro v5 w5 D v;have h6:w5.ownsRow l.heap.size 5 1 v5 (keyL a ++ [124]).length ((keyL a ++ [124]).map encU):=by simpa using D
   have H6:=Hh h6;have F5:=Hh v;clear D v h6;go_wp2;go_loopw [7,8,55] (λkv j Q n=>∃(b:Nat) (y:Value),y=kv/\Q=.int .i64 b/\b<=c.length/\j=.int .i64 (zak BV BN (c.take b):Nat)/\n.ownsRow l.heap.size 5 1 y (keyL a ++ [124]++keyL (c.take b)).length ((keyL a ++ [124]++keyL (c.take b)).map encU)/\Fr NoM l n) (λ_ _ Q _=>c.length-(intOf Q).toNat)
   case atStart=>exact⟨0,_,rfl,rfl,yK _,by simp[zak],by simpa [keyL] using H6.o,F5.o⟩
   case round =>
    obtain⟨b,y,rfl,rfl,B,rfl,ai,ae⟩:=hrel;have J:=Hh ai;have q:=Hh ae;clear ai ae;by_cases x:b<c.length
    ·have k:c[b]<BV.length:=by rw[aI.o];exact ap.o _ (y9 _)
     obtain⟨b2,o2,bI,cx⟩:=bS.o _ q.o b x;have ix:=za9 g2 c.length p2 b b2 o2 x bI;clear bI;have ag:=zku (c.take b) (λh k=>by have:=ap.o h (List.mem_of_mem_take k);omega);have cm:(c.take b).length<=c.length:=by rw[kJ];omega
     have ah:(keyL a ++ [124]++keyL (c.take b)).length<=40000000000:=by simp;omega
     have aj:=zgt BV BN c b x k;have af:keyL (c.take (b+1))=keyL (c.take b)++d36 c[b] ++ [44]:=by rw[yQ x,zue]
     have cn:c[b]<V.length:=ap.o _ (y9 _);have ak:c[b]<1000000000000:=by omega
     have ac:=zt4 12 c[b] (by decide) (by omega);obtain⟨a6,aQ,aN,aR,aJ,HX⟩:=Hhp6 ah aj af ak ac k;clear ag ah aj af ak ac;go_wp2_with fail;refine(zm9 (base:=l.heap.size) y (keyL a ++ [124]++keyL (c.take b)) c[b] wr J.o aR.o q.o.size (by have:=a6.o;omega)).mono ?_
     rintro e w4 ⟨v4,rfl,h4,f4⟩;have g4:=q.o.own J.o f4;have H4:=Hh h4;have G4:=Hh g4;clear h4 f4 g4;go_wp2_with (at_builtin;refine zd9 (enc:=encU) l (G4.o.alloc _) rfl _ _ 43 rfl 5 (.int .u8 0) 1 Tryz.underlying43 zuf rfl v4 _ _ rfl (H4.o.alloc _) _ rfl [44] (SliceOf.one encU w4 44 5) (λ_=>rfl) ?c1 (by decide) ?_)
     case c1=>have:=a6.o;have:=aJ.o;simp at *;omega
     intro v5 w5 D v;obtain⟨cb,bb,ob,aa,ch⟩:=HB.o _ v c[b] k;have ib:=za9 ba BV.length bc c[b] bb ob k aa;have cj:BV[c[b]]<1000000000:=bd.o _ (y9 _);have H5:=Hh D;have F5:=Hh v;clear D v aa;go_wp2;go_roundw
     case rel =>
      refine⟨b+1,v5,rfl,by go_num,by omega,by rw[aQ.o],?_,F5.o⟩;rw[aN.o];simpa [Nat.add_assoc] using H5.o
     case measure=>simp[intOf];omega
    ·have aZ:b=c.length:=by omega
     subst aZ;have ab:zak BV BN (c.take c.length)=zak BV (zak BV 0 a) c:=by rw[y7,bQ.o]
     have G:=J.o;rw[y7,show keyL a ++ [124]++keyL c=keyS (a,c)from by simp[keyS]]at G;obtain⟨g3,p3,rfl,cw,_⟩:=zd5 G (by simp[keyS];omega);have ag:=zku a (λh k=>by have:=a7.o h k;omega);have cA:=zku c (λh k=>by have:=ap.o h k;omega);have HK:=Hh G;rw[ab];clear G ab B;obtain⟨lv,rv,bv,C,t,r,hA0,au,av,ay,az,aA,aB,aC,aD,N,O,W,X,Y,Z,a0⟩:=HP.o;have A:=hA0.fr0 (aL.o.trans q.o kP);have bO:=Hh hA0;clear hA0;have c3:wr.cell? ⟨pb,3,none⟩=some (.map (some C)):=by rw[xX wr pb 3 _ _ _ A.blk];rfl
     have aY:∀o,(convert 43 9 (.slice (some ⟨g3,0,none⟩) (keyS (a,c)).length p3)).run Tryz.prog (wr.drewN o)=.ok (encS (keyS (a,c))) (wr.drewN o):=λo=>ya2 (w:=wr.drewN o) HK.o rfl (by simp[Value.ownBlock])
     have F:∀o,(Instr.lookup 126 (.map (some C)) (encS (keyS (a,c))) true).run Tryz.prog (wr.drewN o)=.ok (.tuple #[((zr4 V (keyS (a,c))).map encN).getD (.int .i64 0),.bool (zr4 V (keyS (a,c))).isSome]) (wr.drewN o):=λo =>
      MapF.look (w:=wr.drewN o) A.find (ykt Tryz.underlying9) Tryz.underlying126 (Tryz.zeroValue3 _) (keyS (a,c)) true
     rw[zur]at F;obtain⟨s,bW,bX,c5,m⟩:=Hhp5 A au av (And.intro ay (And.intro az (And.intro aA (And.intro aB (And.intro aC aD))))) (And.intro N (And.intro O (And.intro W (And.intro X (And.intro Y (And.intro Z a0))))));clear A au av ay az aA aB aC aD N O W X Y Z a0;by_cases a3:(a,c)∈V
     ·rw[if_pos a3]at F
      have F:∀o,(Instr.lookup 126 (.map (some C)) (encS (keyS (a,c))) true).run Tryz.prog (wr.drewN o)=.ok (.tuple #[.int .i64 (V.idxOf (a,c):Nat),.bool true]) (wr.drewN o):=F;have ao:=Hh a3;clear a3;go_wp2;go_quiet (fail);go_wp2;go_ret;have hp:za4 V BV L R=(V,BV,V.idxOf (a,c)):=by unfold za4;rw[<-aO.o,<-aP.o,if_pos ao.o]
      rw[hp];have ad:Fr NoM w (wr.drewN nq):=(aL.o.trans q.o kP).trans (M':=NoM) ⟨rfl,rfl,rfl,xW _,λ_ _ _=>rfl⟩ kP;exact⟨rfl,M,I,HP.o.fr0 ad,λd g=>.inl g,λd g=>.inl g,ad.any⟩
     ·rw[if_neg a3]at F
      have F:∀o,(Instr.lookup 126 (.map (some C)) (encS (keyS (a,c))) true).run Tryz.prog (wr.drewN o)=.ok (.tuple #[.int .i64 0,.bool false]) (wr.drewN o):=F;have ao:=Hh a3;clear a3;go_wp2;go_quiet (fail);obtain⟨z,b6⟩:=eX (wr.drewN nq);have ad:Fr NoM wr z:=by rw[b6];exact⟨rfl,rfl,rfl,xW _,λ_ _ _=>rfl⟩
      rw[<-b6];have a5:=Hh ad;clear F aY c3 b6 ad;have K:z.cell? ⟨pb,2,none⟩=some bv:=by rw[xX z pb 2 _ _ _ (a5.o.heap s.o.blk id)];rfl
      have c3:z.cell? ⟨pb,3,none⟩=some (.map (some C)):=by rw[xX z pb 3 _ _ _ (a5.o.heap s.o.blk id)];rfl
      obtain⟨a8,a9,rfl,_⟩:=SliceOf.of_owns (L:=BV) s.o.born rfl;have aY:(convert 43 9 (.slice (some ⟨g3,0,none⟩) (keyS (a,c)).length p3)).run Tryz.prog z.drew=.ok (encS (keyS (a,c))) z.drew:=ya2 (w:=z.drew) (za3 HK.o (a5.o.drew) kP) rfl (by simp[Value.ownBlock]);obtain⟨H,b3,bu,bq⟩:=MapF.store (P:=Tryz.prog) (w:=z.drew) (s.o.find.fr (a5.o.drew) id) (ykt Tryz.underlying9) Tryz.underlying126 (keyS (a,c)) BV.length;have b3:(Instr.mapUpdate 126 (.map (some C)) (encS (keyS (a,c))) (.int .i64 (BV.length:Nat))).run Tryz.prog z.drew=.ok () H:=b3;have c4:=Hh bu;have bV:=Hh bq;clear bu bq;go_upto_region 21 with fail;go_cut []from 86 (λwx=>wx=H)
      case first =>
       go_region_law (fail);all_goals
        go_wp2_with fail;go_meet
        case rel=>rfl
      case rest =>
       subst hcut;obtain⟨H,rfl⟩:=eX wc;clear b3 aY K c3;have ar:Fr (λd=>d=C) wr H:=(a5.o.drew.mono (λ_ _ d=>d.elim)).trans bV.o kP;obtain⟨N,O,W,X,Y,Z,a0⟩:=m.o;have aX:=ar.heap s.o.blk (λe=>N e);have c0:H.cell? ⟨pb,0,none⟩=some lv:=by rw[xX H pb 0 _ _ _ aX];rfl
       have bs:=za3 s.o.left ar (λd f e=>(O d f).2 e);have x:t.length<1000000000:=by rw[s.o.lenL];exact Hn.o
       obtain⟨aM,b9,bY⟩:=Hhp3 ar aX bs;clear ar N O W X Y Z a0 aX bs;go_wp2_with (at_builtin;refine ze0 H rfl _ _ 130 rfl 0 82 (.slice none 0 0) 24 Tryz.underlying130 yku rfl lv t.length t rfl bY.o (.slice g1 a.length p1) rfl rfl ?c1 (by decide) (yK _) ?_)
       case c1=>omega
       intro v7 w7 h7 f7 q7;obtain⟨g7,p7,rfl,_,cy⟩:=zd5 h7 (Nat.succ_pos _);obtain⟨k7,z7,bl,br⟩:=zor (i:=0) (u:=.slice (some ⟨g7,0,none⟩) (t.length+1) p7) b9.o f7 (λe=>(m.o.2.1 pb e).1 rfl);have co:w7.cell? ⟨pb,0,none⟩=some lv:=by rw[k7];rfl
       have cq:=z7 0;have bA:(w7.setCell ⟨pb,0,none⟩ (.slice (some ⟨g7,0,none⟩) (t.length+1) p7)).ownsRow 0 82 1 (.slice (some ⟨g7,0,none⟩) (t.length+1) p7) (t.length+1) (t ++ [.slice g1 a.length p1]):=za3 h7 (Fr.setCell (Fr.refl (λd=>d=pb) w7) ⟨pb,0,none⟩ _ (λ_=>rfl)) (λd f e=>by
        subst e;rcases q7 with g|⟨j,g,E⟩
        ·rw[g]at f;exact(m.o.2.1 _ f).1 rfl
        ·rw[g]at f;cases f
         have:=(yZ.1 b9.o).1;omega)
       have bD:∀d,(Value.slice (some ⟨g7,0,none⟩) (t.length+1) p7).ownBlock=some d->lv.ownBlock=some d\/H.heap.size<=d:=λd f=>by
        rcases q7 with g|⟨j,g,E⟩
        ·rw[g]at f;exact .inl f
        ·rw[g]at f;cases f;exact .inr E
       obtain⟨am,an,bf,cc⟩:=Hhp4 bl br bA bD;clear h7 f7 q7 k7 z7 bl br bA bD c0;obtain⟨w8,b5⟩:=eX (w7.setCell ⟨pb,0,none⟩ (.slice (some ⟨g7,0,none⟩) (t.length+1) p7));rw[<-b5]at am an bf;have c1:w8.cell? ⟨pb,1,none⟩=some rv:=by rw[xX w8 pb 1 _ _ _ am.o];rfl
       have bF:w8.ownsRow 0 82 1 rv r.length r:=za3 (za3 s.o.right aM.o (λd f e=>(m.o.2.2.1 d f).2 e)) an.o (λd f e=>by
        rcases e with e|e
        ·exact m.o.2.2.2.2.1 d e f
        ·exact(m.o.2.2.1 d f).1 e)
       have cD:r.length<1000000000:=by rw[s.o.lenR];exact Hn.o
       have ce:=Hh bF;clear bF;go_upto_region 23 with fail;rw[<-b5];clear b5 co cq;go_wp2_with (at_builtin;refine ze0 w8 rfl _ _ 130 rfl 0 82 (.slice none 0 0) 24 Tryz.underlying130 yku rfl rv r.length r rfl ce.o (.slice g2 c.length p2) rfl rfl ?c1 (by decide) (yK _) ?_)
       case c1=>omega
       intro v9 w9 h9 f9 q9;obtain⟨g9,p9,rfl,_,cz⟩:=zd5 h9 (Nat.succ_pos _);obtain⟨k9,z9,bk,bn⟩:=zor (i:=1) (u:=.slice (some ⟨g9,0,none⟩) (r.length+1) p9) am.o f9 (λe=>(m.o.2.2.1 pb e).1 rfl);have cp:w9.cell? ⟨pb,1,none⟩=some rv:=by rw[k9];rfl
       have cr:=z9 1;have cl:pb<w8.heap.size:=(yZ.1 am.o).1;have bx:(w9.setCell ⟨pb,1,none⟩ (.slice (some ⟨g9,0,none⟩) (r.length+1) p9)).ownsRow 0 82 1 (.slice (some ⟨g9,0,none⟩) (r.length+1) p9) (r.length+1) (r ++ [.slice g2 c.length p2]):=za3 h9 (Fr.setCell (Fr.refl (λd=>d=pb) w9) ⟨pb,1,none⟩ _ (λ_=>rfl)) (λd f e=>by
        subst e;rcases q9 with g|⟨j,g,E⟩
        ·rw[g]at f;exact(m.o.2.2.1 _ f).1 rfl
        ·rw[g]at f;cases f;omega)
       have bE:∀d,(Value.slice (some ⟨g9,0,none⟩) (r.length+1) p9).ownBlock=some d->rv.ownBlock=some d\/w8.heap.size<=d:=λd f=>by
        rcases q9 with g|⟨j,g,E⟩
        ·rw[g]at f;exact .inl f
        ·rw[g]at f;cases f;exact .inr E
       obtain⟨al,aK,be,cd⟩:=Hhp4 bk bn bx bE;clear h9 f9 q9 k9 z9 bk bn bx bE c1 cl;obtain⟨a4,b4⟩:=eX (w9.setCell ⟨pb,1,none⟩ (.slice (some ⟨g9,0,none⟩) (r.length+1) p9));rw[<-b4]at al aK be;have K:a4.cell? ⟨pb,2,none⟩=some (.slice a8 BV.length a9):=by rw[xX a4 pb 2 _ _ _ al.o];rfl
       have bw:a4.ownsRow 0 3 1 (.slice a8 BV.length a9) BV.length (BV.map encN):=za3 (za3 (za3 s.o.born aM.o (λd f e=>(m.o.2.2.2.1 d f).2 e)) an.o (λd f e=>by
        rcases e with e|e
        ·exact m.o.2.2.2.2.2.1 d e f
        ·exact(m.o.2.2.2.1 d f).1 e)) aK.o (λd f e=>by
        rcases e with e|e
        ·exact m.o.2.2.2.2.2.2 d e f
        ·exact(m.o.2.2.2.1 d f).1 e)
       have cB:BV.length<1000000000:=by rw[s.o.lenB];exact Hn.o
       have c6:=Hh bw;clear bw;go_upto_region 24 with fail;rw[<-b4];clear b4 cp cr;go_wp2_with (at_builtin;refine ze0 a4 rfl _ _ 82 rfl 0 3 (.int .i64 0) 8 Tryz.underlying82 zaa rfl (.slice a8 BV.length a9) BV.length (BV.map encN) rfl c6.o (encN (zak BV (zak BV 0 a) c)) rfl rfl ?c1 (by decide) (yK _) ?_)
       case c1=>omega
       intro cI b8 aT bg b7;obtain⟨aq,aH,rfl,_,cv⟩:=zd5 aT (Nat.succ_pos _);obtain⟨bM,bN,aw,bo⟩:=zor (i:=2) (u:=.slice (some ⟨aq,0,none⟩) (BV.length+1) aH) al.o bg (λe=>(m.o.2.2.2.1 pb e).1 rfl);have cH:b8.cell? ⟨pb,2,none⟩=some (.slice a8 BV.length a9):=by rw[bM];rfl
       have cJ:=bN 2;have ck:pb<a4.heap.size:=(yZ.1 al.o).1;have bz:(b8.setCell ⟨pb,2,none⟩ (.slice (some ⟨aq,0,none⟩) (BV.length+1) aH)).ownsRow 0 3 1 (.slice (some ⟨aq,0,none⟩) (BV.length+1) aH) (BV.length+1) (BV.map encN ++ [encN (zak BV (zak BV 0 a) c)]):=za3 aT (Fr.setCell (Fr.refl (λd=>d=pb) b8) ⟨pb,2,none⟩ _ (λ_=>rfl)) (λd f e=>by
        subst e;rcases b7 with g|⟨j,g,E⟩
        ·rw[g]at f;exact(m.o.2.2.2.1 _ f).1 rfl
        ·rw[g]at f;cases f;omega)
       have bC:∀d,(Value.slice (some ⟨aq,0,none⟩) (BV.length+1) aH).ownBlock=some d->(Value.slice a8 BV.length a9).ownBlock=some d\/a4.heap.size<=d:=λd f=>by
        rcases b7 with g|⟨j,g,E⟩
        ·rw[g]at f;exact .inl f
        ·rw[g]at f;cases f;exact .inr E
       obtain⟨bP,bT,c7,ca⟩:=Hhp4 aw bo bz bC;clear aT bg b7 bM bN aw bo bz bC K ck;go_wp2;go_ret;have ci:=aI.o;have hp:za4 V BV L R=(V ++ [(a,c)],BV ++ [zak BV (zak BV 0 a) c],V.length):=by unfold za4;rw[<-aO.o,<-aP.o,if_neg ao.o]
       rw[hp];refine⟨by rw[<-ci];rfl,?_⟩;have aw:=bP.o;exact zvx bO.o (aL.o.trans q.o kP) bW.o bX.o c5.o m.o (za3 H1.o (F2.o.trans q.o kP) kP) (zb6 (za3 H2.o q.o kP) F1.o.size) aM.o c4.o an.o aK.o bT.o aw bf.o be.o c7.o cc.o cd.o ca.o ao.o
theorem znr {M I:Nat->Prop}(pb:Nat)(V:List PL)(BV L R:List Nat)(mo mc ms mn:Value)(b1 o1 c1 b2 o2 c2:Nat)(w:World)(hP:PoolS M I w pb V BV mo mc ms mn)(hL:Nats w (.slice (some ⟨b1,o1,none⟩) L.length c1) L)(hR:Nats w (.slice (some ⟨b2,o2,none⟩) R.length c2) R)
  (hLt:∀x∈L,x<V.length) (hRt:∀x∈R,x<V.length) (hl:L.length<1000000000) (hr:R.length<1000000000) (hn:V.length<1000000000) (hb:∀x∈BV,x<1000000000) :
  Calls Tryz.prog 108 #[.pointer (some ⟨pb,0,none⟩),.slice (some ⟨b1,o1,none⟩) L.length c1,.slice (some ⟨b2,o2,none⟩) R.length c2] w λe w'=>e=.returned (.int .i64 ((za4 V BV L R).2.2:Nat)) ∧
   ∃M' I',PoolS M' I' w' pb (za4 V BV L R).1 (za4 V BV L R).2.1 mo mc ms mn/\(∀q,M' q->M q\/w.heap.size<=q)/\(∀q,I' q->I q\/w.heap.size<=q)/\Fr M w w' :=
 zz4 pb V BV L R mo mc ms mn (some ⟨b1,o1,none⟩) (some ⟨b2,o2,none⟩) c1 c2 w hP hL hR hLt hRt hl hr hn hb
theorem yf0:(Tryz.prog.info? 170).map (λa=>(a.zero,a.size,a.bytes))=some (some (.agg #[.int .i64 0,.slice none 0 0,.slice none 0 0]),3,56):=by kernel_rfl
def znf (A:List Nat)(x:Nat):Option Nat:=if x∈A then some (A.idxOf x)else none
theorem yb7 (A:List Nat)(x:Nat)(c:x ∉ A):upd (znf A) x A.length=znf (A ++ [x]):=by funext y;unfold upd znf;by_cases a:y=x;{subst a;simp[List.idxOf_append,c]};{by_cases b:y∈A;{simp[a,b,List.idxOf_append]};{simp[a,b]}}
theorem zvs {A L:List Nat}(b:∀a∈L,a∈A):zk4 (znf A) L=L.map λa=>A.idxOf a:=by unfold zk4;refine uQ λa c=>?_;unfold znf;rw[if_pos (b a c)];rfl
def RowB (w:World)(q:Nat):Prop:=∃a:Array Value,w.heap[q]?=some (.cells a 3 (0,0))
theorem RowB.fr {M:Nat->Prop}{w b:World}{q:Nat}(a:RowB w q)(d:Fr M w b)(e:¬M q):RowB b q:=by obtain⟨c,a⟩:=a;exact⟨c,d.heap a e⟩
theorem RowB.of_owns {w:World}{base g n cap:Nat}{xs:List Value}(b:w.ownsRow base 3 1 (.slice (some ⟨g,0,none⟩) n cap) n xs):RowB w g:=by rcases b.2 with ⟨c,_⟩|⟨h,f,a,e,i,d,k,j,l,m⟩;{cases c};{cases e;exact⟨a,d⟩}
theorem zoq (v:Value)(L A:List Nat)(rb:Nat)(w:World)(hL:Nats w v L)(hR:MapF encN encN w rb (znf A))(hA:∀x∈L,x∈A)(hu:L.Pairwise (· < ·))(hl:L.length<1000000000) : Calls Tryz.prog 149 #[v,.map (some rb)] w λe w'=>∃g,e=.returned (.slice (some ⟨g,0,none⟩) L.length L.length)/\Nats w' (.slice (some ⟨g,0,none⟩) L.length L.length) (zgh A L)/\w.heap.size<=g/\g<w'.heap.size/\Fr NoM w w'/\RowB w' g:=by refine(yb6 v L rb (znf A) w hL hR hl).mono ?_;rintro e w' ⟨g,rfl,h,f⟩;have hnd:(L.map λx=>A.idxOf x).Nodup:=by{refine List.nodup_iff_pairwise_ne.2 (List.pairwise_map.2 (hu.imp_of_mem λ{a b} ha hb hlt e=>?_));have h1:=(zim (hA a ha)).2;have h2:=(zim (hA b hb)).2;rw[e,h2]at h1;omega};(rw[zvs hA,zvf _ hnd]at h;have hx:(ints (zaf (L.map λx=>A.idxOf x))).map encI=(zgh A L).map encN:=by simp[ints,encN,encI,Function.comp_def,zgh]);rw[hx]at h;exact⟨g,rfl,SliceOf.of_owns h rfl,(h.lt g rfl).1,(h.lt g rfl).2,f,RowB.of_owns h⟩
def zaz (NV:List (Value × Value)):List Nat:=(zau NV).filterMap Value.ownBlock
theorem zdx (NV:List (Value × Value))(l r:Value):zaz (NV ++ [(l,r)])=zaz NV ++ [l,r].filterMap Value.ownBlock:=by simp[zaz,zau]
theorem zf9 {NV:List (Value × Value)}{j:Nat}{x:Value × Value}(d:NV[j]?=some x):(∀a,x.1.ownBlock=some a->a∈zaz NV)/\∀a,x.2.ownBlock=some a->a∈zaz NV:=by have c:=xK d;constructor;{intro a b;exact List.mem_filterMap.2 ⟨x.1,List.mem_flatMap.2 ⟨x,c,by simp⟩,b⟩};{intro a b;exact List.mem_filterMap.2 ⟨x.2,List.mem_flatMap.2 ⟨x,c,by simp⟩,b⟩}
theorem zre (l r:Value)(g:∀d,l.ownBlock=some d->r.ownBlock≠some d):([l,r].filterMap Value.ownBlock).Nodup:=by cases b:l.ownBlock with| none=>cases a:r.ownBlock <;> simp[List.filterMap_cons,b,a]| some c =>{cases a:r.ownBlock with| none=>simp[List.filterMap_cons,b,a]| some e =>{have h:c≠e:=λf=>g c b (by rw[a,f]);simp[List.filterMap_cons,b,a,h]}}
theorem zih {l r:Value}{q:Nat}(c:q∈[l,r].filterMap Value.ownBlock):l.ownBlock=some q\/r.ownBlock=some q:=by obtain⟨d,b,a⟩:=List.mem_filterMap.1 c;simp at b;rcases b with rfl|rfl;{exact .inl a};{exact .inr a}
structure NodesN (D:Nat) (w:World) (v:Value) (FN:List PL) (NV:List (Value × Value)):Prop where
 row:w.ownsRow D 85 2 v NV.length (zau NV)
 len:NV.length=FN.length
 nats:∀(j:Nat) (x:Value × Value) (y:PL),NV[j]?=some x->FN[j]?=some y->Nats w x.1 y.1/\Nats w x.2 y.2
 blk:∀q∈zaz NV,D<=q/\q<w.heap.size/\v.ownBlock≠some q
 sep:(zaz NV).Nodup
 thaw:∀q∈zaz NV,RowB w q
def NodesS (D:Nat)(w:World)(v:Value)(a:List PL):Prop:=∃b,NodesN D w v a b
theorem NodesN.fr {M:Nat->Prop}{D:Nat}{w j:World}{v:Value}{f:List PL}{NV:List (Value × Value)}(b:NodesN D w v f NV)(d:Fr M w j)(e:∀a,D<=a->a<w.heap.size->¬M a):NodesN D j v f NV:=by refine⟨za3 b.row d (λa c=>e a (b.row.lt a c).1 (b.row.lt a c).2),b.len,λl o p g k=>?_,λa c=>⟨(b.blk a c).1,vK (b.blk a c).2.1 d.size,(b.blk a c).2.2⟩,b.sep,λa c=>(b.thaw a c).fr d (e a (b.blk a c).1 (b.blk a c).2.1)⟩;obtain⟨m,n⟩:=b.nats l o p g k;obtain⟨h,i⟩:=zf9 g;exact⟨m.fr d (λ_ a c=>e a (b.blk a (h a c)).1 (b.blk a (h a c)).2.1),n.fr d (λ_ a c=>e a (b.blk a (i a c)).1 (b.blk a (i a c)).2.1)⟩
theorem NodesS.fr {M:Nat->Prop}{D:Nat}{w d:World}{v:Value}{c:List PL}(a:NodesS D w v c)(g:Fr M w d)(f:∀b,D<=b->b<w.heap.size->¬M b):NodesS D d v c:=by obtain⟨e,a⟩:=a;exact⟨e,a.fr g f⟩
theorem NodesS.fr0 {D:Nat}{w b:World}{v:Value}{a:List PL}(c:NodesS D w v a)(d:Fr NoM w b):NodesS D b v a:=c.fr d (λ_ _ _ e=>e)
theorem NodesS.base {D D':Nat}{w:World}{v:Value}{b:List PL}(a:NodesS D w v b)(c:D'<=D):NodesS D' w v b:=by obtain⟨f,a⟩:=a;exact⟨f,zb6 a.row c,a.len,a.nats,λe d=>⟨kQ c (a.blk e d).1,(a.blk e d).2⟩,a.sep,a.thaw⟩
theorem NodesS.made (w:World)(n:Nat)(c:n<=9223372036854775807)(a:Array Value)(b:a.size=n*2):NodesS w.heap.size (w.alloc (.cells a 85)) (.slice (some ⟨w.heap.size,0,none⟩) 0 n) [] :=
 ⟨[],⟨rfl,.inr ⟨_,n,a,rfl,xW _,xJ w _,yK _,c,b,by simp[zau]⟩⟩,rfl,by simp,by simp[zaz,zau],by simp[zaz,zau],by simp[zaz,zau]⟩
theorem NodesN.snoc {D:Nat}{w k:World}{v g:Value}{p:List PL}{x:PL}{l r:Value}{NV:List (Value × Value)}(b:NodesN D w v p NV) (h:Nats w l x.1/\∀a,l.ownBlock=some a->D<=a/\a<w.heap.size/\v.ownBlock≠some a) (i:Nats w r x.2/\∀a,r.ownBlock=some a->D<=a/\a<w.heap.size/\v.ownBlock≠some a) (H:∀a,l.ownBlock=some a->r.ownBlock≠some a) (t:∀a∈zaz NV,l.ownBlock≠some a/\r.ownBlock≠some a) (I:∀a,l.ownBlock=some a\/r.ownBlock=some a->RowB w a) (u:k.ownsRow D 85 2 g (NV.length+1) (zau NV ++ [l,r])) (c:Fr (Own1 v) w k) (f:g.ownBlock=v.ownBlock\/∃m,g.ownBlock=some m/\w.heap.size<=m):NodesN D k g (p ++ [x]) (NV ++ [(l,r)]):=by have n:∀a,(D<=a/\a<w.heap.size/\v.ownBlock≠some a)->(D<=a/\a<k.heap.size/\g.ownBlock≠some a):=λa ⟨B,C,E⟩=>⟨B,vK C c.size,λd=>by{rcases f with f|⟨m,f,N⟩;{exact E (f ▸ d)};{rw[f]at d;cases d;omega}}⟩;(have F:zau NV ++ [l,r]=zau (NV ++ [(l,r)]):=by simp[zau]);rw[F]at u;refine⟨by rw[yX];exact u,by simp[b.len],λo q y e j=>?_,λa hq=>?_,?_,λa hq=>?_⟩;{by_cases s:o<NV.length;{rw[yV s]at e;rw[yV (by rw[<-b.len];exact s)]at j;obtain⟨L,M⟩:=b.nats o q y e j;obtain⟨J,K⟩:=zf9 e;exact⟨L.fr c (λ_ a hq=>(b.blk a (J a hq)).2.2),M.fr c (λ_ a hq=>(b.blk a (K a hq)).2.2)⟩};{(have G:o=NV.length:=by have:=(xV.1 e).1;simp at this;omega);(subst G;have z:q=(l,r):=by simpa using e.symm);(have A:y=x:=by rw[b.len]at j;simpa using j.symm);subst z;subst A;exact⟨h.1.fr c (λ_ a hq=>(h.2 a hq).2.2),i.1.fr c (λ_ a hq=>(i.2 a hq).2.2)⟩}};{rw[zdx,y6]at hq;rcases hq with hq|hq;{exact n a (b.blk a hq)};{rcases zih hq with hq|hq;{exact n a (h.2 a hq)};{exact n a (i.2 a hq)}}};{rw[zdx,List.nodup_append];refine⟨b.sep,zre l r H,λa hq O hp d=>?_⟩;subst d;rcases zih hp with hp|hp;{exact(t a hq).1 hp};{exact(t a hq).2 hp}};{rw[zdx,y6]at hq;rcases hq with hq|hq;{exact(b.thaw a hq).fr c (b.blk a hq).2.2};{refine(I a (zih hq)).fr c ?_;rcases zih hq with hq|hq;{exact(h.2 a hq).2.2};{exact(i.2 a hq).2.2}}}
theorem NodesS.nodeL {D:Nat}{w:World}{v:Value}{c:List PL}(a:NodesS D w v c):NodeL (D<=·) encN w v c:=by obtain⟨g,a⟩:=a;have h:NodeRow (D<=·) D w v c:=⟨g,a.row,a.len,λj o p f i=>by{obtain⟨m,n⟩:=a.nats j o p f i;obtain⟨k,l⟩:=zf9 f;exact⟨m,n,λ_ b e=>(a.blk b (k b e)).1,λ_ b e=>(a.blk b (l b e)).1⟩}⟩;exact h.nodeL (λ_ d=>d) (λ_ d=>d)
theorem NodesS.nil (D:Nat)(w:World):NodesS D w (.slice none 0 0) []:=⟨[],⟨rfl,.inl ⟨rfl,rfl⟩⟩,rfl,by simp,by simp[zaz,zau],by simp[zaz,zau],by simp[zaz,zau]⟩
def fG (V:List PL)(A G:List Nat)(i:Nat):PL:=if i∈G then zc2 A (za5 V i)else ([],[])
def zce (b c:Nat->Value)(G:List Nat):List Nat:=(G.flatMap λa=>[b a,c a]).filterMap Value.ownBlock
theorem zeg (a b:Nat->Value)(G c:List Nat):zce a b (G++c)=zce a b G++zce a b c:=by simp[zce]
theorem zk9 (a b:Nat->Value)(x:Nat):zce a b [x]=[a x,b x].filterMap Value.ownBlock:=by simp[zce]
theorem zx7 {e f:Nat->Value}{G:List Nat}{q:Nat}(g:q∈zce e f G):∃a∈G,(e a).ownBlock=some q\/(f a).ownBlock=some q:=by obtain⟨h,b,c⟩:=List.mem_filterMap.1 g;obtain⟨a,d,b⟩:=List.mem_flatMap.1 b;simp at b;rcases b with rfl|rfl;{exact⟨a,d,.inl c⟩};{exact⟨a,d,.inr c⟩}
theorem zv3 {lv rv:Nat->Value}{G H:List Nat}(h:G.Perm H):(zce lv rv G).Perm (zce lv rv H):=(h.flatMap_right _).filterMap _
structure ERow (Z:Nat) (w:World) (v:Value) (G:List Nat) (lv rv:Nat->Value) (f:Nat->PL):Prop where
 row:w.ownsRow Z 170 3 v G.length (zi1 lv rv G)
 left:∀i,Nats w (lv i) (f i).1/\∀q,(lv i).ownBlock=some q->Z<=q/\q<w.heap.size/\v.ownBlock≠some q
 right:∀i,Nats w (rv i) (f i).2/\∀q,(rv i).ownBlock=some q->Z<=q/\q<w.heap.size/\v.ownBlock≠some q
 sep:(zce lv rv G).Nodup
 thaw:∀i q,(lv i).ownBlock=some q\/(rv i).ownBlock=some q->RowB w q
theorem ERow.fr {M:Nat->Prop}{h:Nat}{w k:World}{v:Value}{G:List Nat}{i j:Nat->Value}{f:Nat->PL}(c:ERow h w v G i j f)(e:Fr M w k)(g:∀a,h<=a->a<w.heap.size->¬M a):ERow h k v G i j f :=
 ⟨za3 c.row e (λa b=>g a (c.row.lt a b).1 (c.row.lt a b).2),
  λd=>⟨(c.left d).1.fr e (λ_ a b=>g a ((c.left d).2 a b).1 ((c.left d).2 a b).2.1),λa b=>⟨((c.left d).2 a b).1,vK ((c.left d).2 a b).2.1 e.size,((c.left d).2 a b).2.2⟩⟩,
  λd=>⟨(c.right d).1.fr e (λ_ a b=>g a ((c.right d).2 a b).1 ((c.right d).2 a b).2.1),λa b=>⟨((c.right d).2 a b).1,vK ((c.right d).2 a b).2.1 e.size,((c.right d).2 a b).2.2⟩⟩,c.sep,λd a b=>(c.thaw d a b).fr e (by
   rcases b with b|b
   ·exact g a ((c.left d).2 a b).1 ((c.left d).2 a b).2.1
   ·exact g a ((c.right d).2 a b).1 ((c.right d).2 a b).2.1)⟩
def setV (f:Nat->Value)(x:Nat)(v:Value)(i:Nat):Value:=if i=x then v else f i
theorem yfd (a b:Nat->Value)(G:List Nat)(x:Nat)(l r:Value)(e:x ∉ G):zi1 (setV a x l) (setV b x r) (G ++ [x])=zi1 a b G ++ [encN x,l,r]:=by unfold zi1;rw[List.flatMap_append];have d:G.flatMap (enc3 (setV a x l) (setV b x r))=G.flatMap (enc3 a b):=by{rw[List.flatMap_def,List.flatMap_def];congr 1;refine uQ λh f=>?_;have g:¬h=x:=λc=>e (c ▸ f);simp[enc3,setV,g]};rw[d];simp[enc3,setV]
theorem zxx (a b:Nat->Value)(G:List Nat)(x:Nat)(l r:Value)(g:x ∉ G):zce (setV a x l) (setV b x r) (G ++ [x])=zce a b G ++ [l,r].filterMap Value.ownBlock:=by rw[zeg,zk9];have e:G.flatMap (λc=>[setV a x l c,setV b x r c])=G.flatMap (λc=>[a c,b c]):=by{rw[List.flatMap_def,List.flatMap_def];congr 1;refine uQ λj h=>?_;have i:¬j=x:=λd=>g (d ▸ h);simp[setV,i]};(have f:zce (setV a x l) (setV b x r) G=zce a b G:=by unfold zce;rw[e]);rw[f];simp[setV]
theorem ERow.snoc {g:Nat}{w f t:World}{v k:Value}{G:List Nat}{q s:Nat->Value}{V:List PL}{A:List Nat}{x:Nat}{l r:Value}(m:ERow g w v G q s (fG V A G))(z:x ∉ G)(D:Fr NoM w f) (F:∀a,l.ownBlock=some a->r.ownBlock≠some a) (E:∀a,l.ownBlock=some a\/r.ownBlock=some a->w.heap.size<=a) (K:∀a,l.ownBlock=some a\/r.ownBlock=some a->RowB f a) (n:Nats f l (zc2 A (za5 V x)).1/\∀a,l.ownBlock=some a->g<=a/\a<f.heap.size/\v.ownBlock≠some a) (p:Nats f r (zc2 A (za5 V x)).2/\∀a,r.ownBlock=some a->g<=a/\a<f.heap.size/\v.ownBlock≠some a) (H:t.ownsRow g 170 3 k (G.length+1) (zi1 q s G ++ [encN x,l,r])) (i:Fr (Own1 v) f t) (j:k.ownBlock=v.ownBlock\/∃u,k.ownBlock=some u/\f.heap.size<=u):ERow g t k (G ++ [x]) (setV q x l) (setV s x r) (fG V A (G ++ [x])):=by have e:=m.fr D (λ_ _ _ a=>a);have o:∀a,(g<=a/\a<f.heap.size/\v.ownBlock≠some a)->(g<=a/\a<t.heap.size/\k.ownBlock≠some a):=λa ⟨e,B,C⟩=>⟨e,vK B i.size,λd=>by{rcases j with j|⟨u,j,L⟩;{exact C (j ▸ d)};{rw[j]at d;cases d;omega}}⟩;have J:(zce (setV q x l) (setV s x r) (G ++ [x])).Nodup:=by{rw[zxx _ _ _ _ _ _ z,List.nodup_append];refine⟨m.sep,zre l r F,λa b M I d=>?_⟩;subst d;have e:=E a (zih I);obtain⟨c,_,y|y⟩:=zx7 b;{have:=((m.left c).2 a y).2.1;omega};{have:=((m.right c).2 a y).2.1;omega}};refine⟨by rw[yX,yfd _ _ _ _ _ _ z];exact H,λc=>?_,λc=>?_,J,λc a b=>?_⟩;{by_cases d:c=x;{subst d;have h:fG V A (G ++ [c]) c=zc2 A (za5 V c):=if_pos (by simp);rw[h];simp only[setV,if_true];exact⟨n.1.fr i (λ_ a b=>(n.2 a b).2.2),λa b=>o a (n.2 a b)⟩};{(have h:fG V A (G ++ [x]) c=fG V A G c:=by unfold fG;simp[d]);rw[h];simp only[setV,if_neg d];exact⟨(e.left c).1.fr i (λ_ a b=>((e.left c).2 a b).2.2),λa b=>o a ((e.left c).2 a b)⟩}};{by_cases d:c=x;{subst d;have h:fG V A (G ++ [c]) c=zc2 A (za5 V c):=if_pos (by simp);rw[h];simp only[setV,if_true];exact⟨p.1.fr i (λ_ a b=>(p.2 a b).2.2),λa b=>o a (p.2 a b)⟩};{(have h:fG V A (G ++ [x]) c=fG V A G c:=by unfold fG;simp[d]);rw[h];simp only[setV,if_neg d];exact⟨(e.right c).1.fr i (λ_ a b=>((e.right c).2 a b).2.2),λa b=>o a ((e.right c).2 a b)⟩}};{by_cases d:c=x;{subst d;simp only[setV,if_true]at b;refine(K a b).fr i ?_;rcases b with b|b;{exact(n.2 a b).2.2};{exact(p.2 a b).2.2}};{simp only[setV,if_neg d]at b;refine(e.thaw c a b).fr i ?_;rcases b with b|b;{exact((e.left c).2 a b).2.2};{exact((e.right c).2 a b).2.2}}}
theorem ERow.made (w:World)(V:List PL)(A:List Nat):ERow w.heap.size (w.alloc (.cells #[] 170)) (.slice (some ⟨w.heap.size,0,none⟩) 0 0) [] (λ_=>.slice none 0 0) (λ_=>.slice none 0 0) (fG V A []) :=
 ⟨yW w #[] 0 (xW _) (by decide) (by simp),λb=>⟨⟨none,0,rfl,xW _,by decide,by simp[fG]⟩,λc a=>by simp[Value.ownBlock]at a⟩,λb=>⟨⟨none,0,rfl,xW _,by decide,by simp[fG]⟩,λc a=>by simp[Value.ownBlock]at a⟩,by simp[zce],λb c a=>by simp[Value.ownBlock]at a⟩
theorem zgq (n o:Value)(A B:List Int)(w:World)(f:Ints w n A)(g:Ints w o B) : Calls Tryz.prog 113 #[n,o] w λe O=>e=.returned (.bool (decide (A=B)))/\∃h,O=w.drewN h:=by obtain⟨z,C,rfl,P,Q,f⟩:=f;obtain⟨F,G,rfl,R,S,g⟩:=g;have u:=Hh f;clear f;have v:=Hh g;clear g;by_cases d:A.length=B.length;{(have K:((A.length:Int) != (B.length:Int))=false:=by simp[d]);have b:A.take A.length=B.take A.length->decide (A=B)=true:=λp=>by{rw[y7,d,y7]at p;simp[p]};have y:=Hh d;clear d;have x:=Hh b;clear b;go_enter Tryz.func113,Tryz.ntmps113;go_wp2;go_loopw [5] (λk wr=>∃a h:Nat,a<=A.length/\k=.int .i64 a/\A.take a=B.take a/\wr=w.drewN h) (λk _=>A.length-(intOf k).toNat);(case atStart=>exact⟨0,0,by omega,rfl,rfl,rfl⟩);case round =>(obtain⟨a,h,T,rfl,t,rfl⟩:=hrel;have l:=Hh t;clear t;by_cases j:a<A.length;{(have s:a<B.length:=by rw[<-y.o];exact j);obtain⟨D,M,q,H⟩:=u.o a A[a] (by simp);obtain⟨E,N,r,I⟩:=v.o a B[a] (by simp);have U:=za9 z A.length C a D M j q;have V:=za9 F B.length G a E N s r;unfold encI at H I;clear q r;by_cases c:A[a]=B[a];{(have L:(A[a] != B[a])=false:=by simp[c]);have m:=Hh c;clear c;go_wp2;go_quiet (fail);go_wp2;go_roundw;(case rel=>exact⟨a+1,_,by omega,by go_num,by rw[yQ j,yQ s,l.o,m.o],rfl⟩);case measure=>simp[intOf];omega};{(have L:(A[a] != B[a])=true:=by simp[c]);have b:decide (A=B)=false:=by{(have:A≠B:=λe=>by subst e;exact c rfl);simp[this]};have m:=Hh c;clear c;have i:=Hh b;clear b;go_wp2;go_quiet (fail);go_wp2;go_ret;exact⟨by rw[i.o];rfl,_,World.drewN_drewN _ _ _⟩}};{go_wp2;(go_ret;have J:a=A.length:=by omega);subst J;exact⟨by rw[x.o l.o];rfl,_,rfl⟩})};{(have K:((A.length:Int) != (B.length:Int))=true:=by rw[bne_iff_ne];omega);have b:decide (A=B)=false:=by{have:A≠B:=λe=>d (by rw[e]);simp[this]};have i:=Hh b;clear b d;go_enter Tryz.func113,Tryz.ntmps113;go_wp2;go_ret;exact⟨by rw[i.o];rfl,0,rfl⟩}
def zvi (a:List Nat)(x:Nat):Option Bool:=if x∈a then some true else none
theorem zrb (a:List Nat)(x:Nat):upd (zvi a) x true=zvi (a ++ [x]):=by funext y;unfold upd zvi;by_cases b:y=x;{subst b;simp};{simp[b]}
theorem yi8 (a:Option Addr)(n c k b d:Nat)(f:k<n)(e:a=some ⟨b,d,none⟩)(w:World) : (Instr.indexAt 130 (.slice a n c) (.int .i64 (k:Int))).run Tryz.prog w=.ok (.pointer (some ⟨b,d+k,none⟩)) w:=by subst e;go_simp
theorem ydb (a e:Option Addr)(n c m d:Nat)(b:World):(Instr.index 165 (.agg #[.slice a n c,.slice e m d]) (.int .i64 0)).run Tryz.prog b=.ok (.slice a n c) b:=by simp[Instr.index,asIntOf,run_underlying Tryz.underlying165,part,Tryz.sizeOf82]
theorem yda (a e:Option Addr)(n c m d:Nat)(b:World):(Instr.index 165 (.agg #[.slice a n c,.slice e m d]) (.int .i64 1)).run Tryz.prog b=.ok (.slice e m d) b:=by simp[Instr.index,asIntOf,run_underlying Tryz.underlying165,part,Tryz.sizeOf82]
structure PInv (V:List PL) (R Q:List Nat):Prop where
 nodup:Q.Nodup
 reach:∀x∈Q,ReachV V R x
theorem PInv.add {V:List PL}{R b:List Nat}{x:Nat}(c:PInv V R b)(h:ReachV V R x)(g:x ∉ b):PInv V R (b ++ [x]) :=
 ⟨List.nodup_append.2 ⟨c.nodup,by simp,λj f k d e=>by simp at d;subst d;subst e;exact g f⟩,λi a=>by
  rw[y6,x9]at a;rcases a with a|rfl
  ·exact c.reach i a
  ·exact h⟩
theorem PInv.len {V:List PL}{R f:List Nat}(h:PInv V R f)(k:∀a∈R,a<V.length)(j:∀(m:Nat) (c:PL),V[m]?=some c->(∀g∈c.1,g<V.length)/\∀g∈c.2,g<V.length):(∀a∈f,a<V.length)/\f.length<=V.length:=by have l:∀a,ReachV V R a->a<V.length:=λa b=>by{induction b with| root b=>exact k _ b| @left a c _ d e =>{rw[xY,xQ e]at d;exact(j a _ (xQ e)).1 c d}| @right a c _ d e =>{rw[xY,xQ e]at d;exact(j a _ (xQ e)).2 c d}};have i:∀a∈f,a<V.length:=λa b=>l a (h.reach a b);refine⟨i,?_⟩;have:=h.nodup.length_le_of_subset (l₂:=List.range V.length) (λa b=>kZ.2 (i a b));simpa using this
structure Seen (w0 w:World) (v:Value) (Q:List Nat):Prop where
 row:w.ownsRow (w0.heap.size+1) 3 1 v Q.length (Q.map encN)
 seen:MapF encN encB w w0.heap.size (zvi Q)
 fr:Fr NoM w0 w
theorem Seen.look {b w:World}{v:Value}{a:List Nat}(c:Seen b w v a)(x:Nat):(Instr.lookup 164 (.map (some b.heap.size)) (.int .i64 (x:Int)) false).run Tryz.prog w=.ok (.bool (decide (x∈a))) w:=by have:=MapF.look (P:=Tryz.prog) c.seen (KeyAt.nat Tryz.underlying3) Tryz.underlying164 (Tryz.zeroValue4 _) x false;simp only[Bool.false_eq_true,if_false]at this;rw[show(.int .i64 (x:Int):Value)=encN x from rfl,this];unfold zvi;by_cases d:x∈a <;> simp[d,encB]
theorem zos {M I:Nat->Prop}(pb:Nat)(V:List PL)(BV R:List Nat)(mo mc ms mn rv:Value)(w:World)(hP:PoolS M I w pb V BV mo mc ms mn)(hR:Nats w rv R)(aY:∀a∈R,a<V.length)
  (b7:∀(g:Nat) (a6:PL),V[g]?=some a6->(∀m∈a6.1,m<V.length)/\∀m∈a6.2,m<V.length) (bY:R.length<1000000000) (hn:V.length<1000000000) (b5:∀a6∈V,a6.1.length<1000000000/\a6.2.length<1000000000) :
  Calls Tryz.prog 106 #[.pointer (some ⟨pb,0,none⟩),rv] w λe w'=>∃(p q:Nat) (b:List Nat),e=.returned (.slice (some ⟨p,0,none⟩) b.length q)/\w'.ownsRow w.heap.size 3 1 (.slice (some ⟨p,0,none⟩) b.length q) b.length (b.map encN)/\b.Nodup/\(∀a,a∈b↔ReachV V R a)/\Fr NoM w w':=by
 obtain⟨ra,rc,rfl,bW,bX,b9⟩:=id hR;obtain⟨HP,bn,aD,aG,Hn,bg⟩:=Hhp6 hP b9 aY b7 hn b5;have bD:∀(aw:TypeId) (w:World),(Instr.makeMap aw none).run Tryz.prog w=.ok (.map (some w.heap.size)) (w.alloc (.map #[] 0)):=λaw w=>run_makeMap aw w
 clear hP hR b9 aY b7 b5;go_enter Tryz.func106,Tryz.ntmps106;go_wp2;obtain⟨w1,an⟩:=eX ((w.alloc (.map #[] 0)).alloc (.cells #[] 3));have bc:Seen w w1 (.slice (some ⟨w.heap.size+1,0,none⟩) 0 0) []:=by
  refine⟨?_,?_,by rw[an];exact((nW w).alloc _).alloc _⟩
  ·have o:=yW (base:=w.heap.size+1) (e:=3) (size:=1) (w.alloc (.map #[] 0)) #[] 0 (by simp) (by decide) (by simp)
   simp only[xZ]at o;rw[an];exact o
  ·rw[an]
   have o:=(MapF.made encN encB w).fr ((nW _).alloc (.cells #[] 3)) id;rwa [show zvi []=λ_=>none from funext λa=>by simp[zvi]]
 rw[<-an];have ap:=Hh bc;clear bc an bD;go_loopw [6,18] (λT m i=>∃(c:Nat) (n:Value) (b:List Nat),n=T/\m=.int .i64 c/\c<=R.length/\Seen w i n b/\PInv V R b/\(∃p q,n=.slice (some ⟨p,0,none⟩) b.length q)/\∀a∈R.take c,a∈b) (λ_ m _=>R.length-(intOf m).toNat)
 case atStart=>exact⟨0,_,[],rfl,rfl,yK _,ap.o,⟨by simp,by simp⟩,⟨_,_,rfl⟩,by simp⟩
 case round =>
  obtain⟨c,n,b,rfl,rfl,hk,l,z,⟨p,q,S⟩,A⟩:=hrel;subst S;by_cases af:c<R.length
  ·obtain⟨b1,o1,ha,d1⟩:=bn.o c R[c] (xQ _)
   have c1:wr.cell? ⟨b1,o1+c,none⟩=some (.int .i64 (R[c]:Int)):=l.fr.cell d1 id;have ix:=za9 ra R.length rc c b1 o1 af ha;have ae:=l.look R[c];have ai:ReachV V R R[c]:=.root (y9 _);have ag:∀C:List Nat,(∀a∈b,a∈C)->R[c]∈C->∀a∈R.take (c+1),a∈C:=λC h1 h2 a d=>by
    rw[yQ af,y6,x9]at d;rcases d with d|rfl
    ·exact h1 a (A a d)
    ·exact h2
   obtain⟨t,x,aC,a8⟩:=Hhp4 l z ai ag;clear l z A ai ag ha d1;by_cases d:R[c]∈b
   ·rw[vJ d]at ae
    have F:=Hh d;clear d;go_wp2;go_roundw
    case rel=>exact⟨c+1,_,b,rfl,by go_num,by omega,t.o,x.o,⟨_,_,rfl⟩,a8.o b (λ_ o=>o) F.o⟩
    case measure=>simp[intOf];omega
   ·rw[vV d]at ae
    have F:=Hh d;clear d;obtain⟨aM,aL⟩:=x.o.len aD.o aG.o;obtain⟨w6,Q,O,N⟩:=MapF.store (P:=Tryz.prog) (w:=wr) t.o.seen (KeyAt.nat Tryz.underlying3) Tryz.underlying164 R[c] true;have Q:(Instr.mapUpdate 164 (.map (some w.heap.size)) (.int .i64 (R[c]:Int)) (.bool true)).run Tryz.prog wr=.ok () w6:=Q;rw[zrb]at O;have ah:=za3 t.o.row N (λj v e=>by have:=(t.o.row.lt j v).1;omega);obtain⟨aB,aA,B⟩:=Hhp3 O N ah;have bt:b.length<1000000000:=by omega
    clear O N ah aM aL;go_wp2_with (at_builtin;refine ze0 w6 rfl _ _ 82 rfl (w.heap.size+1) 3 (.int .i64 0) 8 Tryz.underlying82 zaa rfl (.slice (some ⟨p,0,none⟩) b.length q) b.length (b.map encN) rfl B.o (encN R[c]) rfl rfl ?c1 (by decide) ?c2 ?_)
    case c1=>omega
    case c2=>have:=(B.o.lt p rfl);omega
    intro v7 w7 J H _;obtain⟨g7,p7,al,_,_⟩:=zd5 J (Nat.succ_pos _);have aj:Seen w w7 v7 (b ++ [R[c]]):=by
     refine⟨by rw[yX,vZ];exact J,aB.o.fr H (λe=>by have:=(B.o.lt _ e).1;omega),?_⟩;refine(t.o.fr.trans aA.o (λj v e=>by omega)).trans H (λj v e=>by have:=(B.o.lt j e).1;omega)
    have am:v7=.slice (some ⟨g7,0,none⟩) (b ++ [R[c]]).length p7:=by rw[yX];exact al
    have aE:=Hh aj;have aF:=Hh am;clear J H aj al am Q;go_wp2;go_roundw
    case rel=>exact⟨c+1,_,b ++ [R[c]],rfl,by go_num,by omega,aE.o,x.o.add aC.o F.o,⟨_,_,aF.o⟩,a8.o _ (λ_ o=>vQ _ o) (by simp)⟩
    case measure=>simp[intOf];omega
  ·have aK:c=R.length:=by omega
   subst aK;rw[y7]at A;obtain⟨t,x,aa⟩:=Hhp3 l z A;clear l z A hk
   -- what is read of the pool
   obtain⟨lv,rv,bv,fb,U,W,hA,ab,K,_⟩:=HP.o;obtain⟨la,lc,rfl,bT,bU,b4⟩:=SliceOf.of_owns (enc:=encV) (L:=U) hA.left (List.map_id'' (λ_=>rfl) U).symm;obtain⟨ua,uc,rfl,bZ,c0,bd⟩:=SliceOf.of_owns (enc:=encV) (L:=W) hA.right (List.map_id'' (λ_=>rfl) W).symm;have aI:=hA.blk;have aV:=hA.lenL;have aX:=hA.lenR;have HC:=Hh (λi (G:Fr NoM w i)=>show i.cell? ⟨pb,0,none⟩=some (.slice la U.length lc)/\i.cell? ⟨pb,1,none⟩=some (.slice ua W.length uc)from
    ⟨G.cell (by rw[xX w pb 0 _ _ _ aI];rfl) id,G.cell (by rw[xX w pb 1 _ _ _ aI];rfl) id⟩)
   have HO:=Hh (λi (G:Fr NoM w i) (a:Nat) (d:a<V.length)=>show ∃X y va Y ob vb,la=some ⟨X,y,none⟩/\i.cell? ⟨X,y+a,none⟩=some va/\Nats i va V[a].1/\ua=some ⟨Y,ob,none⟩/\i.cell? ⟨Y,ob+a,none⟩=some vb/\Nats i vb V[a].2 from by
    obtain⟨X,y,e1,c1⟩:=b4 a U[a] (xQ _);obtain⟨Y,ob,Z,c2⟩:=bd a W[a] (xQ _);exact⟨X,y,_,Y,ob,_,e1,G.cell c1 id,((ab a U[a] V[a] (xQ _) (xQ _)).1).fr0 G,Z,G.cell c2 id,((K a W[a] V[a] (xQ _) (xQ _)).1).fr0 G⟩)
   have bh:=Hh aV;have bo:=Hh aX;clear hA ab K b4 bd aI aV aX;go_wp2;go_loopw [6,9] (λT m i=>∃(c:Nat) (n:Value) (b:List Nat),n=T/\m=.int .i64 c/\c<=b.length/\Seen w i n b/\PInv V R b/\(∃p q,n=.slice (some ⟨p,0,none⟩) b.length q)/\(∀a∈R,a∈b)/\∀a∈b.take c,(∀h∈(V.getD a ([],[])).1,h∈b)/\∀h∈(V.getD a ([],[])).2,h∈b) (λ_ m _=>V.length-(intOf m).toNat)
   case atStart=>exact⟨0,_,b,rfl,rfl,yK _,t.o,x.o,⟨_,_,rfl⟩,aa.o,by simp⟩
   case round =>
    obtain⟨c,n,b,rfl,rfl,hk,l,z,⟨p,q,S⟩,A,ad⟩:=hrel;subst S;obtain⟨ac,bu⟩:=z.len aD.o aG.o;by_cases af:c<b.length
    ·obtain⟨j,v⟩:=eX (b[c])
     have a5:j<V.length:=by rw[v];exact ac _ (y9 _)
     obtain⟨bw,bx⟩:=HC.o _ l.fr;obtain⟨X,y,va,Y,ob,vb,e1,c1,n1,Z,c2,n2⟩:=HO.o w (Fr.refl _ _) j a5;have c1:=l.fr.cell c1 id;have c2:=l.fr.cell c2 id;have bH:=zet p b.length q c af;have bG:=yi8 la U.length lc j X y (by rw[bh.o];exact a5) e1;have bI:=yi8 ua W.length uc j Y ob (by rw[bo.o];exact a5) Z;have cq:wr.cell? ⟨p,c,none⟩=some (.int .i64 (j:Int)):=by
      obtain⟨a',c',e,_,_,o⟩:=SliceOf.of_owns (L:=b) l.row rfl;obtain⟨aq,c5,Z,hc⟩:=o c b[c] (xQ _);subst Z;cases e;rw[v];simpa [encN] using hc
     have aJ:V[j]=V.getD j ([],[]):=by rw[xY,xQ a5];rfl
     rw[aJ]at n1 n2;obtain⟨L1,a0⟩:=eX ((V.getD j ([],[])).1);obtain⟨L2,a3⟩:=eX ((V.getD j ([],[])).2);rw[<-a0]at n1;rw[<-a3]at n2;obtain⟨a1,c3,rfl,bO,bP,bq⟩:=id n1;obtain⟨a2,c4,rfl,bQ,bR,br⟩:=id n2;have t:=Hh l;obtain⟨x,aa,ao,bm,bK,HQ,bL,bi,bj,ax,ay,be⟩:=Hhp12 z A ad ac bu v a5 n1 n2 a0 a3 aJ;clear aJ a0 a3 l z A ad ac v e1 Z n1 n2 bq br;go_wp2;go_quiet (fail);obtain⟨bJ,aO⟩:=eX (wr.drewN nq);have b2:Fr NoM wr bJ:=by rw[aO];exact⟨rfl,rfl,rfl,xW _,λ_ _ _=>rfl⟩
     rw[<-aO];have az:=Hh b2;clear b2 aO c1 c2 cq bw bx bH bG bI;go_wp2_with fail;go_loopw [6,60] (λT m i=>∃(s:Nat) (n:Value) (u:List Nat),n=T/\m=.int .i64 s/\s<=2/\Seen w i n u/\PInv V R u/\(∃p q,n=.slice (some ⟨p,0,none⟩) u.length q)/\b <+: u/\(1<=s->∀h∈L1,h∈u)/\(2<=s->∀h∈L2,h∈u)) (λ_ m _=>2-(intOf m).toNat)
     case atStart =>
      have l:=t.o;exact⟨0,_,b,rfl,rfl,by omega,⟨za3 l.row az.o kP,l.seen.fr az.o id,l.fr.trans az.o kP⟩,x.o,⟨_,_,rfl⟩,List.prefix_refl _,λo=>by omega,λo=>by omega⟩
     case round =>
      obtain⟨s,n,u,rfl,rfl,hm,aZ,ab,⟨g1,bN,S⟩,D,a0,a3⟩:=hrel;subst S;obtain⟨ap,aP,aT,aQ,bf⟩:=Hhp5 aZ ab D a0 a3;clear aZ ab D a0 a3;by_cases au:s<2
      ·obtain⟨y,oc,f,bS,ar,bs⟩:∃(y:Option Addr) (oc:Nat) (f:List Nat),(∀i,(Instr.index 165 (.agg #[.slice a1 L1.length c3,.slice a2 L2.length c4]) (.int .i64 (s:Int))).run Tryz.prog i=.ok (.slice y f.length oc) i)/\f=(if s=0 then L1 else L2)/\Nats w (.slice y f.length oc) f:=by
        have bA:s=0\/s=1:=by omega
        rcases bA with rfl|rfl
        ·exact⟨a1,c3,L1,λi=>ydb _ _ _ _ _ _ i,rfl,bi.o⟩
        ·exact⟨a2,c4,L2,λi=>yda _ _ _ _ _ _ i,rfl,bj.o⟩
       have aN:ReachV V R j:=by rw[HQ.o];exact x.o.reach _ (y9 _)
       have b8:∀h∈f,ReachV V R h:=λh r=>by
        rw[ar]at r;split at r
        ·exact .left aN (by rw[<-ax.o];exact r)
        ·exact .right aN (by rw[<-ay.o];exact r)
       have bV:f.length<1000000000:=by
        have:=bg.o _ (y9 a5);rw[be.o]at this
        rw[ar,ax.o,ay.o];split <;> omega
       obtain⟨na,nc,e,_,_,aW⟩:=bs;cases e
       obtain⟨aS,bl,bk⟩:=Hhp3 ar b8 aW;clear ar b8 aW aN;go_wp2;rw[show decide ((s:Int)<2)=true from by simp;omega];have aR:=Hh au;clear au;go_loopw [6,65] (λT m i=>∃(g:Nat) (n:Value) (k:List Nat),n=T/\m=.int .i64 g/\g<=f.length/\Seen w i n k/\PInv V R k/\(∃p q,n=.slice (some ⟨p,0,none⟩) k.length q)/\u <+: k/\∀h∈f.take g,h∈k) (λ_ m _=>f.length-(intOf m).toNat)
       case atStart=>exact⟨0,_,u,rfl,rfl,yK _,ap.o,aP.o,⟨_,_,rfl⟩,List.prefix_refl _,by simp⟩
       case round =>
        obtain⟨g,n,k,rfl,rfl,hj,a4,K,⟨g2,bp,S⟩,av,ak⟩:=hrel;subst S;by_cases b6:g<f.length
        ·obtain⟨b3,o3,b0,d3⟩:=bk.o g f[g] (xQ _)
         have bM:wr.cell? ⟨b3,o3+g,none⟩=some (.int .i64 (f[g]:Int)):=a4.fr.cell d3 id;have ix:=za9 y f.length oc g b3 o3 b6 b0;have ae:=a4.look f[g];have ai:ReachV V R f[g]:=bl.o _ (y9 _);have ag:∀C:List Nat,(∀a∈k,a∈C)->f[g]∈C->∀a∈f.take (g+1),a∈C:=λC h1 h2 a d=>by
          rw[yQ b6,y6,x9]at d;rcases d with d|rfl
          ·exact h1 a (ak a d)
          ·exact h2
         obtain⟨E,a7,aC,a8,a9⟩:=Hhp5 a4 K ai ag av;clear a4 K ak ai ag b0 d3 av;by_cases d:f[g]∈k
         ·rw[vJ d]at ae
          have F:=Hh d;clear d;go_wp2;go_roundw
          case rel=>exact⟨g+1,_,k,rfl,by go_num,by omega,E.o,a7.o,⟨_,_,rfl⟩,a9.o,a8.o k (λ_ o=>o) F.o⟩
          case measure=>simp[intOf];omega
         ·rw[vV d]at ae
          have F:=Hh d;clear d;obtain⟨aM,aL⟩:=a7.o.len aD.o aG.o;obtain⟨w6,Q,O,N⟩:=MapF.store (P:=Tryz.prog) (w:=wr) E.o.seen (KeyAt.nat Tryz.underlying3) Tryz.underlying164 f[g] true;have Q:(Instr.mapUpdate 164 (.map (some w.heap.size)) (.int .i64 (f[g]:Int)) (.bool true)).run Tryz.prog wr=.ok () w6:=Q;rw[zrb]at O;have ah:=za3 E.o.row N (λj v e=>by have:=(E.o.row.lt j v).1;omega);obtain⟨aB,aA,B⟩:=Hhp3 O N ah;have bt:k.length<1000000000:=by omega
          clear O N ah aM aL;go_wp2_with (at_builtin;refine ze0 w6 rfl _ _ 82 rfl (w.heap.size+1) 3 (.int .i64 0) 8 Tryz.underlying82 zaa rfl (.slice (some ⟨g2,0,none⟩) k.length bp) k.length (k.map encN) rfl B.o (encN f[g]) rfl rfl ?c1 (by decide) ?c2 ?_)
          case c1=>omega
          case c2=>have:=(B.o.lt g2 rfl);omega
          intro v7 w7 J H _;obtain⟨g7,p7,al,_,_⟩:=zd5 J (Nat.succ_pos _);have aj:Seen w w7 v7 (k ++ [f[g]]):=by
           refine⟨by rw[yX,vZ];exact J,aB.o.fr H (λe=>by have:=(B.o.lt _ e).1;omega),?_⟩;refine(E.o.fr.trans aA.o (λj v e=>by omega)).trans H (λj v e=>by have:=(B.o.lt j e).1;omega)
          have am:v7=.slice (some ⟨g7,0,none⟩) (k ++ [f[g]]).length p7:=by rw[yX];exact al
          have aE:=Hh aj;have aF:=Hh am;clear J H aj al am Q;go_wp2;go_roundw
          case rel=>exact⟨g+1,_,k ++ [f[g]],rfl,by go_num,by omega,aE.o,a7.o.add aC.o F.o,⟨_,_,aF.o⟩,a9.o.trans (List.prefix_append _ _),a8.o _ (λ_ o=>vQ _ o) (by simp)⟩
          case measure=>simp[intOf];omega
        ·have bz:g=f.length:=by omega
         subst bz;rw[y7]at ak;obtain⟨E,a7,aU,a9⟩:=Hhp4 a4 K ak av;clear a4 K ak av;go_wp2;go_roundw
         case rel =>
          have au:=aR.o;have bE:∀h,h∈u->h∈k:=λh r=>a9.o.subset r
          refine⟨s+1,_,k,rfl,by go_num,by omega,E.o,a7.o,⟨_,_,rfl⟩,aT.o.trans a9.o,λ_ h r=>?_,λo h r=>?_⟩
          ·by_cases bB:s=0
           ·exact aU.o h (by rw[aS.o,if_pos bB];exact r)
           ·exact bE h (aQ.o (by omega) h r)
          ·exact aU.o h (by rw[aS.o,if_neg (by omega)];exact r)
         case measure=>have au:=aR.o;simp[intOf];omega
      ·have bC:s=2:=by omega
       subst bC;go_wp2;go_roundw
       case rel =>
        have D:=aT.o;refine⟨c+1,_,u,rfl,by go_num,by have:=D.length_le;omega,ap.o,aP.o,⟨_,_,rfl⟩,λa d=>D.subset (aa.o a d),λa d=>?_⟩;have bF:u.take (c+1)=b.take c ++ [j]:=by
         obtain⟨aw,rfl⟩:=D;rw[List.take_append_of_le_length (by omega),yQ af,HQ.o]
        rw[bF,y6,x9]at d;rcases d with d|rfl
        ·obtain⟨h1,h2⟩:=ao.o a d
         exact⟨λh r=>D.subset (h1 h r),λh r=>D.subset (h2 h r)⟩
        ·exact⟨by rw[<-ax.o];exact aQ.o (by omega),by rw[<-ay.o];exact bf.o (by omega)⟩
       case measure=>simp[intOf];omega
    ·have aK:c=b.length:=by omega
     subst aK;rw[y7]at ad;obtain⟨t,x,aa,ao,bm⟩:=Hhp5 l z A ad ac;clear l z A ad ac hk;go_wp2;go_ret;refine⟨p,q,b,rfl,zb6 t.o.row (Nat.le_succ _),x.o.nodup,λa=>⟨x.o.reach a,λd=>?_⟩,t.o.fr⟩;induction d with
     | root o=>exact aa.o _ o
     | @left aH aq _ hb ih=>exact(ao.o aH ih).1 aq hb
     | @right aH aq _ hb ih=>exact(ao.o aH ih).2 aq hb
theorem zm7 (x y:Int)(w:World):Calls Tryz.prog 85 #[.int .i64 x,.int .i64 y] w λa b=>a=.returned (.int .i64 (Lib.compareInt x y))/\b=w:=Any.cmp_Compare_int Tryz.layCmp x y w
theorem zis (s v:Value)(A B:List Nat)(w:World)(j:Nats w s A)(k:Nats w v B):Calls Tryz.prog 86 #[s,v] w λi n=>i=.returned (.int .i64 (cmpL A B))/\n=w:=by
 obtain⟨I,J,rfl,O,P,j⟩:=j;obtain⟨K,L,rfl,Q,R,k⟩:=k;have F:=Hh j;have G:=Hh k;clear j k;go_enter Tryz.func86,Tryz.ntmps86;go_wp2;go_loopw [11] (λr H=>∃a:Nat,r=.int .i64 a/\a<=A.length/\a<=B.length/\cmpL A B=cmpL (A.drop a) (B.drop a)/\H=w) (λr _=>A.length-(intOf r).toNat)
 case atStart=>exact⟨0,rfl,yK _,yK _,rfl,rfl⟩
 case round =>
  obtain⟨a,rfl,S,T,C,h⟩:=hrel;have o:=Hh C;have f:=Hh h;clear C;by_cases q:a<A.length
  ·obtain⟨t,D,p,x⟩:=F.o a A[a] (xQ _)
   have U:=za9 I A.length J a t D q p;have x:wr.cell? ⟨t,D+a,none⟩=some (.int .i64 (A[a]:Int)):=by rw[h];exact x
   by_cases m:a<B.length
   ·obtain⟨u,E,z,y⟩:=G.o a B[a] (xQ _)
    have V:=za9 K B.length L a u E m z;have y:wr.cell? ⟨u,E+a,none⟩=some (.int .i64 (B[a]:Int)):=by rw[h];exact y
    have b:cmpL A B=if A[a]=B[a]then cmpL (A.drop (a+1)) (B.drop (a+1))else if A[a]<B[a]then -1 else 1:=by
     rw[o.o,uZ q,uZ m];rfl
    clear p z h;by_cases g:A[a]=B[a]
    ·have e:Lib.compareInt (A[a]:Int) (B[a]:Int)=0:=by unfold Lib.compareInt;rw[if_neg (by omega),if_neg (by omega)]
     rw[if_pos g]at b;have c:=Hh b;have N:=Hh g;clear b g;have d:=zm7 (A[a]:Int) (B[a]:Int) wr;rw[e]at d;go_wp2_with fail;refine d.mono ?_
     rintro i n ⟨rfl,rfl⟩;clear d e;go_wp2;go_roundw
     case rel=>exact⟨a+1,by go_num,by omega,by omega,c.o,f.o⟩
     case measure=>simp[intOf];omega
    ·rw[if_neg g]at b
     have d:=zm7 (A[a]:Int) (B[a]:Int) wr;by_cases l:A[a]<B[a]
     ·have e:Lib.compareInt (A[a]:Int) (B[a]:Int)=-1:=by unfold Lib.compareInt;rw[if_pos (by omega)]
      rw[if_pos l]at b;rw[e]at d;have c:=Hh b;clear b g l e;go_wp2_with fail;refine d.mono ?_
      rintro i n ⟨rfl,rfl⟩;clear d;go_wp2;go_ret;exact⟨by rw[c.o];rfl,f.o⟩
     ·have e:Lib.compareInt (A[a]:Int) (B[a]:Int)=1:=by unfold Lib.compareInt;rw[if_neg (by omega),if_pos (by omega)]
      rw[if_neg l]at b;rw[e]at d;have c:=Hh b;clear b g l e;go_wp2_with fail;refine d.mono ?_
      rintro i n ⟨rfl,rfl⟩;clear d;go_wp2;go_ret;exact⟨by rw[c.o];rfl,f.o⟩
   ·have b:cmpL A B=1:=by
     rw[o.o,uZ q,show B.drop a=[]from List.drop_eq_nil_of_le (by omega)];rfl
    have c:=Hh b;clear b p h;go_wp2;go_ret;exact⟨by rw[c.o];rfl,f.o⟩
  ·have M:a=A.length:=by omega
   subst M;have b:=o.o;rw[List.drop_length]at b;clear h;by_cases m:A.length<B.length
   ·rw[uZ m]at b
    have c:=Hh b;clear b;go_wp2;go_ret;exact⟨by rw[c.o];rfl,f.o⟩
   ·rw[List.drop_eq_nil_of_le (by omega)]at b
    have c:=Hh b;clear b;go_wp2;go_ret;exact⟨by rw[c.o];rfl,f.o⟩
def orI (x y:Int):Int:=if x=0 then y else x
theorem yoi (x y:Int)(f:Nat)(w:World)(l:w.cell? ⟨f,0,none⟩=some (.int .i64 x))(m:w.cell? ⟨f,1,none⟩=some (.int .i64 y)) : Calls Tryz.prog 84 #[.slice (some ⟨f,0,none⟩) 2 2] w λt v=>t=.returned (.int .i64 (orI x y))/\v=w:=by have p:=Hh l;have q:=Hh m;clear l m;go_enter Tryz.func84,Tryz.ntmps84;go_wp2;go_loopw [8] (λj s=>∃b:Nat,j=.int .i64 b/\b<=2/\(1<=b->x=0)/\(2<=b->y=0)/\s=w) (λj _=>2-(intOf j).toNat);(case atStart=>exact⟨0,rfl,by omega,λk=>by omega,λk=>by omega,rfl⟩);case round =>((obtain⟨b,rfl,i,n,o,d⟩:=hrel;obtain⟨g,r,e⟩:=Hhp3 n o d;clear n o;have u:b=0\/b=1\/b=2:=by omega);rcases u with rfl|rfl|rfl;{(have z:wr.cell? ⟨f,0,none⟩=some (.int .i64 x):=by rw[d];exact p.o);clear d i;by_cases a:x=0;{(have h:(x == 0)=true:=by simpa using a);have c:=Hh a;clear a;go_wp2;go_roundw;(case rel=>exact⟨1,rfl,by omega,λ_=>c.o,λk=>by omega,e.o⟩);case measure=>simp[intOf]};{(have h:(x == 0)=false:=by simpa using a);have c:=Hh a;clear a;go_wp2;go_ret;exact⟨by rw[show orI x y=x from if_neg c.o];rfl,e.o⟩}};{(have A:wr.cell? ⟨f,1,none⟩=some (.int .i64 y):=by rw[d];exact q.o);clear d i;by_cases a:y=0;{(have h:(y == 0)=true:=by simpa using a);have c:=Hh a;clear a;go_wp2;go_roundw;(case rel=>exact⟨2,rfl,by omega,λ_=>g.o (by omega),λ_=>c.o,e.o⟩);case measure=>simp[intOf]};{(have h:(y == 0)=false:=by simpa using a);have c:=Hh a;clear a;go_wp2;go_ret;exact⟨by rw[show orI x y=y from if_pos (g.o (by omega))];rfl,e.o⟩}};{clear d i;go_wp2;go_ret;exact⟨by rw[show orI x y=0 from(if_pos (g.o (by omega))).trans (r.o (by omega))];rfl,e.o⟩})
theorem yh7 (B pb a b:Nat)(BV:List Nat)(l:Value)(c:World)(C:c.cell? ⟨B,0,none⟩=some (.pointer (some ⟨pb,0,none⟩)))(D:c.cell? ⟨pb,2,none⟩=some l)(z:Nats c l BV)(x:a<BV.length)(y:b<BV.length) : Calls Tryz.prog 148 #[.int .i64 (a:Int),.int .i64 (b:Int),.pointer (some ⟨B,0,none⟩)] c λd i=>d=.returned (.int .i64 (Lib.compareInt (BV[a]:Int) (BV[b]:Int)))/\∃h,i=c.drewN h:=by(obtain⟨u,v,rfl,E,F,e⟩:=z;obtain⟨j,s,o,m⟩:=e a BV[a] (xQ _);obtain⟨k,t,p,n⟩:=e b BV[b] (xQ _);have G:=za9 u BV.length v a j s x o;have H:=za9 u BV.length v b k t y p;have m:c.cell? ⟨j,s+a,none⟩=some (.int .i64 (BV[a]:Int)):=m;have n:c.cell? ⟨k,t+b,none⟩=some (.int .i64 (BV[b]:Int)):=n;obtain⟨A,f⟩:=eX (Lib.compareInt (BV[a]:Int) (BV[b]:Int));have r:∀g,Calls Tryz.prog 85 #[encN BV[a],encN BV[b]] (c.drewN g) λd i=>d=.returned (.int .i64 A)/\∃h,i=(c.drewN g).drewN h:=λg=>by rw[f];exact(zm7 _ _ _).mono λ_ _ q=>⟨q.1,0,q.2⟩);have w:=Hh r;rw[<-f];clear e o p r f;go_enter Tryz.func148,Tryz.ntmps148;go_wp2;go_quiet ((go_at_call 85;with_reducible exact Calls.quiet_of (w.o _)));go_wp2;go_ret;exact⟨rfl,_,rfl⟩
def Gr (w c:World):Prop:=∃(b:Nat) (a:Array Obj),c=Go.Sort.grow (w.drewN b) a
theorem Gr.refl (w:World):Gr w w:=⟨0,#[],by simp[World.drewN]⟩
theorem Gr.drew {w a:World}(b:Gr w a):Gr w a.drew:=by obtain⟨d,c,rfl⟩:=b;exact⟨d+1,c,by rw[Go.Sort.drew_grow];congr 1⟩
theorem Gr.alloc {w b:World}(c:Gr w b)(a:Obj):Gr w (b.alloc a):=by obtain⟨e,d,rfl⟩:=c;exact⟨e,d ++ #[a],by rw[Go.Sort.alloc_eq_grow,Go.Sort.grow_grow]⟩
theorem ztd (w:World)(a b:Value)(e:TypeId):(w.alloc (.cells #[a,b] e)).cell? ⟨w.heap.size,0,none⟩=some a/\(w.alloc (.cells #[a,b] e)).cell? ⟨w.heap.size,1,none⟩=some b:=by have c:=xJ w (.cells #[a,b] e);exact⟨qR c rfl,qR c rfl⟩
theorem zob (w:World)(a b c:Value)(e:TypeId):(w.alloc (.cells #[a,b,c] e)).cell? ⟨w.heap.size,1,none⟩=some b/\(w.alloc (.cells #[a,b,c] e)).cell? ⟨w.heap.size,2,none⟩=some c:=by have d:=xJ w (.cells #[a,b,c] e);exact⟨qR d rfl,qR d rfl⟩
theorem yh6 (i j:Nat)(K M L N:Value)(e f g h:List Nat)(a:World)(E:Nats a K e)(F:Nats a M f)(G:Nats a L g)(H:Nats a N h) : Calls Tryz.prog 151 #[.agg #[encN i,K,M],.agg #[encN j,L,N]] a λv T=>v=.returned (.int .i64 (orI (cmpL e g) (cmpL f h)))/\Gr a T:=by(obtain⟨w,x,y,z⟩:=Hhp4 (λb (c:Fr NoM a b)=>E.fr0 c) (λb (c:Fr NoM a b)=>F.fr0 c) (λb (c:Fr NoM a b)=>G.fr0 c) (λb (c:Fr NoM a b)=>H.fr0 c);obtain⟨l,m,rfl,U⟩:=E;obtain⟨n,o,rfl,V⟩:=F;obtain⟨p,q,rfl,W⟩:=G;obtain⟨r,s,rfl,X⟩:=H;obtain⟨R,A⟩:=eX (cmpL e g);obtain⟨S,B⟩:=eX (cmpL f h);rw[<-A,<-B];have O:=Hh A;have P:=Hh B;clear A B U V W X;go_enter Tryz.func151,Tryz.ntmps151;go_wp2;obtain⟨d,u⟩:=eX (((a.alloc (.cells #[encN i,.slice l e.length m,.slice n f.length o] 170)).alloc (.cells #[encN j,.slice p g.length q,.slice r h.length s] 170)));have I:Gr a d:=by rw[u];exact((Gr.refl a).alloc _).alloc _);(have k:Fr NoM a d:=by rw[u];exact((nW a).alloc _).alloc _);have t:d.cell? ⟨a.heap.size,1,none⟩=some (.slice l e.length m)/\d.cell? ⟨a.heap.size,2,none⟩=some (.slice n f.length o)/\d.cell? ⟨a.heap.size+1,1,none⟩=some (.slice p g.length q)/\d.cell? ⟨a.heap.size+1,2,none⟩=some (.slice r h.length s):=by{have J:=zob a (encN i) (.slice l e.length m) (.slice n f.length o) 170;have C:=zob (a.alloc (.cells #[encN i,.slice l e.length m,.slice n f.length o] 170)) (encN j) (.slice p g.length q) (.slice r h.length s) 170;rw[xZ]at C;rw[u];have k:=(nW (a.alloc (.cells #[encN i,.slice l e.length m,.slice n f.length o] 170))).alloc (.cells #[encN j,.slice p g.length q,.slice r h.length s] 170);exact⟨k.cell J.1 id,k.cell J.2 id,C.1,C.2⟩};rw[<-u];obtain⟨D,w,x,y,z⟩:=Hhp5 (λb (c:Fr NoM d b)=>show b.cell? ⟨a.heap.size,1,none⟩=some (.slice l e.length m)/\b.cell? ⟨a.heap.size,2,none⟩=some (.slice n f.length o)/\b.cell? ⟨a.heap.size+1,1,none⟩=some (.slice p g.length q)/\b.cell? ⟨a.heap.size+1,2,none⟩=some (.slice r h.length s)from ⟨c.cell t.1 id,c.cell t.2.1 id,c.cell t.2.2.1 id,c.cell t.2.2.2 id⟩) (λb (c:Fr NoM d b)=>w.o b (k.trans c kP)) (λb (c:Fr NoM d b)=>x.o b (k.trans c kP)) (λb (c:Fr NoM d b)=>y.o b (k.trans c kP)) (λb (c:Fr NoM d b)=>z.o b (k.trans c kP));clear k t u;have Q:=Hh I;clear I;have Y:Fr NoM d d.drew:=(nW d).drew;go_region_held3 (λ(b:World)=>b.cell? ⟨a.heap.size,1,none⟩=some (.slice l e.length m)/\b.cell? ⟨a.heap.size,2,none⟩=some (.slice n f.length o)/\b.cell? ⟨a.heap.size+1,1,none⟩=some (.slice p g.length q)/\b.cell? ⟨a.heap.size+1,2,none⟩=some (.slice r h.length s)) (first|exact D.o _ (‹_›)|exact D.o _ (Fr.alloc (‹_›) _)) (first| (go_at_call 86;(with_reducible refine(zis (.slice l e.length m) (.slice p g.length q) e g _ (w.o _ (‹_›)) (y.o _ (‹_›))).mono ?_);rw[<-O.o];rintro v Z ⟨rfl,rfl⟩)| (go_at_call 86;(with_reducible refine(zis (.slice n f.length o) (.slice r h.length s) f h _ (x.o _ (‹_›)) (z.o _ (‹_›))).mono ?_);rw[<-P.o];rintro v w6 ⟨rfl,rfl⟩)| (go_at_call 84;(refine(yoi R S d.heap.size _ (ztd d.drew _ _ _).1 (ztd d.drew _ _ _).2).mono ?_);rintro v w7 ⟨rfl,rfl⟩)| fail);all_goals(go_wp2;go_ret;exact⟨rfl,((Q.o.drew).alloc _)⟩)
end Go.Proofs.YtghekfmfonoocaaGreatDoor
namespace Go.Proofs.YtghekfmfonoocaaGreatDoor
open Go.RowKit Go.Sort
def ecmp (x y:PL):Int:=orI (cmpL x.1 y.1) (cmpL x.2 y.2)
theorem yfi (x y:PL):decide (ecmp x y<0)=zap x y:=by unfold ecmp orI zap;split <;> rfl
theorem yct {g:Type}[Inhabited g](f:g->PL):SWO (ltOf λa b:g=>ecmp (f a) (f b)):=by have j:∀a b:g,ltOf (λa b:g=>ecmp (f a) (f b)) a b=zap (f a) (f b):=λa b=>yfi _ _;have m:∀h i:PL,zap h i=true->zap i h=false:=λh i=>zg4;refine⟨λa=>?_,λa b l e c=>?_,λa b l e c=>?_⟩;{rw[j];cases d:zap (f a) (f a)with| false=>rfl| true=>have:=zg4 d;rw[d]at this;cases this};{rw[j]at e c ⊢;exact zg3 e c};{rw[j]at e c ⊢;cases d:zap (f a) (f l)with| false=>rfl| true =>{exfalso;cases k:zap (f b) (f a)with| true=>rw[zg3 k d]at c;cases c| false=>rw[zn2 e k]at d;rw[d]at c;cases c}}
theorem ygc {e:Type}[Inhabited e](f:e->Nat):SWO (ltOf λa b:e=>Lib.compareInt (f a:Int) (f b:Int)):=by have g:∀a b:e,ltOf (λa b:e=>Lib.compareInt (f a:Int) (f b:Int)) a b=decide (f a<f b):=λa b=>by{unfold ltOf;apply decide_eq_decide.2;show Lib.compareInt (f a:Int) (f b:Int)<0↔f a<f b;unfold Lib.compareInt;constructor;{intro h;split at h;{omega};{split at h <;> omega}};{intro h;rw[if_pos (by omega)];omega}};refine⟨λa=>?_,λa b i c d=>?_,λa b i c d=>?_⟩;{rw[g];simp};{rw[g]at c d ⊢;simp at c d ⊢;omega};{rw[g]at c d ⊢;simp at c d ⊢;omega}
theorem zix {b:Type}[Inhabited b]{d a:Array b}(f:PermIn 0 d.size d a):a.toList.Perm d.toList:=by
 obtain⟨h,_,g⟩:=f;have c:d.extract 0 d.size=d:=by simp
 have e:a.extract 0 d.size=a:=by rw[<-h];simp
 rwa [c,e]at g
theorem zes {a:Type}[Inhabited a]{f:a->a->Bool}{d:Array a}(i:SortedIn f 0 d.size d):d.toList.Pairwise λg h=>f h g=false:=by refine List.pairwise_iff_getElem.2 λc e j b k=>?_;have:=i c e (yK _) k (by simpa using b);rw[getElem!_pos d c (by simpa using j),getElem!_pos d e (by simpa using b)]at this;simpa using this
theorem ztg {n:Nat}(c:List Nat)(d:∀a∈c,a<n):∃b:List {a:Nat // a<n},b.map Subtype.val=c:=by induction c with| nil=>exact⟨[],rfl⟩| cons e i h =>{obtain⟨b,f⟩:=h λa g=>d a (uJ _ g);exact⟨⟨e,d e (uX ..)⟩::b,by simp[f]⟩}
theorem yd4 {base g cap B pb:Nat}(b BV:List Nat)(l:Value)(w:World)(n:w.ownsRow base 3 1 (.slice (some ⟨g,0,none⟩) b.length cap) b.length (b.map encN))(R:∀a∈b,a<BV.length)(V:0<BV.length)(hl:b.length<1000000000) (L:w.cell? ⟨B,0,none⟩=some (.pointer (some ⟨pb,0,none⟩))) (M:w.cell? ⟨pb,2,none⟩=some l) (S:Nats w l BV) (I:B≠g) (K:pb≠g) (J:∀e,l.ownBlock=some e->e≠g) : Calls Tryz.prog 147 #[.slice (some ⟨g,0,none⟩) b.length cap,.func (.func 148) #[] #[.pointer (some ⟨B,0,none⟩)]] w λs r => s=.returned (.tuple #[])/\∃h:List Nat,h.Perm b/\(h.Pairwise λi j=>BV.getD i 0<=BV.getD j 0)/\r.ownsRow base 3 1 (.slice (some ⟨g,0,none⟩) h.length cap) h.length (h.map encN)/\Fr (λa0=>a0=g) w r:=by obtain⟨d,t⟩:=ztg b R;haveI:Inhabited {a:Nat // a<BV.length}:=⟨⟨0,V⟩⟩;let c:{a:Nat // a<BV.length}->Value:=λa=>encN a.1;let z:{a:Nat // a<BV.length}->{a:Nat // a<BV.length}->Int:=λa f=>Lib.compareInt (BV.getD a.1 0:Int) (BV.getD f.1 0:Int);(have U:d.length=b.length:=by rw[<-t];simp);(have Z:b.map encN=d.toArray.toList.map c:=by rw[<-t,List.map_map];rfl);(have p:d.toArray.size=b.length:=by simpa using U);have Q:=zh8 (enc:=c) n d.toArray Z;have C:g<w.heap.size:=(n.lt g rfl).2;have H:∀y w,(callFunc 148 y).run Tryz.prog w=.ok (.enter 148 y) w:=enters_of Tryz.func148 (by kernel_rfl) rfl;have T:CmpLays1 Tryz.prog 148 #[.pointer (some ⟨B,0,none⟩)] c z g 0 d.toArray.size w:=by{intro F q A Y a f;obtain⟨_,u⟩:=zh1 (enc:=c) n A (by rw[Y,p]) F q;have o:=yh7 B pb a.1 f.1 BV l (sortWorld c w g 0 F A q) (u.cell L I) (u.cell M K) (S.fr u (λ_ e X=>J e X)) a.2 f.2;refine Calls.mono (P:=Tryz.prog) o ?_;rintro s r ⟨rfl,e,rfl⟩;refine⟨?_,e,#[],by rw[grow_empty]⟩;show _=Ending.returned (.int .i64 (Lib.compareInt (BV.getD a.1 0:Int) (BV.getD f.1 0:Int)));rw[xY,xQ a.2,xY,xQ f.2];rfl};have o:=Any.slices_SortFunc Tryz.laySortI c (λ_=>rfl) z (ygc λa:{a:Nat // a<BV.length}=>BV.getD a.1 0) 148 #[.pointer (some ⟨B,0,none⟩)] g 0 cap d.toArray w H T Q C (by omega);rw[p]at o;refine Calls.mono (P:=Tryz.prog) o ?_;(rintro s r ⟨rfl,m,a1,q,v,E,rfl⟩;have x:m.size=b.length:=by rw[v.1,p]);rw[<-p]at v;have D:=(zix v).map Subtype.val;rw[List.toList_toArray,t]at D;rw[<-x]at E;have W:=zes E;obtain⟨N,O⟩:=zh1 (enc:=c) n m x a1 q;refine⟨rfl,m.toList.map Subtype.val,D,List.pairwise_map.2 (W.imp λ{i j} k=>?_),?_,O⟩;{unfold ltOf at k;simp only[decide_eq_false_iff_not]at k;show BV.getD i.1 0<=BV.getD j.1 0;have k:¬Lib.compareInt (BV.getD j.1 0:Int) (BV.getD i.1 0:Int)<0:=k;rcases Nat.lt_or_ge (BV.getD j.1 0) (BV.getD i.1 0)with C|hge;{exfalso;apply k;unfold Lib.compareInt;rw[if_pos (by omega)];omega};{exact hge}};{(have G:(m.toList.map Subtype.val).length=b.length:=by simp[x]);rw[G,List.map_map];exact N}
theorem zr0 {w:World}{base:Nat}{e:TypeId}{g n cap s:Nat}{xs:List Value}(h:w.ownsRow base e s (.slice (some ⟨g,0,none⟩) n cap) n xs)(d:Array Value)(hx:d.toList=xs):Holds id w g 0 d:=by rcases h.2 with ⟨h0,_⟩|⟨g',cap',cur,hv,hb,hg,hnc,hcm,hs,ht⟩;{cases h0};{cases hv;(have hl:xs.length=n*s:=h.1;intro j hj;have hjn:j<n*s:=by rw[<-hx]at hl;simp at hl;omega);refine⟨?_,fZ hg⟩;rw[Nat.zero_add,xX w g j cur _ _ hg];have:(cur.toList.take (n*s))[j]?=some (id d[j]!):=by{rw[ht,<-hx,Array.getElem?_toList,Array.getElem?_eq_getElem hj,getElem!_pos d j hj];rfl};rw[List.getElem?_take,if_pos (by omega)]at this;simpa using this}
theorem zn5 {w:World}{base:Nat}{e:TypeId}{g n cap s:Nat}{xs:List Value}(k:w.ownsRow base e s (.slice (some ⟨g,0,none⟩) n cap) n xs)(d:Array Value)(t:d.size=n*s)(q:Nat)(b:Array Obj) : (grow (putRow id (Sort.ahead w q) g 0 d) b).ownsRow base e s (.slice (some ⟨g,0,none⟩) n cap) n d.toList/\Fr (λx=>x=g) w (grow (putRow id (Sort.ahead w q) g 0 d) b):=by rcases k.2 with ⟨l,_⟩|⟨z,y,j,v,p,u,f,r,h,B⟩;{cases l};{cases v;(obtain⟨m,o⟩:=zpb (enc:=id) u d q b;refine⟨⟨by simp[t],.inr ⟨g,cap,_,rfl,p,m,f,r,by simp[putCells,h],?_⟩⟩,o⟩;have A:n*s<=j.size:=by rw[h];exact Nat.mul_le_mul_right _ f);apply List.ext_getElem?;intro a;rw[List.getElem?_take];by_cases c:a<n*s;{rw[if_pos c,Array.getElem?_toList,Array.getElem?_toList,Array.getElem?_eq_getElem (xs:=d) (i:=a) (by omega)];unfold putCells;rw[Array.getElem?_mapIdx,Array.getElem?_eq_getElem (by omega)];simp only[Option.map_some];rw[if_pos ⟨yK _,by omega⟩,Nat.sub_zero,getElem!_pos d a (by omega)];rfl};{rw[if_neg c,Array.getElem?_toList,Array.getElem?_eq_none (by omega)]}}
theorem zpg (c e:Nat->Value)(d:Array Nat):(flatK (enc3 c e) 3 d).toList=zi1 c e d.toList:=by apply List.ext_getElem?;(intro f;have p:(flatK (enc3 c e) 3 d).size=d.size*3:=by simp[flatK]);by_cases q:f<d.size*3;{obtain⟨a,b,o,rfl⟩:∃a b,b<3/\f=a*3+b:=⟨f/3,f%3,by omega,by omega⟩;(have h:(a*3+b)/3=a:=by omega);(have i:(a*3+b)%3=b:=by omega);(have g:a<d.size:=by omega);(have n:d.toList[a]?=some d[a]! := by rw[Array.getElem?_toList,Array.getElem?_eq_getElem g,getElem!_pos d _ g]);obtain⟨j,k,l⟩:=zuq c e d.toList a _ n;have m:(flatK (enc3 c e) 3 d).toList[a*3+b]?=some ((enc3 c e d[a]!)[b]!):=by{rw[Array.getElem?_toList];unfold flatK;rw[Array.getElem?_map,Array.getElem?_range,if_pos q];simp only[Option.map_some,h,i]};rw[m];match b,o with| 0,_=>exact j.symm| 1,_=>exact k.symm| 2,_=>exact l.symm| b+3,r=>omega};{rw[List.getElem?_eq_none (by simp[p];omega),List.getElem?_eq_none (by rw[zup];simp;omega)]}
theorem yd5 {base g cap:Nat}(G:List Nat)(b c:Nat->Value)(f:Nat->PL)(w:World)(n:w.ownsRow base 170 3 (.slice (some ⟨g,0,none⟩) G.length cap) G.length (zi1 b c G))(Y:G.length<1000000000) (k:∀d,Nats w (b d) (f d).1/\∀e,(b d).ownBlock=some e->e≠g) (l:∀d,Nats w (c d) (f d).2/\∀e,(c d).ownBlock=some e->e≠g) : Calls Tryz.prog 150 #[.slice (some ⟨g,0,none⟩) G.length cap,.func (.func 151) #[] #[]] w λB y => B=.returned (.tuple #[])/\∃j:List Nat,j.Perm G/\(j.Pairwise λr A=>zap (f A) (f r)=false)/\y.ownsRow base 170 3 (.slice (some ⟨g,0,none⟩) j.length cap) j.length (zi1 b c j)/\Fr (λT=>T=g) w y:=by have p:∀d,(b d).oneCell'=true/\(c d).oneCell'=true:=λd=>by{obtain⟨⟨r,W,t,_⟩,_⟩:=k d;obtain⟨⟨V,X,K,_⟩,_⟩:=l d;rw[t,K];exact⟨rfl,rfl⟩};have D:=zpg b c G.toArray;rw[List.toList_toArray]at D;have N:HoldsK (enc3 b c) 3 w g 0 G.toArray:=zr0 n _ D;have R:g<w.heap.size:=(n.lt g rfl).2;have L:∀z w,(callFunc 151 z).run Tryz.prog w=.ok (.enter 151 z) w:=enters_of Tryz.func151 (by kernel_rfl) rfl;have O:CmpLays Tryz.prog 151 #[] (enc3 b c) 3 (λa h=>ecmp (f a) (f h)) g 0 G.toArray.size w:=by{(intro J q s p a h;have Q:(flatK (enc3 b c) 3 s).size=G.length*3:=by simp[flatK,p]);obtain⟨_,o⟩:=zn5 n (flatK (enc3 b c) 3 s) Q J q;have v:=yh6 a h (b a) (c a) (b h) (c h) (f a).1 (f a).2 (f h).1 (f h).2 (sortWorldK (enc3 b c) 3 w g 0 J s q) ((k a).1.fr o (λ_ e i=>(k a).2 e i)) ((l a).1.fr o (λ_ e i=>(l a).2 e i)) ((k h).1.fr o (λ_ e i=>(k h).2 e i)) ((l h).1.fr o (λ_ e i=>(l h).2 e i));exact v};have v:=AnyQ.slices_SortFunc Tryz.laySortE 3 (λw=>Tryz.isAgg170 w) (λw=>Tryz.sizeOf170 w) (enc3 b c) (λ_=>rfl) (λa Z I=>by{simp only[enc3,kW,List.not_mem_nil,or_false]at I;rcases I with rfl|rfl|rfl;{rfl};{exact(p a).1};{exact(p a).2}}) (λa h=>ecmp (f a) (f h)) (yct f) 151 #[] g 0 cap G.toArray w L O N R (by simp;omega);refine Calls.mono (P:=Tryz.prog) v ?_;(rintro B y ⟨rfl,m,U,q,E,H,rfl⟩;have x:m.size=G.length:=by rw[E.1];simp);have F:=zix E;rw[List.toList_toArray]at F;rw[List.size_toArray,<-x]at H;have S:=zes H;obtain⟨C,M⟩:=zn5 n (flatK (enc3 b c) 3 m) (by simp[flatK,x]) U q;rw[zpg]at C;refine⟨rfl,m.toList,F,S.imp λ{r A} u=>?_,?_,M⟩;{unfold ltOf at u;rw[yfi]at u;exact u};{(have t:m.toList.length=G.length:=by simp[x]);rw[t];exact C}
end Go.Proofs.YtghekfmfonoocaaGreatDoor
namespace Go.Proofs.YtghekfmfonoocaaGreatDoor
open Go.RowKit
theorem yng (a n c k:Nat)(b:k<n)(w:World) : (Instr.indexAt 167 (.slice (some ⟨a,0,none⟩) n c) (.int .i64 (k:Int))).run Tryz.prog w=.ok (.pointer (some ⟨a,k*3,none⟩)) w:=by go_simp
theorem zpu (n:Nat)(a:World)(i:n<1000000000):∃b:Array Value,b.size=n*2/\(Instr.makeSlice 24 (.int .i64 0) (.int .i64 (n:Int))).run Tryz.prog a=.ok (.slice (some ⟨a.heap.size,0,none⟩) 0 n) (a.alloc (.cells b 85)):=by obtain⟨h,d,e,f,g⟩:=info_parts zcc;have c:=run_make (P:=Tryz.prog) a 24 85 h _ Tryz.underlying24 d e .i64 .i64 0 n (by omega) (by omega) (by rw[g];omega) (by omega);rw[f,Int.toNat_natCast]at c;exact⟨_,by simp[madeCells],c⟩
structure OutS (V:List PL) (w1:World) (g cap rb:Nat) (Q A:List Nat) (n:Nat) (W:World) (nv:Value):Prop where
 list:W.ownsRow w1.heap.size 3 1 (.slice (some ⟨g,0,none⟩) Q.length cap) Q.length ((A++Q.drop n).map encN)
 rank:MapF encN encN W rb (znf A)
 nodes:NodesS (rb+1) W nv (A.map λx=>zc2 A (za5 V x))
 fr:Fr NoM w1 W
theorem Fr.drewN {M:Nat->Prop}{a w:World}(b:Fr M a w)(n:Nat):Fr M a (w.drewN n):=⟨b.os,b.tape,b.output,b.size,b.block⟩
theorem zsk {base g cap n k x:Nat}{xs:List Nat}{w:World}(d:w.ownsRow base 3 1 (.slice (some ⟨g,0,none⟩) n cap) n (xs.map encN))(f:xs[k]?=some x):w.cell? ⟨g,k,none⟩=some (.int .i64 (x:Int)):=by obtain⟨h,j,b,_,_,e⟩:=SliceOf.of_owns d rfl;obtain⟨i,l,c,a⟩:=e k x f;subst c;cases b;simpa [encN] using a
theorem ydv {w:World}{base g n cap:Nat}{L:List Nat}(c:w.ownsRow base 3 1 (.slice (some ⟨g,0,none⟩) n cap) n (L.map encN))(k x:Nat)(s:k<n) : (∃p,w.cell? ⟨g,k,none⟩=some p)/\w.frozen? ⟨g,k,none⟩=false/\(w.setCell ⟨g,k,none⟩ (encN x)).ownsRow base 3 1 (.slice (some ⟨g,0,none⟩) n cap) n ((L.set k x).map encN):=by have d:=c.1;rcases c.2 with ⟨f,_⟩|⟨r,q,b,o,i,a,l,j,m,e⟩;{cases f};{cases o;(have h:k<L.length:=by simp at d;omega);refine⟨⟨encN L[k],?_⟩,fZ a,by simpa using d,.inr ⟨g,cap,_,rfl,i,heap_set a (encN x),l,j,by simp[m],?_⟩⟩;{rw[xX w g k b _ _ a];(have:(b.toList.take (n*1))[k]?=some (encN L[k]):=by rw[e,vY,xQ h];rfl);rw[List.getElem?_take,if_pos (by omega)]at this;simpa using this};{rw[Array.toList_setIfInBounds,List.take_set,e,List.map_set]}}
theorem ybb {base g cap n j x:Nat}{G:List Nat}{c d:Nat->Value}{w:World}(o:w.ownsRow base 170 3 (.slice (some ⟨g,0,none⟩) n cap) n (zi1 c d G))(A:n=G.length)(h:G[j]?=some x) : w.cell? ⟨g,j*3,none⟩=some (.int .i64 (x:Int))/\w.cell? ⟨g,j*3+1,none⟩=some (c x)/\w.cell? ⟨g,j*3+2,none⟩=some (d x):=by rcases o.2 with ⟨p,_⟩|⟨u,t,i,b,v,q,B,y,C,s⟩;{cases p};{cases b;have z:=(xV.1 h).1;obtain⟨k,l,m⟩:=zuq c d G j x h;have e:∀a f,a<n*3->(zi1 c d G)[a]?=some f->w.cell? ⟨g,a,none⟩=some f:=by{intro a f r b;rw[xX w g a i _ _ q];rw[<-s,List.getElem?_take,if_pos r]at b;simpa using b};exact⟨e _ _ (by omega) k,e _ _ (by omega) l,e _ _ (by omega) m⟩}
theorem zte {a:List Nat}{n m:Nat}(c:n+m<a.length):(a.drop n).take (m+1)=(a.drop n).take m ++ [a[n+m]]:=by(have b:m<(a.drop n).length:=by simp;omega);rw[yQ b,List.getElem_drop]
theorem yht {a:List Nat}{n m:Nat}(d:a.Nodup)(c:n+m<a.length):a[n+m] ∉ (a.drop n).take m:=by have b:((a.drop n).take (m+1)).Nodup:=(List.take_sublist _ _).nodup ((List.drop_sublist _ _).nodup d);rw[zte c,List.nodup_append]at b;intro e;exact b.2.2 _ e _ (x9.2 rfl) rfl
theorem ydx {M I:Nat->Prop}(pb:Nat)(V:List PL)(BV R:List Nat)(mo mc ms mn W:Value)(w:World)(hP:PoolS M I w pb V BV mo mc ms mn)(hR:Nats w W R)(cZ:∀b∈R,b<V.length)(d3:0<V.length)
  (dG:∀(f:Nat) (H:PL),V[f]?=some H->(∀k∈H.1,k<V.length)/\∀k∈H.2,k<V.length) (dL:R.length<1000000000) (hn:V.length<1000000000) (dv:∀H∈V,H.1.length<1000000000/\H.2.length<1000000000)
  (hQ:∀c:List Nat,c.Nodup->(∀b,b∈c↔ReachV V R b)->c.Pairwise (λar a7=>BV.getD ar 0<=BV.getD a7 0)->QOk V BV c) :
  Calls Tryz.prog 107 #[.pointer (some ⟨pb,0,none⟩),W] w λe w'=>∃(U nv:Value) (c:List Nat) (FN:List PL),e=.returned (.tuple #[U,nv])/\OrderIs V BV R c FN/\w'.ownsRow w.heap.size 3 1 U c.length (c.map encN)/\NodesS w.heap.size w' nv FN/\Fr NoM w w':=by
 obtain⟨ra,rc,rfl,z1⟩:=id hR;clear z1;obtain⟨HP,HR,cA,bK,Hn,cr,HQ,er,eu⟩:=Hhp9 hP hR cZ dG hn dv hQ dL d3;clear hP hR cZ dG dv hQ hn dL d3;go_enter Tryz.func107,Tryz.ntmps107;go_wp2_with fail;obtain⟨Q,bk⟩:=eX (w.alloc (.cells #[.pointer (some ⟨pb,0,none⟩)] 65));have dc:Fr NoM w Q:=by rw[bk];exact(nW w).alloc _
 have cL:Q.heap[w.heap.size]?=some (.cells #[.pointer (some ⟨pb,0,none⟩)] 65 (0,0)):=by rw[bk];exact xJ w _
 rw[<-bk];have a0:=Hh dc;have br:=Hh cL;clear dc cL bk;refine(zos pb V BV R mo mc ms mn (.slice ra R.length rc) Q (HP.o.fr0 a0.o) (HR.o.fr0 a0.o) cA.o bK.o er.o Hn.o cr.o).mono ?_
 rintro e w2 ⟨s,ac,Q0,rfl,y,aQ,dA,f2⟩;obtain⟨H2,bD,aG,F2⟩:=Hhp4 y aQ dA f2;clear y aQ dA f2;go_wp2_with fail;obtain⟨fB,fC,bv,fb,LS,RS,Z,cV,cW,_⟩:=HP.o;have d6:Nats w bv BV:=SliceOf.of_owns Z.born rfl;have aw:BV.length=V.length:=Z.lenB;have e6:=Hh (λa (hq:bv.ownBlock=some a)=>(Z.born.lt a hq).2);have dH:pb<w.heap.size:=(yZ.1 Z.blk).1;have c6:w.cell? ⟨pb,2,none⟩=some bv:=by rw[xX w pb 2 _ _ _ Z.blk];rfl
 have bT:=(H2.o.lt s rfl).1;have eU:=a0.o.size;have bd:∀b∈Q0,b<BV.length:=λb m=>by
  rw[aw];have hr:=(aG.o b).1 m;clear m;induction hr with
  | root h=>exact cA.o _ h
  | @left b H _ hy ih=>rw[xY,xQ ih]at hy;exact(bK.o b _ (xQ ih)).1 H hy
  | @right b H _ hy ih=>rw[xY,xQ ih]at hy;exact(bK.o b _ (xQ ih)).2 H hy
 have eG:Q0.length<=V.length:=by
  have:=bD.o.length_le_of_subset (l₂:=List.range V.length) (λb m=>kZ.2 (by rw[<-aw];exact bd b m));simpa using this
 have cM:w2.cell? ⟨w.heap.size,0,none⟩=some (.pointer (some ⟨pb,0,none⟩)):=F2.o.cell (by rw[xX Q _ 0 _ _ _ br.o];rfl) id;have cN:w.heap.size<Q.heap.size:=(yZ.1 br.o).1;have bS:Fr NoM w w2:=a0.o.trans F2.o kP;refine(yd4 (B:=w.heap.size) (pb:=pb) Q0 BV bv w2 H2.o bd (by rw[aw];exact eu.o) (by have:=Hn.o;omega) cM (bS.cell c6 id) (d6.fr0 bS) (by omega) (by omega) (λa hq=>by have:=e6.o a hq;omega)).mono ?_
 rintro e w3 ⟨rfl,c,ax,dN,h3,f3⟩;have dx:Q0.length=c.length:=ax.length_eq.symm;rw[dx];have hq:=HQ.o c ((ax.nodup_iff).2 bD.o) (λb=>(ax.mem_iff).trans (aG.o b)) dN;have cY:∀b∈c,b<V.length:=λb m=>by rw[<-aw];exact bd b ((ax.mem_iff).1 m)
 have bO:c.length<1000000000:=by have:=Hn.o;omega
 have dB:∀b,b∈c↔ReachV V R b:=λb=>(ax.mem_iff).trans (aG.o b)
 have de:Fr NoM Q w3:=F2.o.trans f3 (λa hq e=>by omega);obtain⟨ab,bG,aq,aG,H3,F3,cl,fg,e5,aZ⟩:=Hhp10 hq cY bO dB h3 de bT dH cN aw;clear cM bS bd eG ax dN dx hq cY dB de h3 f3 bT eU dH cN aw;clear bD H2 F2
 -- what is read of the pool
 obtain⟨la,lc,rfl,fo,fp,du⟩:=SliceOf.of_owns (enc:=encV) (L:=LS) Z.left (List.map_id'' (λ_=>rfl) LS).symm;obtain⟨ua,uc,rfl,ft,fu,dQ⟩:=SliceOf.of_owns (enc:=encV) (L:=RS) Z.right (List.map_id'' (λ_=>rfl) RS).symm;obtain⟨va,vc,rfl,fv,fw,dR⟩:=d6;have HC:=Hh (λg (Y:Fr NoM Q g)=>show g.cell? ⟨w.heap.size,0,none⟩=some (.pointer (some ⟨pb,0,none⟩))/\g.cell? ⟨pb,0,none⟩=some (.slice la LS.length lc)/\g.cell? ⟨pb,1,none⟩=some (.slice ua RS.length uc)/\g.cell? ⟨pb,2,none⟩=some (.slice va BV.length vc)from
  have f0:=a0.o.trans Y kP
  ⟨Y.cell (by rw[xX Q _ 0 _ _ _ br.o];rfl) id,f0.cell (by rw[xX w pb 0 _ _ _ Z.blk];rfl) id,f0.cell (by rw[xX w pb 1 _ _ _ Z.blk];rfl) id,f0.cell c6 id⟩)
 have HO:=Hh (λ(b:Nat) (m:b<V.length)=>show ∃ba oa va bb ob vb,la=some ⟨ba,oa,none⟩/\w.cell? ⟨ba,oa+b,none⟩=some va/\Nats w va (za5 V b).1/\ua=some ⟨bb,ob,none⟩/\w.cell? ⟨bb,ob+b,none⟩=some vb/\Nats w vb (za5 V b).2 from by
  have e3:LS[b]?=some (LS[b]'(by rw[Z.lenL];exact m)):=xQ _
  have e4:RS[b]?=some (RS[b]'(by rw[Z.lenR];exact m)):=xQ _
  obtain⟨ba,oa,S,F⟩:=du b _ e3;obtain⟨bb,ob,e2,G⟩:=dQ b _ e4;have hn:za5 V b=V[b]:=by unfold za5;rw[xY,xQ m];rfl
  rw[hn];exact⟨ba,oa,_,bb,ob,_,S,F,(cV b _ V[b] e3 (xQ _)).1,e2,G,(cW b _ V[b] e4 (xQ _)).1⟩)
 obtain⟨HV,ek,es⟩:=Hhp3 dR Z.lenL Z.lenR;clear Z cV cW du dQ dR c6;have eN:∀(cf:TypeId) (w:World),(Instr.makeMap cf none).run Tryz.prog w=.ok (.map (some w.heap.size)) (w.alloc (.map #[] 0)):=λcf w=>run_makeMap cf w
 obtain⟨bL,d9,mk⟩:=zpu c.length (w3.alloc (.map #[] 0)) bO;have e7:=Hh d9;clear d9 bO;go_wp2_with fail;obtain⟨z,a9⟩:=eX w3.heap.size;obtain⟨w4,aA⟩:=eX ((w3.alloc (.map #[] 0)).alloc (.cells bL 85));have dF:OutS V Q s ac z c [] 0 w4 (.slice (some ⟨z+1,0,none⟩) 0 c.length):=by
  have f4:Fr NoM w3 w4:=by rw[aA];exact((nW w3).alloc _).alloc _
  refine⟨by simpa using za3 H3.o f4 kP,?_,?_,F3.o.trans f4 kP⟩
  ·rw[aA,a9]
   have h:=(MapF.made encN encN w3).fr ((nW _).alloc (.cells bL 85)) id;rwa [show znf []=λ_=>none from funext λb=>by simp[znf]]
  ·rw[aA,show z+1=(w3.alloc (.map #[] 0)).heap.size from by rw[a9];simp]
   exact NodesS.made _ _ (by have:=aq.o;omega) bL e7.o
 have dm:s<z/\w.heap.size<s:=by have:=(H3.o.lt s rfl).2;have:=cl.o;have:=e5.o;omega
 rw[<-aA,<-a9];obtain⟨ep,af,eq⟩:=Hhp3 dF dm (show z<w4.heap.size from by rw[aA,a9];simp;omega);clear dF dm aA a9 mk eN;go_loopw [8,9] (λv0 k g=>∃(i:Nat) (nv:Value) (d:List Nat),nv=v0/\k=.int .i64 i/\GInv V BV c d i/\OutS V Q s ac z c d i g nv/\z<g.heap.size) (λ_ k _=>c.length-(intOf k).toNat)
 case atStart=>exact⟨0,_,[],rfl,rfl,GInv.start V BV c,ep.o,eq.o⟩
 case round =>
  obtain⟨i,nv,d,rfl,rfl,hG,hO,a9⟩:=hrel;obtain⟨aa,a6,ai⟩:=Hhp3 hG hO a9;clear hG hO a9;by_cases bW:i<c.length
  ·go_wp2_with fail
   obtain⟨w5,bl⟩:=eX (wr.alloc (.cells #[] 170));have bP:=ERow.made wr V d;have df:Fr NoM wr w5:=by rw[bl];exact(nW wr).alloc _
   rw[<-bl]at bP;rw[<-bl];have cj:=Hh bP;have ed:=Hh df;clear bP df bl;have dI:c.getD i 0=c[i]:=by rw[xY,xQ bW];rfl
   obtain⟨H,hy⟩:=eX (c[i]);have cK:d.length=i:=by have:=aa.o.perm.length_eq;simp at this;omega
   obtain⟨aH,HY,bq,aF⟩:=Hhp4 (show c.getD i 0=H from dI.trans hy.symm) hy cK bW;clear dI hy cK;obtain⟨zs,bp⟩:=eX wr.heap.size;rw[<-bp]at cj ⊢;have aj:=Hh bp;clear bp;go_loopw [10,11] (λgv k g=>∃(A u gb gc:Nat) (U W:Nat->Value) (E:List Nat),gv=.slice (some ⟨gb,0,none⟩) u gc/\k=.int .i64 A/\A=i+u/\A<=c.length/\u=E.length/\E=(c.drop i).take u/\(∀b∈E,BV.getD b 0=BV.getD H 0)/\ERow zs g (.slice (some ⟨gb,0,none⟩) u gc) E U W (fG V d E)/\Fr NoM wr g) (λ_ k _=>c.length-(intOf k).toNat)
   case atStart=>exact⟨i,0,_,_,_,_,[],rfl,rfl,by omega,by have:=aF.o;omega,rfl,by simp,by simp,cj.o,ed.o⟩
   case round =>
    obtain⟨w6,rfl⟩:=eX wr;obtain⟨A,u,gb,gc,U,W,E,rfl,rfl,hk,bV,hm,hG,cT,hE,hF⟩:=hrel;have be:Fr NoM Q w6:=a6.o.fr.trans hF kP;obtain⟨c0,F,G,c3⟩:=HC.o w6 be;have a8:=za3 a6.o.list hF kP;have bU:∀f,i<=f->(d++c.drop i)[f]?=c[f]?:=λf hj=>by
     have:=bq.o;rw[kK (by omega),List.getElem?_drop];congr 1;omega
    have bo:H<V.length:=by rw[HY.o];exact bG.o _ (y9 _)
    have cn:w6.cell? ⟨s,i,none⟩=some (.int .i64 (H:Int)):=zsk a8 (by rw[bU i (xW _),HY.o];exact xQ _);have eZ:=zet s c.length ac i aF.o;obtain⟨b1,o1,S,d1⟩:=HV.o H (BV.getD H 0) (by rw[xY,xQ (by rw[aZ.o];exact bo)];rfl);have f5:=za9 va BV.length vc H b1 o1 (by rw[aZ.o];exact bo) S;obtain⟨yb,ce⟩:=eX (BV.getD H 0);rw[<-ce]at d1;have cy:w6.cell? ⟨b1,o1+H,none⟩=some (.int .i64 (yb:Int)):=(a0.o.trans be kP).cell d1 id;obtain⟨cb,d7⟩:=eX (decide (A<c.length/\BV.getD (c.getD A 0) 0=yb):Bool);have b0:=Hh d7;obtain⟨b6,X,an,HM,bA,bz,HE,HF,bC,cm,bx,fk⟩:=Hhp12 ce hk bV hm hG cT hE hF a8 bU be bo;clear d7 ce hk bV hm hG cT hE hF a8 bU be bo d1 S;go_upto_region 9 with fail;go_cut [57]from 31 to 57 (λaK wx=>aK=.bool cb/\Fr NoM w6 wx)
    case first =>
     -- <<d
     by_cases j:A<c.length
     ·obtain⟨b,m⟩:=eX (c[A])
      have a3:b<V.length:=by rw[m];exact bG.o _ (y9 _)
      have ck:w6.cell? ⟨s,A,none⟩=some (.int .i64 (b:Int)):=zsk bC.o (by rw[cm.o A (by have:=X.o;omega),m];exact xQ _);have eY:=zet s c.length ac A j;obtain⟨b2,o2,e2,d2⟩:=HV.o b (BV.getD b 0) (by rw[xY,xQ (by rw[aZ.o];exact a3)];rfl);have fA:=za9 va BV.length vc b b2 o2 (by rw[aZ.o];exact a3) e2;obtain⟨xb,bn⟩:=eX (BV.getD b 0);rw[<-bn]at d2;have cx:w6.cell? ⟨b2,o2+b,none⟩=some (.int .i64 (xb:Int)):=(a0.o.trans bx.o kP).cell d2 id;have ay:c.getD A 0=b:=by rw[m,xY,xQ j];rfl
      have ad:cb=decide (xb=yb):=by rw[b0.o,ay,<-bn];simp[j]
      have hd:decide ((A:Int)<(c.length:Int))=true:=by simp;exact j
      obtain⟨HX,ex,fj,fh⟩:=Hhp4 m a3 bn ay;clear m a3 d2 e2 bn ay;by_cases y:xb=yb
      ·subst y
       rw[vJ rfl]at ad;have aC:=Hh ad;clear ad;go_quiet (fail);go_wp2;go_meet
       case rel=>exact⟨congrArg Value.bool aC.o.symm,(nW w6).drewN _⟩
      ·rw[vV y]at ad
       have aC:=Hh ad;clear ad;have h3:((xb:Int) == (yb:Int))=false:=by simp;omega
       have h4:¬(xb:Int)=(yb:Int):=by omega
       clear y;go_quiet (fail);go_wp2;go_meet
       case rel=>exact⟨congrArg Value.bool aC.o.symm,(nW w6).drewN _⟩
     ·have hd:decide ((A:Int)<(c.length:Int))=false:=by simp;omega
      have ad:cb=false:=by rw[b0.o];simp[j]
      have aC:=Hh ad;clear ad;go_quiet (fail);go_wp2;go_meet
      case rel=>exact⟨congrArg Value.bool aC.o.symm,(nW w6).drewN _⟩
     -- d>>
    case rest =>
     obtain⟨rfl,aO⟩:=hcut;obtain⟨T,rfl⟩:=eX wc;clear c0 F G c3 cn eZ f5 cy;have cO:=HE.o.fr aO (λ_ _ _ a=>a);have cQ:=HF.o.trans aO kP;have dh:=bx.o.trans aO kP;have dt:=za3 bC.o aO kP;obtain⟨x,aD,aI,ej⟩:=Hhp4 cO cQ dh dt;clear cO cQ dh dt aO HE HF bx bC;by_cases hc:A<c.length/\BV.getD (c.getD A 0) 0=yb
     ·-- <<d
      obtain⟨j,y⟩:=hc;have e:cb=true:=by rw[b0.o];exact vJ ⟨j,y⟩
      subst e;obtain⟨b,m⟩:=eX (c[A]);have ay:c.getD A 0=b:=by rw[m,xY,xQ j];rfl
      rw[ay]at y;have a3:b∈c:=by rw[m];exact y9 _
      have aB:=bG.o b a3;have ck:T.cell? ⟨s,A,none⟩=some (.int .i64 (b:Int)):=zsk ej.o (by rw[cm.o A (by have:=X.o;omega),m];exact xQ _);have eY:=zet s c.length ac A j;obtain⟨c0,F,G,_⟩:=HC.o T aI.o;obtain⟨ba,oa,v1,bb,ob,v2,S,d1,C,e2,d2,D⟩:=HO.o b aB;have bM:=a0.o.trans aI.o kP;have cF:=a0.o.cell d1 id;have cG:=a0.o.cell d2 id;clear d1 d2;have fy:=yi8 la LS.length lc b ba oa (by rw[ek.o];exact aB) S;have fz:=yi8 ua RS.length uc b bb ob (by rw[es.o];exact aB) e2;have bg:=ab.o.group aa.o aF.o a3 (by rw[y,b6.o,aH.o]);have bj:=ab.o.up b a3;obtain⟨p,b7⟩:=eX ((za5 V b).1);obtain⟨q,bc⟩:=eX ((za5 V b).2);have dw:p.length<1000000000/\q.length<1000000000:=by
       have hm:za5 V b∈V:=by unfold za5;rw[xY,xQ aB];exact y9 _
       rw[b7,bc];exact cr.o _ hm
      rw[<-b7]at C bg bj;rw[<-bc]at D bg bj;obtain⟨N,c3,rfl,z1⟩:=id C;obtain⟨O,c4,rfl,z2⟩:=id D;clear z1 z2;have C:=C.fr0 bM;have D:=D.fr0 bM;have HX:=Hh m;have ex:=Hh a3;have fi:=Hh aB;have ef:=Hh y;have ao:=Hh C;have ap:=Hh D;obtain⟨cp,cC,eg,ei,cq,aE,cz,em,en,cB⟩:=Hhp10 bg bj b7 bc dw j (λg (Y:Fr NoM T g)=>a6.o.rank.fr (aD.o.trans Y kP) id) (λg (Y:Fr NoM T g)=>ao.o.fr0 Y) (λg (Y:Fr NoM T g)=>ap.o.fr0 Y) (λg (Y:Fr NoM Q g)=>have aK:=HC.o g Y;(⟨aK.1,aK.2.1,aK.2.2.1,Y.cell cF id,Y.cell cG id⟩:g.cell? ⟨w.heap.size,0,none⟩=some (.pointer (some ⟨pb,0,none⟩))/\g.cell? ⟨pb,0,none⟩=some (.slice la LS.length lc)/\g.cell? ⟨pb,1,none⟩=some (.slice ua RS.length uc)/\g.cell? ⟨ba,oa+b,none⟩=some (.slice N p.length c3)/\g.cell? ⟨bb,ob+b,none⟩=some (.slice O q.length c4)));clear c0 F G cF cG m a3 aB y C D bg bj b7 bc dw S e2 bM ay;go_upto_region 12 with fail;have cU:(c.drop i).take (u+1)=E ++ [b]/\b ∉ E:=by
       have hk:=X.o;subst hk;rw[bA.o,HX.o];exact⟨zte aE.o,yht ab.o.nodup aE.o⟩
      obtain⟨co,dZ,ez⟩:=Hhp3 cU (show(u+1)*56<=140737488355328 by have:=X.o;have:=aE.o;have:=aq.o;omega) (show zs<=T.heap.size by rw[aj.o];exact aD.o.size);have F0:Fr NoM T T.drew:=(nW T).drew;have J0:Fr NoM Q T.drew:=aI.o.drew;clear cU;go_region_held3 (λ(g:World)=>g.cell? ⟨w.heap.size,0,none⟩=some (.pointer (some ⟨pb,0,none⟩))/\g.cell? ⟨pb,0,none⟩=some (.slice la LS.length lc)/\g.cell? ⟨pb,1,none⟩=some (.slice ua RS.length uc)/\g.cell? ⟨ba,oa+b,none⟩=some (.slice N p.length c3)/\g.cell? ⟨bb,ob+b,none⟩=some (.slice O q.length c4))
       (first|exact cB.o _ (‹_›)|exact cB.o _ (Fr.alloc (‹_›) _))
       (first
        | (go_at_call 149;(with_reducible refine(zoq (.slice N p.length c3) p d z _ (em.o _ (‹_›)) (cz.o _ (‹_›)) cp.o.1 cC.o.1 cq.o.1).mono ?_);rintro e w8 ⟨J,rfl,n8,dS,dn,f8,b8⟩;have F8:Fr NoM T w8:=Fr.trans (‹_›) f8 kP;have J8:Fr NoM Q w8:=aI.o.trans F8 kP)
        | (go_at_call 149;(with_reducible refine(zoq (.slice O q.length c4) q d z _ (en.o _ (‹_›)) (cz.o _ (‹_›)) cp.o.2 cC.o.2 cq.o.2).mono ?_);rintro e t ⟨K,rfl,n9,dT,dp,f9,b9⟩;have F9:Fr NoM T t:=Fr.trans (‹_›) f9 kP;have J9:Fr NoM Q t:=aI.o.trans F9 kP)
        | (refine zof rfl (.tmp 64) (.tmp 86) 167 rfl zs 170 _ 3 56 Tryz.underlying167 yf0 rfl (by decide) (.slice (some ⟨gb,0,none⟩) u gc) u (zi1 U W E) rfl (by have h:=za3 x.o.row (F9.alloc (.cells #[.int .i64 (b:Int),.slice (some ⟨J,0,none⟩) p.length p.length,.slice (some ⟨K,0,none⟩) q.length q.length] 170)) kP;rw[<-HM.o]at h;exact h) t.heap.size rfl [encN b,.slice (some ⟨J,0,none⟩) p.length p.length,.slice (some ⟨K,0,none⟩) q.length q.length] 170 (xJ t _) rfl (by intro ak hu;simp at hu;rcases hu with rfl|rfl|rfl <;> rfl) dZ.o (by decide) (by have:=ez.o;have:=F9.size;simp;omega) ?_;intro fD a4 av au aJ;have eA:Fr NoM Q a4:=(J9.alloc _).trans au (λa hq e=>by have j:=(x.o.row.lt a e).1;have y:=a6.o.fr.size;have h3:=aj.o;omega))
        | fail)
      all_goals
       obtain⟨eC,eD,rfl,z3,z4⟩:=zd5 av (Nat.succ_pos u);have dV:=Hh av;obtain⟨ci,dU,N8,N9,G8,G9,K8,K9,B8,B9,S8,S9⟩:=Hhp12 au aJ n8 n9 f8 f9 F8 F9 b8 b9 (And.intro dS dn) (And.intro dT dp);clear av au aJ n8 n9 b8 b9 f8 f9 F8 F9 F0 J0 J8 J9 eA z3 z4 dS dn dT dp;have dJ:=aq.o;go_wp2;go_roundw
       case rel =>
        have az:=x.o.row;have hE:=x.o;rw[HM.o]at hE;have hZ:=aj.o;have fx:=aD.o.size;have s8:=S8.o;have s9:=S9.o;have k8:=K8.o.size;have k9:=K9.o.size;have fl:=G9.o.size;have o8:∀a,(Value.slice (some ⟨J,0,none⟩) p.length p.length).ownBlock=some a->zs<=a/\a<(t.alloc (.cells #[.int .i64 (b:Int),.slice (some ⟨J,0,none⟩) p.length p.length,.slice (some ⟨K,0,none⟩) q.length q.length] 170)).heap.size/\(Value.slice (some ⟨gb,0,none⟩) E.length gc).ownBlock≠some a:=λa hq=>by
         have e:J=a:=yY hq;subst e;have j:T.heap.size<=J:=s8.1;have y:=(az.lt gb rfl).2;exact⟨by omega,by simp;omega,λe=>by have e:gb=J:=yY e;omega⟩
        have o9:∀a,(Value.slice (some ⟨K,0,none⟩) q.length q.length).ownBlock=some a->zs<=a/\a<(t.alloc (.cells #[.int .i64 (b:Int),.slice (some ⟨J,0,none⟩) p.length p.length,.slice (some ⟨K,0,none⟩) q.length q.length] 170)).heap.size/\(Value.slice (some ⟨gb,0,none⟩) E.length gc).ownBlock≠some a:=λa hq=>by
         have e:K=a:=yY hq;subst e;have j:w8.heap.size<=K:=s9.1;have y:=(az.lt gb rfl).2;exact⟨by omega,by simp;omega,λe=>by have e:gb=K:=yY e;omega⟩
        have di:=K9.o.alloc (.cells #[.int .i64 (b:Int),.slice (some ⟨J,0,none⟩) p.length p.length,.slice (some ⟨K,0,none⟩) q.length q.length] 170);refine⟨A+1,u+1,eC,eD,setV U b (.slice (some ⟨J,0,none⟩) p.length p.length),setV W b (.slice (some ⟨K,0,none⟩) q.length q.length),E ++ [b],rfl,by go_num,by have:=X.o;omega,by have:=aE.o;omega,by have:=HM.o;simp;omega,co.o.1.symm,λfc hz=>?_,?_,?_⟩
        ·rcases y6.1 hz with hz|hz
         ·exact bz.o fc hz
         ·rw[x9]at hz;subst hz;rw[ef.o,b6.o]
        ·have av:=dV.o
         have au:=ci.o;have aJ:=dU.o;rw[HM.o]at av au aJ ⊢;have f6:∀a,(Value.slice (some ⟨J,0,none⟩) p.length p.length).ownBlock=some a->(Value.slice (some ⟨K,0,none⟩) q.length q.length).ownBlock≠some a:=λa hq c7=>by
          have e8:J=a:=yY hq;have e9:K=a:=yY c7;have j:w8.heap.size<=K:=s9.1;have y:J<w8.heap.size:=s8.2;omega
         have f7:∀a,(Value.slice (some ⟨J,0,none⟩) p.length p.length).ownBlock=some a\/(Value.slice (some ⟨K,0,none⟩) q.length q.length).ownBlock=some a->T.heap.size<=a:=λa hq=>by
          rcases hq with hq|hq
          ·have e8:J=a:=yY hq
           have j:T.heap.size<=J:=s8.1;omega
          ·have e9:K=a:=yY hq
           have j:w8.heap.size<=K:=s9.1;omega
         have fa:∀a,(Value.slice (some ⟨J,0,none⟩) p.length p.length).ownBlock=some a\/(Value.slice (some ⟨K,0,none⟩) q.length q.length).ownBlock=some a->RowB (t.alloc (.cells #[.int .i64 (b:Int),.slice (some ⟨J,0,none⟩) p.length p.length,.slice (some ⟨K,0,none⟩) q.length q.length] 170)) a:=λa hq=>by
          rcases hq with hq|hq
          ·have e8:J=a:=yY hq
           subst e8;exact B8.o.fr (G9.o.alloc _) id
          ·have e9:K=a:=yY hq
           subst e9;exact B9.o.fr ((nW t).alloc _) id
         refine hE.snoc co.o.2 di f6 f7 fa ⟨?_,o8⟩ ⟨?_,o9⟩ av au aJ
         ·rw[show(zc2 d (za5 V b)).1=zgh d p from by rw[eg.o];rfl]
          exact N8.o.fr0 (G9.o.alloc _)
         ·rw[show(zc2 d (za5 V b)).2=zgh d q from by rw[ei.o];rfl]
          exact N9.o.fr0 ((nW t).alloc _)
        ·exact(aD.o.trans di kP).trans ci.o (λa hq e=>by have j:=(az.lt a e).1;omega)
       case measure=>simp[intOf];have:=aE.o;omega
      -- d>>
     ·have e:cb=false:=by rw[b0.o];exact vV hc
      subst e;have dy:0<u:=by
       rcases Nat.eq_zero_or_pos u with h|h
       ·exfalso;apply hc
        have hk:A=i:=by have:=X.o;omega
        rw[hk];exact⟨aF.o,by rw[aH.o,b6.o]⟩
       ·exact h
      have da:i+u=c.length\/BV.getD (c.getD (i+u) 0) 0≠BV.getD (c.getD i 0) 0:=by
       rcases Nat.lt_or_ge (i+u) c.length with h|h
       ·right
        intro e;exact hc ⟨by have:=X.o;omega,by rw[X.o,e,aH.o,b6.o]⟩
       ·left;have:=X.o;have:=an.o;omega
      have cs:=Hh dy;have eb:=Hh da;clear dy da hc;go_wp2_with fail;have hs:=yd5 E U W (fG V d E) T (by have h:=x.o.row;rw[HM.o]at h;exact h) (by have:=HM.o;have:=X.o;have:=an.o;have:=aq.o;omega)
       (λk=>⟨(x.o.left k).1,λa hq e=>((x.o.left k).2 a hq).2.2 (by rw[e];rfl)⟩) (λk=>⟨(x.o.right k).1,λa hq e=>((x.o.right k).2 a hq).2.2 (by rw[e];rfl)⟩)
      rw[<-HM.o]at hs;refine hs.mono ?_
      clear hs;rintro e w8 ⟨rfl,o,hp,dP,h8,f8⟩;have bf:o.length=u:=by rw[hp.length_eq,<-HM.o]
      rw[bf]at h8;have dk:=x.o.row.lt gb rfl;have cP:ERow zs w8 (.slice (some ⟨gb,0,none⟩) u gc) o U W (fG V d E):=by
       refine⟨by rw[bf];exact h8,λk=>⟨(x.o.left k).1.fr f8 (λ_ a hq e=>((x.o.left k).2 a hq).2.2 (by rw[e];rfl)),λa hq=>⟨((x.o.left k).2 a hq).1,vK ((x.o.left k).2 a hq).2.1 f8.size,((x.o.left k).2 a hq).2.2⟩⟩,
        λk=>⟨(x.o.right k).1.fr f8 (λ_ a hq e=>((x.o.right k).2 a hq).2.2 (by rw[e];rfl)),λa hq=>⟨((x.o.right k).2 a hq).1,vK ((x.o.right k).2 a hq).2.1 f8.size,((x.o.right k).2 a hq).2.2⟩⟩,(zv3 hp).nodup_iff.2 x.o.sep,λk a hq=>(x.o.thaw k a hq).fr f8 (λe=>by
        rcases hq with hq|hq
        ·exact((x.o.left k).2 a hq).2.2 (by rw[e];rfl)
        ·exact((x.o.right k).2 a hq).2.2 (by rw[e];rfl))⟩
      have cR:Fr NoM wr w8:=aD.o.trans f8 (λa hq e=>by have:=aj.o;omega);have dO:o.Pairwise λar a7=>zap (zc2 d (za5 V a7)) (zc2 d (za5 V ar))=false:=dP.imp_of_mem λ{ar a7} ha hb h=>by
       have S:fG V d E ar=zc2 d (za5 V ar):=if_pos ((hp.mem_iff).1 ha);have e2:fG V d E a7=zc2 d (za5 V a7):=if_pos ((hp.mem_iff).1 hb);rw[S,e2]at h;exact h
      have dC:=aa.o.step ab.o cs.o (by have:=X.o;have:=an.o;omega) bA.o (λb m=>by rw[aH.o];exact bz.o b m) eb.o hp dO;obtain⟨cu,al,ae,am,cw,ee⟩:=Hhp6 dC cP cR bf hp dk;clear dC cP cR bf hp dk dO dP h8 f8;go_wp2_with fail;have eE:=a6.o.nodes;obtain⟨cD,bX⟩:=eE;have d4:∀a∈zaz cD,a<zs:=λa hq=>by have j:=(bX.blk a hq).2.1;have y:=aj.o;omega
      have b4:=Hh bX;have dX:=Hh d4;clear bX d4;go_loopw [8,92] (λv0 k g=>∃(f:Nat) (ag:Value),ag=v0/\k=.int .i64 f/\f<=u/\g.ownsRow Q.heap.size 3 1 (.slice (some ⟨s,0,none⟩) c.length ac) c.length ((d++o.take f++(c.drop i).drop f).map encN)/\MapF encN encN g z (znf (d++o.take f)) ∧
       (∃NV,NodesN (z+1) g ag ((d.map λb=>zc2 d (za5 V b))++(o.take f).map λb=>zc2 d (za5 V b)) NV/\∀a∈zaz NV,a<zs\/a∈zce U W (o.take f))/\(∀a,ag.ownBlock=some a->nv.ownBlock=some a\/w8.heap.size<=a)/\Fr (λa=>a=s\/a=z\/nv.ownBlock=some a) w8 g) (λ_ k _=>u-(intOf k).toNat)
      case atStart =>
       refine⟨0,_,rfl,rfl,yK _,?_,?_,?_,λa hq=>.inl hq,Fr.refl _ _⟩
       ·simpa using za3 a6.o.list ae.o kP
       ·simpa using a6.o.rank.fr ae.o id
       ·exact⟨cD,by simpa using b4.o.fr ae.o (λ_ _ _ a=>a),λa hq=>.inl (dX.o a hq)⟩
      case round =>
       obtain⟨t,rfl⟩:=eX wr;obtain⟨f,ag,rfl,rfl,hj,a8,aT,aS,c5,aP⟩:=hrel;by_cases bh:f<u
       ·have fm:f<o.length:=by rw[am.o];exact bh
        obtain⟨b,m⟩:=eX (o[f]);have bm:o[f]?=some b:=by rw[m];exact xQ _
        have eK:=ee.o;have aL:=al.o.fr aP (λa j y e=>by
         have hz:=aj.o;have dl:=af.o;have a9:=ai.o;rcases e with rfl|rfl|e
         ·omega
         ·omega
         ·have:=(b4.o.row.lt a e).2;omega)
        obtain⟨d0,d1,d2⟩:=ybb (n:=u) (by have h:=aL.row;rw[am.o]at h;exact h) am.o.symm bm;obtain⟨xl,cc⟩:=eX (U b);obtain⟨xr,cd⟩:=eX (W b);have aM:Nats t (U b) (fG V d E b).1/\∀a,(U b).ownBlock=some a->zs<=a/\a<w8.heap.size:=⟨(aL.left b).1,λa hq=>⟨((al.o.left b).2 a hq).1,((al.o.left b).2 a hq).2.1⟩⟩;have aN:Nats t (W b) (fG V d E b).2/\∀a,(W b).ownBlock=some a->zs<=a/\a<w8.heap.size:=⟨(aL.right b).1,λa hq=>⟨((al.o.right b).2 a hq).1,((al.o.right b).2 a hq).2.1⟩⟩;rw[<-cc]at d1 aM;rw[<-cd]at d2 aN;have dj:fG V d E b=zc2 d (za5 V b):=if_pos ((cw.o.mem_iff).1 (by rw[m];exact y9 _));rw[dj]at aM aN;obtain⟨N,F,rfl,z1⟩:=id aM.1;obtain⟨O,G,rfl,z2⟩:=id aN.1;clear z1 z2;have eW:=yng gb u gc f bh;have HX:=Hh m;obtain⟨ev,bt,bu,bB,bH,bF,bE,ah,ea,HJ,ew,ey⟩:=Hhp12 bm aM aN a8 aT aS c5 aP aL hj cc.symm cd.symm;clear m bm cc cd aM aN dj a8 aT aS c5 aP aL eK hj;go_upto_region 17 with fail;obtain⟨C,bY⟩:=eX ((zc2 d (za5 V b)).1.length);obtain⟨D,bZ⟩:=eX ((zc2 d (za5 V b)).2.length);rw[<-bY,<-bZ];obtain⟨a4,aV⟩:=eX (t.alloc (.cells #[.int .i64 (b:Int),.slice N C F,.slice O D G] 170));have dd:Fr NoM t a4:=by rw[aV];exact(nW t).alloc _
        have d5:a4.heap[t.heap.size]?=some (.cells #[.int .i64 (b:Int),.slice N C F,.slice O D G] 170 (0,0)):=by rw[aV];exact xJ t _
        rw[<-aV];have eQ:i+f<c.length:=by have:=X.o;have:=an.o;omega
        have dJ:=aq.o;have d8:∀g:World,Fr (λa=>a=s\/a=z) a4 g->g.cell? ⟨t.heap.size,0,none⟩=some (.int .i64 (b:Int))/\g.cell? ⟨t.heap.size,1,none⟩=some (.slice N C F)/\g.cell? ⟨t.heap.size,2,none⟩=some (.slice O D G):=λg Y=>by
         have eO:¬(t.heap.size=s\/t.heap.size=z):=by
          have:=af.o;have:=ai.o;have:=ae.o.size;have:=ah.o.size;omega
         have hb:=Y.heap d5 eO;exact⟨qR hb rfl,qR hb rfl,qR hb rfl⟩
        obtain⟨bs,bw,cv,ao,ap,fd⟩:=Hhp6 d8 dd eQ bY bZ (show a4.heap.size=t.heap.size+1 from by rw[aV];simp);clear d5 aV d8 dd bY bZ d0 d1 d2 eW;obtain⟨⟨u0,eV⟩,eJ,dM⟩:=ydv (za3 bB.o bw.o kP) (i+f) b cv.o;have f1:∀g,(Instr.indexAt 82 (.slice (some ⟨s,0,none⟩) c.length ac) (.int .i64 ((i:Int)+(f:Int)))).run Tryz.prog g=.ok (.pointer (some ⟨s,i+f,none⟩)) g:=λg=>zet s c.length ac (i+f) cv.o g
        obtain⟨e0,_,_⟩:=bs.o a4 (Fr.refl _ _);have et:=Hh dM;clear dM;go_upto_region 18 with fail;obtain⟨aX,aW⟩:=eX (a4.setCell ⟨s,i+f,none⟩ (.int .i64 (b:Int)));have bQ:Fr (λa=>a=s\/a=z) a4 aX:=by rw[aW];exact Fr.setCell (Fr.refl _ a4) _ _ (λ_=>.inl rfl)
        have dr:aX.ownsRow Q.heap.size 3 1 (.slice (some ⟨s,0,none⟩) c.length ac) c.length (((d++o.take f++(c.drop i).drop f).set (i+f) b).map encN):=by rw[aW];exact et.o
        have dK:MapF encN encN aX z (znf (d++o.take f)):=by
         rw[aW];exact(bH.o.fr bw.o id).fr (Fr.setCell (Fr.refl (λa=>a=s) a4) _ _ (λ_=>rfl)) (by have:=af.o;omega)
        rw[<-aW];obtain⟨a5,c8,dz,bR⟩:=MapF.store (P:=Tryz.prog) dK (KeyAt.nat Tryz.underlying3) Tryz.underlying128 b (i+f);have c8:(Instr.mapUpdate 128 (.map (some z)) (.int .i64 (b:Int)) (.int .i64 ((i:Int)+(f:Int)))).run Tryz.prog aX=.ok () a5:=c8;have bN:Fr (λa=>a=s\/a=z) a4 a5:=bQ.trans bR (λa _ e=>.inr e);have ds:=za3 dr bR (λa hq e=>by have j:s=a:=yY hq;have e:a=z:=e;have:=af.o;omega);obtain⟨S,_,_⟩:=bs.o aX bQ;obtain⟨_,e2,e3⟩:=bs.o a5 bN;obtain⟨ec,eh,el⟩:=Hhp3 bN ds dz;clear bQ dr dK aW bR bN ds dz eV eJ f1 e0;obtain⟨NV,hN,cX⟩:=bF.o;have az:=hN.row;have aR:=hN.len;obtain⟨b5,fe,eo,ct⟩:=Hhp4 az aR hN cX;have dE:NV.length=i+f:=by
         have j:=bq.o;have y:=am.o;rw[aR];simp;omega
        have ff:=Hh dE;have dY:=Hh (show(NV.length+1)*48<=140737488355328 by omega);have cS:Fr (λa=>a=s\/a=z) t a5:=((bw.o.mono (λ_ _ a=>a.elim)).trans ec.o kP);have b3:=Hh cS;clear az aR hN cX dE cS;go_wp2_with (at_builtin;refine zca rfl _ _ 24 rfl (z+1) 85 _ 2 48 Tryz.underlying24 zcc rfl (by decide) ag NV.length (zau NV) rfl (by exact za3 b5.o (b3.o.alloc _) (λa hq e=>by have j:=(b5.o.lt a hq).1;have:=af.o;rcases e with e|e <;> omega)) a5.heap.size rfl [.slice N C F,.slice O D G] 85 (xJ a5 _) rfl (by intro ak hu;simp at hu;rcases hu with rfl|rfl <;> rfl) dY.o (by decide) (by have:=ai.o;have:=ae.o.size;have:=ah.o.size;have:=b3.o.size;simp;omega) ?_);intro cg fE cI cH cE;obtain⟨dW,aY,ch⟩:=Hhp3 cI cH cE;clear cI cH cE c8 S e2 e3;go_wp2;go_roundw
        case rel =>
         have dl:=af.o;have bp:=aj.o;have fq:=ae.o.size;have eT:=ah.o.size;have aU:Fr (λa=>a=s\/a=z) t (a5.alloc (.cells #[.slice N C F,.slice O D G] 85)):=b3.o.alloc _;have eF:=eo.o.fr aU (λa j _ e=>by rcases e with e|e <;> omega);have db:∀(ak:Value) (L:List Nat),(Nats t ak L/\∀a,ak.ownBlock=some a->zs<=a/\a<w8.heap.size)->Nats (a5.alloc (.cells #[.slice N C F,.slice O D G] 85)) ak L/\∀a,ak.ownBlock=some a->z+1<=a/\a<(a5.alloc (.cells #[.slice N C F,.slice O D G] 85)).heap.size/\ag.ownBlock≠some a:=λak L ⟨j,y⟩ =>
          ⟨j.fr aU (λ_ a hq e=>by have:=(y a hq).1;have:=ai.o;rcases e with e|e <;> omega),λa hq=>by
           obtain⟨h3,h4⟩:=y a hq;have h5:=aU.size;have h6:=ai.o;refine⟨by omega,by omega,λe=>?_⟩;rcases bE.o a e with h|h
           ·have:=(b4.o.row.lt a h).2
            omega
           ·omega⟩
         have bm:=ev.o;have dq:f<o.length:=by rw[am.o];exact bh
         have bi:o.take (f+1)=o.take f ++ [b]:=by rw[yQ dq,HX.o]
         have cJ:(d++o.take f).length=i+f:=by have:=bq.o;simp;omega
         have eS:b ∉ d++o.take f:=by
          have aQ:(d++o).Nodup:=(cu.o.perm.nodup_iff).2 ((List.take_sublist _ _).nodup ab.o.nodup);rw[show d++o=(d++o.take f)++o.drop f from by rw[List.append_assoc,List.take_append_drop],uZ dq,<-HX.o,List.nodup_append]at aQ;intro h;exact aQ.2.2 b h b (uX ..) rfl
         refine⟨f+1,cg,rfl,by go_num,by omega,?_,?_,?_,λa hq=>?_,?_⟩
         ·have j:=za3 (eh.o.alloc (.cells #[.slice N C F,.slice O D G] 85)) aY.o (λa hq e=>by
           have S:s=a:=yY hq;have:=(b5.o.lt a e).1;omega)
          have S:(d++o.take f++(c.drop i).drop f).set (i+f) b=d++o.take (f+1)++(c.drop i).drop (f+1):=by
           have eL:f<(c.drop i).length:=by simp;omega
           rw[uZ eL,List.set_append_right _ _ (by omega),cJ,Nat.sub_self,List.set_cons_zero,bi];simp
          rw[S]at j;exact j
         ·have j:=(el.o.fr ((nW a5).alloc (.cells #[.slice N C F,.slice O D G] 85)) id).fr aY.o (λe=>by
           have:=(b5.o.lt z e).1;omega)
          rw[show i+f=(d++o.take f).length from cJ.symm,yb7 _ _ eS,List.append_assoc,<-bi]at j;exact j
         ·rw[bi,vZ,List.map_cons,List.map_nil,<-List.append_assoc]
          have eI:cg.ownBlock=ag.ownBlock\/∃a7,cg.ownBlock=some a7/\(a5.alloc (.cells #[.slice N C F,.slice O D G] 85)).heap.size<=a7:=by
           rw[xZ];exact ch.o
          have bI:=Hh (show U b=.slice N C F from by rw[ao.o];exact ew.o);have bJ:=Hh (show W b=.slice O D G from by rw[ap.o];exact ey.o);have c9:(zce U W (o.take f ++ [b])).Nodup:=by
           have j:=al.o.sep;rw[<-List.take_append_drop (f+1) o,bi,zeg,List.nodup_append]at j;exact j.1
          rw[zeg,zk9,List.nodup_append,bI.o,bJ.o]at c9;refine⟨_,NodesN.snoc (w:=a5.alloc (.cells #[.slice N C F,.slice O D G] 85)) (l:=.slice N C F) (r:=.slice O D G) (v:=ag) eF ?_ ?_ ?_ ?_ ?_ dW.o aY.o eI,?_⟩
          ·have he:=db _ _ bt.o;rw[<-ao.o]at he;exact he
          ·have he:=db _ _ bu.o;rw[<-ap.o]at he;exact he
          ·intro a hq c7
           have j:=c9.2.1;simp[List.filterMap_cons,hq,c7]at j
          ·intro a hq
           have dD:a ∉ [Value.slice N C F,Value.slice O D G].filterMap Value.ownBlock:=λhp=>by
            rcases ct.o a hq with h|h
            ·rcases zih hp with hp|hp
             ·have:=(bt.o.2 a (by rw[<-ao.o];exact hp)).1;omega
             ·have:=(bu.o.2 a (by rw[<-ap.o];exact hp)).1;omega
            ·exact c9.2.2 a h a hp rfl
           exact⟨λe=>dD (List.mem_filterMap.2 ⟨_,uX ..,e⟩),λe=>dD (List.mem_filterMap.2 ⟨_,uJ _ (uX ..),e⟩)⟩
          ·intro a hq
           have j:=ea.o.thaw b a (by rw[bI.o,bJ.o];exact hq);refine j.fr aU (λe=>?_);have y:zs<=a:=by
            rcases hq with hq|hq
            ·exact(bt.o.2 a (by rw[<-ao.o];exact hq)).1
            ·exact(bu.o.2 a (by rw[<-ap.o];exact hq)).1
           have:=ai.o;rcases e with e|e <;> omega
          ·intro a hq
           rw[zdx,y6]at hq;rw[zeg,zk9,bI.o,bJ.o];rcases hq with hq|hq
           ·rcases ct.o a hq with h|h
            ·exact .inl h
            ·exact .inr (vQ _ h)
           ·exact .inr (List.mem_append_right _ hq)
         ·rcases ch.o with h|⟨a7,h,y⟩
          ·rw[h]at hq;exact bE.o a hq
          ·rw[h]at hq;cases hq
           right
           have:=b3.o.size;omega
         ·refine(ah.o.trans aU (λa _ e=>?_)).trans aY.o (λa hq e=>?_)
          ·rcases e with e|e
           ·exact .inl e
           ·exact .inr (.inl e)
          ·rcases bE.o a e with h|h
           ·exact .inr (.inr h)
           ·omega
        case measure=>simp[intOf];omega
       ·have eM:f=u:=by omega
        subst eM;rw[show o.take f=o from by rw[<-am.o,y7]]at a8 aT aS;rw[List.drop_drop]at a8;obtain⟨bB,bH,bF,ah⟩:=Hhp4 a8 aT aS aP;clear a8 aT aS c5 aP bh hj;have fn:=X.o;have bV:=an.o;have dJ:=aq.o;clear X an;go_wp2;go_roundw
        case rel =>
         have dl:=af.o;have fs:=ae.o.size;have eT:=ah.o.size;have a9:=ai.o;have bT:=cl.o;refine⟨i+f,_,d++o,rfl,by go_num,cu.o,⟨bB.o,bH.o,?_,?_⟩,by omega⟩
         ·have hn:=bF.o
          rw[vZ];have S:(d.map λb=>zc2 (d++o) (za5 V b))=d.map λb=>zc2 d (za5 V b):=uQ λb m=>zdd (ab.o.closed aa.o m).1 (ab.o.closed aa.o m).2
          have e2:(o.map λb=>zc2 (d++o) (za5 V b))=o.map λb=>zc2 d (za5 V b):=uQ λb m=>by
           have ca:=(cw.o.mem_iff).1 m;have a3:b∈c:=by rw[bA.o]at ca;exact List.mem_of_mem_drop (List.mem_of_mem_take ca)
           have hg:=ab.o.group aa.o aF.o a3 (by rw[aH.o];exact bz.o b ca);exact zdd hg.1 hg.2
          rw[S,e2];obtain⟨eB,eP,_⟩:=hn;exact⟨eB,eP⟩
         ·refine(a6.o.fr.trans ae.o kP).trans ah.o (λa hq e=>?_)
          rcases e with e|e|e
          ·omega
          ·omega
          ·have:=(b4.o.row.lt a e).1
           omega
        case measure=>simp[intOf];have:=cs.o;omega
  ·have aR:=aa.o.le
   have eR:i=c.length:=by omega
   subst eR;clear bW aR;go_wp2;go_ret2;have hl:=a6.o.list;have eH:d.length=c.length:=by have:=aa.o.perm.length_eq;simpa using this
   rw[List.drop_length,List.append_nil]at hl;refine⟨_,_,d,_,rfl,aa.o.order ab.o.nodup aG.o,?_,a6.o.nodes.base (by have:=af.o;omega),a0.o.trans a6.o.fr kP⟩;rw[eH];exact zb6 hl a0.o.size
