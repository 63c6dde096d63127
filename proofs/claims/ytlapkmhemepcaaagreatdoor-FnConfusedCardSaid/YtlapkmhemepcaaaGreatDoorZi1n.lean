import Derived.Test.YtlapkmhemepcaaaGreatDoorZi18
import Derived.Test.YtlapkmhemepcaaaGreatDoorZi17
import Derived.Shelf.Slices.In.SortNone
/- Lemmas. -/
set_option linter.all false
set_option maxHeartbeats 8000000
set_option maxRecDepth 4000
namespace Go.Proofs.YtlapkmhemepcaaaGreatDoor
open Go.RowKit
def cmpV (c d:Bool)(a b:List (List Int × List Int)):Int:=if (c && d)=true then outM (geC (zaf (natF a)) (zaf (natF b))) (geC (zaf (natF b)) (zaf (natF a)))else 0
theorem GoodD.nat {T P:Int}(a:GoodD T P):∃b:Nat,P=(b:Int)/\b<=16/\Red T b/\T.natAbs<=1000000:=by obtain⟨d,e,c⟩:=a;refine⟨P.toNat,by omega,by omega,?_,by omega⟩;rcases c with a|a;{exact .inl (by omega)};{exact .inr a}
theorem zv9 (T P:Int):∃b:Bool,(b=true↔GoodD T P):=by by_cases a:GoodD T P;{exact⟨true,by simp[a]⟩};{exact⟨false,by simp[a]⟩}
theorem zms (a:Option Addr)(c:Nat)(L:List Nat)(w:World)(i:Nats w (.slice a L.length c) L)(m:L.length<1000000000000) : Calls Tryz.prog 137 #[.slice a L.length c] w λe f=>∃d b,e=.returned (.slice d (zag L).length b)/\f.ownsRow w.heap.size 3 1 (.slice d (zag L).length b) (zag L).length ((zag L).map encN)/\Fr NoM w f:=by cases L with| cons o C =>{obtain⟨F,G,e,h,I,z⟩:=id i;obtain⟨u,D,v,_⟩:=z 0 o rfl;cases e;subst v;exact(zhh u D c (o::C) w i m).mono λe f ⟨d,b,x⟩=>⟨some ⟨d,0,none⟩,b,x⟩}| nil =>{(have j:zag []=[]:=by decide);rw[j];have r:=Hh (show Calls Tryz.prog 181 #[.slice a 0 c] w λe f=>∃d b,e=.returned (.slice d 0 b)/\f.ownsRow w.heap.size 3 1 (.slice d 0 b) 0 []/\Fr NoM w f from by{cases a with| none =>{refine Calls.mono (P:=Tryz.prog) (Any.slices_Clone_int_nil Tryz.layClone 0 c w) ?_;rintro e f ⟨rfl,rfl⟩;exact⟨none,0,rfl,World.ownsRow_nil _ _ _ _,Fr.refl _ _⟩}| some a =>{refine Calls.mono (P:=Tryz.prog) (Any.slices_Clone_int_zero Tryz.layClone a c w) ?_;rintro e f ⟨K,rfl,l,A,B⟩;rcases l.2 with ⟨y,_⟩|⟨d,b,H,rfl,J⟩;{exact absurd y A};{exact⟨some ⟨d,0,none⟩,b,rfl,l,Fr.of_below B⟩}}});clear i m j;go_enter Tryz.func137,Tryz.ntmps137;go_wp2_with fail;refine r.out.mono ?_;rintro e n ⟨d,b,rfl,h,k⟩;have q:=Hh h;have p:=Hh k;clear h k;have t:=Hh (Any.slices_Sort_int_none Tryz.laySort d b n);have s:=Hh (Any.slices_Compact_int_empty Tryz.layCompact d b n);go_wp2_with fail;refine Calls.mono (P:=Tryz.prog) t.out ?_;rintro e E ⟨rfl,g⟩;have g:=g.symm;subst g;go_wp2_with fail;refine Calls.mono (P:=Tryz.prog) s.out ?_;rintro e E ⟨rfl,g⟩;have g:=g.symm;subst g;go_wp2;go_ret;exact⟨d,b,rfl,q.out,p.out⟩}
theorem zum {M I:Nat->Prop}{w wr w6 w8 a9 B:World}{pb j bn:Nat}{V:List PL}{BV l r:List Nat}{u1 u2 q s p Q R P mo mc ms mn:Value}{x y:List Value}
  (k:PoolAt w pb V BV q s p j mo mc ms mn x y) (Y:Fr NoM w wr)
  (aq:∀(f:Nat) (g:Value) (o:PL),x[f]?=some g->V[f]?=some o->Nats w g o.1/\(o.1≠[]->∀a,g.ownBlock=some a->I a))
  (ar:∀(f:Nat) (g:Value) (o:PL),y[f]?=some g->V[f]?=some o->Nats w g o.2/\(o.2≠[]->∀a,g.ownBlock=some a->I a))
  (au:M pb/\M j/\(∀a,q.ownBlock=some a->M a)/\(∀a,s.ownBlock=some a->M a)/\(∀a,p.ownBlock=some a->M a)/\(∀a,M a->¬I a))
  (an:pb≠j/\(∀a,q.ownBlock=some a->a≠pb/\a≠j)/\(∀a,s.ownBlock=some a->a≠pb/\a≠j)/\(∀a,p.ownBlock=some a->a≠pb/\a≠j) ∧
   (∀a,q.ownBlock=some a->s.ownBlock=some a->False)/\(∀a,q.ownBlock=some a->p.ownBlock=some a->False)/\(∀a,s.ownBlock=some a->p.ownBlock=some a->False))
  (e1:wr.ownsRow w.heap.size 3 1 u1 l.length (l.map encN)) (e2:wr.ownsRow w.heap.size 3 1 u2 r.length (r.map encN))
  (f6:Fr (λa=>a=j) wr w6) (aw:MapF encS encN w6 j (upd (zmc V) (keyS (l,r)) BV.length)) (T:Fr (λa=>q.ownBlock=some a\/a=pb) w6 w8) (G:Fr (λa=>s.ownBlock=some a\/a=pb) w8 a9) (C:Fr (λa=>p.ownBlock=some a\/a=pb) a9 B)
  (av:B.heap[pb]?=some (.cells #[Q,R,P,.map (some j),mo,mc,ms,mn] 113 (0,0)))
  (o8:w8.ownsRow 0 100 1 Q (x.length+1) (x ++ [u1])) (ai:a9.ownsRow 0 100 1 R (y.length+1) (y ++ [u2])) (ay:B.ownsRow 0 3 1 P (BV.length+1) (BV.map encN ++ [encN bn]))
  (A:∀a,Q.ownBlock=some a->q.ownBlock=some a\/w6.heap.size<=a) (E:∀a,R.ownBlock=some a->s.ownBlock=some a\/w8.heap.size<=a) (L:∀a,P.ownBlock=some a->p.ownBlock=some a\/a9.heap.size<=a) (ax:(l,r) ∉ V) :
  ∃M' I',PoolS M' I' B pb (V ++ [(l,r)]) (BV ++ [bn]) mo mc ms mn/\(∀a,M' a->M a\/w.heap.size<=a)/\(∀a,I' a->I a\/w.heap.size<=a)/\Fr M w B:=by
 obtain⟨v,Z,a1,a2,a3,n⟩:=au;obtain⟨W,X,aa,ab,ac,ad,ae⟩:=an;have aC:pb<w.heap.size:=(yJ.1 k.blk).1;have aB:j<w.heap.size:=k.find.lt;have aj:=λa d=>(k.left.lt a d).2
 have a7:=λa d=>(k.right.lt a d).2
 have F:=λa d=>(k.born.lt a d).2
 have s0:=Y.size;have s6:=f6.size;have s8:=T.size;have az:=G.size;have aA:=C.size;have a4:=λa d=>e1.lt a d
 have a5:=λa d=>e2.lt a d
 have b7:=λa d=>(o8.lt a d).2
 have b9:=λa d=>(ai.lt a d).2
 have ao:Fr M w B:=by
  have a0:Fr M w wr:=Y.any;have a6:=a0.trans f6 (λa _ b=>by subst b;exact Z);have a8:=a6.trans T (λa _ b=>b.elim (a1 a) (λb=>by subst b;exact v));have ak:=a8.trans G (λa _ b=>b.elim (a2 a) (λb=>by subst b;exact v));exact ak.trans C (λa _ b=>b.elim (a3 a) (λb=>by subst b;exact v))
 refine⟨λa=>a=pb\/a=j\/Q.ownBlock=some a\/R.ownBlock=some a\/P.ownBlock=some a,λa=>(I a/\a<w.heap.size)\/u1.ownBlock=some a\/u2.ownBlock=some a,?_,?_,?_,ao⟩
 ·have ag:∀a,w.heap.size<=a->a<wr.heap.size->(a≠j)/\(¬(q.ownBlock=some a\/a=pb))/\(¬(s.ownBlock=some a\/a=pb))/\¬(p.ownBlock=some a\/a=pb):=λa t D =>
   ⟨by omega,λb=>b.elim (λb=>by have:=aj a b;omega) (λb=>by omega),λb=>b.elim (λb=>by have:=a7 a b;omega) (λb=>by omega),λb=>b.elim (λb=>by have:=F a b;omega) (λb=>by omega)⟩
  have ah:∀a,I a->(a≠j)/\(¬(q.ownBlock=some a\/a=pb))/\(¬(s.ownBlock=some a\/a=pb))/\¬(p.ownBlock=some a\/a=pb):=λa d =>
   ⟨λb=>by subst b;exact n _ Z d,λb=>b.elim (λb=>n a (a1 a b) d) (λb=>by subst b;exact n _ v d),λb=>b.elim (λb=>n a (a2 a b) d) (λb=>by subst b;exact n _ v d),
    λb=>b.elim (λb=>n a (a3 a b) d) (λb=>by subst b;exact n _ v d)⟩
  have U:∀(g:Value) (S:List Nat),Nats wr g S->(S≠[]->∀a,g.ownBlock=some a->(a≠j)/\(¬(q.ownBlock=some a\/a=pb))/\(¬(s.ownBlock=some a\/a=pb))/\¬(p.ownBlock=some a\/a=pb))->Nats B g S:=λg S c d =>
   (((c.fr f6 (λh a z=>(d h a z).1)).fr T (λh a z=>(d h a z).2.1)).fr G (λh a z=>(d h a z).2.2.1)).fr C (λh a z=>(d h a z).2.2.2)
  have af:=k.lenB;refine⟨Q,R,P,j,x ++ [u1],y ++ [u2],⟨av,?_,?_,?_,by rw[yZ,yZ,k.lenL];rfl,by rw[yZ,yZ,k.lenR];rfl,by rw[yZ,yZ,af];rfl,?_⟩,?_,?_,.inl rfl,.inr (.inl rfl),λa c=>.inr (.inr (.inl c)),λa c=>.inr (.inr (.inr (.inl c))),λa c=>.inr (.inr (.inr (.inr c))),?_,W,?_,?_,?_,?_,?_,?_⟩
  ·have c:=za1 (za1 o8 G (λa d b=>?_)) C (λa d b=>?_)
   ·rw[yZ];exact c
   ·rcases A a d with c|c
    ·exact b.elim (λb=>ac a c b) (λb=>(X a c).1 b)
    ·exact b.elim (λb=>by have:=a7 a b;omega) (λb=>by omega)
   ·rcases A a d with c|c
    ·exact b.elim (λb=>ad a c b) (λb=>(X a c).1 b)
    ·exact b.elim (λb=>by have:=F a b;omega) (λb=>by omega)
  ·have c:=za1 ai C (λa d b=>?_)
   ·rw[yZ];exact c
   ·rcases E a d with c|c
    ·exact b.elim (λb=>ae a c b) (λb=>(aa a c).1 b)
    ·exact b.elim (λb=>by have:=F a b;omega) (λb=>by omega)
  ·rw[yZ,vQ];exact ay
  ·rw[zpi V (l,r) ax,<-af]
   exact((aw.fr T (λb=>b.elim (λb=>(X _ b).2 rfl) (λb=>W b.symm))).fr G (λb=>b.elim (λb=>(aa _ b).2 rfl) (λb=>W b.symm))).fr C (λb=>b.elim (λb=>(ab _ b).2 rfl) (λb=>W b.symm))
  ·intro f g o i m
   by_cases K:f<x.length
   ·rw[yW K]at i
    rw[yW (by rw[<-k.lenL];exact K)]at m;obtain⟨N,O⟩:=aq f g o i m;refine⟨U g _ (N.fr0 Y) (λh a d=>ah a (O h a d)),λh a d=>.inl ⟨O h a d,?_⟩⟩;obtain⟨al,H,hl⟩:=N.block h;rw[d]at H;cases H;exact hl
   ·rw[kZ (by omega)]at i
    rw[kZ (by rw[<-k.lenL];omega),<-k.lenL]at m;cases J:f-x.length with
    | zero =>
     rw[J]at i m;simp at i m;subst i m;exact⟨U _ _ (SliceOf.of_owns e1 rfl) (λ_ a d=>ag _ (a4 a d).1 (a4 a d).2),λ_ a d=>.inr (.inl d)⟩
    | succ am=>rw[J]at i;simp at i
  ·intro f g o i m
   by_cases K:f<y.length
   ·rw[yW K]at i
    rw[yW (by rw[<-k.lenR];exact K)]at m;obtain⟨N,O⟩:=ar f g o i m;refine⟨U g _ (N.fr0 Y) (λh a d=>ah a (O h a d)),λh a d=>.inl ⟨O h a d,?_⟩⟩;obtain⟨al,H,hl⟩:=N.block h;rw[d]at H;cases H;exact hl
   ·rw[kZ (by omega)]at i
    rw[kZ (by rw[<-k.lenR];omega),<-k.lenR]at m;cases J:f-y.length with
    | zero =>
     rw[J]at i m;simp at i m;subst i m;exact⟨U _ _ (SliceOf.of_owns e2 rfl) (λ_ a d=>ag _ (a5 a d).1 (a5 a d).2),λ_ a d=>.inr (.inr d)⟩
    | succ am=>rw[J]at i;simp at i
  ·intro a hM ap
   have u:(I a/\a<w.heap.size)\/(w.heap.size<=a/\a<wr.heap.size)\/(w.heap.size<=a/\a<wr.heap.size):=ap.imp_right (λc=>c.imp (a4 a) (a5 a));rcases hM with b|b|b|b|b
   ·subst b
    rcases u with c|c|c
    ·exact n _ v c.1
    ·omega
    ·omega
   ·subst b
    rcases u with c|c|c
    ·exact n _ Z c.1
    ·omega
    ·omega
   ·rcases A a b with e|e
    ·have:=aj a e
     rcases u with c|c|c
     ·exact n a (a1 a e) c.1
     ·omega
     ·omega
    ·rcases u with c|c|c
     ·have:=c.2;omega
     ·omega
     ·omega
   ·rcases E a b with e|e
    ·have:=a7 a e
     rcases u with c|c|c
     ·exact n a (a2 a e) c.1
     ·omega
     ·omega
    ·rcases u with c|c|c
     ·have:=c.2;omega
     ·omega
     ·omega
   ·rcases L a b with e|e
    ·have:=F a e
     rcases u with c|c|c
     ·exact n a (a3 a e) c.1
     ·omega
     ·omega
    ·rcases u with c|c|c
     ·have:=c.2;omega
     ·omega
     ·omega
  ·intro a b
   rcases A a b with e|e
   ·exact X a e
   ·exact⟨by omega,by omega⟩
  ·intro a b
   rcases E a b with e|e
   ·exact aa a e
   ·exact⟨by omega,by omega⟩
  ·intro a b
   rcases L a b with e|e
   ·exact ab a e
   ·exact⟨by omega,by omega⟩
  ·intro a t D
   have:=b7 a t;rcases E a D with e|e
   ·rcases A a t with f|f
    ·exact ac a f e
    ·have:=a7 a e;omega
   ·omega
  ·intro a t D
   have:=b7 a t;rcases L a D with e|e
   ·rcases A a t with f|f
    ·exact ad a f e
    ·have:=F a e;omega
   ·omega
  ·intro a t D
   have:=b9 a t;rcases L a D with e|e
   ·rcases E a t with f|f
    ·exact ae a f e
    ·have:=F a e;omega
   ·omega
 ·intro a d
  rcases d with b|b|b|b|b
  ·subst b;exact .inl v
  ·subst b;exact .inl Z
  ·rcases A a b with e|e
   ·exact .inl (a1 a e)
   ·exact .inr (by omega)
  ·rcases E a b with e|e
   ·exact .inl (a2 a e)
   ·exact .inr (by omega)
  ·rcases L a b with e|e
   ·exact .inl (a3 a e)
   ·exact .inr (by omega)
 ·intro a d
  rcases d with b|b|b
  ·exact .inl b.1
  ·exact .inr (a4 a b).1
  ·exact .inr (a5 a b).1
theorem yfd {M I:Nat->Prop}(pb:Nat)(V:List PL)(BV L R:List Nat)(mo mc ms mn:Value)(a1 a2:Option Addr)(c1 K:Nat)(w:World)(hP:PoolS M I w pb V BV mo mc ms mn)(hL:Nats w (.slice a1 L.length c1) L)(hR:Nats w (.slice a2 R.length K) R)
  (bi:∀h∈L,h<V.length) (bj:∀h∈R,h<V.length) (hl:L.length<1000000000) (hr:R.length<1000000000) (hn:V.length<1000000000) (hb:∀h∈BV,h<1000000000) :
  Calls Tryz.prog 89 #[.pointer (some ⟨pb,0,none⟩),.slice a1 L.length c1,.slice a2 R.length K] w λe w'=>e=.returned (.int .i64 ((za5 V BV L R).2.2:Nat)) ∧
   ∃M' I',PoolS M' I' w' pb (za5 V BV L R).1 (za5 V BV L R).2.1 mo mc ms mn/\(∀d,M' d->M d\/w.heap.size<=d)/\(∀d,I' d->I d\/w.heap.size<=d)/\Fr M w w':=by
 have HP:=Hh hP;have HL:=Hh hL;have HR:=Hh hR;have bZ:=Hh bi;have cf:=Hh bj;have Hl:=Hh hl;have Hr:=Hh hr;have Hn:=Hh hn;have bd:=Hh hb;clear hP hL hR bi bj hb;go_enter Tryz.func89,Tryz.ntmps89;go_wp2_with fail;refine(zms a1 c1 L w HL.out (by omega)).mono ?_
 rintro e w1 ⟨g1,p1,rfl,T,f1⟩;have H1:=Hh T;have F1:=Hh f1;clear T f1;go_wp2_with fail;refine(zms a2 K R w1 (HR.out.fr0 F1.out) (by omega)).mono ?_
 rintro e l ⟨g2,p2,rfl,U,f2⟩;have H2:=Hh U;have F2:=Hh f2;clear U f2;obtain⟨a,ax⟩:=eX (zag L);obtain⟨c,aF⟩:=eX (zag R);have cC:a.length<=L.length:=by rw[ax];exact zcu L
 have cE:c.length<=R.length:=by rw[aF];exact zcu R
 have T:=H1.out;have U:=H2.out;rw[<-ax]at T ⊢;rw[<-aF]at U ⊢;have H1:=Hh T;have H2:=Hh U;have aO:=Hh ax;have aP:=Hh aF;clear T U ax aF;obtain⟨i0,hi,bJ,bK,bL⟩:=info_parts zd3;have aE:=run_make (P:=Tryz.prog) l 22 5 i0 (.int .u8 0) Tryz.underlying22 hi bJ .i64 .i64 0 (4*(a.length+c.length)+1) (by omega) (by omega) (by rw[bL];omega) (by omega);have cF:wrap64 ((a.length:Int)+(c.length:Int))=(a.length:Int)+(c.length:Int):=by unfold wrap64;omega
 have cG:wrap64 (4*((a.length:Int)+(c.length:Int)))=4*((a.length:Int)+(c.length:Int)):=by unfold wrap64;omega
 have aG:wrap64 (4*((a.length:Int)+(c.length:Int))+1)=4*((a.length:Int)+(c.length:Int))+1:=by unfold wrap64;omega
 rw[bK]at aE;have bB:(l.alloc (.cells (madeCells #[.int .u8 0] (4*(a.length+c.length)+1)) 5)).ownsRow l.heap.size 5 1 (.slice (some ⟨l.heap.size,0,none⟩) 0 (4*(a.length+c.length)+1)) 0 [] :=
  y3 l _ _ (xW _) (by unfold maxLen;omega) (by simp[madeCells])
 have c9:=Hh bB;have aE:(Instr.makeSlice 22 (.int .i64 0) (.int .i64 (4*((a.length:Int)+(c.length:Int))+1))).run Tryz.prog l=_:=aE;clear hi bJ bK bL bB
 -- what the walk reads of the pool
 have bt:∀h∈a,h<V.length:=λh k=>bZ.out h ((zba L h).1 (by rw[<-aO.out];exact k))
 have bG:∀h∈c,h<V.length:=λh k=>cf.out h ((zba R h).1 (by rw[<-aP.out];exact k))
 have aV:=F1.out.trans F2.out kP;have aW:=HP.out.fr0 aV;obtain⟨lv,rv,bv,C,t,r,A,au,av,ay,az,aA,aB,aC,aD,N,O,W,X,Y,Z,a0⟩:=id aW;obtain⟨ba,bc,rfl,ct,cu,bm⟩:=SliceOf.of_owns (L:=BV) A.born rfl;have bh:BV.length=V.length:=A.lenB;have HB:=Hh (λn (S:Fr NoM l n) (b:Nat) (B:b<BV.length)=>show n.cell? ⟨pb,2,none⟩=some (.slice ba BV.length bc)/\∃j p,ba=some ⟨j,p,none⟩/\n.cell? ⟨j,p+b,none⟩=some (.int .i64 (BV[b]:Int))from by
  refine⟨S.cell (by rw[xX l pb 2 _ _ _ A.blk];rfl) id,?_⟩;obtain⟨j,p,e,aS⟩:=bm b BV[b] (xQ B);exact⟨j,p,e,S.cell aS id⟩)
 have bR:=Hh (λn (S:Fr NoM l n) (b:Nat) (B:b<a.length)=>show ∃j p,g1=some ⟨j,p,none⟩/\n.cell? ⟨j,p+b,none⟩=some (.int .i64 (a[b]:Int))from by
  obtain⟨cg,aS,e,_,_,g⟩:=(SliceOf.of_owns (L:=a) H1.out rfl).fr0 (F2.out.trans S kP);obtain⟨j,p,e2,hc⟩:=g b a[b] (xQ B);cases e
  exact⟨j,p,e2,hc⟩)
 have bS:=Hh (λn (S:Fr NoM l n) (b:Nat) (B:b<c.length)=>show ∃j p,g2=some ⟨j,p,none⟩/\n.cell? ⟨j,p+b,none⟩=some (.int .i64 (c[b]:Int))from by
  obtain⟨cg,aS,e,_,_,g⟩:=(SliceOf.of_owns (L:=c) H2.out rfl).fr0 S;obtain⟨j,p,e2,hc⟩:=g b c[b] (xQ B);cases e
  exact⟨j,p,e2,hc⟩)
 have aI:=Hh bh;clear bh;have cs:=Hh aW;have a7:=Hh bt;have ap:=Hh bG;have aL:=Hh aV;clear bt bG aV aW A au av ay az aA aB aC aD N O W X Y Z a0 bm;go_wp2;obtain⟨w3,aG⟩:=eX (l.alloc (.cells (madeCells #[.int .u8 0] (4*(a.length+c.length)+1)) 5):World);have bp:Fr NoM l w3:=by rw[aG];exact(nW l).alloc _
 have b0:=c9.out;rw[<-aG]at b0 ⊢;have bU:=Hh bp;have c8:=Hh b0;clear bp b0 aG aE;go_loopw [7,8,30] (λkv j Q n=>∃(b:Nat) (y:Value),y=kv/\Q=.int .i64 b/\b<=a.length/\j=.int .i64 (zai BV 0 (a.take b):Nat)/\n.ownsRow l.heap.size 5 1 y (keyL (a.take b)).length ((keyL (a.take b)).map encU)/\Fr NoM l n) (λ_ _ Q _=>a.length-(intOf Q).toNat)
 case atStart=>exact⟨0,_,rfl,rfl,yV _,by simp[zai],by simpa [keyL] using c8.out,bU.out⟩
 case round =>
  obtain⟨b,y,rfl,rfl,B,rfl,ai,ae⟩:=hrel;have J:=Hh ai;have q:=Hh ae;clear ai ae;by_cases x:b<a.length
  ·have k:a[b]<BV.length:=by rw[aI.out];exact a7.out _ (y7 _)
   obtain⟨b1,o1,bH,cx⟩:=bR.out _ q.out b x;have ix:=za8 g1 a.length p1 b b1 o1 x bH;clear bH;have ag:=ze9 (a.take b) (λh k=>by have:=a7.out h (List.mem_of_mem_take k);omega);have cm:(a.take b).length<=a.length:=by rw[kQ];omega
   have ah:(keyL (a.take b)).length<=20000000000:=by omega
   have aj:=ze3 BV 0 a b x k;have af:keyL (a.take (b+1))=keyL (a.take b)++d36 a[b] ++ [44]:=by rw[yX x,zkd]
   have cn:a[b]<V.length:=a7.out _ (y7 _);have ak:a[b]<1000000000000:=by omega
   have ac:=zmf 12 a[b] (by decide) (by omega);have a6:=Hh ah;have aQ:=Hh aj;have aN:=Hh af;have aR:=Hh ak;have aJ:=Hh ac;have HX:=Hh k;clear ag ah aj af ak ac;go_wp2_with fail;refine(zez (base:=l.heap.size) y (keyL (a.take b)) a[b] wr J.out aR.out q.out.size (by have:=a6.out;omega)).mono ?_
   rintro e w4 ⟨v4,rfl,h4,f4⟩;have g4:=q.out.own J.out f4;have H4:=Hh h4;have G4:=Hh g4;clear h4 f4 g4;go_wp2_with (at_builtin;refine zc7 (enc:=encU) l (G4.out.alloc _) rfl _ _ 22 rfl 5 (.int .u8 0) 1 Tryz.underlying22 zd3 rfl v4 _ _ rfl (H4.out.alloc _) _ rfl [44] (SliceOf.one encU w4 44 5) (λ_=>rfl) ?c1 (by decide) ?_)
   case c1=>have:=a6.out;have:=aJ.out;simp;omega
   intro v5 w5 D v;obtain⟨cb,bb,ob,aa,ch⟩:=HB.out _ v a[b] k;have ib:=za8 ba BV.length bc a[b] bb ob k aa;have cj:BV[a[b]]<1000000000:=bd.out _ (y7 _);have H5:=Hh D;have F5:=Hh v;clear D v aa;go_wp2;go_roundw
   case rel =>
    refine⟨b+1,v5,rfl,by go_num,by omega,by rw[aQ.out],?_,F5.out⟩;rw[aN.out];simpa [Nat.add_assoc] using H5.out
   case measure=>simp[intOf];omega
  ·have aZ:b=a.length:=by omega
   subst aZ;obtain⟨BN,aU⟩:=eX (zai BV 0 a);have ab:zai BV 0 (a.take a.length)=BN:=by rw[y5,aU]
   have G:=J.out;rw[y5]at G;have HO:=Hh G;have bQ:=Hh aU;rw[ab];clear G aU ab B;have ag:=ze9 a (λh k=>by have:=a7.out h k;omega);go_wp2_with (at_builtin;refine zc7 (enc:=encU) l (q.out.alloc _) rfl _ _ 22 rfl 5 (.int .u8 0) 1 Tryz.underlying22 zd3 rfl y _ _ rfl (HO.out.alloc _) _ rfl [124] (SliceOf.one encU wr 124 5) (λ_=>rfl) ?c1 (by decide) ?_)
   case c1=>simp;omega
   intro v5 w5 D v;have h6:w5.ownsRow l.heap.size 5 1 v5 (keyL a ++ [124]).length ((keyL a ++ [124]).map encU):=by simpa using D
   have H6:=Hh h6;have F5:=Hh v;clear D v h6;go_wp2;go_loopw [7,8,55] (λkv j Q n=>∃(b:Nat) (y:Value),y=kv/\Q=.int .i64 b/\b<=c.length/\j=.int .i64 (zai BV BN (c.take b):Nat)/\n.ownsRow l.heap.size 5 1 y (keyL a ++ [124]++keyL (c.take b)).length ((keyL a ++ [124]++keyL (c.take b)).map encU)/\Fr NoM l n) (λ_ _ Q _=>c.length-(intOf Q).toNat)
   case atStart=>exact⟨0,_,rfl,rfl,yV _,by simp[zai],by simpa [keyL] using H6.out,F5.out⟩
   case round =>
    obtain⟨b,y,rfl,rfl,B,rfl,ai,ae⟩:=hrel;have J:=Hh ai;have q:=Hh ae;clear ai ae;by_cases x:b<c.length
    ·have k:c[b]<BV.length:=by rw[aI.out];exact ap.out _ (y7 _)
     obtain⟨b2,o2,bI,cx⟩:=bS.out _ q.out b x;have ix:=za8 g2 c.length p2 b b2 o2 x bI;clear bI;have ag:=ze9 (c.take b) (λh k=>by have:=ap.out h (List.mem_of_mem_take k);omega);have cm:(c.take b).length<=c.length:=by rw[kQ];omega
     have ah:(keyL a ++ [124]++keyL (c.take b)).length<=40000000000:=by simp;omega
     have aj:=ze3 BV BN c b x k;have af:keyL (c.take (b+1))=keyL (c.take b)++d36 c[b] ++ [44]:=by rw[yX x,zkd]
     have cn:c[b]<V.length:=ap.out _ (y7 _);have ak:c[b]<1000000000000:=by omega
     have ac:=zmf 12 c[b] (by decide) (by omega);have a6:=Hh ah;have aQ:=Hh aj;have aN:=Hh af;have aR:=Hh ak;have aJ:=Hh ac;have HX:=Hh k;clear ag ah aj af ak ac;go_wp2_with fail;refine(zez (base:=l.heap.size) y (keyL a ++ [124]++keyL (c.take b)) c[b] wr J.out aR.out q.out.size (by have:=a6.out;omega)).mono ?_
     rintro e w4 ⟨v4,rfl,h4,f4⟩;have g4:=q.out.own J.out f4;have H4:=Hh h4;have G4:=Hh g4;clear h4 f4 g4;go_wp2_with (at_builtin;refine zc7 (enc:=encU) l (G4.out.alloc _) rfl _ _ 22 rfl 5 (.int .u8 0) 1 Tryz.underlying22 zd3 rfl v4 _ _ rfl (H4.out.alloc _) _ rfl [44] (SliceOf.one encU w4 44 5) (λ_=>rfl) ?c1 (by decide) ?_)
     case c1=>have:=a6.out;have:=aJ.out;simp at *;omega
     intro v5 w5 D v;obtain⟨cb,bb,ob,aa,ch⟩:=HB.out _ v c[b] k;have ib:=za8 ba BV.length bc c[b] bb ob k aa;have cj:BV[c[b]]<1000000000:=bd.out _ (y7 _);have H5:=Hh D;have F5:=Hh v;clear D v aa;go_wp2;go_roundw
     case rel =>
      refine⟨b+1,v5,rfl,by go_num,by omega,by rw[aQ.out],?_,F5.out⟩;rw[aN.out];simpa [Nat.add_assoc] using H5.out
     case measure=>simp[intOf];omega
    ·have aZ:b=c.length:=by omega
     subst aZ;have ab:zai BV BN (c.take c.length)=zai BV (zai BV 0 a) c:=by rw[y5,bQ.out]
     have G:=J.out;rw[y5,show keyL a ++ [124]++keyL c=keyS (a,c)from by simp[keyS]]at G;obtain⟨g3,p3,rfl,cw,_⟩:=zbg G (by simp[keyS];omega);have ag:=ze9 a (λh k=>by have:=a7.out h k;omega);have cA:=ze9 c (λh k=>by have:=ap.out h k;omega);have HK:=Hh G;rw[ab];clear G ab B;obtain⟨lv,rv,bv,C,t,r,hA0,au,av,ay,az,aA,aB,aC,aD,N,O,W,X,Y,Z,a0⟩:=HP.out;have A:=hA0.fr0 (aL.out.trans q.out kP);have bO:=Hh hA0;clear hA0;have c3:wr.cell? ⟨pb,3,none⟩=some (.map (some C)):=by rw[xX wr pb 3 _ _ _ A.blk];rfl
     have aY:∀o,(convert 22 9 (.slice (some ⟨g3,0,none⟩) (keyS (a,c)).length p3)).run Tryz.prog (wr.drewN o)=.ok (encS (keyS (a,c))) (wr.drewN o):=λo=>zna (w:=wr.drewN o) HK.out rfl (by simp[Value.ownBlock])
     have F:∀o,(Instr.lookup 108 (.map (some C)) (encS (keyS (a,c))) true).run Tryz.prog (wr.drewN o)=.ok (.tuple #[((zmc V (keyS (a,c))).map encN).getD (.int .i64 0),.bool (zmc V (keyS (a,c))).isSome]) (wr.drewN o):=λo =>
      MapF.look (w:=wr.drewN o) A.find (zxx Tryz.underlying9) Tryz.underlying108 (Tryz.zeroValue3 _) (keyS (a,c)) true
     rw[zoe]at F;have s:=Hh A;have bW:=Hh au;have bX:=Hh av;have c5:=Hh (And.intro ay (And.intro az (And.intro aA (And.intro aB (And.intro aC aD)))));have m:=Hh (And.intro N (And.intro O (And.intro W (And.intro X (And.intro Y (And.intro Z a0))))));clear A au av ay az aA aB aC aD N O W X Y Z a0;by_cases a3:(a,c)∈V
     ·rw[if_pos a3]at F
      have F:∀o,(Instr.lookup 108 (.map (some C)) (encS (keyS (a,c))) true).run Tryz.prog (wr.drewN o)=.ok (.tuple #[.int .i64 (V.idxOf (a,c):Nat),.bool true]) (wr.drewN o):=F;have ao:=Hh a3;clear a3;go_wp2;go_quiet (fail);go_wp2;go_ret;have hp:za5 V BV L R=(V,BV,V.idxOf (a,c)):=by unfold za5;rw[<-aO.out,<-aP.out,if_pos ao.out]
      rw[hp];have ad:Fr NoM w (wr.drewN nq):=(aL.out.trans q.out kP).trans (M':=NoM) ⟨rfl,rfl,rfl,xW _,λ_ _ _=>rfl⟩ kP;exact⟨rfl,M,I,HP.out.fr0 ad,λd g=>.inl g,λd g=>.inl g,ad.any⟩
     ·rw[if_neg a3]at F
      have F:∀o,(Instr.lookup 108 (.map (some C)) (encS (keyS (a,c))) true).run Tryz.prog (wr.drewN o)=.ok (.tuple #[.int .i64 0,.bool false]) (wr.drewN o):=F;have ao:=Hh a3;clear a3;go_wp2;go_quiet (fail);obtain⟨z,b6⟩:=eX (wr.drewN nq);have ad:Fr NoM wr z:=by rw[b6];exact⟨rfl,rfl,rfl,xW _,λ_ _ _=>rfl⟩
      rw[<-b6];have a5:=Hh ad;clear F aY c3 b6 ad;have K:z.cell? ⟨pb,2,none⟩=some bv:=by rw[xX z pb 2 _ _ _ (a5.out.heap s.out.blk id)];rfl
      have c3:z.cell? ⟨pb,3,none⟩=some (.map (some C)):=by rw[xX z pb 3 _ _ _ (a5.out.heap s.out.blk id)];rfl
      obtain⟨a8,a9,rfl,_⟩:=SliceOf.of_owns (L:=BV) s.out.born rfl;have aY:(convert 22 9 (.slice (some ⟨g3,0,none⟩) (keyS (a,c)).length p3)).run Tryz.prog z.drew=.ok (encS (keyS (a,c))) z.drew:=zna (w:=z.drew) (za1 HK.out (a5.out.drew) kP) rfl (by simp[Value.ownBlock]);obtain⟨H,b3,bu,bq⟩:=MapF.store (P:=Tryz.prog) (w:=z.drew) (s.out.find.fr (a5.out.drew) id) (zxx Tryz.underlying9) Tryz.underlying108 (keyS (a,c)) BV.length;have b3:(Instr.mapUpdate 108 (.map (some C)) (encS (keyS (a,c))) (.int .i64 (BV.length:Nat))).run Tryz.prog z.drew=.ok () H:=b3;have c4:=Hh bu;have bV:=Hh bq;clear bu bq;go_upto_region 21 with fail;go_cut []from 86 (λwx=>wx=H)
      case first =>
       go_region_law (fail);all_goals
        go_wp2_with fail;go_meet
        case rel=>rfl
      case rest =>
       subst hcut;obtain⟨H,rfl⟩:=eX wc;clear b3 aY K c3;have ar:Fr (λd=>d=C) wr H:=(a5.out.drew.mono (λ_ _ d=>d.elim)).trans bV.out kP;obtain⟨N,O,W,X,Y,Z,a0⟩:=m.out;have aX:=ar.heap s.out.blk (λe=>N e);have c0:H.cell? ⟨pb,0,none⟩=some lv:=by rw[xX H pb 0 _ _ _ aX];rfl
       have bs:=za1 s.out.left ar (λd f e=>(O d f).2 e);have x:t.length<1000000000:=by rw[s.out.lenL];exact Hn.out
       have aM:=Hh ar;have b9:=Hh aX;have bY:=Hh bs;clear ar N O W X Y Z a0 aX bs;go_wp2_with (at_builtin;refine zch H rfl _ _ 107 rfl 0 100 (.slice none 0 0) 24 Tryz.underlying107 zxz rfl lv t.length t rfl bY.out (.slice g1 a.length p1) rfl rfl ?c1 (by decide) (yV _) ?_)
       case c1=>omega
       intro v7 w7 h7 f7 q7;obtain⟨g7,p7,rfl,_,cy⟩:=zbg h7 (Nat.succ_pos _);obtain⟨k7,z7,bl,br⟩:=zg8 (i:=0) (u:=.slice (some ⟨g7,0,none⟩) (t.length+1) p7) b9.out f7 (λe=>(m.out.2.1 pb e).1 rfl);have co:w7.cell? ⟨pb,0,none⟩=some lv:=by rw[k7];rfl
       have cq:=z7 0;have bA:(w7.setCell ⟨pb,0,none⟩ (.slice (some ⟨g7,0,none⟩) (t.length+1) p7)).ownsRow 0 100 1 (.slice (some ⟨g7,0,none⟩) (t.length+1) p7) (t.length+1) (t ++ [.slice g1 a.length p1]):=za1 h7 (Fr.setCell (Fr.refl (λd=>d=pb) w7) ⟨pb,0,none⟩ _ (λ_=>rfl)) (λd f e=>by
        subst e;rcases q7 with g|⟨j,g,E⟩
        ·rw[g]at f;exact(m.out.2.1 _ f).1 rfl
        ·rw[g]at f;cases f
         have:=(yJ.1 b9.out).1;omega)
       have bD:∀d,(Value.slice (some ⟨g7,0,none⟩) (t.length+1) p7).ownBlock=some d->lv.ownBlock=some d\/H.heap.size<=d:=λd f=>by
        rcases q7 with g|⟨j,g,E⟩
        ·rw[g]at f;exact .inl f
        ·rw[g]at f;cases f;exact .inr E
       have am:=Hh bl;have an:=Hh br;have bf:=Hh bA;have cc:=Hh bD;clear h7 f7 q7 k7 z7 bl br bA bD c0;obtain⟨w8,b5⟩:=eX (w7.setCell ⟨pb,0,none⟩ (.slice (some ⟨g7,0,none⟩) (t.length+1) p7));rw[<-b5]at am an bf;have c1:w8.cell? ⟨pb,1,none⟩=some rv:=by rw[xX w8 pb 1 _ _ _ am.out];rfl
       have bF:w8.ownsRow 0 100 1 rv r.length r:=za1 (za1 s.out.right aM.out (λd f e=>(m.out.2.2.1 d f).2 e)) an.out (λd f e=>by
        rcases e with e|e
        ·exact m.out.2.2.2.2.1 d e f
        ·exact(m.out.2.2.1 d f).1 e)
       have cD:r.length<1000000000:=by rw[s.out.lenR];exact Hn.out
       have ce:=Hh bF;clear bF;go_upto_region 23 with fail;rw[<-b5];clear b5 co cq;go_wp2_with (at_builtin;refine zch w8 rfl _ _ 107 rfl 0 100 (.slice none 0 0) 24 Tryz.underlying107 zxz rfl rv r.length r rfl ce.out (.slice g2 c.length p2) rfl rfl ?c1 (by decide) (yV _) ?_)
       case c1=>omega
       intro v9 w9 h9 f9 q9;obtain⟨g9,p9,rfl,_,cz⟩:=zbg h9 (Nat.succ_pos _);obtain⟨k9,z9,bk,bn⟩:=zg8 (i:=1) (u:=.slice (some ⟨g9,0,none⟩) (r.length+1) p9) am.out f9 (λe=>(m.out.2.2.1 pb e).1 rfl);have cp:w9.cell? ⟨pb,1,none⟩=some rv:=by rw[k9];rfl
       have cr:=z9 1;have cl:pb<w8.heap.size:=(yJ.1 am.out).1;have bx:(w9.setCell ⟨pb,1,none⟩ (.slice (some ⟨g9,0,none⟩) (r.length+1) p9)).ownsRow 0 100 1 (.slice (some ⟨g9,0,none⟩) (r.length+1) p9) (r.length+1) (r ++ [.slice g2 c.length p2]):=za1 h9 (Fr.setCell (Fr.refl (λd=>d=pb) w9) ⟨pb,1,none⟩ _ (λ_=>rfl)) (λd f e=>by
        subst e;rcases q9 with g|⟨j,g,E⟩
        ·rw[g]at f;exact(m.out.2.2.1 _ f).1 rfl
        ·rw[g]at f;cases f;omega)
       have bE:∀d,(Value.slice (some ⟨g9,0,none⟩) (r.length+1) p9).ownBlock=some d->rv.ownBlock=some d\/w8.heap.size<=d:=λd f=>by
        rcases q9 with g|⟨j,g,E⟩
        ·rw[g]at f;exact .inl f
        ·rw[g]at f;cases f;exact .inr E
       have al:=Hh bk;have aK:=Hh bn;have be:=Hh bx;have cd:=Hh bE;clear h9 f9 q9 k9 z9 bk bn bx bE c1 cl;obtain⟨a4,b4⟩:=eX (w9.setCell ⟨pb,1,none⟩ (.slice (some ⟨g9,0,none⟩) (r.length+1) p9));rw[<-b4]at al aK be;have K:a4.cell? ⟨pb,2,none⟩=some (.slice a8 BV.length a9):=by rw[xX a4 pb 2 _ _ _ al.out];rfl
       have bw:a4.ownsRow 0 3 1 (.slice a8 BV.length a9) BV.length (BV.map encN):=za1 (za1 (za1 s.out.born aM.out (λd f e=>(m.out.2.2.2.1 d f).2 e)) an.out (λd f e=>by
        rcases e with e|e
        ·exact m.out.2.2.2.2.2.1 d e f
        ·exact(m.out.2.2.2.1 d f).1 e)) aK.out (λd f e=>by
        rcases e with e|e
        ·exact m.out.2.2.2.2.2.2 d e f
        ·exact(m.out.2.2.2.1 d f).1 e)
       have cB:BV.length<1000000000:=by rw[s.out.lenB];exact Hn.out
       have c6:=Hh bw;clear bw;go_upto_region 24 with fail;rw[<-b4];clear b4 cp cr;go_wp2_with (at_builtin;refine zch a4 rfl _ _ 100 rfl 0 3 (.int .i64 0) 8 Tryz.underlying100 zab rfl (.slice a8 BV.length a9) BV.length (BV.map encN) rfl c6.out (encN (zai BV (zai BV 0 a) c)) rfl rfl ?c1 (by decide) (yV _) ?_)
       case c1=>omega
       intro cI b8 aT bg b7;obtain⟨aq,aH,rfl,_,cv⟩:=zbg aT (Nat.succ_pos _);obtain⟨bM,bN,aw,bo⟩:=zg8 (i:=2) (u:=.slice (some ⟨aq,0,none⟩) (BV.length+1) aH) al.out bg (λe=>(m.out.2.2.2.1 pb e).1 rfl);have cH:b8.cell? ⟨pb,2,none⟩=some (.slice a8 BV.length a9):=by rw[bM];rfl
       have cJ:=bN 2;have ck:pb<a4.heap.size:=(yJ.1 al.out).1;have bz:(b8.setCell ⟨pb,2,none⟩ (.slice (some ⟨aq,0,none⟩) (BV.length+1) aH)).ownsRow 0 3 1 (.slice (some ⟨aq,0,none⟩) (BV.length+1) aH) (BV.length+1) (BV.map encN ++ [encN (zai BV (zai BV 0 a) c)]):=za1 aT (Fr.setCell (Fr.refl (λd=>d=pb) b8) ⟨pb,2,none⟩ _ (λ_=>rfl)) (λd f e=>by
        subst e;rcases b7 with g|⟨j,g,E⟩
        ·rw[g]at f;exact(m.out.2.2.2.1 _ f).1 rfl
        ·rw[g]at f;cases f;omega)
       have bC:∀d,(Value.slice (some ⟨aq,0,none⟩) (BV.length+1) aH).ownBlock=some d->(Value.slice a8 BV.length a9).ownBlock=some d\/a4.heap.size<=d:=λd f=>by
        rcases b7 with g|⟨j,g,E⟩
        ·rw[g]at f;exact .inl f
        ·rw[g]at f;cases f;exact .inr E
       have bP:=Hh aw;have bT:=Hh bo;have c7:=Hh bz;have ca:=Hh bC;clear aT bg b7 bM bN aw bo bz bC K ck;go_wp2;go_ret;have ci:=aI.out;have hp:za5 V BV L R=(V ++ [(a,c)],BV ++ [zai BV (zai BV 0 a) c],V.length):=by unfold za5;rw[<-aO.out,<-aP.out,if_neg ao.out]
       rw[hp];refine⟨by rw[<-ci];rfl,?_⟩;have aw:=bP.out;exact zum bO.out (aL.out.trans q.out kP) bW.out bX.out c5.out m.out (za1 H1.out (F2.out.trans q.out kP) kP) (zb1 (za1 H2.out q.out kP) F1.out.size) aM.out c4.out an.out aK.out bT.out aw bf.out be.out c7.out cc.out cd.out ca.out ao.out
