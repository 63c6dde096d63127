import Derived.Test.YtghekfmfonoocaaGreatDoorZu9
import Derived.Deep.SlicePairs
import Derived.ChangeSlices
/- Lemmas. -/
set_option linter.all false
set_option maxHeartbeats 16000000
set_option maxRecDepth 20000
namespace Go.Proofs.YtghekfmfonoocaaGreatDoor
open Go.RowKit
def zo2 (U:List Nat) (pb sb:Nat) (l k m:Value) (w:World) (V:List PL) (M I:Nat->Prop) (g:Bool) (T P:Int) (e:Ending) (h:World):Prop :=
  ∃ (b : Nat) (c : Bool) (a : List PL) (i : List Nat) (f d : Nat->Prop) (j : Nat->Option Nat), e = .returned (.tuple #[.int .i64 (b : Int), .bool c]) ∧
    PSt encN NegMO U pb sb l k m (.map (some sb)) h a i f d j/\PNx sb w V M I h a f d/\(c=true->g=true/\b < a.length/\(za0 a).getD b 0=numC T P.toNat)/\(c=false->(g && zah (numN T P.toNat))=false)
theorem zu1 {U:List Nat}(a0:U.length<1000000)(pb sb:Nat)(j i k:Value)(T P:Int)(g:Bool)(O:g=true↔GoodD T P)(h:g=true->T.natAbs/2^P.toNat<120->∀u,SubC (numC T P.toNat) u->u∈U) (V:List PL) (BV:List Nat) (M I:Nat->Prop) (f:Nat->Option Nat) (w:World) (a4:PSt encN NegMO U pb sb j i k (.map (some sb)) w V BV M I f) : Calls Tryz.prog 59 #[.pointer (some ⟨pb,0,none⟩),.agg #[.int .i64 T,.int .i64 P]] w λy w'=>zo2 U pb sb j i k w V M I g T P y w':=by(obtain⟨v,B⟩:=eX (w.alloc (.cells #[.int .i64 T,.int .i64 P] 29));have L:Fr NoM w v:=by rw[B];exact(nW w).alloc _);(have e1:v.heap[w.heap.size]?=some (.cells #[.int .i64 T,.int .i64 P] 29 (0,0)):=by rw[B];exact xJ w _);obtain⟨HK,a7,H,G,J,HG,HU⟩:=Hhp7 (λt (f:Fr NoM v t)=>(by{have n:=f.heap e1 id;exact⟨qR n rfl,qR n rfl⟩}:t.cell? ⟨w.heap.size,0,none⟩=some (.int .i64 T)/\t.cell? ⟨w.heap.size,1,none⟩=some (.int .i64 P))) (zcu T P v g O) (a4.fr0 L) L a0 O h;clear a4 L e1 a0 O h;obtain⟨X,Y⟩:=HK.o v (Fr.refl _ _);go_enter Tryz.func59,Tryz.ntmps59;go_wp2_with fail;rw[<-B];clear B;(with_reducible refine a7.o.mono ?_);rintro y E ⟨rfl,f2⟩;have d:=Hh f2;clear f2 X Y;obtain⟨X,Y⟩:=HK.o E d.o;cases g with| false =>{have b:=Hh (show zo2 U pb sb j i k w V M I false T P (.returned (.tuple #[.int .i64 ((0:Nat):Int),.bool false])) E from⟨0,false,V,BV,M,I,f,rfl,H.o.fr0 d.o,PNx.of0 (G.o.trans d.o kP),(λe=>by cases e),(λ_=>rfl)⟩);go_wp2;go_ret2;exact b.o}| true =>{(have ab:GoodD T P:=by have e:=HG.o;simpa using e);(obtain⟨a,rfl,hp,q,ht⟩:=ab.nat;obtain⟨D,A⟩:=eX T.natAbs;have aj:max T (-T)=(D:Int):=by omega);(have an:-1000000<=T/\T<=1000000:=by omega);(obtain⟨C,p⟩:=eX (D/2^a);have al:C<=D:=by rw[p];exact Nat.div_le_self _ _);(have ak:(D:Int)/2^a=(C:Int):=by rw[p];simp);have a3:C<=numB T a:=by{unfold numB;rw[p,A];by_cases n:a=0;{rw[if_pos n,n];simp};{rw[if_neg n];omega}};by_cases ai:120<=C;{(have a1:(true && zah (numN T a))=false:=by rw[zz2 q (by omega)];rfl);have b:=Hh (show zo2 U pb sb j i k w V M I true T (a:Int) (.returned (.tuple #[.int .i64 ((0:Nat):Int),.bool false])) E from⟨0,false,V,BV,M,I,f,rfl,H.o.fr0 d.o,PNx.of0 (G.o.trans d.o kP),(λe=>by cases e),(λ_=>a1)⟩);clear p A a1 a3 q;go_wp2;go_ret2;exact b.o};{have h:=HU.o (by simp) (by show T.natAbs/2^a<120;rw[<-A,<-p];omega);have h:∀u,SubC (numC T a) u->u∈U:=h;have HN:=Hh (ybe J.o pb sb j i k _ T a (vW _) q (by omega) hp h V BV M I f E (H.o.fr0 d.o));clear p A a3 q h;go_wp2_with fail;(with_reducible refine HN.o.mono ?_);rintro y l ⟨c,x,F,M3,I3,aa,rfl,r,a5,Z,q3⟩;have ac:=r.len;have ae:=J.o;have a2:Nats (l.alloc (.cells #[.int .i64 (c:Int)] 3)) (.slice (some ⟨l.heap.size,0,none⟩) 1 1) [c]:=SliceOf.one encN l c 3;obtain⟨a9,s,a8,m⟩:=Hhp4 (zos pb x F [c] j i k (.map (some sb)) _ (l.alloc (.cells #[.int .i64 (c:Int)] 3)) (r.pool.fr0 ((nW l).alloc _)) a2 (λap W=>by rw[x9.1 W];exact Z) (λaf ag hy=>r.ok.opts' af ag hy) (by simp) (by omega) (r.ok.lens (by omega))) r ((PNx.of0 (G.o.trans d.o kP)).trans a5) (And.intro Z q3);clear r a5 Z q3 ac ae a2 X Y;go_wp2_with fail;(with_reducible refine a9.o.mono ?_);rintro y w4 ⟨gq,cq,K,rfl,hQ,R,Q,f4⟩;have N:Fr NoM l w4:=((nW l).alloc _).trans f4 kP;obtain⟨a6,S⟩:=eX (decide ((K.length:Int)<=120));have b:=Hh (show zo2 U pb sb j i k w V M I true T (a:Int) (.returned (.tuple #[.int .i64 (c:Int),.bool a6])) w4 from⟨c,a6,x,F,M3,I3,aa,rfl,s.o.fr0 N,a8.o.trans (PNx.of0 N),(λ_=>⟨rfl,m.o.1,m.o.2⟩),(λe=>by{rw[S,decide_eq_false_iff_not]at e;have ad:FormRes x F c false []:=.inl ⟨rfl,rfl,K,R,Q,by omega⟩;have z:=(FormRes.is s.o.ok m.o.1 ad).1;rw[zee s.o.ok m.o.1 m.o.2]at z;show(true && zah (numN T a))=false;unfold numN;rw[<-z];rfl})⟩);have am:K.length<=1000000:=by{have z:=R.length_le_of_subset (l₂:=List.range x.length) (λah hz=>kZ.2 (by{have h2:=(Q ah).1 hz;exact s.o.ok.reach (λao q=>by rw[x9.1 q];exact m.o.1) h2}));rw[uV]at z;have:=s.o.len;have:=J.o;omega};clear hQ R Q f4 N;have o:=b.o;rw[S]at o;have b:=Hh o;clear S o;go_wp2;all_goals(go_ret2;first|exact b.o|(rename_i W;have o:=b.o;simp[W]at o;exact o))}}
theorem zox (T P:Int)(w:World)(g:Bool)(hg:g=true↔GoodD T P)(ok:Bool)(ac:ok=(g && zah (numN T P.toNat))) : Calls Tryz.prog 25 #[.agg #[.int .i64 T,.int .i64 P]] w λe w'=>∃v',e=.returned (.tuple #[.agg #[v'],.bool ok])/\NodesS w.heap.size w' v' (if ok=true then numN T P.toNat else [])/\Fr NoM w w':=by(obtain⟨RN,i⟩:=eX ((if ok=true then numN T P.toNat else []));rw[<-i];have a1:=Hh i;clear i;obtain⟨c,l⟩:=eX ((w.alloc (.cells #[.int .i64 T,.int .i64 P] 29)).alloc (.cells #[.slice none 0 0] 26));have f1:Fr NoM w c:=by rw[l];exact((nW w).alloc _).alloc _);(have ad:c.heap.size=w.heap.size+2:=by rw[l];simp);(have e0:c.heap[w.heap.size]?=some (.cells #[.int .i64 T,.int .i64 P] 29 (0,0)):=by rw[l];exact((nW _).alloc _).heap (xJ w _) id);have e1:c.heap[w.heap.size+1]?=some (.cells #[.slice none 0 0] 26 (0,0)):=by{have a:=xJ (w.alloc (.cells #[.int .i64 T,.int .i64 P] 29)) (.cells #[.slice none 0 0] 26);rw[xZ]at a;rw[l];exact a};obtain⟨J,Y,K,I,a0⟩:=Hhp5 (λd (a2:Fr (λb=>c.heap.size<=b) c d)=>(by{have h0:=a2.heap e0 (λb=>by omega);have q:=a2.heap e1 (λb=>by omega);exact⟨qR h0 rfl,qR h0 rfl,qR q rfl,fZ q⟩}:d.cell? ⟨w.heap.size,0,none⟩=some (.int .i64 T)/\d.cell? ⟨w.heap.size,1,none⟩=some (.int .i64 P)/\d.cell? ⟨w.heap.size+1,0,none⟩=some (.slice none 0 0)/\d.frozen? ⟨w.heap.size+1,0,none⟩=false)) f1 ad hg ac;clear f1 ad e0 e1 hg ac;go_enter Tryz.func25,Tryz.ntmps25;go_wp2_with fail;rw[<-l];clear l;(with_reducible refine(zff c).mono ?_);rintro e s ⟨rfl,r,a8,f2⟩;obtain⟨F,O⟩:=eX (c.heap.size+5);obtain⟨G,Q⟩:=eX (c.heap.size+4);have M:=a8 4 (by omega);rw[<-Q]at M r;rw[<-O]at r ⊢;obtain⟨S,aa⟩:=eX (Value.map (some (c.heap.size+1)));obtain⟨R,a9⟩:=eX (Value.map (some (c.heap.size+2)));obtain⟨V,ab⟩:=eX (Value.map (some (c.heap.size+3)));rw[<-aa,<-a9,<-ab]at r;clear a8 aa a9 ab;obtain⟨u,L⟩:=eX ((if g=true then numU T P.toNat 121 else []));have a4:u.length<1000:=by{rw[L];cases g with| false=>simp| true =>{obtain⟨W,rfl,hp,_⟩:=(I.o.1 rfl).nat;rw[if_pos rfl,zz3];have e:(W:Int).toNat=W:=rfl;omega}};have a3:g=true->T.natAbs/2^P.toNat<120->∀y,SubC (numC T P.toNat) y->y∈u:=λa h y ha=>by{rw[L,if_pos a];obtain⟨W,rfl,hp,hr,_⟩:=(I.o.1 a).nat;exact ye9 hr h y ha};have a7:=r.low;have ae:PSt encN NegMO u F G S R V (.map (some G)) s [] [] (λb=>(b=c.heap.size\/b=F)/\b<s.heap.size) (λb=>NoM b/\b<s.heap.size) (λ_=>none) := ⟨a7,PoolOK.nil,λaq hx=>by simp at hx,⟨#[],0,M,by simp,by simp,by simp⟩,NegMO.none [],λb k=>⟨k.2,by rcases k.1 with a|a <;> omega⟩,λb k=>⟨k.2,k.1.elim⟩⟩;obtain⟨ag,Z,ak,ai⟩:=Hhp4 (zu1 (U:=u) (by omega) F G S R V T P g I.o a3 [] [] _ _ _ s ae) f2 a4 (And.intro O Q);clear r a7 ae M L a4 a3 f2 O Q;obtain⟨D,E,m,n⟩:=J.o s Z.o.any;go_wp2_with fail;(with_reducible refine ag.o.mono ?_);rintro e H ⟨B,am,x,X,ap,ao,ff,rfl,st,nx,hy,hn⟩;have f3:Fr (λb=>c.heap.size<=b) c H:=Z.o.any.trans nx.fr (λC _ a=>by{have:=ai.o;rcases a with a|a;{rcases a.1 with a|a <;> omega};{omega}});obtain⟨t,p,HY,HN⟩:=Hhp4 f3 st hy hn;clear st nx hy hn f3 D E m n;obtain⟨D,E,m,n⟩:=J.o H t.o;cases am with| false =>{have j:ok=false:=by{have a:=HN.o;have h:=a0.o;simp only[true_implies,forall_const]at a;rw[h];exact a};subst j;have i:=a1.o;rw[if_neg (by decide)]at i;subst i;go_wp2;refine yJ (v:=.tuple #[.agg #[.slice none 0 0],.bool false]) (by simp[results,Tryz.results25,go_sem,m,n]) rfl ?_;exact⟨_,rfl,NodesS.nil _ _,(Y.o.trans t.o (λC j a=>by have a:c.heap.size<=C:=a;have:=K.o;omega)).setCell _ _ (λa=>by have a:w.heap.size+1<w.heap.size:=a;omega)⟩}| true =>{obtain⟨a6,z,hc⟩:g=true/\B<x.length/\(za0 x).getD B 0=numC T P.toNat:=by{have a:=HY.o;simp only[true_implies,forall_const]at a;exact a};have al:=p.o.len;have af:=Hh (zkh F B x X S R V (.map (some G)) H p.o.pool p.o.ok z (by have:=ak.o;omega));have a5:=zee p.o.ok z hc;have aj:=Hh (λ(o:Bool) (f:List PL) (A:FormRes x X B o f)=>(by{(obtain⟨q,h⟩:=FormRes.is p.o.ok z A;rw[a5]at q h;have j:ok=o:=by rw[a0.o,a6,q];rfl);refine⟨j.symm,?_⟩;rw[a1.o,h,j];rfl}:o=ok/\f=RN));clear a6 z hc al a5;go_wp2_with fail;(with_reducible refine af.o.mono ?_);rintro e w4 ⟨nv,o,f,rfl,A,N,f4⟩;obtain⟨rfl,rfl⟩:=aj.o o f A;obtain⟨F4,ah,HZ⟩:=Hhp3 (t.o.trans f4 (λ_ _ b=>b.elim)) N (show w.heap.size+2<=H.heap.size from by have:=t.o.size;have:=K.o;omega);obtain⟨an,cn,rfl,zz⟩:=id N.nodeL;clear zz N f4 A D E m n;obtain⟨D,E,m,n⟩:=J.o w4 F4.o;go_wp2;refine yJ (v:=.tuple #[.agg #[.slice an f.length cn],.bool o]) (by simp[results,Tryz.results25,go_sem,m,n]) rfl ?_;refine⟨_,rfl,?_,(Y.o.trans F4.o (λC j a=>by have a:c.heap.size<=C:=a;have:=K.o;omega)).setCell _ _ (λa=>by have a:w.heap.size+1<w.heap.size:=a;omega)⟩;exact(ah.o.fr (Fr.set w4 ⟨w.heap.size+1,0,none⟩ (.slice an f.length cn)) (λb k _ e=>by have e:b=w.heap.size+1:=e;have:=HZ.o;omega)).base (D':=w.heap.size) (by have:=HZ.o;omega)}
theorem zxd (a:Option Addr)(n c k b d:Nat)(f:k<n)(e:a=some ⟨b,d,none⟩)(w:World) : (Instr.indexAt 53 (.slice a n c) (.int .i64 (k:Int))).run Tryz.prog w=.ok (.pointer (some ⟨b,d+k,none⟩)) w:=by subst e;go_simp
def FormsL (R:Nat->Prop)(w:World)(v:Value)(FL:List (List PL)):Prop :=
 ∃a:List Value,Vals w v a/\a.length=FL.length/\∀(c:Nat) (d:Value) (b:List PL),a[c]?=some d->FL[c]?=some b->NodeL R encN w d b
theorem NodeL.low {e:Type}{R:Nat->Prop}{enc:e->Value}{w:World}{v:Value}{NL:List (List e × List e)}(n:NodeL R enc w v NL):NodeL (· < w.heap.size) enc w v NL:=by obtain⟨i,l,rfl,o,p,q⟩:=n;refine⟨i,l,rfl,o,p,λt A s=>?_⟩;obtain⟨j,x,u,z,r,B,f,m,g,h,C,D⟩:=q t A s;refine⟨j,x,u,z,r,World.block_lt_of_cell? w _ f,f,m,g,h,λc y d=>?_,λc y d=>?_⟩;{obtain⟨k,a,b⟩:=g.block c;rw[d]at a;cases a;exact b};{obtain⟨k,a,b⟩:=h.block c;rw[d]at a;cases a;exact b}
structure Mk (w1 W:World) (bb:Nat) (s:List PL × List Nat) (S1:Nat->Prop) (v:Value) (A:List Nat) (u:Value) (B:List Nat):Prop where
 book:BookS S1 W bb s.1 s.2
 sub:∀q,S1 q->w1.heap.size<=q/\q<W.heap.size
 own1:W.ownsRow w1.heap.size 3 1 v A.length (A.map encN)
 own2:W.ownsRow w1.heap.size 3 1 u B.length (B.map encN)
 no1:∀b,v.ownBlock=some b->¬S1 b
 no2:∀b,u.ownBlock=some b->¬S1 b
 sep:∀b,v.ownBlock=some b->u.ownBlock≠some b
 fr:Fr NoM w1 W
theorem Mk.swap {e c:World}{d:Nat}{s:List PL × List Nat}{b:Nat->Prop}{v u:Value}{A B:List Nat}(a:Mk e c d s b v A u B):Mk e c d s b u B v A :=
 ⟨a.book,a.sub,a.own2,a.own1,a.no2,a.no1,λf g h=>a.sep f h g,a.fr⟩
theorem Mk.root {p i e:World}{k:Nat}{s s':List PL × List Nat}{h g:Nat->Prop}{v u:Value}{A B:List Nat}(b:Mk p i k s h v A u B)(c:BookS g e k s'.1 s'.2)(n:∀d,g d->h d\/i.heap.size<=d)(l:Fr h i e):Mk p e k s' (λd=>g d/\d<e.heap.size) v A u B:=by
 have o:∀a,(¬h a/\a<i.heap.size)->¬(g a/\a<e.heap.size):=λa ⟨f,t⟩ ⟨q,_⟩=>by
  rcases n a q with b|b
  ·exact f b
  ·omega
 exact⟨c.cut,λj m=>⟨by
   rcases n j m.1 with f|f
   ·exact(b.sub j f).1
   ·exact kQ b.fr.size f,m.2⟩,za3 b.own1 l (λa c=>b.no1 a c),za3 b.own2 l (λa c=>b.no2 a c),λa c=>o a ⟨b.no1 a c,(b.own1.lt a c).2⟩,λa c=>o a ⟨b.no2 a c,(b.own2.lt a c).2⟩,b.sep,
  b.fr.trans l (λj m r=>by have:=(b.sub j r).1;omega)⟩
theorem Mk.app {m i l j:World}{o:Nat}{s:List PL × List Nat}{n:Nat->Prop}{v h u:Value}{A B:List Nat}{x:Nat}(b:Mk m i o s n v A u B)(q:Fr NoM i l)(C:j.ownsRow m.heap.size 3 1 h (A.length+1) (A.map encN ++ [x].map encN))(y:Fr (Own1 v) l j)(f:h.ownBlock=v.ownBlock\/∃a,h.ownBlock=some a/\l.heap.size<=a):Mk m j o s n h (A ++ [x]) u B:=by
 have k:Fr (Own1 v) i j:=q.any.trans y (λg _ e=>e);have r:∀a,h.ownBlock=some a->v.ownBlock=some a\/i.heap.size<=a:=λa c=>by
  rcases f with d|⟨E,d,w⟩
  ·rw[d]at c;exact .inl c
  ·rw[d]at c;cases c;exact .inr (kQ q.size w)
 exact⟨b.book.fr k (λD z e=>b.no1 D e z),λg f=>⟨(b.sub g f).1,vK (b.sub g f).2 k.size⟩,by rw[yX,vZ];exact C,za3 b.own2 k (λa c e=>b.sep a e c),
  λa c p=>by
   rcases r a c with d|d
   ·exact b.no1 a d p
   ·have:=(b.sub a p).2;omega,
  b.no2,λa c t=>by
   rcases r a c with d|d
   ·exact b.sep a d t
   ·have:=(b.own2.lt a t).2;omega,
  b.fr.trans k (λg f e=>by have:=(b.own1.lt g e).1;omega)⟩
theorem BookS.made {w:World}{b:Nat}(a:w.heap[b]?=some (.cells #[.slice none 0 0,.slice none 0 0] 109 (0,0))):BookS (λe=>e=b) w b [] [] :=
 ⟨.slice none 0 0,.slice none 0 0,[],⟨a,World.ownsRow_nil _ _ _ _,World.ownsRow_nil _ _ _ _,rfl,rfl,by simp,by simp[Value.ownBlock],by simp[Value.ownBlock],by simp[Value.ownBlock]⟩,λg c=>by
  rcases (zc6 a).1 c with a|a|a
  ·exact a
  ·simp[Value.ownBlock]at a
  ·simp[Value.ownBlock]at a,by intro f h i d;simp at d⟩
theorem ygn {FL:List (List PL)}:∀ {n:Nat}{s:List PL × List Nat × List Nat},RootsOK n s->(∀Fm∈FL,GoodF Fm)->s.1.length<=(FL.foldl zbm s).1.length:=by induction FL with| nil=>{intro n s _ _;exact xW _}| cons f l ih =>{intro n s h hF;have hf:=hF f uX;have h1:=ih (h.step hf) (λg hg=>hF g (uJ _ hg));have h2:=(zi5 h.ok f hf.opts).2.2.2.2.length_le;rw[List.foldl_cons];exact kQ h2 h1}
theorem RootsOK.start:RootsOK 0 ([],[],[]):=⟨BookOK.nil,BookUp.nil,by simp,by simp⟩
theorem zrc {NL:List PL}{BL:List Nat}{FL:List (List PL)}{j:Nat}(a:j<FL.length):zc1 NL BL (FL.take (j+1))=zbm (zc1 NL BL (FL.take j)) FL[j]:=by rw[yQ a,zvm]
theorem ybu {R:Nat->Prop}(lv rv:Value)(FL FR:List (List PL))(w:World)(hL:FormsL R w lv FL)(hR:FormsL R w rv FR)(gL:∀c∈FL,GoodF c)(gR:∀c∈FR,GoodF c)(nL:FL.length<=1000)(nR:FR.length<=1000) : Calls Tryz.prog 99 #[lv,rv] w λe w'=>∃v',e=.returned (.agg #[v'])/\NodeOwn w.heap.size w' v' (zht FL FR)/\Fr NoM w w':=by(obtain⟨VL,b5,au,aF⟩:=hL;obtain⟨VR,b6,aw,aH⟩:=hR;obtain⟨al,cl,rfl,b7,b9,aA⟩:=b5;obtain⟨ar,cr,rfl,ba,bc,aB⟩:=b6;rw[au,aw];obtain⟨aU,aW,aQ,aR,GL,GR,aX,aY⟩:=Hhp8 aF aH aA aB gL gR au aw;clear aF aH aA aB gL gR au aw b7 b9 ba bc;go_enter Tryz.func99,Tryz.ntmps99;go_wp2_with fail;obtain⟨k,a6⟩:=eX (w.alloc (.cells #[.slice none 0 0] 26));have J:k.heap.size=w.heap.size+1:=by rw[a6];simp);(have aC:Fr NoM w k:=by rw[a6];exact(nW w).alloc _);(have az:k.heap[w.heap.size]?=some (.cells #[.slice none 0 0] 26 (0,0)):=by rw[a6];exact xJ w _);rw[<-a6];obtain⟨t,aa⟩:=eX (w.heap.size+1);obtain⟨Z,P⟩:=eX (((k.alloc (.cells #[.slice none 0 0,.slice none 0 0] 109)).alloc (.cells #[] 3)).alloc (.cells #[] 3));have aJ:Mk k Z t ([],[]) (λU=>U=t) (.slice (some ⟨t+1,0,none⟩) 0 0) [] (.slice (some ⟨t+1+1,0,none⟩) 0 0) []:=by{(rw[aa];have hF:Fr NoM k Z:=by rw[P];exact(((nW k).alloc _).alloc _).alloc _);(have be:Z.heap.size=w.heap.size+4:=by rw[P];simp[J]);have k0:Z.heap[w.heap.size+1]?=some (.cells #[.slice none 0 0,.slice none 0 0] 109 (0,0)):=by{have i:=xJ k (.cells #[.slice none 0 0,.slice none 0 0] 109);rw[J]at i;rw[P];exact(((nW _).alloc _).alloc _).heap i id};have D:Z.ownsRow k.heap.size 3 1 (.slice (some ⟨w.heap.size+1+1,0,none⟩) 0 0) 0 []:=by{have i:=yW (base:=k.heap.size) (e:=3) (size:=1) (k.alloc (.cells #[.slice none 0 0,.slice none 0 0] 109)) #[] 0 (by simp) (by decide) (by simp);simp only[xZ,J]at i;rw[P,J];exact za3 i ((nW _).alloc _) kP};have o2:Z.ownsRow k.heap.size 3 1 (.slice (some ⟨w.heap.size+1+1+1,0,none⟩) 0 0) 0 []:=by{have i:=yW (base:=k.heap.size) (e:=3) (size:=1) ((k.alloc (.cells #[.slice none 0 0,.slice none 0 0] 109)).alloc (.cells #[] 3)) #[] 0 (by simp;omega) (by decide) (by simp);simp only[xZ,J]at i;rw[P,J];exact i};refine⟨BookS.made k0,λU hq=>⟨by omega,by omega⟩,D,o2,λW I e=>?_,λW I e=>?_,λW I e=>?_,hF⟩;{have I:w.heap.size+1+1=W:=yY I;omega};{have I:w.heap.size+1+1+1=W:=yY I;omega};{have I:w.heap.size+1+1=W:=yY I;have e:w.heap.size+1+1+1=W:=yY e;omega}};rw[<-P];obtain⟨aZ,ad,aP,ai⟩:=Hhp4 aJ aC az J;clear aJ aC az J P a6;rw[<-aa];have bd:=Hh aa;clear aa;go_loopw [6,8] (λv0 S ak=>∃(a:Nat) (S1:Nat->Prop) (Y:Value),Y=v0/\S=.int .i64 a/\a<=FL.length/\Mk k ak t ((zc1 [] [] (FL.take a)).1,(zc1 [] [] (FL.take a)).2.1) S1 Y (zc1 [] [] (FL.take a)).2.2 (.slice (some ⟨t+1+1,0,none⟩) 0 0) []) (λ_ S _=>FL.length-(intOf S).toNat);(case atStart=>exact⟨0,_,_,rfl,rfl,yK _,aZ.o⟩);case round =>(obtain⟨a,S1,Y,rfl,rfl,hj,f⟩:=hrel;obtain⟨w7,rfl⟩:=eX wr;by_cases B:a<FL.length;{have b:=zfu (FL:=FL.take a) RootsOK.start (λc i=>GL.o c (List.mem_of_mem_take i));(have C:=zrc (NL:=[]) (BL:=[]) B;have p:=GL.o FL[a] (y9 _);obtain⟨c,M⟩:=eX (FL[a]);have a1:FL[a]?=some c:=by rw[M];exact xQ _);(obtain⟨T,O⟩:∃T,VL[a]?=some T:=⟨VL[a]'(by rw[aX.o];exact B),xQ _⟩;have N:=(aU.o a T c O a1).low;obtain⟨an,cn,rfl,a9⟩:=id N;clear a9;obtain⟨L,D,rfl,c1⟩:=aQ.o a _ O;have ix:=zxd (some ⟨L,D,none⟩) FL.length cl a L D B rfl;rw[<-M]at p C;have b:RootsOK (0+120*(FL.take a).length) (zc1 [] [] (FL.take a)):=b;obtain⟨⟨r,y,x⟩,A⟩:∃V,zc1 [] [] (FL.take a)=V:=⟨_,rfl⟩;rw[A]at f b C;have Q:=ad.o.trans f.fr kP;have d1:w7.cell? ⟨L,D+a,none⟩=some (.slice an c.length cn):=Q.cell c1 id;have X:r.length<=120*a:=by have d:=b.len;rw[kJ,Nat.min_eq_left (by omega)]at d;have d:r.length<=0+120*a:=d;omega);have j:x.length=a:=by{have d:=zia (FL.take a) ([],[],[]);have d:(zc1 [] [] (FL.take a)).2.2.length=0+(FL.take a).length:=d;rw[A,kJ,Nat.min_eq_left (by omega)]at d;have d:x.length=0+a:=d;omega};have a5:=zsh (R:=(· < w.heap.size)) t (.slice an c.length cn) r c y w7 f.book b.ok (N.fr0 Q) (λu hk hS=>by have d:u<w.heap.size:=hk;have:=(f.sub u hS).1;have:=ai.o;omega) p.opts (by have:=p.le;omega) (λa8 hy=>by have:=p.lens a8 hy;omega) p.pos;obtain⟨ah,HM,ag,ac,HA⟩:=Hhp5 a5 f C j A;clear a5 f C j A b X N p M a1 O c1 Q;go_wp2_with fail;refine ah.o.mono ?_;rintro e w8 ⟨S',rfl,G,s8,H⟩;have a2:=HM.o.root (s':=((addB r y c).1,(addB r y c).2.1)) G s8 H;obtain⟨h,g⟩:=eX (zg5 r y c);rw[<-g];have K:=Hh a2;have HX:=Hh g;clear a2 G s8 H g d1 ix;go_wp2_with (at_builtin;refine zae (enc:=encN) _ rfl (.tmp 20) (.tmp 27) 82 rfl k.heap.size 3 (.int .i64 0) 8 Tryz.underlying82 zaa rfl Y x.length (x.map encN) rfl (za3 K.o.own1 ((nW w8).alloc _) kP) (.slice (some ⟨w8.heap.size,0,none⟩) 1 1) rfl [h] (SliceOf.one encN w8 h 3) (λ_=>rfl) (by have:=ac.o;simp;omega) (by decide) (by have:=K.o.fr.size;rw[xZ];omega) ?_);intro v9 w9 h9 z q9;have a3:=K.o.app ((nW w8).alloc _) h9 z (by rw[xZ];exact q9);have af:=Hh a3;clear a3 h9 z q9;go_wp2;go_roundw;(case rel =>(refine⟨a+1,λu=>S' u/\u<w8.heap.size,v9,rfl,by go_num,by omega,?_⟩;have i:=af.o;rw[ag.o];rw[HX.o]at i;exact i));case measure=>simp[intOf];omega};{(have aq:a=FL.length:=by omega);(subst aq;rw[y7]at f;clear B hj;have b:=zfu (FL:=FL) RootsOK.start GL.o;have b:RootsOK (0+120*FL.length) (zc1 [] [] FL):=b;have j:=zia FL ([],[],[]);have j:(zc1 [] [] FL).2.2.length=0+FL.length:=j;obtain⟨⟨l,n,o⟩,hA1⟩:∃V,zc1 [] [] FL=V:=⟨_,rfl⟩;rw[hA1]at f b j;have j:o.length=FL.length:=by have d:o.length=0+FL.length:=j;omega);have aL:RootsOK (120*FL.length) (l,n,[]):=⟨b.ok,b.up,by have d:l.length<=0+120*FL.length:=b.len;show l.length<=120*FL.length;omega,by simp⟩;obtain⟨HM,b3,aO,aN,aj⟩:=Hhp5 f.swap b j hA1 aL;clear f b j hA1 aL;go_wp2_with fail;go_loopw [7,9] (λv0 S ak=>∃(a:Nat) (S2:Nat->Prop) (a7:Value),a7=v0/\S=.int .i64 a/\a<=FR.length/\Mk k ak t ((zc1 l n (FR.take a)).1,(zc1 l n (FR.take a)).2.1) S2 a7 (zc1 l n (FR.take a)).2.2 Y o) (λ_ S _=>FR.length-(intOf S).toNat);(case atStart=>exact⟨0,_,_,rfl,rfl,yK _,HM.o⟩);case round =>(obtain⟨a,S2,a7,rfl,rfl,hj,f⟩:=hrel;obtain⟨ax,rfl⟩:=eX wr;by_cases B:a<FR.length;{have b:=zfu (FL:=FR.take a) aj.o (λc i=>GR.o c (List.mem_of_mem_take i));(have C:=zrc (NL:=l) (BL:=n) B;have p:=GR.o FR[a] (y9 _);obtain⟨c,M⟩:=eX (FR[a]);have a1:FR[a]?=some c:=by rw[M];exact xQ _);(obtain⟨T,O⟩:∃T,VR[a]?=some T:=⟨VR[a]'(by rw[aY.o];exact B),xQ _⟩;have N:=(aW.o a T c O a1).low;obtain⟨an,cn,rfl,a9⟩:=id N;clear a9;obtain⟨L,D,rfl,c1⟩:=aR.o a _ O;have ix:=zxd (some ⟨L,D,none⟩) FR.length cr a L D B rfl;rw[<-M]at p C;have b:RootsOK (120*FL.length+120*(FR.take a).length) (zc1 l n (FR.take a)):=b;obtain⟨⟨r,y,x⟩,A⟩:∃V,zc1 l n (FR.take a)=V:=⟨_,rfl⟩;rw[A]at f b C;have Q:=ad.o.trans f.fr kP;have d1:ax.cell? ⟨L,D+a,none⟩=some (.slice an c.length cn):=Q.cell c1 id;have X:r.length<=120*FL.length+120*a:=by have d:=b.len;rw[kJ,Nat.min_eq_left (by omega)]at d;exact d);have j:x.length=a:=by{have d:=zia (FR.take a) (l,n,[]);have d:(zc1 l n (FR.take a)).2.2.length=0+(FR.take a).length:=d;rw[A,kJ,Nat.min_eq_left (by omega)]at d;have d:x.length=0+a:=d;omega};have a5:=zsh (R:=(· < w.heap.size)) t (.slice an c.length cn) r c y ax f.book b.ok (N.fr0 Q) (λu hk hS=>by have d:u<w.heap.size:=hk;have:=(f.sub u hS).1;have:=ai.o;omega) p.opts (by have:=p.le;omega) (λa8 hy=>by have:=p.lens a8 hy;omega) p.pos;obtain⟨ah,a0,ag,ac,HA⟩:=Hhp5 a5 f C j A;clear a5 f C j A b X N p M a1 O c1 Q;go_wp2_with fail;refine ah.o.mono ?_;rintro e E ⟨S',rfl,G,s8,H⟩;have a2:=a0.o.root (s':=((addB r y c).1,(addB r y c).2.1)) G s8 H;obtain⟨h,g⟩:=eX (zg5 r y c);rw[<-g];have K:=Hh a2;have HX:=Hh g;clear a2 G s8 H g d1 ix;go_wp2_with (at_builtin;refine zae (enc:=encN) _ rfl (.tmp 35) (.tmp 42) 82 rfl k.heap.size 3 (.int .i64 0) 8 Tryz.underlying82 zaa rfl a7 x.length (x.map encN) rfl (za3 K.o.own1 ((nW E).alloc _) kP) (.slice (some ⟨E.heap.size,0,none⟩) 1 1) rfl [h] (SliceOf.one encN E h 3) (λ_=>rfl) (by have:=ac.o;simp;omega) (by decide) (by have:=K.o.fr.size;rw[xZ];omega) ?_);intro v9 w9 h9 z q9;have a3:=K.o.app ((nW E).alloc _) h9 z (by rw[xZ];exact q9);have af:=Hh a3;clear a3 h9 z q9;go_wp2;go_roundw;(case rel =>(refine⟨a+1,λu=>S' u/\u<E.heap.size,v9,rfl,by go_num,by omega,?_⟩;have i:=af.o;rw[ag.o];rw[HX.o]at i;exact i));case measure=>simp[intOf];omega};{(have aq:a=FR.length:=by omega);subst aq;rw[y7]at f;clear B hj;have b:=zfu (FL:=FR) aj.o GR.o;have a4:=ygn (FL:=FR) aj.o GR.o;have b:RootsOK (120*FL.length+120*FR.length) (zc1 l n FR):=b;have a4:l.length<=(zc1 l n FR).1.length:=a4;have j:=zia FR (l,n,[]);have j:(zc1 l n FR).2.2.length=0+FR.length:=j;obtain⟨⟨s,F,q⟩,hA2⟩:∃V,zc1 l n FR=V:=⟨_,rfl⟩;rw[hA2]at f b j a4;have X:s.length<=120*FL.length+120*FR.length:=b.len;have am:∀h∈o,h<s.length:=λh g=>vK (b3.o.lt h g) a4;have ao:∀h∈q,h<s.length:=λh g=>b.lt h g;(have j:q.length=FR.length:=by have d:q.length=0+FR.length:=j;omega);obtain⟨k1,k2,k3,k4,k5⟩:=ydr b.ok o q am ao;have aM:=ydq (BL:=F) b.up o q;have aE:zht FL FR=zdh (putB s F o q).1 (putB s F o q).2.1 (putB s F o q).2.2:=by{unfold zht;simp only[aN.o,hA2]};have aK:=zhp t Y a7 s F o q ax f.book (SliceOf.of_owns f.own2 rfl) (SliceOf.of_owns f.own1 rfl) (λa h g=>am h (xK g)) (λa h g=>ao h (xK g)) (by have:=aO.o;omega) (by omega) (by omega) (λh g=>by have:=b.ok.lt s.length (xW _) h g;omega);have aI:=aM.lens k1;obtain⟨b2,a0,aT,HK,ay⟩:=Hhp5 aK f aE (And.intro k1 (And.intro k2 (And.intro k3 aI))) X;clear aK f aE k1 k2 k3 k4 k5 aI X aM am ao j a4 b hA2;go_wp2_with fail;refine b2.o.mono ?_;rintro e E ⟨rfl,G,H⟩;obtain⟨h,g⟩:=eX ((putB s F o q).2.2);have aG:=zzu t h _ _ E G HK.o.1 (by rw[g];exact HK.o.2.1) (by have:=HK.o.2.2.1;have:=ay.o;omega) (λa8 hy=>by have:=HK.o.2.2.2 a8 hy;have:=HK.o.2.2.1;have:=ay.o;omega);have aD:Fr NoM k E:=a0.o.fr.trans H (λU hq e=>by{have d:=(a0.o.sub U (a0.o.book.m U e)).1;omega});rw[<-g];obtain⟨aV,ae,HX⟩:=Hhp3 aG aD g;clear aG aD G H g;go_wp2_with fail;refine aV.o.mono ?_;(rintro e ab ⟨v',rfl,n9,z⟩;obtain⟨av,cv,rfl,a9⟩:=id n9.nodeL;clear a9;have ap:=(ae.o.trans z kP).heap aP.o id;have k9:ab.cell? ⟨w.heap.size,0,none⟩=some (.slice none 0 0):=qR ap rfl);(have z9:ab.frozen? ⟨w.heap.size,0,none⟩=false:=fZ ap);have b0:=Hh n9;have aS:=Hh z;clear n9 z ap;go_wp2;refine yJ (v:=.agg #[.slice av (zdh (putB s F o q).1 (putB s F o q).2.1 h).length cv]) (by simp[results,Tryz.results99,go_sem,k9]) rfl ?_;(have b4:w.heap.size<E.heap.size:=by have:=ae.o.size;have:=ai.o;omega);refine⟨_,rfl,?_,(((ad.o.trans ae.o kP).trans aS.o kP)).setCell _ _ (λi=>absurd i (Nat.lt_irrefl _))⟩;rw[aT.o,<-HX.o];refine(b0.o.fr (Fr.set ab ⟨w.heap.size,0,none⟩ _) (λU hq e=>?_)).mono (Nat.le_of_lt b4);have e:U=w.heap.size:=e;omega})})
theorem zrq {R:Nat->Prop}(c d:Value)(FL FR:List (List PL))(w:World)(j:FormsL R w c FL)(k:FormsL R w d FR)(gL:∀b∈FL,GoodF b)(gR:∀b∈FR,GoodF b)(l:FL.length<=1000)(m:FR.length<=1000) : Calls Tryz.prog 99 #[c,d] w λf e=>∃a,f=.returned (.agg #[a])/\NodeL (λg=>w.heap.size<=g) encN e a (zht FL FR)/\Fr NoM w e:=by refine(ybu c d FL FR w j k gL gR l m).mono ?_;rintro f e ⟨a,rfl,i,h⟩;exact⟨a,rfl,i.nodeL,h⟩
theorem SliceOf.unmap {b c:Type}{enc:b->Value}{enc':c->Value}{w:World}{v:Value}{L:List b}{f:b->c}(h:SliceOf enc' w v (L.map f))(n:∀a,enc' (f a)=enc a):SliceOf enc w v L:=by obtain⟨d,g,rfl,i,j,k⟩:=h;refine⟨d,g,by simp,by simpa using i,j,λp a o=>?_⟩;obtain⟨e,q,l,m⟩:=k p (f a) (by rw[vY,o];rfl);exact⟨e,q,l,by rw[<-n];exact m⟩
theorem NodeL.toI {R:Nat->Prop}{w:World}{v:Value}{c:List PL}(i:NodeL R encN w v c):NodeL R encI w v (i2 c):=by obtain⟨d,f,rfl,j,k,l⟩:=i;refine⟨d,f,by rw[zck],by rw[zck];exact j,k,λq B p=>?_⟩;obtain⟨A,o,rfl⟩:=yf2 p;obtain⟨e,s,r,x,m,n,g,h,y,z,t,u⟩:=l q A o;exact⟨e,s,r,x,m,n,g,h,Nats.ints y,Nats.ints z,λb=>t (λa=>b (by rw[a];rfl)),λb=>u (λa=>b (by rw[a];rfl))⟩
theorem NodeL.ofI {R:Nat->Prop}{w:World}{v:Value}{c:List PL}(a:NodeL R encI w v (i2 c)):NodeL R encN w v c:=by obtain⟨h,j,rfl,e,m,n⟩:=a;rw[zck]at e ⊢;refine⟨h,j,rfl,e,m,λr g q=>?_⟩;obtain⟨i,t,s,y,o,p,k,l,z,A,u,x⟩:=n r (ints g.1,ints g.2) (by unfold i2;rw[vY,q];rfl);have f:∀b:List Nat,b≠[]->ints b≠[]:=λb a d=>a (by unfold ints at d;simpa using d);exact⟨i,t,s,y,o,p,k,l,SliceOf.unmap z (λ_=>rfl),SliceOf.unmap A (λ_=>rfl),λa=>u (f _ a),λa=>x (f _ a)⟩
theorem yib {b:List PL}(e:zah b=true)(h:∀(d:Nat) (a:PL),b[d]?=some a->(∀c∈a.1,c<d)/\∀c∈a.2,c<d):GoodF b:=by obtain⟨f,j,g⟩:=of_decide_eq_true e;exact⟨by omega,f,h,λa i=>by have:=g a i;omega⟩
theorem zrr {R:Nat->Prop}(nv:Value)(b:List (List Int × List Int))(w:World)(p:NodeL R encI w nv b) :
  Calls Tryz.prog 32 #[.agg #[nv]] w λd w'=>∃e,d=.returned (.bool e)/\(e=true↔zbh b)/\Fr NoM w w':=by
 have hN:=p.low;obtain⟨l,j,rfl,q,h2,h3⟩:=id p;clear p q h2;obtain⟨t,Y⟩:=eX (w.alloc (.cells #[.slice l b.length j] 26));have a9:Fr NoM w t:=by rw[Y];exact(nW w).alloc _
 have A:t.heap[w.heap.size]?=some (.cells #[.slice l b.length j] 26 (0,0)):=by rw[Y];exact xJ w _
 have HK:=Hh (λc (i:Fr NoM t c)=>show c.cell? ⟨w.heap.size,0,none⟩=some (.slice l b.length j)from by rw[xX c _ 0 _ _ _ (i.heap A id)];rfl);have aH:=Hh (λ(a:Nat) (n:a<b.length) (c:World) (i:Fr NoM t c)=>show ∃e o G H v x,l=some ⟨e,o,none⟩/\c.cell? ⟨e,o+a*2,none⟩=some (.slice G b[a].1.length H)/\c.cell? ⟨e,o+a*2+1,none⟩=some (.slice v b[a].2.length x)/\Ints c (.slice G b[a].1.length H) b[a].1/\Ints c (.slice v b[a].2.length x) b[a].2 from by
  obtain⟨e,o,lv,rv,ha,_,c1,Q,D,E,_,_⟩:=h3 a b[a] (xQ n);have S:=a9.trans i kP;have D:=D.fr0 S;have E:=E.fr0 S;obtain⟨G,H,rfl,_⟩:=id D;obtain⟨v,x,rfl,_⟩:=id E;exact⟨e,o,G,H,v,x,ha,S.cell c1 id,S.cell Q id,D,E⟩)
 obtain⟨HN,K,aw⟩:=Hhp3 hN a9 A;have aN:=HK.o t (Fr.refl _ _);clear hN a9 A h3;go_enter Tryz.func32,Tryz.ntmps32;go_wp2_with fail;rw[<-Y];clear Y;refine(zrs (.slice l b.length j) b t (HN.o.fr0 K.o)).mono ?_
 rintro d w2 ⟨rfl,f2⟩;have F2:=Hh f2;clear f2 aN;cases X:zah b with
 | false =>
  have L:=Hh X;clear X;go_wp2;go_ret;exact⟨false,rfl,⟨λd=>(by cases d),λd=>by have:=d.1;rw[L.o]at this;cases this⟩,K.o.trans F2.o kP⟩
 | true =>
  have L:=Hh X;clear X;go_wp2_with fail;go_loopw [3] (λac c=>∃a:Nat,ac=.int .i64 a/\a<=b.length/\risI b a/\Fr NoM t c) (λac _=>b.length-(intOf ac).toNat)
  case atStart=>exact⟨0,rfl,yK _,λad J hj=>by omega,F2.o⟩
  case round =>
   obtain⟨a,rfl,n,an,am⟩:=hrel;obtain⟨k,rfl⟩:=eX wr;obtain⟨a3,u,aG⟩:=Hhp3 an am n;clear an am n;have k3:=HK.o k u.o;have aT:b.length<=120:=(of_decide_eq_true L.o).1;by_cases B:a<b.length
   ·obtain⟨e,o,G,H,v,x,ha,c1,Q,D,E⟩:=aH.o a B k u.o
    subst ha;have ix:=zbn (some ⟨e,o,none⟩) b.length j a e o B rfl;have a8:=zn9 (.slice G b[a].1.length H) b[a].1 0 ((a:Int)-1) k D;obtain⟨b1,A⟩:=eX (zaq 0 ((a:Int)-1) none b[a].1);obtain⟨b2,a4⟩:=eX (zaq 0 ((a:Int)-1) none b[a].2);have ah:=Hh (λc (i:Fr NoM k c)=>zn9 (.slice v b[a].2.length x) b[a].2 0 ((a:Int)-1) c (E.fr0 i));rw[<-A]at a8;rw[<-a4]at ah;obtain⟨P,ay,af,ag⟩:=Hhp4 (λc (i:Fr NoM k c)=>show c.cell? ⟨w.heap.size,0,none⟩=some (.slice (some ⟨e,o,none⟩) b.length j)/\c.cell? ⟨e,o+a*2+1,none⟩=some (.slice v b[a].2.length x)from⟨i.cell k3 id,i.cell Q id⟩) a8 A a4;clear a8 A a4 D E Q;go_wp2_with fail;refine ay.o.mono ?_
    rintro d w4 ⟨rfl,N,ap⟩;have W:Fr NoM k w4:=by rw[ap];exact⟨rfl,rfl,rfl,xW _,λ_ _ _=>rfl⟩
    obtain⟨k4,c4⟩:=P.o w4 W;have ak:=ah.o w4 W;have az:=Hh ak;have a2:=Hh W;clear ak W ap k3 c1;cases m:b1 with
    | false =>
     have a1:=Hh (show zaq 0 ((a:Int)-1) none b[a].1=false from by rw[<-af.o,m]);subst m;go_wp2;go_ret;exact⟨false,rfl,⟨λd=>(by cases d),λd=>by have q:=(d.2.1 a b[a] B (xQ B)).1;rw[a1.o]at q;cases q⟩,(K.o.trans u.o kP).trans a2.o kP⟩
    | true =>
     have aE:=Hh (show zaq 0 ((a:Int)-1) none b[a].1=true from by rw[<-af.o,m]);subst m;go_wp2_with fail;refine az.o.mono ?_
     rintro d f ⟨rfl,q5,s⟩;have I:Fr NoM w4 f:=by rw[s];exact⟨rfl,rfl,rfl,xW _,λ_ _ _=>rfl⟩
     have ai:=Hh I;clear I s k4 c4;cases m:b2 with
     | false =>
      have a1:=Hh (show zaq 0 ((a:Int)-1) none b[a].2=false from by rw[<-ag.o,m]);subst m;go_wp2;go_ret;exact⟨false,rfl,⟨λd=>(by cases d),λd=>by have q:=(d.2.1 a b[a] B (xQ B)).2;rw[a1.o]at q;cases q⟩,((K.o.trans u.o kP).trans a2.o kP).trans ai.o kP⟩
     | true =>
      have aF:=Hh (show zaq 0 ((a:Int)-1) none b[a].2=true from by rw[<-ag.o,m]);subst m;go_wp2;go_roundw
      case rel =>
       refine⟨a+1,by go_num,by omega,λad J hj C=>?_,(u.o.trans a2.o kP).trans ai.o kP⟩;by_cases d:ad=a
       ·subst d
        rw[xQ B]at C;cases C
        exact⟨aE.o,aF.o⟩
       ·exact a3.o ad J (by omega) C
      case measure=>simp[intOf];omega
   ·have aO:a=b.length:=by have:=aG.o;omega
    subst aO;obtain⟨g,y,ho,hu⟩:=znp a3.o;have r:GoodF g:=yib (by rw[<-zhc,<-y];exact L.o) ho;have aa:∀e:Bool,e=decide (i2 (zdh (addB [] [] g).1 (addB [] [] g).2.1 (zg5 [] [] g))=b)->(e=true↔zbh b):=λe m=>by
     rw[m,decide_eq_true_iff];constructor
     ·intro d
      refine⟨L.o,a3.o,λF' aL=>?_⟩;have e1:g=F':=zug (y.symm.trans aL);subst e1;rw[y]at d;exact zug d
     ·intro d
      rw[d.2.2 g y];exact y.symm
    obtain⟨k1,k2,av,k4,k5⟩:=zi5 BookOK.nil g r.opts;have ao:=yg2 (BL:=[]) BookUp.nil g;have ab:=ao.lens k1;obtain⟨F,z⟩:=eX ((addB [] [] g).1);obtain⟨O,T⟩:=eX ((addB [] [] g).2.1);obtain⟨a0,Z⟩:=eX (zg5 [] [] g);have au:a0<F.length:=by
     rw[Z,z];unfold zg5;have hp:=r.pos;rw[xY,xQ (by omega)];exact av _ (y9 _)
    have aP:F.length<=120:=by have q:=r.le;have h2:(addB [] [] g).1.length<=0+g.length:=k4;rw[z];omega
    rw[<-z,<-T,<-Z]at aa;rw[<-z,<-T]at k1;rw[<-z]at ab;obtain⟨f,s⟩:=eX (k.alloc (.cells #[.slice none 0 0,.slice none 0 0] 109));have I:Fr NoM k f:=by rw[s];exact(nW k).alloc _
    have a5:f.heap[k.heap.size]?=some (.cells #[.slice none 0 0,.slice none 0 0] 109 (0,0)):=by rw[s];exact xJ k _
    obtain⟨h,U⟩:=eX k.heap.size;rw[<-U]at a5;have aq:w.heap.size<h:=by
     have e1:=u.o.size;have e2:w.heap.size<t.heap.size:=(yZ.1 aw.o).1;omega
    have V:=(K.o.trans u.o kP).trans I kP;have aj:NodeL (· < w.heap.size) encN f (.slice l b.length j) g:=by
     have p:=HN.o.fr0 V;rw[y]at p ⊢;exact p.ofI
    have aI:=Hh (λc (i:Fr NoM f c)=>show Calls Tryz.prog 73 #[.pointer (some ⟨h,0,none⟩),.agg #[.slice l b.length j]] c λd w'=>∃M,d=.returned (.int .i64 (a0:Nat))/\BookS M w' h F O/\(∀a,M a->a=h\/c.heap.size<=a)/\Fr (λa=>a=h) c w' from by
     have p:=zsh (R:=(· < w.heap.size)) h (.slice l b.length j) [] g [] c ((BookS.made a5).fr0 i) BookOK.nil (aj.fr0 i) (λa n d=>by have n:a<w.heap.size:=n;omega) r.opts (by have:=r.le;simp;omega) (λJ C=>by have:=r.lens J C;omega) r.pos;rw[<-z,<-T,<-Z]at p;exact p)
    obtain⟨aC,aJ,P,aB,aR,aA,aK⟩:=Hhp7 (λ(M:Nat->Prop) (c:World) (e:BookS M c h F O)=>zm4 h a0 F O c e k1 au (by omega) (λJ C=>by have:=ab J C;omega)) (λc (i:Fr (λa=>a=h) f c) (R2:Nat->Prop) (v':Value) (ae:List PL) (aQ:NodeL R2 encN c v' ae)=>ybt v' (.slice l b.length j) (i2 ae) b c aQ.toI ((HN.o.fr0 V).fr i (λa n d=>by have n:a<w.heap.size:=n;omega))) (λc (i:Fr (λa=>a=h) f c)=>show c.cell? ⟨w.heap.size,0,none⟩=some (.slice l b.length j)from i.cell (I.cell k3 id) (λd=>by have d:w.heap.size=h:=d;omega)) aa U V aq;clear aa I a5 V aj aq k1 k2 av k4 k5 ao ab z T Z au aP r ho hu y;go_upto_region 9 with fail;rw[<-s,<-U];have aS:=Hh s;clear s U k3;have F0:Fr NoM f f.drew:=(nW f).drew;have G0:Fr (λa=>a=h) f f.drew:=(Fr.refl _ f).drew;have aM:=P.o f (Fr.refl _ _);go_region_held3 (λ(c:World)=>c.cell? ⟨w.heap.size,0,none⟩=some (.slice l b.length j))
     (exact P.o _ (‹_›))
     (first
      | (go_at_call 73;(with_reducible refine(aI.o _ (‹_›)).mono ?_);rintro d w6 ⟨M,rfl,b6,s6,f6⟩;have G6:Fr (λa=>a=h) f w6:=Fr.trans (‹_›) f6 kP)
      | (go_at_call 72;(with_reducible refine(aC.o _ _ b6).mono ?_);rintro d w7 ⟨v7,rfl,n7,f7⟩;obtain⟨a7,c7,rfl,z7⟩:=id n7;clear z7;have G7:Fr (λa=>a=h) f w7:=Fr.trans G6 f7 (λ_ _ N=>N.elim))
      | (go_at_call 71;(with_reducible refine(aJ.o _ (‹_›) _ _ _ n7).mono ?_);rintro d w8 ⟨rfl,f8⟩;have G8:Fr (λa=>a=h) f w8:=Fr.trans G7 f8 (λ_ _ N=>N.elim))
      | fail)
    all_goals
     have aD:=Hh G8;clear n7 f7 f8 G6 G7 G8 b6 s6 f6 aM F0 G0;obtain⟨bR,a6⟩:=eX (decide (i2 (zdh F O a0)=b));rw[<-a6];have ax:=Hh a6;clear a6;go_wp2;go_ret;refine⟨bR,rfl,aB.o bR ax.o,aA.o.trans aD.o (λN hq d=>?_)⟩;have:=aK.o;omega
structure BkSt (w1 W:World) (bb:Nat) (V:List PL) (BV:List Nat) (S:Nat->Prop) (v1:Value) (A1 c1:List Nat) (v2:Value) (A2 c2:List Nat) (v3:Value) (A3 c3:List Nat):Prop where
 book:BookS S W bb V BV
 ok:PoolOK V BV
 sub:∀q,S q->w1.heap.size<=q/\q<W.heap.size
 o1:W.ownsRow w1.heap.size 3 1 v1 A1.length (A1.map encN)
 o2:W.ownsRow w1.heap.size 3 1 v2 A2.length (A2.map encN)
 o3:W.ownsRow w1.heap.size 3 1 v3 A3.length (A3.map encN)
 n1:∀b,v1.ownBlock=some b->¬S b
 n2:∀b,v2.ownBlock=some b->¬S b
 n3:∀b,v3.ownBlock=some b->¬S b
 s12:∀b,v1.ownBlock=some b->v2.ownBlock≠some b
 s13:∀b,v1.ownBlock=some b->v3.ownBlock≠some b
 s23:∀b,v2.ownBlock=some b->v3.ownBlock≠some b
 r1:RowC V A1 c1
 r2:RowC V A2 c2
 r3:RowC V A3 c3
 fr:Fr NoM w1 W
section
variable {w1 W W' Wa:World}{bb:Nat}{V:List PL}{BV:List Nat}{S S':Nat->Prop}{v1 v2 v3 v4:Value}{A1 c1 A2 c2 A3 c3:List Nat}{x c:Nat}
theorem BkSt.swap12 (a:BkSt w1 W bb V BV S v1 A1 c1 v2 A2 c2 v3 A3 c3):BkSt w1 W bb V BV S v2 A2 c2 v1 A1 c1 v3 A3 c3 :=
 ⟨a.book,a.ok,a.sub,a.o2,a.o1,a.o3,a.n2,a.n1,a.n3,λb c d=>a.s12 b d c,a.s23,a.s13,a.r2,a.r1,a.r3,a.fr⟩
theorem BkSt.swap13 (a:BkSt w1 W bb V BV S v1 A1 c1 v2 A2 c2 v3 A3 c3):BkSt w1 W bb V BV S v3 A3 c3 v2 A2 c2 v1 A1 c1 :=
 ⟨a.book,a.ok,a.sub,a.o3,a.o2,a.o1,a.n3,a.n2,a.n1,λb c d=>a.s23 b d c,λb c d=>a.s13 b d c,λb c d=>a.s12 b d c,a.r3,a.r2,a.r1,a.fr⟩
theorem BkSt.fr0 (a:BkSt w1 W bb V BV S v1 A1 c1 v2 A2 c2 v3 A3 c3)(b:Fr NoM W W'):BkSt w1 W' bb V BV S v1 A1 c1 v2 A2 c2 v3 A3 c3 :=
 ⟨a.book.fr0 b,a.ok,λd c=>⟨(a.sub d c).1,vK (a.sub d c).2 b.size⟩,za3 a.o1 b kP,za3 a.o2 b kP,za3 a.o3 b kP,a.n1,a.n2,a.n3,a.s12,a.s13,a.s23,a.r1,a.r2,a.r3,a.fr.trans b kP⟩
theorem BkSt.app (a:BkSt w1 W bb V BV S v1 A1 c1 v2 A2 c2 v3 A3 c3)(n:Fr NoM W Wa)(q:W'.ownsRow w1.heap.size 3 1 v4 (A1.length+1) (A1.map encN ++ [x].map encN))(g:Fr (Own1 v1) Wa W')(h:v4.ownBlock=v1.ownBlock\/∃b,v4.ownBlock=some b/\Wa.heap.size<=b)(r:x<V.length)(o:(za0 V).getD x 0=c) :
  BkSt w1 W' bb V BV S v4 (A1 ++ [x]) (c1 ++ [c]) v2 A2 c2 v3 A3 c3:=by
 have a:=a.fr0 n;have k:∀b,v4.ownBlock=some b->v1.ownBlock=some b\/Wa.heap.size<=b:=λb d=>by
  rcases h with e|⟨t,e,m⟩
  ·rw[e]at d;exact .inl d
  ·rw[e]at d;cases d;exact .inr m
 exact⟨a.book.fr g (λs p f=>a.n1 s f p),a.ok,λj h=>⟨(a.sub j h).1,vK (a.sub j h).2 g.size⟩,by rw[yX,vZ];exact q,za3 a.o2 g (λb d f=>a.s12 b f d),za3 a.o3 g (λb d f=>a.s13 b f d),
  λb d l=>by
   rcases k b d with e|e
   ·exact a.n1 b e l
   ·have:=(a.sub b l).2;omega,
  a.n2,a.n3,λb d i=>by
   rcases k b d with e|e
   ·exact a.s12 b e i
   ·have:=(a.o2.lt b i).2;omega,λb d i=>by
   rcases k b d with e|e
   ·exact a.s13 b e i
   ·have:=(a.o3.lt b i).2;omega,a.s23,a.r1.snoc r o,a.r2,a.r3,
  a.fr.trans g (λj h f=>by have:=(a.o1.lt j f).1;omega)⟩
theorem BkSt.rows (b:BkSt w1 W bb V BV S v1 A1 c1 v2 A2 c2 v3 A3 c3)(g:W'=(W.alloc (.cells #[] 3)).alloc (.cells #[] 3)) :
  BkSt w1 W' bb V BV S v1 A1 c1 (.slice (some ⟨W.heap.size,0,none⟩) 0 0) [] [] (.slice (some ⟨W.heap.size+1,0,none⟩) 0 0) [] []:=by
 have i:Fr NoM W W':=by rw[g];exact((nW W).alloc _).alloc _
 have d:=b;have b:=b.fr0 i;have m:W'.heap.size=W.heap.size+2:=by rw[g];simp
 have n:=b.fr.size;have j:W'.ownsRow W.heap.size 3 1 (.slice (some ⟨W.heap.size,0,none⟩) 0 0) 0 []:=by
  rw[g];exact za3 (yW W #[] 0 (xW _) (by decide) (by simp)) ((nW _).alloc _) kP
 have k:W'.ownsRow (W.heap.size+1) 3 1 (.slice (some ⟨W.heap.size+1,0,none⟩) 0 0) 0 []:=by
  have b:((W.alloc (.cells #[] 3)).alloc (.cells #[] 3)).ownsRow (W.alloc (.cells #[] 3)).heap.size 3 1 (.slice (some ⟨(W.alloc (.cells #[] 3)).heap.size,0,none⟩) 0 0) 0 []:=yW (W.alloc (.cells #[] 3)) #[] 0 (xW _) (by decide) (by simp);rw[xZ,<-g]at b;exact b
 exact⟨b.book,b.ok,b.sub,b.o1,zb6 j d.fr.size,zb6 k (by have:=d.fr.size;omega),b.n1,λa c h=>by
   have f:W.heap.size=a:=yY c;have:=(d.sub a h).2;omega,λa c h=>by
   have f:W.heap.size+1=a:=yY c;have:=(d.sub a h).2;omega,λa c e=>by
   have f:W.heap.size=a:=yY e;have:=(d.o1.lt a c).2;omega,λa c e=>by
   have f:W.heap.size+1=a:=yY e;have:=(d.o1.lt a c).2;omega,λa c e=>by
   have f:W.heap.size=a:=yY c;have l:W.heap.size+1=a:=yY e;omega,b.r1,RowC.nil _,RowC.nil _,b.fr⟩
theorem BkSt.close (b:BkSt w1 W bb V BV S v1 A1 c1 v2 A2 c2 v3 A3 c3):BkSt w1 W bb V BV S v1 A1 c1 (.slice none 0 0) [] [] (.slice none 0 0) [] [] :=
 ⟨b.book,b.ok,b.sub,b.o1,World.ownsRow_nil W _ _ _,World.ownsRow_nil W _ _ _,b.n1,(λc a=>by cases a),(λc a=>by cases a),(λc _ a=>by cases a),(λc _ a=>by cases a),(λc a=>by cases a),b.r1,RowC.nil _,RowC.nil _,b.fr⟩
theorem BkSt.put {e f n o:List Nat}(a:BkSt w1 W bb V BV S v1 A1 c1 v2 A2 c2 v3 A3 c3)(q:RowC V e n)(r:RowC V f o)(p:BookS (λg=>S g\/W.heap.size<=g) W' bb (putB V BV e f).1 (putB V BV e f).2.1)(h:Fr (zdi W bb) W W') : BkSt w1 W' bb (za4 V BV e f).1 (za4 V BV e f).2.1 (λg=>(S g\/W.heap.size<=g)/\g<W'.heap.size) v1 A1 c1 v2 A2 c2 v3 A3 c3/\(putB V BV e f).2.2<(za4 V BV e f).1.length/\(za0 (za4 V BV e f).1).getD (putB V BV e f).2.2 0=mkC n o ∧ V <+: (za4 V BV e f).1/\(za4 V BV e f).1.length<=V.length+1:=by obtain⟨s,k,t,u⟩:=zg6 a.ok q r;obtain⟨_,v,_⟩:=ze5 V BV e f;rw[zd0 a.ok]at p ⊢;have i:=a.book.m;have w:=a.fr.size;refine⟨⟨p.cut,s,λj l=>⟨l.1.elim (λc=>(a.sub j c).1) (λc=>by omega),l.2⟩,za3 a.o1 h (λb c d=>a.n1 b c (i b d)),za3 a.o2 h (λb c d=>a.n2 b c (i b d)),za3 a.o3 h (λb c d=>a.n3 b c (i b d)),λb c d=>d.1.elim (a.n1 b c) (λg=>by have:=(a.o1.lt b c).2;omega),λb c d=>d.1.elim (a.n2 b c) (λg=>by have:=(a.o2.lt b c).2;omega),λb c d=>d.1.elim (a.n3 b c) (λg=>by have:=(a.o3.lt b c).2;omega),a.s12,a.s13,a.s23,a.r1.mono k,a.r2.mono k,a.r3.mono k,a.fr.trans h (λj l d=>by have:=(a.sub j (i j d)).1;omega)⟩,t,u,k,v⟩
theorem BkSt.nats1 (a:BkSt w1 W bb V BV S v1 A1 c1 v2 A2 c2 v3 A3 c3):Nats W v1 A1:=SliceOf.of_owns a.o1 rfl
end
theorem yor {Fs:List PL}(a:∀y∈Fs,y.1.length<=24/\y.2.length<=24){i:Nat}{y:PL}(b:Fs[i]?=some y):y.1.length<=24/\y.2.length<=24:=a y (xK b)
theorem yes {R S0:Nat->Prop}(v1 v2:Value)(Fs z:List PL)(w:World)(O:NodeL R encN w v1 Fs)(h2:NodeL S0 encN w v2 z)(oF:OptsOK Fs)(oG:OptsOK z)(lF:∀aI∈Fs,aI.1.length<=24/\aI.2.length<=24)(lG:∀aI∈z,aI.1.length<=24/\aI.2.length<=24)(pF:0<Fs.length)(pG:0<z.length)(aY:Fs.length*z.length<=1600) :
  Calls Tryz.prog 48 #[.agg #[v1],.agg #[v2]] w λZ w'=>∃v',Z=.returned (.agg #[v'])/\NodeL (λad=>w.heap.size<=ad) encN w' v' (za8 (sumC (zas Fs) (zas z)))/\Fr NoM w w':=by
 obtain⟨s,ag⟩:=eX (((w.alloc (.cells #[v1] 26)).alloc (.cells #[v2] 26)).alloc (.cells #[.slice none 0 0] 26));have f3:Fr NoM w s:=by rw[ag];exact(((nW w).alloc _).alloc _).alloc _
 have b8:s.heap.size=w.heap.size+3:=by rw[ag];simp
 have e0:s.heap[w.heap.size]?=some (.cells #[v1] 26 (0,0)):=by rw[ag];exact(((nW _).alloc _).alloc _).heap (xJ w _) id
 have e1:s.heap[w.heap.size+1]?=some (.cells #[v2] 26 (0,0)):=by
  have g:=xJ (w.alloc (.cells #[v1] 26)) (.cells #[v2] 26);rw[xZ]at g;rw[ag];exact((nW _).alloc _).heap g id
 have e2:s.heap[w.heap.size+2]?=some (.cells #[.slice none 0 0] 26 (0,0)):=by
  have g:=xJ ((w.alloc (.cells #[v1] 26)).alloc (.cells #[v2] 26)) (.cells #[.slice none 0 0] 26);rw[xZ,xZ]at g;rw[ag];exact g
 obtain⟨bb,aZ⟩:=eX (w.heap.size+1+1+1);obtain⟨q0,aS⟩:=eX (Value.slice (some ⟨w.heap.size+1+1+1+1,0,none⟩) 0 0);obtain⟨w4,aF⟩:=eX (s.alloc (.cells #[.slice none 0 0,.slice none 0 0] 109));have f4:Fr NoM s w4:=by rw[aF];exact(nW s).alloc _
 have b9:w4.heap.size=w.heap.size+4:=by rw[aF];simp[b8]
 have e4:w4.heap[bb]?=some (.cells #[.slice none 0 0,.slice none 0 0] 109 (0,0)):=by rw[aF,aZ,show w.heap.size+1+1+1=s.heap.size from by omega];exact xJ s _
 obtain⟨w5,aG⟩:=eX (w4.alloc (.cells #[] 3));have f5:Fr NoM w4 w5:=by rw[aG];exact(nW w4).alloc _
 have ce:w5.heap.size=w.heap.size+5:=by rw[aG];simp[b9]
 have m5:w5.ownsRow (w.heap.size+4) 3 1 (.slice (some ⟨w.heap.size+4,0,none⟩) 0 0) 0 []:=by
  have g:(w4.alloc (.cells #[] 3)).ownsRow w4.heap.size 3 1 (.slice (some ⟨w4.heap.size,0,none⟩) 0 0) 0 []:=yW w4 #[] 0 (xW _) (by decide) (by simp);rw[b9,<-aG]at g;exact g
 obtain⟨h,hn⟩:=eX z.length;obtain⟨nF,aQ⟩:=eX Fs.length;have bA:BkSt s w5 bb [] [] (λu=>u=bb) q0 [] ((zfc (za0 Fs) (za0 z)).take 0) (.slice none 0 0) [] [] (.slice none 0 0) [] [] :=
  ⟨(BookS.made e4).fr0 f5,PoolOK.nil,λu hq=>⟨by rw[hq];omega,by rw[hq];omega⟩,(by rw[aS];exact zb6 m5 (by omega)),World.ownsRow_nil _ _ _ _,World.ownsRow_nil _ _ _ _,λad Z hq=>by
   rw[aS]at Z;have Z:w.heap.size+4=ad:=yY Z;omega,(λad hb=>by cases hb),(λad hb=>by cases hb),(λad _ hb=>by cases hb),(λad _ hb=>by cases hb),(λad hb=>by cases hb),RowC.nil _,RowC.nil _,RowC.nil _,f4.trans f5 kP⟩
 have H1:=Hh (O.fr0 f3);have H2:=Hh (h2.fr0 f3);obtain⟨bB,bD,rfl,a4⟩:=id O;clear a4;obtain⟨bC,bE,rfl,a4⟩:=id h2;clear a4;have HK:=Hh (λj (X:Fr NoM s j)=>show j.cell? ⟨w.heap.size,0,none⟩=some (.slice bB Fs.length bD)/\j.cell? ⟨w.heap.size+1,0,none⟩=some (.slice bC z.length bE)/\j.cell? ⟨w.heap.size+2,0,none⟩=some (.slice none 0 0)/\j.frozen? ⟨w.heap.size+2,0,none⟩=false from by
  have G:=X.heap e0 id;have H:=X.heap e1 id;have E:=X.heap e2 id;exact⟨qR G rfl,qR H rfl,qR E rfl,fZ E⟩)
 rw[<-aQ,<-hn]at aY HK;obtain⟨bh,bJ,bU,OF,OG,LF,LG,bg,PF,PG,Hn,aL⟩:=Hhp12 bA f3 b8 oF oG lF lG aY pF pG hn aQ;have aU:=Hh (λe f (hi:e<nF) (hk:f<h)=>show(zfc (za0 Fs) (za0 z))[e*h+f]?=some (sumC ((za0 Fs).getD e 0) ((za0 z).getD f 0))from by
  have g:=yav (CF:=za0 Fs) (CG:=za0 z) (i:=e) (k:=f) (by rw[za1];omega) (by rw[za1];omega);rw[za1,<-hn]at g;exact g)
 have bs:h<=1600/\nF<=1600:=by
  constructor
  ·have:=Nat.le_mul_of_pos_left h (show 0<nF by omega);omega
  ·have:=Nat.le_mul_of_pos_right nF (show 0<h by omega);omega
 have aw:=Hh bs;rw[<-aQ,<-hn]at ag ⊢;clear O h2 oF oG lF lG pF pG aY bs bA b8 e0 e1 e2 e4 f3 f4 f5 m5 hn aQ;obtain⟨G,H,E,J⟩:=HK.o w5 bh.o.fr;go_enter Tryz.func48,Tryz.ntmps48;go_upto_region 4 with fail;rw[<-ag,<-aF,<-aG,<-aS,<-aZ];clear ag aF aG aZ aS b9 ce;go_wp2_with fail;clear G H E J;go_loopw [7,8] (λv7 t j=>∃(e:Nat) (Y:Value) (B:List PL) (M:List Nat) (a5:Nat->Prop) (r:List Nat),Y=v7/\t=.int .i64 e/\e<=nF/\BkSt s j bb B M a5 Y r ((zfc (za0 Fs) (za0 z)).take (e*h)) (.slice none 0 0) [] [] (.slice none 0 0) [] []/\B.length<=e*h) (λ_ t _=>nF-(intOf t).toNat)
 case atStart=>exact⟨0,_,[],[],_,[],rfl,rfl,yK _,by rw[Nat.zero_mul];exact bh.o,yK _⟩
 case round =>
  obtain⟨e,Y,B,M,a5,r,rfl,rfl,hi,m,hV⟩:=hrel;obtain⟨w7,rfl⟩:=eX wr;have A:=Hh m;have HV:=Hh hV;obtain⟨G,H,E,J⟩:=HK.o w7 m.fr;clear m hV;by_cases aD:e<nF
  ·obtain⟨l,hX⟩:∃l,Fs[e]?=some l:=⟨_,xQ (by have:=aL.o;omega)⟩
   obtain⟨_,_,W,_,_,aE⟩:=id H1.o;obtain⟨rfl,hz,rfl⟩:=Value.slice.inj W;clear W hz;obtain⟨b1,o1,xl,xr,bn,bY,U,V,x,y,m1,m2⟩:=aE e l hX;have cy:=zbn bB nF bD e b1 o1 aD bn;have bj:=Hh (λj (X:Fr NoM s j)=>(⟨X.cell U id,X.cell V id,x.fr0 X,y.fr0 X⟩:j.cell? ⟨b1,o1+e*2,none⟩=some xl/\j.cell? ⟨b1,o1+e*2+1,none⟩=some xr/\Nats j xl l.1/\Nats j xr l.2));obtain⟨cn,co,rfl,a4⟩:=id x;clear a4;obtain⟨cp,cq,rfl,a4⟩:=id y;clear a4;obtain⟨bk,ax,aV⟩:=Hhp3 (OF.o e l hX) (yor LF.o hX) (zc0 Fs OF.o e l hX);obtain⟨u,hq⟩:=eX (e*h);have c9:u+h<=1600:=by
    have g:=Nat.mul_le_mul_right h (show e+1<=nF by omega);rw[Nat.succ_mul]at g;have:=bg.o;omega
   have cw:(e:Int)*(h:Int)=(u:Int):=by rw[hq];exact(Int.natCast_mul _ _).symm
   rw[<-hq]at A HV;have Hq:=Hh hq;have aq:=Hh c9;clear hX aE bn bY U V x y m1 m2 hq;go_wp2_with fail;clear G H E J;go_loopw [7,9] (λv7 t j=>∃(f:Nat) (Y:Value) (B:List PL) (M:List Nat) (a5:Nat->Prop) (r:List Nat),Y=v7/\t=.int .i64 f/\f<=h/\BkSt s j bb B M a5 Y r ((zfc (za0 Fs) (za0 z)).take (u+f)) (.slice none 0 0) [] [] (.slice none 0 0) [] []/\B.length<=u+f) (λ_ t _=>h-(intOf t).toNat)
   case atStart=>exact⟨0,_,_,_,_,_,rfl,rfl,yK _,A.o,HV.o⟩
   case round =>
    clear A HV;obtain⟨f,Y,B,M,a5,r,rfl,rfl,hk,m,hV⟩:=hrel;obtain⟨w8,rfl⟩:=eX wr;have A:=Hh m;have HV:=Hh hV;obtain⟨G,H,E,J⟩:=HK.o w8 m.fr;clear m hV;by_cases aB:f<h
    ·obtain⟨q,hY⟩:∃q,z[f]?=some q:=⟨_,xQ (by have:=Hn.o;omega)⟩
     obtain⟨_,_,W,_,_,aE⟩:=id H2.o;obtain⟨rfl,hz,rfl⟩:=Value.slice.inj W;clear W hz;obtain⟨b2,o2,yl,yr,bo,bZ,U,V,x,y,m1,m2⟩:=aE f q hY;have cz:=zbn bC h bE f b2 o2 aB bo;have bl:=Hh (λj (X:Fr NoM s j)=>(⟨X.cell U id,X.cell V id,x.fr0 X,y.fr0 X⟩:j.cell? ⟨b2,o2+f*2,none⟩=some yl/\j.cell? ⟨b2,o2+f*2+1,none⟩=some yr/\Nats j yl q.1/\Nats j yr q.2));obtain⟨cr,cs,rfl,a4⟩:=id x;clear a4;obtain⟨ct,cu,rfl,a4⟩:=id y;clear a4;obtain⟨bm,ay,aW⟩:=Hhp3 (OG.o f q hY) (yor LG.o hY) (zc0 z OG.o f q hY);obtain⟨CF,ae⟩:=eX (za0 Fs);obtain⟨CG,af⟩:=eX (za0 z);obtain⟨ca,aM⟩:=eX (CF.getD e 0);obtain⟨cb,aO⟩:=eX (CG.getD f 0);rw[<-ae]at aV;rw[<-af]at aW;rw[<-aM]at aV;rw[<-aO]at aW;rw[<-ae,<-af]at A;have b5:=ykk aV.o aW.o;obtain⟨TL,az⟩:=eX ((za2 CF l.1).map (λb=>sumC b cb)++(za2 CG q.1).map λb=>sumC ca b)
     obtain⟨TR,aA⟩:=eX ((za2 CF l.2).map (λb=>sumC b cb)++(za2 CG q.2).map λb=>sumC ca b)
     rw[<-az,<-aA]at b5;have ah:=Hh (show TL.length=l.1.length+q.1.length/\TR.length=l.2.length+q.2.length from⟨by rw[az];simp[za2],by rw[aA];simp[za2]⟩)
     -- what stands in the row of all sums
     have aJ:=Hh (λ(ak a:Nat) (hj:ak<nF) (hm:a<h) (L:ak*h+a<u+f)=>(by
      obtain⟨c,d,I,hc⟩:=A.o.r1.get L (by rw[ae,af];exact aU.o ak a hj hm);exact⟨c,d,I,by rw[hc,ae,af]⟩:∃c,r[ak*h+a]?=some c/\c<B.length/\(za0 B).getD c 0=sumC (CF.getD ak 0) (CG.getD a 0)))
     obtain⟨bN,bO,bP,bQ,bS,bV,be,bf,bH,bI⟩:=Hhp10 (λa b (g:l.1[a]?=some b)=>(by rw[az];exact zs7 g:TL[a]?=some (sumC (CF.getD b 0) cb))) (λa b (g:q.1[a]?=some b)=>(by rw[az];exact znk g:TL[l.1.length+a]?=some (sumC ca (CG.getD b 0)))) (λa b (g:l.2[a]?=some b)=>(by rw[aA];exact zs7 g:TR[a]?=some (sumC (CF.getD b 0) cb))) (λa b (g:q.2[a]?=some b)=>(by rw[aA];exact znk g:TR[l.2.length+a]?=some (sumC ca (CG.getD b 0)))) b5 (show(zfc CF CG)[u+f]?=some (sumC ca cb)from by rw[ae,af,aM,aO,Hq.o,ae,af];exact aU.o e f aD aB) aM aO ae af;clear hY aE bo bZ U V x y m1 m2 b5 az aA aM aO ae af;go_upto_region 11 with fail;obtain⟨w9,ba⟩:=eX ((w8.alloc (.cells #[] 3)).alloc (.cells #[] 3));have H9:=Hh (A.o.rows ba);rw[<-ba];obtain⟨l0,br⟩:=eX (Value.slice (some ⟨w8.heap.size,0,none⟩) 0 0);obtain⟨r0,bw⟩:=eX (Value.slice (some ⟨w8.heap.size+1,0,none⟩) 0 0);rw[<-br,<-bw]at H9 ⊢;clear ba br bw G H E J;obtain⟨G,H,E,J⟩:=HK.o w9 H9.o.fr;go_wp2_with fail;clear G H E J;go_loopw [10,12] (λv7 t j=>∃(a:Nat) (v:Value) (ai:List Nat),v=v7/\t=.int .i64 a/\a<=l.1.length/\BkSt s j bb B M a5 Y r ((zfc CF CG).take (u+f)) v ai (TL.take (a)) r0 [] []) (λ_ t _=>l.1.length-(intOf t).toNat)
     case atStart=>exact⟨0,_,[],rfl,rfl,yK _,H9.o⟩
     case round =>
      obtain⟨a,cj,L3,rfl,rfl,hm,m⟩:=hrel;obtain⟨ar,rfl⟩:=eX wr;have an:=Hh m;obtain⟨G,H,E,J⟩:=HK.o ar m.fr;obtain⟨U,V,x,y⟩:=bj.o ar m.fr;by_cases K:a<l.1.length
      ·obtain⟨b,D⟩:∃b,l.1[a]?=some b:=⟨_,xQ K⟩
       obtain⟨_,_,W,_,_,a2⟩:=id x;cases W
       obtain⟨b3,o3,a1,c3⟩:=a2 a b D;unfold encN at c3;have bc:=za9 cn l.1.length co a b3 o3 K a1;have b0:=bk.o.1 b (xK D);have b7:=aq.o;have a3:=Hq.o;have b6:=aw.o.1;obtain⟨ql,a9⟩:=eX (b*h);have cd:ql+h<=u:=by
        have g:=Nat.mul_le_mul_right h (show b+1<=e by omega);rw[Nat.succ_mul]at g;omega
       have c5:(b:Int)*(h:Int)=(ql:Int):=by rw[a9];exact(Int.natCast_mul _ _).symm
       obtain⟨c,d,I,F⟩:=aJ.o b f (by omega) aB (by rw[<-a9];omega);rw[<-a9]at d;rw[<-bf.o]at F;obtain⟨o,L⟩:=eX (ql+f);have aN:(ql:Int)+(f:Int)=(o:Int):=by omega
       rw[<-L]at d;have aR:o<1600:=by omega
       have aj:o<r.length:=(xV.1 d).1;obtain⟨aa,ac,rfl,_,_,S⟩:=an.o.nats1;obtain⟨b4,o4,Q,c4⟩:=S o c d;unfold encN at c4;have aH:=za9 aa r.length ac o b4 o4 aj Q;have a0:=Hh (And.intro I F);have HL:=Hh D;clear D a2 a1 m d I F S Q a3 x y L a9;go_wp2_with (at_builtin;refine zae (enc:=encN) _ rfl (.tmp 47) (.tmp 64) 82 rfl s.heap.size 3 (.int .i64 0) 8 Tryz.underlying82 zaa rfl cj L3.length (L3.map encN) rfl (za3 an.o.o2 ((nW ar).alloc _) kP) (.slice (some ⟨ar.heap.size,0,none⟩) 1 1) rfl [c] (SliceOf.one encN ar c 3) (λ_=>rfl) (by have O:=an.o.r2.len;have h2:=ah.o.1;have h3:=ax.o;have h4:=ay.o;rw[kJ]at O;simp only[vX];omega) (by decide) (by have:=an.o.fr.size;rw[xZ];omega) ?_);intro v9 bd P N T;have C:=(an.o.swap12.app ((nW ar).alloc _) P N (by rw[xZ];exact T) a0.o.1 a0.o.2).swap12;rw[zgy (bN.o a b HL.o)]at C;have a6:=Hh C;clear P N T C;go_wp2;go_roundw
       case rel=>exact⟨a+1,v9,L3 ++ [c],rfl,by go_num,by omega,a6.o⟩
       case measure=>simp[intOf];omega
      ·obtain rfl:a=l.1.length:=by omega
       clear m hm K x y;go_wp2_with fail;clear G H E J U V;go_loopw [10,13] (λv7 t j=>∃(a:Nat) (v:Value) (ai:List Nat),v=v7/\t=.int .i64 a/\a<=q.1.length/\BkSt s j bb B M a5 Y r ((zfc CF CG).take (u+f)) v ai (TL.take (l.1.length+a)) r0 [] []) (λ_ t _=>q.1.length-(intOf t).toNat)
       case atStart=>exact⟨0,_,L3,rfl,rfl,yK _,an.o⟩
       case round =>
        obtain⟨a,aT,L4,rfl,rfl,hm,m⟩:=hrel;obtain⟨au,rfl⟩:=eX wr;have ao:=Hh m;obtain⟨G,H,E,J⟩:=HK.o au m.fr;obtain⟨U,V,x,y⟩:=bl.o au m.fr;by_cases K:a<q.1.length
        ·obtain⟨b,D⟩:∃b,q.1[a]?=some b:=⟨_,xQ K⟩
         obtain⟨_,_,W,_,_,a2⟩:=id x;cases W
         obtain⟨b3,o3,a1,c3⟩:=a2 a b D;unfold encN at c3;have bc:=za9 cr q.1.length cs a b3 o3 K a1;have b0:=bm.o.1 b (xK D);have b7:=aq.o;have a3:=Hq.o;have b6:=aw.o.1;obtain⟨c,d,I,F⟩:=aJ.o e b aD (by omega) (by rw[<-a3];omega);rw[<-a3]at d;rw[<-be.o]at F;obtain⟨o,L⟩:=eX (u+b);have aN:(u:Int)+(b:Int)=(o:Int):=by omega
         rw[<-L]at d;have aR:o<1600:=by omega
         have aj:o<r.length:=(xV.1 d).1;obtain⟨aa,ac,rfl,_,_,S⟩:=ao.o.nats1;obtain⟨b4,o4,Q,c4⟩:=S o c d;unfold encN at c4;have aH:=za9 aa r.length ac o b4 o4 aj Q;have a0:=Hh (And.intro I F);have HL:=Hh D;clear D a2 a1 m d I F S Q a3 x y L;go_wp2_with (at_builtin;refine zae (enc:=encN) _ rfl (.tmp 77) (.tmp 94) 82 rfl s.heap.size 3 (.int .i64 0) 8 Tryz.underlying82 zaa rfl aT L4.length (L4.map encN) rfl (za3 ao.o.o2 ((nW au).alloc _) kP) (.slice (some ⟨au.heap.size,0,none⟩) 1 1) rfl [c] (SliceOf.one encN au c 3) (λ_=>rfl) (by have O:=ao.o.r2.len;have h2:=ah.o.1;have h3:=ax.o;have h4:=ay.o;rw[kJ]at O;simp only[vX];omega) (by decide) (by have:=ao.o.fr.size;rw[xZ];omega) ?_);intro v9 bd P N T;have C:=(ao.o.swap12.app ((nW au).alloc _) P N (by rw[xZ];exact T) a0.o.1 a0.o.2).swap12;rw[zgy (bO.o a b HL.o)]at C;have a6:=Hh C;clear P N T C;go_wp2;go_roundw
         case rel=>exact⟨a+1,v9,L4 ++ [c],rfl,by go_num,by omega,a6.o⟩
         case measure=>simp[intOf];omega
        ·obtain rfl:a=q.1.length:=by omega
         clear m hm K x y;go_wp2_with fail;clear G H E J U V;go_loopw [11,14] (λv7 t j=>∃(a:Nat) (v:Value) (ai:List Nat),v=v7/\t=.int .i64 a/\a<=l.2.length/\BkSt s j bb B M a5 Y r ((zfc CF CG).take (u+f)) aT L4 (TL.take (l.1.length+q.1.length)) v ai (TR.take (a))) (λ_ t _=>l.2.length-(intOf t).toNat)
         case atStart=>exact⟨0,_,[],rfl,rfl,yK _,ao.o⟩
         case round =>
          obtain⟨a,ck,L5,rfl,rfl,hm,m⟩:=hrel;obtain⟨av,rfl⟩:=eX wr;have ap:=Hh m;obtain⟨G,H,E,J⟩:=HK.o av m.fr;obtain⟨U,V,x,y⟩:=bj.o av m.fr;by_cases K:a<l.2.length
          ·obtain⟨b,D⟩:∃b,l.2[a]?=some b:=⟨_,xQ K⟩
           obtain⟨_,_,W,_,_,a2⟩:=id y;cases W
           obtain⟨b3,o3,a1,c3⟩:=a2 a b D;unfold encN at c3;have bc:=za9 cp l.2.length cq a b3 o3 K a1;have b0:=bk.o.2 b (xK D);have b7:=aq.o;have a3:=Hq.o;have b6:=aw.o.1;obtain⟨ql,a9⟩:=eX (b*h);have cd:ql+h<=u:=by
            have g:=Nat.mul_le_mul_right h (show b+1<=e by omega);rw[Nat.succ_mul]at g;omega
           have c5:(b:Int)*(h:Int)=(ql:Int):=by rw[a9];exact(Int.natCast_mul _ _).symm
           obtain⟨c,d,I,F⟩:=aJ.o b f (by omega) aB (by rw[<-a9];omega);rw[<-a9]at d;rw[<-bf.o]at F;obtain⟨o,L⟩:=eX (ql+f);have aN:(ql:Int)+(f:Int)=(o:Int):=by omega
           rw[<-L]at d;have aR:o<1600:=by omega
           have aj:o<r.length:=(xV.1 d).1;obtain⟨aa,ac,rfl,_,_,S⟩:=ap.o.nats1;obtain⟨b4,o4,Q,c4⟩:=S o c d;unfold encN at c4;have aH:=za9 aa r.length ac o b4 o4 aj Q;have a0:=Hh (And.intro I F);have HL:=Hh D;clear D a2 a1 m d I F S Q a3 x y L a9;go_wp2_with (at_builtin;refine zae (enc:=encN) _ rfl (.tmp 107) (.tmp 124) 82 rfl s.heap.size 3 (.int .i64 0) 8 Tryz.underlying82 zaa rfl ck L5.length (L5.map encN) rfl (za3 ap.o.o3 ((nW av).alloc _) kP) (.slice (some ⟨av.heap.size,0,none⟩) 1 1) rfl [c] (SliceOf.one encN av c 3) (λ_=>rfl) (by have O:=ap.o.r3.len;have h2:=ah.o.2;have h3:=ax.o;have h4:=ay.o;rw[kJ]at O;simp only[vX];omega) (by decide) (by have:=ap.o.fr.size;rw[xZ];omega) ?_);intro v9 bd P N T;have C:=(ap.o.swap13.app ((nW av).alloc _) P N (by rw[xZ];exact T) a0.o.1 a0.o.2).swap13;rw[zgy (bP.o a b HL.o)]at C;have a6:=Hh C;clear P N T C;go_wp2;go_roundw
           case rel=>exact⟨a+1,v9,L5 ++ [c],rfl,by go_num,by omega,a6.o⟩
           case measure=>simp[intOf];omega
          ·obtain rfl:a=l.2.length:=by omega
           clear m hm K x y;go_wp2_with fail;clear G H E J U V;go_loopw [11,15] (λv7 t j=>∃(a:Nat) (v:Value) (ai:List Nat),v=v7/\t=.int .i64 a/\a<=q.2.length/\BkSt s j bb B M a5 Y r ((zfc CF CG).take (u+f)) aT L4 (TL.take (l.1.length+q.1.length)) v ai (TR.take (l.2.length+a))) (λ_ t _=>q.2.length-(intOf t).toNat)
           case atStart=>exact⟨0,_,L5,rfl,rfl,yK _,ap.o⟩
           case round =>
            obtain⟨a,bF,L6,rfl,rfl,hm,m⟩:=hrel;obtain⟨am,rfl⟩:=eX wr;have a7:=Hh m;obtain⟨G,H,E,J⟩:=HK.o am m.fr;obtain⟨U,V,x,y⟩:=bl.o am m.fr;by_cases K:a<q.2.length
            ·obtain⟨b,D⟩:∃b,q.2[a]?=some b:=⟨_,xQ K⟩
             obtain⟨_,_,W,_,_,a2⟩:=id y;cases W
             obtain⟨b3,o3,a1,c3⟩:=a2 a b D;unfold encN at c3;have bc:=za9 ct q.2.length cu a b3 o3 K a1;have b0:=bm.o.2 b (xK D);have b7:=aq.o;have a3:=Hq.o;have b6:=aw.o.1;obtain⟨c,d,I,F⟩:=aJ.o e b aD (by omega) (by rw[<-a3];omega);rw[<-a3]at d;rw[<-be.o]at F;obtain⟨o,L⟩:=eX (u+b);have aN:(u:Int)+(b:Int)=(o:Int):=by omega
             rw[<-L]at d;have aR:o<1600:=by omega
             have aj:o<r.length:=(xV.1 d).1;obtain⟨aa,ac,rfl,_,_,S⟩:=a7.o.nats1;obtain⟨b4,o4,Q,c4⟩:=S o c d;unfold encN at c4;have aH:=za9 aa r.length ac o b4 o4 aj Q;have a0:=Hh (And.intro I F);have HL:=Hh D;clear D a2 a1 m d I F S Q a3 x y L;go_wp2_with (at_builtin;refine zae (enc:=encN) _ rfl (.tmp 137) (.tmp 154) 82 rfl s.heap.size 3 (.int .i64 0) 8 Tryz.underlying82 zaa rfl bF L6.length (L6.map encN) rfl (za3 a7.o.o3 ((nW am).alloc _) kP) (.slice (some ⟨am.heap.size,0,none⟩) 1 1) rfl [c] (SliceOf.one encN am c 3) (λ_=>rfl) (by have O:=a7.o.r3.len;have h2:=ah.o.2;have h3:=ax.o;have h4:=ay.o;rw[kJ]at O;simp only[vX];omega) (by decide) (by have:=a7.o.fr.size;rw[xZ];omega) ?_);intro v9 bd P N T;have C:=(a7.o.swap13.app ((nW am).alloc _) P N (by rw[xZ];exact T) a0.o.1 a0.o.2).swap13;rw[zgy (bQ.o a b HL.o)]at C;have a6:=Hh C;clear P N T C;go_wp2;go_roundw
             case rel=>exact⟨a+1,v9,L6 ++ [c],rfl,by go_num,by omega,a6.o⟩
             case measure=>simp[intOf];omega
            ·obtain rfl:a=q.2.length:=by omega
             clear m hm K x y;have a8:=a7.o;have bx:=a8.r2.len;have bz:=a8.r3.len;have c0:=ah.o;have c1:=ax.o;have c2:=ay.o;have cf:=HV.o;have cc:=aq.o;rw[kJ]at bx bz;have bt:=zhp bb aT bF B M L4 L6 am a8.book (SliceOf.of_owns a8.o2 rfl) (SliceOf.of_owns a8.o3 rfl) (λak c d=>a8.r2.1 c (xK d)) (λak c d=>a8.r3.1 c (xK d)) (by omega) (by omega) (by omega) (λc d=>by have:=(zef a8.ok).lt B.length (xW _) c d;omega);have bT:=Hh bt;clear a8 bx bz c0 c1 c2 cf cc bt;go_wp2_with fail;refine bT.o.mono ?_
             rintro Z al ⟨rfl,p1,p2⟩;obtain⟨st,hr,hc,c8,aC⟩:=a7.o.put a7.o.r2 a7.o.r3 p1 p2;rw[List.take_of_length_le (by rw[ah.o.1];exact xW _),List.take_of_length_le (by rw[ah.o.2];exact xW _),bS.o]at hc;obtain⟨c,d⟩:=eX ((putB B M L4 L6).2.2);rw[<-d]at hr hc ⊢;obtain⟨aK,HR,HC,bR⟩:=Hhp4 st.close hr hc aC;clear st hr hc c8 aC p1 p2 d G H E J U V;go_wp2_with (at_builtin;refine zae (enc:=encN) _ rfl (.tmp 156) (.tmp 161) 82 rfl s.heap.size 3 (.int .i64 0) 8 Tryz.underlying82 zaa rfl Y r.length (r.map encN) rfl (za3 aK.o.o1 ((nW al).alloc _) kP) (.slice (some ⟨al.heap.size,0,none⟩) 1 1) rfl [c] (SliceOf.one encN al c 3) (λ_=>rfl) (by have O:=aK.o.r1.len;have h2:=aq.o;rw[kJ]at O;simp only[vX];omega) (by decide) (by have:=aK.o.fr.size;rw[xZ];omega) ?_);intro v9 cB P N T;have C:=aK.o.app ((nW al).alloc _) P N (by rw[xZ];exact T) HR.o HC.o;rw[zgy bV.o,bH.o,bI.o]at C;have a6:=Hh C;clear P N T C;go_wp2;go_roundw
             case rel=>exact⟨f+1,v9,_,_,_,r ++ [c],rfl,by go_num,by omega,a6.o,by have O:=bR.o;have h2:=HV.o;omega⟩
             case measure=>simp[intOf];omega
    ·obtain rfl:f=h:=by omega
     have cx:=aw.o.2;clear hk aB;go_wp2_with fail;go_roundw
     case rel=>exact⟨e+1,Y,B,M,a5,r,rfl,by go_num,by omega,by rw[Nat.succ_mul,<-Hq.o];exact A.o,by rw[Nat.succ_mul,<-Hq.o];exact HV.o⟩
     case measure=>simp[intOf];omega
  ·obtain rfl:e=nF:=by omega
   have c6:=Hn.o;have c7:=aL.o;have bu:0<e:=by have:=PF.o;omega
   have bv:0<h:=by have:=PG.o;omega
   have bp:=bg.o;obtain⟨ab,hN⟩:=eX (e*h);rw[<-hN]at bp HV A;have bX:0<ab:=by rw[hN];exact Nat.mul_pos bu bv
   have bW:r.length=ab:=by
    have g:=A.o.r1.len;rw[g,kJ,yau,za1,za1,<-Hn.o,<-aL.o,<-hN,Nat.min_self]
   obtain⟨c,d,I,F⟩:=A.o.r1.get (p:=ab-1) (by omega) (by
    have g:=aU.o (e-1) (h-1) (by omega) (by omega);have Z:(e-1)*h+(h-1)=ab-1:=by
     have h2:(e-1+1)*h=ab:=by rw[hN,show e-1+1=e from by omega]
     rw[Nat.succ_mul]at h2;omega
    rw[Z]at g;exact g)
   obtain⟨o,L⟩:∃o,ab=o+1:=⟨ab-1,by omega⟩;rw[show ab-1=o from by omega]at d;obtain⟨aa,ac,rfl,_,_,S⟩:=A.o.nats1;obtain⟨b4,o4,Q,c4⟩:=S o c d;unfold encN at c4;have aH:=za9 aa r.length ac o b4 o4 (by omega) Q;have aN:((r.length:Int)-1)=(o:Int):=by omega
   have aR:o<1600:=by omega
   have cv:r.length<1000000:=by omega
   have aC:=A.o.ok.lens (n:=100000000) (by have:=HV.o;omega);have bM:=Hh (zm4 bb c B M w7 A.o.book (zef A.o.ok) I (by have:=HV.o;omega) aC);have bq:=zee A.o.ok I F;have bK:=Hh (show zdh B M c=za8 (sumC (zas Fs) (zas z))from by
    rw[bq];unfold zas;rw[<-Hn.o,<-aL.o])
   clear d I F S Q aC bq hN bX bW L bp bu bv hi aD c6 c7;go_wp2_with fail;refine bM.o.mono ?_
   rintro Z al ⟨v',rfl,aP,aX⟩;rw[bK.o]at aP;obtain⟨cg,ch,ci,cA⟩:=HK.o al (A.o.fr.trans aX kP);obtain⟨bL,bG,bi⟩:=Hhp3 aP (A.o.fr.trans aX kP) (show w.heap.size+3<=w7.heap.size from by have:=A.o.fr.size;have:=bU.o;omega);obtain⟨cl,cm,rfl,zz⟩:=id aP;clear zz aP aX cg ch G H E J c4 aH;go_wp2;refine yJ (v:=.agg #[.slice cl (za8 (sumC (zas Fs) (zas z))).length cm]) (by simp[results,Tryz.results48,go_sem,ci]) rfl ?_
   refine⟨_,rfl,?_,(bJ.o.trans bG.o kP).setCell _ _ (λg=>by have g:w.heap.size+2<w.heap.size:=g;omega)⟩;exact(bL.o.fr (Fr.set al ⟨w.heap.size+2,0,none⟩ _) (λu hq Z=>by have Z:u=w.heap.size+2:=Z;have:=bi.o;omega)).mono (λu hq=>by have:=bi.o;omega)
theorem ykr {CF A L:List Nat}{i:Nat}(hL:∀x∈L,x<i)(hi:i<=CF.length):za2 ((CF.map negC).take i) L=(za2 CF L).map negC:=by unfold za2;rw[List.map_map];refine uQ λx hx=>?_;have hl:=hL x hx;simp[xY,List.getElem?_take,hl,vY,xQ (show x<CF.length by omega)]
theorem yet {R:Nat->Prop}(V:Value)(Fs:List PL)(w:World)(Z:NodeL R encN w V Fs)(oF:OptsOK Fs)(lF:∀aI∈Fs,aI.1.length<=24/\aI.2.length<=24)(pF:0<Fs.length)(ba:Fs.length<=120) :
  Calls Tryz.prog 97 #[.agg #[V]] w λl w'=>∃v',l=.returned (.agg #[v'])/\NodeL (λt=>w.heap.size<=t) encN w' v' (za8 (negC (zas Fs)))/\Fr NoM w w':=by
 obtain⟨h,z⟩:=eX ((w.alloc (.cells #[V] 26)).alloc (.cells #[.slice none 0 0] 26));have f3:Fr NoM w h:=by rw[z];exact((nW w).alloc _).alloc _
 have ae:h.heap.size=w.heap.size+2:=by rw[z];simp
 have e0:h.heap[w.heap.size]?=some (.cells #[V] 26 (0,0)):=by rw[z];exact((nW _).alloc _).heap (xJ w _) id
 have e2:h.heap[w.heap.size+1]?=some (.cells #[.slice none 0 0] 26 (0,0)):=by
  have m:=xJ (w.alloc (.cells #[V] 26)) (.cells #[.slice none 0 0] 26);rw[xZ]at m;rw[z];exact m
 obtain⟨G,a9⟩:=eX (w.heap.size+1+1);obtain⟨q0,a3⟩:=eX (Value.slice (some ⟨w.heap.size+1+1+1,0,none⟩) 0 0);obtain⟨r,P⟩:=eX (h.alloc (.cells #[.slice none 0 0,.slice none 0 0] 109));have M:Fr NoM h r:=by rw[P];exact(nW h).alloc _
 have af:r.heap.size=w.heap.size+3:=by rw[P];simp[ae]
 have e4:r.heap[G]?=some (.cells #[.slice none 0 0,.slice none 0 0] 109 (0,0)):=by rw[P,a9,show w.heap.size+1+1=h.heap.size from by omega];exact xJ h _
 obtain⟨X,Q⟩:=eX (r.alloc (.cells #[] 3));have f5:Fr NoM r X:=by rw[Q];exact(nW r).alloc _
 have bg:X.heap.size=w.heap.size+4:=by rw[Q];simp[af]
 have m5:X.ownsRow (w.heap.size+3) 3 1 (.slice (some ⟨w.heap.size+3,0,none⟩) 0 0) 0 []:=by
  have m:(r.alloc (.cells #[] 3)).ownsRow r.heap.size 3 1 (.slice (some ⟨r.heap.size,0,none⟩) 0 0) 0 []:=yW r #[] 0 (xW _) (by decide) (by simp);rw[af,<-Q]at m;exact m
 obtain⟨x,a2⟩:=eX Fs.length;obtain⟨J,ao⟩:=eX ((za0 Fs).map negC);have aB:BkSt h X G [] [] (λU=>U=G) q0 [] (J.take 0) (.slice none 0 0) [] [] (.slice none 0 0) [] [] :=
  ⟨(BookS.made e4).fr0 f5,PoolOK.nil,λU O=>⟨by rw[O];omega,by rw[O];omega⟩,(by rw[a3];exact zb6 m5 (by omega)),World.ownsRow_nil _ _ _ _,World.ownsRow_nil _ _ _ _,λt l O=>by
   rw[a3]at l;have l:w.heap.size+3=t:=yY l;omega,(λt s=>by cases s),(λt s=>by cases s),(λt _ s=>by cases s),(λt _ s=>by cases s),(λt s=>by cases s),RowC.nil _,RowC.nil _,RowC.nil _,M.trans f5 kP⟩
 have H1:=Hh (Z.fr0 f3);obtain⟨a4,a5,rfl,Y⟩:=id Z;clear Y;have H:=Hh (λf (j:Fr NoM h f)=>show f.cell? ⟨w.heap.size,0,none⟩=some (.slice a4 Fs.length a5)/\f.cell? ⟨w.heap.size+1,0,none⟩=some (.slice none 0 0)/\f.frozen? ⟨w.heap.size+1,0,none⟩=false from by
  have S:=j.heap e0 id;have B:=j.heap e2 id;exact⟨qR S rfl,qR B rfl,fZ B⟩)
 rw[<-a2]at H;obtain⟨aj,aM,b3,OF,LF,PF,am,F,a6⟩:=Hhp9 aB f3 ae oF lF pF a2 ao (show x<=120 from by omega);rw[<-a2]at z ⊢;clear Z oF lF pF ba aB ae e0 e2 e4 f3 M f5 m5 a2 ao;obtain⟨S,B,k3⟩:=H.o X aj.o.fr;go_enter Tryz.func97,Tryz.ntmps97;go_upto_region 3 with fail;rw[<-z,<-P,<-Q,<-a3,<-a9];clear z P Q a9 a3 af bg;go_wp2_with fail;clear S B k3;go_loopw [4,5] (λv7 ah f=>∃(a:Nat) (W:Value) (o:List PL) (y:List Nat) (an:Nat->Prop) (e:List Nat),W=v7/\ah=.int .i64 a/\a<=x/\BkSt h f G o y an W e (J.take a) (.slice none 0 0) [] [] (.slice none 0 0) [] []/\o.length<=a) (λ_ ah _=>x-(intOf ah).toNat)
 case atStart=>exact⟨0,_,[],[],_,[],rfl,rfl,yK _,aj.o,yK _⟩
 case round =>
  obtain⟨a,W,o,y,an,e,rfl,rfl,hi,g,hV⟩:=hrel;obtain⟨k,rfl⟩:=eX wr;have I:=Hh g;have HV:=Hh hV;obtain⟨S,B,k3⟩:=H.o k g.fr;by_cases ax:a<x
  ·have ad:a<Fs.length:=by have:=am.o;omega
   obtain⟨d,N⟩:∃d,Fs[a]?=some d:=⟨_,xQ ad⟩;obtain⟨_,_,ee,_,_,aA⟩:=id H1.o;obtain⟨rfl,hz,rfl⟩:=Value.slice.inj ee;clear ee hz;obtain⟨K,T,xl,xr,ap,bc,d1,d2,n1,n2,m1,m2⟩:=aA a d N;have br:=zbn a4 x a5 a K T ax ap;obtain⟨HC,aS,aT,al⟩:=Hhp4 (λf (j:Fr NoM h f)=>(⟨(H.o f j).1,j.cell d1 id,j.cell d2 id⟩:f.cell? ⟨w.heap.size,0,none⟩=some (.slice a4 x a5)/\f.cell? ⟨K,T+a*2,none⟩=some xl/\f.cell? ⟨K,T+a*2+1,none⟩=some xr)) (λf (j:Fr NoM k f)=>(n1.fr0 g.fr).fr0 j) (λf (j:Fr NoM k f)=>(n2.fr0 g.fr).fr0 j) (λf (j:Fr NoM k f)=>(g.nats1.fr0 j:Nats f W e));obtain⟨aE,aF,rfl,Y⟩:=id n1;clear Y;obtain⟨aG,aH,rfl,Y⟩:=id n2;clear Y;obtain⟨D,E⟩:=OF.o a d N;obtain⟨l1,l2⟩:=LF.o d (xK N);have bd:=a6.o;have a8:J.length=Fs.length:=by rw[F.o,uK,za1]
   have u:e.length=a:=by
    have m:=g.r1.len;rw[kJ]at m;omega
   have rL:=g.r1.at (L:=d.2) (λb i=>by rw[u];exact E b i);have rR:=g.r1.at (L:=d.1) (λb i=>by rw[u];exact D b i);rw[F.o,ykr (A:=e) E (by rw[za1];omega)]at rL;rw[F.o,ykr (A:=e) D (by rw[za1];omega)]at rR;have b0:=Hh rL;have b2:=Hh rR;have ay:=ykq (zc0 Fs OF.o a d N);have aR:=Hh ay;have b5:=Hh (show J[a]?=some (negC ((za0 Fs).getD a 0))from by
    rw[F.o,vY,xY,xQ (show a<(za0 Fs).length by rw[za1];exact ad)];rfl)
   obtain⟨b6,b7,b8,b9,aU,aV,aW,aX,aY,aZ,HA,HW⟩:=Hhp12 (show ∀(q b:Nat),d.1[q]?=some b->b<e.length from λq b i=>by rw[u];exact D b (xK i)) (show ∀(q b:Nat),d.2[q]?=some b->b<e.length from λq b i=>by rw[u];exact E b (xK i)) (show d.1.length<1000000000000 by omega) (show d.2.length<1000000000000 by omega) (show ∀(q b:Nat),(za2 e d.2)[q]?=some b->b<o.length from λq b i=>rL.1 b (xK i)) (show ∀(q b:Nat),(za2 e d.1)[q]?=some b->b<o.length from λq b i=>rR.1 b (xK i)) (show(za2 e d.2).length<1000000000 by simp[za2];omega) (show(za2 e d.1).length<1000000000 by simp[za2];omega) (show o.length<1000000000 by omega) (show ∀b∈y,b<1000000000 from λb i=>by have:=(zef g.ok).lt o.length (xW _) b i;omega) u (λf (j:Fr NoM k f)=>(g.fr.trans j kP:Fr NoM h f));have hc:=HC.o k g.fr;have F0:Fr NoM k k.drew:=(nW k).drew;have G0:Fr NoM h k.drew:=HW.o _ F0;clear N aA ap bc d1 d2 n1 n2 m1 m2 D E l1 l2 a8 u rL rR ay g hV ad B k3;go_wp2_with fail;go_region_held3 (λ(f:World)=>f.cell? ⟨w.heap.size,0,none⟩=some (.slice a4 x a5)/\f.cell? ⟨K,T+a*2,none⟩=some (.slice aE d.1.length aF)/\f.cell? ⟨K,T+a*2+1,none⟩=some (.slice aG d.2.length aH))
    (first|exact HC.o _ (‹_›)|exact HC.o _ (Fr.alloc (‹_›) _))
    (first
     | (go_at_call 79;with_reducible refine(zfz _ (.slice aG d.2.length aH) e d.2 _ (al.o _ (‹_›)) (aT.o _ (‹_›)) b7.o b9.o).mono ?_;rintro l wa ⟨bl,rfl,t1,fa⟩;have z1:Nats wa bl (za2 e d.2):=zde t1;clear t1;have ga:Fr NoM k wa:=Fr.trans (‹_›) fa kP;have ka:Fr NoM h wa:=HW.o _ ga;try (have z2:=SliceOf.fr0 (L:=za2 e d.1) (‹_›) fa))
     | (go_at_call 79;with_reducible refine(zfz _ (.slice aE d.1.length aF) e d.1 _ (al.o _ (‹_›)) (aS.o _ (‹_›)) b6.o b8.o).mono ?_;rintro l wb ⟨bm,rfl,t2,fb⟩;have z2:Nats wb bm (za2 e d.1):=zde t2;clear t2;have gb:Fr NoM k wb:=Fr.trans (‹_›) fb kP;have kb:Fr NoM h wb:=HW.o _ gb;try (have z1:=SliceOf.fr0 (L:=za2 e d.2) (‹_›) fb))
     | (go_at_call 94;with_reducible refine(zhp G _ _ o y (za2 e d.2) (za2 e d.1) _ (I.o.fr0 (‹_›)).book (‹_›) (‹_›) aU.o aV.o aW.o aX.o aY.o aZ.o).mono ?_;rintro l wc ⟨rfl,D,E⟩;obtain⟨st,hr,ab,bf,aw⟩:=(I.o.fr0 (‹_›)).put b0.o b2.o D E;clear D E;rw[aR.o]at ab;obtain⟨ai,HR,aL,aQ⟩:=Hhp4 st hr ab aw;have kc:Fr NoM h wc:=st.fr;clear st hr ab bf aw)
     | (refine zby (enc:=encN) rfl (.tmp 16) (.tmp 35) 82 rfl h.heap.size 3 (.int .i64 0) 8 Tryz.underlying82 zaa rfl W e.length (e.map encN) rfl (za3 ai.o.o1 ((nW wc).alloc _) kP) (.slice (some ⟨wc.heap.size,0,none⟩) 1 1) rfl [(putB o y (za2 e d.2) (za2 e d.1)).2.2] (SliceOf.one encN wc _ 3) (λ_=>rfl) (by have:=HA.o;have:=a6.o;simp only[vX];omega) (by decide) (by have:=kc.size;rw[xZ];omega) ?_;intro v4 wd h4 M q4;have a0:=ai.o.app ((nW wc).alloc _) h4 M (by first|exact q4|(rw[xZ];exact q4)) HR.o aL.o;rw[zgy b5.o]at a0;have aK:=Hh a0;have kd:Fr NoM h wd:=a0.fr;clear a0 h4 M q4)
     | fail)
   all_goals
    go_wp2;go_roundw
    case rel=>exact⟨a+1,v4,_,_,_,_,rfl,by go_num,by omega,aK.o,by have Z:=aQ.o;have h2:=HV.o;omega⟩
    case measure=>simp[intOf];omega
  ·obtain rfl:a=x:=by omega
   have az:=am.o;have be:0<a:=by have:=PF.o;omega
   have a8:J.length=a:=by rw[F.o,uK,za1];omega
   have bd:=a6.o;have u:e.length=a:=by
    have m:=g.r1.len;rw[kJ]at m;omega
   obtain⟨b,i,ag,aC⟩:=g.r1.get (p:=a-1) (c:=negC ((za0 Fs).getD (a-1) 0)) (by omega) (by
    rw[F.o,vY,xY,xQ (show a-1<(za0 Fs).length by rw[za1];omega)];rfl)
   obtain⟨C,hp⟩:∃C,a=C+1:=⟨a-1,by omega⟩;rw[show a-1=C from by omega]at i;obtain⟨aa,ac,rfl,_,_,ar⟩:=g.nats1;obtain⟨b4,o4,aq,c4⟩:=ar C b i;unfold encN at c4;have bh:=za9 aa e.length ac C b4 o4 (by omega) aq;have bp:((e.length:Int)-1)=(C:Int):=by omega
   have bq:C<1600:=by omega
   have bo:e.length<1000000:=by omega
   have av:=g.ok.lens (n:=100000000) (by omega);have aP:=Hh (zm4 G b o y k g.book (zef g.ok) ag (by omega) av);have au:=zee g.ok ag aC;have aN:=Hh (show zdh o y b=za8 (negC (zas Fs))from by
    rw[au];unfold zas;rw[az])
   clear i ag aC ar aq av au u hp be hi ax az a8 g hV B k3;go_wp2_with fail;refine aP.o.mono ?_
   rintro l aD ⟨v',rfl,a1,a7⟩;rw[aN.o]at a1;obtain⟨bi,bj,bs⟩:=H.o aD (I.o.fr.trans a7 kP);obtain⟨aO,aJ,ak⟩:=Hhp3 a1 (I.o.fr.trans a7 kP) (show w.heap.size+2<=k.heap.size from by have:=I.o.fr.size;have:=b3.o;omega);obtain⟨bk,bn,rfl,zz⟩:=id a1;clear zz a1 a7 bi S c4 bh;go_wp2;refine yJ (v:=.agg #[.slice bk (za8 (negC (zas Fs))).length bn]) (by simp[results,Tryz.results97,go_sem,bj]) rfl ?_
   refine⟨_,rfl,?_,(aM.o.trans aJ.o kP).setCell _ _ (λm=>by have m:w.heap.size+1<w.heap.size:=m;omega)⟩;exact(aO.o.fr (Fr.set aD ⟨w.heap.size+1,0,none⟩ _) (λU O l=>by have l:U=w.heap.size+1:=l;have:=ak.o;omega)).mono (λU O=>by have:=ak.o;omega)
structure BkN (U:List Nat) (S:Nat->Prop) (W:World) (bb:Nat) (V:List PL) (BV:List Nat):Prop where
 book:BookS S W bb V BV
 ok:PoolOK V BV
 lt:∀q,S q->q<W.heap.size
 inU:∀x,x<V.length->(za0 V).getD x 0∈U
def BkPost (U:List Nat)(i:Nat)(w:World)(S:Nat->Prop)(V:List PL)(c:Nat)(e:Ending)(g:World):Prop :=
 ∃(b:Nat) (a:List PL) (h:List Nat) (f:Nat->Prop),e=.returned (.int .i64 (b:Int))/\BkN U f g i a h/\V <+: a/\(∀d,f d->S d\/w.heap.size<=d)/\Fr S w g/\b<a.length/\(za0 a).getD b 0=c
section
variable {U:List Nat}{S:Nat->Prop}{w w':World}{bb:Nat}{V:List PL}{BV:List Nat}
theorem BkN.fr0 (a:BkN U S w bb V BV)(b:Fr NoM w w'):BkN U S w' bb V BV:=⟨a.book.fr0 b,a.ok,λd c=>vK (a.lt d c) b.size,a.inU⟩
theorem BkN.len (a:BkN U S w bb V BV):V.length<=U.length:=zfe a.ok a.inU
theorem BkN.start {a:World}(b:a.heap[bb]?=some (.cells #[.slice none 0 0,.slice none 0 0] 109 (0,0))):BkN U (λc=>c=bb) a bb [] [] :=
 ⟨BookS.made b,PoolOK.nil,λc d=>by
  have:=(yZ.1 b).1;rw[d];exact this,λf e=>by simp at e⟩
theorem BkPost.of0 {b:World}{c:Nat}{e:Ending}(a:Fr NoM b w)(h:BkPost U bb w S V c e w'):BkPost U bb b S V c e w':=by obtain⟨p,g,d,f,i,j,k,l,m,n⟩:=h;exact⟨p,g,d,f,i,j,k,λq o=>(l q o).imp_right (kQ a.size),a.any.trans m kP,n⟩
theorem ygy (g h:Value)(L R d e:List Nat)(a:BkN U S w bb V BV)(p:Nats w g L)(q:Nats w h R)(l:RowC V L d)(n:RowC V R e)(s:mkC d e∈U)(E:U.length<1000000)(x:L.length<1000000000)(y:R.length<1000000000) : Calls Tryz.prog 94 #[.pointer (some ⟨bb,0,none⟩),g,h] w λi o=>BkPost U bb w S V (mkC d e) i o:=by have F:=a.len;refine(zhp bb g h V BV L R w a.book p q (λu c b=>l.1 c (xK b)) (λu c b=>n.1 c (xK b)) x y (by omega) (λc b=>by have:=(zef a.ok).lt V.length (xW _) c b;omega)).mono ?_;rintro i o ⟨rfl,j,r⟩;obtain⟨A,B,C,k⟩:=zg6 a.ok l n;rw[zd0 a.ok]at j ⊢;have t:=a.book.m;refine⟨(za4 V BV L R).2.2,(za4 V BV L R).1,(za4 V BV L R).2.1,_,rfl,⟨j.cut,A,λz f=>f.2,zic a.inU (by rw[k];exact s)⟩,B,λz f=>f.1,r.mono (λv _ D=>t v D),C,k⟩
end
theorem yb0 {t:Int}{p:Nat}(hp:p<=24)(x:Int):redT (t*2^(24-p)+x*2^(24-p)) 24=redT (t+x) p:=by rw[<-Int.add_mul];have h:=zcy (24-p) p (t+x);rw[show p+(24-p)=24 from by omega]at h;exact h
def ypb (U:List Nat)(a:Nat)(t:Int)(p:Nat):Prop:=∀(c:Nat->Prop) (d:List PL) (e:List Nat) (b:World),BkN U c b a d e ->
  Calls Tryz.prog 96 #[.pointer (some ⟨a,0,none⟩),.agg #[.int .i64 t,.int .i64 (p:Int)]] b λf g=>BkPost U a b c d (numC t p) f g
theorem yer {U:List Nat}(ay:U.length<1000000)(i:Nat):∀(a8:Nat) (d:Int) (c:Nat),numC d c<a8->Red d c->d.natAbs<=1000000->c<=16->(∀x,SubC (numC d c) x->x∈U)->ypb U i d c:=by
 intro a8;induction a8 with
 | zero=>intro d c a;omega
 | succ a8 ih =>
  intro d c hn hr ht hp hU j u BV t hB;have az:numC d c∈U:=hU _ .root;obtain⟨W,A⟩:=eX (t.alloc (.cells #[.int .i64 d,.int .i64 (c:Int)] 29));obtain⟨g,B⟩:=eX (W.alloc (.cells #[.int .i64 1,.int .i64 (c:Int)] 29));have n:Fr NoM t W:=by rw[A];exact(nW t).alloc _
  have T:Fr NoM W g:=by rw[B];exact(nW W).alloc _
  have aA:W.heap.size=t.heap.size+1:=by rw[A];simp
  have e1:g.heap[t.heap.size]?=some (.cells #[.int .i64 d,.int .i64 (c:Int)] 29 (0,0)):=by rw[B,A];exact((nW _).alloc _).heap (xJ t _) id
  have e2:g.heap[t.heap.size+1]?=some (.cells #[.int .i64 1,.int .i64 (c:Int)] 29 (0,0)):=by rw[B,<-aA];exact xJ W _
  have a7:=hB.lt;have I:=Hh (λb (H:Fr (λe=>j e\/g.heap.size<=e) g b)=>show b.cell? ⟨t.heap.size,0,none⟩=some (.int .i64 d)/\b.cell? ⟨t.heap.size,1,none⟩=some (.int .i64 (c:Int))/\b.cell? ⟨t.heap.size+1,0,none⟩=some (.int .i64 1)/\b.cell? ⟨t.heap.size+1,1,none⟩=some (.int .i64 (c:Int))from by
   have w:=(yZ.1 e1).1;have l2:=(yZ.1 e2).1;have h1:=H.heap e1 (λe=>by
    rcases e with e|e
    ·have:=a7 _ e;omega
    ·omega)
   have h2:=H.heap e2 (λe=>by
    rcases e with e|e
    ·have:=a7 _ e;omega
    ·omega)
   exact⟨qR h1 rfl,qR h1 rfl,qR h2 rfl,qR h2 rfl⟩)
  obtain⟨HB,F2,au⟩:=Hhp3 (hB.fr0 (n.trans T kP)) (n.trans T kP) (λ(b:World)=>zgm 1 (c:Int) b (by omega));have aa:=Hh (λ(b:World) (M:Int) (hx:M=1\/M=-1)=>show Calls Tryz.prog 121 #[.agg #[.int .i64 d,.int .i64 (c:Int)],.agg #[.int .i64 M,.int .i64 (c:Int)]] b λf r=>f=.returned (dyV (redT (d+M) c))/\Fr NoM b r from by
   have a:=zp9 d M c c b (by omega) (by omega) (by omega) (by omega);rw[yb0 (by omega)]at a;exact a)
  obtain⟨a3,aK,Hn,HR,HU,aE,aS,N⟩:=Hhp8 ih ay hn hr hU az a7 (And.intro ht hp);have aT:-1000000<=d/\d<=1000000:=by omega
  clear n T aA e1 e2 hB ih hn hr hU az ay a7 ht;obtain⟨k0,k1,k2,k3⟩:=I.o g (Fr.refl _ _);obtain⟨⟨m,k⟩,aj⟩:∃M,M=redT (d-1) c:=⟨_,rfl⟩;obtain⟨⟨s,o⟩,ak⟩:∃M,M=redT (d+1) c:=⟨_,rfl⟩;have ae:=Hh aj;have af:=Hh ak;have am:=Hh (λ(b:World)=>show Calls Tryz.prog 121 #[.agg #[.int .i64 d,.int .i64 (c:Int)],.agg #[.int .i64 (-1),.int .i64 (c:Int)]] b λf r=>f=.returned (.agg #[.int .i64 m,.int .i64 (k:Int)])/\Fr NoM b r from by
   have a:=aa.o b (-1) (.inr rfl);rw[show d + -1=d-1 from by omega,<-aj]at a;exact a)
  have an:=Hh (λ(b:World)=>show Calls Tryz.prog 121 #[.agg #[.int .i64 d,.int .i64 (c:Int)],.agg #[.int .i64 1,.int .i64 (c:Int)]] b λf r=>f=.returned (.agg #[.int .i64 s,.int .i64 (o:Int)])/\Fr NoM b r from by
   have a:=aa.o b 1 (.inl rfl);rw[<-ak]at a;exact a)
  clear aa aj ak
  -- what comes of x call of put for rows of one game each
  have a4:=Hh (λ(b:World) (S':Nat->Prop) (S:List PL) (a9:List Nat) (lv rv:Value) (a5 a6 cs ds:List Nat) (hb:BkN U S' b i S a9) (hL:Nats b lv a5) (hR:Nats b rv a6) (rL:RowC S a5 cs) (rR:RowC S a6 ds) (hc:mkC cs ds=numC d c) (ll:a5.length<=1) (lr:a6.length<=1)=>show Calls Tryz.prog 94 #[.pointer (some ⟨i,0,none⟩),lv,rv] b λf r=>BkPost U i b S' S (numC d c) f r from by
   have a:=ygy lv rv a5 a6 cs ds hb hL hR rL rR (by rw[hc];exact aE.o) aK.o (by omega) (by omega);rw[hc]at a;exact a)
  by_cases P:d=0
  ·have z:(d == 0)=true:=by simp[P]
   have K:c=0:=HR.o.resolve_right (by rw[P];simp);have hc:mkC [] []=numC d c:=by rw[P,K];rfl
   have HP:=Hh (a4.o g j u BV (.slice none 0 0) (.slice none 0 0) [] [] [] [] HB.o (SliceOf.nil _ _) (SliceOf.nil _ _) (RowC.nil _) (RowC.nil _) hc (by simp) (by simp));clear hc K P;go_enter Tryz.func96,Tryz.ntmps96;go_wp2_with fail;rw[<-A,<-B];clear A B;(with_reducible refine HP.o.mono ?_);rintro f w3 ⟨aB,S,a9,S',rfl,h2,h3,h4,h5,h6⟩;have HE:=Hh (BkPost.of0 F2.o ⟨aB,S,a9,S',rfl,h2,h3,h4,h5,h6⟩:BkPost U i t j u (numC d c) (.returned (.int .i64 (aB:Int))) w3);clear h2 h3 h4 h5 h6;go_wp2_with fail;go_ret;exact HE.o
  ·have z:(d == 0)=false:=by simp[P]
   by_cases ai:0<c
   ·have q:=zz1 HR.o ai
    rw[<-ae.o,<-af.o]at q;have q:numC d c=mkC [numC m k] [numC s o]:=q;have g1:=zgp HR.o N.o.1 ai N.o.2 (d-1) (.inl rfl);have g2:=zgp HR.o N.o.1 ai N.o.2 (d+1) (.inr rfl);rw[<-ae.o]at g1;rw[<-af.o]at g2;have C:optC (numC d c) (numC m k):=by rw[q];exact .inl ((zab _ _ _).2 (by simp))
    have o2:optC (numC d c) (numC s o):=by rw[q];exact .inr ((zac _ _ _).2 (by simp))
    have Y:=Hh (a3.o m k (by have:=za6 C;have:=Hn.o;omega) g1.2.2.1 g1.2.2.2 (by have:=g1.2.1;have:=N.o.2;show k<=16;omega) (λx R=>HU.o x ((SubC.root.step C).trans R)));obtain⟨aD,Z,a0⟩:=Hhp3 (a3.o s o (by have:=za6 o2;have:=Hn.o;omega) g2.2.2.1 g2.2.2.2 (by have:=g2.2.1;have:=N.o.2;show o<=16;omega) (λx R=>HU.o x ((SubC.root.step o2).trans R))) (λb (H:Fr NoM g b)=>show Calls Tryz.prog 96 #[.pointer (some ⟨i,0,none⟩),.agg #[.int .i64 m,.int .i64 (k:Int)]] b λf r=>BkPost U i b j u (numC m k) f r from Y.o j u BV b (HB.o.fr0 H)) q;have K0:Fr NoM g g.drew:=(nW g).drew;obtain⟨k4,k5,k6,k7⟩:=I.o g.drew K0.any;clear P q g1 g2 C o2;go_enter Tryz.func96,Tryz.ntmps96;go_upto_region 5 with fail;rw[<-A,<-B];clear A B;clear k4 k5 k6 k7;go_cut [6]from 21 to 26 (λaR b=>BkPost U i g j u (numC m k) (.returned aR) b)
    case first =>
     obtain⟨k4,k5,k6,k7⟩:=I.o g.drew K0.any;go_region_law (first
      | (go_simp;first
       | (go_at_call 122;(with_reducible refine(au.o _).mono ?_);rintro f wa ⟨rfl,fa⟩;have ka:Fr NoM g wa:=Fr.trans (‹_›) fa kP;obtain⟨i0,i1,i2,i3⟩:=I.o wa ka.any)
       | (go_at_call 121;(with_reducible refine(am.o _).mono ?_);rintro f L ⟨rfl,fb⟩;have v:Fr NoM g L:=Fr.trans (‹_›) fb kP;obtain⟨j0,j1,j2,j3⟩:=I.o L v.any)
       | (go_at_call 96;(with_reducible refine(Z.o L v).mono ?_);rintro f wc ⟨h,l,Q,p,rfl,y,F,E,n,w,D⟩;have aH:=Hh (BkPost.of0 v ⟨h,l,Q,p,rfl,y,F,E,n,w,D⟩:BkPost U i g j u (numC m k) (.returned (.int .i64 (h:Int))) wc);clear y F E n w D)
       | fail)
      | fail)
     all_goals
      go_wp2_with fail;go_meet
      case rel=>exact aH.o
    case rest =>
    obtain⟨h,l,Q,p,he,y,F,E,n,w,D⟩:=hcut;have he:=Ending.returned.inj he;subst he;obtain⟨FC,aF,av,aL,ar,aI,ap⟩:=Hhp7 (n.mono (λ_ _ e=>.inl e):Fr (λe=>j e\/g.heap.size<=e) g wc) (λb (H:Fr NoM wc b)=>show Calls Tryz.prog 96 #[.pointer (some ⟨i,0,none⟩),.agg #[.int .i64 s,.int .i64 (o:Int)]] b λf r=>BkPost U i b p l (numC s o) f r from aD.o p l Q b (y.fr0 H)) E F w D n;clear y F E n w D;obtain⟨k4,k5,k6,k7⟩:=I.o wc FC.o;go_wp2_with fail;(with_reducible refine(an.o wc).mono ?_);rintro f wd ⟨rfl,fd⟩;have FD:=Hh fd;clear k4 k5 k6 k7 fd;go_wp2_with fail;(with_reducible refine(aF.o wd FD.o).mono ?_);rintro f G ⟨p2,V2,B2,S2,rfl,b2,v2,s2,T,l2,q2⟩;obtain⟨w6,a1⟩:=eX ((G.alloc (.cells #[.int .i64 (h:Int)] 3)).alloc (.cells #[.int .i64 (p2:Int)] 3));have f6:Fr NoM G w6:=by rw[a1];exact((nW G).alloc _).alloc _
    have n1:Nats w6 (.slice (some ⟨G.heap.size,0,none⟩) 1 1) [h]:=by
     rw[a1];exact(SliceOf.one encN G h 3).fr0 ((nW _).alloc _)
    have n2:Nats w6 (.slice (some ⟨G.heap.size+1,0,none⟩) 1 1) [p2]:=by
     have a:=SliceOf.one encN (G.alloc (.cells #[.int .i64 (h:Int)] 3)) p2 3;rw[xZ]at a;rw[a1];exact a
    have r1:RowC V2 [h] [numC m k]:=(RowC.nil V2).snoc (by have:=v2.length_le;have:=ar.o;omega) (by rw[zai v2 ar.o];exact aI.o);have r2:RowC V2 [p2] [numC s o]:=(RowC.nil V2).snoc l2 q2;obtain⟨aG,aM,aq,aC,aJ⟩:=Hhp5 (a4.o w6 S2 V2 B2 _ _ [h] [p2] [numC m k] [numC s o] (b2.fr0 f6) n1 n2 r1 r2 a0.o.symm (by simp) (by simp)) (aL.o.trans v2) f6 T s2;clear b2 v2 s2 T l2 q2 f6 n1 n2 r1 r2;go_wp2_with fail;rw[<-a1];clear a1;(with_reducible refine aG.o.mono ?_);rintro f w7 ⟨V,V3,X,S3,rfl,b3,v3,s3,f3,l3,q3⟩;have ag:∀e,S2 e->j e\/g.heap.size<=e:=λe z=>by
     rcases aJ.o e z with a|a
     ·exact av.o e a
     ·have:=FD.o.size;have:=ap.o.size;exact .inr (by omega)
    have ah:Fr j g G:=(ap.o.trans FD.o (λ_ _ e=>e.elim)).trans aC.o (λa2 hk a=>by
     rcases av.o a2 a with a|a
     ·exact a
     ·omega)
    have HE:=Hh (BkPost.of0 F2.o ⟨V,V3,X,S3,rfl,b3,aM.o.trans v3,(λe z=>by
     rcases s3 e z with a|a
     ·exact ag e a
     ·have:=aq.o.size;have:=ah.size;exact .inr (by omega)),(ah.trans aq.o (λ_ _ e=>e.elim)).trans f3 (λa2 hk a=>by
      rcases ag a2 a with a|a
      ·exact a
      ·omega),l3,q3⟩:BkPost U i t j u (numC d c) (.returned (.int .i64 (V:Int))) w7)
    clear b3 v3 s3 f3 l3 q3 ag ah;go_wp2_with fail;go_ret;exact HE.o
   ·have K:c=0:=by omega
    have ao:=Hh (λ(G O:World) (h:Nat) (l:List PL) (p:Nat->Prop) (f:Ending) (aQ:u <+: l) (ax:∀e,p e->j e\/g.heap.size<=e) (aw:Fr j g G) (a:BkPost U i G p l (numC d c) f O)=>show BkPost U i t j u (numC d c) f O from by
     obtain⟨V,V3,X,S3,he,b3,v3,s3,f3,l3,q3⟩:=a;exact BkPost.of0 F2.o ⟨V,V3,X,S3,he,b3,aQ.trans v3,(λe z=>by
      rcases s3 e z with a|a
      ·exact ax e a
      ·have:=aw.size;exact .inr (by omega)),aw.trans f3 (λa2 hk a=>by
      rcases ax a2 a with a|a
      ·exact a
      ·omega),l3,q3⟩)
    by_cases aP:0<d
    ·have J:m=d-1/\k=0:=by
      have a:=ae.o;rw[K]at a;exact⟨congrArg Prod.fst a,congrArg Prod.snd a⟩
     have q:numC d c=mkC [numC m k] []:=by rw[K,J.1,J.2,zfy,zfy];exact zkv aP
     have C:optC (numC d c) (numC m k):=by rw[q];exact .inl ((zab _ _ _).2 (by simp))
     have Y:=Hh (a3.o m k (by have:=za6 C;have:=Hn.o;omega) (.inl J.2) (by have:=N.o.1;omega) (by omega) (λx R=>HU.o x ((SubC.root.step C).trans R)));have Z:=Hh (λb (H:Fr NoM g b)=>show Calls Tryz.prog 96 #[.pointer (some ⟨i,0,none⟩),.agg #[.int .i64 m,.int .i64 (k:Int)]] b λf r=>BkPost U i b j u (numC m k) f r from Y.o j u BV b (HB.o.fr0 H));have a0:=Hh q;have K0:Fr NoM g g.drew:=(nW g).drew;obtain⟨k4,k5,k6,k7⟩:=I.o g.drew K0.any;have aN:¬(0:Int)<(c:Int):=by omega
     clear P q J C K;go_enter Tryz.func96,Tryz.ntmps96;go_upto_region 9 with fail;rw[<-A,<-B];clear A B;go_region_law (first
      | (go_simp;first
       | (go_at_call 122;(with_reducible refine(au.o _).mono ?_);rintro f wa ⟨rfl,fa⟩;have ka:Fr NoM g wa:=Fr.trans (‹_›) fa kP;obtain⟨i0,i1,i2,i3⟩:=I.o wa ka.any)
       | (go_at_call 121;(with_reducible refine(am.o _).mono ?_);rintro f L ⟨rfl,fb⟩;have v:Fr NoM g L:=Fr.trans (‹_›) fb kP;obtain⟨j0,j1,j2,j3⟩:=I.o L v.any)
       | (go_at_call 96;(with_reducible refine(Z.o L v).mono ?_);rintro f wc ⟨h,l,Q,p,rfl,y,F,E,n,w,D⟩;have ab:=Hh (a4.o (wc.alloc (.cells #[.int .i64 (h:Int)] 3)) p l Q (.slice (some ⟨wc.heap.size,0,none⟩) 1 1) (.slice none 0 0) [h] [] [numC m k] [] (y.fr0 ((nW wc).alloc _)) (SliceOf.one encN wc h 3) (SliceOf.nil _ _) ((RowC.nil l).snoc w D) (RowC.nil _) a0.o.symm (by simp) (by simp));have ac:=Hh (λ(O:World) (f:Ending) (a:BkPost U i (wc.alloc (.cells #[.int .i64 (h:Int)] 3)) p l (numC d c) f O)=>ao.o (wc.alloc (.cells #[.int .i64 (h:Int)] 3)) O h l p f F (λe z=>(E e z).imp_right (λa=>kQ v.size a)) ((v.any.trans n kP).alloc _) a);clear y F E n w D)
       | (go_at_call 94;(with_reducible refine ab.o.mono ?_);rintro f wd hP;have ad:=Hh (ac.o wd f hP);obtain⟨V,V3,X,S3,rfl,al⟩:=hP;clear al)
       | fail)
      | fail)
     all_goals
      go_wp2;go_ret;exact ad.o
    ·have J:s=d+1/\o=0:=by
      have a:=af.o;rw[K]at a;exact⟨congrArg Prod.fst a,congrArg Prod.snd a⟩
     have aO:d<0:=by omega
     have q:numC d c=mkC [] [numC s o]:=by rw[K,J.1,J.2,zfy,zfy];exact zkx aO
     have C:optC (numC d c) (numC s o):=by rw[q];exact .inr ((zac _ _ _).2 (by simp))
     have Y:=Hh (a3.o s o (by have:=za6 C;have:=Hn.o;omega) (.inl J.2) (by have:=N.o.1;omega) (by omega) (λx R=>HU.o x ((SubC.root.step C).trans R)));have Z:=Hh (λb (H:Fr NoM g b)=>show Calls Tryz.prog 96 #[.pointer (some ⟨i,0,none⟩),.agg #[.int .i64 s,.int .i64 (o:Int)]] b λf r=>BkPost U i b j u (numC s o) f r from Y.o j u BV b (HB.o.fr0 H));have a0:=Hh q;have aN:¬(0:Int)<(c:Int):=by omega
     clear P q J C K;go_enter Tryz.func96,Tryz.ntmps96;go_upto_region 10 with fail;rw[<-A,<-B];clear A B;go_wp2_with fail;(with_reducible refine(an.o g).mono ?_);rintro f L ⟨rfl,v⟩;go_wp2_with fail;(with_reducible refine(Z.o L v).mono ?_);rintro f wc ⟨h,l,Q,p,rfl,y,F,E,n,w,D⟩;have ab:=Hh (a4.o (wc.alloc (.cells #[.int .i64 (h:Int)] 3)) p l Q (.slice none 0 0) (.slice (some ⟨wc.heap.size,0,none⟩) 1 1) [] [h] [] [numC s o] (y.fr0 ((nW wc).alloc _)) (SliceOf.nil _ _) (SliceOf.one encN wc h 3) (RowC.nil _) ((RowC.nil l).snoc w D) a0.o.symm (by simp) (by simp));have ac:=Hh (λ(O:World) (f:Ending) (a:BkPost U i (wc.alloc (.cells #[.int .i64 (h:Int)] 3)) p l (numC d c) f O)=>ao.o (wc.alloc (.cells #[.int .i64 (h:Int)] 3)) O h l p f F (λe z=>(E e z).imp_right (λa=>kQ v.size a)) ((v.any.trans n kP).alloc _) a);clear y F E n w D;go_wp2_with fail;(with_reducible refine ab.o.mono ?_);rintro f wd hP;have ad:=Hh (ac.o wd f hP);obtain⟨V,V3,X,S3,rfl,al⟩:=hP;clear al;go_wp2_with fail;go_ret;exact ad.o
theorem zpf {t p:Nat}(c:p<=24):(t:Int)*2^(24-p)/2^24=((t/2^p:Nat):Int):=by
 have a:(t:Int)*2^(24-p)=((t*2^(24-p):Nat):Int):=by simp
 have b:(2:Int)^24=((2^24:Nat):Int):=by simp
 rw[a,b,<-Int.natCast_ediv,show(2:Nat)^24=2^p*2^(24-p)from by rw[<-Nat.pow_add,show p+(24-p)=24 from by omega],Nat.mul_div_mul_right _ _ (Nat.pow_pos (by decide))]
theorem zp8 (t p:Nat)(w:World)(d:p<=24)(o:t<=1073741824):Calls Tryz.prog 141 #[.agg #[.int .i64 (t:Int),.int .i64 (p:Int)]] w λa f=>a=.returned (.int .i64 ((t/2^p:Nat):Int))/\Fr NoM w f:=by(obtain⟨c,e⟩:=eX (w.alloc (.cells #[.int .i64 (t:Int),.int .i64 (p:Int)] 29));have g:Fr NoM w c:=by rw[e];exact(nW w).alloc _);obtain⟨i,b⟩:=eX ((t:Int)*2^(24-p):Int);have n:=zhk (T:=(t:Int)) d (by omega);rw[<-b]at n;obtain⟨m,l,j⟩:=Hhp3 (show Calls Tryz.prog 155 #[.agg #[.int .i64 (t:Int),.int .i64 (p:Int)]] c λa f=>a=.returned (.int .i64 i)/\Fr NoM c f from by rw[b];exact zct (t:Int) p c d (by omega)) (show i/16777216=((t/2^p:Nat):Int)from by rw[<-zpf d,b];rfl) g;clear g b;go_enter Tryz.func141,Tryz.ntmps141;go_wp2_with fail;rw[<-e];clear e;(with_reducible refine m.o.mono ?_);rintro a q ⟨rfl,h⟩;have k:=Hh (j.o.trans h kP);clear h;go_wp2;go_ret;exact⟨by rw[<-l.o];rfl,k.o⟩
theorem ybv (t:Int)(p:Nat)(w:World)(L:p<=16)(C:t.natAbs<=1000000):Calls Tryz.prog 95 #[.agg #[.int .i64 t,.int .i64 (p:Int)]] w λg v=>g=.returned (.int .i64 ((numB t p:Nat):Int))/\Fr NoM w v:=by(obtain⟨a,n⟩:=eX t.natAbs;obtain⟨c,e⟩:=eX (w.alloc (.cells #[.int .i64 (a:Int),.int .i64 (p:Int)] 29));have r:Fr NoM w c:=by rw[e];exact(nW w).alloc _);(have q:c.heap[w.heap.size]?=some (.cells #[.int .i64 (a:Int),.int .i64 (p:Int)] 29 (0,0)):=by rw[e];exact xJ w _);(obtain⟨i,o⟩:=eX (a/2^p);have M:i<=a:=by rw[o];exact Nat.div_le_self _ _);have y:=Hh (λ(d:World)=>show Calls Tryz.prog 141 #[.agg #[.int .i64 (a:Int),.int .i64 (p:Int)]] d λg v=>g=.returned (.int .i64 (i:Int))/\Fr NoM d v from by rw[o];exact zp8 a p d (by omega) (by omega));have l:=Hh (λd (D:Fr NoM c d)=>(by{have A:=D.heap q id;exact⟨qR A rfl,qR A rfl⟩}:d.cell? ⟨w.heap.size,0,none⟩=some (.int .i64 (a:Int))/\d.cell? ⟨w.heap.size,1,none⟩=some (.int .i64 (p:Int))));(have k:=Hh r;have m:=Hh (show numB t p=if p=0 then a else i+p+1 from by unfold numB;rw[<-n,<-o]);clear o;have I:=Hh n;have J:a<=1000000:=by omega);have z:Fr NoM c c.drew:=(nW c).drew;by_cases K:t<0;{(have B:-t=(a:Int):=by omega);clear r q C n;by_cases b:p=0;{(have u:((p:Int) == 0)=true:=by simp[b]);have f:=Hh (show numB t p=a from by rw[m.o,if_pos b]);clear b;go_enter Tryz.func95,Tryz.ntmps95;go_wp2;go_ret;rw[<-e];exact⟨by rw[f.o];rfl,k.o⟩};{(have u:((p:Int) == 0)=false:=by simp[b]);have f:=Hh (show numB t p=i+p+1 from by rw[m.o,if_neg b]);clear b;go_enter Tryz.func95,Tryz.ntmps95;go_upto_region 5 with fail;rw[<-e];clear e;obtain⟨G,H⟩:=l.o c.drew z;go_region_law (first| (go_simp;first| (go_at_call 141;(with_reducible refine(y.o _).mono ?_);rintro g j ⟨rfl,s⟩;have h:Fr NoM c j:=Fr.trans (‹_›) s kP;obtain⟨E,F⟩:=l.o j h)| fail)| fail);all_goals(go_wp2;go_ret;refine⟨?_,k.o.trans h kP⟩;rw[f.o];first|rfl|(refine congrArg (λx=>Ending.returned (Value.int .i64 x)) ?_;rw[IntKind.wrap_i64,IntKind.wrap_i64];omega))}};{(have B:t=(a:Int):=by omega);clear r q C n;subst B;by_cases b:p=0;{(have u:((p:Int) == 0)=true:=by simp[b]);have f:=Hh (show numB (a:Int) p=a from by rw[m.o,if_pos b]);clear b;go_enter Tryz.func95,Tryz.ntmps95;go_wp2;go_ret;rw[<-e];exact⟨by rw[f.o];rfl,k.o⟩};{(have u:((p:Int) == 0)=false:=by simp[b]);have f:=Hh (show numB (a:Int) p=i+p+1 from by rw[m.o,if_neg b]);clear b;go_enter Tryz.func95,Tryz.ntmps95;go_upto_region 5 with fail;rw[<-e];clear e;obtain⟨G,H⟩:=l.o c.drew z;go_region_law (first| (go_simp;first| (go_at_call 141;(with_reducible refine(y.o _).mono ?_);rintro g j ⟨rfl,s⟩;have h:Fr NoM c j:=Fr.trans (‹_›) s kP;obtain⟨E,F⟩:=l.o j h)| fail)| fail);all_goals(go_wp2;go_ret;refine⟨?_,k.o.trans h kP⟩;rw[f.o];first|rfl|(refine congrArg (λx=>Ending.returned (Value.int .i64 x)) ?_;rw[IntKind.wrap_i64,IntKind.wrap_i64];omega))}}
noncomputable def znh (t:Int)(p:Nat):List PL:=if 120<=numB t p then []else numN t p
theorem ybz {t:Int}{p:Nat}(b:Red t p):zah (znh t p)=zah (numN t p)/\(if zah (znh t p)=true then znh t p else [])=if zah (numN t p)=true then numN t p else []:=by unfold znh;by_cases a:120<=numB t p;{rw[if_pos a,zz2 b a];exact⟨by decide,by simp[zah]⟩};{rw[if_neg a];exact⟨rfl,rfl⟩}
theorem yeb {t:Int}{p:Nat}(h:¬ 120<=numB t p):t.natAbs/2^p<120:=by unfold numB at h;by_cases hp:p=0;{rw[if_pos hp]at h;subst hp;simp;omega};{rw[if_neg hp]at h;omega}
theorem ybn (t:Int)(p:Nat)(w:World)(hr:Red t p)(J:t.natAbs<=1000000)(I:p<=16) : Calls Tryz.prog 49 #[.agg #[.int .i64 t,.int .i64 (p:Int)]] w λd o=>∃M,d=.returned (.agg #[M])/\NodeL (λad=>w.heap.size<=ad) encN o M (znh t p)/\Fr NoM w o:=by(obtain⟨c,m⟩:=eX ((w.alloc (.cells #[.int .i64 t,.int .i64 (p:Int)] 29)).alloc (.cells #[.slice none 0 0] 26));have f1:Fr NoM w c:=by rw[m];exact((nW w).alloc _).alloc _);(have a2:c.heap.size=w.heap.size+2:=by rw[m];simp);(have Z:c.heap[w.heap.size]?=some (.cells #[.int .i64 t,.int .i64 (p:Int)] 29 (0,0)):=by rw[m];exact((nW _).alloc _).heap (xJ w _) id);have e1:c.heap[w.heap.size+1]?=some (.cells #[.slice none 0 0] 26 (0,0)):=by{have a:=xJ (w.alloc (.cells #[.int .i64 t,.int .i64 (p:Int)] 29)) (.cells #[.slice none 0 0] 26);rw[xZ]at a;rw[m];exact a};have s:=Hh (λg (a0:Fr (λb=>c.heap.size<=b) c g)=>(by{have h0:=a0.heap Z (λb=>by omega);have h1:=a0.heap e1 (λb=>by omega);exact⟨qR h0 rfl,qR h0 rfl,qR h1 rfl,fZ h1⟩}:g.cell? ⟨w.heap.size,0,none⟩=some (.int .i64 t)/\g.cell? ⟨w.heap.size,1,none⟩=some (.int .i64 (p:Int))/\g.cell? ⟨w.heap.size+1,0,none⟩=some (.slice none 0 0)/\g.frozen? ⟨w.heap.size+1,0,none⟩=false));obtain⟨Y,H⟩:=eX (numB t p);obtain⟨a6,O,T,C,S,HT,R⟩:=Hhp7 (show Calls Tryz.prog 95 #[.agg #[.int .i64 t,.int .i64 (p:Int)]] c λd o=>d=.returned (.int .i64 (Y:Int))/\Fr NoM c o from by rw[H];exact ybv t p c I J) f1 a2 H hr J I;clear f1 a2 Z e1 H hr J I;obtain⟨h,i,e,f⟩:=s.o c (Fr.refl _ _);go_enter Tryz.func49,Tryz.ntmps49;go_wp2_with fail;rw[<-m];clear m;(with_reducible refine a6.o.mono ?_);rintro d j ⟨rfl,f2⟩;have x:=Hh f2;clear h i e f f2;obtain⟨h,i,e,f⟩:=s.o j x.o.any;by_cases G:120<=Y;{go_wp2;refine yJ (v:=.agg #[.slice none 0 0]) (by simp[results,Tryz.results49,go_sem,e,f]) rfl ?_;(have hf:znh t p=[]:=by unfold znh;rw[<-C.o,if_pos G]);rw[hf];exact⟨_,rfl,⟨none,0,rfl,xW _,by decide,by simp⟩,(O.o.trans x.o kP).setCell _ _ (λa=>by have a:w.heap.size+1<w.heap.size:=a;omega)⟩};{have a3:=yeb (t:=t) (p:=p) (by rw[<-C.o];exact G);(obtain⟨q,z⟩:=eX (j.alloc (.cells #[.slice none 0 0,.slice none 0 0] 109));have f3:Fr NoM j q:=by rw[z];exact(nW j).alloc _);(have E:q.heap[j.heap.size]?=some (.cells #[.slice none 0 0,.slice none 0 0] 109 (0,0)):=by rw[z];exact xJ j _);(obtain⟨l,y⟩:=eX j.heap.size;rw[<-y]at E;obtain⟨D,F⟩:=eX (numU t p 121);have a1:D.length<1000:=by rw[F,zz3];have:=R.o;omega);have ab:=Hh (yer (U:=D) (by omega) l _ t p (vW _) S.o HT.o R.o (λac ha=>by rw[F];exact ye9 S.o a3 ac ha));obtain⟨aa,P,a5,V,HD⟩:=Hhp5 (show Calls Tryz.prog 96 #[.pointer (some ⟨l,0,none⟩),.agg #[.int .i64 t,.int .i64 (p:Int)]] q λd o=>BkPost D l q (λb=>b=l) [] (numC t p) d o from ab.o _ [] [] q (BkN.start E)) (x.o.trans f3 kP) y a1 (show znh t p=za8 (numC t p)from by unfold znh;rw[<-C.o,if_neg G];rfl);clear h i e f f3 E F a1 a3;go_upto_region 4 with fail;rw[<-z,<-y];clear z y;obtain⟨h,i,e,f⟩:=s.o q P.o.any;go_wp2_with fail;(with_reducible refine aa.o.mono ?_);rintro d r ⟨a4,X,N,af,rfl,k,_,s4,f4,K,q4⟩;have ae:=k.len;obtain⟨a8,a7,B⟩:=Hhp3 (zm4 l a4 X N r k.book (zef k.ok) K (by have:=V.o;omega) (k.ok.lens (n:=100000000) (by have:=V.o;omega))) (show zdh X N a4=znh t p from by rw[HD.o];exact zee k.ok K q4) (P.o.any.trans f4 (λL _ a=>by have a:L=l:=a;have:=a5.o;have:=x.o.size;omega):Fr (λb=>c.heap.size<=b) c r);clear k s4 f4 K q4 ae h i e f;obtain⟨h,i,e,f⟩:=s.o r B.o;go_wp2_with fail;(with_reducible refine a8.o.mono ?_);rintro d w5 ⟨M,rfl,A,f5⟩;rw[a7.o]at A;obtain⟨Q,a9,W⟩:=Hhp3 (B.o.trans f5 (λ_ _ b=>b.elim)) A (show w.heap.size+2<=r.heap.size from by have:=B.o.size;have:=T.o;omega);obtain⟨va,vc,rfl,zz⟩:=id A;clear zz A f5 h i e f;obtain⟨h,i,e,f⟩:=s.o w5 Q.o;go_wp2;refine yJ (v:=.agg #[.slice va (znh t p).length vc]) (by simp[results,Tryz.results49,go_sem,e,f]) rfl ?_;refine⟨_,rfl,?_,(O.o.trans Q.o (λL hk a=>by have a:c.heap.size<=L:=a;have:=T.o;omega)).setCell _ _ (λa=>by have a:w.heap.size+1<w.heap.size:=a;omega)⟩;exact(a9.o.fr (Fr.set w5 ⟨w.heap.size+1,0,none⟩ _) (λb u d=>by have d:b=w.heap.size+1:=d;have u:r.heap.size<=b:=u;have:=W.o;omega)).mono (λb u=>by have u:r.heap.size<=b:=u;have:=W.o;omega)}
abbrev IL:=List Int × List Int
def cntI (b:List IL):Nat:=(b.map λa=>a.1.length+a.2.length).sum
theorem zgb {a:List IL}{i:Nat}{y:IL}(b:a[i]?=some y):cntI (a.take (i+1))=cntI (a.take i)+(y.1.length+y.2.length):=by obtain⟨c,rfl⟩:=xV.1 b;unfold cntI;rw[yQ c,vZ,List.sum_append,List.map_cons,List.map_nil,List.sum_cons,List.sum_nil,Nat.add_zero]
theorem znc (a:List IL)(i:Nat):cntI (a.take i)<=cntI a:=by(conv=>rhs;rw[<-List.take_append_drop i a]);simp only[cntI,vZ,List.sum_append];omega
theorem yiu {a:List IL}{i:Nat}{y:IL}(b:a[i]?=some y):y.1.length+y.2.length<=cntI a:=by have c:=zgb b;have d:=znc a (i+1);omega
theorem zr8 (v:Value)(L:List Int)(n:Nat)(w:World)(hL:Ints w v L)(hn:n<=1048576) : Calls Tryz.prog 114 #[v,.int .i64 (n:Int)] w λe w'=>e=.returned (.int .i64 (if n<L.length then -1 else ((n-L.length:Nat):Int)))/\w'=w:=by obtain⟨a,c,rfl,h1,h2,_⟩:=hL;by_cases hlt:n<L.length;{rw[if_pos hlt];(have hs:((n:Int)-(L.length:Int))<0:=by omega);go_enter Tryz.func114,Tryz.ntmps114;go_wp2;go_ret;exact⟨rfl,rfl⟩};{rw[if_neg hlt];(have hs:¬((n:Int)-(L.length:Int))<0:=by omega);(have he:((n-L.length:Nat):Int)=(n:Int)-(L.length:Int):=by omega);rw[he];go_enter Tryz.func114,Tryz.ntmps114;go_wp2;go_ret;exact⟨rfl,rfl⟩}
theorem yas (l r:Value)(y:IL)(n:Nat)(w:World)(a:Ints w l y.1)(c:Ints w r y.2)(u:n<=1048576) :
  Calls Tryz.prog 68 #[.agg #[l,r],.int .i64 (n:Int)] w λg H=>g=.returned (.int .i64 (if n<y.1.length+y.2.length then -1 else ((n-(y.1.length+y.2.length):Nat):Int)))/\Fr NoM w H:=by
 obtain⟨f,e⟩:=eX (w.alloc (.cells #[l,r] 105));have h:Fr NoM w f:=by rw[e];exact(nW w).alloc _
 have p:=Hh (λ(b:Nat) (d:b<=1048576)=>zr8 l y.1 b f (a.fr0 h) d);have z:=Hh (λ(b:Nat) (d:b<=1048576)=>zr8 r y.2 b f (c.fr0 h) d);obtain⟨D,E,rfl,_,_,_⟩:=a;obtain⟨F,G,rfl,_,_,_⟩:=c;have J:f.cell? ⟨w.heap.size,0,none⟩=some (.slice D y.1.length E):=by rw[e,xX _ _ 0 _ _ _ (xJ w _)];rfl
 have K:f.cell? ⟨w.heap.size,1,none⟩=some (.slice F y.2.length G):=by rw[e,xX _ _ 1 _ _ _ (xJ w _)];rfl
 have k:=Hh h;have q:=Hh e;clear h e;by_cases i:n<y.1.length
 ·have a:=p.o n u
  rw[if_pos i]at a;rw[if_pos (show n<y.1.length+y.2.length by omega)];have m:=Hh a;clear a i;go_enter Tryz.func68,Tryz.ntmps68;go_wp2_with fail;rw[<-q.o];refine m.o.mono ?_
  rintro g I ⟨rfl,rfl⟩;go_wp2_with fail;go_ret;exact⟨rfl,k.o⟩
 ·have a:=p.o n u
  rw[if_neg i]at a;obtain⟨b,d⟩:=eX (n-y.1.length);rw[<-d]at a;have c:=z.o b (by omega);obtain⟨o,j⟩:=eX ((if b<y.2.length then (-1:Int)else ((b-y.2.length:Nat):Int)));have t:(if n<y.1.length+y.2.length then (-1:Int)else ((n-(y.1.length+y.2.length):Nat):Int))=o:=by
   rw[j];by_cases v:b<y.2.length
   ·rw[if_pos v,if_pos (by omega)]
   ·rw[if_neg v,if_neg (by omega)];omega
  rw[<-j]at c;rw[t];have L:¬(b:Int)<0:=by omega
  obtain⟨m,C,A⟩:=Hhp3 a c j;clear a c i d t j;go_enter Tryz.func68,Tryz.ntmps68;go_wp2_with fail;rw[<-q.o];refine m.o.mono ?_
  rintro g I ⟨rfl,rfl⟩;go_wp2_with fail;refine C.o.mono ?_
  rintro g N ⟨rfl,rfl⟩;by_cases M:o<0
  ·have x:o=-1:=by
    have s:=A.o;split at s
    ·exact s
    ·omega
   have B:=Hh x;clear x;go_wp2_with fail;go_ret;exact⟨by rw[B.o];rfl,k.o⟩
  ·go_wp2_with fail
   go_ret;exact⟨rfl,k.o⟩
theorem yev (a:Option Addr)(n c k b d:Nat)(f:k<n)(e:a=some ⟨b,d,none⟩)(w:World) : (Instr.indexAt 34 (.slice a n c) (.int .i64 (k:Int))).run Tryz.prog w=.ok (.pointer (some ⟨b,d+k*2,none⟩)) w:=by subst e;go_simp
theorem zve {R:Nat->Prop}(v:Value)(Fi:List IL)(n:Nat)(w:World)(h:NodeL R encI w v Fi)(hn:n<=1048576) :
  Calls Tryz.prog 31 #[v,.int .i64 (n:Int)] w λe w'=>e=.returned (.int .i64 (if n<Fi.length+cntI Fi then -1 else ((n-(Fi.length+cntI Fi):Nat):Int)))/\Fr NoM w w':=by
 obtain⟨a,c,rfl,h1,h2,h3⟩:=h;by_cases hlt:n<Fi.length
 ·rw[if_pos (show n<Fi.length+cntI Fi by omega)]
  have hs:((n:Int)-(Fi.length:Int))<0:=by omega
  clear h3;go_enter Tryz.func31,Tryz.ntmps31;go_wp2;go_ret;exact⟨rfl,Fr.refl _ _⟩
 ·obtain⟨m,hm⟩:=eX (n-Fi.length)
  have hme:(n:Int)-(Fi.length:Int)=(m:Int):=by omega
  have hm0:¬(m:Int)<0:=by omega
  obtain⟨res,hres⟩:=eX ((if n<Fi.length+cntI Fi then (-1:Int)else ((n-(Fi.length+cntI Fi):Nat):Int)));rw[<-hres];have hr2:res=if m<cntI Fi then (-1:Int)else ((m-cntI Fi:Nat):Int):=by
   rw[hres];by_cases hq:m<cntI Fi
   ·rw[if_pos hq,if_pos (by omega)]
   ·rw[if_neg hq,if_neg (by omega)];omega
  have hmb:m<=1048576:=by omega
  obtain⟨H3,HR,HMb⟩:=Hhp3 h3 hr2 hmb;clear h3 hres hr2 hm hlt;go_enter Tryz.func31,Tryz.ntmps31;go_wp2_with fail;go_loopw [5,1] (λt l W=>∃j q:Nat,t=.int .i64 j/\l=.int .i64 q/\j<=Fi.length/\q+cntI (Fi.take j)=m/\Fr NoM w W) (λt _ _=>Fi.length-(intOf t).toNat)
  case atStart=>exact⟨0,m,rfl,by first|rfl|rw[hme],yK _,by simp[cntI],Fr.refl _ _⟩
  case round =>
   obtain⟨j,q,rfl,rfl,hj,hq,hfr⟩:=hrel;obtain⟨w7,rfl⟩:=eX wr;have HQ:=Hh hq;have HFr:=Hh hfr;clear hq hfr;by_cases hjl:j<Fi.length
   ·obtain⟨y,hy⟩:∃y,Fi[j]?=some y:=⟨_,xQ hjl⟩
    obtain⟨b,off,l,r,ha,_,c1,c2,s1,s2,_,_⟩:=H3.o j y hy;have ix:=yev a Fi.length c j b off hjl ha;have d1:=HFr.o.cell c1 id;have d2:=HFr.o.cell c2 id;have hcall:=yas l r y q w7 (s1.fr0 HFr.o) (s2.fr0 HFr.o) (by have:=HQ.o;have:=HMb.o;omega);obtain⟨r1,hr1⟩:=eX ((if q<y.1.length+y.2.length then (-1:Int)else ((q-(y.1.length+y.2.length):Nat):Int)));rw[<-hr1]at hcall;obtain⟨HC,HR1,HY⟩:=Hhp3 hcall hr1 hy;clear hcall hr1 hy c1 c2 s1 s2 ha;go_wp2_with fail;refine HC.o.mono ?_
    rintro e w8 ⟨rfl,f8⟩;have HF8:=Hh (HFr.o.trans f8 (λ_ _ q=>q));clear f8;by_cases hneg:r1<0
    ·have hrn:res=-1:=by
      have h1:=HR1.o;have h2:=zgb HY.o;have h3:=znc Fi (j+1);have h4:=HQ.o;rw[HR.o,if_pos];split at h1
      ·omega
      ·omega
     have HRn:=Hh hrn;clear hrn;go_wp2_with fail;go_ret;exact⟨by rw[HRn.o];rfl,HF8.o⟩
    ·obtain⟨q',hq'⟩:∃q':Nat,r1=(q':Int):=⟨r1.toNat,by omega⟩
     have hs:q'+(y.1.length+y.2.length)=q:=by
      have h1:=HR1.o;split at h1
      ·omega
      ·omega
     subst hq';have HS:=Hh hs;clear hs;go_wp2_with fail;go_roundw
     case rel=>exact⟨j+1,q',by go_num,rfl,by omega,by
      have h2:=zgb HY.o;have h4:=HQ.o;have h5:=HS.o;omega,HF8.o⟩
     case measure=>simp[intOf];omega
   ·have hj':j=Fi.length:=by omega
    subst hj';have hqe:res=(q:Int):=by
     have h4:=HQ.o;rw[y7]at h4;rw[HR.o,if_neg (by omega)];omega
    have HQe:=Hh hqe;clear hqe;go_wp2_with fail;go_ret;exact⟨by rw[HQe.o];rfl,HFr.o⟩
theorem yat {R:Nat->Prop}(v:Value)(Fi:List IL)(n:Nat)(w:World)(h:NodeL R encI w v Fi)(hn:n<=1048576) :
  Calls Tryz.prog 12 #[.agg #[v],.int .i64 (n:Int)] w λe w'=>e=.returned (.int .i64 (if n<Fi.length+cntI Fi then -1 else ((n-(Fi.length+cntI Fi):Nat):Int)))/\Fr NoM w w':=by
 obtain⟨w1,hw1⟩:=eX (w.alloc (.cells #[v] 36));have f1:Fr NoM w w1:=by rw[hw1];exact(nW w).alloc _
 have hc:=zve v Fi n w1 (h.fr0 f1) hn;obtain⟨a,c,rfl,_⟩:=h;have c0:w1.cell? ⟨w.heap.size,0,none⟩=some (.slice a Fi.length c):=by rw[hw1,xX _ _ 0 _ _ _ (xJ w _)];rfl
 obtain⟨res,hres⟩:=eX ((if n<Fi.length+cntI Fi then (-1:Int)else ((n-(Fi.length+cntI Fi):Nat):Int)));rw[<-hres]at hc ⊢;obtain⟨HC,HR,F1,HW⟩:=Hhp4 hc hres f1 hw1;clear hc hres f1 hw1;go_enter Tryz.func12,Tryz.ntmps12;go_wp2_with fail;rw[<-HW.o];refine HC.o.mono ?_
 rintro e w2 ⟨rfl,f2⟩;have F2:=Hh (F1.o.trans f2 (λ_ _ q=>q));clear f2;by_cases hneg:res<0
 ·have hr1:res=-1:=by
   have h:=HR.o;split at h
   ·exact h
   ·omega
  have HR1:=Hh hr1;clear hr1;go_wp2_with fail;go_ret;exact⟨by rw[HR1.o];rfl,F2.o⟩
 ·go_wp2_with fail
  go_ret;exact⟨rfl,F2.o⟩
theorem yhx (n:Nat)(a:World)(c:n<1000000000):(Instr.makeSlice 82 (.int .i64 (n:Int)) (.int .i64 (n:Int))).run Tryz.prog a=.ok (.slice (some ⟨a.heap.size,0,none⟩) n n) (a.alloc (.cells (zcx encI 0 n) 3)):=by have b:=zp4 n a c;rw[show zcx encN 0 n=zcx encI 0 n from by simp[zcx,encN,encI]]at b;exact b
theorem zr7 (v:Value)(L:List Int)(w:World)(hL:Ints w v L)(hl:L.length<1000000000) : Calls Tryz.prog 130 #[v] w λe w'=>e=.returned (.slice (some ⟨w.heap.size,0,none⟩) L.length L.length)/\RowIs 3 encI w' w.heap.size L/\Fr NoM w w':=by obtain⟨la,lc,rfl,hlc,hlcm,hL⟩:=hL;have HL:=Hh hL;clear hL;have mk:=λW=>yhx L.length W hl;go_enter Tryz.func130,Tryz.ntmps130;go_wp2;clear mk;go_loopw [4] (λi W=>∃k:Nat,i=.int .i64 k/\k<=L.length/\RowIs 3 encI W w.heap.size (L.take k++List.replicate (L.length-k) 0)/\Fr NoM w W) (λi _=>L.length-(intOf i).toNat);(case atStart=>exact⟨0,rfl,yK _,RowIs.made 3 encI w 0 L.length,(nW w).alloc _⟩);case round =>(obtain⟨k,rfl,hk,hrow,hfr⟩:=hrel;obtain⟨w7,rfl⟩:=eX wr;by_cases hkl:k<L.length;{obtain⟨x,hx⟩:∃x,L[k]?=some x:=⟨_,xQ hkl⟩;obtain⟨b1,o1,ha1,hc1⟩:=HL.o k x hx;have ix1:=za9 la L.length lc k b1 o1 hkl ha1;have ix3:=zet w.heap.size L.length L.length k hkl;replace hc1:w7.cell? ⟨b1,o1+k,none⟩=some (.int .i64 x):=hfr.cell hc1 id;(have k3:=hrow.cell k (by simp;omega);have z3:=hrow.frozen k;have hnew:=hrow.set k x;have hXl:(L.take k).length=k:=by simp;omega);have hset:(L.take k++List.replicate (L.length-k) 0).set k x=L.take (k+1)++List.replicate (L.length-(k+1)) 0:=by{have h:=zny (L.take k) (L.length-(k+1)) x 0;rw[hXl,show L.length-(k+1)+1=L.length-k from by omega]at h;obtain⟨hk',e⟩:=xV.1 hx;rw[h,yQ hk',e]};rw[hset]at hnew;have hfr2:=hfr.setCell ⟨w.heap.size,k,none⟩ (encI x) (λh=>absurd h (Nat.lt_irrefl _));have HNew:=Hh hnew;have HF2:=Hh hfr2;clear hset hnew hfr2 hrow hfr ha1 hXl hx;go_wp2;go_roundw;(case rel=>exact⟨k+1,by go_num,by omega,HNew.o,HF2.o⟩);case measure=>simp[intOf];omega};{(have hk':k=L.length:=by omega);subst hk';rw[y7,Nat.sub_self,List.replicate_zero,List.append_nil]at hrow;have HRow:=Hh hrow;have HFr:=Hh hfr;clear hrow hfr;go_wp2;go_ret;exact⟨rfl,HRow.o,HFr.o⟩})
theorem yaq (l r:Value)(y:IL)(w:World)(S:Ints w l y.1)(T:Ints w r y.2)(hl:y.1.length<1000000000)(hr:y.2.length<1000000000) : Calls Tryz.prog 81 #[.agg #[l,r]] w λa I=>∃b c:Nat,a=.returned (.agg #[.slice (some ⟨b,0,none⟩) y.1.length y.1.length,.slice (some ⟨c,0,none⟩) y.2.length y.2.length])/\w.heap.size<=b/\b<c/\RowIs 3 encI I b y.1/\RowIs 3 encI I c y.2/\Fr NoM w I:=by(obtain⟨e,f⟩:=eX (((w.alloc (.cells #[l,r] 105)).alloc (.cells #[.slice none 0 0,.slice none 0 0] 85)).alloc (.cells #[.slice none 0 0,.slice none 0 0] 85));have A:Fr NoM w e:=by rw[f];exact(((nW w).alloc _).alloc _).alloc _);(have W:e.heap.size=w.heap.size+3:=by rw[f];simp);(have x:e.heap[w.heap.size]?=some (.cells #[l,r] 105 (0,0)):=by rw[f];exact(((nW _).alloc _).alloc _).heap (xJ w _) id);have Q:e.heap[w.heap.size+1]?=some (.cells #[.slice none 0 0,.slice none 0 0] 85 (0,0)):=by{have j:=xJ (w.alloc (.cells #[l,r] 105)) (.cells #[.slice none 0 0,.slice none 0 0] 85);rw[xZ]at j;rw[f];exact((nW _).alloc _).heap j id};have R:e.heap[w.heap.size+2]?=some (.cells #[.slice none 0 0,.slice none 0 0] 85 (0,0)):=by{have j:=xJ ((w.alloc (.cells #[l,r] 105)).alloc (.cells #[.slice none 0 0,.slice none 0 0] 85)) (.cells #[.slice none 0 0,.slice none 0 0] 85);rw[xZ,xZ]at j;rw[f];exact j};(have Z:=Hh (zr7 l y.1 e (S.fr0 A) hl);have B2:=Hh (λP (af:Fr NoM w P)=>zr7 r y.2 P (T.fr0 af) hr);obtain⟨la,lc,rfl,_,_,_⟩:=S;obtain⟨ra,rc,rfl,_,_,_⟩:=T;have c0:e.cell? ⟨w.heap.size,0,none⟩=some (.slice la y.1.length lc):=qR x rfl);obtain⟨HW,F2,O,E0,E1,E2⟩:=Hhp6 f A W x Q R;clear f A W x Q R;go_enter Tryz.func81,Tryz.ntmps81;go_wp2_with fail;rw[<-HW.o];refine Z.o.mono ?_;(rintro a g ⟨rfl,k,h⟩;obtain⟨b,q⟩:=eX e.heap.size;rw[<-q]at k ⊢;have K:=h.heap E0.o id;have L:=h.heap E1.o id;have t:=h.heap E2.o id;obtain⟨k0,_,z0,_⟩:=zd3 t;have kb:g.cell? ⟨w.heap.size,1,none⟩=some (.slice ra y.2.length rc):=qR K rfl);(have ag:=k;have D:b<g.heap.size:=(yZ.1 k).1;have G:=heap_set (i:=0) t (.slice (some ⟨b,0,none⟩) y.1.length y.1.length);obtain⟨n,m⟩:=eX (g.setCell ⟨w.heap.size+2,0,none⟩ (.slice (some ⟨b,0,none⟩) y.1.length y.1.length));have o:Fr (λd=>d=w.heap.size+2) g n:=by rw[m];exact Fr.set g ⟨w.heap.size+2,0,none⟩ (.slice (some ⟨b,0,none⟩) y.1.length y.1.length));(rw[<-m]at G;have U:=k.fr o (by have:=O.o;omega);have F:n.heap.size=g.heap.size:=by rw[m];simp[World.setCell]);have u:Fr NoM w n:=(F2.o.trans h kP).trans o (λd hq a=>by omega);have M:=o.heap L (by omega);obtain⟨a0,ad,ac,a8,ab,a3,a1,a5,a7⟩:=Hhp9 (B2.o n u) m G U F u M q D;clear m G U F u M q D k ag K L t o h c0;go_wp2_with fail;rw[<-ad.o];refine a0.o.mono ?_;rintro a J ⟨rfl,E,p⟩;have H:=p.heap ac.o id;have z:=p.heap a1.o id;obtain⟨am,an,_,aq⟩:=zd3 H;obtain⟨ak,al,ao,ap⟩:=zd3 z;obtain⟨c,s⟩:=eX n.heap.size;rw[<-s]at E ⊢;have V:=a8.o.fr p id;have N:=a3.o.trans p kP;obtain⟨aj,a2,aa,a9,a4,a6⟩:=Hhp6 H z E V N s;clear H z E V N s k0 z0 kb;go_wp2_with fail;have C:=Fr.set J ⟨w.heap.size+1+1,1,none⟩ (.slice (some ⟨c,0,none⟩) y.2.length y.2.length);obtain⟨w6,ah⟩:=eX (J.setCell ⟨w.heap.size+1+1,1,none⟩ (.slice (some ⟨c,0,none⟩) y.2.length y.2.length));rw[<-ah]at C ⊢;have ae:=C.heap a2.o (λa=>by have a:w.heap.size+1=w.heap.size+1+1:=a;omega);obtain⟨X,Y⟩:=put2 (u1:=.slice (some ⟨b,0,none⟩) y.1.length y.1.length) (u2:=.slice (some ⟨c,0,none⟩) y.2.length y.2.length) ae;obtain⟨w8,ai⟩:=eX ((w6.setCell ⟨w.heap.size+1,0,none⟩ (.slice (some ⟨b,0,none⟩) y.1.length y.1.length)).setCell ⟨w.heap.size+1,1,none⟩ (.slice (some ⟨c,0,none⟩) y.2.length y.2.length));rw[<-ai]at X Y ⊢;obtain⟨m0,m1,_,_⟩:=zd3 X;have hs:=O.o;have q:=a5.o;have s:=a6.o;have D:=a7.o;have F:=ab.o;refine yJ (v:=.agg #[.slice (some ⟨b,0,none⟩) y.1.length y.1.length,.slice (some ⟨c,0,none⟩) y.2.length y.2.length]) (by simp[results,Tryz.results81,go_sem,m0,m1]) rfl ?_;have B:Fr (λd=>d=w.heap.size+1\/d=w.heap.size+2) J w8:=(C.mono (λd _ a=>.inr a)).trans Y (λd _ a=>.inl a);exact⟨b,c,rfl,by omega,by omega,a9.o.fr B (λa=>by omega),aa.o.fr B (λa=>by omega),a4.o.trans B (λd hq a=>by omega)⟩
structure PartsI (D g:Nat) (w:World) (FI:List IL) (NV:List (Value × Value)):Prop where
 len:NV.length=FI.length
 ints:∀(j:Nat) (x:Value × Value) (y:IL),NV[j]?=some x->FI[j]?=some y->Ints w x.1 y.1/\Ints w x.2 y.2
 blk:∀q∈zaz NV,D<=q/\q<w.heap.size/\q≠g
 sep:(zaz NV).Nodup
 thaw:∀q∈zaz NV,RowB w q
theorem PartsI.fr {M:Nat->Prop}{D g:Nat}{w k:World}{i:List IL}{NV:List (Value × Value)}(b:PartsI D g w i NV)(d:Fr M w k)(e:∀a,D<=a->a<w.heap.size->a≠g->¬M a):PartsI D g k i NV:=by refine⟨b.len,λm p q j l=>?_,λa c=>⟨(b.blk a c).1,vK (b.blk a c).2.1 d.size,(b.blk a c).2.2⟩,b.sep,λa c=>(b.thaw a c).fr d (e a (b.blk a c).1 (b.blk a c).2.1 (b.blk a c).2.2)⟩;obtain⟨n,o⟩:=b.ints m p q j l;obtain⟨f,h⟩:=zf9 j;exact⟨n.fr d (λ_ a c=>e a (b.blk a (f a c)).1 (b.blk a (f a c)).2.1 (b.blk a (f a c)).2.2),o.fr d (λ_ a c=>e a (b.blk a (h a c)).1 (b.blk a (h a c)).2.1 (b.blk a (h a c)).2.2)⟩
theorem PartsI.snoc {D g a b:Nat}{w e:World}{h:List IL}{y:IL}{NV:List (Value × Value)}(c:PartsI D g w h NV)(t:Fr NoM w e)(F:D<=w.heap.size)(G:g<w.heap.size)(C:w.heap.size<=a)(E:a<b)(o:RowIs 3 encI e a y.1)(l:RowIs 3 encI e b y.2)(x:y.1.length<=9223372036854775807)(z:y.2.length<=9223372036854775807) :
  PartsI D g e (h ++ [y]) (NV ++ [(.slice (some ⟨a,0,none⟩) y.1.length y.1.length,.slice (some ⟨b,0,none⟩) y.2.length y.2.length)]):=by
 have i:=c.fr t (λ_ _ _ _ d=>d);have H:b<e.heap.size:=(yZ.1 l).1;have j:zaz (NV ++ [(Value.slice (some ⟨a,0,none⟩) y.1.length y.1.length,Value.slice (some ⟨b,0,none⟩) y.2.length y.2.length)])=zaz NV ++ [a,b]:=by
  rw[zdx];rfl
 refine⟨by simp[c.len],λn A m k f=>?_,λd hq=>?_,?_,λd hq=>?_⟩
 ·rcases zh9 k with ⟨u,k⟩|⟨rfl,rfl⟩
  ·have v:h[n]?=some m:=by
    rw[yV (by rw[<-c.len];exact u)]at f;exact f
   exact i.ints n A m k v
  ·rw[c.len]at f
   have q:m=y:=by simpa using f.symm
   subst q;exact⟨o.slice x,l.slice z⟩
 ·rw[j,y6]at hq
  rcases hq with hq|hq
  ·exact i.blk d hq
  ·simp at hq
   rcases hq with rfl|rfl
   ·exact⟨by omega,by omega,by omega⟩
   ·exact⟨by omega,by omega,by omega⟩
 ·rw[j,List.nodup_append]
  refine⟨c.sep,by simp;omega,λp r B s=>?_⟩;have:=(c.blk p r).2.1;simp at s;omega
 ·rw[j,y6]at hq
  rcases hq with hq|hq
  ·exact i.thaw d hq
  ·simp at hq
   rcases hq with rfl|rfl
   ·exact⟨_,o⟩
   ·exact⟨_,l⟩
structure NodesI (D:Nat) (w:World) (v:Value) (FI:List IL) (NV:List (Value × Value)):Prop where
 row:w.ownsRow D 85 2 v NV.length (zau NV)
 len:NV.length=FI.length
 ints:∀(j:Nat) (x:Value × Value) (y:IL),NV[j]?=some x->FI[j]?=some y->Ints w x.1 y.1/\Ints w x.2 y.2
 blk:∀q∈zaz NV,D<=q/\q<w.heap.size/\v.ownBlock≠some q
 sep:(zaz NV).Nodup
 thaw:∀q∈zaz NV,RowB w q
theorem NodesI.fr {M:Nat->Prop}{D:Nat}{w j:World}{v:Value}{f:List IL}{NV:List (Value × Value)}(b:NodesI D w v f NV)(d:Fr M w j)(e:∀a,D<=a->a<w.heap.size->¬M a):NodesI D j v f NV:=by refine⟨za3 b.row d (λa c=>e a (b.row.lt a c).1 (b.row.lt a c).2),b.len,λl o p g k=>?_,λa c=>⟨(b.blk a c).1,vK (b.blk a c).2.1 d.size,(b.blk a c).2.2⟩,b.sep,λa c=>(b.thaw a c).fr d (e a (b.blk a c).1 (b.blk a c).2.1)⟩;obtain⟨m,n⟩:=b.ints l o p g k;obtain⟨h,i⟩:=zf9 g;exact⟨m.fr d (λ_ a c=>e a (b.blk a (h a c)).1 (b.blk a (h a c)).2.1),n.fr d (λ_ a c=>e a (b.blk a (i a c)).1 (b.blk a (i a c)).2.1)⟩
theorem NodesI.nodeL {D:Nat}{w:World}{v:Value}{g:List IL}{NV:List (Value × Value)}(b:NodesI D w v g NV):NodeL (λa=>D<=a/\a<w.heap.size) encI w v g:=by obtain⟨o,p,rfl,i,s,t⟩:=Pairs.of_owns b.row;have k:=b.len;rw[k]at i ⊢;refine⟨o,p,rfl,i,s,λf A l=>?_⟩;obtain⟨c,e⟩:∃c,NV[f]?=some c:=⟨_,xQ (by rw[k];exact(xV.1 l).1)⟩;obtain⟨h,x,j,q,r⟩:=t f c e;obtain⟨y,z⟩:=b.ints f c A e l;obtain⟨m,n⟩:=zf9 e;have u:=b.row.lt h (by rw[j];rfl);exact⟨h,x,c.1,c.2,j,u,q,r,y,z,λ_ a d=>⟨(b.blk a (m a d)).1,(b.blk a (m a d)).2.1⟩,λ_ a d=>⟨(b.blk a (n a d)).1,(b.blk a (n a d)).2.1⟩⟩
theorem yhv (n:Nat)(a:World)(l:n<1000000000):(Instr.makeSlice 24 (.int .i64 (n:Int)) (.int .i64 (n:Int))).run Tryz.prog a=.ok (.slice (some ⟨a.heap.size,0,none⟩) n n) (a.alloc (.cells (zcx encV (.slice none 0 0) (2*n)) 85)):=by obtain⟨j,f,g,h,i⟩:=info_parts zcc;have d:=run_make (P:=Tryz.prog) a 24 85 j _ Tryz.underlying24 f g .i64 .i64 (n:Int) (n:Int) (by omega) (by omega) (by rw[i];omega) (by omega);rw[d,h,show((n:Int)).toNat=n from by omega];have:madeCells (Value.cells (.agg #[.slice none 0 0,.slice none 0 0])) (n*2)=(zcx encV (.slice none 0 0) (2*n)):=by{apply Array.ext';(unfold zcx;rw[List.toList_toArray,madeCells,Array.toList_map,Array.toList_range];refine(List.eq_replicate_iff.2 ⟨by simp;omega,λk e=>?_⟩:_=List.replicate (2*n) (Value.slice none 0 0)).trans (by simp[encV]);obtain⟨c,_,rfl⟩:=y8.1 e;have:c%2=0\/c%2=1:=by omega);rcases this with b|b <;> simp[Value.cells,b]};rw[this]
theorem zvd {R:Nat->Prop}(v:Value)(b:List IL)(w:World)(ad:NodeL R encI w v b)(hn:b.length<1000000000)(Z:∀d∈b,d.1.length<1000000000/\d.2.length<1000000000) : Calls Tryz.prog 36 #[v] w λf w'=>∃(v':Value) (c:List (Value × Value)),f=.returned v'/\NodesI w.heap.size w' v' b c/\Fr NoM w w':=by obtain⟨aa,ac,rfl,h1,h2,S⟩:=ad;have mk:=λm=>yhv b.length m (by omega);have H3:=Hh S;have a5:=Hh Z;clear S Z;go_enter Tryz.func36,Tryz.ntmps36;go_wp2;clear mk;go_loopw [4] (λL m=>∃(a:Nat) (c:List (Value × Value)),L=.int .i64 a/\a<=b.length/\PartsI w.heap.size w.heap.size m (b.take a) c/\RowIs 85 encV m w.heap.size (zau c++List.replicate (2*(b.length-a)) (.slice none 0 0))/\Fr NoM w m) (λL _=>b.length-(intOf L).toNat);(case atStart=>exact⟨0,[],rfl,yK _,⟨rfl,by simp,by simp[zaz,zau],by simp[zaz,zau],by simp[zaz,zau]⟩,RowIs.made 85 encV w (.slice none 0 0) (2*b.length),(nW w).alloc _⟩);case round =>(obtain⟨a,c,rfl,hi,e,k,h⟩:=hrel;obtain⟨M,rfl⟩:=eX wr;by_cases C:a<b.length;{obtain⟨d,u⟩:∃d,b[a]?=some d:=⟨_,xQ C⟩;(obtain⟨ab,ah,ag,ai,U,_,P,Q,s1,s2,_,_⟩:=H3.o a d u;obtain⟨J,K⟩:=a5.o d (xK u);have ix:=yev aa b.length ac a ab ah C U;have af:=zbn (some ⟨w.heap.size,0,none⟩) b.length b.length a w.heap.size 0 C rfl;simp only[Nat.zero_add]at af;have d1:=h.cell P id;have d2:=h.cell Q id;have V:=yaq ag ai d M (s1.fr0 h) (s2.fr0 h) J K;have a1:c.length=a:=by rw[e.len];simp;omega);have a2:w.heap.size<M.heap.size:=(yZ.1 k).1;obtain⟨HC,HY,HP,a8,x,a6,O,N⟩:=Hhp8 V u e k h a1 a2 (And.intro J K);clear V u e k h a1 a2 P Q s1 s2 U J K;go_wp2_with fail;refine HC.o.mono ?_;(rintro f q ⟨g1,g2,rfl,X,Y,r1,r2,s⟩;have E:=HP.o.snoc s (Nat.le_of_lt O.o) O.o X Y r1 r2 (by have:=N.o.1;omega) (by have:=N.o.2;omega);have j:=a8.o.fr s id;have n:(zau c).length=a*2:=by rw[zcv,a6.o]);(obtain⟨p,hm⟩:∃p,2*(b.length-a)=p+1+1:=⟨2*(b.length-a)-2,by omega⟩;have a0:2*(b.length-(a+1))=p:=by omega);(rw[hm]at j;obtain⟨i,H⟩:=eX (Value.slice (some ⟨g1,0,none⟩) d.1.length d.1.length);obtain⟨l,I⟩:=eX (Value.slice (some ⟨g2,0,none⟩) d.2.length d.2.length);obtain⟨u0,k0⟩:∃u0,q.cell? ⟨w.heap.size,a*2,none⟩=some u0:=⟨_,j.cell (a*2) (by simp[n])⟩;obtain⟨u1,k1⟩:∃u1,q.cell? ⟨w.heap.size,a*2+1,none⟩=some u1:=⟨_,j.cell (a*2+1) (by simp[n])⟩;have z0:=j.frozen (a*2);have z1:=j.frozen (a*2+1);have G:=j.set (a*2) i;have y:=zny (zau c) (p+1) i (.slice none 0 0);rw[n]at y;rw[y]at G;have o:=G.set (a*2+1) l;have r:=zny (zau c ++ [i]) p l (.slice none 0 0);rw[yX,n]at r;rw[show a*2 + [i].length=a*2+1 from rfl]at r;rw[r]at o;have W:zau c ++ [i] ++ [l]=zau (c ++ [(i,l)]):=by simp[zau]);rw[W,<-a0]at o;have a3:b.take a ++ [d]=b.take (a+1):=by{obtain⟨B,f⟩:=xV.1 HY.o;rw[yQ B,f]};rw[a3,<-H,<-I]at E;have z:Fr (λg=>g=w.heap.size) q ((q.setCell ⟨w.heap.size,a*2,none⟩ i).setCell ⟨w.heap.size,a*2+1,none⟩ l):=((Fr.refl (λg=>g=w.heap.size) q).setCell ⟨w.heap.size,a*2,none⟩ i (λ_=>rfl)).setCell ⟨w.heap.size,a*2+1,none⟩ l (λ_=>rfl);have F:=E.fr z (λg _ _ ae f=>ae f);have A:=(x.o.trans s kP).trans z (λg t f=>by omega);rw[H,I]at o F A;obtain⟨a9,a7,a4⟩:=Hhp3 o F A;clear G o E F A z s r1 r2 X Y j y r W a3 H I hm a0 n;go_wp2_with fail;go_roundw;(case rel=>exact⟨a+1,_,by go_num,by omega,a7.o,a9.o,a4.o⟩);case measure=>simp[intOf];omega};{(have B:a=b.length:=by omega);subst B;rw[Nat.sub_self,Nat.mul_zero,List.replicate_zero,List.append_nil]at k;rw[y7]at e;have T:NodesI w.heap.size M (.slice (some ⟨w.heap.size,0,none⟩) b.length b.length) b c:=by{have D:=e.len;refine⟨⟨by rw[zcv],.inr ⟨w.heap.size,b.length,_,by rw[D],xW _,k,by omega,by unfold maxLen;omega,by simp[zcv,D],by{rw[List.toList_toArray,show(zau c).map encV=zau c from List.map_id _];exact List.take_of_length_le (by rw[zcv];omega)}⟩⟩,D,e.ints,λg t=>⟨(e.blk g t).1,(e.blk g t).2.1,λf=>(e.blk g t).2.2 (yY f).symm⟩,e.sep,e.thaw⟩};have HN:=Hh T;have x:=Hh h;clear T k e h;go_wp2_with fail;go_ret;exact⟨_,c,rfl,HN.o,x.o⟩})
theorem zxk (g k h l:Value)(x y:IL)(w:World)(q:Ints w g x.1)(r:Ints w k x.2)(s:Ints w h y.1)(t:Ints w l y.2) : Calls Tryz.prog 65 #[.agg #[g,k],.agg #[h,l]] w λb m=>b=.returned (.bool (decide (x=y)))/\Fr NoM w m:=by(obtain⟨o,v,p,z⟩:=Hhp4 (λe (f:Fr NoM w e)=>q.fr0 f) (λe (f:Fr NoM w e)=>r.fr0 f) (λe (f:Fr NoM w e)=>s.fr0 f) (λe (f:Fr NoM w e)=>t.fr0 f);have F:g.oneCell'=true:=by obtain⟨_,_,rfl,_⟩:=q;rfl);(have G:k.oneCell'=true:=by obtain⟨_,_,rfl,_⟩:=r;rfl);(have H:h.oneCell'=true:=by obtain⟨_,_,rfl,_⟩:=s;rfl);(have I:l.oneCell'=true:=by obtain⟨_,_,rfl,_⟩:=t;rfl);clear q r s t;have A:∀B,Fr NoM w ((((w.alloc (.cells #[g,k] 85)).alloc (.cells #[h,l] 85))).drewN B):=λB=>(((nW w).alloc _).alloc _).trans (M':=NoM) ⟨rfl,rfl,rfl,xW _,λ_ _ _=>rfl⟩ kP;have a:=Hh A;clear A;by_cases i:x.1=y.1;{have D:decide (x.1=y.1)=true:=vJ i;have C:=Hh i;clear i;by_cases j:x.2=y.2;{have E:decide (x.2=y.2)=true:=vJ j;have d:decide (x=y)=true:=vJ (Prod.ext C.o j);have n:=Hh d;clear d j;go_enter Tryz.func65,Tryz.ntmps65;go_wp2_with fail;refine(zgq g h x.1 y.1 _ (o.o _ (a.o 0)) (p.o _ (a.o 0))).mono ?_;rintro b m ⟨rfl,c,rfl⟩;go_wp2_with fail;refine(zgq k l x.2 y.2 _ (v.o _ (a.o c)) (z.o _ (a.o c))).mono ?_;rintro b m ⟨rfl,u,rfl⟩;go_wp2;go_ret;exact⟨by rw[n.o];rfl,a.o (c+u)⟩};{have E:decide (x.2=y.2)=false:=vV j;have d:decide (x=y)=false:=vV (λb=>j (by rw[b]));have n:=Hh d;clear d j;go_enter Tryz.func65,Tryz.ntmps65;go_wp2_with fail;refine(zgq g h x.1 y.1 _ (o.o _ (a.o 0)) (p.o _ (a.o 0))).mono ?_;rintro b m ⟨rfl,c,rfl⟩;go_wp2_with fail;refine(zgq k l x.2 y.2 _ (v.o _ (a.o c)) (z.o _ (a.o c))).mono ?_;rintro b m ⟨rfl,u,rfl⟩;go_wp2;go_ret;exact⟨by rw[n.o];rfl,a.o (c+u)⟩}};{have D:decide (x.1=y.1)=false:=vV i;have d:decide (x=y)=false:=vV (λb=>i (by rw[b]));have n:=Hh d;clear d i;go_enter Tryz.func65,Tryz.ntmps65;go_wp2_with fail;refine(zgq g h x.1 y.1 _ (o.o _ (a.o 0)) (p.o _ (a.o 0))).mono ?_;rintro b m ⟨rfl,c,rfl⟩;go_wp2;go_ret;exact⟨by rw[n.o];rfl,a.o c⟩}
theorem zus {R S:Nat->Prop}(av bv:Value)(A B:List IL)(w:World)(hA:NodeL R encI w av A)(hB:NodeL S encI w bv B) :
  Calls Tryz.prog 28 #[av,bv] w λe w'=>e=.returned (.bool (decide (A=B)))/\Fr NoM w w':=by
 obtain⟨aa,ac,rfl,hac,hacm,hA⟩:=hA;obtain⟨ba,bc,rfl,hbc,hbcm,hB⟩:=hB;have HA:=Hh hA;clear hA;have HB:=Hh hB;clear hB;by_cases hn:A.length=B.length
 ·have hne:((A.length:Int) != (B.length:Int))=false:=by simp[hn]
  have hfin:A.take A.length=B.take A.length->decide (A=B)=true:=λh=>by
   rw[y7,hn,y7]at h;simp[h]
  have HN:=Hh hn;clear hn;have HF:=Hh hfin;clear hfin;go_enter Tryz.func28,Tryz.ntmps28;go_wp2;go_loopw [5] (λi wr=>∃k:Nat,k<=A.length/\i=.int .i64 k/\A.take k=B.take k/\Fr NoM w wr) (λi _=>A.length-(intOf i).toNat)
  case atStart=>exact⟨0,by omega,rfl,rfl,Fr.refl _ _⟩
  case round =>
   obtain⟨k,hk,rfl,ht,hfr⟩:=hrel;obtain⟨w7,rfl⟩:=eX wr;have Ht:=Hh ht;have HFr:=Hh hfr;clear ht hfr;by_cases hlt':k<A.length
   ·have hlt2:k<B.length:=by rw[<-HN.o];exact hlt'
    obtain⟨b1,o1,l1,r1,ha1,_,c1,c2,s1,s2,_,_⟩:=HA.o k A[k] (by simp);obtain⟨b2,o2,l2,r2,ha2,_,d1,d2,t1,t2,_,_⟩:=HB.o k B[k] (by simp);have ix1:=zbn aa A.length ac k b1 o1 hlt' ha1;have ix2:=zbn ba B.length bc k b2 o2 hlt2 ha2;have HC:=Hh (λW (f:Fr NoM w7 W)=>show W.cell? ⟨b1,o1+k*2,none⟩=some l1/\W.cell? ⟨b1,o1+k*2+1,none⟩=some r1/\W.cell? ⟨b2,o2+k*2,none⟩=some l2/\W.cell? ⟨b2,o2+k*2+1,none⟩=some r2 from
     have f0:=HFr.o.trans f (λ_ _ q=>q)
     ⟨f0.cell c1 id,f0.cell c2 id,f0.cell d1 id,f0.cell d2 id⟩)
    have HE:=Hh (λW (f:Fr NoM w7 W) =>
     have f0:=HFr.o.trans f (λ_ _ q=>q);zxk l1 r1 l2 r2 A[k] B[k] W (s1.fr0 f0) (s2.fr0 f0) (t1.fr0 f0) (t2.fr0 f0))
    obtain⟨eb,heb⟩:=eX (decide (A[k]=B[k]));rw[<-heb]at HE;have HEb:=Hh heb;clear ha1 ha2 c1 c2 d1 d2 s1 s2 t1 t2 heb;go_upto_region 6 with fail;have F0:Fr NoM w7 w7.drew:=(nW w7).drew;cases eb with
    | true =>
     go_region_held3 (λ(W:World)=>W.cell? ⟨b1,o1+k*2,none⟩=some l1/\W.cell? ⟨b1,o1+k*2+1,none⟩=some r1/\W.cell? ⟨b2,o2+k*2,none⟩=some l2/\W.cell? ⟨b2,o2+k*2+1,none⟩=some r2)
      (exact HC.o _ (‹_›))
      (first
       | (go_at_call 65;(with_reducible refine(HE.o _ (‹_›)).mono ?_);rintro e w8 ⟨rfl,f8⟩;have F8:Fr NoM w7 w8:=Fr.trans (‹_›) f8 (λ_ _ q=>q))
       | fail)
     all_goals
      have G8:=Hh F8;clear f8 F8 F0;go_wp2;go_roundw
      case rel=>exact⟨k+1,by omega,by go_num,by rw[yQ hlt',yQ hlt2,Ht.o,of_decide_eq_true HEb.o.symm],HFr.o.trans G8.o (λ_ _ q=>q)⟩
      case measure=>simp[intOf];omega
    | false =>
     have hf:decide (A=B)=false:=by
      have h1:A[k]≠B[k]:=of_decide_eq_false HEb.o.symm;have:A≠B:=λe=>by subst e;exact h1 rfl
      simp[this]
     have HFn:=Hh hf;clear hf;go_region_held3 (λ(W:World)=>W.cell? ⟨b1,o1+k*2,none⟩=some l1/\W.cell? ⟨b1,o1+k*2+1,none⟩=some r1/\W.cell? ⟨b2,o2+k*2,none⟩=some l2/\W.cell? ⟨b2,o2+k*2+1,none⟩=some r2)
      (exact HC.o _ (‹_›))
      (first
       | (go_at_call 65;(with_reducible refine(HE.o _ (‹_›)).mono ?_);rintro e w8 ⟨rfl,f8⟩;have F8:Fr NoM w7 w8:=Fr.trans (‹_›) f8 (λ_ _ q=>q))
       | fail)
     all_goals
      have G8:=Hh F8;clear f8 F8 F0;go_wp2;go_ret;exact⟨by rw[HFn.o];rfl,HFr.o.trans G8.o (λ_ _ q=>q)⟩
   ·have hk':k=A.length:=by omega
    have hf:decide (A=B)=true:=HF.o (by rw[<-hk'];exact Ht.o);have HFn:=Hh hf;have HK:=Hh hk';clear hk' hf;go_wp2;go_ret;exact⟨by rw[HFn.o];rfl,HFr.o⟩
 ·have hne:((A.length:Int) != (B.length:Int))=true:=by rw[bne_iff_ne];omega
  have hfin:decide (A=B)=false:=by
   have:A≠B:=λe=>hn (by rw[e])
   simp[this]
  have Hfin:=Hh hfin;clear hfin hn;go_enter Tryz.func28,Tryz.ntmps28;go_wp2;go_ret;exact⟨by rw[Hfin.o];rfl,Fr.refl _ _⟩
theorem zxm {R S:Nat->Prop} (a b:Value) (A B:List IL) (w:World) (e:NodeL R encI w a A) (f:NodeL S encI w b B) :
    Calls Tryz.prog 9 #[.agg #[a],.agg #[b]] w λh k=>h=.returned (.bool (decide (A=B)))/\Fr NoM w k:=by
  have n:a.oneCell'=true:=by obtain ⟨_,_,rfl,_⟩:=e;rfl
  have o:b.oneCell'=true:=by obtain ⟨_,_,rfl,_⟩:=f;rfl
  have c:Fr NoM w ((w.alloc (.cells #[a] 26)).alloc (.cells #[b] 26)):=((nW w).alloc _).alloc _;have g:=Hh (zus a b A B _ (e.fr0 c) (f.fr0 c));have m:=Hh c;clear e f c;obtain ⟨d,j⟩:∃ d,d=decide (A=B):=⟨_,rfl⟩;rw [<-j] at g ⊢;clear j;go_enter Tryz.func9,Tryz.ntmps9;go_wp2_with fail;refine g.o.mono ?_
  rintro h k ⟨rfl,i⟩;have l:=Hh (m.o.trans i kP);clear i;cases d <;>
    (go_wp2
     go_ret;exact ⟨rfl,l.o⟩)
theorem ztx {w:World}{a:Nat}{c:Value}{e:TypeId}(b:w.heap[a]?=some (.cells #[c] e (0,0))):w.cell? ⟨a,0,none⟩=some c/\w.frozen? ⟨a,0,none⟩=false :=
 ⟨by rw[xX w a 0 _ _ _ b];rfl,fZ b⟩
theorem yar {R:Nat->Prop}(v:Value)(b:List IL)(w:World)(a:NodeL R encI w v b)(U:b.length<1000000000)(T:∀E∈b,E.1.length<1000000000/\E.2.length<1000000000) : Calls Tryz.prog 14 #[.agg #[v]] w λc B=>∃(q:Value) (m:List (Value × Value)),c=.returned (.agg #[q])/\NodesI w.heap.size B q b m/\Fr NoM w B:=by(obtain⟨h,e⟩:=eX (((w.alloc (.cells #[v] 36)).alloc (.cells #[.slice none 0 0] 26)).alloc (.cells #[.slice none 0 0] 26));have n:Fr NoM w h:=by rw[e];exact(((nW w).alloc _).alloc _).alloc _);(have A:h.heap.size=w.heap.size+3:=by rw[e];simp);(have s:h.heap[w.heap.size]?=some (.cells #[v] 36 (0,0)):=by rw[e];exact(((nW _).alloc _).alloc _).heap (xJ w _) id);have t:h.heap[w.heap.size+1]?=some (.cells #[.slice none 0 0] 26 (0,0)):=by{have a:=xJ (w.alloc (.cells #[v] 36)) (.cells #[.slice none 0 0] 26);rw[xZ]at a;rw[e];exact((nW _).alloc _).heap a id};have x:h.heap[w.heap.size+1+1]?=some (.cells #[.slice none 0 0] 26 (0,0)):=by{have a:=xJ ((w.alloc (.cells #[v] 36)).alloc (.cells #[.slice none 0 0] 26)) (.cells #[.slice none 0 0] 26);rw[xZ,xZ]at a;rw[e];exact a};(have F:=Hh (zvd v b h (a.fr0 n) U T);obtain⟨O,P,rfl,_⟩:=a;have Q:h.cell? ⟨w.heap.size,0,none⟩=some (.slice O b.length P):=qR s rfl);obtain⟨N,I,M,G,H⟩:=Hhp5 e n A t x;clear e n A s t x;go_enter Tryz.func14,Tryz.ntmps14;go_wp2_with fail;rw[<-N.o];refine F.o.mono ?_;(rintro c r ⟨q,m,rfl,p,j⟩;obtain⟨k2,z2⟩:=ztx (j.heap H.o id);have l:=j.heap G.o id;obtain⟨k1,z1⟩:=ztx l;obtain⟨f,g,rfl,Y⟩:=id p.nodeL;obtain⟨L,J,K⟩:=Hhp3 p j l;clear Y p j l Q;go_wp2_with fail;have o:=Fr.set r ⟨w.heap.size+1+1,0,none⟩ (.slice f b.length g);obtain⟨C,V⟩:=eX (r.setCell ⟨w.heap.size+1+1,0,none⟩ (.slice f b.length g));rw[<-V]at o ⊢;have S:=o.heap K.o (λc=>by have c:w.heap.size+1=w.heap.size+1+1:=c;omega);have u:=heap_set (i:=0) S (.slice f b.length g);have z:=Fr.set C ⟨w.heap.size+1,0,none⟩ (.slice f b.length g);obtain⟨D,W⟩:=eX (C.setCell ⟨w.heap.size+1,0,none⟩ (.slice f b.length g));rw[<-W]at z u ⊢;have X:D.cell? ⟨w.heap.size+1,0,none⟩=some (.slice f b.length g):=qR u rfl);have Z:=M.o;refine yJ (v:=.agg #[.slice f b.length g]) (by simp[results,Tryz.results14,go_sem,X]) rfl ?_;have y:Fr (λd=>d=w.heap.size+1\/d=w.heap.size+2) r D:=(o.mono (λd _ c=>.inr c)).trans z (λd _ c=>.inl c);refine⟨_,m,rfl,?_,(I.o.trans J.o kP).trans y (λd k c=>by omega)⟩;have a:=L.o.fr y (λd k _ c=>by omega);exact⟨zb6 a.row (by omega),a.len,a.ints,λd k=>⟨by have:=(a.blk d k).1;omega,(a.blk d k).2⟩,a.sep,a.thaw⟩
end Go.Proofs.YtghekfmfonoocaaGreatDoor
namespace Go.Proofs.YtghekfmfonoocaaGreatDoor
open Go.RowKit Go.ChangeShapes Go.WideShapes Go.Deep
theorem ykm {w:World}{a:Addr}{v:Value}(b:w.cell? a=some v):a=⟨a.block,a.off,none⟩:=by obtain⟨d,f,c⟩:=a;cases c with| none=>rfl| some e =>{unfold World.cell? at b;simp only at b;split at b;{simp at b};{cases b}}
section
variable {H:Type}{enc:TypeId × Value->H}{w:World}{base:Nat}{spare:Nat->Bool}{held:Bool}
theorem zyx {fuel:Nat}{v:Value}{x:DataW H × List MemPlace}(n:DataW.trod enc Tryz.prog w base spare held fuel 82 [v]=some x):∃l,Ints w v l:=by rcases open_ints Tryz.underlying82 Tryz.underlying3 (by kernel_rfl) n with ⟨c,_⟩|⟨a,b,m,e,c,_,r,p,q,_,i,_⟩;{cases c;exact⟨[],none,0,rfl,xW _,by decide,by simp⟩};{cases c;(have s:b<=e.length:=by rw[q];split <;> omega);(have j:(e.take b).length=b:=by rw[kJ];omega);(refine⟨e.take b,some a,m,by rw[j],by omega,by unfold maxLen at p;omega,λk t d=>?_⟩;have o:k<b:=by rw[<-j];exact(xV.1 d).1);have f:=i 0 (by omega);rw[show a.add 0=a from rfl]at f;have h:=ykm f;have g:=i k (by omega);rw[List.getElem?_take,if_pos o]at d;refine⟨a.block,a.off,by rw[<-h],?_⟩;rw[h,add_plain]at g;rw[g,xY,d];rfl}
theorem ye0 {fuel:Nat}{v:Value}{x:DataW H × List MemPlace}(y:DataW.trod enc Tryz.prog w base spare held fuel 34 [v]=some x):∃r,NodeL AnyB encI w v r:=by rcases open_slice_pairs Tryz.underlying34 Tryz.underlying105 (by kernel_rfl) rfl rfl (by kernel_rfl) (by kernel_rfl) y with ⟨g,_⟩|⟨c,b,u,E,O,j,k,I,J,K,L,g,_,M,C,D,_,h⟩;{cases g;exact⟨[],none,0,rfl,xW _,by decide,by simp⟩};{cases g;(have N:b<=E:=by rw[D];split <;> omega);have B:∀a,a<b->∃e:IL,Ints w (j a) e.1/\Ints w (k a) e.2:=λa d=>by{obtain⟨_,_,F,G⟩:=h a (by omega);obtain⟨s,z⟩:=zyx F;obtain⟨t,A⟩:=zyx G;exact⟨(s,t),z,A⟩};(obtain⟨f,o⟩:=choose_lt B;have q:((List.range b).map f).length=b:=by simp);(refine⟨(List.range b).map f,some c,u,by rw[q],by omega,by unfold maxLen at C;omega,λa e i=>?_⟩;have d:a<b:=by rw[<-q];exact(xV.1 i).1);rw[vY,List.getElem?_range d]at i;obtain rfl:f a=e:=yY i;have n:=(h 0 (by omega)).1;rw[show c.add (0*2)=c from rfl]at n;have p:=ykm n;obtain⟨l,m,_,_⟩:=h a (by omega);rw[p,add_plain]at l m;exact⟨c.block,c.off,j a,k a,by rw[<-p],trivial,l,by rw[Nat.add_assoc];exact m,(o a d).1,(o a d).2,λ_ _ _=>trivial,λ_ _ _=>trivial⟩}
theorem openForm {r:Reach}{f:Nat}{v:Value}{d:DataW H}{l:List MemPlace}(j:Value.okWide Tryz.prog w r f 36 v)(g:DataW.Trod enc Tryz.prog w base spare held 36 v d l):∃a b,v=.agg #[a]/\NodeL AnyB encI w a b:=by obtain⟨c,rfl,e⟩:=okWide_struct Tryz.underlying36 j;rw[show Tryz.prog.cellsOf 36=1 from by kernel_rfl]at e;obtain⟨a,rfl⟩:∃a,c=#[a]:=by{match c,e with| ⟨[m]⟩,_=>exact⟨m,rfl⟩};obtain⟨o,i⟩:=g;obtain⟨n,k,_,_,h⟩:=trod_struct1 Tryz.underlying36 i;obtain⟨b,hF⟩:=ye0 (v:=a) (fuel:=k) (x:=n) h;exact⟨a,b,rfl,hF⟩
end
