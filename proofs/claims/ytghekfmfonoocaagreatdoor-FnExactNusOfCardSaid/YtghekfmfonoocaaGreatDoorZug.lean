import Derived.OpenShut
import Derived.WalkSmall
import Derived.IntWalk
import Derived.Test.YtghekfmfonoocaaGreatDoorZu16
/- Lemmas. -/
set_option linter.all false
set_option maxHeartbeats 8000000
set_option maxRecDepth 8000
namespace Go.Proofs.YtghekfmfonoocaaGreatDoor
open Go.RowKit
def DF (U:List Nat)(c:List PL):Prop:=∃a,c=za8 a/\∀b,SubC a b->b∈U
theorem ycp {L:List Nat}{n:Nat}(d:L.Pairwise (· < ·))(c:∀a∈L,a<n):L.length<=n:=by have:=List.Nodup.length_le_of_subset (show L.Nodup from d.imp (λb=>Nat.ne_of_lt b)) (λa e=>kZ.2 (c a e));rwa [uV]at this
theorem DF.props {U:List Nat}{a:List PL}(j:DF U a):0<a.length/\a.length<=U.length/\OptsOK a/\∀c∈a,c.1.length<=U.length/\c.2.length<=U.length:=by obtain⟨d,rfl,l⟩:=j;obtain⟨q,g,r,_⟩:=zh2 (zbd d);obtain⟨i,b⟩:=zbd d;have u:=b.book.len;have v:i.length<=U.length:=b.book.nodup.length_le_of_subset λh m=>l h ((b.sub h).1 m);refine⟨q,by omega,g,λc n=>?_⟩;obtain⟨f,k,rfl⟩:=uY n;have e:=xQ k;obtain⟨o,p⟩:=g f _ e;obtain⟨u1,u2⟩:=r f _ e;have s:=ycp u1 o;have t:=ycp u2 p;exact⟨by omega,by omega⟩
theorem DF.good {U:List Nat}{a:List PL}(b:DF U a)(h:U.length<=120):GoodF a:=by obtain⟨d,i,e,f⟩:=b.props;exact⟨d,by omega,e,λg c=>by have:=f g c;omega⟩
theorem yaz {a x:Nat}(h:SubC a x):x=a\/∃y,optC a y/\SubC y x:=by induction h with| root=>exact .inl rfl| step _ hop ih =>{rcases ih with rfl|⟨y,hy,hs⟩;{exact .inr ⟨_,hop,.root⟩};{exact .inr ⟨y,hy,hs.step hop⟩}}
theorem zrd (FL:List (List PL)):∀(a:List PL × List Nat × List Nat) (c:List Nat),(∀d∈FL,0<d.length/\OptsOK d)->PoolOK a.1 a.2.1->RowC a.1 a.2.2 c -> PoolOK (FL.foldl zbm a).1 (FL.foldl zbm a).2.1/\a.1 <+: (FL.foldl zbm a).1/\RowC (FL.foldl zbm a).1 (FL.foldl zbm a).2.2 (c++FL.map zas):=by induction FL with| nil=>{intro a c _ f g;exact⟨f,List.prefix_refl _,by simpa using g⟩}| cons b i r =>{(intro a c hF f g;obtain⟨t,n⟩:=hF b uX;obtain⟨j,h,e,_⟩:=zv6 b n f;have s:(addB a.1 a.2.1 b).2.2.length=b.length:=by rw[e.len,za1]);have o:RowC (zbm a b).1 (zbm a b).2.2 (c ++ [zas b]):=by{refine(g.mono h).snoc ?_ ?_;{exact e.1 _ (zd8 (by omega))};{have k:=e.2;(unfold zg5 zas;have l:(za2 (za0 (addB a.1 a.2.1 b).1) (addB a.1 a.2.1 b).2.2).getD (b.length-1) 0=(za0 b).getD (b.length-1) 0:=by rw[k]);rw[<-l];unfold za2;rw[xY,xY,xY,vY,xQ (show b.length-1<(addB a.1 a.2.1 b).2.2.length by omega)];simp[xY]}};obtain⟨p,i2,q⟩:=r (zbm a b) (c ++ [zas b]) (λd m=>hF d (uJ _ m)) j o;rw[List.foldl_cons];refine⟨p,h.trans i2,?_⟩;rw[List.map_cons,show c++zas b::i.map zas=c ++ [zas b]++i.map zas from by simp];exact q}
theorem zmr {FL FR:List (List PL)}(g:∀a∈FL,0<a.length/\OptsOK a)(h:∀a∈FR,0<a.length/\OptsOK a):zht FL FR=za8 (mkC (FL.map zas) (FR.map zas)):=by obtain⟨e,l,b⟩:=zrd FL ([],[],[]) [] g PoolOK.nil (RowC.nil _);obtain⟨c,f,d⟩:=zrd FR ((zc1 [] [] FL).1,(zc1 [] [] FL).2.1,[]) [] h e (RowC.nil _);rw[List.nil_append]at b d;obtain⟨i,m,j,k⟩:=zg6 c (b.mono f) d;have:=zee i j k;rw[<-this];unfold zht;show zdh (putB _ _ _ _).1 (putB _ _ _ _).2.1 (putB _ _ _ _).2.2=_;rw[<-zd0 c];rfl
theorem DF.code {U:List Nat}{a:List PL}(e:DF U a):a=za8 (zas a)/\∀c,SubC (zas a) c->c∈U:=by obtain⟨b,rfl,f⟩:=e;have d:zas (za8 b)=b:=(zh2 (zbd b)).2.2.2.2.2;rw[d];exact⟨rfl,f⟩
theorem zzf {U:List Nat}{FL FR:List (List PL)}(d:∀a∈FL,DF U a)(e:∀a∈FR,DF U a):DF (U ++ [mkC (FL.map zas) (FR.map zas)]) (zht FL FR)/\zas (zht FL FR)=mkC (FL.map zas) (FR.map zas):=by have c:zht FL FR=za8 (mkC (FL.map zas) (FR.map zas)):=zmr (λa b=>⟨(d a b).props.1,(d a b).props.2.2.1⟩) (λa b=>⟨(e a b).props.1,(e a b).props.2.2.1⟩);refine⟨⟨_,c,λg i=>?_⟩,by rw[c];exact(zh2 (zbd _)).2.2.2.2.2⟩;rcases yaz i with rfl|⟨h,j,f⟩;{simp};{refine vQ _ ?_;rcases j with b|b;{obtain⟨a,c,rfl⟩:=y8.1 ((zab _ _ h).1 b);exact(d a c).code.2 g f};{obtain⟨a,c,rfl⟩:=y8.1 ((zac _ _ h).1 b);exact(e a c).code.2 g f}}
def nn1:Nat:=mkC [] []
def nn4:Nat:=mkC [nn1] [nn1]
section
variable {D:Nat}{T T':Nat->Prop}{w w':World}{v:Value}{LL:List PL}
end
section
variable {D:Nat}{W W' Wa:World}{v v' nv:Value}{VS:List Value}{FSs:List (List PL)}{T T':Nat->Prop}{Fm:List PL}
end
theorem FormsL.fr {R M:Nat->Prop}{w c:World}{v:Value}{FL:List (List PL)}(h:FormsL R w v FL)(b:Fr M w c)(n:∀a,v.ownBlock=some a->¬M a)(l:∀a,R a->¬M a):FormsL R c v FL:=by obtain⟨e,i,j,k⟩:=h;exact⟨e,i.fr b (λ_ a m=>n a m),j,λo p d f g=>(k o p d f g).fr b l⟩
theorem FormsL.fr0 {R:Nat->Prop}{w a:World}{v:Value}{FL:List (List PL)}(b:FormsL R w v FL)(c:Fr NoM w a):FormsL R a v FL:=b.fr c kP kP
theorem yf8 {R:Nat->Prop}{w:World}{b:Value}{c:List PL}{a:Nat}(k:a=w.heap.size)(i:NodeL R encN w b c):FormsL R (w.alloc (.cells #[b] 26)) (.slice (some ⟨a,0,none⟩) 1 1) [c]:=by subst k;refine⟨[b],SliceOf.one encV w b 26,rfl,λe l f d j=>?_⟩;cases e with| zero =>{(have g:b=l:=by simpa using d);(have h:c=f:=by simpa using j);subst g;subst h;exact i.fr0 ((nW w).alloc _)}| succ e=>simp at d
theorem you {R:Nat->Prop}{w:World}{f e:Value}{g h:List PL}{a:Nat}(p:a=w.heap.size)(n:NodeL R encN w f g)(o:NodeL R encN w e h):FormsL R (w.alloc (.cells #[f,e] 26)) (.slice (some ⟨a,0,none⟩) 2 2) [g,h]:=by subst p;have q:(w.alloc (.cells #[f,e] 26)).heap[w.heap.size]?=some (.cells #[f,e] 26 (0,0)):=xJ w _;refine⟨[f,e],⟨_,2,rfl,by simp,by decide,λj l c=>⟨w.heap.size,0,rfl,?_⟩⟩,rfl,λj l m b d=>?_⟩;{rw[Nat.zero_add,xX _ _ _ _ _ _ q];match j,c with| 0,c=>exact c| 1,c=>exact c| j+2,c=>simp at c};{match j,b,d with| 0,b,d =>{(have i:f=l:=by simpa using b);(have k:g=m:=by simpa using d);subst i;subst k;exact n.fr0 ((nW w).alloc _)}| 1,b,d =>{(have i:e=l:=by simpa using b);(have k:h=m:=by simpa using d);subst i;subst k;exact o.fr0 ((nW w).alloc _)}| j+2,b,d=>simp at b}
section
variable {D:Nat}{W W':World}{b:Nat}{nv:Value}{U U':List Nat}{Fm:List PL}
end
section
variable {m:Nat}{W W':World}{b n:Nat}{cur:Array Value}{Z Z':Nat->Prop}
end
theorem yh5 (v:Value)(A:List Int)(w:World)(b:Ints w v A)(f:A.length<1000000) : Calls Tryz.prog 101 #[v] w λa h=>∃g,a=.returned g/\h.ownsRow w.heap.size 3 1 g A.length (A.map encI)/\Fr NoM w h:=by obtain⟨m,n,rfl,s⟩:=id b;have j:=Hh b;have k:=Hh f;clear s b f;go_enter Tryz.func101,Tryz.ntmps101;go_wp2_with (at_builtin;refine zae (enc:=encI) _ rfl (.tmp 3) (.tmp 4) 82 rfl w.heap.size 3 (.int .i64 0) 8 Tryz.underlying82 zaa rfl (.slice (some ⟨w.heap.size,0,none⟩) 0 0) 0 [] rfl (yW w #[] 0 (xW _) (by decide) (by simp)) (.slice m A.length n) rfl A (j.o.fr0 ((nW w).alloc _)) (λ_=>rfl) (by have:=k.o;omega) (by decide) (by rw[xZ];omega) ?_);intro q r d c p;have e:Fr NoM w r:=((nW w).alloc _).trans c (λo t a=>by have a:w.heap.size=o:=yY a;omega);have l:=Hh d;have i:=Hh e;clear d c p e;go_wp2;go_ret;exact⟨q,rfl,l.o,i.o⟩
def zfd (k:Nat):List PL:=(List.range k).map λa=>(List.range a,List.range a)
theorem zgc (k:Nat):(zfd k).length=k:=by unfold zfd;rw[uK,uV]
theorem zth {k j:Nat}(a:j<k):(zfd k)[j]?=some (List.range j,List.range j):=by unfold zfd;rw[vY,List.getElem?_range a];rfl
structure StarS (B fb k:Nat) (W:World) (fv lv:Value) (NV:List (Value × Value)):Prop where
 box:W.heap[fb]?=some (.cells #[fv] 26 (0,0))
 rowN:W.ownsRow B 85 2 fv k (zau NV)
 len:NV.length=k
 rowL:W.ownsRow B 3 1 lv k ((List.range k).map encN)
 fine:∀(j:Nat) (x:Value × Value),NV[j]?=some x->(Nats W x.1 (List.range j)/\Nats W x.2 (List.range j))/\(∀q,x.1.ownBlock=some q\/x.2.ownBlock=some q->B<=q/\q<W.heap.size/\fv.ownBlock≠some q/\lv.ownBlock≠some q/\q≠fb)
 f1:∀q,fv.ownBlock=some q->lv.ownBlock≠some q/\q≠fb
 f2:∀q,lv.ownBlock=some q->q≠fb
 low:B<=fb
section
variable {B fb k:Nat}{W W':World}{fv lv:Value}{NV:List (Value × Value)}{M:Nat->Prop}
theorem StarS.nodeL {D:Nat}(a:StarS B fb k W fv lv NV)(y:D<=B):NodeL (λb=>D<=b) encN W fv (zfd k):=by(obtain⟨o,p,g,s,t,u⟩:=Pairs.of_owns a.rowN;refine⟨o,p,by rw[zgc,<-a.len];exact g,by rw[zgc,<-a.len];exact s,t,λc A e=>?_⟩;have j:c<k:=by have:=(xV.1 e).1;rw[zgc]at this;exact this);rw[zth j]at e;cases e;have m:=xQ (l:=NV) (i:=c) (by rw[a.len];exact j);obtain⟨b,x,h,q,r⟩:=u c _ m;obtain⟨⟨v,w⟩,n⟩:=a.fine c _ m;have z:=(a.rowN.lt b (by rw[g,h];rfl)).1;exact⟨b,x,_,_,h,by omega,q,r,v,w,λ_ f d=>by have:=(n f (.inl d)).1;omega,λ_ f d=>by have:=(n f (.inr d)).1;omega⟩
theorem StarS.start (w:World):StarS (w.heap.size+1) (w.heap.size+2) 0 ((((w.alloc (.cells #[.slice none 0 0] 26)).alloc (.cells #[] 85)).alloc (.cells #[.slice (some ⟨w.heap.size+1,0,none⟩) 0 0] 26)).alloc (.cells #[] 3)) (.slice (some ⟨w.heap.size+1,0,none⟩) 0 0) (.slice (some ⟨w.heap.size+3,0,none⟩) 0 0) []:=by(obtain⟨g,m⟩:=eX (w.alloc (.cells #[.slice none 0 0] 26));have k:g.heap.size=w.heap.size+1:=by rw[m];simp);(obtain⟨c,i⟩:=eX (g.alloc (.cells #[] 85));have l:c.heap.size=w.heap.size+2:=by rw[i,xZ,k]);(obtain⟨b,d⟩:=eX (c.alloc (.cells #[.slice (some ⟨w.heap.size+1,0,none⟩) 0 0] 26));have q:b.heap.size=w.heap.size+3:=by rw[d,xZ,l]);rw[<-m,<-i,<-d];have t:c.ownsRow (w.heap.size+1) 85 2 (.slice (some ⟨w.heap.size+1,0,none⟩) 0 0) 0 (zau []):=by{have a:=yW (base:=g.heap.size) (e:=85) (size:=2) g #[] 0 (xW _) (by decide) (by simp);rw[<-i,k]at a;exact a};have s:(b.alloc (.cells #[] 3)).ownsRow (w.heap.size+1) 3 1 (.slice (some ⟨w.heap.size+3,0,none⟩) 0 0) 0 []:=by{have a:=yW (base:=b.heap.size) (e:=3) (size:=1) b #[] 0 (xW _) (by decide) (by simp);rw[q]at a;exact zb6 a (by omega)};(have p:Fr NoM c b:=by rw[d];exact(nW c).alloc _);have o:b.heap[w.heap.size+2]?=some (.cells #[.slice (some ⟨w.heap.size+1,0,none⟩) 0 0] 26 (0,0)):=by{have a:=xJ c (.cells #[.slice (some ⟨w.heap.size+1,0,none⟩) 0 0] 26);rw[l,<-d]at a;exact a};refine⟨((nW b).alloc _).heap o id,za3 (za3 t p kP) ((nW b).alloc _) kP,rfl,s,λu v r=>by simp at r,λf h=>?_,λf h=>?_,Nat.le_succ _⟩;{have n:w.heap.size+1=f:=yY h;refine⟨λj=>?_,by omega⟩;have j:w.heap.size+3=f:=yY j;omega};{have n:w.heap.size+3=f:=yY h;omega}
theorem StarS.next {g m p x q:World}{j l h o:Value}(e:StarS B fb k W fv lv NV)(t:Fr NoM W g)(n1:Nats g j (List.range k))(n2:Nats g l (List.range k))(N:∀a,j.ownBlock=some a\/l.ownBlock=some a->W.heap.size<=a/\a<g.heap.size)
  (Q:m.ownsRow B 85 2 h (k+1) (zau NV ++ [j,l])) (F:Fr (Own1 fv) g m) (S:h.ownBlock=fv.ownBlock\/∃f,h.ownBlock=some f/\g.heap.size<=f)
  (P:p=m.setCell ⟨fb,0,none⟩ h) (u:Fr NoM p x) (o2:q.ownsRow B 3 1 o (k+1) ((List.range k).map encN ++ [encN k])) (s:Fr (Own1 lv) x q) (J:o.ownBlock=lv.ownBlock\/∃f,o.ownBlock=some f/\x.heap.size<=f) :
  StarS B fb (k+1) q h o (NV ++ [(j,l)]):=by
 have a0:¬Own1 fv fb:=λb=>(e.f1 fb b).2 rfl
 have a1:¬Own1 lv fb:=λb=>e.f2 fb b rfl
 have V:m.heap[fb]?=some (.cells #[fv] 26 (0,0)):=F.heap (t.heap e.box id) a0;have a3:fb<W.heap.size:=(yZ.1 e.box).1;have E:Fr (λa=>a=fb) m p:=by rw[P];exact Fr.setCell (M:=λa=>a=fb) (Fr.refl _ m) _ _ (λ_=>rfl)
 have X:p.heap[fb]?=some (.cells #[h] 26 (0,0)):=by rw[P,heap_set V];rfl
 have z1:=t.size;have z2:=F.size;have z3:=E.size;have z4:=u.size;have z5:=s.size;have r:∀a,h.ownBlock=some a->lv.ownBlock≠some a/\a≠fb:=λa c=>by
  rcases S with d|⟨f,d,i⟩
  ·exact e.f1 a (by rw[<-d];exact c)
  ·rw[c]at d;cases d
   exact⟨λb=>by have:=(e.rowL.lt a b).2;omega,by omega⟩
 have w:∀ {K:Value}{L:List Nat},Nats g K L->(∀a,K.ownBlock=some a->fv.ownBlock≠some a/\lv.ownBlock≠some a/\a≠fb)->Nats q K L:=λv c =>
  (((v.fr F (λ_ a b D=>(c a b).1 D)).fr E (λ_ a b=>(c a b).2.2)).fr0 u).fr s (λ_ a b D=>(c a b).2.1 D)
 have I:∀a,j.ownBlock=some a\/l.ownBlock=some a->fv.ownBlock≠some a/\lv.ownBlock≠some a/\a≠fb:=λa c=>by
  have i:=N a c;exact⟨λb=>by have:=(e.rowN.lt a b).2;omega,λb=>by have:=(e.rowL.lt a b).2;omega,by omega⟩
 have R:∀a,a<g.heap.size->(fv.ownBlock≠some a/\lv.ownBlock≠some a)->h.ownBlock≠some a/\o.ownBlock≠some a:=λa c v=>by
  constructor
  ·intro b
   rcases S with d|⟨f,d,i⟩
   ·exact v.1 (by rw[<-d];exact b)
   ·rw[b]at d;cases d;omega
  ·intro b
   rcases J with d|⟨f,d,i⟩
   ·exact v.2 (by rw[<-d];exact b)
   ·rw[b]at d;cases d;omega
 refine⟨s.heap (u.heap X id) a1,?_,by rw[yX,e.len];rfl,?_,λG a2 n=>?_,λa c=>⟨λb=>?_,(r a c).2⟩,λa c=>?_,e.low⟩
 ·have b:zau (NV ++ [(j,l)])=zau NV ++ [j,l]:=by simp[zau]
  rw[b];exact za3 (za3 (za3 Q E (λa c=>(r a c).2)) u kP) s (λa c b=>(r a c).1 b)
 ·rw[List.range_succ,vZ]
  exact o2
 ·by_cases Y:G<k
  ·rw[yV (by rw[e.len];exact Y)]at n
   obtain⟨⟨m1,m2⟩,H⟩:=e.fine G a2 n;refine⟨⟨w (m1.fr0 t) (λa b=>(H a (.inl b)).2.2),w (m2.fr0 t) (λa b=>(H a (.inr b)).2.2)⟩,λa c=>?_⟩;obtain⟨y,O,z,T,U⟩:=H a c;obtain⟨A,C⟩:=R a (by omega) ⟨z,T⟩;exact⟨y,by omega,A,C,U⟩
  ·have Z:G=k:=by
    have:=(xV.1 n).1;rw[yX,e.len]at this
    simp at this
    omega
   subst Z;rw[kK (by rw[e.len];exact xW _),e.len,Nat.sub_self]at n;cases n
   refine⟨⟨w n1 (λa b=>I a (.inl b)),w n2 (λa b=>I a (.inr b))⟩,λa c=>?_⟩;obtain⟨y,O,z⟩:=I a c;have i:=N a c;obtain⟨A,C⟩:=R a i.2 ⟨y,O⟩;have:=e.low;exact⟨by omega,by omega,A,C,z⟩
 ·rcases J with d|⟨f,d,i⟩
  ·exact(r a c).1 (by rw[<-d];exact b)
  ·rw[b]at d;cases d
   have:=(Q.lt a c).2;omega
 ·rcases J with d|⟨f,d,i⟩
  ·exact e.f2 a (by rw[<-d];exact c)
  ·rw[c]at d;cases d;omega
end
theorem zzr {L:List Nat}:(ints L).map encI=L.map encN:=by unfold ints;rw[List.map_map];rfl
theorem zrm (n:Nat)(hn:n<=1000)(w:World):Calls Tryz.prog 98 #[.int .i64 (n:Int)] w λe w'=>∃v',e=.returned (.agg #[v'])/\NodeL (λY=>w.heap.size<=Y) encN w' v' (zfd (n+1))/\Fr NoM w w':=by
 obtain⟨l,A⟩:=eX (w.alloc (.cells #[.slice none 0 0] 26));have f1:Fr NoM w l:=by rw[A];exact(nW w).alloc _
 have e1:l.heap[w.heap.size]?=some (.cells #[.slice none 0 0] 26 (0,0)):=by rw[A];exact xJ w _
 have aw:=Hh (λg (B:Fr NoM l g)=>show g.cell? ⟨w.heap.size,0,none⟩=some (.slice none 0 0)/\g.frozen? ⟨w.heap.size,0,none⟩=false from by
  have r:=B.heap e1 id;exact⟨qR r rfl,fZ r⟩)
 have Q:=StarS.start w;rw[<-A]at Q;obtain⟨w4,R⟩:=eX (((l.alloc (.cells #[] 85)).alloc (.cells #[.slice (some ⟨w.heap.size+1,0,none⟩) 0 0] 26)).alloc (.cells #[] 3));rw[<-R]at Q;have f4:Fr NoM l w4:=by rw[R];exact(((nW l).alloc _).alloc _).alloc _
 have aB:l.heap.size=w.heap.size+1:=by rw[A];simp
 obtain⟨a8,F4,F1,L⟩:=Hhp4 Q f4 f1 aB;obtain⟨h,P⟩:=eX (w.heap.size+2);rw[<-P]at a8;have ay:=Hh P;clear f1 e1 Q f4;go_enter Tryz.func98,Tryz.ntmps98;go_upto_region 3 with fail;rw[<-A,show w.heap.size+1+1+1=w.heap.size+3 from rfl,show w.heap.size+1+1=h from P.symm,<-R];clear A R P;go_wp2_with fail;go_loopw [4,5] (λv4 v5 g=>∃(a:Nat) (fv S:Value) (X:List (Value × Value)),S=v4/\v5=.int .i64 (a:Int)/\a<=n+1/\StarS (w.heap.size+1) h a g fv S X/\Fr NoM l g) (λ_ v5 _=>n+1-(intOf v5).toNat)
 case atStart=>exact⟨0,_,_,_,rfl,rfl,yK _,a8.o,F4.o⟩
 case round =>
  obtain⟨a,fv,S,X,rfl,rfl,hk,k,z⟩:=hrel;obtain⟨c,rfl⟩:=eX wr;obtain⟨o,p,af,_,_,_⟩:=Pairs.of_owns k.rowN;rw[k.len]at af;subst af;have G:Nats c S (List.range a):=SliceOf.of_owns k.rowL rfl;obtain⟨la,lc,ah,_,_,_⟩:=id G;rw[uV]at ah;subst ah;have c0:c.cell? ⟨h,0,none⟩=some (.slice o a p):=by rw[xX c _ 0 _ _ _ k.box];rfl
  by_cases ag:a<=n
  ·have W:=Hh (λg (B:Fr NoM c g)=>B.cell c0 id)
   obtain⟨a6,m,HF,a5⟩:=Hhp4 (λg (B:Fr NoM c g)=>yh5 (.slice la a lc) (ints (List.range a)) g (SliceOf.conv (enc':=encI) (f:=λaG:Nat=>(aG:Int)) (G.fr0 B) (λ_=>rfl)) (by unfold ints;rw[uK,uV];omega)) k z (show ∃Z,n=a+Z from⟨n-a,by omega⟩);have V:Fr NoM c c.drew:=(nW c).drew;have aL:(a:Int)<=(n:Int):=by omega
   obtain⟨ao,an,a9⟩:=Hhp3 (show(a+1)*48<=140737488355328 by omega) (show(a+1)*8<=140737488355328 by omega) (show w.heap.size+1<=c.heap.size by have r:=z.size;have F:=L.o;omega);have aI:a<=1000:=by omega
   clear k z G ag hk;go_upto_region 6 with fail;go_region_law (first
    | (refine zof rfl (.tmp 15) (.tmp 21) 24 rfl (w.heap.size+1) 85 _ 2 48 Tryz.underlying24 zcc rfl (by decide) (.slice o a p) a (zau X) rfl (by exact za3 m.o.rowN (q.alloc _) kP) i.heap.size rfl [.slice t a x,.slice u a y] 85 (by exact xJ i _) rfl (by intro aE H;simp at H;rcases H with rfl|rfl <;> rfl) (by exact ao.o) (by decide) (by have r:=q.size;have F:=a9.o;rw[xZ];omega) ?_;intro v9 s h9 C s9;have a3:=C.heap ((q.alloc _).heap m.o.box id) (λe=>(m.o.f1 h e).2 rfl);have zf:s.frozen? ⟨h,0,none⟩=false:=(fZ a3);have zc:s.cell? ⟨h,0,none⟩=some (.slice o a p):=(qR a3 rfl);obtain⟨g9,k9,aC,_,_⟩:=zd5 h9 (Nat.succ_pos _);subst aC)
    | (go_simp;first
     | (go_at_call 101;(with_reducible refine(a6.o _ E).mono ?_);rintro e i ⟨vb,rfl,U,N⟩;have q:Fr NoM c i:=Fr.trans E N kP;have n2:Nats i vb (List.range a):=SliceOf.of_owns (by rw[zzr]at U;exact U) rfl;have b2:∀b,vb.ownBlock=some b->J.heap.size<=b/\b<i.heap.size:=U.lt;obtain⟨u,y,aj,_⟩:=id n2;rw[uV]at aj;subst aj;have cb:=W.o i q;have az:=λak=>W.o (i.alloc ak) (q.alloc ak);have I:=I.fr0 N)
     | (go_at_call 101;(with_reducible refine(a6.o _ V).mono ?_);rintro e J ⟨va,rfl,T,ab⟩;have E:Fr NoM c J:=Fr.trans V ab kP;have I:Nats J va (List.range a):=SliceOf.of_owns (by rw[zzr]at T;exact T) rfl;have b1:∀b,va.ownBlock=some b->c.heap.size<=b/\b<J.heap.size:=T.lt;obtain⟨t,x,ai,_⟩:=id I;rw[uV]at ai;subst ai;have ca:=W.o J E)
     | fail)
    | fail)
   all_goals
    have aq:=Hh (SliceOf.fr0 I ((nW i).alloc (.cells #[.slice t a x,.slice u a y] 85)));have ar:=Hh (SliceOf.fr0 n2 ((nW i).alloc (.cells #[.slice t a x,.slice u a y] 85)));have am:=Hh (show ∀b,(Value.slice t a x).ownBlock=some b\/(Value.slice u a y).ownBlock=some b->c.heap.size<=b/\b<(i.alloc (.cells #[.slice t a x,.slice u a y] 85)).heap.size from λb d=>by
     have z1:=E.size;have z2:=q.size;have z3:=N.size;rw[xZ];rcases d with d|d
     ·have:=b1 b d;omega
     ·have:=b2 b d;omega)
    obtain⟨H9,F9,S9,K⟩:=Hhp4 h9 C s9 (show Fr NoM c (i.alloc (.cells #[.slice t a x,.slice u a y] 85))from q.alloc _);obtain⟨j,O⟩:=eX (s.setCell ⟨h,0,none⟩ (.slice (some ⟨g9,0,none⟩) (a+1) k9));have a4:Fr (λb=>b=h) s j:=by rw[O];exact Fr.setCell (M:=λb=>b=h) (Fr.refl _ s) _ _ (λ_=>rfl)
    obtain⟨a7,aa,ax⟩:=Hhp3 (show j.ownsRow (w.heap.size+1) 3 1 (.slice la a lc) a ((List.range a).map encN)from za3 (za3 (za3 m.o.rowL K.o kP) C (λb d e=>(m.o.f1 b e).1 d)) a4 (λb d e=>m.o.f2 b d e)) O (show w.heap.size+1<=j.heap.size by have r:=K.o.size;have F:=C.size;have h3:=a4.size;have h4:=a9.o;omega);rw[<-O];clear O a4 I n2 b1 b2 h9 C s9 E q N ca cb az zf zc a3 T U ab c0 V;go_wp2_with (at_builtin;refine zca rfl _ _ 82 rfl (w.heap.size+1) 3 _ 1 8 Tryz.underlying82 zaa rfl (by decide) (.slice la a lc) a ((List.range a).map encN) rfl (by exact za3 a7.o ((nW j).alloc _) kP) j.heap.size rfl [.int .i64 (a:Int)] 3 (xJ j _) rfl (by intro aE H;simp at H;subst H;rfl) an.o (by decide) (by have:=ax.o;simp;omega) ?_);intro aD aF ae a0 al;have av:=Hh (m.o.next K.o aq.o ar.o am.o H9.o F9.o S9.o aa.o ((nW j).alloc (.cells #[.int .i64 (a:Int)] 3)) ae a0 (by rw[xZ];exact al));have ap:=Hh (show Fr NoM l aF from by
     have k1:=HF.o.trans K.o kP;have k2:=k1.trans F9.o (λb d e=>by have r:=(m.o.rowN.lt b e).1;have F:=L.o;omega);have k3:=k2.trans (show Fr (λb=>b=h) s j by rw[aa.o];exact Fr.setCell (M:=λb=>b=h) (Fr.refl _ s) _ _ (λ_=>rfl)) (λb d e=>by have r:=ay.o;have F:=L.o;omega);exact(k3.trans ((nW j).alloc (.cells #[.int .i64 (a:Int)] 3)) kP).trans a0 (λb d e=>by have r:=(a7.o.lt b e).1;have F:=L.o;omega))
    clear ae a0 al;go_wp2;go_roundw
    case rel =>
     obtain⟨Z,hd⟩:=a5.o;exact⟨a+1,_,aD,_,rfl,by go_num,by omega,av.o,ap.o⟩
    case measure=>obtain⟨Z,hd⟩:=a5.o;simp[intOf];omega
  ·have aA:a=n+1:=by omega
   subst aA;obtain⟨r0,r1⟩:=aw.o c z;have G:=k.nodeL (D:=w.heap.size) (by omega);have ac:Fr (λb=>b=w.heap.size) c (c.setCell ⟨w.heap.size,0,none⟩ (.slice o (n+1) p)):=Fr.setCell (M:=λb=>b=w.heap.size) (Fr.refl _ c) _ _ (λ_=>rfl);have au:=Hh (show NodeL (λY=>w.heap.size<=Y) encN (c.setCell ⟨w.heap.size,0,none⟩ (.slice o (n+1) p)) (.slice o (n+1) p) (zfd (n+1))from((k.nodeL (D:=w.heap.size+1) (xW _)).fr ac (λb d e=>by have e:b=w.heap.size:=e;have d:w.heap.size+1<=b:=d;omega)).mono (λb d=>by have d:w.heap.size+1<=b:=d;show w.heap.size<=b;omega));have HM:=Hh (show Fr NoM w (c.setCell ⟨w.heap.size,0,none⟩ (.slice o (n+1) p))from(F1.o.trans z kP).setCell _ _ (λad=>by have ad:w.heap.size<w.heap.size:=ad;omega));have aL:¬(((n+1:Nat):Int)<=(n:Int)):=by omega
   have aH:¬(((n:Int)+1)<=(n:Int)):=by omega
   clear k z G ac ag hk;go_wp2_with fail;refine yJ (v:=.agg #[.slice o (n+1) p]) (by simp[results,Tryz.results98,go_sem,r0,r1]) rfl ?_
   exact⟨_,rfl,au.o,HM.o⟩
