import Derived.Laws.IdiomStrings
import Derived.Test.YtlapkmhemepcaaaGreatDoorZi3
/- Lemmas. -/
set_option linter.all false
set_option maxHeartbeats 8000000
set_option maxRecDepth 4000
namespace Go.Proofs.YtlapkmhemepcaaaGreatDoor
open Go.RowKit
def encS (l:List UInt8):Value:=.string ⟨l.toArray⟩
theorem ygb {a b:List UInt8}(c:encS a=encS b):a=b:=by unfold encS at c;simpa using c
theorem zxx {P:Program}{a:TypeId}(b:P.underlying a=some .string):KeyAt P a encS:=.plain b (λ_=>by simp[encS,MapKept.IsKey]) ygb
def zmc (V:List PL)(k:List UInt8):Option Nat:=V.findIdx? λa=>decide (keyS a=k)
theorem zoe (V:List PL)(x:PL):zmc V (keyS x)=if x∈V then some (V.idxOf x)else none:=by unfold zmc;induction V with| nil=>rfl| cons b g f =>{rw[List.findIdx?_cons,f];by_cases a:b=x;{subst a;simp};{have e:¬keyS b=keyS x:=λc=>a (yft _ _ c);have d:¬x=b:=λc=>a c.symm;rw[vY e];simp only[Bool.false_eq_true,if_false,kK,d,false_or];split;{rw[List.idxOf_cons,show(b == x)=false from by simpa using a];rfl};{rfl}}}
theorem zpi (V:List PL)(x:PL)(b:x ∉ V):zmc (V ++ [x])=upd (zmc V) (keyS x) V.length:=by funext k;unfold upd;by_cases a:k=keyS x;{subst a;rw[if_pos rfl,zoe,if_pos (by simp),List.idxOf_append,if_neg b];simp};{rw[if_neg a];unfold zmc;rw[List.findIdx?_append];have:List.findIdx? (λx=>decide (keyS x=k)) [x]=none:=by{rw[List.findIdx?_cons,vY (λb=>a b.symm)];rfl};rw[this];simp}
structure PoolAt (w:World) (pb:Nat) (V:List PL) (BV:List Nat) (lv rv bv:Value) (fb:Nat) (mo mc ms mn:Value) (LS RS:List Value):Prop where
 blk:w.heap[pb]?=some (.cells #[lv,rv,bv,.map (some fb),mo,mc,ms,mn] 113 (0,0))
 left:w.ownsRow 0 100 1 lv LS.length LS
 right:w.ownsRow 0 100 1 rv RS.length RS
 born:w.ownsRow 0 3 1 bv BV.length (BV.map encN)
 lenL:LS.length=V.length
 lenR:RS.length=V.length
 lenB:BV.length=V.length
 find:MapF encS encN w fb (zmc V)
def PoolS (M I:Nat->Prop) (w:World) (pb:Nat) (V:List PL) (BV:List Nat) (m k n l:Value):Prop :=
  ∃ g h e d i j, PoolAt w pb V BV g h e d m k n l i j ∧
    (∀ (f:Nat) (b:Value) (c:PL),i[f]?=some b->V[f]?=some c->Nats w b c.1/\(c.1≠[]->∀ a,b.ownBlock=some a->I a)) ∧
    (∀ (f:Nat) (b:Value) (c:PL),j[f]?=some b->V[f]?=some c->Nats w b c.2/\(c.2≠[]->∀ a,b.ownBlock=some a->I a)) ∧
    M pb/\M d/\(∀ a,g.ownBlock=some a->M a)/\(∀ a,h.ownBlock=some a->M a)/\(∀ a,e.ownBlock=some a->M a)/\(∀ a,M a->¬ I a) ∧
    pb≠d/\(∀ a,g.ownBlock=some a->a≠pb/\a≠d)/\(∀ a,h.ownBlock=some a->a≠pb/\a≠d)/\(∀ a,e.ownBlock=some a->a≠pb/\a≠d) ∧
    (∀ a,g.ownBlock=some a->h.ownBlock=some a->False)/\(∀ a,g.ownBlock=some a->e.ownBlock=some a->False)/\(∀ a,h.ownBlock=some a->e.ownBlock=some a->False)
section
variable {M I X:Nat->Prop}{w w':World}{pb:Nat}{V:List PL}{BV:List Nat}{mo mc ms mn:Value}
theorem PoolS.fr (y:PoolS M I w pb V BV mo mc ms mn)(d:Fr X w w')(e:∀a,M a->¬X a)(n:∀a,I a->¬X a):PoolS M I w' pb V BV mo mc ms mn:=by obtain⟨C,D,v,x,t,u,c,z,A,o,p,q,r,s,B⟩:=y;refine⟨C,D,v,x,t,u,⟨d.heap c.blk (e _ o),za1 c.left d (λa b=>e a (q a b)),za1 c.right d (λa b=>e a (r a b)),za1 c.born d (λa b=>e a (s a b)),c.lenL,c.lenR,c.lenB,c.find.fr d (e _ p)⟩,?_,?_,o,p,q,r,s,B⟩;{intro j l m h i;obtain⟨k,f⟩:=z j l m h i;exact⟨k.fr d (λg a b=>n a (f g a b)),f⟩};{intro j l m h i;obtain⟨k,f⟩:=A j l m h i;exact⟨k.fr d (λg a b=>n a (f g a b)),f⟩}
theorem PoolS.fr0 (a:PoolS M I w pb V BV mo mc ms mn)(b:Fr NoM w w'):PoolS M I w' pb V BV mo mc ms mn:=a.fr b kP kP
end
theorem zdz (w:World):Calls Tryz.prog 56 #[] w λq g=>q=.returned (.pointer (some ⟨w.heap.size+5,0,none⟩)) ∧ PoolS (λd=>d=w.heap.size\/d=w.heap.size+5) NoM g (w.heap.size+5) [] [] (.map (some (w.heap.size+1))) (.map (some (w.heap.size+2))) (.map (some (w.heap.size+3))) (.map (some (w.heap.size+4))) ∧ (∀a,a<5->g.heap[w.heap.size+a]?=some (.map #[] 0))/\Fr NoM w g:=by have v:∀(f:TypeId) (w:World),(Instr.makeMap f none).run Tryz.prog w=.ok (.map (some w.heap.size)) (w.alloc (.map #[] 0)):=λf w=>run_makeMap f w;(go_enter Tryz.func56,Tryz.ntmps56;go_wp2;go_ret;obtain⟨b,c⟩:=eX (((((w.alloc (.map #[] 0)).alloc (.map #[] 0)).alloc (.map #[] 0)).alloc (.map #[] 0)).alloc (.map #[] 0));have t:b.heap.size=w.heap.size+5:=by rw[c];simp);have j:∀a,a<5->b.heap[w.heap.size+a]?=some (.map #[] 0):=by{intro a e;rw[c];have k:=xJ w (.map #[] 0);have l:=xJ (w.alloc (.map #[] 0)) (.map #[] 0);have m:=xJ ((w.alloc (.map #[] 0)).alloc (.map #[] 0)) (.map #[] 0);have o:=xJ (((w.alloc (.map #[] 0)).alloc (.map #[] 0)).alloc (.map #[] 0)) (.map #[] 0);have p:=xJ ((((w.alloc (.map #[] 0)).alloc (.map #[] 0)).alloc (.map #[] 0)).alloc (.map #[] 0)) (.map #[] 0);simp only[xZ,Nat.add_assoc]at k l m o p;match a,e with| 0,_=>exact((((nW _).alloc _).alloc _).alloc _ |>.alloc _).heap k id| 1,_=>exact(((nW _).alloc _).alloc _ |>.alloc _).heap l id| 2,_=>exact(((nW _).alloc _).alloc _).heap m id| 3,_=>exact((nW _).alloc _).heap o id| 4,_=>exact p| n+5,h=>omega};(have r:Fr NoM w b:=by rw[c];exact(((((nW w).alloc _).alloc _).alloc _).alloc _).alloc _);rw[<-c];have i:=xJ b (.cells #[.slice none 0 0,.slice none 0 0,.slice none 0 0,.map (some w.heap.size),.map (some (w.heap.size+1)),.map (some (w.heap.size+2)),.map (some (w.heap.size+3)),.map (some (w.heap.size+4))] 113);rw[t]at i;have s:=(Fr.alloc (nW b) (.cells #[.slice none 0 0,.slice none 0 0,.slice none 0 0,.map (some w.heap.size),.map (some (w.heap.size+1)),.map (some (w.heap.size+2)),.map (some (w.heap.size+3)),.map (some (w.heap.size+4))] 113)).heap (j 0 (by decide)) id;refine⟨rfl,⟨.slice none 0 0,.slice none 0 0,.slice none 0 0,w.heap.size,[],[],⟨i,World.ownsRow_nil _ _ _ _,World.ownsRow_nil _ _ _ _,World.ownsRow_nil _ _ _ _,rfl,rfl,rfl,?_⟩,by simp,by simp,.inr rfl,.inl rfl,by simp[Value.ownBlock],by simp[Value.ownBlock],by simp[Value.ownBlock],λ_ _ d=>d,by omega,by simp[Value.ownBlock],by simp[Value.ownBlock],by simp[Value.ownBlock],by simp[Value.ownBlock],by simp[Value.ownBlock],by simp[Value.ownBlock]⟩,λa e=>(Fr.alloc (nW b) _).heap (j a e) id,r.alloc _⟩;exact⟨#[],0,s,by simp,by simp,λx u h=>by simp[zmc]at h⟩
theorem zxz:(Tryz.prog.info? 100).map (λa=>(a.zero,a.size,a.bytes))=some (some (.slice none 0 0),1,24):=by kernel_rfl
theorem zna {w:World}{base n:Nat}{v:Value}{l:List UInt8}(f:w.ownsRow base 5 1 v n (l.map encU))(i:n=l.length)(j:v.ownBlock≠none):(convert 22 9 v).run Tryz.prog w=.ok (encS l) w:=by subst i;rcases f.2 with ⟨rfl,m⟩|⟨b,d,c,rfl,o,g,q,p,r,k⟩;{exact absurd rfl j};{refine run_convert_bytes_back w _ _ 5 ⟨b,0,none⟩ d l Tryz.underlying22 Tryz.underlying5 Tryz.underlying9 λa h=>?_;(have:(c.toList.take (l.length*1))[a]?=some (encU l[a]):=by rw[k,vZ,xQ h];rfl);rw[List.getElem?_take,if_pos (by omega)]at this;(have e:(⟨b,0,none⟩:Addr).add a=⟨b,a,none⟩:=by unfold Addr.add;split <;> simp_all);rw[e,xX w b a c _ _ g];simpa [encU] using this}
theorem ze9 (l:List Nat)(c:∀b∈l,b<1000000000):(keyL l).length<=13*l.length:=by induction l with| nil=>simp[keyL]| cons a d g =>{(have h:=g (λb f=>c b (uX _ f));have i:=zmf 12 a (by decide) (by have:=c a kW;omega);have e:keyL (a::d)=d36 a ++ [44]++keyL d:=by simp[keyL]);rw[e];simp;omega}
theorem zg8 {w b:World}{pb i:Nat}{d:Array Value}{e:TypeId}{v u:Value}(h:w.heap[pb]?=some (.cells d e (0,0)))(g:Fr (Own1 v) w b)(j:v.ownBlock≠some pb) : (∀a,b.cell? ⟨pb,a,none⟩=d[a]?)/\(∀a,b.frozen? ⟨pb,a,none⟩=false)/\(b.setCell ⟨pb,i,none⟩ u).heap[pb]?=some (.cells (d.setIfInBounds i u) e (0,0))/\Fr (λc=>v.ownBlock=some c\/c=pb) w (b.setCell ⟨pb,i,none⟩ u):=by have f:=g.heap h j;refine⟨λa=>by rw[xX b pb a _ _ _ f],λa=>by simp[World.frozen?,f],by rw[heap_set f],?_⟩;exact(g.mono (λ_ _ c=>.inl c)).setCell _ _ (λ_=>.inr rfl)
theorem PoolAt.fr0 {w m:World}{pb:Nat}{V:List PL}{BV:List Nat}{g l e:Value}{f:Nat}{j h k i:Value}{c d:List Value}(a:PoolAt w pb V BV g l e f j h k i c d)(b:Fr NoM w m):PoolAt m pb V BV g l e f j h k i c d :=
 ⟨b.heap a.blk id,za1 a.left b kP,za1 a.right b kP,za1 a.born b kP,a.lenL,a.lenR,a.lenB,a.find.fr b id⟩
theorem zz6 {M I:Nat->Prop}{w wr w6 w8 a9 B:World}{pb j H p1 J p2 bn:Nat}{V:List PL}{BV l r:List Nat}{q s p S T R mo mc ms mn:Value}{x y:List Value}
  (k:PoolAt w pb V BV q s p j mo mc ms mn x y) (a1:Fr NoM w wr)
  (ar:∀(f:Nat) (g:Value) (o:PL),x[f]?=some g->V[f]?=some o->Nats w g o.1/\(o.1≠[]->∀a,g.ownBlock=some a->I a))
  (au:∀(f:Nat) (g:Value) (o:PL),y[f]?=some g->V[f]?=some o->Nats w g o.2/\(o.2≠[]->∀a,g.ownBlock=some a->I a))
  (av:M pb/\M j/\(∀a,q.ownBlock=some a->M a)/\(∀a,s.ownBlock=some a->M a)/\(∀a,p.ownBlock=some a->M a)/\(∀a,M a->¬I a))
  (ap:pb≠j/\(∀a,q.ownBlock=some a->a≠pb/\a≠j)/\(∀a,s.ownBlock=some a->a≠pb/\a≠j)/\(∀a,p.ownBlock=some a->a≠pb/\a≠j) ∧
   (∀a,q.ownBlock=some a->s.ownBlock=some a->False)/\(∀a,q.ownBlock=some a->p.ownBlock=some a->False)/\(∀a,s.ownBlock=some a->p.ownBlock=some a->False))
  (e1:wr.ownsRow w.heap.size 3 1 (.slice (some ⟨H,0,none⟩) l.length p1) l.length (l.map encN)) (e2:wr.ownsRow w.heap.size 3 1 (.slice (some ⟨J,0,none⟩) r.length p2) r.length (r.map encN))
  (f6:Fr (λa=>a=j) wr w6) (ax:MapF encS encN w6 j (upd (zmc V) (keyS (l,r)) BV.length)) (W:Fr (λa=>q.ownBlock=some a\/a=pb) w6 w8) (G:Fr (λa=>s.ownBlock=some a\/a=pb) w8 a9) (C:Fr (λa=>p.ownBlock=some a\/a=pb) a9 B)
  (aw:B.heap[pb]?=some (.cells #[S,T,R,.map (some j),mo,mc,ms,mn] 113 (0,0)))
  (o8:w8.ownsRow 0 100 1 S (x.length+1) (x ++ [.slice (some ⟨H,0,none⟩) l.length p1])) (ai:a9.ownsRow 0 100 1 T (y.length+1) (y ++ [.slice (some ⟨J,0,none⟩) r.length p2])) (az:B.ownsRow 0 3 1 R (BV.length+1) (BV.map encN ++ [encN bn]))
  (A:∀a,S.ownBlock=some a->q.ownBlock=some a\/w6.heap.size<=a) (E:∀a,T.ownBlock=some a->s.ownBlock=some a\/w8.heap.size<=a) (O:∀a,R.ownBlock=some a->p.ownBlock=some a\/a9.heap.size<=a) (ay:(l,r) ∉ V) :
  ∃M' I',PoolS M' I' B pb (V ++ [(l,r)]) (BV ++ [bn]) mo mc ms mn/\(∀a,M' a->M a\/w.heap.size<=a)/\(∀a,I' a->I a\/w.heap.size<=a)/\Fr M w B:=by
 obtain⟨v,a2,a3,a4,a5,n⟩:=av;obtain⟨Y,Z,aa,ab,ac,ad,ae⟩:=ap;have aD:pb<w.heap.size:=(yJ.1 k.blk).1;have aC:j<w.heap.size:=k.find.lt;have al:=λa d=>(k.left.lt a d).2
 have a7:=λa d=>(k.right.lt a d).2
 have F:=λa d=>(k.born.lt a d).2
 have s0:=a1.size;have s6:=f6.size;have s8:=W.size;have aA:=G.size;have aB:=C.size;have aj:=e1.lt H rfl;have ak:=e2.lt J rfl;have b7:=λa d=>(o8.lt a d).2
 have b9:=λa d=>(ai.lt a d).2
 have aq:Fr M w B:=by
  have a0:Fr M w wr:=a1.any;have a6:=a0.trans f6 (λa _ b=>by subst b;exact a2);have a8:=a6.trans W (λa _ b=>b.elim (a3 a) (λb=>by subst b;exact v));have am:=a8.trans G (λa _ b=>b.elim (a4 a) (λb=>by subst b;exact v));exact am.trans C (λa _ b=>b.elim (a5 a) (λb=>by subst b;exact v))
 refine⟨λa=>a=pb\/a=j\/S.ownBlock=some a\/T.ownBlock=some a\/R.ownBlock=some a,λa=>(I a/\a<w.heap.size)\/a=H\/a=J,?_,?_,?_,aq⟩
 ·have ag:∀a,w.heap.size<=a->a<wr.heap.size->(a≠j)/\(¬(q.ownBlock=some a\/a=pb))/\(¬(s.ownBlock=some a\/a=pb))/\¬(p.ownBlock=some a\/a=pb):=λa t D =>
   ⟨by omega,λb=>b.elim (λb=>by have:=al a b;omega) (λb=>by omega),λb=>b.elim (λb=>by have:=a7 a b;omega) (λb=>by omega),λb=>b.elim (λb=>by have:=F a b;omega) (λb=>by omega)⟩
  have ah:∀a,I a->(a≠j)/\(¬(q.ownBlock=some a\/a=pb))/\(¬(s.ownBlock=some a\/a=pb))/\¬(p.ownBlock=some a\/a=pb):=λa d =>
   ⟨λb=>by subst b;exact n _ a2 d,λb=>b.elim (λb=>n a (a3 a b) d) (λb=>by subst b;exact n _ v d),λb=>b.elim (λb=>n a (a4 a b) d) (λb=>by subst b;exact n _ v d),
    λb=>b.elim (λb=>n a (a5 a b) d) (λb=>by subst b;exact n _ v d)⟩
  have X:∀(g:Value) (U:List Nat),Nats wr g U->(U≠[]->∀a,g.ownBlock=some a->(a≠j)/\(¬(q.ownBlock=some a\/a=pb))/\(¬(s.ownBlock=some a\/a=pb))/\¬(p.ownBlock=some a\/a=pb))->Nats B g U:=λg U c d =>
   (((c.fr f6 (λh a z=>(d h a z).1)).fr W (λh a z=>(d h a z).2.1)).fr G (λh a z=>(d h a z).2.2.1)).fr C (λh a z=>(d h a z).2.2.2)
  have af:=k.lenB;refine⟨S,T,R,j,x ++ [.slice (some ⟨H,0,none⟩) l.length p1],y ++ [.slice (some ⟨J,0,none⟩) r.length p2],⟨aw,?_,?_,?_,by rw[yZ,yZ,k.lenL];rfl,by rw[yZ,yZ,k.lenR];rfl,by rw[yZ,yZ,af];rfl,?_⟩,?_,?_,.inl rfl,.inr (.inl rfl),λa c=>.inr (.inr (.inl c)),λa c=>.inr (.inr (.inr (.inl c))),λa c=>.inr (.inr (.inr (.inr c))),?_,Y,?_,?_,?_,?_,?_,?_⟩
  ·have c:=za1 (za1 o8 G (λa d b=>?_)) C (λa d b=>?_)
   ·rw[yZ];exact c
   ·rcases A a d with c|c
    ·exact b.elim (λb=>ac a c b) (λb=>(Z a c).1 b)
    ·exact b.elim (λb=>by have:=a7 a b;omega) (λb=>by omega)
   ·rcases A a d with c|c
    ·exact b.elim (λb=>ad a c b) (λb=>(Z a c).1 b)
    ·exact b.elim (λb=>by have:=F a b;omega) (λb=>by omega)
  ·have c:=za1 ai C (λa d b=>?_)
   ·rw[yZ];exact c
   ·rcases E a d with c|c
    ·exact b.elim (λb=>ae a c b) (λb=>(aa a c).1 b)
    ·exact b.elim (λb=>by have:=F a b;omega) (λb=>by omega)
  ·rw[yZ,vQ];exact az
  ·rw[zpi V (l,r) ay,<-af]
   exact((ax.fr W (λb=>b.elim (λb=>(Z _ b).2 rfl) (λb=>Y b.symm))).fr G (λb=>b.elim (λb=>(aa _ b).2 rfl) (λb=>Y b.symm))).fr C (λb=>b.elim (λb=>(ab _ b).2 rfl) (λb=>Y b.symm))
  ·intro f g o i m
   by_cases N:f<x.length
   ·rw[yW N]at i
    rw[yW (by rw[<-k.lenL];exact N)]at m;obtain⟨P,Q⟩:=ar f g o i m;refine⟨X g _ (P.fr0 a1) (λh a d=>ah a (Q h a d)),λh a d=>.inl ⟨Q h a d,?_⟩⟩;obtain⟨an,K,hl⟩:=P.block h;rw[d]at K;cases K;exact hl
   ·rw[kZ (by omega)]at i
    rw[kZ (by rw[<-k.lenL];omega),<-k.lenL]at m;cases L:f-x.length with
    | zero =>
     rw[L]at i m;simp at i m;subst i m;exact⟨X _ _ (SliceOf.of_owns e1 rfl) (λ_ a d=>by simp[Value.ownBlock]at d;subst d;exact ag _ aj.1 aj.2),λ_ a d=>by simp[Value.ownBlock]at d;exact .inr (.inl d.symm)⟩
    | succ ao=>rw[L]at i;simp at i
  ·intro f g o i m
   by_cases N:f<y.length
   ·rw[yW N]at i
    rw[yW (by rw[<-k.lenR];exact N)]at m;obtain⟨P,Q⟩:=au f g o i m;refine⟨X g _ (P.fr0 a1) (λh a d=>ah a (Q h a d)),λh a d=>.inl ⟨Q h a d,?_⟩⟩;obtain⟨an,K,hl⟩:=P.block h;rw[d]at K;cases K;exact hl
   ·rw[kZ (by omega)]at i
    rw[kZ (by rw[<-k.lenR];omega),<-k.lenR]at m;cases L:f-y.length with
    | zero =>
     rw[L]at i m;simp at i m;subst i m;exact⟨X _ _ (SliceOf.of_owns e2 rfl) (λ_ a d=>by simp[Value.ownBlock]at d;subst d;exact ag _ ak.1 ak.2),λ_ a d=>by simp[Value.ownBlock]at d;exact .inr (.inr d.symm)⟩
    | succ ao=>rw[L]at i;simp at i
  ·intro a hM u
   rcases hM with b|b|b|b|b
   ·subst b
    rcases u with c|c|c
    ·exact n _ v c.1
    ·omega
    ·omega
   ·subst b
    rcases u with c|c|c
    ·exact n _ a2 c.1
    ·omega
    ·omega
   ·rcases A a b with e|e
    ·have:=al a e
     rcases u with c|c|c
     ·exact n a (a3 a e) c.1
     ·omega
     ·omega
    ·rcases u with c|c|c
     ·have:=c.2;omega
     ·omega
     ·omega
   ·rcases E a b with e|e
    ·have:=a7 a e
     rcases u with c|c|c
     ·exact n a (a4 a e) c.1
     ·omega
     ·omega
    ·rcases u with c|c|c
     ·have:=c.2;omega
     ·omega
     ·omega
   ·rcases O a b with e|e
    ·have:=F a e
     rcases u with c|c|c
     ·exact n a (a5 a e) c.1
     ·omega
     ·omega
    ·rcases u with c|c|c
     ·have:=c.2;omega
     ·omega
     ·omega
  ·intro a b
   rcases A a b with e|e
   ·exact Z a e
   ·exact⟨by omega,by omega⟩
  ·intro a b
   rcases E a b with e|e
   ·exact aa a e
   ·exact⟨by omega,by omega⟩
  ·intro a b
   rcases O a b with e|e
   ·exact ab a e
   ·exact⟨by omega,by omega⟩
  ·intro a t D
   have:=b7 a t;rcases E a D with e|e
   ·rcases A a t with f|f
    ·exact ac a f e
    ·have:=a7 a e;omega
   ·omega
  ·intro a t D
   have:=b7 a t;rcases O a D with e|e
   ·rcases A a t with f|f
    ·exact ad a f e
    ·have:=F a e;omega
   ·omega
  ·intro a t D
   have:=b9 a t;rcases O a D with e|e
   ·rcases E a t with f|f
    ·exact ae a f e
    ·have:=F a e;omega
   ·omega
 ·intro a d
  rcases d with b|b|b|b|b
  ·subst b;exact .inl v
  ·subst b;exact .inl a2
  ·rcases A a b with e|e
   ·exact .inl (a3 a e)
   ·exact .inr (by omega)
  ·rcases E a b with e|e
   ·exact .inl (a4 a e)
   ·exact .inr (by omega)
  ·rcases O a b with e|e
   ·exact .inl (a5 a e)
   ·exact .inr (by omega)
 ·intro a d
  rcases d with b|b|b
  ·exact .inl b.1
  ·exact .inr (by omega)
  ·exact .inr (by omega)
theorem zn1 {M I:Nat->Prop}(pb:Nat)(V:List PL)(BV L R:List Nat)(mo mc ms mn:Value)(b1 o1 c1 b2 o2 J:Nat)(w:World)(hP:PoolS M I w pb V BV mo mc ms mn)(hL:Nats w (.slice (some ⟨b1,o1,none⟩) L.length c1) L)(hR:Nats w (.slice (some ⟨b2,o2,none⟩) R.length J) R)
  (bg:∀h∈L,h<V.length) (bh:∀h∈R,h<V.length) (hl:L.length<1000000000) (hr:R.length<1000000000) (hn:V.length<1000000000) (hb:∀h∈BV,h<1000000000) :
  Calls Tryz.prog 89 #[.pointer (some ⟨pb,0,none⟩),.slice (some ⟨b1,o1,none⟩) L.length c1,.slice (some ⟨b2,o2,none⟩) R.length J] w λe w'=>e=.returned (.int .i64 ((za5 V BV L R).2.2:Nat)) ∧
   ∃M' I',PoolS M' I' w' pb (za5 V BV L R).1 (za5 V BV L R).2.1 mo mc ms mn/\(∀d,M' d->M d\/w.heap.size<=d)/\(∀d,I' d->I d\/w.heap.size<=d)/\Fr M w w':=by
 have HP:=Hh hP;have HL:=Hh hL;have HR:=Hh hR;have bV:=Hh bg;have ca:=Hh bh;have Hl:=Hh hl;have Hr:=Hh hr;have Hn:=Hh hn;have b8:=Hh hb;clear hP hL hR bg bh hb;go_enter Tryz.func89,Tryz.ntmps89;go_wp2_with fail;refine(zhh b1 o1 c1 L w HL.out (by omega)).mono ?_
 rintro e w1 ⟨g1,p1,rfl,S,f1⟩;have H1:=Hh S;have F1:=Hh f1;clear S f1;go_wp2_with fail;refine(zhh b2 o2 J R w1 (HR.out.fr0 F1.out) (by omega)).mono ?_
 rintro e k ⟨g2,p2,rfl,T,f2⟩;have H2:=Hh T;have F2:=Hh f2;clear T f2;obtain⟨a,av⟩:=eX (zag L);obtain⟨c,aD⟩:=eX (zag R);have cy:a.length<=L.length:=by rw[av];exact zcu L
 have cA:c.length<=R.length:=by rw[aD];exact zcu R
 have S:=H1.out;have T:=H2.out;rw[<-av]at S ⊢;rw[<-aD]at T ⊢;have H1:=Hh S;have H2:=Hh T;have aM:=Hh av;have aN:=Hh aD;clear S T av aD;obtain⟨i0,hi,bF,bG,bH⟩:=info_parts zd3;have aC:=run_make (P:=Tryz.prog) k 22 5 i0 (.int .u8 0) Tryz.underlying22 hi bF .i64 .i64 0 (4*(a.length+c.length)+1) (by omega) (by omega) (by rw[bH];omega) (by omega);have cB:wrap64 ((a.length:Int)+(c.length:Int))=(a.length:Int)+(c.length:Int):=by unfold wrap64;omega
 have cC:wrap64 (4*((a.length:Int)+(c.length:Int)))=4*((a.length:Int)+(c.length:Int)):=by unfold wrap64;omega
 have aE:wrap64 (4*((a.length:Int)+(c.length:Int))+1)=4*((a.length:Int)+(c.length:Int))+1:=by unfold wrap64;omega
 rw[bG]at aC;have bz:(k.alloc (.cells (madeCells #[.int .u8 0] (4*(a.length+c.length)+1)) 5)).ownsRow k.heap.size 5 1 (.slice (some ⟨k.heap.size,0,none⟩) 0 (4*(a.length+c.length)+1)) 0 [] :=
  y3 k _ _ (xW _) (by unfold maxLen;omega) (by simp[madeCells])
 have c5:=Hh bz;have aC:(Instr.makeSlice 22 (.int .i64 0) (.int .i64 (4*((a.length:Int)+(c.length:Int))+1))).run Tryz.prog k=_:=aC;clear hi bF bG bH bz
 -- what the walk reads of the pool
 have br:∀h∈a,h<V.length:=λh j=>bV.out h ((zba L h).1 (by rw[<-aM.out];exact j))
 have bE:∀h∈c,h<V.length:=λh j=>ca.out h ((zba R h).1 (by rw[<-aN.out];exact j))
 have aT:=F1.out.trans F2.out kP;have aU:=HP.out.fr0 aT;obtain⟨lv,rv,bv,B,s,q,z,aq,ar,aw,ax,ay,az,aA,aB,K,N,U,W,X,Y,Z⟩:=id aU;obtain⟨ba,bc,rfl,cp,cq,bk⟩:=SliceOf.of_owns (L:=BV) z.born rfl;have bf:BV.length=V.length:=z.lenB;have HB:=Hh (λn (Q:Fr NoM k n) (b:Nat) (A:b<BV.length)=>show n.cell? ⟨pb,2,none⟩=some (.slice ba BV.length bc)/\∃m a1,ba=some ⟨m,a1,none⟩/\n.cell? ⟨m,a1+b,none⟩=some (.int .i64 (BV[b]:Int))from by
  refine⟨Q.cell (by rw[xX k pb 2 _ _ _ z.blk];rfl) id,?_⟩;obtain⟨m,a1,e,aQ⟩:=bk b BV[b] (xQ A);exact⟨m,a1,e,Q.cell aQ id⟩)
 have bN:=Hh (λn (Q:Fr NoM k n) (b:Nat) (A:b<a.length)=>show n.cell? ⟨g1,b,none⟩=some (.int .i64 (a[b]:Int))from by
  obtain⟨cc,aQ,e,_,_,g⟩:=(SliceOf.of_owns (L:=a) H1.out rfl).fr0 (F2.out.trans Q kP);obtain⟨m,a1,e2,hc⟩:=g b a[b] (xQ A);subst e2;cases e;simpa [encN] using hc)
 have bO:=Hh (λn (Q:Fr NoM k n) (b:Nat) (A:b<c.length)=>show n.cell? ⟨g2,b,none⟩=some (.int .i64 (c[b]:Int))from by
  obtain⟨cc,aQ,e,_,_,g⟩:=(SliceOf.of_owns (L:=c) H2.out rfl).fr0 Q;obtain⟨m,a1,e2,hc⟩:=g b c[b] (xQ A);subst e2;cases e;simpa [encN] using hc)
 have aG:=Hh bf;clear bf;have co:=Hh aU;have a5:=Hh br;have an:=Hh bE;have aJ:=Hh aT;clear br bE aT aU z aq ar aw ax ay az aA aB K N U W X Y Z bk;go_wp2;obtain⟨w3,aE⟩:=eX (k.alloc (.cells (madeCells #[.int .u8 0] (4*(a.length+c.length)+1)) 5):World);have bn:Fr NoM k w3:=by rw[aE];exact(nW k).alloc _
 have aY:=c5.out;rw[<-aE]at aY ⊢;have bQ:=Hh bn;have c4:=Hh aY;clear bn aY aE aC;go_loopw [7,8,30] (λkv m O n=>∃(b:Nat) (x:Value),x=kv/\O=.int .i64 b/\b<=a.length/\m=.int .i64 (zai BV 0 (a.take b):Nat)/\n.ownsRow k.heap.size 5 1 x (keyL (a.take b)).length ((keyL (a.take b)).map encU)/\Fr NoM k n) (λ_ _ O _=>a.length-(intOf O).toNat)
 case atStart=>exact⟨0,_,rfl,rfl,yV _,by simp[zai],by simpa [keyL] using c4.out,bQ.out⟩
 case round =>
  obtain⟨b,x,rfl,rfl,A,rfl,ag,ac⟩:=hrel;have H:=Hh ag;have p:=Hh ac;clear ag ac;by_cases v:b<a.length
  ·have j:a[b]<BV.length:=by rw[aG.out];exact a5.out _ (y7 _)
   have cx:=bN.out _ p.out b v;have ix:=zdu g1 a.length p1 b v;have ae:=ze9 (a.take b) (λh j=>by have:=a5.out h (List.mem_of_mem_take j);omega);have ci:(a.take b).length<=a.length:=by rw[kQ];omega
   have af:(keyL (a.take b)).length<=20000000000:=by omega
   have ah:=ze3 BV 0 a b v j;have ad:keyL (a.take (b+1))=keyL (a.take b)++d36 a[b] ++ [44]:=by rw[yX v,zkd]
   have cj:a[b]<V.length:=a5.out _ (y7 _);have ai:a[b]<1000000000000:=by omega
   have aa:=zmf 12 a[b] (by decide) (by omega);have a4:=Hh af;have aO:=Hh ah;have aL:=Hh ad;have aP:=Hh ai;have aH:=Hh aa;have HX:=Hh j;clear ae af ah ad ai aa;go_wp2_with fail;refine(zez (base:=k.heap.size) x (keyL (a.take b)) a[b] wr H.out aP.out p.out.size (by have:=a4.out;omega)).mono ?_
   rintro e w4 ⟨v4,rfl,h4,f4⟩;have g4:=p.out.own H.out f4;have H4:=Hh h4;have G4:=Hh g4;clear h4 f4 g4;go_wp2_with (at_builtin;refine zc7 (enc:=encU) k (G4.out.alloc _) rfl _ _ 22 rfl 5 (.int .u8 0) 1 Tryz.underlying22 zd3 rfl v4 _ _ rfl (H4.out.alloc _) _ rfl [44] (SliceOf.one encU w4 44 5) (λ_=>rfl) ?c1 (by decide) ?_)
   case c1=>have:=a4.out;have:=aH.out;simp;omega
   intro v5 w5 C t;obtain⟨cb,bb,ob,a8,cd⟩:=HB.out _ t a[b] j;have ib:=za8 ba BV.length bc a[b] bb ob j a8;have cf:BV[a[b]]<1000000000:=b8.out _ (y7 _);have H5:=Hh C;have F5:=Hh t;clear C t a8;go_wp2;go_roundw
   case rel =>
    refine⟨b+1,v5,rfl,by go_num,by omega,by rw[aO.out],?_,F5.out⟩;rw[aL.out];simpa [Nat.add_assoc] using H5.out
   case measure=>simp[intOf];omega
  ·have aX:b=a.length:=by omega
   subst aX;obtain⟨BN,aS⟩:=eX (zai BV 0 a);have a9:zai BV 0 (a.take a.length)=BN:=by rw[y5,aS]
   have F:=H.out;rw[y5]at F;have HO:=Hh F;have bM:=Hh aS;rw[a9];clear F aS a9 A;have ae:=ze9 a (λh j=>by have:=a5.out h j;omega);go_wp2_with (at_builtin;refine zc7 (enc:=encU) k (p.out.alloc _) rfl _ _ 22 rfl 5 (.int .u8 0) 1 Tryz.underlying22 zd3 rfl x _ _ rfl (HO.out.alloc _) _ rfl [124] (SliceOf.one encU wr 124 5) (λ_=>rfl) ?c1 (by decide) ?_)
   case c1=>simp;omega
   intro v5 w5 C t;have h6:w5.ownsRow k.heap.size 5 1 v5 (keyL a ++ [124]).length ((keyL a ++ [124]).map encU):=by simpa using C
   have H6:=Hh h6;have F5:=Hh t;clear C t h6;go_wp2;go_loopw [7,8,55] (λkv m O n=>∃(b:Nat) (x:Value),x=kv/\O=.int .i64 b/\b<=c.length/\m=.int .i64 (zai BV BN (c.take b):Nat)/\n.ownsRow k.heap.size 5 1 x (keyL a ++ [124]++keyL (c.take b)).length ((keyL a ++ [124]++keyL (c.take b)).map encU)/\Fr NoM k n) (λ_ _ O _=>c.length-(intOf O).toNat)
   case atStart=>exact⟨0,_,rfl,rfl,yV _,by simp[zai],by simpa [keyL] using H6.out,F5.out⟩
   case round =>
    obtain⟨b,x,rfl,rfl,A,rfl,ag,ac⟩:=hrel;have H:=Hh ag;have p:=Hh ac;clear ag ac;by_cases v:b<c.length
    ·have j:c[b]<BV.length:=by rw[aG.out];exact an.out _ (y7 _)
     have cx:=bO.out _ p.out b v;have ix:=zdu g2 c.length p2 b v;have ae:=ze9 (c.take b) (λh j=>by have:=an.out h (List.mem_of_mem_take j);omega);have ci:(c.take b).length<=c.length:=by rw[kQ];omega
     have af:(keyL a ++ [124]++keyL (c.take b)).length<=40000000000:=by simp;omega
     have ah:=ze3 BV BN c b v j;have ad:keyL (c.take (b+1))=keyL (c.take b)++d36 c[b] ++ [44]:=by rw[yX v,zkd]
     have cj:c[b]<V.length:=an.out _ (y7 _);have ai:c[b]<1000000000000:=by omega
     have aa:=zmf 12 c[b] (by decide) (by omega);have a4:=Hh af;have aO:=Hh ah;have aL:=Hh ad;have aP:=Hh ai;have aH:=Hh aa;have HX:=Hh j;clear ae af ah ad ai aa;go_wp2_with fail;refine(zez (base:=k.heap.size) x (keyL a ++ [124]++keyL (c.take b)) c[b] wr H.out aP.out p.out.size (by have:=a4.out;omega)).mono ?_
     rintro e w4 ⟨v4,rfl,h4,f4⟩;have g4:=p.out.own H.out f4;have H4:=Hh h4;have G4:=Hh g4;clear h4 f4 g4;go_wp2_with (at_builtin;refine zc7 (enc:=encU) k (G4.out.alloc _) rfl _ _ 22 rfl 5 (.int .u8 0) 1 Tryz.underlying22 zd3 rfl v4 _ _ rfl (H4.out.alloc _) _ rfl [44] (SliceOf.one encU w4 44 5) (λ_=>rfl) ?c1 (by decide) ?_)
     case c1=>have:=a4.out;have:=aH.out;simp at *;omega
     intro v5 w5 C t;obtain⟨cb,bb,ob,a8,cd⟩:=HB.out _ t c[b] j;have ib:=za8 ba BV.length bc c[b] bb ob j a8;have cf:BV[c[b]]<1000000000:=b8.out _ (y7 _);have H5:=Hh C;have F5:=Hh t;clear C t a8;go_wp2;go_roundw
     case rel =>
      refine⟨b+1,v5,rfl,by go_num,by omega,by rw[aO.out],?_,F5.out⟩;rw[aL.out];simpa [Nat.add_assoc] using H5.out
     case measure=>simp[intOf];omega
    ·have aX:b=c.length:=by omega
     subst aX;have a9:zai BV BN (c.take c.length)=zai BV (zai BV 0 a) c:=by rw[y5,bM.out]
     have F:=H.out;rw[y5,show keyL a ++ [124]++keyL c=keyS (a,c)from by simp[keyS]]at F;obtain⟨g3,p3,rfl,cs,_⟩:=zbg F (by simp[keyS];omega);have ae:=ze9 a (λh j=>by have:=a5.out h j;omega);have cv:=ze9 c (λh j=>by have:=an.out h j;omega);have HK:=Hh F;rw[a9];clear F a9 A;obtain⟨lv,rv,bv,B,s,q,hA0,aq,ar,aw,ax,ay,az,aA,aB,K,N,U,W,X,Y,Z⟩:=HP.out;have z:=hA0.fr0 (aJ.out.trans p.out kP);have bK:=Hh hA0;clear hA0;have c3:wr.cell? ⟨pb,3,none⟩=some (.map (some B)):=by rw[xX wr pb 3 _ _ _ z.blk];rfl
     have aW:∀o,(convert 22 9 (.slice (some ⟨g3,0,none⟩) (keyS (a,c)).length p3)).run Tryz.prog (wr.drewN o)=.ok (encS (keyS (a,c))) (wr.drewN o):=λo=>zna (w:=wr.drewN o) HK.out rfl (by simp[Value.ownBlock])
     have E:∀o,(Instr.lookup 108 (.map (some B)) (encS (keyS (a,c))) true).run Tryz.prog (wr.drewN o)=.ok (.tuple #[((zmc V (keyS (a,c))).map encN).getD (.int .i64 0),.bool (zmc V (keyS (a,c))).isSome]) (wr.drewN o):=λo =>
      MapF.look (w:=wr.drewN o) z.find (zxx Tryz.underlying9) Tryz.underlying108 (Tryz.zeroValue3 _) (keyS (a,c)) true
     rw[zoe]at E;have r:=Hh z;have bS:=Hh aq;have bT:=Hh ar;have bX:=Hh (And.intro aw (And.intro ax (And.intro ay (And.intro az (And.intro aA aB)))));have l:=Hh (And.intro K (And.intro N (And.intro U (And.intro W (And.intro X (And.intro Y Z))))));clear z aq ar aw ax ay az aA aB K N U W X Y Z;by_cases a0:(a,c)∈V
     ·rw[if_pos a0]at E
      have E:∀o,(Instr.lookup 108 (.map (some B)) (encS (keyS (a,c))) true).run Tryz.prog (wr.drewN o)=.ok (.tuple #[.int .i64 (V.idxOf (a,c):Nat),.bool true]) (wr.drewN o):=E;have am:=Hh a0;clear a0;go_wp2;go_quiet (fail);go_wp2;go_ret;have hp:za5 V BV L R=(V,BV,V.idxOf (a,c)):=by unfold za5;rw[<-aM.out,<-aN.out,if_pos am.out]
      rw[hp];have ab:Fr NoM w (wr.drewN nq):=(aJ.out.trans p.out kP).trans (M':=NoM) ⟨rfl,rfl,rfl,xW _,λ_ _ _=>rfl⟩ kP;exact⟨rfl,M,I,HP.out.fr0 ab,λd g=>.inl g,λd g=>.inl g,ab.any⟩
     ·rw[if_neg a0]at E
      have E:∀o,(Instr.lookup 108 (.map (some B)) (encS (keyS (a,c))) true).run Tryz.prog (wr.drewN o)=.ok (.tuple #[.int .i64 0,.bool false]) (wr.drewN o):=E;have am:=Hh a0;clear a0;go_wp2;go_quiet (fail);obtain⟨y,b4⟩:=eX (wr.drewN nq);have ab:Fr NoM wr y:=by rw[b4];exact⟨rfl,rfl,rfl,xW _,λ_ _ _=>rfl⟩
      rw[<-b4];have a3:=Hh ab;clear E aW c3 b4 ab;have J:y.cell? ⟨pb,2,none⟩=some bv:=by rw[xX y pb 2 _ _ _ (a3.out.heap r.out.blk id)];rfl
      have c3:y.cell? ⟨pb,3,none⟩=some (.map (some B)):=by rw[xX y pb 3 _ _ _ (a3.out.heap r.out.blk id)];rfl
      obtain⟨a6,a7,rfl,_⟩:=SliceOf.of_owns (L:=BV) r.out.born rfl;have aW:(convert 22 9 (.slice (some ⟨g3,0,none⟩) (keyS (a,c)).length p3)).run Tryz.prog y.drew=.ok (encS (keyS (a,c))) y.drew:=zna (w:=y.drew) (za1 HK.out (a3.out.drew) kP) rfl (by simp[Value.ownBlock]);obtain⟨G,aZ,bs,bo⟩:=MapF.store (P:=Tryz.prog) (w:=y.drew) (r.out.find.fr (a3.out.drew) id) (zxx Tryz.underlying9) Tryz.underlying108 (keyS (a,c)) BV.length;have aZ:(Instr.mapUpdate 108 (.map (some B)) (encS (keyS (a,c))) (.int .i64 (BV.length:Nat))).run Tryz.prog y.drew=.ok () G:=aZ;have bW:=Hh bs;have bR:=Hh bo;clear bs bo;go_upto_region 21 with fail;go_cut []from 86 (λwx=>wx=G)
      case first =>
       go_region_law (fail);all_goals
        go_wp2_with fail;go_meet
        case rel=>rfl
      case rest =>
       subst hcut;obtain⟨G,rfl⟩:=eX wc;clear aZ aW J c3;have ap:Fr (λd=>d=B) wr G:=(a3.out.drew.mono (λ_ _ d=>d.elim)).trans bR.out kP;obtain⟨K,N,U,W,X,Y,Z⟩:=l.out;have aV:=ap.heap r.out.blk (λe=>K e);have c0:G.cell? ⟨pb,0,none⟩=some lv:=by rw[xX G pb 0 _ _ _ aV];rfl
       have bq:=za1 r.out.left ap (λd f e=>(N d f).2 e);have v:s.length<1000000000:=by rw[r.out.lenL];exact Hn.out
       have aK:=Hh ap;have b7:=Hh aV;have bU:=Hh bq;clear ap K N U W X Y Z aV bq;go_wp2_with (at_builtin;refine zch G rfl _ _ 107 rfl 0 100 (.slice none 0 0) 24 Tryz.underlying107 zxz rfl lv s.length s rfl bU.out (.slice (some ⟨g1,0,none⟩) a.length p1) rfl rfl ?c1 (by decide) (yV _) ?_)
       case c1=>omega
       intro v7 w7 h7 f7 q7;obtain⟨g7,p7,rfl,_,ct⟩:=zbg h7 (Nat.succ_pos _);obtain⟨k7,z7,bj,bp⟩:=zg8 (i:=0) (u:=.slice (some ⟨g7,0,none⟩) (s.length+1) p7) b7.out f7 (λe=>(l.out.2.1 pb e).1 rfl);have ck:w7.cell? ⟨pb,0,none⟩=some lv:=by rw[k7];rfl
       have cm:=z7 0;have bx:(w7.setCell ⟨pb,0,none⟩ (.slice (some ⟨g7,0,none⟩) (s.length+1) p7)).ownsRow 0 100 1 (.slice (some ⟨g7,0,none⟩) (s.length+1) p7) (s.length+1) (s ++ [.slice (some ⟨g1,0,none⟩) a.length p1]):=za1 h7 (Fr.setCell (Fr.refl (λd=>d=pb) w7) ⟨pb,0,none⟩ _ (λ_=>rfl)) (λd f e=>by
        subst e;rcases q7 with g|⟨m,g,D⟩
        ·rw[g]at f;exact(l.out.2.1 _ f).1 rfl
        ·rw[g]at f;cases f
         have:=(yJ.1 b7.out).1;omega)
       have bB:∀d,(Value.slice (some ⟨g7,0,none⟩) (s.length+1) p7).ownBlock=some d->lv.ownBlock=some d\/G.heap.size<=d:=λd f=>by
        rcases q7 with g|⟨m,g,D⟩
        ·rw[g]at f;exact .inl f
        ·rw[g]at f;cases f;exact .inr D
       have ak:=Hh bj;have al:=Hh bp;have bd:=Hh bx;have c7:=Hh bB;clear h7 f7 q7 k7 z7 bj bp bx bB c0;obtain⟨w8,b3⟩:=eX (w7.setCell ⟨pb,0,none⟩ (.slice (some ⟨g7,0,none⟩) (s.length+1) p7));rw[<-b3]at ak al bd;have c1:w8.cell? ⟨pb,1,none⟩=some rv:=by rw[xX w8 pb 1 _ _ _ ak.out];rfl
       have bD:w8.ownsRow 0 100 1 rv q.length q:=za1 (za1 r.out.right aK.out (λd f e=>(l.out.2.2.1 d f).2 e)) al.out (λd f e=>by
        rcases e with e|e
        ·exact l.out.2.2.2.2.1 d e f
        ·exact(l.out.2.2.1 d f).1 e)
       have cz:q.length<1000000000:=by rw[r.out.lenR];exact Hn.out
       have c9:=Hh bD;clear bD;go_upto_region 23 with fail;rw[<-b3];clear b3 ck cm;go_wp2_with (at_builtin;refine zch w8 rfl _ _ 107 rfl 0 100 (.slice none 0 0) 24 Tryz.underlying107 zxz rfl rv q.length q rfl c9.out (.slice (some ⟨g2,0,none⟩) c.length p2) rfl rfl ?c1 (by decide) (yV _) ?_)
       case c1=>omega
       intro v9 w9 h9 f9 q9;obtain⟨g9,p9,rfl,_,cu⟩:=zbg h9 (Nat.succ_pos _);obtain⟨k9,z9,bi,bl⟩:=zg8 (i:=1) (u:=.slice (some ⟨g9,0,none⟩) (q.length+1) p9) ak.out f9 (λe=>(l.out.2.2.1 pb e).1 rfl);have cl:w9.cell? ⟨pb,1,none⟩=some rv:=by rw[k9];rfl
       have cn:=z9 1;have ch:pb<w8.heap.size:=(yJ.1 ak.out).1;have bu:(w9.setCell ⟨pb,1,none⟩ (.slice (some ⟨g9,0,none⟩) (q.length+1) p9)).ownsRow 0 100 1 (.slice (some ⟨g9,0,none⟩) (q.length+1) p9) (q.length+1) (q ++ [.slice (some ⟨g2,0,none⟩) c.length p2]):=za1 h9 (Fr.setCell (Fr.refl (λd=>d=pb) w9) ⟨pb,1,none⟩ _ (λ_=>rfl)) (λd f e=>by
        subst e;rcases q9 with g|⟨m,g,D⟩
        ·rw[g]at f;exact(l.out.2.2.1 _ f).1 rfl
        ·rw[g]at f;cases f;omega)
       have bC:∀d,(Value.slice (some ⟨g9,0,none⟩) (q.length+1) p9).ownBlock=some d->rv.ownBlock=some d\/w8.heap.size<=d:=λd f=>by
        rcases q9 with g|⟨m,g,D⟩
        ·rw[g]at f;exact .inl f
        ·rw[g]at f;cases f;exact .inr D
       have aj:=Hh bi;have aI:=Hh bl;have b9:=Hh bu;have c8:=Hh bC;clear h9 f9 q9 k9 z9 bi bl bu bC c1 ch;obtain⟨a2,b0⟩:=eX (w9.setCell ⟨pb,1,none⟩ (.slice (some ⟨g9,0,none⟩) (q.length+1) p9));rw[<-b0]at aj aI b9;have J:a2.cell? ⟨pb,2,none⟩=some (.slice a6 BV.length a7):=by rw[xX a2 pb 2 _ _ _ aj.out];rfl
       have bt:a2.ownsRow 0 3 1 (.slice a6 BV.length a7) BV.length (BV.map encN):=za1 (za1 (za1 r.out.born aK.out (λd f e=>(l.out.2.2.2.1 d f).2 e)) al.out (λd f e=>by
        rcases e with e|e
        ·exact l.out.2.2.2.2.2.1 d e f
        ·exact(l.out.2.2.2.1 d f).1 e)) aI.out (λd f e=>by
        rcases e with e|e
        ·exact l.out.2.2.2.2.2.2 d e f
        ·exact(l.out.2.2.2.1 d f).1 e)
       have cw:BV.length<1000000000:=by rw[r.out.lenB];exact Hn.out
       have bY:=Hh bt;clear bt;go_upto_region 24 with fail;rw[<-b0];clear b0 cl cn;go_wp2_with (at_builtin;refine zch a2 rfl _ _ 100 rfl 0 3 (.int .i64 0) 8 Tryz.underlying100 zab rfl (.slice a6 BV.length a7) BV.length (BV.map encN) rfl bY.out (encN (zai BV (zai BV 0 a) c)) rfl rfl ?c1 (by decide) (yV _) ?_)
       case c1=>omega
       intro cE b6 aR be b5;obtain⟨ao,aF,rfl,_,cr⟩:=zbg aR (Nat.succ_pos _);obtain⟨bI,bJ,au,bm⟩:=zg8 (i:=2) (u:=.slice (some ⟨ao,0,none⟩) (BV.length+1) aF) aj.out be (λe=>(l.out.2.2.2.1 pb e).1 rfl);have cD:b6.cell? ⟨pb,2,none⟩=some (.slice a6 BV.length a7):=by rw[bI];rfl
       have cF:=bJ 2;have cg:pb<a2.heap.size:=(yJ.1 aj.out).1;have bw:(b6.setCell ⟨pb,2,none⟩ (.slice (some ⟨ao,0,none⟩) (BV.length+1) aF)).ownsRow 0 3 1 (.slice (some ⟨ao,0,none⟩) (BV.length+1) aF) (BV.length+1) (BV.map encN ++ [encN (zai BV (zai BV 0 a) c)]):=za1 aR (Fr.setCell (Fr.refl (λd=>d=pb) b6) ⟨pb,2,none⟩ _ (λ_=>rfl)) (λd f e=>by
        subst e;rcases b5 with g|⟨m,g,D⟩
        ·rw[g]at f;exact(l.out.2.2.2.1 _ f).1 rfl
        ·rw[g]at f;cases f;omega)
       have bA:∀d,(Value.slice (some ⟨ao,0,none⟩) (BV.length+1) aF).ownBlock=some d->(Value.slice a6 BV.length a7).ownBlock=some d\/a2.heap.size<=d:=λd f=>by
        rcases b5 with g|⟨m,g,D⟩
        ·rw[g]at f;exact .inl f
        ·rw[g]at f;cases f;exact .inr D
       have bL:=Hh au;have bP:=Hh bm;have bZ:=Hh bw;have c6:=Hh bA;clear aR be b5 bI bJ au bm bw bA J cg;go_wp2;go_ret;have ce:=aG.out;have hp:za5 V BV L R=(V ++ [(a,c)],BV ++ [zai BV (zai BV 0 a) c],V.length):=by unfold za5;rw[<-aM.out,<-aN.out,if_neg am.out]
       rw[hp];refine⟨by rw[<-ce];rfl,?_⟩;have au:=bL.out;exact zz6 bK.out (aJ.out.trans p.out kP) bS.out bT.out bX.out l.out (za1 H1.out (F2.out.trans p.out kP) kP) (zb1 (za1 H2.out p.out kP) F1.out.size) aK.out bW.out al.out aI.out bP.out au bd.out b9.out bZ.out c7.out c8.out c6.out am.out
section
variable {M I:Nat->Prop}{w:World}{pb:Nat}{V:List PL}{BV:List Nat}{mo mc ms mn:Value}
theorem PoolS.low (t:PoolS M I w pb V BV mo mc ms mn):PoolS (λa=>M a/\a<w.heap.size) (λa=>I a/\a<w.heap.size) w pb V BV mo mc ms mn:=by obtain⟨y,F,s,o,p,q,h,l,m,z,A,B,C,D,E,v⟩:=t;have x:o<w.heap.size:=by{obtain⟨H,G,u,_⟩:=h.find;exact(yJ.1 u).1};refine⟨y,F,s,o,p,q,h,λe f g c d=>⟨(l e f g c d).1,λj a b=>⟨(l e f g c d).2 j a b,?_⟩⟩,λe f g c d=>⟨(m e f g c d).1,λj a b=>⟨(m e f g c d).2 j a b,?_⟩⟩,⟨z,(yJ.1 h.blk).1⟩,⟨A,x⟩,λa b=>⟨B a b,(h.left.lt a b).2⟩,λa b=>⟨C a b,(h.right.lt a b).2⟩,λa b=>⟨D a b,(h.born.lt a b).2⟩,λa r k=>E a r.1 k.1,v⟩;{obtain⟨k,i,n⟩:=(l e f g c d).1.block j;rw[b]at i;cases i;exact n};{obtain⟨k,i,n⟩:=(m e f g c d).1.block j;rw[b]at i;cases i;exact n}
end
structure NRow (B:Nat) (W:World) (v:Value) (L:List Nat):Prop where
 own:W.ownsRow B 3 1 v L.length (L.map encN)
 shape:∃b c,v=.slice (some ⟨b,0,none⟩) L.length c
theorem NRow.fr {M:Nat->Prop}{B:Nat}{a b:World}{v:Value}{L:List Nat}(c:NRow B a v L)(e:Fr M a b)(f:∀d,v.ownBlock=some d->¬M d):NRow B b v L:=⟨za1 c.own e f,c.shape⟩
theorem NRow.nats {B:Nat}{a:World}{v:Value}{L:List Nat}(b:NRow B a v L):Nats a v L:=SliceOf.of_owns b.own rfl
theorem NRow.made (a:World):NRow a.heap.size (a.alloc (.cells #[] 3)) (.slice (some ⟨a.heap.size,0,none⟩) 0 0) [] :=
 ⟨y3 a #[] 0 (xW _) (by decide) (by simp),_,_,rfl⟩
theorem NRow.snoc {B:Nat}{a:World}{v:Value}{L:List Nat}{x:Nat}(b:a.ownsRow B 3 1 v (L.length+1) (L.map encN ++ [encN x])):NRow B a v (L ++ [x]):=by obtain⟨c,d,e,_⟩:=zbg b (Nat.succ_pos _);exact⟨by rw[yZ,vQ];exact b,c,d,by rw[e,yZ];rfl⟩
theorem yka (n:Nat)(a:World)(j:n<1000000000):(Instr.makeSlice 100 (.int .i64 (n:Int)) (.int .i64 (n:Int))).run Tryz.prog a=.ok (.slice (some ⟨a.heap.size,0,none⟩) n n) (a.alloc (.cells (zd1 encN 0 n) 3)):=by obtain⟨h,d,e,f,g⟩:=info_parts zab;have b:=run_make (P:=Tryz.prog) a 100 3 h (.int .i64 0) Tryz.underlying100 d e .i64 .i64 n n (by omega) (by omega) (by rw[g];omega) (by omega);rw[b,f,Int.toNat_natCast,Nat.mul_one];have:madeCells (Value.cells (.int .i64 0)) n=zd1 encN 0 n:=by{apply Array.ext';unfold zd1;rw[List.toList_toArray,madeCells,Array.toList_map,Array.toList_range];refine(List.eq_replicate_iff.2 ⟨by simp,λi c=>?_⟩:_=List.replicate n (Value.int .i64 0)).trans (by simp[encN]);obtain⟨k,_,rfl⟩:=y6.1 c;simp[Value.cells,Nat.mod_one]};rw[this]
theorem RowIs.owns {e:TypeId}{w:World}{g base:Nat}{L:List Nat}(a:RowIs e encN w g L)(b:base<=g)(c:L.length<=9223372036854775807):w.ownsRow base e 1 (.slice (some ⟨g,0,none⟩) L.length L.length) L.length (L.map encN) :=
 ⟨by simp,.inr ⟨g,L.length,_,rfl,b,a,xW _,c,by simp,by rw[List.toList_toArray,List.take_of_length_le (by simp)]⟩⟩
theorem zu7 (L:List Nat)(j:L.Nodup):zer L=ints (zag L):=by have g:=zm0 L;have q:(ints L).Nodup:=by{unfold ints;exact List.nodup_iff_pairwise_ne.2 (List.pairwise_map.2 ((List.nodup_iff_pairwise_ne.1 j).imp λr e=>r (Int.ofNat.inj e)))};have p:(zer L).Pairwise (· < ·):=by{have k:=zr6 L;have l:=List.nodup_iff_pairwise_ne.1 ((g.nodup_iff).2 q);exact(k.and l).imp λ⟨h,i⟩=>by omega};have d:∀c∈zer L,∃b:Nat,c=(b:Int)/\b∈L:=λc a=>by{have:=(g.mem_iff).1 a;unfold ints at this;obtain⟨b,f,rfl⟩:=y6.1 this;exact⟨b,rfl,f⟩};have e:zer L=ints ((zer L).map Int.toNat):=by{unfold ints;rw[List.map_map];refine((kV λc a=>?_).trans (List.map_id' _)).symm;obtain⟨b,rfl,_⟩:=d c a;rfl};rw[e];congr 1;refine zh1 ?_ (ze7 L) λc=>?_;{refine List.pairwise_map.2 (p.imp_of_mem λ{h i} m n o=>?_);obtain⟨b,rfl,_⟩:=d h m;obtain⟨u,rfl,_⟩:=d i n;simpa using o};{rw[zba];constructor;{intro a;obtain⟨t,s,rfl⟩:=y6.1 a;obtain⟨b,rfl,f⟩:=d t s;simpa using f};{intro a;refine y6.2 ⟨(c:Int),(g.mem_iff).2 ?_,by simp⟩;unfold ints;exact y6.2 ⟨c,a,rfl⟩}}
def zig (f:Nat->Option Nat)(L:List Nat):List Nat:=L.map λa=>(f a).getD 0
theorem zz4 (v:Value)(L:List Nat)(q:Nat)(f:Nat->Option Nat)(w:World)(e:Nats w v L)(y:MapF encN encN w q f)(hl:L.length<1000000000) : Calls Tryz.prog 154 #[v,.map (some q)] w λj H=>∃g,j=.returned (.slice (some ⟨g,0,none⟩) L.length L.length)/\H.ownsRow w.heap.size 3 1 (.slice (some ⟨g,0,none⟩) L.length L.length) L.length ((zer (zig f L)).map encI)/\Fr NoM w H:=by(obtain⟨U,V,rfl,a1,a2,e⟩:=e;have O:=Hh e;have R:=Hh y;clear e y;have mk:=yka L.length w hl;go_enter Tryz.func154,Tryz.ntmps154;go_wp2;obtain⟨I,h⟩:=eX (w.alloc (.cells (zd1 encN 0 L.length) 3));have B:Fr NoM w I:=by rw[h];exact(nW w).alloc _);(have E:RowIs 3 encN I w.heap.size (List.replicate L.length 0):=by rw[h];exact RowIs.made 3 encN w 0 L.length);rw[<-h];have N:=Hh B;have S:=Hh E;clear B E h mk;go_loopw [13] (λp r=>∃a:Nat,p=.int .i64 a/\a<=L.length/\RowIs 3 encN r w.heap.size (zig f (L.take a)++List.replicate (L.length-a) 0)/\Fr NoM w r) (λp _=>L.length-(intOf p).toNat);(case atStart=>exact⟨0,rfl,yV _,by simpa [zig] using S.out,N.out⟩);case round =>(obtain⟨a,rfl,Y,b,C⟩:=hrel;have d:=Hh b;have c:=Hh C;clear b C;by_cases k:a<L.length;{obtain⟨s,F,z,t⟩:=O.out a L[a] (xQ _);(have c1:wr.cell? ⟨s,F+a,none⟩=some (.int .i64 (L[a]:Int)):=c.out.cell t id;have ix:=za8 U L.length V a s F k z;have a0:(zig f (L.take a)++List.replicate (L.length-a) 0).length=L.length:=by simp[zig];omega);obtain⟨G,ck⟩:∃G,wr.cell? ⟨w.heap.size,a,none⟩=some G:=⟨_,d.out.cell a (by omega)⟩;have zk:=d.out.frozen a;have a4:=zdu w.heap.size L.length L.length a k;have a3:(Instr.lookup 110 (.map (some q)) (.int .i64 (L[a]:Int)) false).run Tryz.prog wr=.ok (.int .i64 (((f L[a]).getD 0:Nat):Int)) wr:=by{have:=MapF.look (P:=Tryz.prog) (w:=wr) (R.out.fr c.out id) (KeyAt.nat Tryz.underlying3) Tryz.underlying110 (Tryz.zeroValue3 _) L[a] false;simp only[Bool.false_eq_true,if_false]at this;rw[show(.int .i64 (L[a]:Int):Value)=encN L[a]from rfl,this];cases f L[a] <;> rfl};have o:=d.out.set a ((f L[a]).getD 0);have D:(zig f (L.take a)++List.replicate (L.length-a) 0).set a ((f L[a]).getD 0)=zig f (L.take (a+1))++List.replicate (L.length-(a+1)) 0:=by{(have X:(zig f (L.take a)).length=a:=by simp[zig];omega);rw[List.set_append_right _ _ (by omega),X,Nat.sub_self,yX k,show L.length-a=(L.length-(a+1))+1 from by omega,List.replicate_succ];simp only[List.set_cons_zero,zig,vQ,List.map_cons,List.map_nil,List.append_assoc,List.cons_append,List.nil_append]};rw[D]at o;have A:=Fr.setCell c.out ⟨w.heap.size,a,none⟩ (.int .i64 (((f L[a]).getD 0:Nat):Int)) (λW=>absurd W (Nat.lt_irrefl _));have T:=Hh o;have M:=Hh A;clear o A D a0 z t;go_wp2;go_roundw;(case rel=>exact⟨a+1,by go_num,by omega,T.out,M.out⟩);case measure=>simp[intOf];omega};{(have Z:a=L.length:=by omega);(subst Z;have b:=d.out;rw[y5,Nat.sub_self,List.replicate_zero,List.append_nil]at b;have m:(zig f L).length=L.length:=by simp[zig]);have l:=b.owns (base:=w.heap.size) (xW _) (by omega);rw[m]at l;have Q:=Hh l;have i:=Hh m;clear b l m Y;go_wp2_with fail;have n:=zx3 (base:=w.heap.size) (g:=w.heap.size) (cap:=L.length) (zig f L) wr (by rw[i.out];exact Q.out) (by rw[i.out];omega);rw[i.out]at n;refine n.mono ?_;rintro j w2 ⟨rfl,x,u⟩;have K:=Hh x;have J:=Hh u;clear x u n;go_wp2;go_ret;exact⟨_,rfl,K.out,c.out.trans J.out (λa5 hq j=>by omega)⟩})
