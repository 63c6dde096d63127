import Derived.Maps.Keyed
import Derived.Carry
import Derived.WideKeyRuns
import Derived.Laws.Tables
import Derived.Test.YtghekfmfonoocaaGreatDoorZui
import Derived.Test.YtghekfmfonoocaaGreatDoorShelfS
/- Lemmas. -/
set_option linter.all false
set_option maxHeartbeats 8000000
set_option maxRecDepth 4000
namespace Go.Proofs.YtghekfmfonoocaaGreatDoor
open Go.RowKit
def Pairs (w:World) (v:Value) (NV:List (Value × Value)):Prop :=
  ∃ f b, v = .slice f NV.length b/\NV.length<=b/\b<=9223372036854775807 ∧
    ∀ (c:Nat) (e:Value × Value),NV[c]?=some e->∃ a d,f=some ⟨a,d,none⟩/\w.cell? ⟨a,d + c * 2,none⟩=some e.1/\w.cell? ⟨a,d + c * 2 + 1,none⟩=some e.2
section
variable {w w':World}{v:Value}{NV:List (Value × Value)}
theorem Pairs.fr {M:Nat->Prop}(h:Pairs w v NV)(b:Fr M w w')(c:∀a,v.ownBlock=some a->¬M a):Pairs w' v NV:=by obtain⟨d,e,rfl,i,j,k⟩:=h;refine⟨d,e,rfl,i,j,λm o l=>?_⟩;obtain⟨a,n,rfl,f,g⟩:=k m o l;exact⟨a,n,rfl,b.cell f (c a rfl),b.cell g (c a rfl)⟩
theorem Pairs.fr0 (a:Pairs w v NV)(b:Fr NoM w w'):Pairs w' v NV:=a.fr b λ_ _ c=>c
theorem Pairs.of_owns {base:Nat}{e:TypeId}{n:Nat}(d:w.ownsRow base e 2 v n (zau NV)):Pairs w v NV:=by(have s:n=NV.length:=by have:=d.1;rw[zcv]at this;omega);subst s;rcases d.2 with ⟨rfl,o⟩|⟨b,j,k,rfl,y,q,t,p,A,u⟩;{have:NV=[]:=List.eq_nil_of_length_eq_zero o;subst this;exact⟨none,0,rfl,xW _,by decide,by simp⟩};{refine⟨_,j,rfl,t,by simpa [maxLen] using p,λh x g=>⟨b,0,rfl,?_⟩⟩;have z:h<NV.length:=(xV.1 g).1;obtain⟨l,m⟩:=zph NV h x g;have i:∀a c,a<NV.length*2->(zau NV)[a]?=some c->w.cell? ⟨b,0+a,none⟩=some c:=λa c r f=>by{rw[Nat.zero_add,xX w b a k _ _ q];rw[<-u,List.getElem?_take,if_pos r]at f;simpa using f};exact⟨i _ _ (by omega) l,by rw[Nat.add_assoc];exact i _ _ (by omega) m⟩}
theorem yoh {P:Program}(m:Pairs w v NV)(t:TypeId)(e:TypeId)(z:Value)(l:Nat)(j:P.underlying t=some (.slice e)) (b:(P.info? e).map (λg=>(g.zero,g.size,g.bytes))=some (some z,2,l)) (k:Nat) (x:k<=NV.length) : ∃h,(∀d,(Instr.slice t v none (some (.int .i64 (k:Int))) none).run P d=.ok h d)/\Pairs w h (NV.take k)/\h.ownBlock=v.ownBlock:=by(obtain⟨C,b,y,A,B⟩:=info_parts b;obtain⟨a,f,rfl,u,o,n⟩:=m;have p:(NV.take k).length=k:=by simp;omega);refine⟨.slice a k f,λd=>?_,⟨a,f,by rw[p],by omega,o,λq r c=>?_⟩,?_⟩;{(have i:k<=f:=by omega);cases a with| none=>simp[Instr.slice,run_underlying j,Instr.sliceBounds,Instr.sliceBound,asIntOf,sizeOf,typeInfo,b,i]| some s=>simp[Instr.slice,run_underlying j,Instr.sliceBounds,Instr.sliceBound,asIntOf,sizeOf,typeInfo,b,i,Addr.add]};{rw[List.getElem?_take]at c;split at c;{exact n q r c};{cases c}};{cases a <;> rfl}
theorem yh4 {P:Program}(q:Pairs w v NV)(t:TypeId)(e:TypeId)(z:Value)(n:Nat)(y:P.underlying t=some (.slice e)) (g:(P.info? e).map (λi=>(i.zero,i.size,i.bytes))=some (some z,2,n)) (k:Nat) (s:k<=NV.length) : ∃j,(∀d,(Instr.slice t v (some (.int .i64 (k:Int))) none none).run P d=.ok j d)/\Pairs w j (NV.drop k)/\j.ownBlock=v.ownBlock:=by(obtain⟨I,g,G,A,H⟩:=info_parts g;obtain⟨c,f,rfl,D,E,r⟩:=q;have x:(NV.drop k).length=NV.length-k:=by simp);refine⟨.slice (if f=k then c else c.map (·.add (k*2))) (NV.length-k) (f-k),λd=>?_,⟨_,f-k,by rw[x],by omega,by omega,λa B h=>?_⟩,?_⟩;{have u:k<=NV.length:=s;simp[Instr.slice,run_underlying y,Instr.sliceBounds,Instr.sliceBound,asIntOf,sizeOf,typeInfo,g,A,u]};{rw[List.getElem?_drop]at h;obtain⟨m,b,rfl,o,p⟩:=r (k+a) B h;have F:=(xV.1 h).1;rw[if_neg (by omega)];refine⟨m,b+k*2,?_,by rw[show b+k*2+a*2=b+(k+a)*2 from by omega];exact o,by rw[show b+k*2+a*2+1=b+(k+a)*2+1 from by omega];exact p⟩;by_cases l:k=0;{subst l;simp[Addr.add]};{simp[Addr.add,l];omega}};{split;{cases c <;> rfl};{cases c with| none=>rfl| some C=>simp[Value.ownBlock,Addr.add];split <;> rfl}}
end
theorem yih (NV:List (Value × Value))(j:Nat)(u:Value)(a:(zau NV)[j]?=some u):∃c,NV[j/2]?=some c/\((j%2=0/\u=c.1)\/(j%2=1/\u=c.2)):=by(have g:j<NV.length*2:=by have:=(xV.1 a).1;rwa [zcv]at this);have f:=xQ (l:=NV) (i:=j/2) (by omega);obtain⟨d,e⟩:=zph NV (j/2) _ f;refine⟨_,f,?_⟩;rcases Nat.mod_two_eq_zero_or_one j with b|b;{rw[show j/2*2=j from by omega,a]at d;cases d;exact .inl ⟨b,rfl⟩};{rw[show j/2*2+1=j from by omega,a]at e;cases e;exact .inr ⟨b,rfl⟩}
theorem zhm {P:Program} (w:World) (t D:TypeId) (base:Nat) (e:TypeId) (z:Value) (m:Nat) (j:P.underlying t=some (.slice e)) (g:(P.info? e).map (λr=>(r.zero,r.size,r.bytes))=some (some z,2,m)) (W:z.cells.size=2) (v:Value) (a:List (Value × Value)) (p:w.ownsRow base e 2 v a.length (zau a)) (xv:Value) (NV:List (Value × Value)) (U:Pairs w xv NV) (F:∀ d∈NV,d.1.oneCell'=true/\d.2.oneCell'=true) (B:(a.length + NV.length) * m<=140737488355328) (K:0 < m) (J:base<=w.heap.size) : ∃ i k, (Builtin.append_ #[t, t] D #[v, xv]).run P w = .ok i k/\k.ownsRow base e 2 i (a ++ NV).length (zau (a ++ NV))/\Fr (Own1 v) w k ∧ (i.ownBlock=v.ownBlock\/∃ f,i.ownBlock=some f/\w.heap.size<=f):=by(obtain ⟨i0,g,X,Y,Z⟩:=info_parts g;obtain ⟨l,E,rfl,a5,a7,A⟩:=U;have aa:a.length + NV.length<=140737488355328:=kQ (by have:=Nat.mul_le_mul_left (a.length + NV.length) K;omega) B;have N:zau (a ++ NV)=zau a ++ zau NV:=by simp [zau]);rw [N,yX];by_cases y:NV=[];{subst y;refine ⟨v,w,?_,by simpa [zau] using p,Fr.refl _ _,.inl rfl⟩;rcases p.2 with ⟨rfl,o⟩ | ⟨a4,a2,a3,rfl,a6,hg,C,a8,a9,ab⟩;{have : a = [] := List.eq_nil_of_length_eq_zero o;subst this;cases l with| none=>simp [Builtin.append_,run_underlying j,sizeOf,typeInfo,g,Builtin.lenOf,Builtin.firstCells]| some l=>simp [Builtin.append_,run_underlying j,sizeOf,typeInfo,g,Builtin.lenOf,Builtin.firstCells,loadCells,loadCellsFrom]};{cases l with| none=>simp [Builtin.append_,run_underlying j,sizeOf,typeInfo,g,Builtin.lenOf,Builtin.firstCells,C,storeCells]| some l=>simp [Builtin.append_,run_underlying j,sizeOf,typeInfo,g,Builtin.lenOf,Builtin.firstCells,loadCells,loadCellsFrom,C,storeCells]}};{(obtain ⟨d, V⟩ : ∃ d, NV[0]? = some d := by cases NV with | nil => exact absurd rfl y | cons d ad => exact ⟨d, rfl⟩);obtain ⟨f,c,rfl,_⟩:=A 0 d V;have R:∀ (b:Nat) (h:Value),(zau NV)[b]?=some h->w.cell? ((⟨f,c,none⟩:Addr).add b)=some h:=by{(intro b h O;have I:(⟨f,c,none⟩:Addr).add b=⟨f,c + b,none⟩:=by unfold Addr.add;split <;> simp_all);rw [I];obtain ⟨s,q,L⟩:=yih NV b h O;obtain ⟨b',ae,M,u,x⟩:=A _ s q;cases M;rcases L with ⟨o,rfl⟩ | ⟨o,rfl⟩;{rw [show c + b / 2 * 2=c + b from by omega] at u;exact u};{rw [show c + b / 2 * 2 + 1=c + b from by omega] at x;exact x}};have S:∀ h∈zau NV,h.oneCell'=true:=by{intro h n;obtain ⟨s,q,n⟩:=List.mem_flatMap.1 n;obtain ⟨a0,a1⟩:=F s q;simp at n;rcases n with rfl | rfl;{exact a0};{exact a1}};obtain ⟨i,k,T,G,H,h4,h5⟩:=run_append_own_at (P:=P) w base t D e i0 z 2 m j g X Y Z W (by decide) v a.length (zau a) p ⟨f,c,none⟩ NV.length E (zau NV) (zcv NV) R S (by unfold maxLen;omega) B J;refine ⟨i,k,T,G,(Fr.refl (Own1 v) w).grown H (λac Q _=>Q),?_⟩;rcases h5 with h5 | h5;{exact .inl h5};{exact .inr ⟨_,h5,xW _⟩}}
theorem zi7 {P:Program}{w:World}{l:Array Oper}{b:Oper}{a:Act}{K:Act->World->Prop}{n:Exit->Act->World->Prop}{m:Prop}(f:World)(j:Fr NoM f w)(y:b.guard=none)(s x:Operand)(t:TypeId) (C:b.op=Op.call { callee:=Callee.builtin Builtin.append,args:=#[s,x],argTypes:=#[t,t] }) (e:TypeId) (z:Value) (g:Nat) (G:P.underlying t=some (.slice e)) (A:(P.info? e).map (λi=>(i.zero,i.size,i.bytes))=some (some z,2,g)) (J:z.cells.size=2) (v:Value) (c:List (Value × Value)) (E:a.eval s=v) (k:w.ownsRow f.heap.size e 2 v c.length (zau c)) (xv:Value) (I:a.eval x=xv) (NV:List (Value × Value)) (F:Pairs w xv NV) (o:∀x∈NV,x.1.oneCell'=true/\x.2.oneCell'=true) (B:(c.length+NV.length)*g<=140737488355328) (u:0<g) (r:∀(h:Value) (d:World),d.ownsRow f.heap.size e 2 h (c++NV).length (zau (c++NV))->Fr NoM f d->K (a.put b.dst h) d) : if Region.wanted b (yielded l a.tmps)=true then Oper.wp P b a w K n else m:=by(have H:Region.wanted b (yielded l a.tmps)=true:=by simp[Region.wanted,y]);rw[if_pos H];obtain⟨h,d,D,p,q,L⟩:=zhm (P:=P) w t b.type f.heap.size e z g G A J v c k xv NV F o B u j.size;unfold Oper.wp execOp;simp only[C,resolve,invoke,builtin,Sem.run_bind,Sem.run_pure,Result.andThen_ok,List.map_toArray,List.map_cons,List.map_nil,E,I,D];exact r h d p (j.own k q)
theorem Pairs.one (w:World)(x:Value × Value)(e:TypeId):Pairs (w.alloc (.cells #[x.1,x.2] e)) (.slice (some ⟨w.heap.size,0,none⟩) 1 1) [x] :=
 ⟨_,1,rfl,by simp,by decide,λb c a=>⟨w.heap.size,0,rfl,by
  rcases b with _|b
  ·simp at a;subst a
   exact⟨by rw[World.cell?_alloc_at _ _ _ _ rfl];rfl,by rw[World.cell?_alloc_at _ _ _ _ rfl];rfl⟩
  ·simp at a⟩⟩
theorem zof {P:Program}{w:World}{ops:Array Oper}{o:Oper}{a:Act}{K:Act->World->Prop}{Q:Exit->Act->World->Prop}{E:Prop}(hg:o.guard=none)(s x:Operand)(t:TypeId) (hop:o.op=Op.call { callee:=Callee.builtin Builtin.append,args:=#[s,x],argTypes:=#[t,t] }) (base:Nat) (e:TypeId) (z:Value) (size bytes:Nat) (ht:P.underlying t=some (.slice e)) (hi:(P.info? e).map (λi=>(i.zero,i.size,i.bytes))=some (some z,size,bytes)) (hz:z.cells.size=size) (hs0:0<size) (v:Value) (n:Nat) (xs:List Value) (hs:a.eval s=v) (hown:w.ownsRow base e size v n xs) (b:Nat) (hx:a.eval x=.slice (some ⟨b,0,none⟩) 1 1) (news:List Value) (e':TypeId) (hb':w.heap[b]?=some (.cells news.toArray e' (0,0))) (hl:news.length=size) (h1:∀u∈news,u.oneCell'=true) (hn:(n+1)*bytes<=140737488355328) (hb1:0<bytes) (hb:base<=w.heap.size) (hK:∀(v':Value) (w':World),w'.ownsRow base e size v' (n+1) (xs++news)->Fr (Own1 v) w w'->(v'.ownBlock=v.ownBlock\/∃b,v'.ownBlock=some b/\w.heap.size<=b)->K (a.put o.dst v') w') : if Region.wanted o (yielded ops a.tmps)=true then Oper.wp P o a w K Q else E:=by(have hw:Region.wanted o (yielded ops a.tmps)=true:=by simp[Region.wanted,hg]);rw[if_pos hw];obtain⟨i0,hi,hz0,hz1,hz2⟩:=info_parts hi;have hnn:n+1<=140737488355328:=kQ (by have:=Nat.mul_le_mul_left (n+1) hb1;omega) hn;have hnews:∀(j:Nat) (u:Value),news[j]?=some u->w.cell? ((⟨b,0,none⟩:Addr).add j)=some u:=by{(intro j u hj;have hadd:(⟨b,0,none⟩:Addr).add j=⟨b,0+j,none⟩:=by unfold Addr.add;split <;> simp_all);rw[hadd,Nat.zero_add,xX w b j _ _ _ hb'];simpa using hj};obtain⟨v',w',hr,h2,h3,_,h5⟩:=run_append_own_at (P:=P) w base t o.type e i0 z size bytes ht hi hz0 hz1 hz2 hz hs0 v n xs hown ⟨b,0,none⟩ 1 1 news (by omega) hnews h1 (by unfold maxLen;omega) hn hb;unfold Oper.wp execOp;simp only[hop,resolve,invoke,builtin,Sem.run_bind,Sem.run_pure,Result.andThen_ok,List.map_toArray,List.map_cons,List.map_nil,hs,hx,hr];refine hK v' w' h2 ((Fr.refl (Own1 v) w).grown h3 (λk hk _=>hk)) ?_;rcases h5 with h5|h5;{exact .inl h5};{exact .inr ⟨_,h5,xW _⟩}
theorem zca {P:Program}{w:World}{p:Array Oper}{rest:List Oper}{g:Oper}{a:Act}{m:Exit->Act->World->Prop}(G:g.guard=none)(s x:Operand)(t:TypeId) (K:g.op=Op.call { callee:=Callee.builtin Builtin.append,args:=#[s,x],argTypes:=#[t,t] }) (base:Nat) (e:TypeId) (z:Value) (size j:Nat) (Q:P.underlying t=some (.slice e)) (k:(P.info? e).map (λl=>(l.zero,l.size,l.bytes))=some (some z,size,j)) (S:z.cells.size=size) (O:0<size) (v:Value) (n:Nat) (xs:List Value) (N:a.eval s=v) (L:w.ownsRow base e size v n xs) (b:Nat) (R:a.eval x=.slice (some ⟨b,0,none⟩) 1 1) (d:List Value) (q:TypeId) (E:w.heap[b]?=some (.cells d.toArray q (0,0))) (Y:d.length=size) (r:∀h∈d,h.oneCell'=true) (o:(n+1)*j<=140737488355328) (F:0<j) (D:base<=w.heap.size) (A:∀(f:Value) (i:World),i.ownsRow base e size f (n+1) (xs++d)->Fr (Own1 v) w i->(f.ownBlock=v.ownBlock\/∃b,f.ownBlock=some b/\w.heap.size<=b)->wpList P p m rest (a.put g.dst f) i) : wpList P p m (g::rest) a w:=by refine wpList_plain G λX B=>?_;obtain⟨W,k,T,U,V⟩:=info_parts k;have Z:n+1<=140737488355328:=kQ (by have:=Nat.mul_le_mul_left (n+1) F;omega) o;have J:∀(c:Nat) (h:Value),d[c]?=some h->w.cell? ((⟨b,0,none⟩:Addr).add c)=some h:=by{(intro c h H;have C:(⟨b,0,none⟩:Addr).add c=⟨b,0+c,none⟩:=by unfold Addr.add;split <;> simp_all);rw[C,Nat.zero_add,xX w b c _ _ _ E];simpa using H};obtain⟨f,i,M,u,y,_,h5⟩:=run_append_own_at (P:=P) w base t g.type e W z size j Q k T U V S O v n xs L ⟨b,0,none⟩ 1 1 d (by omega) J r (by unfold maxLen;omega) o D;unfold Oper.wp execOp;simp only[K,resolve,invoke,builtin,Sem.run_bind,Sem.run_pure,Result.andThen_ok,List.map_toArray,List.map_cons,List.map_nil,N,R,M];refine B _ _ (A f i u ((Fr.refl (Own1 v) w).grown y (λa0 I _=>I)) ?_);rcases h5 with h5|h5;{exact .inl h5};{exact .inr ⟨_,h5,xW _⟩}
structure KeyAt {κ:Type}(P:Program) (kt:TypeId) (ek:κ->Value):Prop where
 inj:∀ {a b:κ},ek a=ek b->a=b
 check:∀(w:World) (em:Bool) (k:κ),(Instr.checkKey em 10000 kt (ek k)).run P w=.ok () w
 find:∀(w:World) (k:κ) (es:List MapEntry),(∀e∈es,∃k',e.key=ek k') ->
  ((Instr.findKey kt (ek k) es).run P w=.ok none w/\∀e∈es,e.key≠ek k)\/∃j e,(Instr.findKey kt (ek k) es).run P w=.ok (some (j,e.val)) w/\es[j]?=some e/\e.key=ek k
 stays:∀(w:World) (k:κ),(Instr.keyThatStays (ek k) (ek k)).run P w=.ok (ek k) w
theorem KeyAt.plain {l:Type}{P:Program}{k:TypeId}{d:TypeDesc}{b:l->Value}(h:P.underlying k=some d)(e:∀a,MapKept.IsKey d (b a))(n:∀ {i j:l},b i=b j->i=j):KeyAt P k b where
 inj:=n
 check w em a:=MapKept.run_checkKey h (e a) em 9999
 find w a es he:=by
  rcases MapKept.findNow_spec (e a) es 0 (λr o=>by obtain⟨q,f⟩:=he r o;rw[f];exact e q)with ⟨c,g⟩|⟨p,f,c,g,m⟩
  ·exact .inl ⟨MapKept.run_findKey h c,g⟩
  ·exact .inr ⟨p,f,by rw[Nat.zero_add]at c;exact MapKept.run_findKey h c,g,m⟩
 stays w a:=MapKept.run_keyThatStays (e a)
theorem zzx {a b:Nat}(h:encN a=encN b):a=b:=by unfold encN at h;simp only[Value.int.injEq,true_and]at h;omega
theorem KeyAt.nat {P:Program}{a:TypeId}(b:P.underlying a=some (.int .i64)):KeyAt P a encN:=.plain b (λ_=>by simp[encN,MapKept.IsKey]) zzx
def MapF {h g:Type}(e:h->Value)(k:g->Value)(w:World)(i:Nat)(f:h->Option g):Prop :=
 ∃d j,w.heap[i]?=some (.map d j)/\(d.toList.map (·.key)).Nodup/\(∀c∈d.toList,∃a b,c.key=e a/\c.val=k b/\f a=some b)/\∀a b,f a=some b->∃c∈d.toList,c.key=e a
def upd {b c:Type}[DecidableEq b](f:b->Option c)(k:b)(a:c):b->Option c:=λd=>if d=k then some a else f d
section
variable {κ α:Type}{ek:κ->Value}{ev:α->Value}{w w':World}{b:Nat}{f:κ->Option α}
theorem MapF.fr {M:Nat->Prop}(d:MapF ek ev w b f)(i:Fr M w w')(h:¬M b):MapF ek ev w' b f:=by obtain⟨c,a,e,g⟩:=d;exact⟨c,a,i.heap e h,g⟩
theorem MapF.lt (a:MapF ek ev w b f):b<w.heap.size:=by obtain⟨e,d,c,_⟩:=a;exact(yZ.1 c).1
theorem MapF.made (a:κ->Value)(b:α->Value)(w:World):MapF a b (w.alloc (.map #[] 0)) w.heap.size (λ_=>none) :=
 ⟨#[],0,xJ w _,by simp,by simp,by simp⟩
theorem MapF.look {P:Program}{p l t:TypeId}{z:Value}(u:MapF ek ev w b f)(K:KeyAt P p ek)(o:P.underlying t=some (.map p l))(B:(zeroValue l).run P w=.ok z w)(k:κ)(c:Bool) :
  (Instr.lookup t (.map (some b)) (ek k) c).run P w=.ok (if c then .tuple #[((f k).map ev).getD z,.bool (f k).isSome]else ((f k).map ev).getD z) w:=by
 obtain⟨s,C,n,D,m,v⟩:=u;rcases K.find w k s.toList (λa h=>by obtain⟨e,_,d,_⟩:=m a h;exact⟨e,d⟩)with ⟨i,g⟩|⟨E,a,i,g,x⟩
 ·have y:f k=none:=by
   cases A:f k with
   | none=>rfl
   | some j=>obtain⟨a,h,d⟩:=v k j A;exact absurd d (g a h)
  simp[Instr.lookup,run_underlying o,MapKept.run_getObj_map n,K.check w _ k,i,B,Result.andThen,y]
 ·obtain⟨e,j,d,q,r⟩:=m a (xK g)
  have:e=k:=K.inj (d.symm.trans x);subst this
  simp[Instr.lookup,run_underlying o,MapKept.run_getObj_map n,K.check w _ e,i,Result.andThen,q,r]
theorem zum {r:Nat}{es:Array MapEntry}{clock:Nat}(c:Obj)(w:World):Fr (λa=>a=r) w { w with heap:=w.heap.setIfInBounds r c } :=
 ⟨rfl,rfl,rfl,by simp,λa _ b=>by simp[Array.getElem?_setIfInBounds,Ne.symm b]⟩
theorem MapF.store [DecidableEq κ]{P:Program}{N R t:TypeId}(S:MapF ek ev w b f)(K:KeyAt P N ek)(J:P.underlying t=some (.map N R))(k:κ)(a:α) : ∃B,(Instr.mapUpdate t (.map (some b)) (ek k) (ev a)).run P w=.ok () B/\MapF ek ev B b (upd f k a)/\Fr (λz=>z=b) w B:=by obtain⟨e,D,j,x,s,G⟩:=S;have a4:b<w.heap.size:=(yZ.1 j).1;have L:∀(c:MapEntry),c∈e.toList->c.key≠ek k->∃g h,c.key=ek g/\c.val=ev h/\upd f k a g=some h:=by{intro c d a0;obtain⟨g,h,i,E,F⟩:=s c d;refine⟨g,h,i,E,?_⟩;unfold upd;rw[if_neg (λz=>a0 (by rw[i,z])),F]};rcases K.find w k e.toList (λc d=>by obtain⟨g,_,i,_⟩:=s c d;exact⟨g,i⟩)with ⟨A,n⟩|⟨m,c,A,n,p⟩;{refine⟨_,by simp[Instr.mapUpdate,run_underlying J,MapKept.run_getObj_map j,K.check w _ k,A,MapKept.run_setObj_map _ j,Result.andThen];rfl,⟨_,_,(MapKept.heap_set j).1,?_,?_,?_⟩,zum (es:=e) (clock:=D) _ w⟩;{rw[Array.toList_push,vZ,List.map_singleton,List.nodup_append];refine⟨x,by simp,λC q a5 M=>?_⟩;obtain⟨c,d,rfl⟩:=y8.1 q;simp at M;rw[M];exact n c d};{intro c d;rw[Array.toList_push,y6,x9]at d;rcases d with d|rfl;{exact L c d (n c d)};{exact⟨k,a,rfl,rfl,by simp[upd]⟩}};{intro g h u;rw[Array.toList_push];unfold upd at u;split at u;{subst_vars;exact⟨_,List.mem_append_right _ (x9.2 rfl),rfl⟩};{obtain⟨c,d,i⟩:=G g h u;exact⟨c,vQ _ d,i⟩}}};{obtain⟨g,h,i,E,F⟩:=s c (xK n);(have o:e[m]?=some c:=by simpa using n);(have I:m<e.size:=(yZ.1 o).1;have X:((e[m]?).map (·.key)).getD (ek k)=ek k:=by rw[o];exact p);refine⟨_,by simp[Instr.mapUpdate,run_underlying J,MapKept.run_getObj_map j,K.check w _ k,A,X,K.stays w k,MapKept.run_setObj_map _ j,Result.andThen];rfl,⟨_,_,(MapKept.heap_set j).1,?_,?_,?_⟩,zum (es:=e) (clock:=D) _ w⟩;{rw[MapKept.modify_keys m _ (λr l=>by rw[o]at l;cases l;exact p.symm)];exact x};{intro C q;obtain⟨a3,H,rfl⟩:=uY q;simp only[Array.length_toList,Array.size_modify]at H;simp only[Array.getElem_toList,Array.getElem_modify];split;{exact⟨k,a,rfl,rfl,by simp[upd]⟩};{rename_i T;(refine L _ (by simp) (λW=>T ?_);have V:m<(e.toList.map (·.key)).length:=by simpa using I);(have U:a3<(e.toList.map (·.key)).length:=by simpa using H);refine(List.getElem_inj (h₀:=V) (h₁:=U) x).1 ?_;simp only[List.getElem_map,Array.getElem_toList];rw[W,<-p];rw[Array.getElem?_eq_getElem I]at o;cases o;rfl}};{intro y O v;have Y:=MapKept.modify_keys (es:=e) m (λc=>{ c with key:=ek k,val:=ev a }) (λr l=>by rw[o]at l;cases l;exact p.symm);unfold upd at v;have:∃c∈e.toList,c.key=ek y:=by{split at v;{subst_vars;exact⟨c,xK n,p⟩};{exact G y O v}};obtain⟨r,l,Q⟩:=this;(have Z:ek y∈(e.modify m λc=>{ c with key:=ek k,val:=ev a }).toList.map (·.key):=by rw[Y];exact y8.2 ⟨r,l,Q⟩);obtain⟨C,q,a1⟩:=y8.1 Z;exact⟨C,q,a1⟩}}
end
def encP (x:Nat × Nat):Value:=.agg #[.int .i64 (x.1:Int),.int .i64 (x.2:Int)]
theorem zzv {a b:Nat × Nat}(c:encP a=encP b):a=b:=by unfold encP at c;simp only[Value.agg.injEq,Array.mk.injEq,List.cons.injEq,Value.int.injEq,true_and,and_true]at c;exact Prod.ext (by omega) (by omega)
theorem zrz (a b:Int)(w:World):(Instr.build 174 #[(0,.int .i64 a),(1,.int .i64 b)]).run Tryz.prog w=.ok (.agg #[.int .i64 a,.int .i64 b]) w:=run_build w 174 _ _ (by kernel_rfl)
theorem ynu (a b c d:Int)(w:World):(Op.equal 174 (.agg #[.int .i64 a,.int .i64 b]) (.agg #[.int .i64 c,.int .i64 d])).run Tryz.prog w=.ok (a == c && b == d) w:=by have u3:=Tryz.underlying3;show(Op.equalIn (9999+1) 174 _ _).run Tryz.prog w=_;rw[Op.equalIn];simp only[Sem.run_bind,run_underlying Tryz.underlying174,Result.andThen_ok];simp only[Std.Legacy.Range.forIn_eq_forIn_range',Std.Legacy.Range.size,Nat.sub_zero,Nat.add_sub_cancel,Nat.div_one,List.range'_succ,List.range'_zero,List.forIn_cons,List.forIn_nil];go_simp;by_cases e:a=c <;> by_cases f:b=d <;> simp[e,f]
theorem ynv (a b:Nat × Nat)(w:World):(Op.equal 174 (encP a) (encP b)).run Tryz.prog w=.ok (decide (a=b)) w:=by unfold encP;rw[ynu];have:(((a.1:Int) == (b.1:Int)) && ((a.2:Int) == (b.2:Int)))=decide (a=b):=by{rw[Bool.eq_iff_iff,Bool.and_eq_true,beq_iff_eq,beq_iff_eq,kV];constructor;{rintro⟨c,d⟩;exact Prod.ext (by omega) (by omega)};{rintro rfl;exact⟨rfl,rfl⟩}};rw[this]
theorem yc3 (a:Bool)(x:Nat × Nat)(w:World):(Instr.checkKey a 10000 174 (encP x)).run Tryz.prog w=.ok () w:=by have u3:=Tryz.underlying3;unfold encP;show(Instr.checkKey a (9999+1) 174 _).run Tryz.prog w=_;rw[Instr.checkKey];simp only[Sem.run_bind,run_underlying Tryz.underlying174,Result.andThen_ok];simp only[Std.Legacy.Range.forIn_eq_forIn_range',Std.Legacy.Range.size,Nat.sub_zero,Nat.add_sub_cancel,Nat.div_one,List.range'_succ,List.range'_zero,List.forIn_cons,List.forIn_nil];have c:∀b (w:World),(Instr.checkKey a 9999 3 (.int .i64 b)).run Tryz.prog w=.ok () w:=λb w=>by{show(Instr.checkKey a (9998+1) 3 _).run Tryz.prog w=_;rw[Instr.checkKey];simp[run_underlying u3]};go_simp
theorem yfh (w:World)(k:Nat × Nat):∀(es:List MapEntry) (i:Nat),(∀e∈es,∃k',e.key=encP k') -> ((Instr.findAsking 174 (encP k) es i).run Tryz.prog w=.ok none w/\∀e∈es,e.key≠encP k)\/∃j e,(Instr.findAsking 174 (encP k) es i).run Tryz.prog w=.ok (some (i+j,e.val)) w/\es[j]?=some e/\e.key=encP k:=by intro es;induction es with| nil=>{intro i _;exact .inl ⟨by simp[Instr.findAsking],by simp⟩}| cons e l ih =>{intro i h;obtain⟨k',hk'⟩:=h e uX;have hq:=ynv k k' w;rw[<-hk']at hq;by_cases hkk:k=k';{subst hkk;rw[vJ rfl]at hq;exact .inr ⟨0,e,by rw[Instr.findAsking];simp[hq],rfl,hk'⟩};{rw[vV hkk]at hq;have hne:e.key≠encP k:=λq=>hkk (zzv (q.symm.trans hk'));rcases ih (i+1) (λx hx=>h x (uJ _ hx))with ⟨h1,h2⟩|⟨j,e',h1,h2,h3⟩;{refine .inl ⟨by rw[Instr.findAsking];simp[hq,h1],λx hx=>?_⟩;rcases kW.1 hx with rfl|hx;{exact hne};{exact h2 x hx}};{exact .inr ⟨j+1,e',by rw[Instr.findAsking];simp[hq,h1];omega,h2,h3⟩}}}
theorem zmy:KeyAt Tryz.prog 174 encP where
 inj:=zzv
 check w em k:=yc3 em k w
 find w k es he:=by
  rw[run_findKey_eq w (by kernel_rfl) (encP k) es];rcases yfh w k es 0 he with c|⟨g,b,a,d,e⟩
  ·exact .inl c
  ·rw[Nat.zero_add]at a
   exact .inr ⟨g,b,a,d,e⟩
 stays w k:=by
  have f:Instr.sameBits 10000 (encP k) (encP k)=true:=by
   show Instr.sameBits (9999+1) (encP k) (encP k)=true
   unfold encP;simp[Instr.sameBits]
  simp[Instr.keyThatStays,f]
theorem yot:(Tryz.prog.info? 29).map (λa=>(a.zero,a.size,a.bytes))=some (some (.agg #[.int .i64 0,.int .i64 0]),2,16):=by kernel_rfl
abbrev NX:Type:=Bool × (Int × Nat) × Int × Nat
def zgs (x:NX):List Value:=[.bool x.1,.int .i64 x.2.1.1,.int .i64 (x.2.1.2:Int),.int .i64 x.2.2.1,.int .i64 (x.2.2.2:Int)]
def encX (x:NX):Value:=.agg #[.bool x.1,.int .i64 x.2.1.1,.int .i64 (x.2.1.2:Int),.int .i64 x.2.2.1,.int .i64 (x.2.2.2:Int)]
def ze8 (L:List NX):List Value:=L.flatMap zgs
theorem zun (L:List NX):(ze8 L).length=L.length*5:=by unfold ze8;induction L with| nil=>rfl| cons b L a=>rw[List.flatMap_cons,yX,a,List.length_cons];show 5+L.length*5=_;omega
theorem zmz (L:List NX)(x:NX):ze8 (L ++ [x])=ze8 L++zgs x:=by simp[ze8]
theorem yfc (L:List NX)(j:Nat)(x:NX)(a:L[j]?=some x)(i:Nat)(e:i<5):(ze8 L)[j*5+i]?=(zgs x)[i]?:=by induction L generalizing j with| nil=>simp at a| cons b L c =>{show(zgs b++ze8 L)[j*5+i]?=_;have d:(zgs b).length=5:=rfl;match j with| 0 =>{rw[List.getElem?_cons_zero]at a;cases a;rw[Nat.zero_mul,Nat.zero_add,yV (by omega)]}| j+1 =>{rw[kK (by omega),<-c j (by simpa using a)];congr 1;omega}}
def Fives (w:World) (v:Value) (L:List NX):Prop :=
  ∃ f e, v = .slice f L.length e/\L.length<=e/\e<=9223372036854775807 ∧
    ∀ (b : Nat) (d : NX), L[b]? = some d->∃ a c, f = some ⟨a, c, none⟩/\w.cell? ⟨a, c + b * 5, none⟩ = some (.bool d.1)/\w.cell? ⟨a, c + b * 5 + 1, none⟩ = some (.int .i64 d.2.1.1) ∧
      w.cell? ⟨a,c + b * 5 + 2,none⟩=some (.int .i64 (d.2.1.2:Int))/\w.cell? ⟨a,c + b * 5 + 3,none⟩=some (.int .i64 d.2.2.1)/\w.cell? ⟨a,c + b * 5 + 4,none⟩=some (.int .i64 (d.2.2.2:Int))
theorem Fives.fr {M:Nat->Prop}{w d:World}{v:Value}{L:List NX}(l:Fives w v L)(b:Fr M w d)(c:∀a,v.ownBlock=some a->¬M a):Fives d v L:=by obtain⟨e,f,rfl,m,n,o⟩:=l;refine⟨e,f,rfl,m,n,λq s p=>?_⟩;obtain⟨a,r,rfl,g,h,i,j,k⟩:=o q s p;exact⟨a,r,rfl,b.cell g (c a rfl),b.cell h (c a rfl),b.cell i (c a rfl),b.cell j (c a rfl),b.cell k (c a rfl)⟩
theorem Fives.fr0 {w a:World}{v:Value}{L:List NX}(b:Fives w v L)(c:Fr NoM w a):Fives a v L:=b.fr c λ_ _ d=>d
theorem Fives.of_owns {w:World}{v:Value}{L:List NX}{base:Nat}{e:TypeId}{n:Nat}(g:w.ownsRow base e 5 v n (ze8 L)):Fives w v L:=by(have r:n=L.length:=by have:=g.1;rw[zun]at this;omega);subst r;rcases g.2 with ⟨rfl,m⟩|⟨c,k,l,rfl,x,p,s,o,z,t⟩;{have:L=[]:=List.eq_nil_of_length_eq_zero m;subst this;exact⟨none,0,rfl,xW _,by decide,by simp⟩};{refine⟨_,k,rfl,s,by simpa [maxLen] using o,λd j i=>⟨c,0,rfl,?_⟩⟩;have y:d<L.length:=(xV.1 i).1;have b:∀a f,a<5->(zgs j)[a]?=some f->w.cell? ⟨c,0+d*5+a,none⟩=some f:=λa f q u=>by{rw[Nat.zero_add,xX w c _ l _ _ p];have h:=yfc L d j i a q;rw[<-t,List.getElem?_take,if_pos (by omega),u]at h;simpa using h};exact⟨b 0 _ (by decide) rfl,b 1 _ (by decide) rfl,b 2 _ (by decide) rfl,b 3 _ (by decide) rfl,b 4 _ (by decide) rfl⟩}
theorem ixNX (a:Option Addr)(n c k b d:Nat)(f:k<n)(e:a=some ⟨b,d,none⟩)(w:World) : (Instr.indexAt 58 (.slice a n c) (.int .i64 (k:Int))).run Tryz.prog w=.ok (.pointer (some ⟨b,d+k*5,none⟩)) w:=by subst e;go_simp
theorem zdp (w:World)(n:Nat):Fr NoM w (w.drewN n):=⟨rfl,rfl,rfl,xW _,λ_ _ _=>rfl⟩
def nx0:NX:=(false,(0,0),0,0)
def zhi (A:List NX)(I:List Nat):List NX:=I.map λa=>A.getD a nx0
theorem yb4 (A:List NX)(I:List Nat){k x:Nat}(a:I[k]?=some x):zhi A (I.take (k+1))=zhi A (I.take k) ++ [A.getD x nx0]:=by unfold zhi;rw[List.take_add_one,a,vZ];rfl
def zke (x:NX):NX:=(x.1,(-x.2.1.1,x.2.1.2),-x.2.2.1,x.2.2.2)
def zcr (A:List NX):List NX:=A.map zke
def zgd (x:NX):Prop:=x.2.1.1.natAbs<=1000000/\x.2.2.1.natAbs<=1000000/\x.2.2.2<=1000000
theorem yan (A:List NX){k:Nat}{y:NX}(a:A[k]?=some y):zcr (A.take (k+1))=zcr (A.take k) ++ [zke y]:=by unfold zcr;rw[List.take_add_one,a,vZ];rfl
theorem zru:(Tryz.prog.info? 62).map (λa=>(a.zero,a.size,a.bytes))=some (some (.agg #[.bool false,.int .i64 0,.int .i64 0,.int .i64 0,.int .i64 0]),5,40):=by kernel_rfl
theorem zmt (w:World):Calls Tryz.prog 57 #[] w λd m=>∃l,d=.returned (.agg #[l])/\NodeL (λp=>w.heap.size<=p) encN m l [([],[])]/\Fr NoM w m:=by(obtain⟨a,c⟩:=eX ((w.alloc (.cells #[.slice (some ⟨w.heap.size+1,0,none⟩) 1 1] 26)).alloc (.cells #[.slice none 0 0,.slice none 0 0] 85));have h:Fr NoM w a:=by rw[c];exact((nW w).alloc _).alloc _);have f:a.heap[w.heap.size]?=some (.cells #[.slice (some ⟨w.heap.size+1,0,none⟩) 1 1] 26 (0,0)):=by{rw[c];exact((nW _).alloc _).heap (xJ w _) id};have g:a.heap[w.heap.size+1]?=some (.cells #[.slice none 0 0,.slice none 0 0] 85 (0,0)):=by{have b:=xJ (w.alloc (.cells #[.slice (some ⟨w.heap.size+1,0,none⟩) 1 1] 26)) (.cells #[.slice none 0 0,.slice none 0 0] 85);rw[xZ]at b;rw[c];exact b};(have k:a.cell? ⟨w.heap.size,0,none⟩=some (.slice (some ⟨w.heap.size+1,0,none⟩) 1 1):=qR f rfl);obtain⟨n,e,o⟩:=Hhp3 h g k;clear h f g k;go_enter Tryz.func57,Tryz.ntmps57;go_upto_region 1 with fail;go_wp2_with fail;rw[<-c];clear c;refine yJ (v:=.agg #[.slice (some ⟨w.heap.size+1,0,none⟩) 1 1]) (by simp[results,Tryz.results57,go_sem,o.o]) rfl ?_;refine⟨_,rfl,?_,n.o⟩;refine⟨_,1,rfl,by simp,by decide,λj q i=>?_⟩;cases j with| zero =>{(have d:([],[])=q:=by simpa using i);subst d;exact⟨w.heap.size+1,0,.slice none 0 0,.slice none 0 0,rfl,Nat.le_succ _,by rw[xX a _ _ _ _ _ e.o];rfl,by rw[xX a _ _ _ _ _ e.o];rfl,SliceOf.nil _ _,SliceOf.nil _ _,λb=>absurd rfl b,λb=>absurd rfl b⟩}| succ j=>simp at i
def yc9 (w:World)(L:List NX)(e:Ending)(b:World):Prop:=∃a,e=.returned a/\Fives b a L/\Fr NoM w b
theorem zrn (F lv:Value)(A:List NX)(I:List Nat)(w:World)(O:Fives w F A)(Q:Nats w lv I)(P:∀(a4 b:Nat),I[a4]?=some b->b<A.length)(N:I.length<=1000000) :
  Calls Tryz.prog 75 #[F,lv] w λe w'=>yc9 w (zhi A I) e w':=by
 obtain⟨w1,m⟩:=eX (w.alloc (.cells #[] 62));have HF:=Hh (show Fr NoM w w1 from by rw[m];exact(nW w).alloc _);have HR:=Hh (show w1.ownsRow w.heap.size 62 5 (.slice (some ⟨w.heap.size,0,none⟩) 0 0) 0 (ze8 (zhi A (I.take 0)))from by
  rw[m];exact yW w #[] 0 (xW _) (by decide) (by simp))
 obtain⟨E,ac,rfl,_,_,V⟩:=id O;obtain⟨la,lc,rfl,_,_,W⟩:=id Q;have B:=Hh (λ(b:Nat) (g:b<A.length)=>show ∃c d,E=some ⟨c,d,none⟩/\∃h:NX,h=A.getD b nx0/\∀f,Fr NoM w f->f.cell? ⟨c,d+b*5,none⟩=some (.bool h.1)/\f.cell? ⟨c,d+b*5+1,none⟩=some (.int .i64 h.2.1.1) ∧
   f.cell? ⟨c,d+b*5+2,none⟩=some (.int .i64 (h.2.1.2:Int))/\f.cell? ⟨c,d+b*5+3,none⟩=some (.int .i64 h.2.2.1)/\f.cell? ⟨c,d+b*5+4,none⟩=some (.int .i64 (h.2.2.2:Int))from by
  obtain⟨c,d,v,p,G,H,J,K⟩:=V b _ (xQ g);refine⟨c,d,v,_,(by simp[List.getD,xQ g];rfl),λf i=>?_⟩;exact⟨i.cell p id,i.cell G id,i.cell H id,i.cell J id,i.cell K id⟩)
 have HL:=Hh (λ(a b:Nat) (g:I[a]?=some b)=>show ∃c d,la=some ⟨c,d,none⟩/\∀f,Fr NoM w f->f.cell? ⟨c,d+a,none⟩=some (.int .i64 (b:Int))from by
  obtain⟨c,d,v,p⟩:=W a b g;exact⟨c,d,v,λf i=>i.cell p id⟩)
 have C:=Hh P;have z:=Hh N;clear O Q V W P N;obtain⟨k,x⟩:=eX I.length;obtain⟨a5,X⟩:=eX A.length;rw[<-x]at z ⊢;rw[<-X]at B C ⊢;have u:=Hh x;clear x X;go_enter Tryz.func75,Tryz.ntmps75;go_upto_region 2 with fail;rw[<-m];have HW:=Hh m;clear m;go_wp2_with fail;go_loopw [5,6] (λv5 y wr=>∃(s:Value) (a:Nat),s=v5/\y=.int .i64 (a:Int)/\a<=k/\wr.ownsRow w.heap.size 62 5 s a (ze8 (zhi A (I.take a)))/\Fr NoM w wr) (λ_ y _=>k-(intOf y).toNat)
 case atStart=>exact⟨_,0,rfl,rfl,yK _,HR.o,HF.o⟩
 case round =>
  obtain⟨s,a,rfl,rfl,hk,r,j⟩:=hrel;by_cases l:a<k
  ·have g:=xQ (show a<I.length by have:=u.o;omega)
   obtain⟨b,Z⟩:=eX (I[a]'(by have:=u.o;omega));rw[<-Z]at g;clear Z;have a0:=C.o a b g;obtain⟨b1,o1,R,T⟩:=HL.o a b g;obtain⟨b2,o2,S,h,hy,U⟩:=B.o b a0;have c0:=T wr j;obtain⟨p,G,H,J,K⟩:=U wr j;have a7:=za9 la k lc a b1 o1 l R;have a8:=ixNX E a5 ac b b2 o2 a0 S;have aL:(a:Int)<(k:Int):=by omega
   have a6:k<=1000000:=z.o;obtain⟨o,t,HX,HY,D,a2,a1⟩:=Hhp7 r j g hy l (show w.heap.size<=wr.heap.size from j.size) (show(a+1)*40<=140737488355328 by omega);clear r j g hy T U hk R S l;go_wp2_with (at_builtin;refine zca rfl _ _ 58 rfl w.heap.size 62 _ 5 40 Tryz.underlying58 zru rfl (by decide) s a (ze8 (zhi A (I.take a))) rfl (by exact za3 o.o ((nW wr).alloc _) kP) wr.heap.size rfl (zgs h) 62 (xJ wr _) rfl (by intro a9 Y;simp[zgs]at Y;rcases Y with rfl|rfl|rfl|rfl|rfl <;> rfl) a1.o (by decide) (by have:=a2.o;simp;omega) ?_);intro v' w7 q L s7;have H7:=Hh q;have F7:=Hh L;clear q L s7;go_wp2;go_roundw
   case rel =>
    have l:=D.o;have q:=H7.o;refine⟨v',a+1,rfl,by go_num,by omega,?_,?_⟩
    ·rw[yb4 A I HX.o,zmz,<-HY.o];exact q
    ·exact Fr.own (e:=62) (size:=5) (n:=a) (xs:=ze8 (zhi A (I.take a))) (t.o.trans ((nW wr).alloc _) kP) (za3 o.o ((nW wr).alloc _) kP) F7.o
   case measure=>have l:=D.o;simp[intOf];omega
  ·have a3:a=k:=by omega
   subst a3;have aL:¬(a:Int)<(a:Int):=by omega
   have o:=Hh r;have t:=Hh j;clear r j;go_wp2;have e:I.take a=I:=by rw[u.o];exact y7
   have M:=o.o;rw[e]at M;go_ret;exact⟨_,rfl,Fives.of_owns M,t.o⟩
abbrev PL:=List Nat × List Nat
def posA (LL:List PL)(x:PL):Nat:=(LL.takeWhile λa=>zap a x).length
def keyF (A:List Nat)(y:PL):PL:=(zaf (za2 A y.1),zaf (za2 A y.2))
def insF (s:List PL × List Nat)(x:PL)(k:Nat):List PL × List Nat :=
 (s.1.take (posA s.1 x)++x::s.1.drop (posA s.1 x),s.2.take (posA s.1 x)++k::s.2.drop (posA s.1 x))
def zfx (NL:List PL)(BL:List Nat)(b:List Bool)(A:List Nat)(a:Nat)(s:List PL × List Nat)(k:Nat):List PL × List Nat :=
 if b.getD k false=true/\BL.getD k 0=a then insF s (keyF A (NL.getD k ([],[]))) k else s
def zei (NL:List PL)(BL:List Nat)(b:List Bool)(A:List Nat)(a n:Nat):List PL × List Nat:=(List.range n).foldl (zfx NL BL b A a) ([],[])
def layF (s:List Nat × List PL)(p:PL × Nat):List Nat × List PL:=(s.1.set p.2 s.2.length,s.2 ++ [p.1])
def yc6 (NL:List PL)(BL:List Nat)(need:List Bool)(root:Nat)(s:List Nat × List PL)(born:Nat):List Nat × List PL :=
 (List.zip (zei NL BL need s.1 born (root+1)).1 (zei NL BL need s.1 born (root+1)).2).foldl layF s
def zay (NL:List PL)(BL:List Nat)(b:List Bool)(a n:Nat):List Nat × List PL:=(List.range n).foldl (yc6 NL BL b a) (List.replicate (a+1) 0,[])
def zdh (NL:List PL)(BL:List Nat)(a:Nat):List PL:=(zay NL BL (zam NL a) a (BL.getD a 0+1)).2
theorem zf8 (NL:List PL)(BL:List Nat)(b:List Bool)(A:List Nat)(a n:Nat):zei NL BL b A a (n+1)=zfx NL BL b A a (zei NL BL b A a n) n:=by simp[zei,List.range_succ]
theorem zhb (NL:List PL)(BL:List Nat)(a:List Bool)(b n:Nat):zay NL BL a b (n+1)=yc6 NL BL a b (zay NL BL a b n) n:=by simp[zay,List.range_succ]
theorem zhe (NL:List PL)(m:List Bool)(k:Nat):(zcg NL m k).length=m.length:=by unfold zcg;split;{rw[zb1,zb1]};{rfl}
theorem zhf (NL:List PL)(n:Nat)(m:List Bool):(zbz NL n m).length=m.length:=by induction n generalizing m with| zero=>rfl| succ n a=>unfold zbz;rw[a,zhe]
theorem zkg (NL:List PL)(a:Nat):(zam NL a).length=a+1:=by unfold zam;rw[zhf];simp
theorem ymi (LL:List PL)(x:PL):posA LL x<=LL.length:=(List.takeWhile_sublist _).length_le
theorem ymk (LL:List PL)(x:PL)(k:Nat)(c:k<=LL.length)(f:∀b a,b<k->LL[b]?=some a->zap a x=true)(g:∀a,LL[k]?=some a->zap a x=false):posA LL x=k:=by induction LL generalizing k with| nil=>simp at c;subst c;rfl| cons e l i =>{cases k with| zero=>have:=g e rfl;simp[posA,List.takeWhile_cons,this]| succ k =>{have h:=f 0 e (by omega) rfl;have:=i k (by simpa using c) (λb a j d=>f (b+1) a (by omega) (by simpa using d)) (λa d=>g a (by simpa using d));simp only[posA,List.takeWhile_cons,h,if_true,List.length_cons]at this ⊢;omega}}
theorem zxf (s:List PL × List Nat)(x:PL)(k:Nat)(a:s.1.length=s.2.length):(insF s x k).1.length=s.1.length+1/\(insF s x k).2.length=s.2.length+1:=by have:=ymi s.1 x;simp only[insF,yX,kJ,List.length_cons,List.length_drop];omega
theorem zhq (NL:List PL)(BL:List Nat)(b:List Bool)(A:List Nat)(a n:Nat):(zei NL BL b A a n).1.length=(zei NL BL b A a n).2.length/\(zei NL BL b A a n).1.length<=n:=by induction n with| zero=>simp[zei]| succ n c =>{rw[zf8];unfold zfx;split;{have:=zxf _ (keyF A (NL.getD n ([],[]))) n c.1;omega};{omega}}
theorem yi9 (s:List PL × List Nat)(x:PL)(k y:Nat):y∈(insF s x k).2↔y∈s.2\/y=k:=by simp only[insF,y6,kW];constructor;{rintro(a|a|a);{exact .inl (List.mem_of_mem_take a)};{exact .inr a};{exact .inl (List.mem_of_mem_drop a)}};{rintro(a|a);{rw[<-List.take_append_drop (posA s.1 x) s.2,y6]at a;rcases a with a|a;{exact .inl a};{exact .inr (.inr a)}};{exact .inr (.inl a)}}
theorem zyt (NL:List PL)(BL:List Nat)(need:List Bool)(A:List Nat)(born n:Nat):∀y∈(zei NL BL need A born n).2,y<n:=by induction n with| zero=>simp[zei]| succ n ih =>{rw[zf8];unfold zfx;intro y hy;split at hy;{rcases (yi9 _ _ _ _).1 hy with h|h;{have:=ih y h;omega};{omega}};{have:=ih y hy;omega}}
theorem ze6 (l:List (PL × Nat))(s:List Nat × List PL):(l.foldl layF s).1.length=s.1.length/\(l.foldl layF s).2.length=s.2.length+l.length:=by induction l generalizing s with| nil=>simp| cons b l a =>{rw[List.foldl_cons];have:=a (layF s b);simp only[layF,List.length_set,yX,List.length_cons,List.length_nil]at this ⊢;omega}
theorem zdu (NL:List PL)(BL:List Nat)(b:List Bool)(a n:Nat):(zay NL BL b a n).1.length=a+1/\(zay NL BL b a n).2.length<=n*(a+1):=by induction n with| zero=>simp[zay]| succ n e =>{rw[zhb];unfold yc6;have c:=ze6 (List.zip (zei NL BL b (zay NL BL b a n).1 n (a+1)).1 (zei NL BL b (zay NL BL b a n).1 n (a+1)).2) (zay NL BL b a n);have d:=zhq NL BL b (zay NL BL b a n).1 n (a+1);rw[List.length_zip]at c;rw[Nat.succ_mul];omega}
def NodeRow (T:Nat->Prop) (base:Nat) (w:World) (v:Value) (LL:List PL):Prop :=
  ∃ d : List (Value × Value), w.ownsRow base 85 2 v d.length (zau d)/\d.length = LL.length ∧
    ∀ (e:Nat) (b:Value × Value) (c:PL),d[e]?=some b->LL[e]?=some c->Nats w b.1 c.1/\Nats w b.2 c.2/\(c.1≠[]->∀ a,b.1.ownBlock=some a->T a)/\(c.2≠[]->∀ a,b.2.ownBlock=some a->T a)
section
variable {T:Nat->Prop}{base:Nat}{w w':World}{v:Value}{LL:List PL}
theorem NodeRow.fr {M:Nat->Prop}(j:NodeRow T base w v LL)(c:Fr M w w')(n:∀a,v.ownBlock=some a->¬M a)(f:∀a,T a->¬M a):NodeRow T base w' v LL:=by obtain⟨i,k,l,m⟩:=j;refine⟨i,za3 k c n,l,λq t u o p=>?_⟩;obtain⟨r,s,g,h⟩:=m q t u o p;exact⟨r.fr c (λd b e=>f b (g d b e)),s.fr c (λd b e=>f b (h d b e)),g,h⟩
theorem NodeRow.fr0 (a:NodeRow T base w v LL)(b:Fr NoM w w'):NodeRow T base w' v LL:=a.fr b kP kP
theorem NodeRow.mono {g:Nat->Prop}(l:NodeRow T base w v LL)(h:∀a,T a->a<w.heap.size->g a):NodeRow g base w v LL:=by obtain⟨k,m,n,o⟩:=l;refine⟨k,m,n,λr u x p q=>?_⟩;obtain⟨i,j,s,t⟩:=o r u x p q;refine⟨i,j,λc e d=>h e (s c e d) ?_,λc e d=>h e (t c e d) ?_⟩;{obtain⟨a,b,f⟩:=i.block c;rw[d]at b;cases b;exact f};{obtain⟨a,b,f⟩:=j.block c;rw[d]at b;cases b;exact f}
theorem NodeRow.nodeL {R:Nat->Prop}(s:NodeRow T base w v LL)(y:∀a,base<=a->R a)(l:∀a,T a->R a):NodeL R encN w v LL:=by obtain⟨h,i,j,t⟩:=s;have d:=λa d=>(i.lt a d).1;obtain⟨o,p,rfl,k,u,x⟩:=Pairs.of_owns i;rw[j]at k d ⊢;refine⟨o,p,rfl,k,u,λe F n=>?_⟩;have z:=(xV.1 n).1;obtain⟨b,m⟩:∃b,h[e]?=some b:=⟨h[e]'(by rw[j];exact z),xQ _⟩;obtain⟨a,A,rfl,q,r⟩:=x e b m;obtain⟨B,C,D,E⟩:=t e b F m n;exact⟨a,A,b.1,b.2,rfl,y a (d a rfl),q,r,B,C,λf c g=>l c (D f c g),λf c g=>l c (E f c g)⟩
def NodeOwn (D:Nat)(w:World)(v:Value)(LL:List PL):Prop:=∃(b:Nat->Prop) (c:Nat),NodeRow b c w v LL/\D<=c/\(∀a,b a->D<=a)/\∀a,v.ownBlock=some a->¬b a
theorem NodeOwn.nodeL {D:Nat}(b:NodeOwn D w v LL):NodeL (λa=>D<=a) encN w v LL:=by obtain⟨g,h,c,d,e,_⟩:=b;exact c.nodeL (λa f=>kQ d f) e
theorem NodeOwn.fr {M:Nat->Prop}{D:Nat}(k:NodeOwn D w v LL)(m:Fr M w w')(h:∀i,D<=i->¬M i):NodeOwn D w' v LL:=by obtain⟨j,d,e,f,g,l⟩:=k;have c:∀a,v.ownBlock=some a->d<=a:=by{obtain⟨o,n,_⟩:=e;exact λa c=>(n.lt a c).1};exact⟨j,d,e.fr m (λa b=>h a (kQ f (c a b))) (λa b=>h a (g a b)),f,g,l⟩
theorem NodeOwn.mono {D D':Nat}(d:NodeOwn D w v LL)(a:D'<=D):NodeOwn D' w v LL:=by obtain⟨b,c,e,f,g,h⟩:=d;exact⟨b,c,e,kQ a f,λj i=>kQ a (g j i),h⟩
end
theorem zi6 {P:Program}{w:World}{j:Array Oper}{b:Oper}{a:Act}{K:Act->World->Prop}{l:Exit->Act->World->Prop}{k:Prop}(base:Nat)(r:base<=w.heap.size)(y:b.guard=none)(s x:Operand)(t:TypeId) (C:b.op=Op.call { callee:=Callee.builtin Builtin.append,args:=#[s,x],argTypes:=#[t,t] }) (e:TypeId) (z:Value) (g:Nat) (H:P.underlying t=some (.slice e)) (A:(P.info? e).map (λh=>(h.zero,h.size,h.bytes))=some (some z,2,g)) (L:z.cells.size=2) (v:Value) (c:List (Value × Value)) (F:a.eval s=v) (D:w.ownsRow base e 2 v c.length (zau c)) (xv:Value) (J:a.eval x=xv) (NV:List (Value × Value)) (G:Pairs w xv NV) (m:∀x∈NV,x.1.oneCell'=true/\x.2.oneCell'=true) (B:(c.length+NV.length)*g<=140737488355328) (u:0<g) (q:∀(d:Value) (f:World),f.ownsRow base e 2 d (c++NV).length (zau (c++NV))->Fr (Own1 v) w f->(d.ownBlock=v.ownBlock\/∃i,d.ownBlock=some i/\w.heap.size<=i)->K (a.put b.dst d) f) : if Region.wanted b (yielded j a.tmps)=true then Oper.wp P b a w K l else k:=by(have I:Region.wanted b (yielded j a.tmps)=true:=by simp[Region.wanted,y]);rw[if_pos I];obtain⟨d,f,E,n,o,p⟩:=zhm (P:=P) w t b.type base e z g H A L v c D xv NV G m B u r;unfold Oper.wp execOp;simp only[C,resolve,invoke,builtin,Sem.run_bind,Sem.run_pure,Result.andThen_ok,List.map_toArray,List.map_cons,List.map_nil,F,J,E];exact q d f n o p
theorem yez {d:Type}(l:List d)(a:d)(j i:Nat)(f:j<=l.length):(l.take j++a::l.drop j)[i]?=if i<j then l[i]? else if i=j then some a else l[i-1]?:=by(have e:(l.take j).length=j:=by simp;omega);by_cases b:i<j;{rw[if_pos b,yV (by omega),List.getElem?_take,if_pos b]};{rw[if_neg b,kK (by omega),e];by_cases c:i=j;{subst c;simp};{rw[if_neg c,show i-j=(i-j-1)+1 from by omega,List.getElem?_cons_succ,List.getElem?_drop];congr 1;omega}}
theorem zp1 {T:Nat->Prop}{base:Nat}{w:World}{v:Value}{LL:List PL}{NV:List (Value × Value)}{x:PL}{xv:Value × Value}{j:Nat}(l:w.ownsRow base 85 2 v (NV.take j++xv::NV.drop j).length (zau (NV.take j++xv::NV.drop j))) (o:NV.length=LL.length) (m:j<=LL.length) (k:∀(d:Nat) (x:Value × Value) (e:PL),NV[d]?=some x->LL[d]?=some e->Nats w x.1 e.1/\Nats w x.2 e.2/\(e.1≠[]->∀a,x.1.ownBlock=some a->T a)/\(e.2≠[]->∀a,x.2.ownBlock=some a->T a)) (n:Nats w xv.1 x.1/\Nats w xv.2 x.2/\(x.1≠[]->∀a,xv.1.ownBlock=some a->T a)/\(x.2≠[]->∀a,xv.2.ownBlock=some a->T a)):NodeRow T base w v (LL.take j++x::LL.drop j):=by refine⟨_,l,by simp;omega,λd f g b c=>?_⟩;rw[yez NV xv j d (by omega)]at b;rw[yez LL x j d m]at c;by_cases h:d<j;{rw[if_pos h]at b c;exact k d f g b c};{rw[if_neg h]at b c;by_cases i:d=j;{rw[if_pos i]at b c;cases b;cases c;exact n};{rw[if_neg i]at b c;exact k _ f g b c}}
theorem zu9 {T:Nat->Prop}{base:Nat}{w:World}{v:Value}{LL:List PL}{NV:List (Value × Value)}{x:PL}{xv:Value × Value}(e:w.ownsRow base 85 2 v (NV ++ [xv]).length (zau (NV ++ [xv]))) (c:NV.length=LL.length) (f:∀(d:Nat) (x:Value × Value) (b:PL),NV[d]?=some x->LL[d]?=some b->Nats w x.1 b.1/\Nats w x.2 b.2/\(b.1≠[]->∀a,x.1.ownBlock=some a->T a)/\(b.2≠[]->∀a,x.2.ownBlock=some a->T a)) (g:Nats w xv.1 x.1/\Nats w xv.2 x.2/\(x.1≠[]->∀a,xv.1.ownBlock=some a->T a)/\(x.2≠[]->∀a,xv.2.ownBlock=some a->T a)):NodeRow T base w v (LL ++ [x]):=by have:=zp1 (NV:=NV) (LL:=LL) (x:=x) (xv:=xv) (j:=LL.length) (v:=v) (by rw[<-c,y7,List.drop_length];exact e) c (xW _) f g;rw[y7,List.drop_length]at this;exact this
theorem zz7 {w:World}{v:Value}{L:List Nat}(a:Nats w v L):v.oneCell'=true:=by obtain⟨b,c,rfl,_⟩:=a;rfl
theorem zd3 {w:World}{a:Nat}{c d:Value}{e:TypeId}(b:w.heap[a]?=some (.cells #[c,d] e (0,0))):w.cell? ⟨a,0,none⟩=some c/\w.cell? ⟨a,1,none⟩=some d/\w.frozen? ⟨a,0,none⟩=false/\w.frozen? ⟨a,1,none⟩=false :=
 ⟨by rw[xX w a 0 _ _ _ b];rfl,by rw[xX w a 1 _ _ _ b];rfl,fZ b,fZ b⟩
theorem put2 {w:World}{a:Nat}{g c u1 u2:Value}{e:TypeId}(d:w.heap[a]?=some (.cells #[g,c] e (0,0))):((w.setCell ⟨a,0,none⟩ u1).setCell ⟨a,1,none⟩ u2).heap[a]?=some (.cells #[u1,u2] e (0,0))/\Fr (λb=>b=a) w ((w.setCell ⟨a,0,none⟩ u1).setCell ⟨a,1,none⟩ u2):=by constructor;{(have f:(w.setCell ⟨a,0,none⟩ u1).heap[a]?=some (.cells #[u1,c] e (0,0)):=by rw[heap_set d];rfl);rw[heap_set f];rfl};{exact Fr.setCell (Fr.setCell (Fr.refl (λb=>b=a) w) ⟨a,0,none⟩ u1 (λ_=>rfl)) ⟨a,1,none⟩ u2 (λ_=>rfl)}
theorem yif {a q:Nat}{m wr p j:World}{M n:Nat->Prop}{F:Value}{v g:Option Addr}{w h:Nat}{d:List (Value × Value)}{SL:List PL}{k l:Value}{y:PL}{S:List Nat}{Q:Obj}
  (L:Fr (λb=>b=a) wr p) (C:Fr M m p) (s:Fr (Own1 (.slice v d.length w)) p j) (a1:RowIs 3 encN p a S)
  (a3:p.heap[a+2]?=some (.cells #[.slice v d.length w] 26 (0,0))) (P:∀b,(Value.slice v d.length w).ownBlock=some b->F.ownBlock=some b\/m.heap.size<=b)
  (u:∀b,(Value.slice v d.length w).ownBlock=some b->a+1<=b/\b<wr.heap.size/\b≠a+2/\¬n b) (D:∀b,n b->a+2<b/\b<m.heap.size)
  (N:M=λb=>b=a\/b=a+2\/F.ownBlock=some b) (a0:∀b,q<=b->¬M b) (a6:∀b,q<=b->b<m.heap.size->n b) (ab:a+2<q) (ac:q<=m.heap.size) (a5:d.length=SL.length)
  (a7:∀(A:Nat) (z:Value × Value) (y:PL),d[A]?=some z->SL[A]?=some y->Nats wr z.1 y.1/\Nats wr z.2 y.2/\(y.1≠[]->∀b,z.1.ownBlock=some b->n b)/\(y.2≠[]->∀b,z.2.ownBlock=some b->n b))
  (U:Nats m k y.1) (V:Nats m l y.2) (W:y.1≠[]->∀b,k.ownBlock=some b->q<=b) (X:y.2≠[]->∀b,l.ownBlock=some b->q<=b)
  (h4:j.ownsRow (a+1) 85 2 (.slice g (d ++ [(k,l)]).length h) (d ++ [(k,l)]).length (zau (d ++ [(k,l)])))
  (R:(Value.slice g (d ++ [(k,l)]).length h).ownBlock=(Value.slice v d.length w).ownBlock\/∃o,(Value.slice g (d ++ [(k,l)]).length h).ownBlock=some o/\(p.alloc Q).drew.heap.size<=o) :
  RowIs 3 encN (j.setCell ⟨a+2,0,none⟩ (.slice g (d.length+1) h)) a S/\(j.setCell ⟨a+2,0,none⟩ (.slice g (d.length+1) h)).heap[a+2]?=some (.cells #[.slice g (d.length+1) h] 26 (0,0)) ∧
   NodeRow n (a+1) (j.setCell ⟨a+2,0,none⟩ (.slice g (d.length+1) h)) (.slice g (d.length+1) h) (SL ++ [y])/\(∀b,(Value.slice g (d.length+1) h).ownBlock=some b->F.ownBlock=some b\/m.heap.size<=b)/\Fr M m (j.setCell ⟨a+2,0,none⟩ (.slice g (d.length+1) h)):=by
 have B:Fr (λb=>b=a+2) j (j.setCell ⟨a+2,0,none⟩ (.slice g (d.length+1) h)):=Fr.setCell (Fr.refl (λb=>b=a+2) j) _ _ (λ_=>rfl);have a2:=s.heap a3 (λe=>(u _ e).2.2.1 rfl);have aa:=C.size;have a8:(p.alloc Q).drew.heap.size=p.heap.size+1:=by simp
 rw[a8]at R;have O:NodeRow n (a+1) j (.slice g (d ++ [(k,l)]).length h) (SL ++ [y]):=by
  have K:∀(x:Value) (r:List Nat),Nats m x r->(r≠[]->∀b,x.ownBlock=some b->q<=b)->Nats j x r/\(r≠[]->∀b,x.ownBlock=some b->n b):=λx r I J=>by
   have c:r≠[]->∀b,x.ownBlock=some b->n b:=λf b c=>by
    obtain⟨o,t,hl⟩:=I.block f;rw[c]at t;cases t
    exact a6 b (J f b c) hl
   exact⟨(I.fr C (λf b c=>a0 b (J f b c))).fr s (λf o t e=>(u o e).2.2.2 (c f o t)),c⟩
  obtain⟨Y,Z⟩:=K _ _ U W;obtain⟨g3,g4⟩:=K _ _ V X;refine zu9 h4 a5 (λA T o ha t=>?_) ⟨Y,g3,Z,g4⟩;obtain⟨s1,s2,G,H⟩:=a7 A T o ha t;exact⟨(s1.fr L (λf b c e=>by have:=(D b (G f b c)).1;omega)).fr s (λf b c e=>(u b e).2.2.2 (G f b c)),
   (s2.fr L (λf b c e=>by have:=(D b (H f b c)).1;omega)).fr s (λf b c e=>(u b e).2.2.2 (H f b c)),G,H⟩
 have E:∀b,(Value.slice g (d ++ [(k,l)]).length h).ownBlock=some b->(Value.slice v d.length w).ownBlock=some b\/p.heap.size<=b:=λb c=>by
  rcases R with i|⟨o,i,a9⟩
  ·rw[i]at c;exact .inl c
  ·rw[i]at c;cases c;exact .inr (by omega)
 rw[show(d ++ [(k,l)]).length=d.length+1 from by simp]at O E;refine⟨(a1.fr s (λe=>by have:=(u _ e).1;omega)).fr B (by omega),by rw[heap_set a2];rfl,?_,?_,?_⟩
 ·refine O.fr B (λb c e=>?_) (λb c e=>by have:=(D b c).1;omega)
  rcases E b c with i|i
  ·exact(u b i).2.2.1 e
  ·omega
 ·intro b c
  rcases E b c with i|i
  ·exact P b i
  ·exact .inr (by omega)
 ·refine(C.trans s (λb c e=>?_)).trans B (λb _ e=>by rw[N];exact .inr (.inl e))
  rcases P b e with i|i
  ·rw[N];exact .inr (.inr i)
  ·omega
def dg (d:Nat):UInt8:=UInt8.ofNat (if d<10 then 48+d else 87+d)
def undg (a:UInt8):Nat:=if a.toNat<58 then a.toNat-48 else a.toNat-87
def d36 (n:Nat):List UInt8:=if n<36 then [dg n]else d36 (n/36) ++ [dg (n%36)]
 termination_by n
 decreasing_by omega
theorem zzz (d:Nat)(h:d<36):(dg d).toNat=if d<10 then 48+d else 87+d:=by unfold dg;rw[UInt8.toNat_ofNat'];split <;> omega
theorem ycq (d:Nat)(b:d<36):undg (dg d)=d:=by unfold undg;rw[zzz d b];by_cases a:d<10;{rw[if_pos a,if_pos (by omega)];omega};{rw[if_neg a,if_neg (by omega)];omega}
theorem yp0 (n:Nat):∀c∈d36 n,48<=c.toNat/\c.toNat<123/\c.toNat≠44/\c.toNat≠124:=by have d:∀b,b<36->48<=(dg b).toNat/\(dg b).toNat<123/\(dg b).toNat≠44/\(dg b).toNat≠124:=by{intro b e;rw[zzz b e];split <;> omega};induction n using Nat.strongRecOn with| _ n f =>{intro c a;unfold d36 at a;split at a;{simp at a;subst a;exact d _ (‹_›)};{rw[y6,x9]at a;rcases a with a|rfl;{exact f (n/36) (by omega) c a};{exact d _ (Nat.mod_lt _ (by decide))}}}
theorem yoz (n:Nat):d36 n≠[]:=by unfold d36;split <;> simp
def ykx (l:List UInt8):Nat:=l.foldl (λb a=>b*36+undg a) 0
theorem ztc (n:Nat):ykx (d36 n)=n:=by induction n using Nat.strongRecOn with| _ n b =>{unfold d36;split;{rename_i a;simp[ykx,ycq n a]};{have:=b (n/36) (by omega);unfold ykx at this ⊢;rw[List.foldl_append,this];simp only[List.foldl_cons,List.foldl_nil];rw[ycq _ (Nat.mod_lt _ (by decide))];omega}}
theorem yo0 {a b:Nat}(c:d36 a=d36 b):a=b:=by rw[<-ztc a,c,ztc]
def keyL (l:List Nat):List UInt8:=l.flatMap λa=>d36 a ++ [44]
def keyS (x:PL):List UInt8:=keyL x.1++124::keyL x.2
theorem zue (l:List Nat)(i:Nat):keyL (l ++ [i])=keyL l++d36 i ++ [44]:=by simp[keyL]
theorem zsb {j:Type}(c:j):∀(e f b d:List j),c ∉ e->c ∉ f->e++c::b=f++c::d->e=f/\b=d | [],[],b,d,_,_,a=>by simp at a;exact⟨rfl,a⟩ | [],g::f,b,d,_,i,a=>by simp at a;exact absurd (by rw[a.1];exact uX) i | p::e,[],b,d,h,_,a=>by simp at a;exact absurd (by rw[<-a.1];exact uX) h | p::e,g::f,b,d,h,i,a=>by simp only[List.cons_append,List.cons.injEq]at a;obtain⟨k,l⟩:=zsb c e f b d (λg=>h (uJ _ g)) (λg=>i (uJ _ g)) a.2;exact⟨by rw[a.1,k],l⟩
theorem yfm (n:Nat)(c:UInt8)(b:c.toNat=44\/c.toNat=124):c ∉ d36 n:=λa=>by have:=yp0 n c a;omega
theorem yi7 {l:List Nat}(a:keyL l=[]):l=[]:=by cases l with| nil=>rfl| cons b c=>simp[keyL]at a
theorem zt0:∀(e b:List Nat),keyL e=keyL b->e=b | [],b,a=>(yi7 (by rw[<-a];rfl)).symm | i::c,[],a=>by simp[keyL]at a | i::c,d::f,a=>by(have g:d36 i++44::keyL c=d36 d++44::keyL f:=by simpa [keyL] using a);obtain⟨h,j⟩:=zsb 44 _ _ _ _ (yfm i 44 (.inl rfl)) (yfm d 44 (.inl rfl)) g;rw[yo0 h,zt0 c f j]
theorem yi6:∀(f g:PL),keyS f=keyS g->f=g:=by intro⟨b,m⟩ ⟨c,n⟩ h;have e:∀d:List Nat,(124:UInt8) ∉ keyL d:=by{intro d k;obtain⟨l,_,a⟩:=List.mem_flatMap.1 k;rw[y6,x9]at a;rcases a with a|a;{exact yfm l 124 (.inr rfl) a};{cases a}};obtain⟨i,j⟩:=zsb 124 _ _ _ _ (e b) (e c) h;rw[zt0 b c i,zt0 m n j]
def enc3 (a b:Nat->Value)(i:Nat):List Value:=[encN i,a i,b i]
def zi1 (a b:Nat->Value)(G:List Nat):List Value:=G.flatMap (enc3 a b)
theorem zup (b c:Nat->Value)(G:List Nat):(zi1 b c G).length=G.length*3:=by induction G with| nil=>rfl| cons e d a=>simp only[zi1,List.flatMap_cons,yX,enc3,List.length_cons,List.length_nil]at a ⊢;omega
theorem zuq (b c:Nat->Value)(G:List Nat)(j x:Nat)(a:G[j]?=some x):(zi1 b c G)[j*3]?=some (encN x)/\(zi1 b c G)[j*3+1]?=some (b x)/\(zi1 b c G)[j*3+2]?=some (c x):=by induction G generalizing j with| nil=>cases a| cons f e d =>{cases j with| zero=>simp at a;subst a;exact⟨rfl,rfl,rfl⟩| succ j =>{have:=d j (by simpa using a);simp only[zi1,List.flatMap_cons]at this ⊢;rw[show(j+1)*3=j*3+1+1+1 from by omega];exact this}}
def encU (a:UInt8):Value:=.int .u8 (a.toNat:Int)
theorem zuf:(Tryz.prog.info? 5).map (λa=>(a.zero,a.size,a.bytes))=some (some (.int .u8 0),1,1):=by kernel_rfl
def digs:ByteArray:=⟨#[48,49,50,51,52,53,54,55,56,57,97,98,99,100,101,102,103,104,105,106,107,108,109,110,111,112,113,114,115,116,117,118,119,120,121,122]⟩
theorem yny:∀a:Fin 36,digs[a.1]?=some (dg a.1):=by decide
theorem zyp (k:Nat)(c:k<36)(d:IntKind)(a:World):(Instr.index 9 (.string digs) (.int d (k:Int))).run Tryz.prog a=.ok (encU (dg k)) a:=by have b:=yny ⟨k,c⟩;simp only at b;simp[Instr.index,asIntOf,run_underlying Tryz.underlying9,b,encU]
theorem ztn (g j:Nat)(d:j<65)(a:World):(Instr.sliceAt 229 (.pointer (some ⟨g,0,none⟩)) (some (.int .i64 (j:Int))) none none).run Tryz.prog a=.ok (.slice (some ⟨g,j,none⟩) (65-j) (65-j)) a:=by
 have b:¬ 65=j:=by omega
 have c:j<=65:=by omega
 simp[Instr.sliceAt,run_underlying Tryz.underlying229,Instr.sliceBounds,Instr.sliceBound,asIntOf,Instr.sureAddr,Tryz.sizeOf5,b,c,Addr.add];omega
theorem RowIs.sliceFrom {c:Type}{e:TypeId}{enc:c->Value}{w:World}{g:Nat}{L:List c}(d:RowIs e enc w g L)(k n:Nat)(f:L.length=n)(i:n<=9223372036854775807):SliceOf enc w (.slice (some ⟨g,k,none⟩) (n-k) (n-k)) (L.drop k) :=
 ⟨_,_,by rw[List.length_drop,f],by rw[List.length_drop];omega,by omega,λh j a=>⟨g,k,rfl,by
  rw[List.getElem?_drop]at a;have b:=(xV.1 a).1;rw[d.cell (k+h) b];rw[xQ b]at a;cases a;rfl⟩⟩
theorem zt4 (k n:Nat)(hk:0<k)(h:n<36^k):(d36 n).length<=k:=by induction k generalizing n with| zero=>omega| succ k ih =>{unfold d36;split;{simp};{rename_i h36;have hk0:0<k:=by{rcases Nat.eq_zero_or_pos k with e|e;{subst e;simp at h;omega};{exact e}};have:=ih (n/36) hk0 (by rw[Nat.div_lt_iff_lt_mul (by decide)];rw[Nat.pow_succ]at h;exact h);simp;omega}}
theorem zr3 {base:Nat}(v:Value)(xs:List UInt8)(n:Nat)(w:World)(K:w.ownsRow base 5 1 v xs.length (xs.map encU))(Z:n<1000000000000)(H:base<=w.heap.size)(N:xs.length<=1000000000000) : Calls Tryz.prog 213 #[v,.int .u64 (n:Int),.int .i64 36,.bool false,.bool true] w λY C=>∃q a4,Y=.returned (.tuple #[q,.string a4])/\C.ownsRow base 5 1 q (xs++d36 n).length ((xs++d36 n).map encU)/\Fr (Own1 v) w C:=by(obtain⟨S,Hn,V,W⟩:=Hhp4 K Z H N;have a8:bits BinOp.and IntKind.i64 36 35=32:=by rfl);clear K H N;go_enter Tryz.func213,Tryz.ntmps213;go_wp2;generalize p:w.alloc _=O;(have D:Fr NoM w O:=by rw[<-p];exact(nW w).alloc _);have L:RowIs 229 encU O w.heap.size (List.replicate 65 0):=by{rw[<-p];exact(xJ w _).trans (congrArg (λX=>some (Obj.cells X 229 (0,0))) (by kernel_rfl))};obtain⟨R,T,a6⟩:=Hhp3 D L p;clear D L p;have I:=zt4 12 n (by decide) (by omega);have E:=Hh I;clear I;go_loopw [1,13] (λB a2 G=>∃(a b:Nat) (c:List UInt8),B=.int .u64 a/\a2=.int .i64 b/\a<=n/\b<=65/\c.length=65/\d36 n=d36 a++c.drop b/\RowIs 229 encU G w.heap.size c/\Fr NoM w G) (λB _ _=>(intOf B).toNat);(case atStart=>exact⟨n,65,_,rfl,rfl,xW _,xW _,by simp,by simp,T.o,R.o⟩);case round =>((obtain⟨a,b,c,rfl,rfl,hm,hj,u,y,M,J⟩:=hrel;have z:=E.o;have a0:(d36 a).length≠0:=by have:=yoz a;cases i:d36 a with|nil=>exact absurd i this|cons _ _=>simp);(have a9:65-b<12:=by rw[y]at z;simp[u]at z;omega);obtain⟨e,F,f,r⟩:=Hhp4 u y M J;clear z a0 u y M J;by_cases a7:36<=a;{have o:a%36<36:=Nat.mod_lt _ (by decide);have h:=zyp (a%36) o .u64;unfold digs at h;rw[show((a%36:Nat):Int)=(a:Int)-(a:Int)/36*36 from by omega]at h;have t:=f.o.cell (b-1) (by rw[e.o];omega);have zj:=f.o.frozen (b-1);unfold encU at h t;have d:=f.o.set (b-1) (dg (a%36));unfold encU at d;have j:=Fr.setCell r.o ⟨w.heap.size,b-1,none⟩ (.int .u8 ((dg (a%36)).toNat:Int)) (λi=>absurd i (Nat.lt_irrefl _));have s:=Hh d;have k:=Hh j;clear d j;go_wp2;go_roundw;(case rel =>((refine⟨a/36,b-1,c.set (b-1) (dg (a%36)),by go_num,by go_num,by omega,by omega,by simp[e.o],?_,s.o,k.o⟩;have g:d36 a=d36 (a/36) ++ [dg (a%36)]:=by rw[d36,if_neg (by omega)]);have m:(c.set (b-1) (dg (a%36))).drop (b-1)=dg (a%36)::c.drop b:=by{rw[uZ (by simp[e.o];omega),List.getElem_set_self,List.drop_set_of_lt (by omega),show b-1+1=b from by omega]};rw[F.o,g,m];simp));case measure=>simp[intOf];omega};{(have o:a<36:=by omega);have h:=zyp a o .u64;unfold digs at h;have t:=f.o.cell (b-1) (by rw[e.o];omega);have zj:=f.o.frozen (b-1);unfold encU at h t;have d:=f.o.set (b-1) (dg a);unfold encU at d;have j:=Fr.setCell r.o ⟨w.heap.size,b-1,none⟩ (.int .u8 ((dg a).toNat:Int)) (λi=>absurd i (Nat.lt_irrefl _));have s:=Hh d;have k:=Hh j;clear d j;have a1:=ztn w.heap.size (b-1) (by omega);rw[show((b-1:Nat):Int)=(b:Int)-1 from by omega]at a1;have x:d36 n=(c.set (b-1) (dg a)).drop (b-1):=by{(have g:d36 a=[dg a]:=by rw[d36,if_pos o]);rw[F.o,g,uZ (l:=c.set (b-1) (dg a)) (by simp[e.o];omega),List.getElem_set_self,List.drop_set_of_lt (by omega),show b-1+1=b from by omega];rfl};have A:=RowIs.sliceFrom (show RowIs 229 encU (wr.setCell ⟨w.heap.size,b-1,none⟩ (.int .u8 ((dg a).toNat:Int))) w.heap.size (c.set (b-1) (dg a))from s.o) (b-1) 65 (by simp[e.o]) (by decide);rw[<-x]at A;have U:=Hh A;have a5:=Hh x;clear A x;go_wp2_with (at_builtin;refine zae (enc:=encU) _ rfl _ _ 43 rfl base 5 (.int .u8 0) 1 Tryz.underlying43 zuf rfl v xs.length (xs.map encU) rfl (za3 S.o k.o kP) _ rfl (d36 n) U.o (λ_=>rfl) ?c1 (by decide) ?c2 ?_);(case c1=>have:=E.o;have:=W.o;omega);(case c2=>exact kQ V.o r.o.size);intro q C g m _;have P:=Hh g;have Q:=Hh m;clear g m;go_wp2;go_ret2;refine⟨q,_,rfl,?_,(k.o.mono (λ_ _ a3=>a3.elim)).trans Q.o kP⟩;rw[yX,vZ];exact P.o})
theorem zm9 {base:Nat}(v:Value)(xs:List UInt8)(n:Nat)(w:World)(g:w.ownsRow base 5 1 v xs.length (xs.map encU))(l:n<1000000000000)(f:base<=w.heap.size)(h:xs.length<=1000000000000) : Calls Tryz.prog 153 #[v,.int .i64 (n:Int),.int .i64 36] w λc b=>∃a,c=.returned a/\b.ownsRow base 5 1 a (xs++d36 n).length ((xs++d36 n).map encU)/\Fr (Own1 v) w b:=by have k:=Hh (zr3 v xs n w g l f h);clear g f h;go_enter Tryz.func153,Tryz.ntmps153;go_wp2_with (first|(go_at_call 213;refine k.o.mono ?_;rintro c b ⟨a,m,rfl,d,e⟩;have i:=Hh d;have j:=Hh e;clear d e)|go_in);go_ret;exact⟨a,rfl,i.o,j.o⟩
def hasL (c i:Nat):Prop:=c.testBit (2*i)=true
def hasR (c i:Nat):Prop:=c.testBit (2*i+1)=true
instance (c i:Nat):Decidable (hasL c i):=inferInstanceAs (Decidable (_=_))
instance (c i:Nat):Decidable (hasR c i):=inferInstanceAs (Decidable (_=_))
def optC (c i:Nat):Prop:=hasL c i\/hasR c i
instance (c i:Nat):Decidable (optC c i):=inferInstanceAs (Decidable (_\/_))
def yfy (g:Nat->Nat)(L:List Nat):Nat:=L.foldr (λi n=>n ||| 2^g i) 0
def mkC (L R:List Nat):Nat:=yfy (λa=>2*a) L ||| yfy (λa=>2*a+1) R
theorem zo1 (g:Nat->Nat)(L:List Nat)(j:Nat):(yfy g L).testBit j=decide (∃a∈L,g a=j):=by induction L with| nil=>simp[yfy]| cons h e f =>{unfold yfy at f ⊢;rw[List.foldr_cons,Nat.testBit_or,f,Nat.testBit_two_pow];by_cases d:∃a∈e,g a=j;{obtain⟨a,c,b⟩:=d;have i:∃a∈h::e,g a=j:=⟨a,uJ _ c,b⟩;have d:∃a∈e,g a=j:=⟨a,c,b⟩;rw[vJ d,vJ i];rfl};{rw[vV d,Bool.false_or];congr 1;simp only[eq_iff_iff];constructor;{intro b;exact⟨h,uX,b⟩};{rintro⟨a,c,b⟩;rcases kW.1 c with rfl|c;{exact b};{exact absurd ⟨a,c,b⟩ d}}}}
theorem zab (L R:List Nat)(i:Nat):hasL (mkC L R) i↔i∈L:=by unfold hasL mkC;rw[Nat.testBit_or,zo1,zo1,Bool.or_eq_true,kV,kV];constructor;{rintro(⟨b,a,c⟩|⟨b,a,c⟩);{(have:b=i:=by omega);subst this;exact a};{omega}};{intro d;exact .inl ⟨i,d,rfl⟩}
theorem zac (L R:List Nat)(i:Nat):hasR (mkC L R) i↔i∈R:=by unfold hasR mkC;rw[Nat.testBit_or,zo1,zo1,Bool.or_eq_true,kV,kV];constructor;{rintro(⟨b,a,c⟩|⟨b,a,c⟩);{omega};{(have:b=i:=by omega);subst this;exact a}};{intro d;exact .inr ⟨i,d,rfl⟩}
theorem zcq {c d:Nat}(i:∀b,hasL c b↔hasL d b)(j:∀b,hasR c b↔hasR d b):c=d:=by apply Nat.eq_of_testBit_eq;(intro a;have g:∀e f:Bool,(e=true↔f=true)->e=f:=by decide);apply g;rcases Nat.mod_two_eq_zero_or_one a with h|h;{have:=i (a/2);unfold hasL at this;rwa [show 2*(a/2)=a from by omega]at this};{have:=j (a/2);unfold hasR at this;rwa [show 2*(a/2)+1=a from by omega]at this}
theorem yp1 {c j:Nat}(a:c.testBit j=true):j<c:=vK Nat.lt_two_pow_self (Nat.ge_two_pow_of_testBit a)
theorem za6 {c i:Nat}(a:optC c i):i<c:=by rcases a with a|a <;> have:=yp1 a <;> omega
theorem yen {L R b R':List Nat}(c:∀a,a∈L↔a∈b)(d:∀a,a∈R↔a∈R'):mkC L R=mkC b R' :=
 zcq (λa=>by rw[zab,zab,c]) (λa=>by rw[zac,zac,d])
def zms (c:Nat):List Nat:=(List.range c).filter λa=>decide (hasL c a)
def zgf (c:Nat):List Nat:=(List.range c).filter λi=>decide (hasR c i)
theorem zbc {c i:Nat}:i∈zms c↔hasL c i:=by unfold zms;rw[List.mem_filter,kZ,kV];exact⟨λa=>a.2,λa=>⟨za6 (.inl a),a⟩⟩
theorem zb2 {c i:Nat}:i∈zgf c↔hasR c i:=by unfold zgf;rw[List.mem_filter,kZ,kV];exact⟨λa=>a.2,λa=>⟨za6 (.inr a),a⟩⟩
theorem yi0 (c:Nat):mkC (zms c) (zgf c)=c:=zcq (λa=>by rw[zab,zbc]) (λa=>by rw[zac,zb2])
def bornC (c:Nat):Nat:=((List.range c).attach.filter λa=>decide (optC c a.1)).foldl (λb a=>max b (bornC a.1+1)) 0
 termination_by c
 decreasing_by exact kZ.1 a.2
theorem zpe {f:Type}(g:f->Nat)(L:List f)(m:Nat):m<=L.foldl (λm a=>max m (g a)) m/\(∀b∈L,g b<=L.foldl (λm a=>max m (g a)) m)/\(L.foldl (λm a=>max m (g a)) m=m\/∃b∈L,L.foldl (λm a=>max m (g a)) m=g b):=by induction L generalizing m with| nil=>exact⟨xW _,by simp,.inl rfl⟩| cons e l i =>{rw[List.foldl_cons];obtain⟨j,h,c⟩:=i (max m (g e));refine⟨by omega,λb d=>?_,?_⟩;{rcases kW.1 d with rfl|d;{omega};{exact h b d}};{rcases c with c|⟨b,d,c⟩;{by_cases k:g e<=m;{exact .inl (by rw[c];omega)};{exact .inr ⟨e,uX,by rw[c];omega⟩}};{exact .inr ⟨b,uJ _ d,c⟩}}}
theorem zf6 {c i:Nat}(a:optC c i):bornC i<bornC c:=by rw[bornC.eq_1 c];have:=(zpe (λ(i:{x // x∈List.range c})=>bornC i.1+1) ((List.range c).attach.filter λi=>decide (optC c i.1)) 0).2.1 ⟨i,kZ.2 (za6 a)⟩ (by simp[a]);simp only at this;omega
theorem ya9 (c:Nat):bornC c=0\/∃a,optC c a/\bornC c=bornC a+1:=by rw[bornC.eq_1 c];rcases (zpe (λ(a:{d // d∈List.range c})=>bornC a.1+1) ((List.range c).attach.filter λa=>decide (optC c a.1)) 0).2.2 with b|⟨d,e,b⟩;{exact .inl b};{exact .inr ⟨d.1,by simpa using (List.mem_filter.1 e).2,b⟩}
theorem yk7 {c m:Nat}(f:∀a,optC c a->bornC a<m)(b:m=0\/∃a,optC c a/\m<=bornC a+1):bornC c=m:=by rcases ya9 c with e|⟨a,d,e⟩;{rcases b with b|⟨a,d,b⟩;{omega};{have:=zf6 d;omega}};{have:=f a d;rcases b with b|⟨h,g,b⟩;{omega};{have:=zf6 g;omega}}
inductive SubC (c:Nat):Nat->Prop
 | root:SubC c c
 | step {x y:Nat}:SubC c x->optC x y->SubC c y
structure BookC (NL:List PL) (C:List Nat):Prop where
 len:C.length=NL.length
 opts:∀(j:Nat) (x:PL),NL[j]?=some x->(∀i∈x.1,i<j)/\∀i∈x.2,i<j
 up:∀(j:Nat) (x:PL),NL[j]?=some x->x.1.Pairwise (· < ·)/\x.2.Pairwise (· < ·)
 code:∀(j:Nat) (x:PL),NL[j]?=some x->C.getD j 0=mkC (za2 C x.1) (za2 C x.2)
 nodup:C.Nodup
theorem zhh {L M:List Nat}(f:L.Pairwise (· < ·))(g:M.Pairwise (· < ·))(c:∀b,b∈L↔b∈M):L=M:=by induction L generalizing M with| nil=>{cases M with| nil=>rfl| cons e n=>exact absurd ((c e).2 uX) (by simp)}| cons b o m =>{cases M with| nil=>exact absurd ((c b).1 uX) (by simp)| cons e n =>{rw[List.pairwise_cons]at f g;have k:b=e:=by{rcases kW.1 ((c b).1 uX)with a|j;{exact a};{rcases kW.1 ((c e).2 uX)with a|l;{exact a.symm};{have:=f.1 e l;have:=g.1 b j;omega}}};subst k;rw[m f.2 g.2 (λh=>?_)];constructor;{intro d;rcases kW.1 ((c h).1 (uJ _ d))with a|i;{subst a;have:=f.1 h d;omega};{exact i}};{intro d;rcases kW.1 ((c h).2 (uJ _ d))with a|i;{subst a;have:=g.1 h d;omega};{exact i}}}}
theorem zbq {C:List Nat}(a:C.Nodup){i j:Nat}(b:i<C.length)(c:j<C.length)(e:C.getD i 0=C.getD j 0):i=j:=by rw[xY,xY,xQ b,xQ c]at e;exact(List.getElem_inj a).1 e
theorem zd8 {C:List Nat}{i:Nat}(a:i<C.length):C.getD i 0∈C:=by rw[xY,xQ a];exact y9 _
theorem zkr {C:List Nat}{x:Nat}(d:x∈C):∃a,a<C.length/\C.getD a 0=x:=by obtain⟨a,b,c⟩:=uY d;exact⟨a,b,by rw[xY,xQ b];exact c⟩
theorem mem_atAll {C L:List Nat}{x:Nat}:x∈za2 C L↔∃a∈L,C.getD a 0=x:=by unfold za2;exact y8
def klt (a:Nat)(c:PL)(b:Nat)(d:PL):Prop:=a<b\/a=b/\zap c d=true
theorem zi3:∀(b c:List Nat),cmpL b c=- cmpL c b | [],[]=>rfl | [],a::c=>by simp[cmpL] | x::b,[]=>by simp[cmpL] | x::b,a::c=>by unfold cmpL;have:=zi3 b c;by_cases d:x=a;{subst d;simpa using this};{have e:¬a=x:=λg=>d g.symm;by_cases f:x<a;{(have:¬a<x:=by omega);simp[d,e,f,this]};{(have:a<x:=by omega);simp[d,e,f,this]}}
theorem zg4 {x y:PL}(h:zap x y=true):zap y x=false:=by unfold zap at h ⊢;have h1:=zi3 x.1 y.1;have h2:=zi3 x.2 y.2;by_cases e:cmpL x.1 y.1=0;{rw[if_pos e]at h;rw[if_pos (by omega)];simp at h ⊢;omega};{rw[if_neg e]at h;rw[if_neg (by omega)];simp at h ⊢;omega}
theorem zud {b c:Nat}{e f:PL}(a:klt b e c f):¬klt c f b e:=by rintro(d|⟨g,d⟩);{rcases a with a|⟨g,_⟩ <;> omega};{rcases a with a|⟨_,a⟩;{omega};{rw[zg4 d]at a;cases a}}
structure FormAt (c:Nat) (FN:List PL) (P:List Nat):Prop where
 book:BookC FN P
 sub:∀x,x∈P↔SubC c x
 up:∀(i j:Nat) (x y:PL),i<j->FN[i]?=some x->FN[j]?=some y->klt (bornC (P.getD i 0)) x (bornC (P.getD j 0)) y
def FormC (c:Nat)(a:List PL):Prop:=∃b,FormAt c a b
theorem ztm {q r:List PL}{P d:List Nat}(B:BookC q P)(g:BookC r d)(k a:Nat)(t:∀c,c<k->P.getD c 0=d.getD c 0)(K:k<P.length)(L:k<=a)(J:a<d.length)(C:P.getD k 0=d.getD a 0) (x y:PL) (o:q[k]?=some x) (p:r[a]?=some y):x=y:=by have n:=B.code k x o;have w:=g.code a y p;rw[C,w]at n;obtain⟨D,E⟩:=B.opts k x o;obtain⟨F,G⟩:=g.opts a y p;obtain⟨u1,u2⟩:=B.up k x o;obtain⟨H,I⟩:=g.up a y p;have v:∀j l:List Nat,(∀b∈j,b<k)->(∀b∈l,b<a)->(∀m,m∈za2 P j↔m∈za2 d l)->∀b,b∈j↔b∈l:=by{intro j l i u s b;constructor;{intro e;obtain⟨c,f,h⟩:=mem_atAll.1 ((s (P.getD b 0)).1 (mem_atAll.2 ⟨b,e,rfl⟩));rw[t b (i b e)]at h;have:=i b e;have:=u c f;rw[<-zbq g.nodup (by omega) (by omega) h];exact f};{intro e;obtain⟨c,f,h⟩:=mem_atAll.1 ((s (d.getD b 0)).2 (mem_atAll.2 ⟨b,e,rfl⟩));rw[t c (i c f)]at h;have:=i c f;have:=u b e;rw[<-zbq g.nodup (by omega) (by omega) h];exact f}};have z:x.1=y.1:=zhh u1 H (v _ _ D F λm=>by rw[<-zab _ (za2 P x.2),<-zab _ (za2 d y.2),n]);have A:x.2=y.2:=zhh u2 I (v _ _ E G λm=>by rw[<-zac (za2 P x.1),<-zac (za2 d y.1),n]);exact Prod.ext z A
theorem yie {c:Nat}{j k:List PL}{P g:List Nat}(A:FormAt c j P)(b:FormAt c k g):j=k/\P=g:=by have F:∀a,a<P.length->a<g.length->P.getD a 0=g.getD a 0/\j[a]?=k[a]?:=by{intro a;induction a using Nat.strongRecOn with| _ a M =>{intro r n;have q:∀f,f<a->P.getD f 0=g.getD f 0:=λf t=>(M f t (by omega) (by omega)).1;have v:=xQ (l:=j) (i:=a) (by rw[<-A.book.len];exact r);have w:=xQ (l:=k) (i:=a) (by rw[<-b.book.len];exact n);obtain⟨d,s,m⟩:=zkr ((b.sub _).2 ((A.sub _).1 (zd8 r)));obtain⟨e,z,p⟩:=zkr ((A.sub _).2 ((b.sub _).1 (zd8 n)));have H:a<=d:=by{rcases Nat.lt_or_ge d a with h|h;{have:=q d h;rw[m]at this;exact absurd (zbq A.book.nodup (by omega) r this) (by omega)};{exact h}};have I:a<=e:=by{rcases Nat.lt_or_ge e a with h|h;{have:=q e h;rw[p]at this;exact absurd (zbq b.book.nodup (by omega) n this.symm) (by omega)};{exact h}};have C:=xQ (l:=k) (i:=d) (by rw[<-b.book.len];exact s);have B:=xQ (l:=j) (i:=e) (by rw[<-A.book.len];exact z);have G:=ztm A.book b.book a d q r H s m.symm _ _ v C;have N:=ztm b.book A.book a e (λf t=>(q f t).symm) n I z p.symm _ _ w B;rcases Nat.lt_or_ge a d with K|hge;{have D:=b.up a d _ _ K w C;rw[m,<-G]at D;rcases Nat.lt_or_ge a e with L|hgeb;{have E:=A.up a e _ _ L v B;rw[p,<-N]at E;exact absurd D (zud E)};{(have:e=a:=by omega);subst this;exact absurd (zbq b.book.nodup s n (m.trans p)) (by omega)}};{(have:d=a:=by omega);subst this;exact⟨m.symm,by rw[v,w,G]⟩}}};have J:P.length=g.length:=by{refine Nat.le_antisymm ?_ ?_;{exact A.book.nodup.length_le_of_subset (λo u=>(b.sub o).2 ((A.sub o).1 u))};{exact b.book.nodup.length_le_of_subset (λo u=>(A.sub o).2 ((b.sub o).1 u))}};have O:=A.book.len;have Q:=b.book.len;constructor;{apply List.ext_getElem?;intro a;rcases Nat.lt_or_ge a P.length with h|h;{exact(F a h (by omega)).2};{rw[List.getElem?_eq_none (by omega),List.getElem?_eq_none (by omega)]}};{apply List.ext_getElem J;intro a x y;have:=(F a x y).1;rw[xY,xY,xQ x,xQ y]at this;exact this}
theorem FormC.one {c:Nat}{d e:List PL}(a:FormC c d)(b:FormC c e):d=e:=by obtain⟨f,a⟩:=a;obtain⟨g,b⟩:=b;exact(yie a b).1
theorem ydn (y:Nat)(l:List Nat)(n:Nat):putN (y::l) n=if y<n then y::putN l n else if y=n then y::l else n::y::l:=by unfold putN posN;by_cases a:y<n;{simp only[List.takeWhile_cons,a,decide_true,if_true,List.length_cons,List.getElem?_cons_succ,List.take_succ_cons,List.drop_succ_cons,List.cons_append];split <;> rfl};{simp only[List.takeWhile_cons,a,decide_false,Bool.false_eq_true,if_false,List.length_nil,List.getElem?_cons_zero,List.take_zero,List.drop_zero,List.nil_append,Option.some.injEq]}
theorem zmh {L:List Nat}(n:Nat)(b:L.Pairwise (· < ·)):(putN L n).Pairwise (· < ·):=by induction L with| nil=>simp[putN,posN]| cons f e d =>{rw[List.pairwise_cons]at b;rw[ydn];split;{refine List.pairwise_cons.2 ⟨λc a=>?_,d b.2⟩;rcases (zib e n c).1 a with a|rfl;{exact b.1 c a};{assumption}};{split;{exact List.pairwise_cons.2 b};{refine List.pairwise_cons.2 ⟨λc a=>?_,List.pairwise_cons.2 b⟩;rcases kW.1 a with rfl|a;{omega};{have:=b.1 c a;omega}}}}
theorem zeb (L:List Nat):(zaf L).Pairwise (· < ·):=by(suffices a:∀(L b:List Nat),b.Pairwise (· < ·)->(L.foldl putN b).Pairwise (· < ·)by simpa [zaf] using a L [] (by simp));intro L;induction L with| nil=>{intro b a;exact a}| cons d e c=>{intro b a;rw[List.foldl_cons];exact c _ (zmh d a)}
inductive ReachV (V:List PL) (R:List Nat):Nat->Prop
 | root {x:Nat}:x∈R->ReachV V R x
 | left {x y:Nat}:ReachV V R x->y∈(V.getD x ([],[])).1->ReachV V R y
 | right {x y:Nat}:ReachV V R x->y∈(V.getD x ([],[])).2->ReachV V R y
def zgh (a:List Nat)(L:List Nat):List Nat:=zaf (L.map λb=>a.idxOf b)
def zc2 (a:List Nat)(x:PL):PL:=(zgh a x.1,zgh a x.2)
structure OrderIs (V:List PL) (BV:List Nat) (R:List Nat) (Q:List Nat) (FN:List PL):Prop where
 nodup:Q.Nodup
 mem:∀x,x∈Q↔ReachV V R x
 nodes:FN=Q.map λx=>zc2 Q (V.getD x ([],[]))
 up:∀(i j:Nat) (x y:PL),i<j->FN[i]?=some x->FN[j]?=some y->klt (BV.getD (Q.getD i 0) 0) x (BV.getD (Q.getD j 0) 0) y
section
variable {V:List PL}{C:List Nat}
theorem BookC.getD (B:BookC V C){j:Nat}(a:j<V.length):V[j]?=some (V.getD j ([],[])):=by rw[xY,xQ a];rfl
theorem BookC.left (B:BookC V C){x y:Nat}(a:x<V.length)(b:y∈(V.getD x ([],[])).1):y<x/\hasL (C.getD x 0) (C.getD y 0) :=
 ⟨(B.opts x _ (B.getD a)).1 y b,by rw[B.code x _ (B.getD a),zab];exact mem_atAll.2 ⟨y,b,rfl⟩⟩
theorem BookC.right (B:BookC V C){x y:Nat}(a:x<V.length)(b:y∈(V.getD x ([],[])).2):y<x/\hasR (C.getD x 0) (C.getD y 0) :=
 ⟨(B.opts x _ (B.getD a)).2 y b,by rw[B.code x _ (B.getD a),zac];exact mem_atAll.2 ⟨y,b,rfl⟩⟩
theorem zh0 (B:BookC V C){R:List Nat}(d:∀e∈R,e<V.length){x:Nat}(a:ReachV V R x):x<V.length:=by induction a with| root a=>exact d _ a| left _ b c=>have:=(B.left c b).1;omega| right _ b c=>have:=(B.right c b).1;omega
theorem zim {a:List Nat}{y:Nat}(c:y∈a):a.idxOf y<a.length/\a.getD (a.idxOf y) 0=y:=by have b:=List.idxOf_lt_length_of_mem c;refine⟨b,?_⟩;rw[xY,xQ b];exact List.getElem_idxOf b
theorem zgk {a L:List Nat}{i:Nat}:i∈zgh a L↔∃b∈L,a.idxOf b=i:=by unfold zgh;rw[zba,y8]
theorem zrf (B:BookC V C){BV:List Nat}(x:∀c,c<V.length->BV.getD c 0=bornC (C.getD c 0)){r:Nat}(J:r<V.length){d:List Nat}{p:List PL}(k:OrderIs V BV [r] d p):FormAt (C.getD r 0) p (d.map λg=>C.getD g 0):=by have n:∀g∈d,g<V.length:=λg i=>zh0 B (by simpa using J) ((k.mem g).1 i);have hF:∀(c:Nat) (g:PL),p[c]?=some g->∃a,d[c]?=some a/\a∈d/\g=zc2 d (V.getD a ([],[])):=by{intro c g i;rw[k.nodes,vY]at i;cases I:d[c]? with| none=>rw[I]at i;cases i| some a=>rw[I]at i;exact⟨a,rfl,xK I,(yY i).symm⟩};have K:∀a∈d,(d.map λg=>C.getD g 0).getD (d.idxOf a) 0=C.getD a 0:=by{intro a e;obtain⟨D,o⟩:=zim e;rw[xY,vY,xQ D];rw[xY,xQ D]at o;simp only[Option.getD_some]at o;simp only[Option.map_some,Option.getD_some,o]};have E:∀(c a:Nat),d[c]?=some a->(d.map λg=>C.getD g 0).getD c 0=C.getD a 0:=by{intro c a h;rw[xY,vY,h];rfl};have v:∀(c a:Nat),d[c]?=some a->d.getD c 0=a:=by{intro c a h;rw[xY,h];rfl};have G:∀a∈d,∀b∈(V.getD a ([],[])).1,b∈d:=λa e b f=>(k.mem b).2 (.left ((k.mem a).1 e) f);have H:∀a∈d,∀b∈(V.getD a ([],[])).2,b∈d:=λa e b f=>(k.mem b).2 (.right ((k.mem a).1 e) f);have L:∀(c a b:Nat),d[c]?=some a->b∈d->bornC (C.getD b 0)<bornC (C.getD a 0)->d.idxOf b<c:=by{intro c a b e f T;have m:=xK e;have U:=(xV.1 e).1;obtain⟨D,o⟩:=zim f;rcases Nat.lt_trichotomy (d.idxOf b) c with h|h|h;{exact h};{rw[h,v c a e]at o;subst o;omega};{(have z:p.length=d.length:=by rw[k.nodes];simp);have:=k.up c (d.idxOf b) _ _ h (xQ (l:=p) (by omega)) (xQ (l:=p) (by omega));rw[v c a e,o,x a (n a m),x b (n b f)]at this;rcases this with h|⟨h,_⟩ <;> omega}};have M:∀(a:Nat) (A:List Nat),(∀b∈A,b∈d)->∀j,j∈za2 (d.map λg=>C.getD g 0) (zgh d A)↔j∈za2 C A:=by{intro a A z j;rw[mem_atAll,mem_atAll];constructor;{rintro⟨W,Q,t⟩;obtain⟨b,f,rfl⟩:=zgk.1 Q;rw[K b (z b f)]at t;exact⟨b,f,t⟩};{rintro⟨b,f,t⟩;exact⟨d.idxOf b,zgk.2 ⟨b,f,rfl⟩,by rw[K b (z b f)];exact t⟩}};refine⟨⟨by rw[k.nodes];simp,λc g i=>?_,λc g i=>?_,λc g i=>?_,?_⟩,λg=>⟨λi=>?_,λi=>?_⟩,λj c g a P i e=>?_⟩;{obtain⟨a,e,m,rfl⟩:=hF c g i;constructor;{intro j F;obtain⟨b,f,rfl⟩:=zgk.1 F;exact L c a b e (G a m b f) (zf6 (.inl (B.left (n a m) f).2))};{intro j F;obtain⟨b,f,rfl⟩:=zgk.1 F;exact L c a b e (H a m b f) (zf6 (.inr (B.right (n a m) f).2))}};{obtain⟨a,e,m,rfl⟩:=hF c g i;exact⟨zeb _,zeb _⟩};{obtain⟨a,e,m,rfl⟩:=hF c g i;rw[E c a e,B.code a _ (B.getD (n a m))];exact yen (λj=>(M a _ (G a m) j).symm) (λj=>(M a _ (H a m) j).symm)};{refine List.nodup_iff_pairwise_ne.2 (List.pairwise_map.2 ((List.nodup_iff_pairwise_ne.1 k.nodup).imp_of_mem λ{q s} w y R t=>R ?_));have z:=B.len;exact zbq B.nodup (by have:=n q w;omega) (by have:=n s y;omega) t};{obtain⟨a,e,rfl⟩:=y8.1 i;have S:=(k.mem a).1 e;clear i e;induction S with| root h=>simp at h;subst h;exact .root| left h f u=>exact .step u (.inl (B.left (zh0 B (by simpa using J) h) f).2)| right h f u=>exact .step u (.inr (B.right (zh0 B (by simpa using J) h) f).2)};{induction i with| root=>exact y8.2 ⟨r,(k.mem r).2 (.root (by simp)),rfl⟩| step _ ho u =>{obtain⟨a,e,rfl⟩:=y8.1 u;rw[B.code a _ (B.getD (n a e))]at ho;rcases ho with ho|ho;{rw[zab]at ho;obtain⟨b,f,rfl⟩:=mem_atAll.1 ho;exact y8.2 ⟨b,G a e b f,rfl⟩};{rw[zac]at ho;obtain⟨b,f,rfl⟩:=mem_atAll.1 ho;exact y8.2 ⟨b,H a e b f,rfl⟩}}};{obtain⟨q,w,N,rfl⟩:=hF j g i;obtain⟨s,y,O,rfl⟩:=hF c a e;have:=k.up j c _ _ P i e;rw[v j q w,v c s y,x q (n q N),x s (n s O)]at this;rw[E j q w,E c s y];exact this}
end
theorem zpn:∀(b c:List Nat),cmpL b c=0->b=c | [],[]=>λ_=>rfl | [],e::c=>λa=>by simp[cmpL]at a | x::b,[]=>λa=>by simp[cmpL]at a | x::b,e::c=>λa=>by unfold cmpL at a;by_cases d:x=e;{subst d;rw[if_pos rfl]at a;rw[zpn b c a]};{rw[if_neg d]at a;split at a <;> cases a}
theorem zn1:∀(f b c:List Nat),cmpL f b<0->cmpL b c<0->cmpL f c<0 | [],[],c=>λd _=>by simp[cmpL]at d | [],a::b,[]=>λ_ d=>by simp[cmpL]at d | [],a::b,j::c=>λ_ _=>by simp[cmpL] | x::f,[],c=>λd _=>by simp[cmpL]at d | x::f,a::b,[]=>λ_ d=>by simp[cmpL]at d | x::f,a::b,j::c=>λh e=>by have m:=zn1 f b c;unfold cmpL at h e ⊢;by_cases k:x=a;{subst k;rw[if_pos rfl]at h;by_cases g:x=j;{subst g;rw[if_pos rfl]at e ⊢;exact m h e};{rw[if_neg g]at e ⊢;exact e}};{rw[if_neg k]at h;have l:x<a:=by{by_cases i:x<a;{exact i};{rw[if_neg i]at h;omega}};by_cases g:a=j;{subst g;rw[if_neg k,if_pos l];omega};{rw[if_neg g]at e;have n:a<j:=by{by_cases i:a<j;{exact i};{rw[if_neg i]at e;omega}};rw[if_neg (by omega),if_pos (by omega)];omega}}
theorem zg3 {x y z:PL}(b:zap x y=true)(a:zap y z=true):zap x z=true:=by unfold zap at b a ⊢;by_cases d:cmpL x.1 y.1=0;{rw[if_pos d]at b;rw[zpn _ _ d];by_cases c:cmpL y.1 z.1=0;{rw[if_pos c]at a ⊢;simp only[kV]at b a ⊢;exact zn1 _ _ _ b a};{rw[if_neg c]at a ⊢;exact a}};{rw[if_neg d]at b;simp only[kV]at b;by_cases c:cmpL y.1 z.1=0;{rw[<-zpn _ _ c,if_neg d];simpa using b};{rw[if_neg c]at a;simp only[kV]at a;have:=zn1 _ _ _ b a;rw[if_neg (by omega)];simpa using this}}
theorem zn2 {x y:PL}(a:zap x y=false)(b:zap y x=false):x=y:=by unfold zap at a b;have d:=zi3 x.1 y.1;have e:=zi3 x.2 y.2;by_cases c:cmpL x.1 y.1=0;{rw[if_pos c]at a;rw[if_pos (by omega)]at b;simp only[decide_eq_false_iff_not]at a b;exact Prod.ext (zpn _ _ c) (zpn _ _ (by omega))};{rw[if_neg c]at a;rw[if_neg (by omega)]at b;simp only[decide_eq_false_iff_not]at a b;omega}
def za4 (V:List PL)(BV:List Nat)(L R:List Nat):List PL × List Nat × Nat :=
 if (zaf L,zaf R)∈V then (V,BV,V.idxOf (zaf L,zaf R))else (V ++ [(zaf L,zaf R)],BV ++ [zak BV (zak BV 0 (zaf L)) (zaf R)],V.length)
theorem ze5 (V:List PL)(BV:List Nat)(L R:List Nat):(za4 V BV L R).2.2<(za4 V BV L R).1.length/\(za4 V BV L R).1.length<=V.length+1/\V <+: (za4 V BV L R).1:=by unfold za4;split;{rename_i a;exact⟨List.idxOf_lt_length_of_mem a,by simp,List.prefix_refl _⟩};{simp}
def za5 (V:List PL)(x:Nat):PL:=V.getD x ([],[])
structure QOk (V:List PL) (BV:List Nat) (Q:List Nat):Prop where
 nodup:Q.Nodup
 sorted:Q.Pairwise λa b=>BV.getD a 0<=BV.getD b 0
 opt1:∀x∈Q,∀y∈(za5 V x).1,y∈Q/\BV.getD y 0<BV.getD x 0
 opt2:∀x∈Q,∀y∈(za5 V x).2,y∈Q/\BV.getD y 0<BV.getD x 0
 up:∀x∈Q,(za5 V x).1.Pairwise (· < ·)/\(za5 V x).2.Pairwise (· < ·)
 inj:∀x∈Q,∀y∈Q,za5 V x=za5 V y->x=y
structure GInv (V:List PL) (BV:List Nat) (Q A:List Nat) (n:Nat):Prop where
 le:n<=Q.length
 perm:A.Perm (Q.take n)
 cut:∀x∈Q.take n,∀y∈Q.drop n,BV.getD x 0<BV.getD y 0
 up:A.Pairwise λx y=>klt (BV.getD x 0) (zc2 A (za5 V x)) (BV.getD y 0) (zc2 A (za5 V y))
theorem GInv.start (V:List PL)(BV a:List Nat):GInv V BV a [] 0:=⟨yK _,by simp,by simp,by simp⟩
theorem zng {A G:List Nat}{x:Nat}(a:x∈A):(A++G).idxOf x=A.idxOf x:=by rw[List.idxOf_append,if_pos a]
theorem zn4 {A G l:List Nat}(b:∀a∈l,a∈A):zgh (A++G) l=zgh A l:=by unfold zgh;rw[uQ λa c=>zng (b a c)]
theorem zdd {A G:List Nat}{x:PL}(b:∀a∈x.1,a∈A)(c:∀a∈x.2,a∈A):zc2 (A++G) x=zc2 A x:=by unfold zc2;rw[zn4 b,zn4 c]
theorem ztt {A l l':List Nat}(h:∀x∈l,x∈A)(h':∀x∈l',x∈A)(u:l.Pairwise (· < ·))(u':l'.Pairwise (· < ·))(e:zgh A l=zgh A l'):l=l':=by have key:∀ {a b:List Nat},(∀x∈a,x∈A)->(∀x∈b,x∈A)->zgh A a=zgh A b->∀x∈a,x∈b:=by{(intro a b ha hb e x hx;have:A.idxOf x∈zgh A b:=by rw[<-e];exact zgk.2 ⟨x,hx,rfl⟩);obtain⟨y,hy,hxy⟩:=zgk.1 this;have h1:=(zim (ha x hx)).2;have h2:=(zim (hb y hy)).2;rw[hxy]at h2;rw[<-h1,h2];exact hy};exact zhh u u' λx=>⟨key h h' e x,key h' h e.symm x⟩
section
variable {V:List PL}{BV Q A:List Nat}{n:Nat}
theorem GInv.mem (a:GInv V BV Q A n)(x:Nat):x∈A↔x∈Q.take n:=a.perm.mem_iff
theorem QOk.low (q:QOk V BV Q)(b:GInv V BV Q A n){x y:Nat}(f:x∈Q)(c:y∈Q)(e:BV.getD y 0<BV.getD x 0)(a:x∈A\/∀d∈Q.drop n,BV.getD x 0<=BV.getD d 0):y∈A:=by(rw[b.mem];have:y∈Q.take n++Q.drop n:=by rw[List.take_append_drop];exact c);rcases y6.1 this with this|this;{exact this};{rcases a with a|a;{have:=b.cut x ((b.mem x).1 a) y this;omega};{have:=a y this;omega}}
theorem QOk.closed (q:QOk V BV Q)(d:GInv V BV Q A n){x:Nat}(e:x∈A):(∀a∈(za5 V x).1,a∈A)/\∀a∈(za5 V x).2,a∈A:=by have b:x∈Q:=List.mem_of_mem_take ((d.mem x).1 e);exact⟨λa c=>q.low d b (q.opt1 x b a c).1 (q.opt1 x b a c).2 (.inl e),λa c=>q.low d b (q.opt2 x b a c).1 (q.opt2 x b a c).2 (.inl e)⟩
theorem QOk.group (q:QOk V BV Q)(g:GInv V BV Q A n)(e:n<Q.length){x:Nat}(c:x∈Q)(j:BV.getD x 0=BV.getD (Q.getD n 0) 0):(∀a∈(za5 V x).1,a∈A)/\∀a∈(za5 V x).2,a∈A:=by have b:∀f∈Q.drop n,BV.getD x 0<=BV.getD f 0:=by{intro f b;rw[j];rw[uZ e]at b;rcases kW.1 b with rfl|b;{rw[xY (l:=Q),xQ e];exact xW _};{have:=q.sorted;rw[<-List.take_append_drop n Q,List.pairwise_append]at this;have h:=this.2.1;rw[uZ e,List.pairwise_cons]at h;have i:=h.1 f b;rw[xY (l:=Q),xQ e];exact i}};exact⟨λa d=>q.low g c (q.opt1 x c a d).1 (q.opt1 x c a d).2 (.inr b),λa d=>q.low g c (q.opt2 x c a d).1 (q.opt2 x c a d).2 (.inr b)⟩
theorem GInv.step (q:QOk V BV Q)(e:GInv V BV Q A n){m:Nat}{G G':List Nat}(T:0<m)(P:n+m<=Q.length)(p:G=(Q.drop n).take m)(l:∀a∈G,BV.getD a 0=BV.getD (Q.getD n 0) 0) (N:n+m=Q.length\/BV.getD (Q.getD (n+m) 0) 0≠BV.getD (Q.getD n 0) 0) (z:G'.Perm G) (R:G'.Pairwise λc d=>zap (zc2 A (za5 V d)) (zc2 A (za5 V c))=false):GInv V BV Q (A++G') (n+m):=by(have s:n<Q.length:=by omega);(have I:Q.take (n+m)=Q.take n++(Q.drop n).take m:=List.take_add;have M:Q.drop (n+m)=(Q.drop n).drop m:=by rw[List.drop_drop]);(have h:∀a∈G,a∈Q:=λa b=>by rw[p]at b;exact List.mem_of_mem_drop (List.mem_of_mem_take b));have r:∀a∈G',a∈G:=λa b=>(z.mem_iff).1 b;(have K:∀a∈G,a∈Q.drop n:=λa b=>by rw[p]at b;exact List.mem_of_mem_take b);have O:G'.Nodup:=by{rw[z.nodup_iff,p];exact(List.take_sublist _ _).nodup ((List.drop_sublist _ _).nodup q.nodup)};refine⟨P,?_,?_,?_⟩;{rw[I,<-p];exact e.perm.append z};{intro a b i g;have S:BV.getD (Q.getD n 0) 0<BV.getD i 0:=by{have w:n+m<Q.length:=by{rcases Nat.lt_or_ge (n+m) Q.length with f|f;{exact f};{rw[List.drop_eq_nil_of_le f]at g;cases g}};have U:BV.getD (Q.getD (n+m) 0) 0≠BV.getD (Q.getD n 0) 0:=by{rcases N with f|f;{omega};{exact f}};(have y:Q.getD n 0=Q[n]:=by rw[xY,xQ s];rfl);(have o:Q.getD (n+m) 0=Q[n+m]:=by rw[xY,xQ w];rfl);have f:=List.pairwise_iff_getElem.1 q.sorted n (n+m) s w (by omega);rw[<-y,<-o]at f;rw[uZ w]at g;rcases kW.1 g with rfl|g;{rw[<-o];omega};{have:=q.sorted;rw[<-List.take_append_drop (n+m) Q,List.pairwise_append]at this;have D:=this.2.1;rw[uZ w,List.pairwise_cons]at D;have J:=D.1 i g;rw[<-o]at J;omega}};rw[I,<-p,y6]at b;rcases b with b|b;{refine e.cut a b i ?_;rw[M]at g;exact List.mem_of_mem_drop g};{rw[l a b];exact S}};{have E:∀a∈A,zc2 (A++G') (za5 V a)=zc2 A (za5 V a):=λa b=>zdd (q.closed e b).1 (q.closed e b).2;have F:∀a∈G',zc2 (A++G') (za5 V a)=zc2 A (za5 V a):=λa b => have H:=q.group e s (h a (r a b)) (l a (r a b));zdd H.1 H.2;refine List.pairwise_append.2 ⟨e.up.imp_of_mem λ{c d} t u v=>?_,?_,λa b i g=>?_⟩;{rw[E c t,E d u];exact v};{refine((List.nodup_iff_pairwise_ne.1 O).and R).imp_of_mem λ{c d} t u v=>?_;have j:=r c t;have k:=r d u;have B:=q.group e s (h c j) (l c j);have C:=q.group e s (h d k) (l d k);rw[F c t,F d u];refine .inr ⟨by rw[l c j,l d k],?_⟩;cases L:zap (zc2 A (za5 V c)) (zc2 A (za5 V d))with| true=>rfl| false =>{exfalso;have x:=zn2 L v.2;unfold zc2 at x;have y:=ztt B.1 C.1 (q.up c (h c j)).1 (q.up d (h d k)).1 (congrArg Prod.fst x);have o:=ztt B.2 C.2 (q.up c (h c j)).2 (q.up d (h d k)).2 (congrArg Prod.snd x);exact v.1 (q.inj c (h c j) d (h d k) (Prod.ext y o))}};{exact .inl (e.cut a ((e.mem a).1 b) i ((K i (r i g))) |> λf=>f)}}
theorem GInv.order (g:GInv V BV Q A Q.length)(n:Q.Nodup){R:List Nat}(o:∀a,a∈Q↔ReachV V R a):OrderIs V BV R A (A.map λa=>zc2 A (za5 V a)):=by have f:=g.perm;rw[y7]at f;refine⟨(f.nodup_iff).2 n,λa=>(f.mem_iff).trans (o a),rfl,λh i a r k b c=>?_⟩;rw[vY]at b c;cases d:A[h]? with| none=>rw[d]at b;cases b| some p =>{cases e:A[i]? with| none=>rw[e]at c;cases c| some q =>{rw[d]at b;rw[e]at c;cases b;cases c;obtain⟨j,rfl⟩:=xV.1 d;obtain⟨m,rfl⟩:=xV.1 e;rw[xY (l:=A),d,xY (l:=A),e];exact List.pairwise_iff_getElem.1 g.up h i j m k}}
end
end Go.Proofs.YtghekfmfonoocaaGreatDoor
namespace Go.Proofs.YtghekfmfonoocaaGreatDoor
open Go.RowKit Go.Sort
theorem zh8 {b:Type}[Inhabited b]{enc:b->Value}{w:World}{base:Nat}{e:TypeId}{g n cap:Nat}{xs:List Value}(f:w.ownsRow base e 1 (.slice (some ⟨g,0,none⟩) n cap) n xs)(d:Array b)(k:xs=d.toList.map enc):Holds enc w g 0 d:=by rcases f.2 with ⟨l,_⟩|⟨q,p,c,o,r,h,u,s,v,m⟩;{cases l};{cases o;(have j:xs.length=n*1:=f.1;intro a i;have t:a<n:=by rw[k]at j;simp at j;omega);refine⟨?_,fZ h⟩;rw[Nat.zero_add,xX w g a c _ _ h];have:(c.toList.take (n*1))[a]?=some (enc d[a]!):=by{rw[m,k,vY,Array.getElem?_toList,Array.getElem?_eq_getElem i,getElem!_pos d a i];rfl};rw[List.getElem?_take,if_pos (by omega)]at this;simpa using this}
theorem zpb {a:Type}[Inhabited a]{enc:a->Value}{w:World}{g:Nat}{b:Array Value}{e:TypeId}{c:Nat × Nat}(f:w.heap[g]?=some (.cells b e c))(d:Array a)(q:Nat)(i:Array Obj) : (grow (putRow enc (Sort.ahead w q) g 0 d) i).heap[g]?=some (.cells (putCells enc 0 d b) e c)/\Fr (λh=>h=g) w (grow (putRow enc (Sort.ahead w q) g 0 d) i):=by have k:g<w.heap.size:=(yZ.1 f).1;constructor;{rw[heap_grow_old _ _ (by simpa using k)];unfold putRow mapBlock;simp only[Array.getElem?_modify,if_true,Sort.heap_ahead,f,Option.map_some,onCells]};{refine⟨rfl,rfl,rfl,by simp,λh j l=>?_⟩;rw[heap_grow_old _ _ (by simpa using j)];unfold putRow mapBlock;simp only[Array.getElem?_modify,Sort.heap_ahead];rw[if_neg (λe=>l e.symm)]}
theorem zh1 {c:Type}[Inhabited c]{enc:c->Value}{w:World}{base:Nat}{e:TypeId}{g n cap:Nat}{xs:List Value}(h:w.ownsRow base e 1 (.slice (some ⟨g,0,none⟩) n cap) n xs)(d:Array c)(p:d.size=n)(q:Nat)(b:Array Obj) : (grow (putRow enc (Sort.ahead w q) g 0 d) b).ownsRow base e 1 (.slice (some ⟨g,0,none⟩) n cap) n (d.toList.map enc)/\Fr (λv=>v=g) w (grow (putRow enc (Sort.ahead w q) g 0 d) b):=by rcases h.2 with ⟨j,_⟩|⟨z,x,y,u,m,r,s,o,t,A⟩;{cases j};{cases u;obtain⟨k,l⟩:=zpb (enc:=enc) r d q b;refine⟨⟨by simp[p],.inr ⟨g,cap,_,rfl,m,k,s,o,by simp[putCells,t],?_⟩⟩,l⟩;apply List.ext_getElem?;intro a;rw[List.getElem?_take];by_cases f:a<n*1;{rw[if_pos f,vY,Array.getElem?_toList,Array.getElem?_toList,Array.getElem?_eq_getElem (xs:=d) (i:=a) (by omega)];unfold putCells;rw[Array.getElem?_mapIdx,Array.getElem?_eq_getElem (by omega)];simp only[Option.map_some];rw[if_pos ⟨yK _,by omega⟩,Nat.sub_zero,getElem!_pos d a (by omega)]};{rw[if_neg f,vY,Array.getElem?_toList,Array.getElem?_eq_none (by omega)];rfl}}
theorem zvy {w:World}{base:Nat}{e:TypeId}{g n cap m:Nat}{xs:List Value}(h:w.ownsRow base e 1 (.slice (some ⟨g,0,none⟩) n cap) n xs)(hm:m<=n):w.ownsRow base e 1 (.slice (some ⟨g,0,none⟩) m cap) m (xs.take m):=by rcases h.2 with ⟨h0,_⟩|⟨g',cap',cur,hv,hb,hg,hnc,hcm,hs,ht⟩;{cases h0};{cases hv;have hl:=h.1;refine⟨by simp;omega,.inr ⟨g,cap,cur,rfl,hb,hg,by omega,hcm,hs,?_⟩⟩;rw[<-ht,List.take_take,Nat.mul_one,Nat.mul_one,Nat.min_eq_left hm]}
theorem zry (b:List Int)(m:b.Pairwise (·<=·)):(Lib.compact b).Pairwise (· < ·)/\(∀f,f∈Lib.compact b↔f∈b)/\(Lib.compact b).length<=b.length:=by have j:∀g a:Nat,g<=a->a<b.length->b.toArray[g]!<=b.toArray[a]! := by{intro g a u e;rw[getElem!_pos b.toArray g (by simp;omega),getElem!_pos b.toArray a (by simpa using e)];simp only[List.getElem_toArray];rcases Nat.lt_or_ge g a with h|hge;{exact List.pairwise_iff_getElem.1 m g a (by omega) e h};{(have:g=a:=by omega);subst this;exact Int.le_refl _}};have r:∀c,c<=b.length->(Lib.compactUpTo b.toArray c).Pairwise (· < ·)/\(∀f,f∈Lib.compactUpTo b.toArray c↔∃a,a<c/\b.toArray[a]! = f)/\(Lib.compactUpTo b.toArray c).length<=c:=by{intro c;induction c with| zero=>{intro _;refine⟨by simp[Lib.compactUpTo],λf=>⟨λhx=>by simp[Lib.compactUpTo]at hx,λ⟨a,e,_⟩=>absurd e (Nat.not_lt_zero _)⟩,by simp[Lib.compactUpTo]⟩}| succ c n =>{intro v;obtain⟨l,i2,w⟩:=n (by omega);rw[Lib.compactUpTo_succ];by_cases hk:Lib.keeps b.toArray c=true;{rw[if_pos hk];refine⟨?_,λf=>?_,by simp;omega⟩;{rw[List.pairwise_append];refine⟨l,by simp,λf hx x k=>?_⟩;rw[x9]at k;subst k;obtain⟨a,e,rfl⟩:=(i2 f).1 hx;unfold Lib.keeps at hk;simp only[kV]at hk;rcases hk with hk|hk;{omega};{have i:=j a (c-1) (by omega) (by omega);have t:=j (c-1) c (by omega) (by omega);omega}};{rw[y6,i2];constructor;{rintro(⟨a,e,d⟩|hx);{exact⟨a,by omega,d⟩};{rw[x9]at hx;exact⟨c,by omega,hx.symm⟩}};{rintro⟨a,e,d⟩;rcases Nat.lt_or_ge a c with h|hge;{exact .inl ⟨a,h,d⟩};{(have:a=c:=by omega);subst this;exact .inr (x9.2 d.symm)}}}};{rw[if_neg hk];refine⟨by simpa using l,λf=>?_,by simp;omega⟩;rw[List.append_nil,i2];constructor;{rintro⟨a,e,d⟩;exact⟨a,by omega,d⟩};{rintro⟨a,e,d⟩;rcases Nat.lt_or_ge a c with h|hge;{exact⟨a,h,d⟩};{(have:a=c:=by omega);subst this;unfold Lib.keeps at hk;simp only[kV]at hk;have s:¬a=0:=λd=>hk (.inl d);have i:b.toArray[a]! = b.toArray[a-1]! := Decidable.of_not_not λd=>hk (.inr d);exact⟨a-1,by omega,by rw[<-i];exact d⟩}}}}};obtain⟨o,p,q⟩:=r b.length (xW _);refine⟨o,λf=>?_,q⟩;unfold Lib.compact;rw[p];constructor;{rintro⟨a,e,rfl⟩;rw[getElem!_pos b.toArray a (by simpa using e)];simp};{intro hx;obtain⟨a,e,d⟩:=uY hx;exact⟨a,e,by rw[getElem!_pos b.toArray a (by simpa using e)];simpa using d⟩}
def zez (L:List Nat):List Int:=(ints L).mergeSort λa b=>decide (a<=b)
theorem zsc (L:List Nat):(zez L).Pairwise (·<=·):=by have:=List.pairwise_mergeSort (le:=λc d:Int=>decide (c<=d)) (λa b e f g=>by simp at *;omega) (λa b=>by simp;omega) (ints L);simpa [zez] using this
theorem zmg (L:List Nat):(zez L).Perm (ints L):=List.mergeSort_perm _ _
theorem zt5 (L:List Nat):Lib.compact (zez L)=ints (zaf L):=by obtain⟨h1,h2,_⟩:=zry (zez L) (zsc L);have hnn:∀x∈Lib.compact (zez L),∃n:Nat,x=(n:Int)/\n∈L:=λx hx=>by{have:=((zmg L).mem_iff).1 ((h2 x).1 hx);unfold ints at this;obtain⟨n,hn,rfl⟩:=y8.1 this;exact⟨n,rfl,hn⟩};have e:Lib.compact (zez L)=ints ((Lib.compact (zez L)).map Int.toNat):=by{unfold ints;rw[List.map_map];refine((uQ λx hx=>?_).trans (List.map_id' _)).symm;obtain⟨n,rfl,_⟩:=hnn x hx;rfl};rw[e];congr 1;refine zhh ?_ (zeb L) λx=>?_;{refine List.pairwise_map.2 (h1.imp_of_mem λ{a b} ha hb hlt=>?_);obtain⟨n,rfl,_⟩:=hnn a ha;obtain⟨m,rfl,_⟩:=hnn b hb;simpa using hlt};{rw[zba];constructor;{intro hx;obtain⟨y,hy,rfl⟩:=y8.1 hx;obtain⟨n,rfl,hn⟩:=hnn y hy;simpa using hn};{intro hx;refine y8.2 ⟨(x:Int),(h2 _).2 (((zmg L).mem_iff).2 ?_),by simp⟩;unfold ints;exact y8.2 ⟨x,hx,rfl⟩}}
theorem zyi {base g cap:Nat}(L:List Nat)(w:World)(a:w.ownsRow base 3 1 (.slice (some ⟨g,0,none⟩) L.length cap) L.length (L.map encN))(o:L.length<1000000000000) : Calls Tryz.prog 167 #[.slice (some ⟨g,0,none⟩) L.length cap] w λc b=>c=.returned (.tuple #[])/\b.ownsRow base 3 1 (.slice (some ⟨g,0,none⟩) L.length cap) L.length ((zez L).map encI)/\Fr (λl=>l=g) w b:=by(have k:L.map encN=(ints L).toArray.toList.map (Value.int .i64):=by simp[ints,encN,Function.comp_def]);(have i:=zh8 (enc:=Value.int .i64) a (ints L).toArray k;have e:(ints L).length=L.length:=by simp[ints]);have j:g<w.heap.size:=(a.lt g rfl).2;have d:=Any.slices_Sort_int Tryz.laySort g 0 cap (ints L) w i j (by rw[e];omega);rw[e]at d;refine Calls.mono (P:=Tryz.prog) d ?_;rintro c b ⟨rfl,m,n,rfl⟩;obtain⟨f,h⟩:=zh1 (enc:=Value.int .i64) a (zez L).toArray (by simp[zez,ints]) m n;exact⟨rfl,f,h⟩
theorem yfq (e f c:Nat)(L:List Nat)(w:World)(q:Nats w (.slice (some ⟨e,f,none⟩) L.length c) L)(B:L.length<1000000000000) : Calls Tryz.prog 169 #[.slice (some ⟨e,f,none⟩) L.length c] w λa g=>∃d b,a=.returned (.slice (some ⟨d,0,none⟩) L.length b)/\g.ownsRow w.heap.size 3 1 (.slice (some ⟨d,0,none⟩) L.length b) L.length (L.map encN)/\Fr NoM w g:=by(have s:(ints L).length=L.length:=by simp[ints]);obtain⟨t,v,a,z,A,n⟩:=q;have r:=Any.slices_Clone_int Tryz.layClone e f L.length c (ints L) w (by omega) (by omega) (λj i=>by{rw[s]at i;obtain⟨u,D,l,k⟩:=n j L[j] (xQ _);cases a;cases l;rw[k];simp[ints,encN,i]});refine Calls.mono (P:=Tryz.prog) r ?_;rintro y g ⟨E,rfl,h,o,p⟩;rcases h.2 with ⟨m,_⟩|⟨d,b,x,rfl,C⟩;{exact absurd m o};{refine⟨d,b,rfl,?_,Fr.of_below p⟩;have a:((ints L).take L.length).map (Value.int .i64)=L.map encN:=by{rw[List.take_of_length_le (by omega)];simp[ints,encN,Function.comp_def]};rw[<-a];exact h}
theorem zxq {base g cap:Nat}(a:List Int)(w:World)(b:w.ownsRow base 3 1 (.slice (some ⟨g,0,none⟩) a.length cap) a.length (a.map encI))(u:a.length<1000000000000)(m:(Lib.compact a).length<=a.length) : Calls Tryz.prog 170 #[.slice (some ⟨g,0,none⟩) a.length cap] w λd c=>d=.returned (.slice (some ⟨g,0,none⟩) (Lib.compact a).length cap)/\c.ownsRow base 3 1 (.slice (some ⟨g,0,none⟩) (Lib.compact a).length cap) (Lib.compact a).length ((Lib.compact a).map encI)/\Fr (λp=>p=g) w c:=by have l:a.length<=cap:=by{rcases b.2 with ⟨i,_⟩|⟨t,r,s,o,_,_,n,_⟩;{cases i};{cases o;exact n}};have j:=zh8 (enc:=Value.int .i64) b a.toArray rfl;have k:=Any.slices_Compact_int Tryz.layCompact g 0 cap a w j (by omega) l;refine Calls.mono (P:=Tryz.prog) k ?_;rintro d c ⟨rfl,q,rfl⟩;obtain⟨e,f⟩:=zh1 (enc:=Value.int .i64) b (Lib.compact a++List.replicate (a.length-(Lib.compact a).length) 0).toArray (by simp;omega) q #[];rw[grow_empty]at e f;refine⟨rfl,?_,f⟩;have h:=zvy e m;rw[vZ,List.take_left' (by simp)]at h;exact h
theorem zut (i j c:Nat)(L:List Nat)(w:World)(p:Nats w (.slice (some ⟨i,j,none⟩) L.length c) L)(s:L.length<1000000000000) : Calls Tryz.prog 152 #[.slice (some ⟨i,j,none⟩) L.length c] w λa u=>∃b d,a=.returned (.slice (some ⟨b,0,none⟩) (zaf L).length d)/\u.ownsRow w.heap.size 3 1 (.slice (some ⟨b,0,none⟩) (zaf L).length d) (zaf L).length ((zaf L).map encN)/\Fr NoM w u:=by(have t:(zez L).length=L.length:=by simp[zez,ints]);have q:=(zry (zez L) (zsc L)).2.2;have r:=zt5 L;obtain⟨C,g,h,D,E⟩:=Hhp5 p s t q r;clear p s t q r;go_enter Tryz.func152,Tryz.ntmps152;go_wp2_with fail;refine(yfq i j c L w C.o g.o).mono ?_;rintro a I ⟨b,d,rfl,n,k⟩;have f:=Hh n;have x:=Hh k;clear n k;go_wp2_with fail;refine(zyi L I f.o g.o).mono ?_;rintro a v ⟨rfl,o,l⟩;have A:=Hh (show v.ownsRow w.heap.size 3 1 (.slice (some ⟨b,0,none⟩) (zez L).length d) (zez L).length ((zez L).map encI)by rw[h.o];exact o);have y:=Hh l;clear o l;go_wp2_with fail;rw[<-h.o];refine(zxq (zez L) v A.o (by rw[h.o];exact g.o) D.o).mono ?_;(rintro a J ⟨rfl,e,m⟩;rw[E.o]at e ⊢;have G:(ints (zaf L)).length=(zaf L).length:=by simp[ints]);rw[G]at e ⊢;have B:=Hh e;have z:=Hh m;clear e m;go_wp2;go_ret;refine⟨b,d,rfl,?_,?_⟩;{(have a:(ints (zaf L)).map encI=(zaf L).map encN:=by simp[ints,encN,encI,Function.comp_def]);rw[<-a];exact B.o};{refine(x.o.trans y.o (λH F a=>?_)).trans z.o (λH F a=>?_);{have:=(f.o.lt b rfl).1;omega};{have:=(f.o.lt b rfl).1;omega}}
end Go.Proofs.YtghekfmfonoocaaGreatDoor
namespace Go.Proofs.YtghekfmfonoocaaGreatDoor
open Go.RowKit
theorem zp4 (n:Nat)(a:World)(j:n<1000000000):(Instr.makeSlice 82 (.int .i64 (n:Int)) (.int .i64 (n:Int))).run Tryz.prog a=.ok (.slice (some ⟨a.heap.size,0,none⟩) n n) (a.alloc (.cells (zcx encN 0 n) 3)):=by obtain⟨h,d,e,f,g⟩:=info_parts zaa;have b:=run_make (P:=Tryz.prog) a 82 3 h (.int .i64 0) Tryz.underlying82 d e .i64 .i64 n n (by omega) (by omega) (by rw[g];omega) (by omega);rw[b,f,Int.toNat_natCast,Nat.mul_one];have:madeCells (Value.cells (.int .i64 0)) n=zcx encN 0 n:=by{apply Array.ext';unfold zcx;rw[List.toList_toArray,madeCells,Array.toList_map,Array.toList_range];refine(List.eq_replicate_iff.2 ⟨by simp,λi c=>?_⟩:_=List.replicate n (Value.int .i64 0)).trans (by simp[encN]);obtain⟨k,_,rfl⟩:=y8.1 c;simp[Value.cells,Nat.mod_one]};rw[this]
theorem zzu {S:Nat->Prop}(bb b:Nat)(NL:List PL)(BL:List Nat)(w:World)(hB:BookS S w bb NL BL)(cw:BookOK NL BL)(hr:b<NL.length)(hn:NL.length<1000000)(cW:∀p∈NL,p.1.length<100000000/\p.2.length<100000000) :
  Calls Tryz.prog 72 #[.pointer (some ⟨bb,0,none⟩),.int .i64 (b:Int)] w λe w'=>∃v',e=.returned (.agg #[v'])/\NodeOwn w.heap.size w' v' (zdh NL BL b)/\Fr NoM w w':=by
 obtain⟨HB,bu,Hr,Hn,dS⟩:=Hhp5 hB.book cw hr hn cW;have mk:=λf=>zp4 (b+1) f (by omega)
 have fB:∀f:World,(Instr.makeSlice 82 (.int .i64 ((b:Int)+1)) (.int .i64 ((b:Int)+1))).run Tryz.prog f=.ok (.slice (some ⟨f.heap.size,0,none⟩) (b+1) (b+1)) (f.alloc (.cells (zcx encN 0 (b+1)) 3)):=λf=>by have:=mk f;rw[show((b+1:Nat):Int)=(b:Int)+1 from by omega]at this;exact this
 clear hB cw cW mk;go_enter Tryz.func72,Tryz.ntmps72;go_wp2_with fail;have F1:Fr NoM w (w.alloc (.cells #[.slice none 0 0] 26)):=(nW w).alloc _;refine(zvr bb b NL BL _ (HB.o.fr0 F1) Hr.o bu.o.opts (by have:=Hn.o;omega)).mono ?_
 rintro e i ⟨rfl,af,F2⟩;have ad:i.heap[w.heap.size]?=some (.cells #[.slice none 0 0] 26 (0,0)):=F2.heap (xJ w _) id;have aN:=F2.size;simp only[xZ]at af aN ⊢;obtain⟨dY,ax,dC,ej⟩:=Hhp4 af (F1.trans F2 kP) ad aN;clear af F1 F2 ad aN;obtain⟨fC,eU,eT,aC⟩:=HB.o;obtain⟨na,nc,rfl,fj,fk,da⟩:=aC.nodeL;have cJ:=aC.born;have bG:=aC.blk;obtain⟨ba,bc,rfl,f7,f8,cF⟩:=SliceOf.of_owns (L:=BL) cJ rfl;have c0:w.cell? ⟨bb,0,none⟩=some (.slice na NL.length nc):=by rw[xX w bb 0 _ _ _ bG];rfl
 have c1:w.cell? ⟨bb,1,none⟩=some (.slice ba BL.length bc):=by rw[xX w bb 1 _ _ _ bG];rfl
 have bD:BL.length=NL.length:=aC.lens;have di:b<BL.length:=by rw[bD];exact Hr.o
 obtain⟨T,bE⟩:∃g,BL[b]?=some g:=⟨_,xQ di⟩;have f6:T<=b:=bu.o.born b T bE;have HN:=Hh (λf (o:Fr NoM i f) (a:Nat) (p:PL) (A:NL[a]?=some p)=>show ∃z aa lv rv,na=some ⟨z,aa,none⟩/\f.cell? ⟨z,aa+a*2,none⟩=some lv/\f.cell? ⟨z,aa+a*2+1,none⟩=some rv/\Nats f lv p.1/\Nats f rv p.2 from by
  obtain⟨z,aa,lv,rv,e,_,d1,d2,n1,n2,_,_⟩:=da a p A;have Z:=ax.o.trans o kP;exact⟨z,aa,lv,rv,e,Z.cell d1 id,Z.cell d2 id,n1.fr0 Z,n2.fr0 Z⟩)
 have ca:=Hh (λf (o:Fr NoM i f) (a:Nat) (p:Nat) (A:BL[a]?=some p)=>show ∃z aa,ba=some ⟨z,aa,none⟩/\f.cell? ⟨z,aa+a,none⟩=some (.int .i64 (p:Int))from by
  obtain⟨z,aa,e,d1⟩:=cF a p A;exact⟨z,aa,e,(ax.o.trans o kP).cell d1 id⟩)
 have HC:=Hh (λf (o:Fr NoM i f)=>show f.cell? ⟨bb,0,none⟩=some (.slice na NL.length nc)/\f.cell? ⟨bb,1,none⟩=some (.slice ba BL.length bc)from
  ⟨(ax.o.trans o kP).cell c0 id,(ax.o.trans o kP).cell c1 id⟩)
 have cq:=Hh bE;have eS:=Hh bD;clear aC da cJ bG cF c0 c1 bE bD;go_wp2;obtain⟨w5,ap⟩:=eX (((i.alloc (.cells (zcx encN 0 (b+1)) 3)).alloc (.cells #[] 85)).alloc (.cells #[.slice (some ⟨i.heap.size+1,0,none⟩) 0 0] 26):World);have F5:Fr NoM i w5:=by rw[ap];exact(((nW i).alloc _).alloc _).alloc _
 have q6:RowIs 3 encN w5 i.heap.size (List.replicate (b+1) 0):=by
  rw[ap];exact((RowIs.made 3 encN i 0 (b+1)).fr (((nW _).alloc _).alloc _) id)
 have q7:w5.heap[i.heap.size+2]?=some (.cells #[.slice (some ⟨i.heap.size+1,0,none⟩) 0 0] 26 (0,0)):=by
  rw[ap];have h:=xJ ((i.alloc (.cells (zcx encN 0 (b+1)) 3)).alloc (.cells #[] 85)) (.cells #[.slice (some ⟨i.heap.size+1,0,none⟩) 0 0] 26 (0,0));simp only[xZ]at h;exact h
 have q1:NodeRow (λ_=>False) (i.heap.size+1) w5 (.slice (some ⟨i.heap.size+1,0,none⟩) 0 0) []:=by
  refine⟨[],?_,rfl,by simp⟩;have h:=yW (base:=i.heap.size+1) (e:=85) (size:=2) (i.alloc (.cells (zcx encN 0 (b+1)) 3)) #[] 0 (by simp) (by decide) (by simp);simp only[xZ]at h;rw[ap];exact h.alloc _
 rw[show i.heap.size+1+1=i.heap.size+2 from rfl,<-ap];obtain⟨eP,dL,Q6,Q7,Q1⟩:=Hhp5 ap F5 q6 q7 q1;clear ap F5 q6 q7 q1;go_loopw [8] (λB wr=>∃(s:Nat) (aB:Nat->Prop) (nv:Value),B=.int .i64 s/\s<=T+1/\RowIs 3 encN wr i.heap.size (zay NL BL (zam NL b) b s).1 ∧
   wr.heap[i.heap.size+2]?=some (.cells #[nv] 26 (0,0))/\NodeRow aB (i.heap.size+1) wr nv (zay NL BL (zam NL b) b s).2/\(∀c,aB c->i.heap.size+2<c)/\(∀c,nv.ownBlock=some c->c≠i.heap.size+2/\¬aB c)/\Fr NoM i wr) (λB _=>T+1-(intOf B).toNat)
 case atStart=>exact⟨0,_,_,rfl,yK _,Q6.o,Q7.o,Q1.o,λc h=>h.elim,λc k=>by simp[Value.ownBlock]at k;subst k;exact⟨by omega,λh=>h⟩,dL.o⟩
 case round =>
  obtain⟨s,aB,nv,rfl,fi,a0,ae,a1,hT,ag,a6⟩:=hrel;obtain⟨q,rfl⟩:=eX wr;obtain⟨c0,c1⟩:=HC.o _ a6;obtain⟨b1,o1,cy,d1⟩:=ca.o _ a6 b T cq.o;have ft:=za9 ba BL.length bc b b1 o1 di cy;obtain⟨c5,be,aU,HT,aS,aj⟩:=Hhp6 a0 ae a1 hT ag a6;clear a0 ae a1 hT ag a6 cy;by_cases ao:s<=T
  ·go_wp2
   obtain⟨wA,aO⟩:=eX ((q.alloc (.cells #[] 85)).alloc (.cells #[] 3):World);have FA:Fr NoM q wA:=by rw[aO];exact((nW q).alloc _).alloc _
   have p1:NodeRow (λc=>q.heap.size<=c) q.heap.size wA (.slice (some ⟨q.heap.size,0,none⟩) 0 0) []:=by
    refine⟨[],?_,rfl,by simp⟩;rw[aO];exact(yW (base:=q.heap.size) (e:=85) (size:=2) q #[] 0 (by simp) (by decide) (by simp)).alloc _
   have p2:wA.ownsRow q.heap.size 3 1 (.slice (some ⟨q.heap.size+1,0,none⟩) 0 0) 0 []:=by
    have h:=yW (base:=q.heap.size) (e:=3) (size:=1) (q.alloc (.cells #[] 85)) #[] 0 (by simp) (by decide) (by simp);simp only[xZ]at h;rw[aO];exact h
   rw[<-aO];obtain⟨dv,dw,dM⟩:=Hhp3 p1 p2 FA;clear p1 p2 FA aO;go_loopw [9,10,11] (λv o B wq=>∃(d:Nat) (lv fv:Value),lv=v/\fv=o/\B=.int .i64 d/\d<=b+1/\NodeRow (λc=>q.heap.size<=c) q.heap.size wq lv (zei NL BL (zam NL b) (zay NL BL (zam NL b) b s).1 s d).1 ∧
    wq.ownsRow q.heap.size 3 1 fv (zei NL BL (zam NL b) (zay NL BL (zam NL b) b s).1 s d).2.length ((zei NL BL (zam NL b) (zay NL BL (zam NL b) b s).1 s d).2.map encN)/\Fr NoM q wq) (λ_ _ B _=>b+1-(intOf B).toNat)
   case atStart=>exact⟨0,_,_,rfl,rfl,rfl,yK _,dv.o,dw.o,dM.o⟩
   case round =>
    obtain⟨d,lv,fv,rfl,rfl,rfl,hk,cX,cP,bJ⟩:=hrel;obtain⟨es,eV⟩:=HC.o _ (aj.o.trans bJ kP);obtain⟨HL,aR,K⟩:=Hhp3 cX cP bJ;clear cX cP bJ;by_cases ez:d<=b
    ·have cV:d<NL.length:=by omega
     have cU:d<BL.length:=by omega
     obtain⟨F,bF⟩:∃g,BL[d]?=some g:=⟨_,xQ cU⟩;obtain⟨b2,o2,cz,d2⟩:=ca.o _ (aj.o.trans K.o kP) d F bF;have fu:=za9 ba BL.length bc d b2 o2 cU cz;have fw:=zhv (w.heap.size+1) (b+1) (b+1) d (by omega);have af:=(dY.o.fr aj.o id).fr K.o id;have bO:(zam NL b).length=b+1:=zkg NL b;have d3:=af.cell d (by omega);unfold encB at d3;by_cases aL:(zam NL b)[d]=true/\F=s
     ·obtain⟨hm,cH⟩:=aL
      subst cH;rw[hm]at d3;obtain⟨b3,o3,xl,xr,cA,d4,d5,m1,m2⟩:=HN.o _ (aj.o.trans K.o kP) d NL[d] (xQ _);have fx:=zbn na NL.length nc d b3 o3 cV cA;obtain⟨dU,dV,eb⟩:=Hhp3 m1 m2 (show(zam NL b).getD d false=true/\BL.getD d 0=F from⟨by rw[xY,xQ (by omega)];exact hm,by rw[xY,bF];rfl⟩);clear m1 m2 cA af bO hm cz;obtain⟨x,hA⟩:=eX ((zay NL BL (zam NL b) b F).1);have ct:x.length=b+1:=by rw[hA];exact(zdu NL BL _ b F).1
      have c3:=Hh (λf (o:Fr NoM wr f)=>show Nats f (.slice (some ⟨i.heap.size,0,none⟩) (b+1) (b+1)) x from by
       have h:=((c5.o.fr K.o id).fr o id).slice (by rw[(zdu NL BL (zam NL b) b F).1];omega);rw[(zdu NL BL (zam NL b) b F).1,<-hA]at h;exact h)
      have dW:=Hh (λf (o:Fr NoM wr f)=>dU.o.fr0 o);have dX:=Hh (λf (o:Fr NoM wr f)=>dV.o.fr0 o);obtain⟨p1,p2⟩:=bu.o.opts d NL[d] (xQ _);obtain⟨q1,q2⟩:=dS.o NL[d] (y9 _);obtain⟨el,em,en,eo,ep,eq,aV,HA,eJ⟩:=Hhp9 (show ∀(a g:Nat),NL[d].1[a]?=some g->g<x.length from λa g u=>by have:=p1 g (xK u);omega) (show ∀(a g:Nat),NL[d].2[a]?=some g->g<x.length from λa g u=>by have:=p2 g (xK u);omega) (show NL[d].1.length<1000000000000 by omega) (show NL[d].2.length<1000000000000 by omega) (show(za2 x NL[d].1).length<1000000000000 by simp[za2];omega) (show(za2 x NL[d].2).length<1000000000000 by simp[za2];omega) (λf (o:Fr NoM wr f)=>(⟨o.cell es id,o.cell d4 id,o.cell d5 id⟩:f.cell? ⟨bb,0,none⟩=some (.slice na NL.length nc)/\f.cell? ⟨b3,o3+d*2,none⟩=some xl/\f.cell? ⟨b3,o3+d*2+1,none⟩=some xr)) hA ct;clear hA ct p1 p2 q1 q2;go_upto_region 12 with fail;go_cut [12]from 36 to 117 (λg wx=>∃(z:Nat) (bU bZ:Value),g=.pointer (some ⟨z,0,none⟩)/\wx.heap[z]?=some (.cells #[bU,bZ] 85 (0,0))/\wr.heap.size<=z/\Nats wx bU (zaf (za2 x NL[d].1))/\Nats wx bZ (zaf (za2 x NL[d].2))/\(∀c,bU.ownBlock=some c->wr.heap.size<=c)/\(∀c,bZ.ownBlock=some c->wr.heap.size<=c)/\Fr NoM wr wx)
      case first =>
       have F0:Fr NoM wr wr.drew:=(nW wr).drew;have hs:=aV.o wr (nW wr);go_region_held3 (λ(f:World)=>f.cell? ⟨bb,0,none⟩=some (.slice na NL.length nc)/\f.cell? ⟨b3,o3+d*2,none⟩=some xl/\f.cell? ⟨b3,o3+d*2+1,none⟩=some xr)
        (first|exact aV.o _ (‹_›)|exact aV.o _ (Fr.alloc (‹_›) _)|exact aV.o _ (Fr.setCell (Fr.setCell g4 _ _ (λh=>absurd h (Nat.not_lt.2 (by first|exact g4.size|exact t.size|exact g2.size|exact g1.size|exact xW _)))) _ _ (λh=>absurd h (Nat.not_lt.2 (by first|exact g4.size|exact t.size|exact g2.size|exact g1.size|exact xW _)))))
        (first
         | (go_at_call 79;(with_reducible refine(zfz _ xl x NL[d].1 _ (c3.o _ (by first|assumption|exact Fr.alloc (‹_›) _|exact Fr.drew (Fr.alloc (nW _) _))) (dW.o _ (by first|assumption|exact Fr.alloc (‹_›) _|exact Fr.drew (Fr.alloc (nW _) _))) el.o en.o).mono ?_);rintro e w5 ⟨v1,rfl,t1,f1⟩;have z1:Nats w5 v1 (za2 x NL[d].1):=zde t1;clear t1;have g1:Fr NoM wr w5:=Fr.trans (by first|assumption|exact Fr.alloc (‹_›) _|exact Fr.drew (Fr.alloc (nW _) _)) f1 kP;(first|have u:=Fr.heap f1 (xJ _ _) id|skip))
         | (go_at_call 117;(with_reducible refine(zn8 v1 (za2 x NL[d].1) _ (by first|exact z1|exact SliceOf.fr0 z1 (Fr.alloc (nW _) _)) ep.o).mono ?_);rintro e w6 ⟨l1,rfl,⟨bV,bX,rfl,dt⟩,f2,r1⟩;have y1:Nats w6 (.slice bV (zaf (za2 x NL[d].1)).length bX) (zaf (za2 x NL[d].1)):=⟨bV,bX,rfl,dt⟩;clear dt;have h2:Fr NoM w5 w6:=(by first|exact f2|exact Fr.trans (Fr.alloc (nW _) _) f2 kP);have g2:Fr NoM wr w6:=g1.trans h2 kP;have dp:∀c,(Value.slice bV (zaf (za2 x NL[d].1)).length bX).ownBlock=some c->wr.heap.size<=c:=(λc k=>kQ (kQ g1.size (by simp)) (r1 c k));(first|have u:=Fr.heap h2 u id|have u:=Fr.heap f2 (xJ _ _) id|skip))
         | (go_at_call 79;(with_reducible refine(zfz _ xr x NL[d].2 _ (c3.o _ (by first|assumption|exact Fr.alloc (‹_›) _)) (dX.o _ (by first|assumption|exact Fr.alloc (‹_›) _)) em.o eo.o).mono ?_);rintro e w7 ⟨v2,rfl,t2,C⟩;have z2:Nats w7 v2 (za2 x NL[d].2):=zde t2;clear t2;have y:Fr NoM w6 w7:=(by first|exact C|exact Fr.trans (Fr.alloc (nW _) _) C kP);have t:Fr NoM wr w7:=g2.trans y kP;(first|have u:=Fr.heap y u id|have u:=Fr.heap C (xJ _ _) id|skip))
         | (go_at_call 117;(with_reducible refine(zn8 v2 (za2 x NL[d].2) _ (by first|exact z2|exact SliceOf.fr0 z2 (Fr.alloc (nW _) _)) eq.o).mono ?_);rintro e w8 ⟨l2,rfl,⟨bW,bY,rfl,du⟩,Q,r2⟩;have y2:Nats w8 (.slice bW (zaf (za2 x NL[d].2)).length bY) (zaf (za2 x NL[d].2)):=⟨bW,bY,rfl,du⟩;clear du;have D:Fr NoM w7 w8:=(by first|exact Q|exact Fr.trans (Fr.alloc (nW _) _) Q kP);have g4:Fr NoM wr w8:=t.trans D kP;have dq:∀c,(Value.slice bW (zaf (za2 x NL[d].2)).length bY).ownBlock=some c->wr.heap.size<=c:=(λc k=>kQ (kQ t.size (by simp)) (r2 c k));(first|have u:=Fr.heap D u id|have u:=Fr.heap Q (xJ _ _) id|skip);(first|have fb:=(zd3 u).1|skip);(first|have fd:=(zd3 u).2.1|skip);(first|have fp:=(zd3 u).2.2.1|skip);(first|have fq:=(zd3 u).2.2.2|skip))
         | fail)
       all_goals
        go_wp2_with fail;go_meet
        case rel =>
         have s1:=f1.size;have s2:=f2.size;have s3:=C.size;have s4:=Q.size;have s5:=g1.size;try simp at s1
         try simp at s2
         try simp at s3
         try simp at s4
         refine⟨_,_,_,rfl,?_,?_,?_,?_,dp,dq,?_⟩
         ·first|exact xJ w8 _|exact(put2 u).1
         ·first|exact g4.size|exact t.size|exact g2.size|exact g1.size|exact xW _
         ·first|exact(y1.fr0 (y.trans D kP)).fr0 ((nW w8).alloc _)|exact(y1.fr0 (y.trans D kP)).fr (put2 u).2 (λbN c k e=>by have c2:=r1 c k;(try simp at c2);obtain⟨z,O,hl⟩:=y1.block bN;rw[k]at O;cases O;omega)
         ·first|exact y2.fr0 ((nW w8).alloc _)|exact y2.fr (put2 u).2 (λbN c k e=>by have c2:=r2 c k;(try simp at c2);obtain⟨z,O,hl⟩:=y2.block bN;rw[k]at O;cases O;omega)
         ·first|exact g4.alloc _|exact g4.trans (put2 u).2 (λc k e=>by exfalso;omega)
      case rest =>
       obtain⟨xb,dr,ds,rfl,aw,dn,aJ,bM,df,dh,b4⟩:=hcut;obtain⟨wi,rfl⟩:=eX wr;obtain⟨aP,rfl⟩:=eX wc;obtain⟨r,a9⟩:=eX ((zei NL BL (zam NL b) (zay NL BL (zam NL b) b F).1 F d).1);obtain⟨KL,a5⟩:=eX ((zei NL BL (zam NL b) (zay NL BL (zam NL b) b F).1 F d).2);have hl:=HL.o;have hf:=aR.o;rw[<-a9]at hl;rw[<-a5]at hf;obtain⟨g,u⟩:=eX (keyF x NL[d]);rw[show zaf (za2 x NL[d].1)=g.1 from by rw[u];rfl]at aJ;rw[show zaf (za2 x NL[d].2)=g.2 from by rw[u];rfl]at bM;have an:=(zhq NL BL (zam NL b) (zay NL BL (zam NL b) b F).1 F d);rw[<-a9,<-a5]at an;have am:=zyt NL BL (zam NL b) (zay NL BL (zam NL b) b F).1 F d;rw[<-a5]at am;have bK:NodeRow (λc=>q.heap.size<=c) q.heap.size aP lv r:=hl.fr0 b4;have ar:aP.ownsRow q.heap.size 3 1 fv KL.length (KL.map encN):=za3 hf b4 kP;have eL:=Hh bK;have ex:=Hh ar;obtain⟨j,av,aD,aE⟩:=id bK;obtain⟨pa,pc,rfl,dc,dd,aK⟩:=Pairs.of_owns av;have cp:=Hh aw;have eQ:=Hh dn;have bq:=Hh aJ;obtain⟨br,ee,ef,ce,HX,cj,ch,ak,ci,V,ay,aT⟩:=Hhp12 bM df dh b4 u a9 a5 an am aD aE aK;clear aw dn aJ bM df dh b4 u a9 a5 an am aD aE aK hl hf bK ar av;go_wp2_with fail;go_loopw [13] (λB f=>∃a:Nat,B=.int .i64 a/\a<=j.length/\(∀j' p,j'<a->r[j']?=some p->zap p g=true)/\Fr NoM aP f) (λB _=>j.length-(intOf B).toNat)
       case atStart=>exact⟨0,rfl,yK _,λj' p h=>absurd h (Nat.not_lt_zero _),Fr.refl _ _⟩
       case round =>
        obtain⟨a,rfl,hj,cG,cR⟩:=hrel;obtain⟨cb,cL⟩:=eX ((decide (a<r.length) && zap (r.getD a ([],[])) g):Bool);obtain⟨c6,aQ,a7⟩:=Hhp3 cG cL cR;clear cG cL cR;go_upto_region 14 with fail;go_cut [91]from 80 to 93 (λbx wx=>bx=.bool cb/\Fr NoM wr wx)
        case first =>
         by_cases ao:a<j.length
         ·have a2:a<r.length:=by rw[<-V.o];exact ao
          obtain⟨b5,o5,au,W,X⟩:=aT.o a j[a] (xQ _);have eI:=zbn pa j.length pc a b5 o5 ao au;obtain⟨N,Y,_,_⟩:=ay.o a j[a] r[a] (xQ _) (xQ _);have aG:zap r[a] g=cb:=by rw[aQ.o,xY,xQ a2,vJ a2];rfl
          have O:=zd3 cp.o;obtain⟨cn,bl,bm,bn,bo⟩:=Hhp5 (λf (o:Fr NoM wr f)=>have Z:=a7.o.trans o kP;(⟨Z.cell W id,Z.cell X id,Z.cell O.1 id,Z.cell O.2.1 id⟩:f.cell? ⟨b5,o5+a*2,none⟩=some j[a].1/\f.cell? ⟨b5,o5+a*2+1,none⟩=some j[a].2/\f.cell? ⟨xb,0,none⟩=some dr/\f.cell? ⟨xb,1,none⟩=some ds)) (λf (o:Fr NoM wr f)=>N.fr0 (a7.o.trans o kP)) (λf (o:Fr NoM wr f)=>Y.fr0 (a7.o.trans o kP)) (λf (o:Fr NoM wr f)=>bq.o.fr0 (a7.o.trans o kP)) (λf (o:Fr NoM wr f)=>br.o.fr0 (a7.o.trans o kP));have hg:decide ((a:Int)<(j.length:Int))=true:=by simp;omega
          have F0:Fr NoM wr wr.drew:=(nW wr).drew;have eD:=cn.o wr (nW wr);have bh:=Hh aG;clear W X N Y O au aG;go_region_held3 (λ(f:World)=>f.cell? ⟨b5,o5+a*2,none⟩=some j[a].1/\f.cell? ⟨b5,o5+a*2+1,none⟩=some j[a].2/\f.cell? ⟨xb,0,none⟩=some dr/\f.cell? ⟨xb,1,none⟩=some ds)
           (first|exact cn.o _ (‹_›))
           (first
            | (go_at_call 118;(with_reducible refine(zp7 _ _ _ _ r[a] g _ (bl.o _ (‹_›)) (bm.o _ (‹_›)) (bn.o _ (‹_›)) (bo.o _ (‹_›))).mono ?_);rintro e w9 ⟨rfl,f9⟩;have g9:Fr NoM wr w9:=Fr.trans (‹_›) f9 kP)
            | fail)
          all_goals
           go_wp2_with fail;go_meet
           case rel=>exact⟨congrArg Value.bool bh.o,by assumption⟩
         ·have a2:¬a<r.length:=by rw[<-V.o];exact ao
          have aG:false=cb:=by rw[aQ.o,vV a2];rfl
          have hg:decide ((a:Int)<(j.length:Int))=false:=by simp;omega
          have bh:=Hh aG;clear aG a2;go_quiet (fail);go_wp2_with fail;go_meet
          case rel=>exact⟨congrArg Value.bool bh.o,⟨rfl,rfl,rfl,xW _,λ_ _ _=>rfl⟩⟩
        case rest =>
         obtain⟨rfl,ar⟩:=hcut;obtain⟨l,rfl⟩:=eX wc;have aq:=Hh ar;clear ar;cases cb with
         | true =>
          have ac:=aQ.o;have a2:a<r.length:=by
           rcases Nat.lt_or_ge a r.length with h|h
           ·exact h
           ·rw[vV (by omega)]at ac;cases ac
          have cB:zap r[a] g=true:=by
           rw[vJ a2,xY,xQ a2]at ac;simpa using ac.symm
          have dx:=Hh cB;have fh:a<j.length:=by rw[V.o];exact a2
          clear ac cB;go_wp2;go_roundw
          case rel =>
           have:=V.o;refine⟨a+1,by go_num,by omega,λj' p fg A=>?_,a7.o.trans aq.o kP⟩;by_cases e:j'=a
           ·subst e;rw[xQ a2]at A;cases A;exact dx.o
           ·exact c6.o j' p (by omega) A
          case measure=>have:=V.o;simp[intOf];omega
         | false =>
          have ac:=aQ.o;have de:posA r g=a:=ymk r g a (by have:=V.o;omega) c6.o (λp A=>by
           have a2:=(xV.1 A).1;rw[vJ a2,xY,A]at ac;simpa using ac.symm)
          obtain⟨G,I,rfl,eG⟩:=id bq.o;obtain⟨H,J,rfl,eH⟩:=id br.o;have bQ:Pairs l (.slice pa j.length pc) j:=(show Pairs aP (.slice pa j.length pc) j from⟨pa,pc,rfl,dc,dd,aT.o⟩).fr0 (a7.o.trans aq.o kP);obtain⟨v1,r1,s1,q1⟩:=yoh (P:=Tryz.prog) bQ 24 85 _ 48 Tryz.underlying24 zcc a hj;obtain⟨v2,r2,s2,q2⟩:=yh4 (P:=Tryz.prog) bQ 24 85 _ 48 Tryz.underlying24 zcc a hj;have bv:=Hh (λf (o:Fr NoM l f)=>s1.fr0 o);have ea:=Hh (λf (o:Fr NoM l f)=>s2.fr0 o);have bP:∀p∈j,p.1.oneCell'=true/\p.2.oneCell'=true:=λp A=>by
           obtain⟨B,hi,rfl⟩:=uY A;have ff:B<r.length:=by rw[<-V.o];exact hi
           obtain⟨N,Y,_,_⟩:=ay.o B j[B] r[B] (xQ _) (xQ _);exact⟨zz7 N,zz7 Y⟩
          obtain⟨bs,e9,bt⟩:=Hhp3 (show ∀p∈j.take a,p.1.oneCell'=true/\p.2.oneCell'=true from λp A=>bP p (List.mem_of_mem_take A)) (show ∀p∈j.drop a,p.1.oneCell'=true/\p.2.oneCell'=true from λp A=>bP p (List.mem_of_mem_drop A)) (show ∀p∈[(Value.slice G g.1.length I,Value.slice H g.2.length J)],p.1.oneCell'=true/\p.2.oneCell'=true from λp A=>by simp at A;subst A;exact⟨rfl,rfl⟩);have fo:j.length<=1000000:=by have:=V.o;have:=ak.o;omega
          obtain⟨bf,bg,dH⟩:=Hhp3 (show(([]:List (Value × Value)).length+(j.take a).length)*48<=140737488355328 by simp;omega) (show(([]++j.take a).length + [(Value.slice G g.1.length I,Value.slice H g.2.length J)].length)*48<=140737488355328 by simp;omega) (show((([]++j.take a) ++ [(Value.slice G g.1.length I,Value.slice H g.2.length J)]).length+(j.drop a).length)*48<=140737488355328 by simp;omega);have aw:=zd3 cp.o;have W:=(a7.o.trans aq.o kP).cell aw.1 id;have X:=(a7.o.trans aq.o kP).cell aw.2.1 id;have et:∀a8,(l.alloc a8).cell? ⟨xb,0,none⟩=_:=λa8=>((nW l).alloc a8).cell W id
          have eu:∀a8,(l.alloc a8).cell? ⟨xb,1,none⟩=_:=λa8=>((nW l).alloc a8).cell X id
          have ec:=Hh de;clear ac de eG eH bQ s1 s2 q1 q2 bP aw;go_upto_region 16 with fail;go_cut [9]from 36 to 117 (λbx wx=>wx.ownsRow l.heap.size 85 2 bx (j.take a++(Value.slice G g.1.length I,Value.slice H g.2.length J)::j.drop a).length (zau (j.take a++(Value.slice G g.1.length I,Value.slice H g.2.length J)::j.drop a))/\Fr NoM l wx)
          case first =>
           go_region_law (first
            | (refine zi6 l.heap.size ((((nW l).alloc _).drew).size) rfl (.tmp 94) (.tmp 97) 24 rfl 85 _ 48 Tryz.underlying24 zcc rfl (.slice (some ⟨l.heap.size,0,none⟩) 0 0) [] rfl (by exact yW l #[] 0 (xW _) (by decide) (by simp)) v1 rfl (j.take a) (by exact bv.o _ (((nW l).alloc _).drew)) bs.o bf.o (by decide) ?_;intro v3 U y C _;have t:Fr NoM l U:=Fr.own (e:=85) (size:=2) (n:=0) (xs:=[]) (((nW l).alloc _).drew) (by exact yW l #[] 0 (xW _) (by decide) (by simp)) C;have cr:=Fr.cell t W id;have cs:=Fr.cell t X id)
            | (refine zi6 l.heap.size (((((nW l).alloc _).alloc _).drew).size) rfl (.tmp 94) (.tmp 97) 24 rfl 85 _ 48 Tryz.underlying24 zcc rfl (.slice (some ⟨l.heap.size,0,none⟩) 0 0) [] rfl (by exact(yW l #[] 0 (xW _) (by decide) (by simp)).alloc (.cells #[.slice G g.1.length I,.slice H g.2.length J] 85)) v1 rfl (j.take a) (by exact bv.o _ ((((nW l).alloc _).alloc _).drew)) bs.o bf.o (by decide) ?_;intro v3 U y C _;have t:Fr NoM l U:=Fr.own (e:=85) (size:=2) (n:=0) (xs:=[]) ((((nW l).alloc _).alloc _).drew) (by exact(yW l #[] 0 (xW _) (by decide) (by simp)).alloc (.cells #[.slice G g.1.length I,.slice H g.2.length J] 85)) C;have cr:=Fr.cell t W id;have cs:=Fr.cell t X id)
            | (refine zi6 l.heap.size (((((nW l).alloc _).alloc _).drew).size) rfl (.tmp 94) (.tmp 97) 24 rfl 85 _ 48 Tryz.underlying24 zcc rfl (.slice (some ⟨l.heap.size+1,0,none⟩) 0 0) [] rfl (by have h:=yW (base:=l.heap.size) (e:=85) (size:=2) (l.alloc (.cells #[.slice G g.1.length I,.slice H g.2.length J] 85)) #[] 0 (by simp) (by decide) (by simp);simp only[xZ]at h;exact h) v1 rfl (j.take a) (by exact bv.o _ ((((nW l).alloc _).alloc _).drew)) bs.o bf.o (by decide) ?_;intro v3 U y C _;have t:Fr NoM l U:=Fr.own (e:=85) (size:=2) (n:=0) (xs:=[]) ((((nW l).alloc _).alloc _).drew) (by have h:=yW (base:=l.heap.size) (e:=85) (size:=2) (l.alloc (.cells #[.slice G g.1.length I,.slice H g.2.length J] 85)) #[] 0 (by simp) (by decide) (by simp);simp only[xZ]at h;exact h) C;have cr:=Fr.cell t W id;have cs:=Fr.cell t X id)
            | (refine zi7 l (by first|exact t.alloc _|exact t) rfl (.tmp 98) (.tmp 100) 24 rfl 85 _ 48 Tryz.underlying24 zcc rfl v3 ([]++j.take a) rfl (by first|exact y.alloc _|exact y) (.slice (some ⟨U.heap.size,0,none⟩) 1 1) rfl [(.slice G g.1.length I,.slice H g.2.length J)] (by exact Pairs.one U _ 85) bt.o bg.o (by decide) ?_;intro v4 w4 D Q)
            | (refine zi7 l (by first|exact t.alloc _|exact t) rfl (.tmp 98) (.tmp 100) 24 rfl 85 _ 48 Tryz.underlying24 zcc rfl v3 ([]++j.take a) rfl (by first|exact y.alloc _|exact y) (.slice (some ⟨l.heap.size+1,0,none⟩) 1 1) rfl [(.slice G g.1.length I,.slice H g.2.length J)] (by have h:=(Pairs.one (l.alloc (.cells #[] 85)) (.slice G g.1.length I,.slice H g.2.length J) 85).fr (w:=((l.alloc (.cells #[] 85)).alloc (.cells #[.slice G g.1.length I,.slice H g.2.length J] 85)).drew) C (by simp[Own1,Value.ownBlock]);simp only[xZ]at h;exact h) bt.o bg.o (by decide) ?_;intro v4 w4 D Q)
            | (refine zi7 l (by first|exact t.alloc _|exact t) rfl (.tmp 98) (.tmp 100) 24 rfl 85 _ 48 Tryz.underlying24 zcc rfl v3 ([]++j.take a) rfl (by first|exact y.alloc _|exact y) (.slice (some ⟨l.heap.size,0,none⟩) 1 1) rfl [(.slice G g.1.length I,.slice H g.2.length J)] (by exact((Pairs.one l (.slice G g.1.length I,.slice H g.2.length J) 85).fr0 ((nW _).alloc (.cells #[] 85))).fr (w:=((l.alloc (.cells #[.slice G g.1.length I,.slice H g.2.length J] 85)).alloc (.cells #[] 85)).drew) C (by simp[Own1,Value.ownBlock])) bt.o bg.o (by decide) ?_;intro v4 w4 D Q)
            | (refine zi7 l Q rfl (.tmp 101) (.tmp 104) 24 rfl 85 _ 48 Tryz.underlying24 zcc rfl v4 _ rfl D v2 rfl (j.drop a) (by exact ea.o _ Q) e9.o dH.o (by decide) ?_;intro v5 w5 h5 f5)
            | fail)
           all_goals
            go_wp2_with fail;go_meet
            case rel=>exact⟨by simpa using h5,f5⟩
          case rest =>
           obtain⟨bL,cM⟩:=hcut;obtain⟨m,rfl⟩:=eX wc;have aI:Fr NoM aP m:=(a7.o.trans aq.o kP).trans cM kP;have bI:Nats m fv KL:=(SliceOf.of_owns (L:=KL) ex.o rfl).fr0 aI;have cT:a<=KL.length:=by have:=V.o;have:=ak.o;omega
           have f0:KL.length<=1000000:=by have:=ak.o;omega
           obtain⟨y1,dp,s1,q1⟩:=zvg (P:=Tryz.prog) bI 82 3 (.int .i64 0) 8 Tryz.underlying82 zaa a cT;obtain⟨y2,dq,s2,q2⟩:=sliceFrom (P:=Tryz.prog) bI 82 3 (.int .i64 0) 8 Tryz.underlying82 zaa a cT;obtain⟨bw,al,bi,bj,dI⟩:=Hhp5 (λf (o:Fr NoM m f)=>s1.fr0 o) (λf (o:Fr NoM m f)=>s2.fr0 o) (show(0+(KL.take a).length)*8<=140737488355328 by simp;omega) (show(0+(KL.take a).length + [d].length)*8<=140737488355328 by simp;omega) (show(0+(KL.take a).length + [d].length+(KL.drop a).length)*8<=140737488355328 by simp;omega);have ai:zei NL BL (zam NL b) (zay NL BL (zam NL b) b F).1 F (d+1)=(r.take a++g::r.drop a,KL.take a++d::KL.drop a):=by
            rw[zf8];unfold zfx;rw[if_pos eb.o];unfold insF;rw[<-cj.o,<-ch.o,<-HA.o,show keyF x (NL.getD d ([],[]))=g from by rw[HX.o,xY,xQ cV];rfl,ec.o]
           have cS:Fr NoM q m:=(K.o.trans ce.o kP).trans aI kP;have d0:∀f,Fr NoM m f->NodeRow (λc=>q.heap.size<=c) q.heap.size f _ (r.take a++g::r.drop a):=λf o=>by
            have Z:=aI.trans o kP;have dm:=K.o.size;have aN:=ce.o.size;have eD:=(a7.o.trans aq.o kP).size;refine zp1 (za3 (zb6 bL (by omega)) o kP) V.o (by have:=V.o;omega) (λB er z ha O=>?_) ⟨bq.o.fr0 Z,br.o.fr0 Z,λ_ c k=>kQ dm (ee.o c k),λ_ c k=>kQ dm (ef.o c k)⟩;obtain⟨N,Y,e3,e4⟩:=ay.o B er z ha O;exact⟨N.fr0 Z,Y.fr0 Z,e3,e4⟩
           obtain⟨aX,cg,dZ⟩:=Hhp3 ai cS d0;clear ai cS d0;have eM:=Hh bL;have eK:=Hh aI;clear bL cM aI s1 s2 q1 q2 bI W X et eu;go_upto_region 17 with fail
           -- R17
           go_region_law (first
            | (refine zby (enc:=encN) rfl (.tmp 106) (.tmp 109) 82 rfl m.heap.size 3 (.int .i64 0) 8 Tryz.underlying82 zaa rfl (.slice (some ⟨m.heap.size,0,none⟩) 0 0) 0 [] rfl (by exact yW m #[] 0 (xW _) (by decide) (by simp)) y1 rfl (KL.take a) (by exact bw.o _ (((nW m).alloc _).drew)) (λ_=>rfl) bi.o (by decide) (((nW m).alloc _).drew).size ?_;intro v3 U y C q3;have t:Fr NoM m U:=Fr.own (e:=3) (size:=1) (n:=0) (xs:=[]) (((nW m).alloc _).drew) (by exact yW m #[] 0 (xW _) (by decide) (by simp)) C)
            | (refine zby (enc:=encN) rfl (.tmp 106) (.tmp 109) 82 rfl m.heap.size 3 (.int .i64 0) 8 Tryz.underlying82 zaa rfl (.slice (some ⟨m.heap.size,0,none⟩) 0 0) 0 [] rfl (by exact(yW m #[] 0 (xW _) (by decide) (by simp)).alloc (.cells #[.int .i64 (d:Int)] 3)) y1 rfl (KL.take a) (by exact bw.o _ ((((nW m).alloc _).alloc _).drew)) (λ_=>rfl) bi.o (by decide) ((((nW m).alloc _).alloc _).drew).size ?_;intro v3 U y C q3;have t:Fr NoM m U:=Fr.own (e:=3) (size:=1) (n:=0) (xs:=[]) ((((nW m).alloc _).alloc _).drew) (by exact(yW m #[] 0 (xW _) (by decide) (by simp)).alloc (.cells #[.int .i64 (d:Int)] 3)) C)
            | (refine zby (enc:=encN) rfl (.tmp 106) (.tmp 109) 82 rfl m.heap.size 3 (.int .i64 0) 8 Tryz.underlying82 zaa rfl (.slice (some ⟨m.heap.size+1,0,none⟩) 0 0) 0 [] rfl (by have h:=yW (base:=m.heap.size) (e:=3) (size:=1) (m.alloc (.cells #[.int .i64 (d:Int)] 3)) #[] 0 (by simp) (by decide) (by simp);simp only[xZ]at h;exact h) y1 rfl (KL.take a) (by exact bw.o _ ((((nW m).alloc _).alloc _).drew)) (λ_=>rfl) bi.o (by decide) ((((nW m).alloc _).alloc _).drew).size ?_;intro v3 U y C q3;have t:Fr NoM m U:=Fr.own (e:=3) (size:=1) (n:=0) (xs:=[]) ((((nW m).alloc _).alloc _).drew) (by have h:=yW (base:=m.heap.size) (e:=3) (size:=1) (m.alloc (.cells #[.int .i64 (d:Int)] 3)) #[] 0 (by simp) (by decide) (by simp);simp only[xZ]at h;exact h) C)
            | (refine zcf (enc:=encN) m (by first|exact t.alloc _|exact t) rfl (.tmp 110) (.tmp 112) 82 rfl 3 (.int .i64 0) 8 Tryz.underlying82 zaa rfl v3 (0+(KL.take a).length) ([]++(KL.take a).map encN) rfl (by first|exact y.alloc _|exact y) (.slice (some ⟨U.heap.size,0,none⟩) 1 1) rfl [d] (by exact SliceOf.one encN U d 3) (λ_=>rfl) bj.o (by decide) ?_;intro v4 w4 D Q)
            | (refine zcf (enc:=encN) m (by first|exact t.alloc _|exact t) rfl (.tmp 110) (.tmp 112) 82 rfl 3 (.int .i64 0) 8 Tryz.underlying82 zaa rfl v3 (0+(KL.take a).length) ([]++(KL.take a).map encN) rfl (by first|exact y.alloc _|exact y) (.slice (some ⟨m.heap.size+1,0,none⟩) 1 1) rfl [d] (by have h:=(SliceOf.one encN (m.alloc (.cells #[] 3)) d 3).fr (w:=((m.alloc (.cells #[] 3)).alloc (.cells #[encN d] 3)).drew) C (by simp[Own1,Value.ownBlock]);simp only[xZ]at h;exact h) (λ_=>rfl) bj.o (by decide) ?_;intro v4 w4 D Q)
            | (refine zcf (enc:=encN) m (by first|exact t.alloc _|exact t) rfl (.tmp 110) (.tmp 112) 82 rfl 3 (.int .i64 0) 8 Tryz.underlying82 zaa rfl v3 (0+(KL.take a).length) ([]++(KL.take a).map encN) rfl (by first|exact y.alloc _|exact y) (.slice (some ⟨m.heap.size,0,none⟩) 1 1) rfl [d] (by exact((SliceOf.one encN m d 3).fr0 ((nW _).alloc (.cells #[] 3))).fr (w:=((m.alloc (.cells #[encN d] 3)).alloc (.cells #[] 3)).drew) C (by simp[Own1,Value.ownBlock])) (λ_=>rfl) bj.o (by decide) ?_;intro v4 w4 D Q)
            | (refine zcf (enc:=encN) m Q rfl (.tmp 113) (.tmp 116) 82 rfl 3 (.int .i64 0) 8 Tryz.underlying82 zaa rfl v4 _ _ rfl D y2 rfl (KL.drop a) (by exact al.o _ Q) (λ_=>rfl) dI.o (by decide) ?_;intro v5 w5 h5 f5)
            | fail)
           all_goals
            go_wp2;go_roundw
            case rel =>
             have ew:=cg.o.size;refine⟨d+1,_,_,rfl,rfl,by go_num,by omega,?_,?_,cg.o.trans f5 kP⟩
             ·rw[aX.o];exact dZ.o _ f5
             ·rw[aX.o]
              refine zb6 (base:=m.heap.size) ?_ ew
              have N:0+(KL.take a).length + [d].length+(KL.drop a).length=(KL.take a++d::KL.drop a).length:=by simp;omega
              have Y:[]++(KL.take a).map encN ++ [d].map encN++(KL.drop a).map encN=(KL.take a++d::KL.drop a).map encN:=by simp
              rw[<-N,<-Y];exact h5
            case measure=>simp[intOf];omega
     ·have ai:zei NL BL (zam NL b) (zay NL BL (zam NL b) b s).1 s (d+1)=zei NL BL (zam NL b) (zay NL BL (zam NL b) b s).1 s d:=by
       rw[zf8];unfold zfx;rw[if_neg];rw[xY,xY,bF,xQ (by omega)];exact aL
      have aW:=Hh ai;clear ai;by_cases hm:(zam NL b)[d]=true
      ·have cH:((F:Int) == (s:Int))=false:=by rw[beq_eq_false_iff_ne];intro h;exact aL ⟨hm,by omega⟩
       rw[hm]at d3;clear aL hm af bO;go_wp2;go_roundw
       case rel=>exact⟨d+1,_,_,rfl,rfl,by go_num,by omega,by rw[aW.o];exact HL.o,by rw[aW.o];exact aR.o,K.o⟩
       case measure=>simp[intOf];omega
      ·have cZ:(zam NL b)[d]=false:=by simpa using hm
       rw[cZ]at d3;clear aL hm cZ af bO;go_wp2;go_roundw
       case rel=>exact⟨d+1,_,_,rfl,rfl,by go_num,by omega,by rw[aW.o];exact HL.o,by rw[aW.o];exact aR.o,K.o⟩
       case measure=>simp[intOf];omega
    ·have eA:d=b+1:=by omega
     subst eA;clear hk ez;obtain⟨wl,rfl⟩:=eX wr;obtain⟨s0,aM⟩:=eX (zay NL BL (zam NL b) b s);obtain⟨r,a9⟩:=eX ((zei NL BL (zam NL b) s0.1 s (b+1)).1);obtain⟨KL,a5⟩:=eX ((zei NL BL (zam NL b) s0.1 s (b+1)).2);have a0:=c5.o;have a1:=aU.o;have hl:=HL.o;have hf:=aR.o;rw[<-aM]at a0 a1 hl hf;rw[<-a9]at hl;rw[<-a5]at hf;have d6:zay NL BL (zam NL b) b (s+1)=(List.zip r KL).foldl layF s0:=by
      rw[zhb,<-aM];unfold yc6;rw[<-a9,<-a5]
     have an:=zhq NL BL (zam NL b) s0.1 s (b+1);rw[<-a9,<-a5]at an;have am:=zyt NL BL (zam NL b) s0.1 s (b+1);rw[<-a5]at am;have dl:s0.1.length=b+1/\s0.2.length<=s*(b+1):=by rw[aM];exact zdu NL BL (zam NL b) b s
     have b8:=(yZ.1 be.o).1;have bS:∀c,nv.ownBlock=some c->i.heap.size+1<=c/\c<q.heap.size:=λc k=>by
      obtain⟨j,E,_⟩:=a1;exact E.lt c k
     obtain⟨j,av,aD,aE⟩:=id hl;have cY:=λc k=>av.lt c k
     have cQ:=λc k=>hf.lt c k
     obtain⟨pa,pc,rfl,dc,dd,aK⟩:=Pairs.of_owns av;obtain⟨fa,fc,rfl,ar,fe,cN⟩:=SliceOf.of_owns (L:=KL) hf rfl;obtain⟨M,hM⟩:∃M:Nat->Prop,M=λc=>c=i.heap.size\/c=i.heap.size+2\/nv.ownBlock=some c:=⟨_,rfl⟩
     obtain⟨T',aF⟩:∃T':Nat->Prop,T'=λc=>(aB c/\c<q.heap.size)\/(q.heap.size<=c/\c<wl.heap.size):=⟨_,rfl⟩
     have bB:∀c,q.heap.size<=c->¬M c:=λc k h=>by
      rw[hM]at h;rcases h with h|h|h
      ·omega
      ·omega
      ·have:=bS c h;omega
     have cu:∀c,T' c->¬M c:=λc k h=>by
      rw[aF]at k;rcases k with ⟨E,h2⟩|⟨E,h2⟩
      ·have:=HT.o c E
       rw[hM]at h;rcases h with h|h|h
       ·omega
       ·omega
       ·exact(aS.o c h).2 E
      ·exact bB c E h
     have cx:∀c,T' c->i.heap.size+2<c/\c<wl.heap.size:=λc k=>by
      have:=K.o.size;rw[aF]at k;rcases k with ⟨E,h2⟩|⟨E,h2⟩
      ·have:=HT.o c E;omega
      ·omega
     have dj:NodeRow T' (i.heap.size+1) wl nv s0.2:=(a1.mono (λz O ev=>by rw[aF];exact .inl ⟨O,ev⟩)).fr0 K.o;have cC:RowIs 3 encN wl i.heap.size s0.1:=a0.fr K.o id;have cI:=K.o.heap be.o id;have eO:=Hh aM;have cj:=Hh a9;have ch:=Hh a5;have e0:=Hh d6;have ak:=Hh an;have ci:=Hh am;have cm:=Hh dl;have aA:=Hh b8;have cl:=Hh bS;have V:=Hh aD;have ay:=Hh aE;obtain⟨dT,dR,aT,dN,HM,ek,bp,ck,al,eg,dy,dD⟩:=Hhp12 cY cQ aK cN hM aF bB cu cx dj cC cI;clear a0 a1 hl hf aM a9 a5 d6 an am dl b8 bS av aD aE cY cQ aK cN hM aF bB cu cx dj cC cI;go_wp2_with fail;go_loopw [14] (λB f=>∃(a:Nat) (b9:Value),B=.int .i64 a/\a<=j.length/\RowIs 3 encN f i.heap.size (((List.zip r KL).take a).foldl layF s0).1/\f.heap[i.heap.size+2]?=some (.cells #[b9] 26 (0,0)) ∧
      NodeRow T' (i.heap.size+1) f b9 (((List.zip r KL).take a).foldl layF s0).2/\(∀c,b9.ownBlock=some c->nv.ownBlock=some c\/wl.heap.size<=c)/\Fr M wl f) (λB _=>j.length-(intOf B).toNat)
     case atStart=>exact⟨0,nv,rfl,yK _,by simpa using dy.o,dD.o,by simpa using eg.o,λc h=>.inl h,Fr.refl _ _⟩
     case round =>
      obtain⟨a,b9,rfl,hj,a0,ae,a1,ag,a6⟩:=hrel;obtain⟨sj,ah⟩:=eX (((List.zip r KL).take a).foldl layF s0);rw[<-ah]at a0 a1;by_cases ao:a<j.length
      ·have a2:a<r.length:=by rw[<-V.o];exact ao
       have eC:a<KL.length:=by have:=ak.o;omega
       have eB:KL[a]<b+1:=ci.o _ (y9 _);obtain⟨a3,b7,bC,cv⟩:=id a1;obtain⟨oa,oc,rfl,fl,fm,_⟩:=Pairs.of_owns b7;obtain⟨b6,o6,bH,d9⟩:=dN.o a KL[a] (xQ _);obtain⟨b5,o5,au,W,X⟩:=aT.o a j[a] (xQ _);have cE:¬M b6:=bp.o b6 (dR.o b6 (by rw[bH];rfl)).1;have aY:¬M b5:=bp.o b5 (dT.o b5 (by rw[au];rfl)).1;obtain⟨N,Y,e3,e4⟩:=ay.o a j[a] r[a] (xQ _) (xQ _);obtain⟨⟨x1,x2⟩,bT⟩:∃p,p=j[a]:=⟨_,rfl⟩;rw[<-bT]at W X N Y e3 e4;obtain⟨G,I,rfl,eE⟩:=id N;obtain⟨H,J,rfl,eF⟩:=id Y;dsimp only at W X N Y e3 e4
       have fn:sj.1.length=b+1:=by rw[ah,(ze6 _ _).1];exact cm.o.1
       have c9:wr.cell? ⟨b6,o6+a,none⟩=some (.int .i64 (KL[a]:Int)):=a6.cell d9 cE;have c7:=a6.cell W aY;have c8:=a6.cell X aY;have eW:=a0.cell KL[a] (by omega);have fD:=a0.frozen KL[a];have bz:wr.cell? ⟨i.heap.size+2,0,none⟩=some (.slice oa a3.length oc):=by rw[xX wr _ 0 _ _ _ ae];rfl
       have fy:=za9 fa KL.length fc a b6 o6 eC bH;have eI:=zbn pa j.length pc a b5 o5 ao au;have fA:=zet i.heap.size (b+1) (b+1) KL[a] eB;have ai:((List.zip r KL).take (a+1)).foldl layF s0=(sj.1.set KL[a] a3.length,sj.2 ++ [r[a]]):=by
        rw[yQ (by rw[List.length_zip];omega),List.foldl_append,<-ah,List.getElem_zip];simp only[List.foldl_cons,List.foldl_nil,layF,bC]
       have db:∀c,(Value.slice oa a3.length oc).ownBlock=some c->i.heap.size+1<=c/\c<wr.heap.size/\c≠i.heap.size+2/\¬T' c:=λc k=>by
        obtain⟨E,h2⟩:=b7.lt c k;have y:=aA.o;have D:=K.o.size;rcases ag c k with h|h
        ·exact⟨E,h2,(aS.o c h).1,λht=>ck.o c ht (by rw[HM.o];exact .inr (.inr h))⟩
        ·exact⟨E,h2,by omega,λht=>by have:=(al.o c ht).2;omega⟩
       have cK:a3.length<=1000000000000:=by
        have E:=cm.o.2;have h2:=ak.o;have y:sj.2.length<=s*(b+1)+(b+1):=by
         rw[ah,(ze6 _ _).2,kJ,List.length_zip];omega
        have D:s*(b+1)<=999998*999999:=Nat.mul_le_mul (by omega) (by omega);omega
       have dA:=Hh a0;have dF:=Hh ae;have ei:=Hh a1;have e8:=Hh ag;have dQ:=Hh a6;have co:=Hh ah;have aX:=Hh ai;have az:=Hh db;obtain⟨dG,bl,bm,bn,bo,ed,e5,e6,eR,bd,dJ,dK⟩:=Hhp12 cK N Y e3 e4 b7 bC cv bT aY W X;clear a0 ae a1 ag a6 ah ai db cK N Y e3 e4 b7 bC cv bT aY cE W X d9 eE eF au bH;go_upto_region 21 with fail;go_cut []from 118 to 141 (λwx=>RowIs 3 encN wx i.heap.size (sj.1.set KL[a] a3.length)/\Fr (λc=>c=i.heap.size) wr wx)
       case first =>
        go_region_law (fail);all_goals
         go_wp2_with fail;go_meet
         case rel=>exact⟨dA.o.set KL[a] a3.length,(Fr.setCell (Fr.refl (λc=>c=i.heap.size) wr) _ _ (λ_=>rfl)).drew⟩
       case rest =>
        obtain⟨cD,aH⟩:=hcut;obtain⟨ab,rfl⟩:=eX wc;have b8:=aA.o;have aZ:=aH.heap dF.o (by omega);have dk:=ei.o.fr aH (λc k=>by have:=(az.o c k).1;omega) (λc k=>by have:=(al.o c k).1;omega);have b0:Fr M wl ab:=dQ.o.trans aH (λc _ h=>by rw[HM.o];exact .inl h);have c7:=b0.cell dJ.o bd.o;have c8:=b0.cell dK.o bd.o;have bz:ab.cell? ⟨i.heap.size+2,0,none⟩=some (.slice oa a3.length oc):=by rw[xX ab _ 0 _ _ _ aZ];rfl
        have fF:ab.frozen? ⟨i.heap.size+2,0,none⟩=false:=by simp[World.frozen?,aZ]
        have eZ:∀a8,(ab.alloc a8).cell? ⟨i.heap.size+2,0,none⟩=_:=λa8=>((nW ab).alloc a8).cell bz id
        obtain⟨dB,cd,cc,eN,cf⟩:=Hhp5 cD aH aZ dk b0;clear cD aH aZ dk b0 b8;go_upto_region 22 with fail;go_region_law (first
         | (refine zi6 (i.heap.size+1) (by have:=aA.o;have:=K.o.size;have:=cf.o.size;simp;omega) rfl (.tmp 134) (.tmp 139) 24 rfl 85 _ 48 Tryz.underlying24 zcc rfl (.slice oa a3.length oc) a3 rfl (by exact za3 ed.o ((cd.o.alloc _).drew) (λc k e=>by have:=(az.o c k).1;omega)) (.slice (some ⟨ab.heap.size,0,none⟩) 1 1) rfl [(.slice G r[a].1.length I,.slice H r[a].2.length J)] (by exact Pairs.one ab _ 85) (λp A=>by simp at A;subst A;exact⟨rfl,rfl⟩) (by have:=dG.o;simp;omega) (by decide) ?_;intro v4 w4 D Q q4;obtain⟨a4,c4,rfl,_⟩:=Pairs.of_owns D;have bA:Fr (Own1 (.slice oa a3.length oc)) ab w4:=Fr.trans ((Fr.refl (Own1 (.slice oa a3.length oc)) ab).alloc _).drew Q kP;have eY:=bA.cell bz (λe=>(az.o _ e).2.2.1 rfl);have fE:w4.frozen? ⟨i.heap.size+2,0,none⟩=false:=(by simp[World.frozen?,bA.heap cc.o (λe=>(az.o _ e).2.2.1 rfl)]))
         | fail)
        all_goals
         go_wp2;go_roundw
         case rel =>
          refine⟨a+1,.slice a4 (a3.length+1) c4,by go_num,by omega,?_⟩;rw[aX.o];exact yif cd.o cf.o bA dB.o cc.o e8.o az.o al.o HM.o bp.o (λc E h2=>by rw[ek.o];exact .inr ⟨E,h2⟩) aA.o K.o.size e5.o e6.o bl.o bm.o bn.o bo.o D q4
         case measure=>simp[intOf];omega
      ·have ey:a=j.length:=by omega
       obtain⟨dz,dE,eh,e7,dP,co⟩:=Hhp6 a0 ae a1 ag a6 ah;clear a0 ae a1 ag a6 ah;go_wp2;go_roundw
       case rel =>
        have N:zay NL BL (zam NL b) b (s+1)=sj:=by
         have E:=V.o;have h2:=ak.o;rw[e0.o,co.o,ey,List.take_of_length_le (by rw[List.length_zip];omega)]
        refine⟨s+1,T',_,by go_num,by omega,by rw[N];exact dz.o,dE.o,by rw[N];exact eh.o,λc k=>(al.o c k).1,λc k=>?_,?_⟩
        ·rcases e7.o c k with h|h
         ·refine⟨by have:=cl.o c h;have:=(aS.o c h).1;omega,λht=>ck.o c ht (by rw[HM.o];exact .inr (.inr h))⟩
         ·have E:=aA.o;have h2:=K.o.size
          exact⟨by omega,λht=>by have:=(al.o c ht).2;omega⟩
        ·refine(aj.o.trans K.o kP).trans dP.o (λc k h=>?_)
         rw[HM.o]at h;rcases h with h|h|h
         ·omega
         ·omega
         ·have:=cl.o c h;omega
       case measure=>simp[intOf];omega
  ·have aJ:s=T+1:=by omega
   subst aJ;obtain⟨va,vc,e,_⟩:=id (aU.o.nodeL (R:=AnyB) (λ_ _=>trivial) (λ_ _=>trivial));subst e;have k0:q.cell? ⟨i.heap.size+2,0,none⟩=some (.slice va (zay NL BL (zam NL b) b (T+1)).2.length vc):=by rw[xX q _ 0 _ _ _ be.o];rfl
   have ad:=aj.o.heap dC.o id;have k4:q.cell? ⟨w.heap.size,0,none⟩=some (.slice none 0 0):=by rw[xX q _ 0 _ _ _ ad];rfl
   have z4:q.frozen? ⟨w.heap.size,0,none⟩=false:=by simp[World.frozen?,ad]
   have fs:w.heap.size<q.heap.size:=(yZ.1 ad).1;have D:(q.setCell ⟨w.heap.size,0,none⟩ (.slice va (zay NL BL (zam NL b) b (T+1)).2.length vc)).heap[w.heap.size]?=some (.cells #[.slice va (zay NL BL (zam NL b) b (T+1)).2.length vc] 26 (0,0)):=by rw[heap_set ad];rfl
   have k5:(q.setCell ⟨w.heap.size,0,none⟩ (.slice va (zay NL BL (zam NL b) b (T+1)).2.length vc)).cell? ⟨w.heap.size,0,none⟩=some (.slice va (zay NL BL (zam NL b) b (T+1)).2.length vc):=by rw[xX _ _ 0 _ _ _ D];rfl
   have bd:=Hh ad;have K5:=Hh k5;clear ad D k5;go_wp2;have cO:zdh NL BL b=(zay NL BL (zam NL b) b (T+1)).2:=by unfold zdh;rw[xY,cq.o];rfl
   have dO:=Hh cO;clear cO;have aN:=ej.o;refine yJ (v:=.agg #[.slice va (zay NL BL (zam NL b) b (T+1)).2.length vc]) (by simp[results,Tryz.results72,go_sem,K5.o]) rfl ?_
   have fz:Fr NoM w (q.setCell ⟨w.heap.size,0,none⟩ (.slice va (zay NL BL (zam NL b) b (T+1)).2.length vc)):=(ax.o.trans aj.o kP).setCell _ _ (λh=>absurd h (Nat.lt_irrefl _));refine⟨_,rfl,?_,fz⟩;rw[dO.o];refine⟨_,_,aU.o.fr (M:=λd=>d=w.heap.size) (Fr.set q ⟨w.heap.size,0,none⟩ _) (λz O e=>?_) (λz O e=>?_),by omega,λc k=>by have:=HT.o c k;omega,λc k=>(aS.o c k).2⟩
   ·obtain⟨j,E,_⟩:=aU.o
    have:=(E.lt z O).1;omega
   ·have:=HT.o z O;omega
theorem zm4 {S:Nat->Prop}(c a:Nat)(NL:List PL)(BL:List Nat)(w:World)(j:BookS S w c NL BL)(k:BookOK NL BL)(n:a<NL.length)(m:NL.length<1000000)(l:∀f∈NL,f.1.length<100000000/\f.2.length<100000000) : Calls Tryz.prog 72 #[.pointer (some ⟨c,0,none⟩),.int .i64 (a:Int)] w λe d=>∃b,e=.returned (.agg #[b])/\NodeL (λg=>w.heap.size<=g) encN d b (zdh NL BL a)/\Fr NoM w d:=by refine(zzu c a NL BL w j k n m l).mono ?_;rintro e d ⟨b,rfl,i,h⟩;exact⟨b,rfl,i.nodeL,h⟩
