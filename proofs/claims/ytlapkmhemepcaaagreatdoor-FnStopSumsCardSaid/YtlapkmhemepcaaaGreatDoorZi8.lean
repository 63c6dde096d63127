import Derived.Test.YtlapkmhemepcaaaGreatDoorChecked
import Derived.WalkKit
import Derived.Lib.Hide
import Derived.Maps.AppendAt
/- Lemmas. -/
set_option linter.all false
namespace Go.Proofs.YtlapkmhemepcaaaGreatDoor
theorem eX{a:Sort _}(e:a):∃x,x=e:=⟨_,rfl⟩
theorem kP{b c:Nat->Prop}(k:Nat)(_:b k)(q:c k):c k:=q
open Go.RowKit
def xQ:=@List.getElem?_eq_getElem
def xX:=@cell_of_row
def xZ:=@World.size_alloc
def xJ:=@heap_alloc_new
def xY:=@List.getD_eq_getElem?_getD
def xK:=@List.mem_of_getElem?
def xV:=@List.getElem?_eq_some_iff
def xW:=@Nat.le_refl
def yQ:=@List.mem_singleton
def yX:=@List.take_succ_eq_append_getElem
def yZ:=@List.length_append
def yJ:=@Array.getElem?_eq_some_iff
def yY:=@bodyPost_ret
def yK:=@Option.some.inj
def yV:=@Nat.zero_le
def yW:=@List.getElem?_append_left
def y3:=@World.ownsRow_made
def y4:=@List.mem_append
def y5:=@List.take_length
def y6:=@List.mem_map
def y7:=@List.getElem_mem
def y8:=@List.mem_append_left
def y9:=@List.length_singleton
def vQ:=@List.map_append
def vX:=@decide_eq_true
def vZ:=@List.getElem?_map
def vJ:=@Nat.lt_of_lt_of_le
def vY:=@decide_eq_false
def vK:=@Nat.lt_succ_self
def vV:=@Nat.le_trans
def vW:=@List.mem_range
def kQ:=@List.length_take
def kZ:=@List.getElem?_append_right
def kJ:=@decide_eq_true_eq
def kK:=@List.mem_cons
def kV:=@List.map_congr_left
def kW:=@List.mem_cons_self
def uQ:=@List.drop_eq_getElem_cons
def uX:=@List.mem_cons_of_mem
def uZ:=@List.getElem_of_mem
def uJ:=@List.length_map
def uY:=@List.length_range
theorem Hh{p:Prop}(a:p):Hid p:=a
structure Fr (M:Nat->Prop) (w w':World):Prop where
 os:w'.os=w.os
 tape:w'.tape=w.tape
 output:w'.output=w.output
 size:w.heap.size<=w'.heap.size
 block:∀k,k<w.heap.size->¬M k->w'.heap[k]?=w.heap[k]?
def NoM:Nat->Prop:=λ_=>False
def Own1 (v:Value):Nat->Prop:=λa=>v.ownBlock=some a
theorem Fr.refl (M:Nat->Prop)(w:World):Fr M w w:=⟨rfl,rfl,rfl,xW _,λ_ _ _=>rfl⟩
theorem nW(w:World):Fr NoM w w:=Fr.refl NoM w
theorem Fr.trans {M M':Nat->Prop}{a b c:World}(e:Fr M a b)(f:Fr M' b c)(i:∀d,d<a.heap.size->M' d->M d):Fr M a c :=
 ⟨f.os.trans e.os,f.tape.trans e.tape,f.output.trans e.output,vV e.size f.size,
  λd g h=>(f.block d (vJ g e.size) (λj=>h (i d g j))).trans (e.block d g h)⟩
theorem Fr.mono {M M':Nat->Prop}{a b:World}(d:Fr M a b)(g:∀c,c<a.heap.size->M c->M' c):Fr M' a b :=
 ⟨d.os,d.tape,d.output,d.size,λc e f=>d.block c e (λh=>f (g c e h))⟩
theorem Fr.alloc {M:Nat->Prop}{a w:World}(c:Fr M a w)(b:Obj):Fr M a (w.alloc b) :=
 c.trans (M':=NoM) ⟨rfl,rfl,rfl,by simp,λe d _=>Below.heap_alloc w b e d⟩ (λ_ _ f=>f.elim)
theorem Fr.drew {M:Nat->Prop}{a w:World}(b:Fr M a w):Fr M a w.drew:=⟨b.os,b.tape,b.output,b.size,b.block⟩
theorem Fr.setCell {M:Nat->Prop}{a w:World}(b:Fr M a w)(p:Addr)(u:Value)(f:p.block<a.heap.size->M p.block):Fr M a (w.setCell p u) :=
 ⟨b.os,b.tape,b.output,by simpa [World.setCell] using b.size,λg c d=>by
  rw[Below.heap_setCell _ _ _ _ (λe=>d (by subst e;exact f c))];exact b.block g c d⟩
theorem Fr.grown {M:Nat->Prop}{a w f:World}{e:Option Nat}(h:Fr M a w)(c:w.grownBy f e)(j:∀b,e=some b->b<a.heap.size->M b):Fr M a f :=
 h.trans (M':=λb=>e=some b) ⟨c.os,c.tape,c.output,c.size,λb d i=>c.block b d (λg=>i g.symm)⟩ (λb d k=>j b k d)
theorem Fr.of_below {w b:World}(a:Below w.heap.size w b):Fr NoM w b:=⟨a.os,a.tape,a.output,a.size,λd c _=>a.block d c⟩
theorem Fr.below {M:Nat->Prop}{w d:World}(a:Fr M w d)(B:Nat)(e:B<=w.heap.size)(f:∀b,b<B->¬M b):Below B w d :=
 ⟨a.os,a.tape,a.output,a.size,λb c=>a.block b (vJ c e) (f b c)⟩
theorem Fr.toBelow {w a:World}(b:Fr NoM w a):Below w.heap.size w a:=b.below _ (xW _) kP
theorem Fr.cell {M:Nat->Prop}{w b:World}(c:Fr M w b){p:Addr}{v:Value}(a:w.cell? p=some v)(d:¬M p.block):b.cell? p=some v :=
 (World.cell?_of_block (c.block _ (World.block_lt_of_cell? w p a) d)).trans a
theorem Fr.heap {M:Nat->Prop}{w c:World}(d:Fr M w c){k:Nat}{b:Obj}(a:w.heap[k]?=some b)(e:¬M k):c.heap[k]?=some b :=
 (d.block _ (yJ.1 a).1 e).trans a
def SliceOf {b:Type} (enc:b->Value) (w:World) (v:Value) (L:List b):Prop :=
  ∃ c a, v = .slice c L.length a/\L.length<=a/\a<=9223372036854775807 ∧
    ∀ (e:Nat) (g:b),L[e]?=some g->∃ d f,c=some ⟨d,f,none⟩/\w.cell? ⟨d,f + e,none⟩=some (enc g)
def encI (n:Int):Value:=.int .i64 n
def encN (n:Nat):Value:=.int .i64 (n:Int)
def encB (b:Bool):Value:=.bool b
def encV (v:Value):Value:=v
abbrev Ints:=SliceOf encI
abbrev Nats:=SliceOf encN
abbrev Bools:=SliceOf encB
abbrev Vals:=SliceOf encV
section
variable {α:Type}{enc:α->Value}{w w':World}{v:Value}{L:List α}
theorem SliceOf.keep (g:SliceOf enc w v L)(k:L≠[]->∀a,v.ownBlock=some a->a<w.heap.size->w'.heap[a]?=w.heap[a]?):SliceOf enc w' v L:=by obtain⟨d,e,rfl,h,i,j⟩:=g;refine⟨d,e,rfl,h,i,λl n c=>?_⟩;obtain⟨a,m,rfl,b⟩:=j l n c;exact⟨a,m,rfl,(World.cell?_of_block (k (λf=>by subst f;simp at c) a rfl (World.block_lt_of_cell? w _ b))).trans b⟩
theorem SliceOf.fr {M:Nat->Prop}(b:SliceOf enc w v L)(d:Fr M w w')(f:L≠[]->∀a,v.ownBlock=some a->¬M a):SliceOf enc w' v L :=
 b.keep λg a c e=>d.block a e (f g a c)
theorem SliceOf.fr0 (a:SliceOf enc w v L)(b:Fr NoM w w'):SliceOf enc w' v L:=a.fr b λ_ _ _ c=>c
theorem SliceOf.nil (enc:α->Value)(w:World):SliceOf enc w (.slice none 0 0) []:=⟨none,0,rfl,xW _,by decide,by simp⟩
theorem SliceOf.block (c:SliceOf enc w v L)(f:L≠[]):∃b,v.ownBlock=some b/\b<w.heap.size:=by(obtain⟨h,i,rfl,j,k,d⟩:=c;obtain⟨a,g⟩:∃a,L[0]?=some a:=by cases L with|nil=>exact absurd rfl f|cons a l=>exact⟨a,rfl⟩);obtain⟨b,m,rfl,e⟩:=d 0 a g;exact⟨b,rfl,World.block_lt_of_cell? w _ e⟩
theorem SliceOf.of_owns {base:Nat}{e:TypeId}{n:Nat}{xs:List Value}(f:w.ownsRow base e 1 v n xs)(a:xs=L.map enc):SliceOf enc w v L:=by(subst a;have k:n=L.length:=by have:=f.1;simpa using this.symm);subst k;rcases f.2 with ⟨rfl,h⟩|⟨d,g,c,rfl,p,j,l,i,r,m⟩;{have:L=[]:=List.eq_nil_of_length_eq_zero h;subst this;exact SliceOf.nil enc w};{refine⟨_,g,rfl,l,by simpa [maxLen] using i,λb o a=>⟨d,0,rfl,?_⟩⟩;(rw[Nat.zero_add,xX w d b c e (0,0) j];have q:b<L.length:=(xV.1 a).1;have:(c.toList.take (L.length*1))[b]?=some (enc o):=by rw[m];simp[a]);rw[List.getElem?_take]at this;rw[if_pos (by omega)]at this;simpa using this}
end
theorem za1 {w w':World}{base:Nat}{e:TypeId}{size:Nat}{v:Value}{n:Nat}{xs:List Value}{M:Nat->Prop}(h:w.ownsRow base e size v n xs)(hf:Fr M w w')(hm:∀b,v.ownBlock=some b->¬M b):w'.ownsRow base e size v n xs:=by refine⟨h.1,?_⟩;rcases h.2 with hn|⟨g,cap,cur,rfl,hb,hgg,rest⟩;{exact .inl hn};{exact .inr ⟨g,cap,cur,rfl,hb,hf.heap hgg (hm g rfl),rest⟩}
theorem zb1 {w:World}{base base':Nat}{e:TypeId}{size:Nat}{v:Value}{n:Nat}{xs:List Value}(a:w.ownsRow base e size v n xs)(f:base'<=base):w.ownsRow base' e size v n xs:=by refine⟨a.1,?_⟩;rcases a.2 with h|⟨d,b,c,rfl,g,i⟩;{exact .inl h};{exact .inr ⟨d,b,c,rfl,vV f g,i⟩}
theorem zch {P:Program}(w:World){p:Array Oper}{rest:List Oper}{g:Oper}{a:Act}{k:Exit->Act->World->Prop}(z:g.guard=none)(s x:Operand)(t:TypeId) (B:g.op=Op.call { callee:=Callee.builtin Builtin.append,args:=#[s,x],argTypes:=#[t,t] }) (base:Nat) (e:TypeId) (j:Value) (f:Nat) (E:P.underlying t=some (.slice e)) (h:(P.info? e).map (λi=>(i.zero,i.size,i.bytes))=some (some j,1,f)) (H:j.cells.size=1) (v:Value) (n:Nat) (xs:List Value) (D:a.eval s=v) (C:w.ownsRow base e 1 v n xs) (u:Value) (G:a.eval x=.slice (some ⟨w.heap.size,0,none⟩) 1 1) (F:u.oneCell'=true) (m:(n+1)*f<=140737488355328) (y:0<f) (N:base<=w.heap.size) (K:∀(b:Value) (d:World),d.ownsRow base e 1 b (n+1) (xs ++ [u])->Fr (Own1 v) w d->(b.ownBlock=v.ownBlock\/∃l,b.ownBlock=some l/\w.heap.size<=l)->wpList P p k rest (a.put g.dst b) d) : wpList P p k (g::rest) a (w.alloc (.cells #[u] e)):=by obtain⟨M,h,I,J,L⟩:=info_parts h;have O:n+1<=140737488355328:=vV (by have:=Nat.mul_le_mul_left (n+1) y;omega) m;refine wpList_append_own_at _ z s x t B base e M j 1 f E h I J L H (by decide) v n xs D (C.alloc _) ⟨w.heap.size,0,none⟩ 1 1 [u] G rfl (cell_one_new _ _ _) ?_ (by unfold maxLen;omega) m (by simp;omega) ?_;{intro R o;simp at o;subst o;exact F};{intro b d q r _ c;refine K b d q (((Fr.refl (Own1 v) w).alloc _).grown r (λQ A _=>A)) ?_;rcases c with c|c;{exact .inl c};{exact .inr ⟨_,c,by simp⟩}}
theorem zib {P:Program} {B:Type} {enc:B->Value} (w:World) (t A:TypeId) (base:Nat) (e:TypeId) (u:Value) (k:Nat) (h:P.underlying t=some (.slice e)) (b:(P.info? e).map (λr=>(r.zero,r.size,r.bytes))=some (some u,1,k)) (T:u.cells.size=1) (v:Value) (n:Nat) (xs:List Value) (p:w.ownsRow base e 1 v n xs) (xv:Value) (L:List B) (Q:SliceOf enc w xv L) (D:∀ f,(enc f).oneCell'=true) (y:(n + L.length) * k<=140737488355328) (I:0 < k) (H:base<=w.heap.size) : ∃ d i, (Builtin.append_ #[t, t] A #[v, xv]).run P w = .ok d i/\i.ownsRow base e 1 d (n + L.length) (xs ++ L.map enc)/\Fr (Own1 v) w i ∧ (d.ownBlock=v.ownBlock\/∃ a,d.ownBlock=some a/\w.heap.size<=a)/\(d=.slice none 0 0↔v=.slice none 0 0/\L.length=0):=by obtain ⟨X,b,U,V,W⟩:=info_parts b;obtain ⟨f,C,rfl,a2,a4,x⟩:=Q;have a8:n + L.length<=140737488355328:=vV (by have:=Nat.mul_le_mul_left (n + L.length) I;omega) y;by_cases o:L=[];{subst o;refine ⟨v,w,?_,by simpa using p,Fr.refl _ _,.inl rfl,by simp⟩;rcases p.2 with ⟨rfl,rfl⟩ | ⟨a1,Z,a0,rfl,a3,hg,z,a5,a6,a9⟩;{cases f with| none=>simp [Builtin.append_,run_underlying h,sizeOf,typeInfo,b,Builtin.lenOf,Builtin.firstCells]| some f=>simp [Builtin.append_,run_underlying h,sizeOf,typeInfo,b,Builtin.lenOf,Builtin.firstCells,loadCells,loadCellsFrom]};{cases f with| none=>simp [Builtin.append_,run_underlying h,sizeOf,typeInfo,b,Builtin.lenOf,Builtin.firstCells,z,storeCells]| some f=>simp [Builtin.append_,run_underlying h,sizeOf,typeInfo,b,Builtin.lenOf,Builtin.firstCells,loadCells,loadCellsFrom,z,storeCells]}};{(obtain ⟨j, S⟩ : ∃ j, L[0]? = some j := by cases L with | nil => exact absurd rfl o | cons j ab => exact ⟨j, rfl⟩);obtain ⟨a,l,rfl,_⟩:=x 0 j S;have N:∀ (c:Nat) (m:Value),(L.map enc)[c]?=some m->w.cell? ((⟨a,l,none⟩:Addr).add c)=some m:=by{intro c m g;rw [vZ] at g;cases q:L[c]? with| none=>rw [q] at g;cases g| some s =>{rw [q] at g;cases g;obtain ⟨Y,ac,K,J⟩:=x c s q;cases K;(have:(⟨a,l,none⟩:Addr).add c=⟨a,l + c,none⟩:=by unfold Addr.add;split <;> simp_all);rw [this];exact J}};(have a7:0 < L.length:=by cases L with | nil=>exact absurd rfl o | cons _ _=>simp);obtain ⟨d,i,O,E,F,G,h5⟩:=run_append_own_at (P:=P) w base t A e X u 1 k h b U V W T (by decide) v n xs p ⟨a,l,none⟩ L.length C (L.map enc) (by simp) N (λm R=>by obtain ⟨s,_,rfl⟩:=y6.1 R;exact D s) (by unfold maxLen;omega) y H;refine ⟨d,i,O,E,(Fr.refl (Own1 v) w).grown F (λaa M _=>M),?_,G⟩;rcases h5 with h5 | h5;{exact .inl h5};{exact .inr ⟨_,h5,xW _⟩}}
theorem za9 {P:Program}{l:Type}{enc:l->Value}(w:World){k:Array Oper}{rest:List Oper}{c:Oper}{a:Act}{i:Exit->Act->World->Prop}(z:c.guard=none)(s x:Operand)(t:TypeId) (C:c.op=Op.call { callee:=Callee.builtin Builtin.append,args:=#[s,x],argTypes:=#[t,t] }) (base:Nat) (e:TypeId) (h:Value) (f:Nat) (H:P.underlying t=some (.slice e)) (A:(P.info? e).map (λg=>(g.zero,g.size,g.bytes))=some (some h,1,f)) (J:h.cells.size=1) (v:Value) (n:Nat) (xs:List Value) (F:a.eval s=v) (D:w.ownsRow base e 1 v n xs) (xv:Value) (I:a.eval x=xv) (L:List l) (G:SliceOf enc w xv L) (m:∀a,(enc a).oneCell'=true) (B:(n+L.length)*f<=140737488355328) (y:0<f) (u:base<=w.heap.size) (K:∀(b:Value) (d:World),d.ownsRow base e 1 b (n+L.length) (xs++L.map enc)->Fr (Own1 v) w d->(b.ownBlock=v.ownBlock\/∃j,b.ownBlock=some j/\w.heap.size<=j)->wpList P k i rest (a.put c.dst b) d) : wpList P k i (c::rest) a w:=by refine wpList_plain z λM r=>?_;obtain⟨b,d,E,o,p,q,_⟩:=zib (P:=P) w t c.type base e h f H A J v n xs D xv L G m B y u;unfold Oper.wp execOp;simp only[C,resolve,invoke,builtin,Sem.run_bind,Sem.run_pure,Result.andThen_ok,List.map_toArray,List.map_cons,List.map_nil,F,I,E];exact r _ _ (K b d o p q)
theorem zc1 {P:Program}{k:Type}{enc:k->Value}{w:World}{j:Array Oper}{b:Oper}{a:Act}{K:Act->World->Prop}{m:Exit->Act->World->Prop}{l:Prop}(A:b.guard=none)(s x:Operand)(t:TypeId) (D:b.op=Op.call { callee:=Callee.builtin Builtin.append,args:=#[s,x],argTypes:=#[t,t] }) (base:Nat) (e:TypeId) (h:Value) (f:Nat) (I:P.underlying t=some (.slice e)) (B:(P.info? e).map (λg=>(g.zero,g.size,g.bytes))=some (some h,1,f)) (N:h.cells.size=1) (v:Value) (n:Nat) (xs:List Value) (G:a.eval s=v) (E:w.ownsRow base e 1 v n xs) (xv:Value) (M:a.eval x=xv) (L:List k) (H:SliceOf enc w xv L) (o:∀a,(enc a).oneCell'=true) (C:(n+L.length)*f<=140737488355328) (z:0<f) (y:base<=w.heap.size) (u:∀(c:Value) (d:World),d.ownsRow base e 1 c (n+L.length) (xs++L.map enc)->Fr (Own1 v) w d->(c.ownBlock=v.ownBlock\/∃i,c.ownBlock=some i/\w.heap.size<=i)->K (a.put b.dst c) d) : if Region.wanted b (yielded j a.tmps)=true then Oper.wp P b a w K m else l:=by(have J:Region.wanted b (yielded j a.tmps)=true:=by simp[Region.wanted,A]);rw[if_pos J];obtain⟨c,d,F,p,q,r,_⟩:=zib (P:=P) w t b.type base e h f I B N v n xs E xv L H o C z y;unfold Oper.wp execOp;simp only[D,resolve,invoke,builtin,Sem.run_bind,Sem.run_pure,Result.andThen_ok,List.map_toArray,List.map_cons,List.map_nil,G,M,F];exact u c d p q r
theorem SliceOf.one {c:Type}(enc:c->Value)(w:World)(x:c)(e:TypeId):SliceOf enc (w.alloc (.cells #[enc x] e)) (.slice (some ⟨w.heap.size,0,none⟩) 1 1) [x] :=
 ⟨_,1,rfl,by simp,by decide,λb d a=>⟨w.heap.size,0,rfl,by
  rcases b with _|b
  ·simp at a;subst a;rw[World.cell?_alloc_at _ _ _ _ rfl];rfl
  ·simp at a⟩⟩
theorem zu8 {P:Program}{l:Type}{enc:l->Value}{w:World}{v:Value}{L:List l}(n:SliceOf enc w v L)(t:TypeId)(e:TypeId)(u:Value)(m:Nat)(j:P.underlying t=some (.slice e)) (b:(P.info? e).map (λg=>(g.zero,g.size,g.bytes))=some (some u,1,m)) (k:Nat) (z:k<=L.length) : ∃h,(∀d,(Instr.slice t v none (some (.int .i64 (k:Int))) none).run P d=.ok h d)/\SliceOf enc w h (L.take k)/\h.ownBlock=v.ownBlock:=by(obtain⟨D,b,A,B,C⟩:=info_parts b;obtain⟨a,f,rfl,y,p,o⟩:=n;have q:(L.take k).length=k:=by simp;omega);refine⟨.slice a k f,λd=>?_,⟨a,f,by rw[q],by omega,p,λr s c=>?_⟩,?_⟩;{(have i:k<=f:=by omega);cases a with| none=>simp[Instr.slice,run_underlying j,Instr.sliceBounds,Instr.sliceBound,asIntOf,sizeOf,typeInfo,b,i]| some x=>simp[Instr.slice,run_underlying j,Instr.sliceBounds,Instr.sliceBound,asIntOf,sizeOf,typeInfo,b,i,Addr.add]};{rw[List.getElem?_take]at c;split at c;{exact o r s c};{cases c}};{cases a <;> rfl}
theorem sliceFrom {P:Program}{j:Type}{enc:j->Value}{w:World}{v:Value}{L:List j}(n:SliceOf enc w v L)(t:TypeId)(e:TypeId)(B:Value)(m:Nat)(u:P.underlying t=some (.slice e)) (d:(P.info? e).map (λg=>(g.zero,g.size,g.bytes))=some (some B,1,m)) (k:Nat) (q:k<=L.length) : ∃h,(∀b,(Instr.slice t v (some (.int .i64 (k:Int))) none none).run P b=.ok h b)/\SliceOf enc w h (L.drop k)/\h.ownBlock=v.ownBlock:=by(obtain⟨I,d,G,x,H⟩:=info_parts d;obtain⟨a,c,rfl,D,E,p⟩:=n;have s:(L.drop k).length=L.length-k:=by simp);refine⟨.slice (if c=k then a else a.map (·.add k)) (L.length-k) (c-k),λb=>?_,⟨_,c-k,by rw[s],by omega,by omega,λy A f=>?_⟩,?_⟩;{have r:k<=L.length:=q;simp[Instr.slice,run_underlying u,Instr.sliceBounds,Instr.sliceBound,asIntOf,sizeOf,typeInfo,d,x,r]};{rw[List.getElem?_drop]at f;obtain⟨l,z,rfl,o⟩:=p (k+y) A f;have F:=(xV.1 f).1;rw[if_neg (by omega)];refine⟨l,z+k,?_,by rw[Nat.add_assoc];exact o⟩;by_cases i:k=0;{subst i;simp[Addr.add]};{simp[Addr.add,i]}};{split;{cases a <;> rfl};{cases a with| none=>rfl| some C=>simp[Value.ownBlock,Addr.add];split <;> rfl}}
theorem Fr.own {a w b:World}{e:TypeId}{size n:Nat}{v:Value}{xs:List Value}(c:Fr NoM a w)(f:w.ownsRow a.heap.size e size v n xs)(d:Fr (Own1 v) w b):Fr NoM a b :=
 c.trans d λg i h=>absurd (f.lt g h).1 (by omega)
theorem zcp {P:Program}{k:Type}{enc:k->Value}{w:World}{I:Array Oper}{b:Oper}{a:Act}{K:Act->World->Prop}{m:Exit->Act->World->Prop}{l:Prop}(d:World)(F:Fr NoM d w)(y:b.guard=none)(s x:Operand)(t:TypeId)
  (B:b.op=Op.call { callee:=Callee.builtin Builtin.append,args:=#[s,x],argTypes:=#[t,t] }) (e:TypeId) (i:Value) (f:Nat) (E:P.underlying t=some (.slice e))
  (z:(P.info? e).map (λh=>(h.zero,h.size,h.bytes))=some (some i,1,f)) (H:i.cells.size=1) (v:Value) (n:Nat) (xs:List Value) (C:a.eval s=v) (j:w.ownsRow d.heap.size e 1 v n xs)
  (xv:Value) (G:a.eval x=xv) (L:List k) (D:SliceOf enc w xv L) (o:∀a,(enc a).oneCell'=true) (A:(n+L.length)*f<=140737488355328) (u:0<f)
  (r:∀(g:Value) (c:World),c.ownsRow d.heap.size e 1 g (n+L.length) (xs++L.map enc)->Fr NoM d c->K (a.put b.dst g) c) :
  if Region.wanted b (yielded I a.tmps)=true then Oper.wp P b a w K m else l :=
 zc1 y s x t B d.heap.size e i f E z H v n xs C j xv G L D o A u F.size λg c p q _=>r g c p (F.own j q)
theorem zc7 {P:Program}{m:Type}{enc:m->Value}{w:World}{l:Array Oper}{rest:List Oper}{f:Oper}{a:Act}{j:Exit->Act->World->Prop}(c:World)(F:Fr NoM c w)(y:f.guard=none)(s x:Operand)(t:TypeId)
  (B:f.op=Op.call { callee:=Callee.builtin Builtin.append,args:=#[s,x],argTypes:=#[t,t] }) (e:TypeId) (i:Value) (d:Nat) (E:P.underlying t=some (.slice e))
  (z:(P.info? e).map (λh=>(h.zero,h.size,h.bytes))=some (some i,1,d)) (H:i.cells.size=1) (v:Value) (n:Nat) (xs:List Value) (C:a.eval s=v) (k:w.ownsRow c.heap.size e 1 v n xs)
  (xv:Value) (G:a.eval x=xv) (L:List m) (D:SliceOf enc w xv L) (o:∀a,(enc a).oneCell'=true) (A:(n+L.length)*d<=140737488355328) (u:0<d)
  (r:∀(g:Value) (b:World),b.ownsRow c.heap.size e 1 g (n+L.length) (xs++L.map enc)->Fr NoM c b->wpList P l j rest (a.put f.dst g) b) :
  wpList P l j (f::rest) a w :=
 za9 w y s x t B c.heap.size e i d E z H v n xs C k xv G L D o A u F.size λg b p q _=>r g b p (F.own k q)
def redT:Int->Nat->Int × Nat
 | t,0=>(t,0)
 | t,a+1=>if t%2=0 then redT (t/2) a else (t,a+1)
def Red (t:Int)(p:Nat):Prop:=p=0\/t%2≠0
theorem zbs {t:Int}{p:Nat}(a:t%2=0):redT t (p+1)=redT (t/2) p:=by rw[redT,if_pos a]
theorem zd6 {t:Int}{p:Nat}(a:Red t p):redT t p=(t,p):=by cases p with| zero=>rfl| succ p=>rw[redT,if_neg (a.resolve_left (by omega))]
theorem zuc:∀(a:Nat) (b:Int),(redT b a).2<=a:=by intro a;induction a with| zero=>{intro b;exact xW _}| succ a c =>{intro b;rw[redT];split;{exact Nat.le_succ_of_le (c _)};{exact xW _}}
theorem zdc:∀(a:Nat) (b:Int),Red (redT b a).1 (redT b a).2:=by intro a;induction a with| zero=>{intro b;exact .inl rfl}| succ a d =>{intro b;rw[redT];split;{exact d _};{rename_i c;exact .inr c}}
theorem zrb:∀(b:Nat) (a:Int),(redT a b).1.natAbs<=a.natAbs:=by intro b;induction b with| zero=>{intro a;exact xW _}| succ b c =>{intro a;rw[redT];split;{have:=c (a/2);omega};{exact xW _}}
theorem zbz:∀(a b:Nat) (c:Int),redT (c*2^a) (b+a)=redT c b:=by intro a;induction a with| zero=>{intro b c;simp}| succ a e =>{(intro b c;have d:c*2^(a+1)=c*2^a*2:=by rw[Int.pow_succ,Int.mul_assoc]);rw[show b+(a+1)=b+a+1 from by omega,zbs (by rw[d];omega),d,Int.mul_ediv_cancel _ (by decide),e]}
theorem znt {t:Int}{p:Nat}(b:t%2=0)(c:0<p):(redT t p).2<p:=by obtain⟨a,rfl⟩:∃a,p=a+1:=⟨p-1,by omega⟩;rw[zbs b];exact Nat.lt_succ_of_le (zuc a _)
def GoodD (T P:Int):Prop:=(-1000000<=T/\T<=1000000)/\(0<=P/\P<=16)/\(P=0\/T%2≠0)
theorem GoodD.of {t:Int}{p:Nat}(b:Red t p)(d:t.natAbs<=1000000)(c:p<=16):GoodD t p:=⟨by omega,by omega,by
 rcases b with a|a
 ·exact .inl (by omega)
 ·exact .inr a⟩
theorem zgd {t:Int}{p:Nat}(c:Red t p)(g:t.natAbs<=1000000)(b:0<p)(d:p<=16)(x:Int)(h:x=t-1\/x=t+1):GoodD (redT x p).1 (redT x p).2/\(redT x p).2<p/\Red (redT x p).1 (redT x p).2/\(redT x p).1.natAbs<=1000000:=by have f:t%2≠0:=c.resolve_left (by omega);have a:=znt (t:=x) (p:=p) (by omega) b;have e:=zrb p x;exact⟨GoodD.of (zdc _ _) (by omega) (by omega),a,zdc _ _,by omega⟩
