import Derived.Test.YtghekfmfonoocaaGreatDoorChecked
import Derived.WalkKit
import Derived.Lib.Hide
import Derived.Maps.AppendAt
/- Lemmas. -/
set_option linter.all false
namespace Go.Proofs.YtghekfmfonoocaaGreatDoor
theorem eX{a:Sort _}(e:a):∃x,x=e:=⟨_,rfl⟩
theorem kP{b c:Nat->Prop}(k:Nat)(_:b k)(q:c k):c k:=q
open Go.RowKit
def xQ:=@List.getElem?_eq_getElem
def xX:=@cell_of_row
def xZ:=@World.size_alloc
def xJ:=@heap_alloc_new
def xY:=@List.getD_eq_getElem?_getD
def xK:=@List.mem_of_getElem?
def xV:=@List.getElem?_eq_some_iff
def xW:=@Nat.le_refl
def x9:=@List.mem_singleton
def yQ:=@List.take_succ_eq_append_getElem
def yX:=@List.length_append
def yZ:=@Array.getElem?_eq_some_iff
def yJ:=@bodyPost_ret
def yY:=@Option.some.inj
def yK:=@Nat.zero_le
def yV:=@List.getElem?_append_left
def yW:=@World.ownsRow_made
def y6:=@List.mem_append
def y7:=@List.take_length
def y8:=@List.mem_map
def y9:=@List.getElem_mem
def vQ:=@List.mem_append_left
def vX:=@List.length_singleton
def vZ:=@List.map_append
def vJ:=@decide_eq_true
def vY:=@List.getElem?_map
def vK:=@Nat.lt_of_lt_of_le
def vV:=@decide_eq_false
def vW:=@Nat.lt_succ_self
def kQ:=@Nat.le_trans
def kZ:=@List.mem_range
def kJ:=@List.length_take
def kK:=@List.getElem?_append_right
def kV:=@decide_eq_true_eq
def kW:=@List.mem_cons
def uQ:=@List.map_congr_left
def uX:=@List.mem_cons_self
def uZ:=@List.drop_eq_getElem_cons
def uJ:=@List.mem_cons_of_mem
def uY:=@List.getElem_of_mem
def uK:=@List.length_map
def uV:=@List.length_range
structure qD(p:Prop):Prop where o:p
theorem Hh{p:Prop}(a:p):qD p:=⟨a⟩
theorem Hhp2{p0 p1:Prop}(a0:p0)(a1:p1):qD p0/\qD p1:=⟨⟨a0⟩,⟨a1⟩⟩
theorem Hhp3{p0 p1 p2:Prop}(a0:p0)(a1:p1)(a2:p2):qD p0/\qD p1/\qD p2:=⟨⟨a0⟩,⟨a1⟩,⟨a2⟩⟩
theorem Hhp4{p0 p1 p2 p3:Prop}(a0:p0)(a1:p1)(a2:p2)(a3:p3):qD p0/\qD p1/\qD p2/\qD p3:=⟨⟨a0⟩,⟨a1⟩,⟨a2⟩,⟨a3⟩⟩
theorem Hhp5{p0 p1 p2 p3 p4:Prop}(a0:p0)(a1:p1)(a2:p2)(a3:p3)(a4:p4):qD p0/\qD p1/\qD p2/\qD p3/\qD p4:=⟨⟨a0⟩,⟨a1⟩,⟨a2⟩,⟨a3⟩,⟨a4⟩⟩
theorem Hhp6{p0 p1 p2 p3 p4 p5:Prop}(a0:p0)(a1:p1)(a2:p2)(a3:p3)(a4:p4)(a5:p5):qD p0/\qD p1/\qD p2/\qD p3/\qD p4/\qD p5:=⟨⟨a0⟩,⟨a1⟩,⟨a2⟩,⟨a3⟩,⟨a4⟩,⟨a5⟩⟩
theorem Hhp7{p0 p1 p2 p3 p4 p5 p6:Prop}(a0:p0)(a1:p1)(a2:p2)(a3:p3)(a4:p4)(a5:p5)(a6:p6):qD p0/\qD p1/\qD p2/\qD p3/\qD p4/\qD p5/\qD p6:=⟨⟨a0⟩,⟨a1⟩,⟨a2⟩,⟨a3⟩,⟨a4⟩,⟨a5⟩,⟨a6⟩⟩
theorem Hhp8{p0 p1 p2 p3 p4 p5 p6 p7:Prop}(a0:p0)(a1:p1)(a2:p2)(a3:p3)(a4:p4)(a5:p5)(a6:p6)(a7:p7):qD p0/\qD p1/\qD p2/\qD p3/\qD p4/\qD p5/\qD p6/\qD p7:=⟨⟨a0⟩,⟨a1⟩,⟨a2⟩,⟨a3⟩,⟨a4⟩,⟨a5⟩,⟨a6⟩,⟨a7⟩⟩
theorem Hhp9{p0 p1 p2 p3 p4 p5 p6 p7 p8:Prop}(a0:p0)(a1:p1)(a2:p2)(a3:p3)(a4:p4)(a5:p5)(a6:p6)(a7:p7)(a8:p8):qD p0/\qD p1/\qD p2/\qD p3/\qD p4/\qD p5/\qD p6/\qD p7/\qD p8:=⟨⟨a0⟩,⟨a1⟩,⟨a2⟩,⟨a3⟩,⟨a4⟩,⟨a5⟩,⟨a6⟩,⟨a7⟩,⟨a8⟩⟩
theorem Hhp10{p0 p1 p2 p3 p4 p5 p6 p7 p8 p9:Prop}(a0:p0)(a1:p1)(a2:p2)(a3:p3)(a4:p4)(a5:p5)(a6:p6)(a7:p7)(a8:p8)(a9:p9):qD p0/\qD p1/\qD p2/\qD p3/\qD p4/\qD p5/\qD p6/\qD p7/\qD p8/\qD p9:=⟨⟨a0⟩,⟨a1⟩,⟨a2⟩,⟨a3⟩,⟨a4⟩,⟨a5⟩,⟨a6⟩,⟨a7⟩,⟨a8⟩,⟨a9⟩⟩
theorem Hhp11{p0 p1 p2 p3 p4 p5 p6 p7 p8 p9 p10:Prop}(a0:p0)(a1:p1)(a2:p2)(a3:p3)(a4:p4)(a5:p5)(a6:p6)(a7:p7)(a8:p8)(a9:p9)(a10:p10):qD p0/\qD p1/\qD p2/\qD p3/\qD p4/\qD p5/\qD p6/\qD p7/\qD p8/\qD p9/\qD p10:=⟨⟨a0⟩,⟨a1⟩,⟨a2⟩,⟨a3⟩,⟨a4⟩,⟨a5⟩,⟨a6⟩,⟨a7⟩,⟨a8⟩,⟨a9⟩,⟨a10⟩⟩
theorem Hhp12{p0 p1 p2 p3 p4 p5 p6 p7 p8 p9 p10 p11:Prop}(a0:p0)(a1:p1)(a2:p2)(a3:p3)(a4:p4)(a5:p5)(a6:p6)(a7:p7)(a8:p8)(a9:p9)(a10:p10)(a11:p11):qD p0/\qD p1/\qD p2/\qD p3/\qD p4/\qD p5/\qD p6/\qD p7/\qD p8/\qD p9/\qD p10/\qD p11:=⟨⟨a0⟩,⟨a1⟩,⟨a2⟩,⟨a3⟩,⟨a4⟩,⟨a5⟩,⟨a6⟩,⟨a7⟩,⟨a8⟩,⟨a9⟩,⟨a10⟩,⟨a11⟩⟩
theorem qR{W:World}{b i:Nat}{c:Array Value}{t:TypeId}{f:Nat×Nat}{v:Value}(h:W.heap[b]?=some (.cells c t f))(e:c[i]?=some v):W.cell? ⟨b,i,none⟩=some v:=by rw[cell_of_row W _ _ _ _ _ h];exact e
theorem fZ{W:World}{b i:Nat}{c:Array Value}{t:TypeId}(h:W.heap[b]?=some (.cells c t (0,0))):W.frozen? ⟨b,i,none⟩=false:=by simp[World.frozen?,h]
structure Fr (M:Nat->Prop) (w w':World):Prop where
 os:w'.os=w.os
 tape:w'.tape=w.tape
 output:w'.output=w.output
 size:w.heap.size<=w'.heap.size
 block:∀k,k<w.heap.size->¬M k->w'.heap[k]?=w.heap[k]?
def NoM:Nat->Prop:=λ_=>False
def Own1 (v:Value):Nat->Prop:=λa=>v.ownBlock=some a
theorem Fr.refl (M:Nat->Prop)(w:World):Fr M w w:=⟨rfl,rfl,rfl,xW _,λ_ _ _=>rfl⟩
theorem nW(w:World):Fr NoM w w:=Fr.refl NoM w
theorem Fr.trans {M M':Nat->Prop}{a g c:World}(d:Fr M a g)(e:Fr M' g c)(i:∀b,b<a.heap.size->M' b->M b):Fr M a c :=
 ⟨e.os.trans d.os,e.tape.trans d.tape,e.output.trans d.output,kQ d.size e.size,
  λb f h=>(e.block b (vK f d.size) (λj=>h (i b f j))).trans (d.block b f h)⟩
theorem Fr.mono {M M':Nat->Prop}{a d:World}(c:Fr M a d)(g:∀b,b<a.heap.size->M b->M' b):Fr M' a d :=
 ⟨c.os,c.tape,c.output,c.size,λb e f=>c.block b e (λh=>f (g b e h))⟩
theorem Fr.alloc {M:Nat->Prop}{a w:World}(c:Fr M a w)(b:Obj):Fr M a (w.alloc b) :=
 c.trans (M':=NoM) ⟨rfl,rfl,rfl,by simp,λe d _=>Below.heap_alloc w b e d⟩ (λ_ _ f=>f.elim)
theorem Fr.drew {M:Nat->Prop}{a w:World}(b:Fr M a w):Fr M a w.drew:=⟨b.os,b.tape,b.output,b.size,b.block⟩
theorem Fr.setCell {M:Nat->Prop}{a w:World}(b:Fr M a w)(p:Addr)(u:Value)(f:p.block<a.heap.size->M p.block):Fr M a (w.setCell p u) :=
 ⟨b.os,b.tape,b.output,by simpa [World.setCell] using b.size,λg c d=>by
  rw[Below.heap_setCell _ _ _ _ (λe=>d (by subst e;exact f c))];exact b.block g c d⟩
theorem Fr.grown {M:Nat->Prop}{a w f:World}{e:Option Nat}(h:Fr M a w)(c:w.grownBy f e)(j:∀b,e=some b->b<a.heap.size->M b):Fr M a f :=
 h.trans (M':=λb=>e=some b) ⟨c.os,c.tape,c.output,c.size,λb d i=>c.block b d (λg=>i g.symm)⟩ (λb d k=>j b k d)
theorem Fr.of_below {w b:World}(a:Below w.heap.size w b):Fr NoM w b:=⟨a.os,a.tape,a.output,a.size,λd c _=>a.block d c⟩
theorem Fr.below {M:Nat->Prop}{w d:World}(a:Fr M w d)(B:Nat)(e:B<=w.heap.size)(f:∀b,b<B->¬M b):Below B w d :=
 ⟨a.os,a.tape,a.output,a.size,λb c=>a.block b (vK c e) (f b c)⟩
theorem Fr.toBelow {w a:World}(b:Fr NoM w a):Below w.heap.size w a:=b.below _ (xW _) kP
theorem Fr.cell {M:Nat->Prop}{w b:World}(c:Fr M w b){p:Addr}{v:Value}(a:w.cell? p=some v)(d:¬M p.block):b.cell? p=some v :=
 (World.cell?_of_block (c.block _ (World.block_lt_of_cell? w p a) d)).trans a
theorem Fr.heap {M:Nat->Prop}{w c:World}(d:Fr M w c){k:Nat}{b:Obj}(a:w.heap[k]?=some b)(e:¬M k):c.heap[k]?=some b :=
 (d.block _ (yZ.1 a).1 e).trans a
def SliceOf {b:Type} (enc:b->Value) (w:World) (v:Value) (L:List b):Prop :=
  ∃ c a, v = .slice c L.length a/\L.length<=a/\a<=9223372036854775807 ∧
    ∀ (e:Nat) (g:b),L[e]?=some g->∃ d f,c=some ⟨d,f,none⟩/\w.cell? ⟨d,f + e,none⟩=some (enc g)
def encI (n:Int):Value:=.int .i64 n
def encN (n:Nat):Value:=.int .i64 (n:Int)
def encB (a:Bool):Value:=.bool a
def encV (v:Value):Value:=v
abbrev Ints:=SliceOf encI
abbrev Nats:=SliceOf encN
abbrev Bools:=SliceOf encB
abbrev Vals:=SliceOf encV
section
variable {α:Type}{enc:α->Value}{w w':World}{v:Value}{L:List α}
theorem SliceOf.keep (g:SliceOf enc w v L)(k:L≠[]->∀a,v.ownBlock=some a->a<w.heap.size->w'.heap[a]?=w.heap[a]?):SliceOf enc w' v L:=by obtain⟨d,e,rfl,h,i,j⟩:=g;refine⟨d,e,rfl,h,i,λl n c=>?_⟩;obtain⟨a,m,rfl,b⟩:=j l n c;exact⟨a,m,rfl,(World.cell?_of_block (k (λf=>by subst f;simp at c) a rfl (World.block_lt_of_cell? w _ b))).trans b⟩
theorem SliceOf.fr {M:Nat->Prop}(b:SliceOf enc w v L)(d:Fr M w w')(f:L≠[]->∀a,v.ownBlock=some a->¬M a):SliceOf enc w' v L :=
 b.keep λg a c e=>d.block a e (f g a c)
theorem SliceOf.fr0 (a:SliceOf enc w v L)(b:Fr NoM w w'):SliceOf enc w' v L:=a.fr b λ_ _ _ c=>c
theorem SliceOf.nil (enc:α->Value)(w:World):SliceOf enc w (.slice none 0 0) []:=⟨none,0,rfl,xW _,by decide,by simp⟩
theorem SliceOf.block (c:SliceOf enc w v L)(f:L≠[]):∃b,v.ownBlock=some b/\b<w.heap.size:=by(obtain⟨h,i,rfl,j,k,d⟩:=c;obtain⟨a,g⟩:∃a,L[0]?=some a:=by cases L with|nil=>exact absurd rfl f|cons a l=>exact⟨a,rfl⟩);obtain⟨b,m,rfl,e⟩:=d 0 a g;exact⟨b,rfl,World.block_lt_of_cell? w _ e⟩
theorem SliceOf.of_owns {base:Nat}{e:TypeId}{n:Nat}{xs:List Value}(f:w.ownsRow base e 1 v n xs)(a:xs=L.map enc):SliceOf enc w v L:=by(subst a;have k:n=L.length:=by have:=f.1;simpa using this.symm);subst k;rcases f.2 with ⟨rfl,h⟩|⟨d,g,c,rfl,p,j,l,i,r,m⟩;{have:L=[]:=List.eq_nil_of_length_eq_zero h;subst this;exact SliceOf.nil enc w};{refine⟨_,g,rfl,l,by simpa [maxLen] using i,λb o a=>⟨d,0,rfl,?_⟩⟩;(rw[Nat.zero_add,xX w d b c e (0,0) j];have q:b<L.length:=(xV.1 a).1;have:(c.toList.take (L.length*1))[b]?=some (enc o):=by rw[m];simp[a]);rw[List.getElem?_take]at this;rw[if_pos (by omega)]at this;simpa using this}
end
theorem za3 {w w':World}{base:Nat}{e:TypeId}{size:Nat}{v:Value}{n:Nat}{xs:List Value}{M:Nat->Prop}(h:w.ownsRow base e size v n xs)(hf:Fr M w w')(hm:∀b,v.ownBlock=some b->¬M b):w'.ownsRow base e size v n xs:=by refine⟨h.1,?_⟩;rcases h.2 with hn|⟨g,cap,cur,rfl,hb,hgg,rest⟩;{exact .inl hn};{exact .inr ⟨g,cap,cur,rfl,hb,hf.heap hgg (hm g rfl),rest⟩}
theorem zb6 {w:World}{base a:Nat}{e:TypeId}{size:Nat}{v:Value}{n:Nat}{xs:List Value}(b:w.ownsRow base e size v n xs)(g:a<=base):w.ownsRow a e size v n xs:=by refine⟨b.1,?_⟩;rcases b.2 with i|⟨f,c,d,rfl,h,j⟩;{exact .inl i};{exact .inr ⟨f,c,d,rfl,kQ g h,j⟩}
theorem ze0 {P:Program}(w:World){o:Array Oper}{rest:List Oper}{g:Oper}{a:Act}{j:Exit->Act->World->Prop}(y:g.guard=none)(s x:Operand)(t:TypeId) (B:g.op=Op.call { callee:=Callee.builtin Builtin.append,args:=#[s,x],argTypes:=#[t,t] }) (base:Nat) (e:TypeId) (z:Value) (f:Nat) (E:P.underlying t=some (.slice e)) (h:(P.info? e).map (λi=>(i.zero,i.size,i.bytes))=some (some z,1,f)) (H:z.cells.size=1) (v:Value) (n:Nat) (xs:List Value) (D:a.eval s=v) (C:w.ownsRow base e 1 v n xs) (u:Value) (G:a.eval x=.slice (some ⟨w.heap.size,0,none⟩) 1 1) (F:u.oneCell'=true) (l:(n+1)*f<=140737488355328) (r:0<f) (N:base<=w.heap.size) (K:∀(b:Value) (d:World),d.ownsRow base e 1 b (n+1) (xs ++ [u])->Fr (Own1 v) w d->(b.ownBlock=v.ownBlock\/∃k,b.ownBlock=some k/\w.heap.size<=k)->wpList P o j rest (a.put g.dst b) d) : wpList P o j (g::rest) a (w.alloc (.cells #[u] e)):=by obtain⟨M,h,I,J,L⟩:=info_parts h;have O:n+1<=140737488355328:=kQ (by have:=Nat.mul_le_mul_left (n+1) r;omega) l;refine wpList_append_own_at _ y s x t B base e M z 1 f E h I J L H (by decide) v n xs D (C.alloc _) ⟨w.heap.size,0,none⟩ 1 1 [u] G rfl (cell_one_new _ _ _) ?_ (by unfold maxLen;omega) l (by simp;omega) ?_;{intro R m;simp at m;subst m;exact F};{intro b d p q _ c;refine K b d p (((Fr.refl (Own1 v) w).alloc _).grown q (λQ A _=>A)) ?_;rcases c with c|c;{exact .inl c};{exact .inr ⟨_,c,by simp⟩}}
theorem ziv {P:Program} {B:Type} {enc:B->Value} (w:World) (t A:TypeId) (base:Nat) (e:TypeId) (z:Value) (k:Nat) (h:P.underlying t=some (.slice e)) (b:(P.info? e).map (λr=>(r.zero,r.size,r.bytes))=some (some z,1,k)) (T:z.cells.size=1) (v:Value) (n:Nat) (xs:List Value) (p:w.ownsRow base e 1 v n xs) (xv:Value) (L:List B) (Q:SliceOf enc w xv L) (D:∀ f,(enc f).oneCell'=true) (x:(n + L.length) * k<=140737488355328) (I:0 < k) (H:base<=w.heap.size) : ∃ d i, (Builtin.append_ #[t, t] A #[v, xv]).run P w = .ok d i/\i.ownsRow base e 1 d (n + L.length) (xs ++ L.map enc)/\Fr (Own1 v) w i ∧ (d.ownBlock=v.ownBlock\/∃ a,d.ownBlock=some a/\w.heap.size<=a)/\(d=.slice none 0 0↔v=.slice none 0 0/\L.length=0):=by obtain ⟨X,b,U,V,W⟩:=info_parts b;obtain ⟨f,C,rfl,a2,a4,u⟩:=Q;have a8:n + L.length<=140737488355328:=kQ (by have:=Nat.mul_le_mul_left (n + L.length) I;omega) x;by_cases o:L=[];{subst o;refine ⟨v,w,?_,by simpa using p,Fr.refl _ _,.inl rfl,by simp⟩;rcases p.2 with ⟨rfl,rfl⟩ | ⟨a1,Z,a0,rfl,a3,hg,y,a5,a6,a9⟩;{cases f with| none=>simp [Builtin.append_,run_underlying h,sizeOf,typeInfo,b,Builtin.lenOf,Builtin.firstCells]| some f=>simp [Builtin.append_,run_underlying h,sizeOf,typeInfo,b,Builtin.lenOf,Builtin.firstCells,loadCells,loadCellsFrom]};{cases f with| none=>simp [Builtin.append_,run_underlying h,sizeOf,typeInfo,b,Builtin.lenOf,Builtin.firstCells,y,storeCells]| some f=>simp [Builtin.append_,run_underlying h,sizeOf,typeInfo,b,Builtin.lenOf,Builtin.firstCells,loadCells,loadCellsFrom,y,storeCells]}};{(obtain ⟨j, S⟩ : ∃ j, L[0]? = some j := by cases L with | nil => exact absurd rfl o | cons j ab => exact ⟨j, rfl⟩);obtain ⟨a,l,rfl,_⟩:=u 0 j S;have N:∀ (c:Nat) (m:Value),(L.map enc)[c]?=some m->w.cell? ((⟨a,l,none⟩:Addr).add c)=some m:=by{intro c m g;rw [vY] at g;cases q:L[c]? with| none=>rw [q] at g;cases g| some s =>{rw [q] at g;cases g;obtain ⟨Y,ac,K,J⟩:=u c s q;cases K;(have:(⟨a,l,none⟩:Addr).add c=⟨a,l + c,none⟩:=by unfold Addr.add;split <;> simp_all);rw [this];exact J}};(have a7:0 < L.length:=by cases L with | nil=>exact absurd rfl o | cons _ _=>simp);obtain ⟨d,i,O,E,F,G,h5⟩:=run_append_own_at (P:=P) w base t A e X z 1 k h b U V W T (by decide) v n xs p ⟨a,l,none⟩ L.length C (L.map enc) (by simp) N (λm R=>by obtain ⟨s,_,rfl⟩:=y8.1 R;exact D s) (by unfold maxLen;omega) x H;refine ⟨d,i,O,E,(Fr.refl (Own1 v) w).grown F (λaa M _=>M),?_,G⟩;rcases h5 with h5 | h5;{exact .inl h5};{exact .inr ⟨_,h5,xW _⟩}}
theorem zae {P:Program}{k:Type}{enc:k->Value}(w:World){j:Array Oper}{rest:List Oper}{c:Oper}{a:Act}{h:Exit->Act->World->Prop}(y:c.guard=none)(s x:Operand)(t:TypeId) (C:c.op=Op.call { callee:=Callee.builtin Builtin.append,args:=#[s,x],argTypes:=#[t,t] }) (base:Nat) (e:TypeId) (z:Value) (f:Nat) (H:P.underlying t=some (.slice e)) (A:(P.info? e).map (λg=>(g.zero,g.size,g.bytes))=some (some z,1,f)) (J:z.cells.size=1) (v:Value) (n:Nat) (xs:List Value) (F:a.eval s=v) (D:w.ownsRow base e 1 v n xs) (xv:Value) (I:a.eval x=xv) (L:List k) (G:SliceOf enc w xv L) (l:∀a,(enc a).oneCell'=true) (B:(n+L.length)*f<=140737488355328) (u:0<f) (r:base<=w.heap.size) (K:∀(b:Value) (d:World),d.ownsRow base e 1 b (n+L.length) (xs++L.map enc)->Fr (Own1 v) w d->(b.ownBlock=v.ownBlock\/∃i,b.ownBlock=some i/\w.heap.size<=i)->wpList P j h rest (a.put c.dst b) d) : wpList P j h (c::rest) a w:=by refine wpList_plain y λM q=>?_;obtain⟨b,d,E,m,o,p,_⟩:=ziv (P:=P) w t c.type base e z f H A J v n xs D xv L G l B u r;unfold Oper.wp execOp;simp only[C,resolve,invoke,builtin,Sem.run_bind,Sem.run_pure,Result.andThen_ok,List.map_toArray,List.map_cons,List.map_nil,F,I,E];exact q _ _ (K b d m o p)
theorem zby {P:Program}{j:Type}{enc:j->Value}{w:World}{i:Array Oper}{b:Oper}{a:Act}{K:Act->World->Prop}{l:Exit->Act->World->Prop}{k:Prop}(A:b.guard=none)(s x:Operand)(t:TypeId) (D:b.op=Op.call { callee:=Callee.builtin Builtin.append,args:=#[s,x],argTypes:=#[t,t] }) (base:Nat) (e:TypeId) (z:Value) (f:Nat) (I:P.underlying t=some (.slice e)) (B:(P.info? e).map (λg=>(g.zero,g.size,g.bytes))=some (some z,1,f)) (N:z.cells.size=1) (v:Value) (n:Nat) (xs:List Value) (G:a.eval s=v) (E:w.ownsRow base e 1 v n xs) (xv:Value) (M:a.eval x=xv) (L:List j) (H:SliceOf enc w xv L) (m:∀a,(enc a).oneCell'=true) (C:(n+L.length)*f<=140737488355328) (y:0<f) (u:base<=w.heap.size) (r:∀(c:Value) (d:World),d.ownsRow base e 1 c (n+L.length) (xs++L.map enc)->Fr (Own1 v) w d->(c.ownBlock=v.ownBlock\/∃h,c.ownBlock=some h/\w.heap.size<=h)->K (a.put b.dst c) d) : if Region.wanted b (yielded i a.tmps)=true then Oper.wp P b a w K l else k:=by(have J:Region.wanted b (yielded i a.tmps)=true:=by simp[Region.wanted,A]);rw[if_pos J];obtain⟨c,d,F,o,p,q,_⟩:=ziv (P:=P) w t b.type base e z f I B N v n xs E xv L H m C y u;unfold Oper.wp execOp;simp only[D,resolve,invoke,builtin,Sem.run_bind,Sem.run_pure,Result.andThen_ok,List.map_toArray,List.map_cons,List.map_nil,G,M,F];exact r c d o p q
theorem SliceOf.one {c:Type}(enc:c->Value)(w:World)(x:c)(e:TypeId):SliceOf enc (w.alloc (.cells #[enc x] e)) (.slice (some ⟨w.heap.size,0,none⟩) 1 1) [x] :=
 ⟨_,1,rfl,by simp,by decide,λb d a=>⟨w.heap.size,0,rfl,by
  rcases b with _|b
  ·simp at a;subst a;rw[World.cell?_alloc_at _ _ _ _ rfl];rfl
  ·simp at a⟩⟩
theorem zvg {P:Program}{l:Type}{enc:l->Value}{w:World}{v:Value}{L:List l}(n:SliceOf enc w v L)(t:TypeId)(e:TypeId)(z:Value)(m:Nat)(j:P.underlying t=some (.slice e)) (b:(P.info? e).map (λg=>(g.zero,g.size,g.bytes))=some (some z,1,m)) (k:Nat) (y:k<=L.length) : ∃h,(∀d,(Instr.slice t v none (some (.int .i64 (k:Int))) none).run P d=.ok h d)/\SliceOf enc w h (L.take k)/\h.ownBlock=v.ownBlock:=by(obtain⟨D,b,A,B,C⟩:=info_parts b;obtain⟨a,f,rfl,x,p,o⟩:=n;have q:(L.take k).length=k:=by simp;omega);refine⟨.slice a k f,λd=>?_,⟨a,f,by rw[q],by omega,p,λr s c=>?_⟩,?_⟩;{(have i:k<=f:=by omega);cases a with| none=>simp[Instr.slice,run_underlying j,Instr.sliceBounds,Instr.sliceBound,asIntOf,sizeOf,typeInfo,b,i]| some u=>simp[Instr.slice,run_underlying j,Instr.sliceBounds,Instr.sliceBound,asIntOf,sizeOf,typeInfo,b,i,Addr.add]};{rw[List.getElem?_take]at c;split at c;{exact o r s c};{cases c}};{cases a <;> rfl}
theorem sliceFrom {P:Program}{j:Type}{enc:j->Value}{w:World}{v:Value}{L:List j}(n:SliceOf enc w v L)(t:TypeId)(e:TypeId)(z:Value)(m:Nat)(u:P.underlying t=some (.slice e)) (d:(P.info? e).map (λg=>(g.zero,g.size,g.bytes))=some (some z,1,m)) (k:Nat) (q:k<=L.length) : ∃h,(∀b,(Instr.slice t v (some (.int .i64 (k:Int))) none none).run P b=.ok h b)/\SliceOf enc w h (L.drop k)/\h.ownBlock=v.ownBlock:=by(obtain⟨I,d,G,x,H⟩:=info_parts d;obtain⟨a,c,rfl,D,E,p⟩:=n;have s:(L.drop k).length=L.length-k:=by simp);refine⟨.slice (if c=k then a else a.map (·.add k)) (L.length-k) (c-k),λb=>?_,⟨_,c-k,by rw[s],by omega,by omega,λy B f=>?_⟩,?_⟩;{have r:k<=L.length:=q;simp[Instr.slice,run_underlying u,Instr.sliceBounds,Instr.sliceBound,asIntOf,sizeOf,typeInfo,d,x,r]};{rw[List.getElem?_drop]at f;obtain⟨l,A,rfl,o⟩:=p (k+y) B f;have F:=(xV.1 f).1;rw[if_neg (by omega)];refine⟨l,A+k,?_,by rw[Nat.add_assoc];exact o⟩;by_cases i:k=0;{subst i;simp[Addr.add]};{simp[Addr.add,i]}};{split;{cases a <;> rfl};{cases a with| none=>rfl| some C=>simp[Value.ownBlock,Addr.add];split <;> rfl}}
theorem Fr.own {a w b:World}{e:TypeId}{size n:Nat}{v:Value}{xs:List Value}(c:Fr NoM a w)(f:w.ownsRow a.heap.size e size v n xs)(d:Fr (Own1 v) w b):Fr NoM a b :=
 c.trans d λg i h=>absurd (f.lt g h).1 (by omega)
theorem zcf {P:Program}{k:Type}{enc:k->Value}{w:World}{I:Array Oper}{b:Oper}{a:Act}{K:Act->World->Prop}{m:Exit->Act->World->Prop}{l:Prop}(d:World)(i:Fr NoM d w)(y:b.guard=none)(s x:Operand)(t:TypeId)
  (C:b.op=Op.call { callee:=Callee.builtin Builtin.append,args:=#[s,x],argTypes:=#[t,t] }) (e:TypeId) (z:Value) (f:Nat) (F:P.underlying t=some (.slice e))
  (A:(P.info? e).map (λh=>(h.zero,h.size,h.bytes))=some (some z,1,f)) (H:z.cells.size=1) (v:Value) (n:Nat) (xs:List Value) (D:a.eval s=v) (j:w.ownsRow d.heap.size e 1 v n xs)
  (xv:Value) (G:a.eval x=xv) (L:List k) (E:SliceOf enc w xv L) (o:∀a,(enc a).oneCell'=true) (B:(n+L.length)*f<=140737488355328) (u:0<f)
  (r:∀(g:Value) (c:World),c.ownsRow d.heap.size e 1 g (n+L.length) (xs++L.map enc)->Fr NoM d c->K (a.put b.dst g) c) :
  if Region.wanted b (yielded I a.tmps)=true then Oper.wp P b a w K m else l :=
 zby y s x t C d.heap.size e z f F A H v n xs D j xv G L E o B u i.size λg c p q _=>r g c p (i.own j q)
theorem zd9 {P:Program}{m:Type}{enc:m->Value}{w:World}{l:Array Oper}{rest:List Oper}{f:Oper}{a:Act}{j:Exit->Act->World->Prop}(c:World)(i:Fr NoM c w)(y:f.guard=none)(s x:Operand)(t:TypeId)
  (C:f.op=Op.call { callee:=Callee.builtin Builtin.append,args:=#[s,x],argTypes:=#[t,t] }) (e:TypeId) (z:Value) (d:Nat) (F:P.underlying t=some (.slice e))
  (A:(P.info? e).map (λh=>(h.zero,h.size,h.bytes))=some (some z,1,d)) (H:z.cells.size=1) (v:Value) (n:Nat) (xs:List Value) (D:a.eval s=v) (k:w.ownsRow c.heap.size e 1 v n xs)
  (xv:Value) (G:a.eval x=xv) (L:List m) (E:SliceOf enc w xv L) (o:∀a,(enc a).oneCell'=true) (B:(n+L.length)*d<=140737488355328) (u:0<d)
  (r:∀(g:Value) (b:World),b.ownsRow c.heap.size e 1 g (n+L.length) (xs++L.map enc)->Fr NoM c b->wpList P l j rest (a.put f.dst g) b) :
  wpList P l j (f::rest) a w :=
 zae w y s x t C c.heap.size e z d F A H v n xs D k xv G L E o B u i.size λg b p q _=>r g b p (i.own k q)
def redT:Int->Nat->Int × Nat
 | t,0=>(t,0)
 | t,a+1=>if t%2=0 then redT (t/2) a else (t,a+1)
def Red (t:Int)(p:Nat):Prop:=p=0\/t%2≠0
theorem zbr {t:Int}{p:Nat}(a:t%2=0):redT t (p+1)=redT (t/2) p:=by rw[redT,if_pos a]
theorem ze4 {t:Int}{p:Nat}(a:Red t p):redT t p=(t,p):=by cases p with| zero=>rfl| succ p=>rw[redT,if_neg (a.resolve_left (by omega))]
theorem ymg:∀(a:Nat) (b:Int),(redT b a).2<=a:=by intro a;induction a with| zero=>{intro b;exact xW _}| succ a c =>{intro b;rw[redT];split;{exact Nat.le_succ_of_le (c _)};{exact xW _}}
theorem zf0:∀(a:Nat) (b:Int),Red (redT b a).1 (redT b a).2:=by intro a;induction a with| zero=>{intro b;exact .inl rfl}| succ a d =>{intro b;rw[redT];split;{exact d _};{rename_i c;exact .inr c}}
theorem ygu:∀(p:Nat) (t:Int),(redT t p).1.natAbs<=t.natAbs:=by intro p;induction p with| zero=>{intro t;exact xW _}| succ p ih =>{intro t;rw[redT];split;{have:=ih (t/2);omega};{exact xW _}}
theorem zcy:∀(a b:Nat) (c:Int),redT (c*2^a) (b+a)=redT c b:=by intro a;induction a with| zero=>{intro b c;simp}| succ a e =>{(intro b c;have d:c*2^(a+1)=c*2^a*2:=by rw[Int.pow_succ,Int.mul_assoc]);rw[show b+(a+1)=b+a+1 from by omega,zbr (by rw[d];omega),d,Int.mul_ediv_cancel _ (by decide),e]}
theorem zon {t:Int}{p:Nat}(b:t%2=0)(c:0<p):(redT t p).2<p:=by obtain⟨a,rfl⟩:∃a,p=a+1:=⟨p-1,by omega⟩;rw[zbr b];exact Nat.lt_succ_of_le (ymg a _)
def GoodD (T P:Int):Prop:=(-1000000<=T/\T<=1000000)/\(0<=P/\P<=16)/\(P=0\/T%2≠0)
theorem GoodD.nat {T P:Int}(a:GoodD T P):∃b:Nat,P=(b:Int)/\b<=16/\Red T b/\T.natAbs<=1000000:=by obtain⟨d,e,c⟩:=a;refine⟨P.toNat,by omega,by omega,?_,by omega⟩;rcases c with a|a;{exact .inl (by omega)};{exact .inr a}
theorem GoodD.of {t:Int}{p:Nat}(b:Red t p)(d:t.natAbs<=1000000)(c:p<=16):GoodD t p:=⟨by omega,by omega,by
 rcases b with a|a
 ·exact .inl (by omega)
 ·exact .inr a⟩
theorem zk8 (T P:Int):∃b:Bool,(b=true↔GoodD T P):=by by_cases a:GoodD T P;{exact⟨true,by simp[a]⟩};{exact⟨false,by simp[a]⟩}
theorem zgp {t:Int}{p:Nat}(c:Red t p)(g:t.natAbs<=1000000)(b:0<p)(d:p<=16)(x:Int)(h:x=t-1\/x=t+1):GoodD (redT x p).1 (redT x p).2/\(redT x p).2<p/\Red (redT x p).1 (redT x p).2/\(redT x p).1.natAbs<=1000000:=by have f:t%2≠0:=c.resolve_left (by omega);have a:=zon (t:=x) (p:=p) (by omega) b;have e:=ygu p x;exact⟨GoodD.of (zf0 _ _) (by omega) (by omega),a,zf0 _ _,by omega⟩
