import Derived.Test.YtkofnbjjbcohgaaGreatDoorChecked
import Derived.WalkKit
import Derived.Lib.Hide
import Derived.Maps.AppendAt
/- Lemmas. -/
namespace Go.Proofs.YtkofnbjjbcohgaaGreatDoor
set_option linter.unusedVariables false
set_option linter.unusedSimpArgs false
open Go.RowKit
theorem Hh{p:Prop}(h:p):Hid p:=h
structure Fr (M:Nat→Prop) (w w':World):Prop where
 os:w'.os=w.os
 tape:w'.tape=w.tape
 output:w'.output=w.output
 size:w.heap.size≤w'.heap.size
 block:∀k,k<w.heap.size→¬M k→w'.heap[k]?=w.heap[k]?
def NoM:Nat→Prop:=fun _=>False
def Own1 (v:Value):Nat→Prop:=fun k=>v.ownBlock=some k
theorem Fr.refl (M:Nat→Prop)(w:World):Fr M w w:=⟨rfl,rfl,rfl,Nat.le_refl _,fun _ _ _=>rfl⟩
theorem Fr.trans {M M':Nat→Prop}{a b c:World}(h:Fr M a b)(h':Fr M' b c)(hs:∀k,k<a.heap.size→M' k→M k):Fr M a c :=
 ⟨h'.os.trans h.os,h'.tape.trans h.tape,h'.output.trans h.output,Nat.le_trans h.size h'.size,
  fun k hk hm=>(h'.block k (Nat.lt_of_lt_of_le hk h.size) (fun q=>hm (hs k hk q))).trans (h.block k hk hm)⟩
theorem Fr.mono {M M':Nat→Prop}{a b:World}(h:Fr M a b)(hs:∀k,k<a.heap.size→M k→M' k):Fr M' a b :=
 ⟨h.os,h.tape,h.output,h.size,fun k hk hm=>h.block k hk (fun q=>hm (hs k hk q))⟩
theorem Fr.alloc {M:Nat→Prop}{a w:World}(h:Fr M a w)(o:Obj):Fr M a (w.alloc o) :=
 h.trans (M':=NoM) ⟨rfl,rfl,rfl,by simp,fun k hk _=>Below.heap_alloc w o k hk⟩ (fun _ _ q=>q.elim)
theorem Fr.drew {M:Nat→Prop}{a w:World}(h:Fr M a w):Fr M a w.drew:=⟨h.os,h.tape,h.output,h.size,h.block⟩
theorem Fr.setCell {M:Nat→Prop}{a w:World}(h:Fr M a w)(p:Addr)(u:Value)(hp:p.block<a.heap.size→M p.block):Fr M a (w.setCell p u) :=
 ⟨h.os,h.tape,h.output,by simpa [World.setCell] using h.size,fun k hk hm=>by
  rw[Below.heap_setCell _ _ _ _ (fun e=>hm (by subst e;exact hp hk))];exact h.block k hk hm⟩
theorem Fr.grown {M:Nat→Prop}{a w w':World}{row:Option Nat}(h:Fr M a w)(hg:w.grownBy w' row)(hr:∀k,row=some k→k<a.heap.size→M k):Fr M a w' :=
 h.trans (M':=fun k=>row=some k) ⟨hg.os,hg.tape,hg.output,hg.size,fun k hk hm=>hg.block k hk (fun e=>hm e.symm)⟩ (fun k hk q=>hr k q hk)
theorem Fr.of_below {w w':World}(h:Below w.heap.size w w'):Fr NoM w w':=⟨h.os,h.tape,h.output,h.size,fun k hk _=>h.block k hk⟩
theorem Fr.below {M:Nat→Prop}{w w':World}(h:Fr M w w')(B:Nat)(hB:B≤w.heap.size)(hM:∀k,k<B→¬M k):Below B w w' :=
 ⟨h.os,h.tape,h.output,h.size,fun k hk=>h.block k (Nat.lt_of_lt_of_le hk hB) (hM k hk)⟩
theorem Fr.toBelow {w w':World}(h:Fr NoM w w'):Below w.heap.size w w':=h.below _ (Nat.le_refl _) (fun _ _ q=>q)
theorem Fr.cell {M:Nat→Prop}{w w':World}(h:Fr M w w'){p:Addr}{v:Value}(hc:w.cell? p=some v)(hm:¬M p.block):w'.cell? p=some v :=
 (World.cell?_of_block (h.block _ (World.block_lt_of_cell? w p hc) hm)).trans hc
theorem Fr.heap {M:Nat→Prop}{w w':World}(h:Fr M w w'){k:Nat}{o:Obj}(hc:w.heap[k]?=some o)(hm:¬M k):w'.heap[k]?=some o :=
 (h.block _ (Array.getElem?_eq_some_iff.1 hc).1 hm).trans hc
def SliceOf {α:Type} (enc:α→Value) (w:World) (v:Value) (L:List α):Prop :=
  ∃ a c, v = .slice a L.length c ∧ L.length ≤ c ∧ c ≤ 9223372036854775807 ∧
    ∀ (j:Nat) (x:α),L[j]?=some x→∃ b off,a=some ⟨b,off,none⟩∧w.cell? ⟨b,off + j,none⟩=some (enc x)
def encI (n:Int):Value:=.int .i64 n
def encN (n:Nat):Value:=.int .i64 (n:Int)
def encB (b:Bool):Value:=.bool b
def encV (v:Value):Value:=v
abbrev Ints:=SliceOf encI
abbrev Nats:=SliceOf encN
abbrev Bools:=SliceOf encB
abbrev Vals:=SliceOf encV
section
variable {α:Type}{enc:α→Value}{w w':World}{v:Value}{L:List α}
theorem SliceOf.keep (h:SliceOf enc w v L)(hk:L≠[]→∀b,v.ownBlock=some b→b<w.heap.size→w'.heap[b]?=w.heap[b]?):SliceOf enc w' v L:=by
 obtain⟨a,c,rfl,h1,h2,h3⟩:=h;refine⟨a,c,rfl,h1,h2,fun j x hx=>?_⟩;obtain⟨b,off,rfl,hc⟩:=h3 j x hx;exact⟨b,off,rfl,(World.cell?_of_block (hk (fun e=>by subst e;simp at hx) b rfl (World.block_lt_of_cell? w _ hc))).trans hc⟩
theorem SliceOf.fr {M:Nat→Prop}(h:SliceOf enc w v L)(hf:Fr M w w')(hm:L≠[]→∀b,v.ownBlock=some b→¬M b):SliceOf enc w' v L :=
 h.keep fun hne b hb hl=>hf.block b hl (hm hne b hb)
theorem SliceOf.fr0 (h:SliceOf enc w v L)(hf:Fr NoM w w'):SliceOf enc w' v L:=h.fr hf fun _ _ _ q=>q
theorem SliceOf.nil (enc:α→Value)(w:World):SliceOf enc w (.slice none 0 0) []:=⟨none,0,rfl,Nat.le_refl _,by decide,by simp⟩
theorem SliceOf.block (h:SliceOf enc w v L)(hne:L≠[]):∃b,v.ownBlock=some b/\b<w.heap.size:=by
 obtain⟨a,c,rfl,h1,h2,h3⟩:=h;obtain⟨x,hx⟩:∃x,L[0]?=some x:=by cases L with|nil=>exact absurd rfl hne|cons x l=>exact⟨x,rfl⟩
 obtain⟨b,off,rfl,hc⟩:=h3 0 x hx;exact⟨b,rfl,World.block_lt_of_cell? w _ hc⟩
theorem SliceOf.of_owns {base:Nat}{e:TypeId}{n:Nat}{xs:List Value}(h:w.ownsRow base e 1 v n xs)(hx:xs=L.map enc):SliceOf enc w v L:=by
 subst hx;have hn:n=L.length:=by have:=h.1;simpa using this.symm
 subst hn;rcases h.2 with ⟨rfl,h0⟩|⟨g,cap,cur,rfl,hb,hg,hnc,hcm,hs,ht⟩
 ·have:L=[]:=List.eq_nil_of_length_eq_zero h0
  subst this;exact SliceOf.nil enc w
 ·refine⟨_,cap,rfl,hnc,by simpa [maxLen] using hcm,fun j x hx=>⟨g,0,rfl,?_⟩⟩
  rw[Nat.zero_add,cell_of_row w g j cur e (0,0) hg];have hj:j<L.length:=(List.getElem?_eq_some_iff.1 hx).1;have:(cur.toList.take (L.length*1))[j]?=some (enc x):=by rw[ht];simp[hx]
  rw[List.getElem?_take]at this
  rw[if_pos (by omega)]at this
  simpa using this
end
theorem za2 {w w':World}{base:Nat}{e:TypeId}{size:Nat}{v:Value}{n:Nat}{xs:List Value}{M:Nat→Prop}(h:w.ownsRow base e size v n xs)(hf:Fr M w w')(hm:∀b,v.ownBlock=some b→¬M b):w'.ownsRow base e size v n xs:=by
 refine⟨h.1,?_⟩;rcases h.2 with hn|⟨g,cap,cur,rfl,hb,hgg,rest⟩
 ·exact .inl hn
 ·exact .inr ⟨g,cap,cur,rfl,hb,hf.heap hgg (hm g rfl),rest⟩
theorem zb2 {w:World}{base base':Nat}{e:TypeId}{size:Nat}{v:Value}{n:Nat}{xs:List Value}(h:w.ownsRow base e size v n xs)(hb:base'≤base):w.ownsRow base' e size v n xs:=by
 refine⟨h.1,?_⟩;rcases h.2 with hn|⟨g,cap,cur,rfl,hb',r⟩
 ·exact .inl hn
 ·exact .inr ⟨g,cap,cur,rfl,Nat.le_trans hb hb',r⟩
theorem zc1 {P:Program}(w:World){ops:Array Oper}{rest:List Oper}{o:Oper}{a:Act}{Q:Exit→Act→World→Prop}(hg:o.guard=none)(s x:Operand)(t:TypeId)
  (hop:o.op=Op.call { callee:=Callee.builtin Builtin.append,args:=#[s,x],argTypes:=#[t,t] }) (base:Nat) (e:TypeId) (z:Value) (bytes:Nat) (ht:P.underlying t=some (.slice e))
  (hi:(P.info? e).map (fun i=>(i.zero,i.size,i.bytes))=some (some z,1,bytes)) (hz:z.cells.size=1) (v:Value) (n:Nat) (xs:List Value) (hs:a.eval s=v) (hown:w.ownsRow base e 1 v n xs)
  (u:Value) (hx:a.eval x=.slice (some ⟨w.heap.size,0,none⟩) 1 1) (hu:u.oneCell'=true) (hn:(n+1)*bytes≤140737488355328) (hb1:0<bytes) (hb:base≤w.heap.size)
  (K:∀(v':Value) (w':World),w'.ownsRow base e 1 v' (n+1) (xs ++ [u])→Fr (Own1 v) w w'→(v'.ownBlock=v.ownBlock∨∃b,v'.ownBlock=some b/\w.heap.size≤b)→wpList P ops Q rest (a.put o.dst v') w') :
  wpList P ops Q (o::rest) a (w.alloc (.cells #[u] e)):=by
 obtain⟨i0,hi,hz0,hz1,hz2⟩:=info_parts hi;have hnn:n+1≤140737488355328:=Nat.le_trans (by have:=Nat.mul_le_mul_left (n+1) hb1;omega) hn;refine wpList_append_own_at _ hg s x t hop base e i0 z 1 bytes ht hi hz0 hz1 hz2 hz (by decide) v n xs hs (hown.alloc _) ⟨w.heap.size,0,none⟩ 1 1 [u] hx rfl (cell_one_new _ _ _) ?_ (by unfold maxLen;omega) hn (by simp;omega) ?_
 ·intro q hq;simp at hq;subst hq;exact hu
 ·intro v' w' h1 h2 _ h3
  refine K v' w' h1 (((Fr.refl (Own1 v) w).alloc _).grown h2 (fun k hk _=>hk)) ?_
  rcases h3 with h3|h3
  ·exact .inl h3
  ·exact .inr ⟨_,h3,by simp⟩
theorem zf7 {P:Program} {α:Type} {enc:α→Value} (w:World) (t ty:TypeId) (base:Nat) (e:TypeId) (z:Value) (bytes:Nat) (ht:P.underlying t=some (.slice e))
    (hi:(P.info? e).map (fun i=>(i.zero,i.size,i.bytes))=some (some z,1,bytes)) (hz:z.cells.size=1) (v:Value) (n:Nat) (xs:List Value) (hown:w.ownsRow base e 1 v n xs)
    (xv:Value) (L:List α) (hsrc:SliceOf enc w xv L) (h1:∀ a,(enc a).oneCell'=true) (hn:(n + L.length) * bytes≤140737488355328) (hb1:0 < bytes) (hb:base≤w.heap.size) :
    ∃ v' w', (Builtin.append_ #[t, t] ty #[v, xv]).run P w = .ok v' w' ∧ w'.ownsRow base e 1 v' (n + L.length) (xs ++ L.map enc) ∧ Fr (Own1 v) w w' ∧
      (v'.ownBlock=v.ownBlock∨∃ b,v'.ownBlock=some b∧w.heap.size≤b)∧(v'=.slice none 0 0↔v=.slice none 0 0∧L.length=0):=by
  obtain ⟨i0,hi,hz0,hz1,hz2⟩:=info_parts hi;obtain ⟨a,c,rfl,hac,hcm,hcell⟩:=hsrc;have hnn:n + L.length≤140737488355328:=Nat.le_trans (by have:=Nat.mul_le_mul_left (n + L.length) hb1;omega) hn;by_cases hL:L=[]
  · subst hL
    refine ⟨v,w,?_,by simpa using hown,Fr.refl _ _,.inl rfl,by simp⟩;rcases hown.2 with ⟨rfl,rfl⟩ | ⟨g,cap,cur,rfl,hbg,hg,hnc,hcm',hcs,htake⟩
    · cases a with
      | none=>simp [Builtin.append_,run_underlying ht,sizeOf,typeInfo,hi,Builtin.lenOf,Builtin.firstCells]
      | some a=>simp [Builtin.append_,run_underlying ht,sizeOf,typeInfo,hi,Builtin.lenOf,Builtin.firstCells,loadCells,loadCellsFrom]
    · cases a with
      | none=>simp [Builtin.append_,run_underlying ht,sizeOf,typeInfo,hi,Builtin.lenOf,Builtin.firstCells,hnc,storeCells]
      | some a=>simp [Builtin.append_,run_underlying ht,sizeOf,typeInfo,hi,Builtin.lenOf,Builtin.firstCells,loadCells,loadCellsFrom,hnc,storeCells]
  · obtain ⟨x, hx⟩ : ∃ x, L[0]? = some x := by cases L with | nil => exact absurd rfl hL | cons x l => exact ⟨x, rfl⟩
    obtain ⟨b,off,rfl,_⟩:=hcell 0 x hx;have hnews:∀ (j:Nat) (u:Value),(L.map enc)[j]?=some u→w.cell? ((⟨b,off,none⟩:Addr).add j)=some u:=by
      intro j u hj;rw [List.getElem?_map] at hj;cases hq:L[j]? with
      | none=>rw [hq] at hj;cases hj
      | some y =>
        rw [hq] at hj;cases hj
        obtain ⟨b',off',he,hc⟩:=hcell j y hq;cases he
        have:(⟨b,off,none⟩:Addr).add j=⟨b,off + j,none⟩:=by unfold Addr.add;split <;> simp_all
        rw [this];exact hc
    have hlen:0 < L.length:=by cases L with | nil=>exact absurd rfl hL | cons _ _=>simp
    obtain ⟨v',w',hr,h2,h3,h4,h5⟩:=run_append_own_at (P:=P) w base t ty e i0 z 1 bytes ht hi hz0 hz1 hz2 hz (by decide) v n xs hown ⟨b,off,none⟩ L.length c (L.map enc) (by simp) hnews
      (fun u hu=>by obtain ⟨y,_,rfl⟩:=List.mem_map.1 hu;exact h1 y) (by unfold maxLen;omega) hn hb
    refine ⟨v',w',hr,h2,(Fr.refl (Own1 v) w).grown h3 (fun k hk _=>hk),?_,h4⟩;rcases h5 with h5 | h5
    · exact .inl h5
    · exact .inr ⟨_,h5,Nat.le_refl _⟩
theorem zaq {P:Program}{α:Type}{enc:α→Value}(w:World){ops:Array Oper}{rest:List Oper}{o:Oper}{a:Act}{Q:Exit→Act→World→Prop}(hg:o.guard=none)(s x:Operand)(t:TypeId)
  (hop:o.op=Op.call { callee:=Callee.builtin Builtin.append,args:=#[s,x],argTypes:=#[t,t] }) (base:Nat) (e:TypeId) (z:Value) (bytes:Nat) (ht:P.underlying t=some (.slice e))
  (hi:(P.info? e).map (fun i=>(i.zero,i.size,i.bytes))=some (some z,1,bytes)) (hz:z.cells.size=1) (v:Value) (n:Nat) (xs:List Value) (hs:a.eval s=v) (hown:w.ownsRow base e 1 v n xs)
  (xv:Value) (hx:a.eval x=xv) (L:List α) (hsrc:SliceOf enc w xv L) (h1:∀a,(enc a).oneCell'=true) (hn:(n+L.length)*bytes≤140737488355328) (hb1:0<bytes) (hb:base≤w.heap.size)
  (K:∀(v':Value) (w':World),w'.ownsRow base e 1 v' (n+L.length) (xs++L.map enc)→Fr (Own1 v) w w'→(v'.ownBlock=v.ownBlock∨∃b,v'.ownBlock=some b/\w.heap.size≤b)→wpList P ops Q rest (a.put o.dst v') w') :
  wpList P ops Q (o::rest) a w:=by
 refine wpList_plain hg fun K' hK=>?_
 obtain⟨v',w',hr,h2,h3,h4,_⟩:=zf7 (P:=P) w t o.type base e z bytes ht hi hz v n xs hown xv L hsrc h1 hn hb1 hb;unfold Oper.wp execOp;simp only[hop,resolve,invoke,builtin,Sem.run_bind,Sem.run_pure,Result.andThen_ok,List.map_toArray,List.map_cons,List.map_nil,hs,hx,hr];exact hK _ _ (K v' w' h2 h3 h4)
theorem zbc {P:Program}{α:Type}{enc:α→Value}{w:World}{ops:Array Oper}{o:Oper}{a:Act}{K:Act→World→Prop}{Q:Exit→Act→World→Prop}{E:Prop}(hg:o.guard=none)(s x:Operand)(t:TypeId)
  (hop:o.op=Op.call { callee:=Callee.builtin Builtin.append,args:=#[s,x],argTypes:=#[t,t] }) (base:Nat) (e:TypeId) (z:Value) (bytes:Nat) (ht:P.underlying t=some (.slice e))
  (hi:(P.info? e).map (fun i=>(i.zero,i.size,i.bytes))=some (some z,1,bytes)) (hz:z.cells.size=1) (v:Value) (n:Nat) (xs:List Value) (hs:a.eval s=v) (hown:w.ownsRow base e 1 v n xs)
  (xv:Value) (hx:a.eval x=xv) (L:List α) (hsrc:SliceOf enc w xv L) (h1:∀a,(enc a).oneCell'=true) (hn:(n+L.length)*bytes≤140737488355328) (hb1:0<bytes) (hb:base≤w.heap.size)
  (hK:∀(v':Value) (w':World),w'.ownsRow base e 1 v' (n+L.length) (xs++L.map enc)→Fr (Own1 v) w w'→(v'.ownBlock=v.ownBlock∨∃b,v'.ownBlock=some b/\w.heap.size≤b)→K (a.put o.dst v') w') :
  if Region.wanted o (yielded ops a.tmps)=true then Oper.wp P o a w K Q else E:=by
 have hw:Region.wanted o (yielded ops a.tmps)=true:=by simp[Region.wanted,hg]
 rw[if_pos hw];obtain⟨v',w',hr,h2,h3,h4,_⟩:=zf7 (P:=P) w t o.type base e z bytes ht hi hz v n xs hown xv L hsrc h1 hn hb1 hb;unfold Oper.wp execOp;simp only[hop,resolve,invoke,builtin,Sem.run_bind,Sem.run_pure,Result.andThen_ok,List.map_toArray,List.map_cons,List.map_nil,hs,hx,hr];exact hK v' w' h2 h3 h4
theorem SliceOf.one {α:Type}(enc:α→Value)(w:World)(x:α)(e:TypeId):SliceOf enc (w.alloc (.cells #[enc x] e)) (.slice (some ⟨w.heap.size,0,none⟩) 1 1) [x] :=
 ⟨_,1,rfl,by simp,by decide,fun j y hy=>⟨w.heap.size,0,rfl,by
  rcases j with _|j
  ·simp at hy;subst hy;rw[World.cell?_alloc_at _ _ _ _ rfl];rfl
  ·simp at hy⟩⟩
theorem zn7 {P:Program}{α:Type}{enc:α→Value}{w:World}{v:Value}{L:List α}(h:SliceOf enc w v L)(t:TypeId)(e:TypeId)(z:Value)(bytes:Nat)(ht:P.underlying t=some (.slice e))
  (hi:(P.info? e).map (fun i=>(i.zero,i.size,i.bytes))=some (some z,1,bytes)) (k:Nat) (hk:k≤L.length) :
  ∃v',(∀W,(Instr.slice t v none (some (.int .i64 (k:Int))) none).run P W=.ok v' W)/\SliceOf enc w v' (L.take k)/\v'.ownBlock=v.ownBlock:=by
 obtain⟨i0,hi,hz0,hz1,hz2⟩:=info_parts hi;obtain⟨a,c,rfl,hac,hcm,hcell⟩:=h;have hlen:(L.take k).length=k:=by simp;omega
 refine⟨.slice a k c,fun W=>?_,⟨a,c,by rw[hlen],by omega,hcm,fun j x hx=>?_⟩,?_⟩
 ·have hkc:k≤c:=by omega
  cases a with
  | none=>simp[Instr.slice,run_underlying ht,Instr.sliceBounds,Instr.sliceBound,asIntOf,sizeOf,typeInfo,hi,hkc]
  | some ad=>simp[Instr.slice,run_underlying ht,Instr.sliceBounds,Instr.sliceBound,asIntOf,sizeOf,typeInfo,hi,hkc,Addr.add]
 ·rw[List.getElem?_take]at hx
  split at hx
  ·exact hcell j x hx
  ·cases hx
 ·cases a <;> rfl
theorem sliceFrom {P:Program}{α:Type}{enc:α→Value}{w:World}{v:Value}{L:List α}(h:SliceOf enc w v L)(t:TypeId)(e:TypeId)(z:Value)(bytes:Nat)(ht:P.underlying t=some (.slice e))
  (hi:(P.info? e).map (fun i=>(i.zero,i.size,i.bytes))=some (some z,1,bytes)) (k:Nat) (hk:k≤L.length) :
  ∃v',(∀W,(Instr.slice t v (some (.int .i64 (k:Int))) none none).run P W=.ok v' W)/\SliceOf enc w v' (L.drop k)/\v'.ownBlock=v.ownBlock:=by
 obtain⟨i0,hi,hz0,hz1,hz2⟩:=info_parts hi;obtain⟨a,c,rfl,hac,hcm,hcell⟩:=h;have hlen:(L.drop k).length=L.length-k:=by simp
 refine⟨.slice (if c=k then a else a.map (·.add k)) (L.length-k) (c-k),fun W=>?_,⟨_,c-k,by rw[hlen],by omega,by omega,fun j x hx=>?_⟩,?_⟩
 ·have hkl:k≤L.length:=hk
  simp[Instr.slice,run_underlying ht,Instr.sliceBounds,Instr.sliceBound,asIntOf,sizeOf,typeInfo,hi,hz1,hkl]
 ·rw[List.getElem?_drop]at hx
  obtain⟨b,off,rfl,hc⟩:=hcell (k+j) x hx;have hlt:=(List.getElem?_eq_some_iff.1 hx).1;rw[if_neg (by omega)];refine⟨b,off+k,?_,by rw[Nat.add_assoc];exact hc⟩;by_cases hk0:k=0
  ·subst hk0;simp[Addr.add]
  ·simp[Addr.add,hk0]
 ·split
  ·cases a <;> rfl
  ·cases a with
   | none=>rfl
   | some ad=>simp[Value.ownBlock,Addr.add];split <;> rfl
theorem Fr.own {w0 w w':World}{e:TypeId}{size n:Nat}{v:Value}{xs:List Value}(h:Fr NoM w0 w)(hown:w.ownsRow w0.heap.size e size v n xs)(hf:Fr (Own1 v) w w'):Fr NoM w0 w' :=
 h.trans hf fun k hk q=>absurd (hown.lt k q).1 (by omega)
theorem zbd {P:Program}{α:Type}{enc:α→Value}{w:World}{ops:Array Oper}{o:Oper}{a:Act}{K:Act→World→Prop}{Q:Exit→Act→World→Prop}{E:Prop}(w0:World)(F:Fr NoM w0 w)(hg:o.guard=none)(s x:Operand)(t:TypeId)
  (hop:o.op=Op.call { callee:=Callee.builtin Builtin.append,args:=#[s,x],argTypes:=#[t,t] }) (e:TypeId) (z:Value) (bytes:Nat) (ht:P.underlying t=some (.slice e))
  (hi:(P.info? e).map (fun i=>(i.zero,i.size,i.bytes))=some (some z,1,bytes)) (hz:z.cells.size=1) (v:Value) (n:Nat) (xs:List Value) (hs:a.eval s=v) (hown:w.ownsRow w0.heap.size e 1 v n xs)
  (xv:Value) (hx:a.eval x=xv) (L:List α) (hsrc:SliceOf enc w xv L) (h1:∀a,(enc a).oneCell'=true) (hn:(n+L.length)*bytes≤140737488355328) (hb1:0<bytes)
  (hK:∀(v':Value) (w':World),w'.ownsRow w0.heap.size e 1 v' (n+L.length) (xs++L.map enc)→Fr NoM w0 w'→K (a.put o.dst v') w') :
  if Region.wanted o (yielded ops a.tmps)=true then Oper.wp P o a w K Q else E :=
 zbc hg s x t hop w0.heap.size e z bytes ht hi hz v n xs hs hown xv hx L hsrc h1 hn hb1 F.size fun v' w' h2 h3 _=>hK v' w' h2 (F.own hown h3)
theorem zc0 {P:Program}{α:Type}{enc:α→Value}{w:World}{ops:Array Oper}{rest:List Oper}{o:Oper}{a:Act}{Q:Exit→Act→World→Prop}(w0:World)(F:Fr NoM w0 w)(hg:o.guard=none)(s x:Operand)(t:TypeId)
  (hop:o.op=Op.call { callee:=Callee.builtin Builtin.append,args:=#[s,x],argTypes:=#[t,t] }) (e:TypeId) (z:Value) (bytes:Nat) (ht:P.underlying t=some (.slice e))
  (hi:(P.info? e).map (fun i=>(i.zero,i.size,i.bytes))=some (some z,1,bytes)) (hz:z.cells.size=1) (v:Value) (n:Nat) (xs:List Value) (hs:a.eval s=v) (hown:w.ownsRow w0.heap.size e 1 v n xs)
  (xv:Value) (hx:a.eval x=xv) (L:List α) (hsrc:SliceOf enc w xv L) (h1:∀a,(enc a).oneCell'=true) (hn:(n+L.length)*bytes≤140737488355328) (hb1:0<bytes)
  (hK:∀(v':Value) (w':World),w'.ownsRow w0.heap.size e 1 v' (n+L.length) (xs++L.map enc)→Fr NoM w0 w'→wpList P ops Q rest (a.put o.dst v') w') :
  wpList P ops Q (o::rest) a w :=
 zaq w hg s x t hop w0.heap.size e z bytes ht hi hz v n xs hs hown xv hx L hsrc h1 hn hb1 F.size fun v' w' h2 h3 _=>hK v' w' h2 (F.own hown h3)
def redT:Int→Nat→Int × Nat
 | t,0=>(t,0)
 | t,p+1=>if t%2=0 then redT (t/2) p else (t,p+1)
def Red (t:Int)(p:Nat):Prop:=p=0∨t%2≠0
theorem zcr {t:Int}{p:Nat}(h:t%2=0):redT t (p+1)=redT (t/2) p:=by rw[redT,if_pos h]
theorem zef {t:Int}{p:Nat}(h:Red t p):redT t p=(t,p):=by
 cases p with
 | zero=>rfl
 | succ p=>rw[redT,if_neg (h.resolve_left (by omega))]
theorem zxh:∀(p:Nat) (t:Int),(redT t p).2≤p:=by
 intro p;induction p with
 | zero=>intro t;exact Nat.le_refl _
 | succ p ih =>
  intro t;rw[redT];split
  ·exact Nat.le_succ_of_le (ih _)
  ·exact Nat.le_refl _
theorem zch:∀(p:Nat) (t:Int),Red (redT t p).1 (redT t p).2:=by
 intro p;induction p with
 | zero=>intro t;exact .inl rfl
 | succ p ih =>
  intro t;rw[redT];split
  ·exact ih _
  ·rename_i h;exact .inr h
theorem zun:∀(p:Nat) (t:Int),(redT t p).1.natAbs≤t.natAbs:=by
 intro p;induction p with
 | zero=>intro t;exact Nat.le_refl _
 | succ p ih =>
  intro t;rw[redT];split
  ·have:=ih (t/2);omega
  ·exact Nat.le_refl _
theorem zcn:∀(j p:Nat) (t:Int),redT (t*2^j) (p+j)=redT t p:=by
 intro j;induction j with
 | zero=>intro p t;simp
 | succ j ih =>
  intro p t;have e:t*2^(j+1)=t*2^j*2:=by rw[Int.pow_succ,Int.mul_assoc]
  rw[show p+(j+1)=p+j+1 from by omega,zcr (by rw[e];omega),e,Int.mul_ediv_cancel _ (by decide),ih]
theorem zhk {t:Int}{p:Nat}(h:t%2=0)(hp:0<p):(redT t p).2<p:=by
 obtain⟨q,rfl⟩:∃q,p=q+1:=⟨p-1,by omega⟩;rw[zcr h];exact Nat.lt_succ_of_le (zxh q _)
def GoodD (T P:Int):Prop:=(-1000000≤T/\T≤1000000)/\(0≤P/\P≤16)/\(P=0∨T%2≠0)
theorem GoodD.of {t:Int}{p:Nat}(hr:Red t p)(ht:t.natAbs≤1000000)(hp:p≤16):GoodD t p:=⟨by omega,by omega,by
 rcases hr with h|h
 ·exact .inl (by omega)
 ·exact .inr h⟩
theorem zny (T P:Int):∃g:Bool,(g=true↔GoodD T P):=by
 by_cases h:GoodD T P
 ·exact⟨true,by simp[h]⟩
 ·exact⟨false,by simp[h]⟩
theorem zmh {t:Int}{p:Nat}(hr:Red t p)(ht:t.natAbs≤1000000)(hp:0<p)(h16:p≤16)(x:Int)(hx:x=t-1∨x=t+1):GoodD (redT x p).1 (redT x p).2/\(redT x p).2<p/\Red (redT x p).1 (redT x p).2/\(redT x p).1.natAbs≤1000000:=by
 have ho:t%2≠0:=hr.resolve_left (by omega);have h1:=zhk (t:=x) (p:=p) (by omega) hp;have h2:=zun p x;exact⟨GoodD.of (zch _ _) (by omega) (by omega),h1,zch _ _,by omega⟩
end Go.Proofs.YtkofnbjjbcohgaaGreatDoor
