import Derived.Maps.Keyed
import Derived.Carry
import Derived.WideKeyRuns
import Derived.Laws.Tables
import Derived.Test.YtkofnbjjbcohgaaGreatDoorZw0
import Derived.Deep.CutRange
/- Lemmas. -/
namespace Go.Proofs.YtkofnbjjbcohgaaGreatDoor
set_option linter.unusedVariables false
set_option linter.unusedSimpArgs false
open Go.RowKit
def Pairs (w:World) (v:Value) (NV:List (Value × Value)):Prop :=
  ∃ a c, v = .slice a NV.length c ∧ NV.length ≤ c ∧ c ≤ 9223372036854775807 ∧
    ∀ (j:Nat) (x:Value × Value),NV[j]?=some x→∃ b off,a=some ⟨b,off,none⟩∧w.cell? ⟨b,off + j * 2,none⟩=some x.1∧w.cell? ⟨b,off + j * 2 + 1,none⟩=some x.2
section
variable {w w':World}{v:Value}{NV:List (Value × Value)}
theorem Pairs.fr {M:Nat→Prop}(h:Pairs w v NV)(hf:Fr M w w')(hm:∀b,v.ownBlock=some b→¬M b):Pairs w' v NV:=by
 obtain⟨a,c,rfl,h1,h2,h3⟩:=h;refine⟨a,c,rfl,h1,h2,fun j x hx=>?_⟩;obtain⟨b,off,rfl,c1,c2⟩:=h3 j x hx;exact⟨b,off,rfl,hf.cell c1 (hm b rfl),hf.cell c2 (hm b rfl)⟩
theorem Pairs.fr0 (h:Pairs w v NV)(hf:Fr NoM w w'):Pairs w' v NV:=h.fr hf fun _ _ q=>q
theorem Pairs.of_owns {base:Nat}{e:TypeId}{n:Nat}(h:w.ownsRow base e 2 v n (zay NV)):Pairs w v NV:=by
 have hn:n=NV.length:=by have:=h.1;rw[zen]at this;omega
 subst hn;rcases h.2 with ⟨rfl,h0⟩|⟨g,cap,cur,rfl,hb,hg,hnc,hcm,hs,ht⟩
 ·have:NV=[]:=List.eq_nil_of_length_eq_zero h0
  subst this;exact⟨none,0,rfl,Nat.le_refl _,by decide,by simp⟩
 ·refine⟨_,cap,rfl,hnc,by simpa [maxLen] using hcm,fun j x hx=>⟨g,0,rfl,?_⟩⟩
  have hj:j<NV.length:=(List.getElem?_eq_some_iff.1 hx).1;obtain⟨f1,f2⟩:=zi1 NV j x hx;have key:∀i u,i<NV.length*2→(zay NV)[i]?=some u→w.cell? ⟨g,0+i,none⟩=some u:=fun i u hi hu=>by
   rw[Nat.zero_add,cell_of_row w g i cur _ _ hg];rw[←ht,List.getElem?_take,if_pos hi]at hu;simpa using hu
  exact⟨key _ _ (by omega) f1,by rw[Nat.add_assoc];exact key _ _ (by omega) f2⟩
theorem zyq {P:Program}(h:Pairs w v NV)(t:TypeId)(e:TypeId)(z:Value)(bytes:Nat)(ht:P.underlying t=some (.slice e))
  (hi:(P.info? e).map (fun i=>(i.zero,i.size,i.bytes))=some (some z,2,bytes)) (k:Nat) (hk:k≤NV.length) :
  ∃v',(∀W,(Instr.slice t v none (some (.int .i64 (k:Int))) none).run P W=.ok v' W)/\Pairs w v' (NV.take k)/\v'.ownBlock=v.ownBlock:=by
 obtain⟨i0,hi,hz0,hz1,hz2⟩:=info_parts hi;obtain⟨a,c,rfl,hac,hcm,hcell⟩:=h;have hlen:(NV.take k).length=k:=by simp;omega
 refine⟨.slice a k c,fun W=>?_,⟨a,c,by rw[hlen],by omega,hcm,fun j x hx=>?_⟩,?_⟩
 ·have hkc:k≤c:=by omega
  cases a with
  | none=>simp[Instr.slice,run_underlying ht,Instr.sliceBounds,Instr.sliceBound,asIntOf,sizeOf,typeInfo,hi,hkc]
  | some ad=>simp[Instr.slice,run_underlying ht,Instr.sliceBounds,Instr.sliceBound,asIntOf,sizeOf,typeInfo,hi,hkc,Addr.add]
 ·rw[List.getElem?_take]at hx
  split at hx
  ·exact hcell j x hx
  ·cases hx
 ·cases a <;> rfl
theorem zuu {P:Program}(h:Pairs w v NV)(t:TypeId)(e:TypeId)(z:Value)(bytes:Nat)(ht:P.underlying t=some (.slice e))
  (hi:(P.info? e).map (fun i=>(i.zero,i.size,i.bytes))=some (some z,2,bytes)) (k:Nat) (hk:k≤NV.length) :
  ∃v',(∀W,(Instr.slice t v (some (.int .i64 (k:Int))) none none).run P W=.ok v' W)/\Pairs w v' (NV.drop k)/\v'.ownBlock=v.ownBlock:=by
 obtain⟨i0,hi,hz0,hz1,hz2⟩:=info_parts hi;obtain⟨a,c,rfl,hac,hcm,hcell⟩:=h;have hlen:(NV.drop k).length=NV.length-k:=by simp
 refine⟨.slice (if c=k then a else a.map (·.add (k*2))) (NV.length-k) (c-k),fun W=>?_,⟨_,c-k,by rw[hlen],by omega,by omega,fun j x hx=>?_⟩,?_⟩
 ·have hkl:k≤NV.length:=hk
  simp[Instr.slice,run_underlying ht,Instr.sliceBounds,Instr.sliceBound,asIntOf,sizeOf,typeInfo,hi,hz1,hkl]
 ·rw[List.getElem?_drop]at hx
  obtain⟨b,off,rfl,c1,c2⟩:=hcell (k+j) x hx;have hlt:=(List.getElem?_eq_some_iff.1 hx).1;rw[if_neg (by omega)];refine⟨b,off+k*2,?_,by rw[show off+k*2+j*2=off+(k+j)*2 from by omega];exact c1,by rw[show off+k*2+j*2+1=off+(k+j)*2+1 from by omega];exact c2⟩;by_cases hk0:k=0
  ·subst hk0;simp[Addr.add]
  ·simp[Addr.add,hk0];omega
 ·split
  ·cases a <;> rfl
  ·cases a with
   | none=>rfl
   | some ad=>simp[Value.ownBlock,Addr.add];split <;> rfl
end
theorem zvr (NV:List (Value × Value))(j:Nat)(u:Value)(h:(zay NV)[j]?=some u):∃x,NV[j/2]?=some x/\((j%2=0/\u=x.1)∨(j%2=1/\u=x.2)):=by
 have hj:j<NV.length*2:=by have:=(List.getElem?_eq_some_iff.1 h).1;rwa [zen]at this
 have hx:=List.getElem?_eq_getElem (l:=NV) (i:=j/2) (by omega)
 obtain⟨f1,f2⟩:=zi1 NV (j/2) _ hx;refine⟨_,hx,?_⟩;rcases Nat.mod_two_eq_zero_or_one j with h0|h0
 ·rw[show j/2*2=j from by omega,h]at f1;cases f1;exact .inl ⟨h0,rfl⟩
 ·rw[show j/2*2+1=j from by omega,h]at f2;cases f2;exact .inr ⟨h0,rfl⟩
theorem zee {P:Program} (w:World) (t ty:TypeId) (base:Nat) (e:TypeId) (z:Value) (bytes:Nat) (ht:P.underlying t=some (.slice e))
    (hi:(P.info? e).map (fun i=>(i.zero,i.size,i.bytes))=some (some z,2,bytes)) (hz:z.cells.size=2) (v:Value) (XV:List (Value × Value)) (hown:w.ownsRow base e 2 v XV.length (zay XV))
    (xv:Value) (NV:List (Value × Value)) (hsrc:Pairs w xv NV) (h1:∀ x∈NV,x.1.oneCell'=true∧x.2.oneCell'=true) (hn:(XV.length + NV.length) * bytes≤140737488355328) (hb1:0 < bytes) (hb:base≤w.heap.size) :
    ∃ v' w', (Builtin.append_ #[t, t] ty #[v, xv]).run P w = .ok v' w' ∧ w'.ownsRow base e 2 v' (XV ++ NV).length (zay (XV ++ NV)) ∧ Fr (Own1 v) w w' ∧
      (v'.ownBlock=v.ownBlock∨∃ b,v'.ownBlock=some b∧w.heap.size≤b):=by
  obtain ⟨i0,hi,hz0,hz1,hz2⟩:=info_parts hi;obtain ⟨a,c,rfl,hac,hcm,hcell⟩:=hsrc;have hnn:XV.length + NV.length≤140737488355328:=Nat.le_trans (by have:=Nat.mul_le_mul_left (XV.length + NV.length) hb1;omega) hn;have hfl:zay (XV ++ NV)=zay XV ++ zay NV:=by simp [zay]
  rw [hfl,List.length_append];by_cases hL:NV=[]
  · subst hL
    refine ⟨v,w,?_,by simpa [zay] using hown,Fr.refl _ _,.inl rfl⟩;rcases hown.2 with ⟨rfl,h0⟩ | ⟨g,cap,cur,rfl,hbg,hg,hnc,hcm',hcs,htake⟩
    · have : XV = [] := List.eq_nil_of_length_eq_zero h0
      subst this
      cases a with
      | none=>simp [Builtin.append_,run_underlying ht,sizeOf,typeInfo,hi,Builtin.lenOf,Builtin.firstCells]
      | some a=>simp [Builtin.append_,run_underlying ht,sizeOf,typeInfo,hi,Builtin.lenOf,Builtin.firstCells,loadCells,loadCellsFrom]
    · cases a with
      | none=>simp [Builtin.append_,run_underlying ht,sizeOf,typeInfo,hi,Builtin.lenOf,Builtin.firstCells,hnc,storeCells]
      | some a=>simp [Builtin.append_,run_underlying ht,sizeOf,typeInfo,hi,Builtin.lenOf,Builtin.firstCells,loadCells,loadCellsFrom,hnc,storeCells]
  · obtain ⟨x, hx⟩ : ∃ x, NV[0]? = some x := by cases NV with | nil => exact absurd rfl hL | cons x l => exact ⟨x, rfl⟩
    obtain ⟨b,off,rfl,_⟩:=hcell 0 x hx;have hnews:∀ (j:Nat) (u:Value),(zay NV)[j]?=some u→w.cell? ((⟨b,off,none⟩:Addr).add j)=some u:=by
      intro j u hj;have hadd:(⟨b,off,none⟩:Addr).add j=⟨b,off + j,none⟩:=by unfold Addr.add;split <;> simp_all
      rw [hadd];obtain ⟨y,hy,hd⟩:=zvr NV j u hj;obtain ⟨b',off',he,c1,c2⟩:=hcell _ y hy;cases he
      rcases hd with ⟨h0,rfl⟩ | ⟨h0,rfl⟩
      · rw [show off + j / 2 * 2=off + j from by omega] at c1;exact c1
      · rw [show off + j / 2 * 2 + 1=off + j from by omega] at c2;exact c2
    have hone:∀ u∈zay NV,u.oneCell'=true:=by
      intro u hu;obtain ⟨y,hy,hu⟩:=List.mem_flatMap.1 hu;obtain ⟨p,q⟩:=h1 y hy;simp at hu;rcases hu with rfl | rfl
      · exact p
      · exact q
    obtain ⟨v',w',hr,h2,h3,h4,h5⟩:=run_append_own_at (P:=P) w base t ty e i0 z 2 bytes ht hi hz0 hz1 hz2 hz (by decide) v XV.length (zay XV) hown ⟨b,off,none⟩ NV.length c (zay NV) (zen NV) hnews hone (by unfold maxLen;omega) hn hb;refine ⟨v',w',hr,h2,(Fr.refl (Own1 v) w).grown h3 (fun k hk _=>hk),?_⟩;rcases h5 with h5 | h5
    · exact .inl h5
    · exact .inr ⟨_,h5,Nat.le_refl _⟩
theorem zes {P:Program}{w:World}{ops:Array Oper}{o:Oper}{a:Act}{K:Act→World→Prop}{Q:Exit→Act→World→Prop}{E:Prop}(w0:World)(F:Fr NoM w0 w)(hg:o.guard=none)(s x:Operand)(t:TypeId)
  (hop:o.op=Op.call { callee:=Callee.builtin Builtin.append,args:=#[s,x],argTypes:=#[t,t] }) (e:TypeId) (z:Value) (bytes:Nat) (ht:P.underlying t=some (.slice e))
  (hi:(P.info? e).map (fun i=>(i.zero,i.size,i.bytes))=some (some z,2,bytes)) (hz:z.cells.size=2) (v:Value) (XV:List (Value × Value)) (hs:a.eval s=v) (hown:w.ownsRow w0.heap.size e 2 v XV.length (zay XV))
  (xv:Value) (hx:a.eval x=xv) (NV:List (Value × Value)) (hsrc:Pairs w xv NV) (h1:∀x∈NV,x.1.oneCell'=true/\x.2.oneCell'=true) (hn:(XV.length+NV.length)*bytes≤140737488355328) (hb1:0<bytes)
  (hK:∀(v':Value) (w':World),w'.ownsRow w0.heap.size e 2 v' (XV++NV).length (zay (XV++NV))→Fr NoM w0 w'→K (a.put o.dst v') w') :
  if Region.wanted o (yielded ops a.tmps)=true then Oper.wp P o a w K Q else E:=by
 have hw:Region.wanted o (yielded ops a.tmps)=true:=by simp[Region.wanted,hg]
 rw[if_pos hw];obtain⟨v',w',hr,h2,h3,h4⟩:=zee (P:=P) w t o.type w0.heap.size e z bytes ht hi hz v XV hown xv NV hsrc h1 hn hb1 F.size;unfold Oper.wp execOp;simp only[hop,resolve,invoke,builtin,Sem.run_bind,Sem.run_pure,Result.andThen_ok,List.map_toArray,List.map_cons,List.map_nil,hs,hx,hr];exact hK v' w' h2 (F.own hown h3)
theorem Pairs.one (w:World)(x:Value × Value)(e:TypeId):Pairs (w.alloc (.cells #[x.1,x.2] e)) (.slice (some ⟨w.heap.size,0,none⟩) 1 1) [x] :=
 ⟨_,1,rfl,by simp,by decide,fun j y hy=>⟨w.heap.size,0,rfl,by
  rcases j with _|j
  ·simp at hy;subst hy
   exact⟨by rw[World.cell?_alloc_at _ _ _ _ rfl];rfl,by rw[World.cell?_alloc_at _ _ _ _ rfl];rfl⟩
  ·simp at hy⟩⟩
theorem zhf {P:Program}{w:World}{ops:Array Oper}{o:Oper}{a:Act}{K:Act→World→Prop}{Q:Exit→Act→World→Prop}{E:Prop}(hg:o.guard=none)(s x:Operand)(t:TypeId)
  (hop:o.op=Op.call { callee:=Callee.builtin Builtin.append,args:=#[s,x],argTypes:=#[t,t] }) (base:Nat) (e:TypeId) (z:Value) (size bytes:Nat) (ht:P.underlying t=some (.slice e))
  (hi:(P.info? e).map (fun i=>(i.zero,i.size,i.bytes))=some (some z,size,bytes)) (hz:z.cells.size=size) (hs0:0<size) (v:Value) (n:Nat) (xs:List Value) (hs:a.eval s=v) (hown:w.ownsRow base e size v n xs)
  (b:Nat) (hx:a.eval x=.slice (some ⟨b,0,none⟩) 1 1) (news:List Value) (e':TypeId) (hb':w.heap[b]?=some (.cells news.toArray e' (0,0))) (hl:news.length=size) (h1:∀u∈news,u.oneCell'=true) (hn:(n+1)*bytes≤140737488355328) (hb1:0<bytes) (hb:base≤w.heap.size)
  (hK:∀(v':Value) (w':World),w'.ownsRow base e size v' (n+1) (xs++news)→Fr (Own1 v) w w'→(v'.ownBlock=v.ownBlock∨∃b,v'.ownBlock=some b/\w.heap.size≤b)→K (a.put o.dst v') w') :
  if Region.wanted o (yielded ops a.tmps)=true then Oper.wp P o a w K Q else E:=by
 have hw:Region.wanted o (yielded ops a.tmps)=true:=by simp[Region.wanted,hg]
 rw[if_pos hw];obtain⟨i0,hi,hz0,hz1,hz2⟩:=info_parts hi;have hnn:n+1≤140737488355328:=Nat.le_trans (by have:=Nat.mul_le_mul_left (n+1) hb1;omega) hn;have hnews:∀(j:Nat) (u:Value),news[j]?=some u→w.cell? ((⟨b,0,none⟩:Addr).add j)=some u:=by
  intro j u hj;have hadd:(⟨b,0,none⟩:Addr).add j=⟨b,0+j,none⟩:=by unfold Addr.add;split <;> simp_all
  rw[hadd,Nat.zero_add,cell_of_row w b j _ _ _ hb'];simpa using hj
 obtain⟨v',w',hr,h2,h3,_,h5⟩:=run_append_own_at (P:=P) w base t o.type e i0 z size bytes ht hi hz0 hz1 hz2 hz hs0 v n xs hown ⟨b,0,none⟩ 1 1 news (by omega) hnews h1 (by unfold maxLen;omega) hn hb;unfold Oper.wp execOp;simp only[hop,resolve,invoke,builtin,Sem.run_bind,Sem.run_pure,Result.andThen_ok,List.map_toArray,List.map_cons,List.map_nil,hs,hx,hr];refine hK v' w' h2 ((Fr.refl (Own1 v) w).grown h3 (fun k hk _=>hk)) ?_
 rcases h5 with h5|h5
 ·exact .inl h5
 ·exact .inr ⟨_,h5,Nat.le_refl _⟩
theorem zh9 {P:Program}{w:World}{ops:Array Oper}{rest:List Oper}{o:Oper}{a:Act}{Q:Exit→Act→World→Prop}(hg:o.guard=none)(s x:Operand)(t:TypeId)
  (hop:o.op=Op.call { callee:=Callee.builtin Builtin.append,args:=#[s,x],argTypes:=#[t,t] }) (base:Nat) (e:TypeId) (z:Value) (size bytes:Nat) (ht:P.underlying t=some (.slice e))
  (hi:(P.info? e).map (fun i=>(i.zero,i.size,i.bytes))=some (some z,size,bytes)) (hz:z.cells.size=size) (hs0:0<size) (v:Value) (n:Nat) (xs:List Value) (hs:a.eval s=v) (hown:w.ownsRow base e size v n xs)
  (b:Nat) (hx:a.eval x=.slice (some ⟨b,0,none⟩) 1 1) (news:List Value) (e':TypeId) (hb':w.heap[b]?=some (.cells news.toArray e' (0,0))) (hl:news.length=size) (h1:∀u∈news,u.oneCell'=true) (hn:(n+1)*bytes≤140737488355328) (hb1:0<bytes) (hb:base≤w.heap.size)
  (hK:∀(v':Value) (w':World),w'.ownsRow base e size v' (n+1) (xs++news)→Fr (Own1 v) w w'→(v'.ownBlock=v.ownBlock∨∃b,v'.ownBlock=some b/\w.heap.size≤b)→wpList P ops Q rest (a.put o.dst v') w') :
  wpList P ops Q (o::rest) a w:=by
 refine wpList_plain hg fun K' hK'=>?_
 obtain⟨i0,hi,hz0,hz1,hz2⟩:=info_parts hi;have hnn:n+1≤140737488355328:=Nat.le_trans (by have:=Nat.mul_le_mul_left (n+1) hb1;omega) hn;have hnews:∀(j:Nat) (u:Value),news[j]?=some u→w.cell? ((⟨b,0,none⟩:Addr).add j)=some u:=by
  intro j u hj;have hadd:(⟨b,0,none⟩:Addr).add j=⟨b,0+j,none⟩:=by unfold Addr.add;split <;> simp_all
  rw[hadd,Nat.zero_add,cell_of_row w b j _ _ _ hb'];simpa using hj
 obtain⟨v',w',hr,h2,h3,_,h5⟩:=run_append_own_at (P:=P) w base t o.type e i0 z size bytes ht hi hz0 hz1 hz2 hz hs0 v n xs hown ⟨b,0,none⟩ 1 1 news (by omega) hnews h1 (by unfold maxLen;omega) hn hb;unfold Oper.wp execOp;simp only[hop,resolve,invoke,builtin,Sem.run_bind,Sem.run_pure,Result.andThen_ok,List.map_toArray,List.map_cons,List.map_nil,hs,hx,hr];refine hK' _ _ (hK v' w' h2 ((Fr.refl (Own1 v) w).grown h3 (fun k hk _=>hk)) ?_);rcases h5 with h5|h5
 ·exact .inl h5
 ·exact .inr ⟨_,h5,Nat.le_refl _⟩
structure KeyAt {κ:Type}(P:Program) (kt:TypeId) (ek:κ→Value):Prop where
 inj:∀ {a b:κ},ek a=ek b→a=b
 check:∀(w:World) (em:Bool) (k:κ),(Instr.checkKey em 10000 kt (ek k)).run P w=.ok () w
 find:∀(w:World) (k:κ) (es:List MapEntry),(∀e∈es,∃k',e.key=ek k') →
  ((Instr.findKey kt (ek k) es).run P w=.ok none w/\∀e∈es,e.key≠ek k)∨∃j e,(Instr.findKey kt (ek k) es).run P w=.ok (some (j,e.val)) w/\es[j]?=some e/\e.key=ek k
 stays:∀(w:World) (k:κ),(Instr.keyThatStays (ek k) (ek k)).run P w=.ok (ek k) w
theorem KeyAt.plain {κ:Type}{P:Program}{kt:TypeId}{d:TypeDesc}{ek:κ→Value}(hd:P.underlying kt=some d)(hk:∀k,MapKept.IsKey d (ek k))(hi:∀ {a b:κ},ek a=ek b→a=b):KeyAt P kt ek where
 inj:=hi
 check w em k:=MapKept.run_checkKey hd (hk k) em 9999
 find w k es he:=by
  rcases MapKept.findNow_spec (hk k) es 0 (fun x hx=>by obtain⟨k',e⟩:=he x hx;rw[e];exact hk k')with ⟨h1,h2⟩|⟨j,e,h1,h2,h3⟩
  ·exact .inl ⟨MapKept.run_findKey hd h1,h2⟩
  ·exact .inr ⟨j,e,by rw[Nat.zero_add]at h1;exact MapKept.run_findKey hd h1,h2,h3⟩
 stays w k:=MapKept.run_keyThatStays (hk k)
theorem zpc {a b:Nat}(h:encN a=encN b):a=b:=by
 unfold encN at h;simp only[Value.int.injEq,true_and]at h;omega
theorem KeyAt.nat {P:Program}{kt:TypeId}(hd:P.underlying kt=some (.int .i64)):KeyAt P kt encN:=.plain hd (fun _=>by simp[encN,MapKept.IsKey]) zpc
def MapF {κ α:Type}(ek:κ→Value)(ev:α→Value)(w:World)(b:Nat)(f:κ→Option α):Prop :=
 ∃es clock,w.heap[b]?=some (.map es clock)/\(es.toList.map (·.key)).Nodup/\(∀e∈es.toList,∃k a,e.key=ek k/\e.val=ev a/\f k=some a)/\∀k a,f k=some a→∃e∈es.toList,e.key=ek k
def upd {κ α:Type}[DecidableEq κ](f:κ→Option α)(k:κ)(a:α):κ→Option α:=fun x=>if x=k then some a else f x
section
variable {κ α:Type}{ek:κ→Value}{ev:α→Value}{w w':World}{b:Nat}{f:κ→Option α}
theorem MapF.fr {M:Nat→Prop}(h:MapF ek ev w b f)(hf:Fr M w w')(hb:¬M b):MapF ek ev w' b f:=by
 obtain⟨es,clock,h0,h1⟩:=h;exact⟨es,clock,hf.heap h0 hb,h1⟩
theorem MapF.lt (h:MapF ek ev w b f):b<w.heap.size:=by
 obtain⟨es,clock,h0,_⟩:=h;exact(Array.getElem?_eq_some_iff.1 h0).1
theorem MapF.made (ek:κ→Value)(ev:α→Value)(w:World):MapF ek ev (w.alloc (.map #[] 0)) w.heap.size (fun _=>none) :=
 ⟨#[],0,heap_alloc_new w _,by simp,by simp,by simp⟩
theorem MapF.look {P:Program}{kt et t:TypeId}{z:Value}(h:MapF ek ev w b f)(K:KeyAt P kt ek)(ht:P.underlying t=some (.map kt et))(hz:(zeroValue et).run P w=.ok z w)(k:κ)(c:Bool) :
  (Instr.lookup t (.map (some b)) (ek k) c).run P w=.ok (if c then .tuple #[((f k).map ev).getD z,.bool (f k).isSome]else ((f k).map ev).getD z) w:=by
 obtain⟨es,clock,hb,hn,h1,h2⟩:=h;rcases K.find w k es.toList (fun e he=>by obtain⟨k',_,e1,_⟩:=h1 e he;exact⟨k',e1⟩)with ⟨r,h3⟩|⟨j,e,r,h3,h4⟩
 ·have hf:f k=none:=by
   cases hfk:f k with
   | none=>rfl
   | some a=>obtain⟨e,he,e1⟩:=h2 k a hfk;exact absurd e1 (h3 e he)
  simp[Instr.lookup,run_underlying ht,MapKept.run_getObj_map hb,K.check w _ k,r,hz,Result.andThen,hf]
 ·obtain⟨k',a,e1,e2,e3⟩:=h1 e (List.mem_of_getElem? h3)
  have:k'=k:=K.inj (e1.symm.trans h4);subst this
  simp[Instr.lookup,run_underlying ht,MapKept.run_getObj_map hb,K.check w _ k',r,Result.andThen,e2,e3]
theorem zmm {r:Nat}{es:Array MapEntry}{clock:Nat}(o:Obj)(w:World):Fr (fun k=>k=r) w { w with heap:=w.heap.setIfInBounds r o } :=
 ⟨rfl,rfl,rfl,by simp,fun k _ hk=>by simp[Array.getElem?_setIfInBounds,Ne.symm hk]⟩
theorem MapF.store [DecidableEq κ]{P:Program}{kt et t:TypeId}(h:MapF ek ev w b f)(K:KeyAt P kt ek)(ht:P.underlying t=some (.map kt et))(k:κ)(a:α) :
  ∃w',(Instr.mapUpdate t (.map (some b)) (ek k) (ev a)).run P w=.ok () w'∧MapF ek ev w' b (upd f k a)/\Fr (fun q=>q=b) w w':=by
 obtain⟨es,clock,hb,hn,h1,h2⟩:=h;have hlt:b<w.heap.size:=(Array.getElem?_eq_some_iff.1 hb).1;have hupd:∀(e:MapEntry),e∈es.toList→e.key≠ek k→∃k' a',e.key=ek k'∧e.val=ev a'∧upd f k a k'=some a':=by
  intro e he hne;obtain⟨k',a',e1,e2,e3⟩:=h1 e he;refine⟨k',a',e1,e2,?_⟩;unfold upd;rw[if_neg (fun q=>hne (by rw[e1,q])),e3]
 rcases K.find w k es.toList (fun e he=>by obtain⟨k',_,e1,_⟩:=h1 e he;exact⟨k',e1⟩)with ⟨r,h3⟩|⟨j,e,r,h3,h4⟩
 ·refine⟨_,by simp[Instr.mapUpdate,run_underlying ht,MapKept.run_getObj_map hb,K.check w _ k,r,MapKept.run_setObj_map _ hb,Result.andThen];rfl,⟨_,_,(MapKept.heap_set hb).1,?_,?_,?_⟩,zmm (es:=es) (clock:=clock) _ w⟩
  ·rw[Array.toList_push,List.map_append,List.map_singleton,List.nodup_append]
   refine⟨hn,by simp,fun x hx y hy=>?_⟩;obtain⟨e,he,rfl⟩:=List.mem_map.1 hx;simp at hy;rw[hy];exact h3 e he
  ·intro e he
   rw[Array.toList_push,List.mem_append,List.mem_singleton]at he;rcases he with he|rfl
   ·exact hupd e he (h3 e he)
   ·exact⟨k,a,rfl,rfl,by simp[upd]⟩
  ·intro k' a' hk'
   rw[Array.toList_push];unfold upd at hk';split at hk'
   ·subst_vars;exact⟨_,List.mem_append_right _ (List.mem_singleton.2 rfl),rfl⟩
   ·obtain⟨e,he,e1⟩:=h2 k' a' hk'
    exact⟨e,List.mem_append_left _ he,e1⟩
 ·obtain⟨k',a',e1,e2,e3⟩:=h1 e (List.mem_of_getElem? h3)
  have h3':es[j]?=some e:=by simpa using h3
  have hj:j<es.size:=(Array.getElem?_eq_some_iff.1 h3').1;have hkey:((es[j]?).map (·.key)).getD (ek k)=ek k:=by rw[h3'];exact h4
  refine⟨_,by simp[Instr.mapUpdate,run_underlying ht,MapKept.run_getObj_map hb,K.check w _ k,r,hkey,K.stays w k,MapKept.run_setObj_map _ hb,Result.andThen];rfl,⟨_,_,(MapKept.heap_set hb).1,?_,?_,?_⟩,zmm (es:=es) (clock:=clock) _ w⟩
  ·rw[MapKept.modify_keys j _ (fun e' he'=>by rw[h3']at he';cases he';exact h4.symm)]
   exact hn
  ·intro x hx
   obtain⟨i,hi,rfl⟩:=List.getElem_of_mem hx;simp only[Array.length_toList,Array.size_modify]at hi;simp only[Array.getElem_toList,Array.getElem_modify];split
   ·exact⟨k,a,rfl,rfl,by simp[upd]⟩
   ·rename_i hij
    refine hupd _ (by simp) (fun hk=>hij ?_);have hjl:j<(es.toList.map (·.key)).length:=by simpa using hj
    have hil:i<(es.toList.map (·.key)).length:=by simpa using hi
    refine(List.getElem_inj (h₀:=hjl) (h₁:=hil) hn).1 ?_
    simp only[List.getElem_map,Array.getElem_toList];rw[hk,←h4];rw[Array.getElem?_eq_getElem hj]at h3';cases h3';rfl
  ·intro k2 a2 hk2
   have hkeys:=MapKept.modify_keys (es:=es) j (fun e=>{ e with key:=ek k,val:=ev a }) (fun e' he'=>by rw[h3']at he';cases he';exact h4.symm);unfold upd at hk2;have:∃e∈es.toList,e.key=ek k2:=by
    split at hk2
    ·subst_vars;exact⟨e,List.mem_of_getElem? h3,h4⟩
    ·exact h2 k2 a2 hk2
   obtain⟨e',he',e1'⟩:=this
   have hm:ek k2∈(es.modify j fun e=>{ e with key:=ek k,val:=ev a }).toList.map (·.key):=by rw[hkeys];exact List.mem_map.2 ⟨e',he',e1'⟩
   obtain⟨x,hx,hx'⟩:=List.mem_map.1 hm;exact⟨x,hx,hx'⟩
end
def encP (x:Nat × Nat):Value:=.agg #[.int .i64 (x.1:Int),.int .i64 (x.2:Int)]
theorem zpb {a b:Nat × Nat}(h:encP a=encP b):a=b:=by
 unfold encP at h;simp only[Value.agg.injEq,Array.mk.injEq,List.cons.injEq,Value.int.injEq,true_and,and_true]at h;exact Prod.ext (by omega) (by omega)
theorem zrh (a b:Int)(w:World):(Instr.build 125 #[(0,.int .i64 a),(1,.int .i64 b)]).run Tryz.prog w=.ok (.agg #[.int .i64 a,.int .i64 b]) w:=run_build w 125 _ _ (by kernel_rfl)
theorem zy7 (a b c d:Int)(w:World):(Op.equal 125 (.agg #[.int .i64 a,.int .i64 b]) (.agg #[.int .i64 c,.int .i64 d])).run Tryz.prog w=.ok (a == c && b == d) w:=by
 have u3:=Tryz.underlying3;show(Op.equalIn (9999+1) 125 _ _).run Tryz.prog w=_
 rw[Op.equalIn];simp only[Sem.run_bind,run_underlying Tryz.underlying125,Result.andThen_ok];simp only[Std.Legacy.Range.forIn_eq_forIn_range',Std.Legacy.Range.size,Nat.sub_zero,Nat.add_sub_cancel,Nat.div_one,List.range'_succ,List.range'_zero,List.forIn_cons,List.forIn_nil];go_simp;by_cases h1:a=c <;> by_cases h2:b=d <;> simp[h1,h2]
theorem zy8 (a b:Nat × Nat)(w:World):(Op.equal 125 (encP a) (encP b)).run Tryz.prog w=.ok (decide (a=b)) w:=by
 unfold encP;rw[zy7];have:(((a.1:Int) == (b.1:Int)) && ((a.2:Int) == (b.2:Int)))=decide (a=b):=by
  rw[Bool.eq_iff_iff,Bool.and_eq_true,beq_iff_eq,beq_iff_eq,decide_eq_true_eq];constructor
  ·rintro⟨h1,h2⟩;exact Prod.ext (by omega) (by omega)
  ·rintro rfl;exact⟨rfl,rfl⟩
 rw[this]
theorem zrg (em:Bool)(x:Nat × Nat)(w:World):(Instr.checkKey em 10000 125 (encP x)).run Tryz.prog w=.ok () w:=by
 have u3:=Tryz.underlying3;unfold encP;show(Instr.checkKey em (9999+1) 125 _).run Tryz.prog w=_
 rw[Instr.checkKey];simp only[Sem.run_bind,run_underlying Tryz.underlying125,Result.andThen_ok];simp only[Std.Legacy.Range.forIn_eq_forIn_range',Std.Legacy.Range.size,Nat.sub_zero,Nat.add_sub_cancel,Nat.div_one,List.range'_succ,List.range'_zero,List.forIn_cons,List.forIn_nil];have hc:∀n (w:World),(Instr.checkKey em 9999 3 (.int .i64 n)).run Tryz.prog w=.ok () w:=fun n w=>by
  show(Instr.checkKey em (9998+1) 3 _).run Tryz.prog w=_
  rw[Instr.checkKey];simp[run_underlying u3]
 go_simp
theorem ztf (w:World)(k:Nat × Nat):∀(es:List MapEntry) (i:Nat),(∀e∈es,∃k',e.key=encP k') →
  ((Instr.findAsking 125 (encP k) es i).run Tryz.prog w=.ok none w/\∀e∈es,e.key≠encP k)∨∃j e,(Instr.findAsking 125 (encP k) es i).run Tryz.prog w=.ok (some (i+j,e.val)) w/\es[j]?=some e/\e.key=encP k:=by
 intro es;induction es with
 | nil=>intro i _;exact .inl ⟨by simp[Instr.findAsking],by simp⟩
 | cons e l ih =>
  intro i h;obtain⟨k',hk'⟩:=h e List.mem_cons_self;have hq:=zy8 k k' w;rw[←hk']at hq;by_cases hkk:k=k'
  ·subst hkk
   rw[decide_eq_true rfl]at hq;exact .inr ⟨0,e,by rw[Instr.findAsking];simp[hq],rfl,hk'⟩
  ·rw[decide_eq_false hkk]at hq
   have hne:e.key≠encP k:=fun q=>hkk (zpb (q.symm.trans hk'))
   rcases ih (i+1) (fun x hx=>h x (List.mem_cons_of_mem _ hx))with ⟨h1,h2⟩|⟨j,e',h1,h2,h3⟩
   ·refine .inl ⟨by rw[Instr.findAsking];simp[hq,h1],fun x hx=>?_⟩
    rcases List.mem_cons.1 hx with rfl|hx
    ·exact hne
    ·exact h2 x hx
   ·exact .inr ⟨j+1,e',by rw[Instr.findAsking];simp[hq,h1];omega,h2,h3⟩
theorem zka:KeyAt Tryz.prog 125 encP where
 inj:=zpb
 check w em k:=zrg em k w
 find w k es he:=by
  rw[run_findKey_eq w (by kernel_rfl) (encP k) es];rcases ztf w k es 0 he with h|⟨j,e,h1,h2,h3⟩
  ·exact .inl h
  ·rw[Nat.zero_add]at h1
   exact .inr ⟨j,e,h1,h2,h3⟩
 stays w k:=by
  have hs:Instr.sameBits 10000 (encP k) (encP k)=true:=by
   show Instr.sameBits (9999+1) (encP k) (encP k)=true
   unfold encP;simp[Instr.sameBits]
  simp[Instr.keyThatStays,hs]
set_option maxHeartbeats 1000000 in
theorem zr5 (w:World):Calls Tryz.prog 18 #[] w fun e w'=>∃v',e=.returned (.agg #[v'])/\NodeL (fun b=>w.heap.size≤b) encN w' v' [([],[])]/\Fr NoM w w':=by
 obtain⟨w2,hw2⟩:∃w2,w2=(w.alloc (.cells #[.slice (some ⟨w.heap.size+1,0,none⟩) 1 1] 27)).alloc (.cells #[.slice none 0 0,.slice none 0 0] 55):=⟨_,rfl⟩;have hf2:Fr NoM w w2:=by rw[hw2];exact((Fr.refl NoM w).alloc _).alloc _
 have hb0:w2.heap[w.heap.size]?=some (.cells #[.slice (some ⟨w.heap.size+1,0,none⟩) 1 1] 27 (0,0)):=by
  rw[hw2];exact((Fr.refl NoM _).alloc _).heap (heap_alloc_new w _) (fun q=>q)
 have hb1:w2.heap[w.heap.size+1]?=some (.cells #[.slice none 0 0,.slice none 0 0] 55 (0,0)):=by
  have h:=heap_alloc_new (w.alloc (.cells #[.slice (some ⟨w.heap.size+1,0,none⟩) 1 1] 27)) (.cells #[.slice none 0 0,.slice none 0 0] 55);rw[World.size_alloc]at h;rw[hw2];exact h
 have k0:w2.cell? ⟨w.heap.size,0,none⟩=some (.slice (some ⟨w.heap.size+1,0,none⟩) 1 1):=by rw[cell_of_row w2 _ 0 _ _ _ hb0];rfl
 have HF2:=Hh hf2;have HB1:=Hh hb1;have HK:=Hh k0;clear hf2 hb0 hb1 k0;go_enter Tryz.func18,Tryz.ntmps18;go_upto_region 1 with fail;go_wp2_with fail;rw[←hw2];clear hw2;refine bodyPost_ret (v:=.agg #[.slice (some ⟨w.heap.size+1,0,none⟩) 1 1]) (by simp[results,Tryz.results18,go_sem,HK.out]) rfl ?_
 refine⟨_,rfl,?_,HF2.out⟩;refine⟨_,1,rfl,by simp,by decide,fun j y hy=>?_⟩;cases j with
 | zero =>
  have e:([],[])=y:=by simpa using hy
  subst e;exact⟨w.heap.size+1,0,.slice none 0 0,.slice none 0 0,rfl,Nat.le_succ _,by rw[cell_of_row w2 _ _ _ _ _ HB1.out];rfl,by rw[cell_of_row w2 _ _ _ _ _ HB1.out];rfl,SliceOf.nil _ _,SliceOf.nil _ _,fun h=>absurd rfl h,fun h=>absurd rfl h⟩
 | succ j=>simp at hy
end Go.Proofs.YtkofnbjjbcohgaaGreatDoor
