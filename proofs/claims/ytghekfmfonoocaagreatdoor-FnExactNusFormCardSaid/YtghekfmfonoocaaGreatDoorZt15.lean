import Derived.Test.YtghekfmfonoocaaGreatDoorZt1
/- Lemmas. -/
namespace Go.Proofs.YtghekfmfonoocaaGreatDoor
set_option linter.unusedVariables false
set_option linter.unusedSimpArgs false
open Go.RowKit
theorem zze:(Tryz.prog.info? 170).map (fun i=>(i.zero,i.size,i.bytes))=some (some (.agg #[.int .i64 0,.slice none 0 0,.slice none 0 0]),3,56):=by kernel_rfl
def zkb (A:List Nat)(x:Nat):Option Nat:=if x∈A then some (A.idxOf x)else none
theorem zv8 (A:List Nat)(x:Nat)(h:x ∉ A):upd (zkb A) x A.length=zkb (A ++ [x]):=by
 funext y
 unfold upd zkb;by_cases e:y=x
 ·subst e;simp[List.idxOf_append,h]
 ·by_cases hy:y∈A
  ·simp[e,hy,List.idxOf_append]
  ·simp[e,hy]
theorem zs0 {A L:List Nat}(h:∀x∈L,x∈A):zh3 (zkb A) L=L.map fun x=>A.idxOf x:=by
 unfold zh3;refine List.map_congr_left fun x hx=>?_
 unfold zkb;rw[if_pos (h x hx)];rfl
def RowB (w:World)(q:Nat):Prop:=∃cur:Array Value,w.heap[q]?=some (.cells cur 3 (0,0))
theorem RowB.fr {M:Nat→Prop}{w w':World}{q:Nat}(h:RowB w q)(hf:Fr M w w')(hm:¬M q):RowB w' q:=by
 obtain⟨cur,h⟩:=h;exact⟨cur,hf.heap h hm⟩
theorem RowB.of_owns {w:World}{base g n cap:Nat}{xs:List Value}(h:w.ownsRow base 3 1 (.slice (some ⟨g,0,none⟩) n cap) n xs):RowB w g:=by
 rcases h.2 with ⟨h0,_⟩|⟨g',cap',cur,hv,hb,hg,hnc,hcm,hs,ht⟩
 ·cases h0
 ·cases hv
  exact⟨cur,hg⟩
theorem zmc (v:Value)(L A:List Nat)(rb:Nat)(w:World)(hL:Nats w v L)(hR:MapF encN encN w rb (zkb A))(hA:∀x∈L,x∈A)(hu:L.Pairwise (· < ·))(hl:L.length<1000000000) :
  Calls Tryz.prog 149 #[v,.map (some rb)] w fun e w'=>∃g,e=.returned (.slice (some ⟨g,0,none⟩) L.length L.length)/\Nats w' (.slice (some ⟨g,0,none⟩) L.length L.length) (zez A L)/\w.heap.size≤g/\g<w'.heap.size/\Fr NoM w w'∧RowB w' g:=by
 refine(zv7 v L rb (zkb A) w hL hR hl).mono ?_
 rintro e w' ⟨g,rfl,h,f⟩;have hnd:(L.map fun x=>A.idxOf x).Nodup:=by
  refine List.nodup_iff_pairwise_ne.2 (List.pairwise_map.2 (hu.imp_of_mem fun {a b} ha hb hlt e=>?_));have h1:=(zgk (hA a ha)).2;have h2:=(zgk (hA b hb)).2;rw[e,h2]at h1;omega
 rw[zs0 hA,zrs _ hnd]at h;have hx:(ints (zaf (L.map fun x=>A.idxOf x))).map encI=(zez A L).map encN:=by simp[ints,encN,encI,Function.comp_def,zez]
 rw[hx]at h;exact⟨g,rfl,SliceOf.of_owns h rfl,(h.lt g rfl).1,(h.lt g rfl).2,f,RowB.of_owns h⟩
def zas (NV:List (Value × Value)):List Nat:=(zb8 NV).filterMap Value.ownBlock
theorem zdy (NV:List (Value × Value))(l r:Value):zas (NV ++ [(l,r)])=zas NV ++ [l,r].filterMap Value.ownBlock:=by simp[zas,zb8]
theorem zcp {NV:List (Value × Value)}{j:Nat}{x:Value × Value}(h:NV[j]?=some x):(∀q,x.1.ownBlock=some q→q∈zas NV)/\∀q,x.2.ownBlock=some q→q∈zas NV:=by
 have hx:=List.mem_of_getElem? h;constructor
 ·intro q hq;exact List.mem_filterMap.2 ⟨x.1,List.mem_flatMap.2 ⟨x,hx,by simp⟩,hq⟩
 ·intro q hq;exact List.mem_filterMap.2 ⟨x.2,List.mem_flatMap.2 ⟨x,hx,by simp⟩,hq⟩
theorem znq (l r:Value)(h:∀q,l.ownBlock=some q→r.ownBlock≠some q):([l,r].filterMap Value.ownBlock).Nodup:=by
 cases hl:l.ownBlock with
 | none=>cases hr:r.ownBlock <;> simp[List.filterMap_cons,hl,hr]
 | some a =>
  cases hr:r.ownBlock with
  | none=>simp[List.filterMap_cons,hl,hr]
  | some b =>
   have hne:a≠b:=fun e=>h a hl (by rw[hr,e])
   simp[List.filterMap_cons,hl,hr,hne]
theorem zgh {l r:Value}{q:Nat}(h:q∈[l,r].filterMap Value.ownBlock):l.ownBlock=some q∨r.ownBlock=some q:=by
 obtain⟨u,hu,hq⟩:=List.mem_filterMap.1 h;simp at hu;rcases hu with rfl|rfl
 ·exact .inl hq
 ·exact .inr hq
structure NodesN (D:Nat) (w:World) (v:Value) (FN:List PL) (NV:List (Value × Value)):Prop where
 row:w.ownsRow D 85 2 v NV.length (zb8 NV)
 len:NV.length=FN.length
 nats:∀(j:Nat) (x:Value × Value) (y:PL),NV[j]?=some x→FN[j]?=some y→Nats w x.1 y.1/\Nats w x.2 y.2
 blk:∀q∈zas NV,D≤q/\q<w.heap.size/\v.ownBlock≠some q
 sep:(zas NV).Nodup
 thaw:∀q∈zas NV,RowB w q
def NodesS (D:Nat)(w:World)(v:Value)(FN:List PL):Prop:=∃NV,NodesN D w v FN NV
theorem NodesN.fr {M:Nat→Prop}{D:Nat}{w w':World}{v:Value}{FN:List PL}{NV:List (Value × Value)}(h:NodesN D w v FN NV)(hf:Fr M w w')(hM:∀q,D≤q→q<w.heap.size→¬M q):NodesN D w' v FN NV:=by
 refine⟨za3 h.row hf (fun q hq=>hM q (h.row.lt q hq).1 (h.row.lt q hq).2),h.len,fun j x y hx hy=>?_,fun q hq=>⟨(h.blk q hq).1,Nat.lt_of_lt_of_le (h.blk q hq).2.1 hf.size,(h.blk q hq).2.2⟩,h.sep,fun q hq=>(h.thaw q hq).fr hf (hM q (h.blk q hq).1 (h.blk q hq).2.1)⟩;obtain⟨s1,s2⟩:=h.nats j x y hx hy;obtain⟨m1,m2⟩:=zcp hx;exact⟨s1.fr hf (fun _ q hq=>hM q (h.blk q (m1 q hq)).1 (h.blk q (m1 q hq)).2.1),s2.fr hf (fun _ q hq=>hM q (h.blk q (m2 q hq)).1 (h.blk q (m2 q hq)).2.1)⟩
theorem NodesS.fr {M:Nat→Prop}{D:Nat}{w w':World}{v:Value}{FN:List PL}(h:NodesS D w v FN)(hf:Fr M w w')(hM:∀q,D≤q→q<w.heap.size→¬M q):NodesS D w' v FN:=by
 obtain⟨NV,h⟩:=h;exact⟨NV,h.fr hf hM⟩
theorem NodesS.fr0 {D:Nat}{w w':World}{v:Value}{FN:List PL}(h:NodesS D w v FN)(hf:Fr NoM w w'):NodesS D w' v FN:=h.fr hf (fun _ _ _ q=>q)
theorem NodesS.base {D D':Nat}{w:World}{v:Value}{FN:List PL}(h:NodesS D w v FN)(hd:D'≤D):NodesS D' w v FN:=by
 obtain⟨NV,h⟩:=h;exact⟨NV,zb3 h.row hd,h.len,h.nats,fun q hq=>⟨Nat.le_trans hd (h.blk q hq).1,(h.blk q hq).2⟩,h.sep,h.thaw⟩
theorem NodesS.made (w:World)(n:Nat)(hn:n≤9223372036854775807)(cur:Array Value)(hc:cur.size=n*2):NodesS w.heap.size (w.alloc (.cells cur 85)) (.slice (some ⟨w.heap.size,0,none⟩) 0 n) [] :=
 ⟨[],⟨rfl,.inr ⟨_,n,cur,rfl,Nat.le_refl _,heap_alloc_new w _,Nat.zero_le _,hn,hc,by simp[zb8]⟩⟩,rfl,by simp,by simp[zas,zb8],by simp[zas,zb8],by simp[zas,zb8]⟩
theorem NodesN.snoc {D:Nat}{w w':World}{v v':Value}{FN:List PL}{x:PL}{l r:Value}{NV:List (Value × Value)}(h:NodesN D w v FN NV)
  (hl:Nats w l x.1/\∀q,l.ownBlock=some q→D≤q/\q<w.heap.size/\v.ownBlock≠some q) (hr:Nats w r x.2/\∀q,r.ownBlock=some q→D≤q/\q<w.heap.size/\v.ownBlock≠some q)
  (hlr:∀q,l.ownBlock=some q→r.ownBlock≠some q) (hnew:∀q∈zas NV,l.ownBlock≠some q/\r.ownBlock≠some q)
  (hth:∀q,l.ownBlock=some q∨r.ownBlock=some q→RowB w q)
  (hown:w'.ownsRow D 85 2 v' (NV.length+1) (zb8 NV ++ [l,r])) (hf:Fr (Own1 v) w w') (hb:v'.ownBlock=v.ownBlock∨∃b,v'.ownBlock=some b/\w.heap.size≤b):NodesN D w' v' (FN ++ [x]) (NV ++ [(l,r)]):=by
 have hup:∀q,(D≤q/\q<w.heap.size/\v.ownBlock≠some q)→(D≤q/\q<w'.heap.size/\v'.ownBlock≠some q):=fun q ⟨h1,h2,h3⟩=>⟨h1,Nat.lt_of_lt_of_le h2 hf.size,fun e=>by
  rcases hb with hb|⟨b,hb,hb2⟩
  ·exact h3 (hb ▸ e)
  ·rw[hb]at e;cases e;omega⟩
 have hfl:zb8 NV ++ [l,r]=zb8 (NV ++ [(l,r)]):=by simp[zb8]
 rw[hfl]at hown;refine⟨by rw[List.length_append];exact hown,by simp[h.len],fun j a y ha hy=>?_,fun q hq=>?_,?_,fun q hq=>?_⟩
 ·by_cases hj:j<NV.length
  ·rw[List.getElem?_append_left hj]at ha
   rw[List.getElem?_append_left (by rw[←h.len];exact hj)]at hy;obtain⟨s1,s2⟩:=h.nats j a y ha hy;obtain⟨m1,m2⟩:=zcp ha;exact⟨s1.fr hf (fun _ q hq=>(h.blk q (m1 q hq)).2.2),s2.fr hf (fun _ q hq=>(h.blk q (m2 q hq)).2.2)⟩
  ·have hje:j=NV.length:=by have:=(List.getElem?_eq_some_iff.1 ha).1;simp at this;omega
   subst hje;have e1:a=(l,r):=by simpa using ha.symm
   have e2:y=x:=by rw[h.len]at hy;simpa using hy.symm
   subst e1;subst e2;exact⟨hl.1.fr hf (fun _ q hq=>(hl.2 q hq).2.2),hr.1.fr hf (fun _ q hq=>(hr.2 q hq).2.2)⟩
 ·rw[zdy,List.mem_append]at hq
  rcases hq with hq|hq
  ·exact hup q (h.blk q hq)
  ·rcases zgh hq with hq|hq
   ·exact hup q (hl.2 q hq)
   ·exact hup q (hr.2 q hq)
 ·rw[zdy,List.nodup_append]
  refine⟨h.sep,znq l r hlr,fun q hq p hp e=>?_⟩;subst e;rcases zgh hp with hp|hp
  ·exact(hnew q hq).1 hp
  ·exact(hnew q hq).2 hp
 ·rw[zdy,List.mem_append]at hq
  rcases hq with hq|hq
  ·exact(h.thaw q hq).fr hf (h.blk q hq).2.2
  ·refine(hth q (zgh hq)).fr hf ?_
   rcases zgh hq with hq|hq
   ·exact(hl.2 q hq).2.2
   ·exact(hr.2 q hq).2.2
theorem NodesS.nodeL {D:Nat}{w:World}{v:Value}{FN:List PL}(h:NodesS D w v FN):NodeL (D≤·) encN w v FN:=by
 obtain⟨NV,h⟩:=h;have hr:NodeRow (D≤·) D w v FN:=⟨NV,h.row,h.len,fun j x y hx hy=>by
  obtain⟨s1,s2⟩:=h.nats j x y hx hy;obtain⟨m1,m2⟩:=zcp hx;exact⟨s1,s2,fun _ q hq=>(h.blk q (m1 q hq)).1,fun _ q hq=>(h.blk q (m2 q hq)).1⟩⟩
 exact hr.nodeL (fun _ hb=>hb) (fun _ hb=>hb)
theorem NodesS.nil (D:Nat)(w:World):NodesS D w (.slice none 0 0) []:=⟨[],⟨rfl,.inl ⟨rfl,rfl⟩⟩,rfl,by simp,by simp[zas,zb8],by simp[zas,zb8],by simp[zas,zb8]⟩
def fG (V:List PL)(A G:List Nat)(i:Nat):PL:=if i∈G then zbq A (za6 V i)else ([],[])
def zc2 (lv rv:Nat→Value)(G:List Nat):List Nat:=(G.flatMap fun x=>[lv x,rv x]).filterMap Value.ownBlock
theorem zdk (lv rv:Nat→Value)(G H:List Nat):zc2 lv rv (G++H)=zc2 lv rv G++zc2 lv rv H:=by simp[zc2]
theorem zh9 (lv rv:Nat→Value)(x:Nat):zc2 lv rv [x]=[lv x,rv x].filterMap Value.ownBlock:=by simp[zc2]
theorem zsf {lv rv:Nat→Value}{G:List Nat}{q:Nat}(h:q∈zc2 lv rv G):∃x∈G,(lv x).ownBlock=some q∨(rv x).ownBlock=some q:=by
 obtain⟨u,hu,hq⟩:=List.mem_filterMap.1 h;obtain⟨x,hx,hu⟩:=List.mem_flatMap.1 hu;simp at hu;rcases hu with rfl|rfl
 ·exact⟨x,hx,.inl hq⟩
 ·exact⟨x,hx,.inr hq⟩
theorem zrg {lv rv:Nat→Value}{G H:List Nat}(h:G.Perm H):(zc2 lv rv G).Perm (zc2 lv rv H):=(h.flatMap_right _).filterMap _
structure ERow (Z:Nat) (w:World) (v:Value) (G:List Nat) (lv rv:Nat→Value) (f:Nat→PL):Prop where
 row:w.ownsRow Z 170 3 v G.length (zg5 lv rv G)
 left:∀i,Nats w (lv i) (f i).1/\∀q,(lv i).ownBlock=some q→Z≤q/\q<w.heap.size/\v.ownBlock≠some q
 right:∀i,Nats w (rv i) (f i).2/\∀q,(rv i).ownBlock=some q→Z≤q/\q<w.heap.size/\v.ownBlock≠some q
 sep:(zc2 lv rv G).Nodup
 thaw:∀i q,(lv i).ownBlock=some q∨(rv i).ownBlock=some q→RowB w q
theorem ERow.fr {M:Nat→Prop}{Z:Nat}{w w':World}{v:Value}{G:List Nat}{lv rv:Nat→Value}{f:Nat→PL}(h:ERow Z w v G lv rv f)(hf:Fr M w w')(hM:∀q,Z≤q→q<w.heap.size→¬M q):ERow Z w' v G lv rv f :=
 ⟨za3 h.row hf (fun q hq=>hM q (h.row.lt q hq).1 (h.row.lt q hq).2),
  fun i=>⟨(h.left i).1.fr hf (fun _ q hq=>hM q ((h.left i).2 q hq).1 ((h.left i).2 q hq).2.1),fun q hq=>⟨((h.left i).2 q hq).1,Nat.lt_of_lt_of_le ((h.left i).2 q hq).2.1 hf.size,((h.left i).2 q hq).2.2⟩⟩,
  fun i=>⟨(h.right i).1.fr hf (fun _ q hq=>hM q ((h.right i).2 q hq).1 ((h.right i).2 q hq).2.1),fun q hq=>⟨((h.right i).2 q hq).1,Nat.lt_of_lt_of_le ((h.right i).2 q hq).2.1 hf.size,((h.right i).2 q hq).2.2⟩⟩,h.sep,fun i q hq=>(h.thaw i q hq).fr hf (by
   rcases hq with hq|hq
   ·exact hM q ((h.left i).2 q hq).1 ((h.left i).2 q hq).2.1
   ·exact hM q ((h.right i).2 q hq).1 ((h.right i).2 q hq).2.1)⟩
def setV (f:Nat→Value)(x:Nat)(v:Value)(i:Nat):Value:=if i=x then v else f i
theorem zzr (lv rv:Nat→Value)(G:List Nat)(x:Nat)(l r:Value)(h:x ∉ G):zg5 (setV lv x l) (setV rv x r) (G ++ [x])=zg5 lv rv G ++ [encN x,l,r]:=by
 unfold zg5;rw[List.flatMap_append];have e1:G.flatMap (enc3 (setV lv x l) (setV rv x r))=G.flatMap (enc3 lv rv):=by
  rw[List.flatMap_def,List.flatMap_def];congr 1
  refine List.map_congr_left fun i hi=>?_
  have hne:¬i=x:=fun e=>h (e ▸ hi)
  simp[enc3,setV,hne]
 rw[e1];simp[enc3,setV]
theorem zt3 (lv rv:Nat→Value)(G:List Nat)(x:Nat)(l r:Value)(h:x ∉ G):zc2 (setV lv x l) (setV rv x r) (G ++ [x])=zc2 lv rv G ++ [l,r].filterMap Value.ownBlock:=by
 rw[zdk,zh9];have e1:G.flatMap (fun y=>[setV lv x l y,setV rv x r y])=G.flatMap (fun y=>[lv y,rv y]):=by
  rw[List.flatMap_def,List.flatMap_def];congr 1
  refine List.map_congr_left fun i hi=>?_
  have hne:¬i=x:=fun e=>h (e ▸ hi)
  simp[setV,hne]
 have e2:zc2 (setV lv x l) (setV rv x r) G=zc2 lv rv G:=by unfold zc2;rw[e1]
 rw[e2];simp[setV]
theorem ERow.snoc {Z:Nat}{w w1 w':World}{v v':Value}{G:List Nat}{lv rv:Nat→Value}{V:List PL}{A:List Nat}{x:Nat}{l r:Value}(h:ERow Z w v G lv rv (fG V A G))(hx:x ∉ G)(hf1:Fr NoM w w1)
  (hlr:∀q,l.ownBlock=some q→r.ownBlock≠some q) (hge:∀q,l.ownBlock=some q∨r.ownBlock=some q→w.heap.size≤q) (hth:∀q,l.ownBlock=some q∨r.ownBlock=some q→RowB w1 q)
  (hl:Nats w1 l (zbq A (za6 V x)).1/\∀q,l.ownBlock=some q→Z≤q/\q<w1.heap.size/\v.ownBlock≠some q) (hr:Nats w1 r (zbq A (za6 V x)).2/\∀q,r.ownBlock=some q→Z≤q/\q<w1.heap.size/\v.ownBlock≠some q)
  (hown:w'.ownsRow Z 170 3 v' (G.length+1) (zg5 lv rv G ++ [encN x,l,r])) (hf:Fr (Own1 v) w1 w') (hb:v'.ownBlock=v.ownBlock∨∃b,v'.ownBlock=some b/\w1.heap.size≤b):ERow Z w' v' (G ++ [x]) (setV lv x l) (setV rv x r) (fG V A (G ++ [x])):=by
 have h1:=h.fr hf1 (fun _ _ _ q=>q);have hnew:∀q,(Z≤q/\q<w1.heap.size/\v.ownBlock≠some q)→(Z≤q/\q<w'.heap.size/\v'.ownBlock≠some q):=fun q ⟨h1,h2,h3⟩=>⟨h1,Nat.lt_of_lt_of_le h2 hf.size,fun e=>by
  rcases hb with hb|⟨b,hb,hb2⟩
  ·exact h3 (hb ▸ e)
  ·rw[hb]at e;cases e;omega⟩
 have hsep:(zc2 (setV lv x l) (setV rv x r) (G ++ [x])).Nodup:=by
  rw[zt3 _ _ _ _ _ _ hx,List.nodup_append];refine⟨h.sep,znq l r hlr,fun q hq p hp e=>?_⟩;subst e;have h1:=hge q (zgh hp);obtain⟨i,_,hi|hi⟩:=zsf hq
  ·have:=((h.left i).2 q hi).2.1;omega
  ·have:=((h.right i).2 q hi).2.1;omega
 refine⟨by rw[List.length_append,zzr _ _ _ _ _ _ hx];exact hown,fun i=>?_,fun i=>?_,hsep,fun i q hq=>?_⟩
 ·by_cases e:i=x
  ·subst e
   have e1:fG V A (G ++ [i]) i=zbq A (za6 V i):=if_pos (by simp);rw[e1];simp only[setV,if_true];exact⟨hl.1.fr hf (fun _ q hq=>(hl.2 q hq).2.2),fun q hq=>hnew q (hl.2 q hq)⟩
  ·have e1:fG V A (G ++ [x]) i=fG V A G i:=by unfold fG;simp[e]
   rw[e1];simp only[setV,if_neg e];exact⟨(h1.left i).1.fr hf (fun _ q hq=>((h1.left i).2 q hq).2.2),fun q hq=>hnew q ((h1.left i).2 q hq)⟩
 ·by_cases e:i=x
  ·subst e
   have e1:fG V A (G ++ [i]) i=zbq A (za6 V i):=if_pos (by simp);rw[e1];simp only[setV,if_true];exact⟨hr.1.fr hf (fun _ q hq=>(hr.2 q hq).2.2),fun q hq=>hnew q (hr.2 q hq)⟩
  ·have e1:fG V A (G ++ [x]) i=fG V A G i:=by unfold fG;simp[e]
   rw[e1];simp only[setV,if_neg e];exact⟨(h1.right i).1.fr hf (fun _ q hq=>((h1.right i).2 q hq).2.2),fun q hq=>hnew q ((h1.right i).2 q hq)⟩
 ·by_cases e:i=x
  ·subst e
   simp only[setV,if_true]at hq;refine(hth q hq).fr hf ?_
   rcases hq with hq|hq
   ·exact(hl.2 q hq).2.2
   ·exact(hr.2 q hq).2.2
  ·simp only[setV,if_neg e]at hq
   refine(h1.thaw i q hq).fr hf ?_
   rcases hq with hq|hq
   ·exact((h1.left i).2 q hq).2.2
   ·exact((h1.right i).2 q hq).2.2
theorem ERow.made (w:World)(V:List PL)(A:List Nat):ERow w.heap.size (w.alloc (.cells #[] 170)) (.slice (some ⟨w.heap.size,0,none⟩) 0 0) [] (fun _=>.slice none 0 0) (fun _=>.slice none 0 0) (fG V A []) :=
 ⟨World.ownsRow_made w #[] 0 (Nat.le_refl _) (by decide) (by simp),fun i=>⟨⟨none,0,rfl,Nat.le_refl _,by decide,by simp[fG]⟩,fun q hq=>by simp[Value.ownBlock]at hq⟩,fun i=>⟨⟨none,0,rfl,Nat.le_refl _,by decide,by simp[fG]⟩,fun q hq=>by simp[Value.ownBlock]at hq⟩,by simp[zc2],fun i q hq=>by simp[Value.ownBlock]at hq⟩
def cntF (FN:List PL):Nat:=(FN.map fun y=>y.1.length+y.2.length).sum
def zed:Nat→List PL→List PL
 | _,[]=>[]
 | k,y::l=>(List.range' k y.1.length,List.range' (k+y.1.length) y.2.length)::zed (k+(y.1.length+y.2.length)) l
theorem ycb:cntF []=0:=rfl
theorem zrd (y:PL)(l:List PL):cntF (y::l)=y.1.length+y.2.length+cntF l:=by simp[cntF]
theorem zn3 (A B:List PL):cntF (A++B)=cntF A+cntF B:=by simp[cntF]
theorem zca (k:Nat)(Fs:List PL):(zed k Fs).length=Fs.length:=by
 induction Fs generalizing k with
 | nil=>rfl
 | cons y l ih=>simp[zed,ih]
theorem zk1 (k:Nat)(A B:List PL):zed k (A++B)=zed k A++zed (k+cntF A) B:=by
 induction A generalizing k with
 | nil=>simp[zed,ycb]
 | cons y l ih =>
  rw[List.cons_append,zed,zed,ih,zrd,List.cons_append];rw[show k+(y.1.length+y.2.length)+cntF l=k+(y.1.length+y.2.length+cntF l)from by omega]
theorem zh0 {Fs:List PL}{i:Nat}{y:PL}(h:Fs[i]?=some y):cntF (Fs.take (i+1))=cntF (Fs.take i)+(y.1.length+y.2.length):=by
 have hi:=(List.getElem?_eq_some_iff.1 h).1;have e:Fs[i]=y:=(List.getElem?_eq_some_iff.1 h).2;rw[List.take_succ_eq_append_getElem hi,zn3,e];simp[cntF]
theorem zk8 (Fs:List PL)(i:Nat):cntF (Fs.take i)≤cntF Fs:=by
 have h:=zn3 (Fs.take i) (Fs.drop i);rw[List.take_append_drop]at h;omega
theorem zg0 {k:Nat}{Fs:List PL}{i:Nat}{y:PL}(h:Fs[i]?=some y):zed k (Fs.take (i+1))=zed k (Fs.take i) ++ [(List.range' (k+cntF (Fs.take i)) y.1.length,List.range' (k+cntF (Fs.take i)+y.1.length) y.2.length)]:=by
 have hi:=(List.getElem?_eq_some_iff.1 h).1;have e:Fs[i]=y:=(List.getElem?_eq_some_iff.1 h).2;rw[List.take_succ_eq_append_getElem hi,zk1,e];rfl
theorem zz3 {k:Nat}{Fs:List PL}{i:Nat}{y:PL}(h:Fs[i]?=some y):(zed k Fs)[i]?=some (List.range' (k+cntF (Fs.take i)) y.1.length,List.range' (k+cntF (Fs.take i)+y.1.length) y.2.length):=by
 have hi:=(List.getElem?_eq_some_iff.1 h).1;have e:=zk1 k (Fs.take (i+1)) (Fs.drop (i+1));rw[List.take_append_drop,zg0 h,List.append_assoc]at e;rw[e,List.getElem?_append_right (by rw[zca];simp;omega),zca,List.length_take,Nat.min_eq_left (by omega),Nat.sub_self];rfl
def midF (k i:Nat)(Fs:List PL):List PL:=zed k (Fs.take i)++Fs.drop i
theorem zz1 (k:Nat)(Fs:List PL):midF k 0 Fs=Fs:=by simp[midF,zed]
theorem ybk (k:Nat)(Fs:List PL):midF k Fs.length Fs=zed k Fs:=by simp[midF]
theorem zsd (k i:Nat)(Fs:List PL)(h:i≤Fs.length):(midF k i Fs).length=Fs.length:=by simp[midF,zca];omega
theorem ybi {k i:Nat}{Fs:List PL}{y:PL}(h:Fs[i]?=some y):(midF k i Fs)[i]?=some y:=by
 have hi:=(List.getElem?_eq_some_iff.1 h).1;unfold midF;rw[List.getElem?_append_right (by rw[zca];simp;omega),zca,List.length_take,Nat.min_eq_left (by omega),Nat.sub_self,List.getElem?_drop];exact h
theorem zz2 {k i:Nat}{Fs:List PL}{y:PL}(h:Fs[i]?=some y):((midF k i Fs).set i (List.range' (k+cntF (Fs.take i)) y.1.length,y.2)).set i (List.range' (k+cntF (Fs.take i)) y.1.length,List.range' (k+cntF (Fs.take i)+y.1.length) y.2.length)=midF k (i+1) Fs:=by
 have hi:=(List.getElem?_eq_some_iff.1 h).1;rw[List.set_set];unfold midF;have hl:(zed k (Fs.take i)).length=i:=by rw[zca];simp;omega
 rw[List.set_append_right _ _ (by omega),hl,Nat.sub_self,List.drop_eq_getElem_cons hi,List.set_cons_zero,zg0 h];simp
theorem zi7 (x:Value × Value)(NV:List (Value × Value)):zas (x::NV)=[x.1,x.2].filterMap Value.ownBlock++zas NV:=by
 simp only[zas,zb8,List.flatMap_cons,List.filterMap_append]
theorem zyc {l r:Value}{q:Nat}(h:l.ownBlock=some q):q∈[l,r].filterMap Value.ownBlock:=List.mem_filterMap.2 ⟨l,by simp,h⟩
theorem zyb {l r:Value}{q:Nat}(h:r.ownBlock=some q):q∈[l,r].filterMap Value.ownBlock:=List.mem_filterMap.2 ⟨r,by simp,h⟩
theorem zti {NV:List (Value × Value)}(h:(zas NV).Nodup){i:Nat}{x:Value × Value}(hx:NV[i]?=some x)(q:Nat)(hq:x.1.ownBlock=some q):x.2.ownBlock≠some q:=by
 induction NV generalizing i with
 | nil=>simp at hx
 | cons y l ih =>
  rw[zi7,List.nodup_append]at h;cases i with
  | zero =>
   have e:y=x:=by simpa using hx
   subst e;intro hq';have h1:=h.1;simp[List.filterMap_cons,hq,hq']at h1
  | succ i=>exact ih h.2.1 (by simpa using hx)
theorem zhd {NV:List (Value × Value)}(h:(zas NV).Nodup){i j:Nat}{x z:Value × Value}(hx:NV[i]?=some x)(hz:NV[j]?=some z)(hij:i≠j)(q:Nat)(hq:x.1.ownBlock=some q∨x.2.ownBlock=some q):z.1.ownBlock≠some q/\z.2.ownBlock≠some q:=by
 induction NV generalizing i j with
 | nil=>simp at hx
 | cons y l ih =>
  rw[zi7,List.nodup_append]at h;have hm:∀(k:Nat) (u:Value × Value),l[k]?=some u→(u.1.ownBlock=some q∨u.2.ownBlock=some q)→q∈zas l:=fun k u hu hq=>by
   rcases hq with hq|hq
   ·exact(zcp hu).1 q hq
   ·exact(zcp hu).2 q hq
  have hp:∀(u:Value × Value),(u.1.ownBlock=some q∨u.2.ownBlock=some q)→q∈[u.1,u.2].filterMap Value.ownBlock:=fun u hq=>by
   rcases hq with hq|hq
   ·exact zyc hq
   ·exact zyb hq
  cases i with
  | zero =>
   have e:y=x:=by simpa using hx
   subst e;cases j with
   | zero=>exact absurd rfl hij
   | succ j =>
    have hz:l[j]?=some z:=by simpa using hz
    refine⟨fun e=>h.2.2 q (hp _ hq) q (hm j z hz (.inl e)) rfl,fun e=>h.2.2 q (hp _ hq) q (hm j z hz (.inr e)) rfl⟩
  | succ i =>
   have hx:l[i]?=some x:=by simpa using hx
   cases j with
   | zero =>
    have e:y=z:=by simpa using hz
    subst e;refine⟨fun e=>h.2.2 q (hp _ (.inl e)) q (hm i x hx hq) rfl,fun e=>h.2.2 q (hp _ (.inr e)) q (hm i x hx hq) rfl⟩
   | succ j=>exact ih h.2.1 hx (by simpa using hz) (fun e=>hij (by rw[e]))
theorem NodesN.upd1 {D:Nat}{w w':World}{v:Value}{FN:List PL}{NV:List (Value × Value)}(h:NodesN D w v FN NV){i:Nat}{x:Value × Value}{y:PL}{L:List Nat}(hx:NV[i]?=some x)(hy:FN[i]?=some y)(hf:Fr (Own1 x.1) w w')(hL:Nats w' x.1 L)(hB:∀q,x.1.ownBlock=some q→RowB w' q):NodesN D w' v (FN.set i (L,y.2)) NV:=by
 have hvne:∀q,v.ownBlock=some q→¬Own1 x.1 q:=fun q hq e=>(h.blk q ((zcp hx).1 q e)).2.2 hq
 refine⟨za3 h.row hf hvne,by rw[List.length_set];exact h.len,fun j z u hz hu=>?_,fun q hq=>⟨(h.blk q hq).1,Nat.lt_of_lt_of_le (h.blk q hq).2.1 hf.size,(h.blk q hq).2.2⟩,h.sep,fun q hq=>?_⟩
 ·rw[List.getElem?_set]at hu
  by_cases e:i=j
  ·subst e
   rw[if_pos rfl,if_pos (List.getElem?_eq_some_iff.1 hy).1]at hu;cases hu
   rw[hx]at hz;cases hz
   exact⟨hL,(h.nats i x y hx hy).2.fr hf (fun _ q hq e=>zti h.sep hx q e hq)⟩
  ·rw[if_neg e]at hu
   obtain⟨s1,s2⟩:=h.nats j z u hz hu;exact⟨s1.fr hf (fun _ q hq e'=>(zhd h.sep hx hz e q (.inl e')).1 hq),s2.fr hf (fun _ q hq e'=>(zhd h.sep hx hz e q (.inl e')).2 hq)⟩
 ·by_cases e:x.1.ownBlock=some q
  ·exact hB q e
  ·exact(h.thaw q hq).fr hf e
theorem NodesN.upd2 {D:Nat}{w w':World}{v:Value}{FN:List PL}{NV:List (Value × Value)}(h:NodesN D w v FN NV){i:Nat}{x:Value × Value}{y:PL}{L:List Nat}(hx:NV[i]?=some x)(hy:FN[i]?=some y)(hf:Fr (Own1 x.2) w w')(hL:Nats w' x.2 L)(hB:∀q,x.2.ownBlock=some q→RowB w' q):NodesN D w' v (FN.set i (y.1,L)) NV:=by
 have hvne:∀q,v.ownBlock=some q→¬Own1 x.2 q:=fun q hq e=>(h.blk q ((zcp hx).2 q e)).2.2 hq
 refine⟨za3 h.row hf hvne,by rw[List.length_set];exact h.len,fun j z u hz hu=>?_,fun q hq=>⟨(h.blk q hq).1,Nat.lt_of_lt_of_le (h.blk q hq).2.1 hf.size,(h.blk q hq).2.2⟩,h.sep,fun q hq=>?_⟩
 ·rw[List.getElem?_set]at hu
  by_cases e:i=j
  ·subst e
   rw[if_pos rfl,if_pos (List.getElem?_eq_some_iff.1 hy).1]at hu;cases hu
   rw[hx]at hz;cases hz
   exact⟨(h.nats i x y hx hy).1.fr hf (fun _ q hq e=>zti h.sep hx q hq e),hL⟩
  ·rw[if_neg e]at hu
   obtain⟨s1,s2⟩:=h.nats j z u hz hu;exact⟨s1.fr hf (fun _ q hq e'=>(zhd h.sep hx hz e q (.inr e')).1 hq),s2.fr hf (fun _ q hq e'=>(zhd h.sep hx hz e q (.inr e')).2 hq)⟩
 ·by_cases e:x.2.ownBlock=some q
  ·exact hB q e
  ·exact(h.thaw q hq).fr hf e
theorem ybe {w:World}{L:List Nat}{b off n c i:Nat}(x:Nat)(h:Nats w (.slice (some ⟨b,off,none⟩) n c) L)(hb:RowB w b)(hi:i<L.length) :
  (∃u,w.cell? ⟨b,off+i,none⟩=some u)/\w.frozen? ⟨b,off+i,none⟩=false/\Nats (w.setCell ⟨b,off+i,none⟩ (encN x)) (.slice (some ⟨b,off,none⟩) n c) (L.set i x)/\RowB (w.setCell ⟨b,off+i,none⟩ (encN x)) b:=by
 obtain⟨cur,hb⟩:=hb;obtain⟨a,c',e,h1,h2,h3⟩:=h;cases e
 obtain⟨b',off',e,c1⟩:=h3 i L[i] (List.getElem?_eq_getElem hi);cases e
 have hs:=heap_set (i:=off+i) hb (encN x);have hsz:off+i<cur.size:=by
  rw[cell_of_row w b (off+i) cur _ _ hb]at c1;exact(Array.getElem?_eq_some_iff.1 c1).1
 refine⟨⟨_,c1⟩,by simp[World.frozen?,hb],⟨some ⟨b,off,none⟩,c,by rw[List.length_set],by rw[List.length_set];exact h1,h2,fun j y hy=>⟨b,off,rfl,?_⟩⟩,⟨_,hs⟩⟩;rw[cell_of_row _ b (off+j) _ _ _ hs];rw[List.getElem?_set]at hy;by_cases e:i=j
 ·subst e
  rw[if_pos rfl,if_pos hi]at hy;cases hy
  rw[Array.getElem?_setIfInBounds_self_of_lt hsz]
 ·rw[if_neg e]at hy
  obtain⟨b2,off2,e2,c2⟩:=h3 j y hy;cases e2
  rw[cell_of_row w b (off+j) cur _ _ hb]at c2;rw[Array.getElem?_setIfInBounds_ne (by omega)];exact c2
set_option maxHeartbeats 400000 in
theorem zx1 (av bv:Value)(A B:List Int)(w:World)(hA:Ints w av A)(hB:Ints w bv B) :
  Calls Tryz.prog 113 #[av,bv] w fun e w'=>e=.returned (.bool (decide (A=B)))/\∃q,w'=w.drewN q:=by
 obtain⟨aa,ac,rfl,hac,hacm,hA⟩:=hA;obtain⟨ba,bc,rfl,hbc,hbcm,hB⟩:=hB;have HA:=Hh hA;clear hA;have HB:=Hh hB;clear hB;by_cases hn:A.length=B.length
 ·have hne:((A.length:Int) != (B.length:Int))=false:=by simp[hn]
  have hfin:A.take A.length=B.take A.length→decide (A=B)=true:=fun h=>by
   rw[List.take_length,hn,List.take_length]at h;simp[h]
  have HN:=Hh hn;clear hn;have HF:=Hh hfin;clear hfin;go_enter Tryz.func113,Tryz.ntmps113;go_wp2;go_loopw [5] (fun i wr=>∃k q:Nat,k≤A.length/\i=.int .i64 k/\A.take k=B.take k/\wr=w.drewN q) (fun i _=>A.length-(intOf i).toNat)
  case atStart=>exact⟨0,0,by omega,rfl,rfl,rfl⟩
  case round =>
   obtain⟨k,q,hk,rfl,ht,rfl⟩:=hrel;have Ht:=Hh ht;clear ht;by_cases hlt':k<A.length
   ·have hlt2:k<B.length:=by rw[←HN.out];exact hlt'
    obtain⟨b1,o1,ha1,hc1⟩:=HA.out k A[k] (by simp);obtain⟨b2,o2,ha2,hc2⟩:=HB.out k B[k] (by simp);have ix1:=zaa aa A.length ac k b1 o1 hlt' ha1;have ix2:=zaa ba B.length bc k b2 o2 hlt2 ha2;unfold encI at hc1 hc2;clear ha1 ha2;by_cases hxy:A[k]=B[k]
    ·have hxy':(A[k] != B[k])=false:=by simp[hxy]
     have Hxy:=Hh hxy;clear hxy;go_wp2;go_quiet (fail);go_wp2;go_roundw
     case rel=>exact⟨k+1,_,by omega,by go_num,by rw[List.take_succ_eq_append_getElem hlt',List.take_succ_eq_append_getElem hlt2,Ht.out,Hxy.out],rfl⟩
     case measure=>simp[intOf];omega
    ·have hxy':(A[k] != B[k])=true:=by simp[hxy]
     have hfin:decide (A=B)=false:=by
      have:A≠B:=fun e=>by subst e;exact hxy rfl
      simp[this]
     have Hxy:=Hh hxy;clear hxy;have Hfin:=Hh hfin;clear hfin;go_wp2;go_quiet (fail);go_wp2;go_ret;exact⟨by rw[Hfin.out];rfl,_,World.drewN_drewN _ _ _⟩
   ·go_wp2
    go_ret;have hk':k=A.length:=by omega
    subst hk';exact⟨by rw[HF.out Ht.out];rfl,_,rfl⟩
 ·have hne:((A.length:Int) != (B.length:Int))=true:=by rw[bne_iff_ne];omega
  have hfin:decide (A=B)=false:=by
   have:A≠B:=fun e=>hn (by rw[e])
   simp[this]
  have Hfin:=Hh hfin;clear hfin hn;go_enter Tryz.func113,Tryz.ntmps113;go_wp2;go_ret;exact⟨by rw[Hfin.out];rfl,0,rfl⟩
theorem zea (av bv:Value)(A B:List Nat)(w:World)(hA:Nats w av A)(hB:Nats w bv B) :
  Calls Tryz.prog 113 #[av,bv] w fun e w'=>e=.returned (.bool (decide (A=B)))/\∃q,w'=w.drewN q:=by
 refine(zx1 av bv (ints A) (ints B) w hA.ints hB.ints).mono ?_
 rintro e w' ⟨rfl,h⟩;have e1:decide (ints A=ints B)=decide (A=B):=by
  by_cases h:A=B
  ·subst h;simp
  ·rw[decide_eq_false h,decide_eq_false (fun e=>h (zkq e))]
 rw[e1];exact⟨rfl,h⟩
set_option maxHeartbeats 2000000 in
theorem zx0 (l1 r1 l2 r2:Value)(x y:PL)(w:World)(h1:Nats w l1 x.1)(h2:Nats w r1 x.2)(h3:Nats w l2 y.1)(h4:Nats w r2 y.2) :
  Calls Tryz.prog 65 #[.agg #[l1,r1],.agg #[l2,r2]] w fun e w'=>e=.returned (.bool (decide (x=y)))/\Fr NoM w w':=by
 have B1:=Hh (fun(W:World) (f:Fr NoM w W)=>h1.fr0 f);have B2:=Hh (fun(W:World) (f:Fr NoM w W)=>h2.fr0 f);have B3:=Hh (fun(W:World) (f:Fr NoM w W)=>h3.fr0 f);have B4:=Hh (fun(W:World) (f:Fr NoM w W)=>h4.fr0 f);have O1:l1.oneCell'=true:=by obtain⟨_,_,rfl,_⟩:=h1;rfl
 have O2:r1.oneCell'=true:=by obtain⟨_,_,rfl,_⟩:=h2;rfl
 have O3:l2.oneCell'=true:=by obtain⟨_,_,rfl,_⟩:=h3;rfl
 have O4:r2.oneCell'=true:=by obtain⟨_,_,rfl,_⟩:=h4;rfl
 clear h1 h2 h3 h4;have F2:∀n,Fr NoM w ((((w.alloc (.cells #[l1,r1] 85)).alloc (.cells #[l2,r2] 85))).drewN n):=fun n=>(((Fr.refl NoM w).alloc _).alloc _).trans (M':=NoM) ⟨rfl,rfl,rfl,Nat.le_refl _,fun _ _ _=>rfl⟩ (fun _ _ q=>q)
 have HF2:=Hh F2;clear F2;by_cases e1:x.1=y.1
 ·have hc1:decide (x.1=y.1)=true:=decide_eq_true e1
  have E1:=Hh e1;clear e1;by_cases e2:x.2=y.2
  ·have hc2:decide (x.2=y.2)=true:=decide_eq_true e2
   have hr:decide (x=y)=true:=decide_eq_true (Prod.ext E1.out e2);have HR:=Hh hr;clear hr e2;go_enter Tryz.func65,Tryz.ntmps65;go_wp2_with fail;refine(zea l1 l2 x.1 y.1 _ (B1.out _ (HF2.out 0)) (B3.out _ (HF2.out 0))).mono ?_
   rintro e w' ⟨rfl,q,rfl⟩;go_wp2_with fail;refine(zea r1 r2 x.2 y.2 _ (B2.out _ (HF2.out q)) (B4.out _ (HF2.out q))).mono ?_
   rintro e w' ⟨rfl,q2,rfl⟩;go_wp2;go_ret;exact⟨by rw[HR.out];rfl,HF2.out (q+q2)⟩
  ·have hc2:decide (x.2=y.2)=false:=decide_eq_false e2
   have hr:decide (x=y)=false:=decide_eq_false (fun e=>e2 (by rw[e]));have HR:=Hh hr;clear hr e2;go_enter Tryz.func65,Tryz.ntmps65;go_wp2_with fail;refine(zea l1 l2 x.1 y.1 _ (B1.out _ (HF2.out 0)) (B3.out _ (HF2.out 0))).mono ?_
   rintro e w' ⟨rfl,q,rfl⟩;go_wp2_with fail;refine(zea r1 r2 x.2 y.2 _ (B2.out _ (HF2.out q)) (B4.out _ (HF2.out q))).mono ?_
   rintro e w' ⟨rfl,q2,rfl⟩;go_wp2;go_ret;exact⟨by rw[HR.out];rfl,HF2.out (q+q2)⟩
 ·have hc1:decide (x.1=y.1)=false:=decide_eq_false e1
  have hr:decide (x=y)=false:=decide_eq_false (fun e=>e1 (by rw[e]));have HR:=Hh hr;clear hr e1;go_enter Tryz.func65,Tryz.ntmps65;go_wp2_with fail;refine(zea l1 l2 x.1 y.1 _ (B1.out _ (HF2.out 0)) (B3.out _ (HF2.out 0))).mono ?_
  rintro e w' ⟨rfl,q,rfl⟩;go_wp2;go_ret;exact⟨by rw[HR.out];rfl,HF2.out q⟩
set_option maxRecDepth 4000 in
set_option maxHeartbeats 2000000 in
theorem zst {R S:Nat→Prop}(av bv:Value)(A B:List PL)(w:World)(hA:NodeL R encN w av A)(hB:NodeL S encN w bv B) :
  Calls Tryz.prog 28 #[av,bv] w fun e w'=>e=.returned (.bool (decide (A=B)))/\Fr NoM w w':=by
 obtain⟨aa,ac,rfl,hac,hacm,hA⟩:=hA;obtain⟨ba,bc,rfl,hbc,hbcm,hB⟩:=hB;have HA:=Hh hA;clear hA;have HB:=Hh hB;clear hB;by_cases hn:A.length=B.length
 ·have hne:((A.length:Int) != (B.length:Int))=false:=by simp[hn]
  have hfin:A.take A.length=B.take A.length→decide (A=B)=true:=fun h=>by
   rw[List.take_length,hn,List.take_length]at h;simp[h]
  have HN:=Hh hn;clear hn;have HF:=Hh hfin;clear hfin;go_enter Tryz.func28,Tryz.ntmps28;go_wp2;go_loopw [5] (fun i wr=>∃k:Nat,k≤A.length/\i=.int .i64 k/\A.take k=B.take k/\Fr NoM w wr) (fun i _=>A.length-(intOf i).toNat)
  case atStart=>exact⟨0,by omega,rfl,rfl,Fr.refl _ _⟩
  case round =>
   obtain⟨k,hk,rfl,ht,hfr⟩:=hrel;obtain⟨w7,rfl⟩:∃w7,w7=wr:=⟨_,rfl⟩;have Ht:=Hh ht;have HFr:=Hh hfr;clear ht hfr;by_cases hlt':k<A.length
   ·have hlt2:k<B.length:=by rw[←HN.out];exact hlt'
    obtain⟨b1,o1,l1,r1,ha1,_,c1,c2,s1,s2,_,_⟩:=HA.out k A[k] (by simp);obtain⟨b2,o2,l2,r2,ha2,_,d1,d2,t1,t2,_,_⟩:=HB.out k B[k] (by simp);have ix1:=zbe aa A.length ac k b1 o1 hlt' ha1;have ix2:=zbe ba B.length bc k b2 o2 hlt2 ha2;have HC:=Hh (fun(W:World) (f:Fr NoM w7 W)=>show W.cell? ⟨b1,o1+k*2,none⟩=some l1/\W.cell? ⟨b1,o1+k*2+1,none⟩=some r1/\W.cell? ⟨b2,o2+k*2,none⟩=some l2/\W.cell? ⟨b2,o2+k*2+1,none⟩=some r2 from
     have f0:=HFr.out.trans f (fun _ _ q=>q)
     ⟨f0.cell c1 (fun q=>q),f0.cell c2 (fun q=>q),f0.cell d1 (fun q=>q),f0.cell d2 (fun q=>q)⟩)
    have HE:=Hh (fun(W:World) (f:Fr NoM w7 W) =>
     have f0:=HFr.out.trans f (fun _ _ q=>q);zx0 l1 r1 l2 r2 A[k] B[k] W (s1.fr0 f0) (s2.fr0 f0) (t1.fr0 f0) (t2.fr0 f0))
    obtain⟨eb,heb⟩:∃eb,eb=decide (A[k]=B[k]):=⟨_,rfl⟩;rw[←heb]at HE;have HEb:=Hh heb;clear ha1 ha2 c1 c2 d1 d2 s1 s2 t1 t2 heb;go_upto_region 6 with fail;have F0:Fr NoM w7 w7.drew:=(Fr.refl NoM w7).drew;cases eb with
    | true =>
     go_region_held3 (fun(W:World)=>W.cell? ⟨b1,o1+k*2,none⟩=some l1/\W.cell? ⟨b1,o1+k*2+1,none⟩=some r1/\W.cell? ⟨b2,o2+k*2,none⟩=some l2/\W.cell? ⟨b2,o2+k*2+1,none⟩=some r2)
      (exact HC.out _ (by assumption))
      (first
       | (go_at_call 65;(with_reducible refine(HE.out _ (by assumption)).mono ?_);rintro e w8 ⟨rfl,f8⟩;have F8:Fr NoM w7 w8:=Fr.trans (by assumption) f8 (fun _ _ q=>q))
       | fail)
     all_goals
      have G8:=Hh F8;clear f8 F8 F0;go_wp2;go_roundw
      case rel=>exact⟨k+1,by omega,by go_num,by rw[List.take_succ_eq_append_getElem hlt',List.take_succ_eq_append_getElem hlt2,Ht.out,of_decide_eq_true HEb.out.symm],HFr.out.trans G8.out (fun _ _ q=>q)⟩
      case measure=>simp[intOf];omega
    | false =>
     have hf:decide (A=B)=false:=by
      have h1:A[k]≠B[k]:=of_decide_eq_false HEb.out.symm;have:A≠B:=fun e=>by subst e;exact h1 rfl
      simp[this]
     have HFn:=Hh hf;clear hf;go_region_held3 (fun(W:World)=>W.cell? ⟨b1,o1+k*2,none⟩=some l1/\W.cell? ⟨b1,o1+k*2+1,none⟩=some r1/\W.cell? ⟨b2,o2+k*2,none⟩=some l2/\W.cell? ⟨b2,o2+k*2+1,none⟩=some r2)
      (exact HC.out _ (by assumption))
      (first
       | (go_at_call 65;(with_reducible refine(HE.out _ (by assumption)).mono ?_);rintro e w8 ⟨rfl,f8⟩;have F8:Fr NoM w7 w8:=Fr.trans (by assumption) f8 (fun _ _ q=>q))
       | fail)
     all_goals
      have G8:=Hh F8;clear f8 F8 F0;go_wp2;go_ret;exact⟨by rw[HFn.out];rfl,HFr.out.trans G8.out (fun _ _ q=>q)⟩
   ·have hk':k=A.length:=by omega
    have hf:decide (A=B)=true:=HF.out (by rw[←hk'];exact Ht.out);have HFn:=Hh hf;have HK:=Hh hk';clear hk' hf;go_wp2;go_ret;exact⟨by rw[HFn.out];rfl,HFr.out⟩
 ·have hne:((A.length:Int) != (B.length:Int))=true:=by rw[bne_iff_ne];omega
  have hfin:decide (A=B)=false:=by
   have:A≠B:=fun e=>hn (by rw[e])
   simp[this]
  have Hfin:=Hh hfin;clear hfin hn;go_enter Tryz.func28,Tryz.ntmps28;go_wp2;go_ret;exact⟨by rw[Hfin.out];rfl,Fr.refl _ _⟩
set_option maxHeartbeats 1000000 in
theorem zx2 {R S:Nat→Prop} (av bv:Value) (A B:List PL) (w:World) (hA:NodeL R encN w av A) (hB:NodeL S encN w bv B) :
    Calls Tryz.prog 9 #[.agg #[av],.agg #[bv]] w fun e w'=>e=.returned (.bool (decide (A=B)))∧Fr NoM w w':=by
  have O1:av.oneCell'=true:=by obtain ⟨_,_,rfl,_⟩:=hA;rfl
  have O2:bv.oneCell'=true:=by obtain ⟨_,_,rfl,_⟩:=hB;rfl
  have F2:Fr NoM w ((w.alloc (.cells #[av] 26)).alloc (.cells #[bv] 26)):=((Fr.refl NoM w).alloc _).alloc _;have HE:=Hh (zst av bv A B _ (hA.fr0 F2) (hB.fr0 F2));have HF2:=Hh F2;clear hA hB F2;obtain ⟨eb,heb⟩:∃ eb,eb=decide (A=B):=⟨_,rfl⟩;rw [← heb] at HE ⊢;clear heb;go_enter Tryz.func9,Tryz.ntmps9;go_wp2_with fail;refine HE.out.mono ?_
  rintro e w' ⟨rfl,f⟩;have F3:=Hh (HF2.out.trans f (fun _ _ q=>q));clear f;cases eb <;>
    (go_wp2
     go_ret;exact ⟨rfl,F3.out⟩)
set_option maxHeartbeats 1000000 in
theorem zk0 (v:Value)(L:List Nat)(k:Nat)(w:World)(hL:Nats w v L)(hB:∀q,v.ownBlock=some q→RowB w q)(hk:k+L.length<1000000000) :
  Calls Tryz.prog 66 #[v,.int .i64 (k:Int)] w fun e w'=>e=.returned (.int .i64 ((k+L.length:Nat):Int))/\Nats w' v (List.range' k L.length)/\(∀q,v.ownBlock=some q→RowB w' q)/\Fr (Own1 v) w w':=by
 obtain⟨a,c,rfl,z⟩:=id hL;clear z;have HL:=Hh hL;have HB:=Hh hB;clear hL hB;go_enter Tryz.func66,Tryz.ntmps66;go_wp2;go_loopw [5,1] (fun i kv W=>∃j m:Nat,i=.int .i64 j/\kv=.int .i64 m/\m=k+j/\j≤L.length/\Nats W (.slice a L.length c) (List.range' k j++L.drop j)/\(∀q,(Value.slice a L.length c).ownBlock=some q→RowB W q)/\Fr (Own1 (.slice a L.length c)) w W) (fun i _ _=>L.length-(intOf i).toNat)
 case atStart=>exact⟨0,k,rfl,rfl,rfl,Nat.zero_le _,by simpa using HL.out,HB.out,Fr.refl _ _⟩
 case round =>
  obtain⟨j,m,rfl,rfl,hm,hj,hn,hb,hf⟩:=hrel;by_cases hlt:j<L.length
  ·have hlen:(List.range' k j++L.drop j).length=L.length:=by simp;omega
   have hmb:m<1000000000:=by omega
   obtain⟨a',c',e,h1,h2,h3⟩:=id hn;rw[hlen]at e;cases e
   obtain⟨b,off,ha,hcc⟩:=h3 j _ (List.getElem?_eq_getElem (by omega));clear hcc;subst ha;obtain⟨⟨u,hu⟩,hz,hset,hrow⟩:=ybe m hn (hb b rfl) (i:=j) (by omega);have ix:=zaa (some ⟨b,off,none⟩) L.length c j b off hlt rfl;have hnext:(List.range' k j++L.drop j).set j m=List.range' k (j+1)++L.drop (j+1):=by
    rw[List.set_append_right _ _ (by simp),List.length_range',Nat.sub_self,List.drop_eq_getElem_cons hlt,List.set_cons_zero,hm,List.range'_concat,Nat.one_mul];simp
   rw[hnext]at hset;have hfw:=Fr.setCell hf ⟨b,off+j,none⟩ (encN m) (fun _=>rfl);have HM:=Hh hm;have HSet:=Hh hset;have HRow:=Hh hrow;have HFw:=Hh hfw;clear hm hn hb hf h1 h2 h3 hset hrow hfw hlen hnext;go_wp2;go_roundw
   case rel=>exact⟨j+1,m+1,by go_num,by go_num,by rw[HM.out];rfl,by omega,HSet.out,fun q hq=>by
    have e:b=q:=Option.some.inj hq;subst e;exact HRow.out,HFw.out⟩
   case measure=>simp[intOf];omega
  ·have hj':j=L.length:=by omega
   subst hj';have hn':Nats wr (.slice a L.length c) (List.range' k L.length):=by simpa using hn
   have HM:=Hh hm;have HN:=Hh hn';have HB2:=Hh hb;have HF:=Hh hf;clear hm hn hn' hb hf;go_wp2;go_ret;exact⟨by rw[HM.out];rfl,HN.out,HB2.out,HF.out⟩
set_option maxHeartbeats 2000000 in
theorem zoq (D:Nat)(v:Value)(FN:List PL)(NV:List (Value × Value))(k:Nat)(w:World)(h:NodesN D w v FN NV)(hk:k+cntF FN<1000000000)(hl:FN.length<1000000000) :
  Calls Tryz.prog 29 #[v,.int .i64 (k:Int)] w fun e w'=>e=.returned (.int .i64 ((k+cntF FN:Nat):Int))/\NodesN D w' v (zed k FN) NV/\Fr (fun q=>q∈zas NV) w w':=by
 obtain⟨a,c,rfl,z⟩:=Pairs.of_owns h.row;clear z;have hnl:NV.length=FN.length:=h.len;rw[hnl]at h ⊢;have H:=Hh h;have HNl:=Hh hnl;clear h hnl;go_enter Tryz.func29,Tryz.ntmps29;go_wp2;go_loopw [5,1] (fun i kv W=>∃j m:Nat,i=.int .i64 j/\kv=.int .i64 m/\m=k+cntF (FN.take j)/\j≤FN.length/\NodesN D W (.slice a FN.length c) (midF k j FN) NV/\Fr (fun q=>q∈zas NV) w W) (fun i _ _=>FN.length-(intOf i).toNat)
 case atStart=>exact⟨0,k,rfl,rfl,by simp[cntF],Nat.zero_le _,by rw[zz1];exact H.out,Fr.refl _ _⟩
 case round =>
  obtain⟨j,m,rfl,rfl,hm,hj,hn,hf⟩:=hrel;obtain⟨w7,rfl⟩:∃w7,w7=wr:=⟨_,rfl⟩;by_cases hlt:j<FN.length
  ·obtain⟨y,hy⟩:∃y,FN[j]?=some y:=⟨_,List.getElem?_eq_getElem hlt⟩
   obtain⟨⟨xl,xr⟩,hx⟩:∃x,NV[j]?=some x:=⟨NV[j]'(by rw[HNl.out];exact hlt),List.getElem?_eq_getElem _⟩;have hmy:=ybi (k:=k) hy;obtain⟨s1,s2⟩:=hn.nats j _ _ hx hmy;obtain⟨m1,m2⟩:=zcp hx;have hsum:=zh0 hy;have hle:=zk8 FN (j+1);have HRd:=Hh (fun(W:World) (v:Value) (F:List PL) (h:NodesN D W (.slice a FN.length c) F NV)=>show ∃b off,a=some ⟨b,off,none⟩/\W.cell? ⟨b,off+j*2,none⟩=some xl/\W.cell? ⟨b,off+j*2+1,none⟩=some xr from by
    obtain⟨a',c',e,_,_,h6⟩:=Pairs.of_owns h.row;obtain⟨b,off,ha,c1,c2⟩:=h6 j _ hx;have e1:a=a':=by injection e
    exact⟨b,off,by rw[e1,ha],c1,c2⟩)
   obtain⟨b,off,rfl,d1,_⟩:=HRd.out w7 (.bool true) _ hn;have ix:=zbe (some ⟨b,off,none⟩) FN.length c j b off hlt rfl;have hmk:=zk0 xl y.1 m w7 s1 (fun q hq=>hn.thaw q (m1 q hq)) (by omega);have HMk:=Hh hmk;have HN:=Hh hn;have HF:=Hh hf;have HM:=Hh hm;have HX:=Hh hx;have HY:=Hh hy;have HMy:=Hh hmy;have HM1:=Hh m1;have HM2:=Hh m2;have HSum:=Hh hsum;have HLe:=Hh hle;clear hmk hn hf hm hx hy hmy s1 s2 m1 m2 hsum hle;go_wp2_with fail;refine HMk.out.mono ?_
   rintro e w8 ⟨rfl,n8,b8,f8⟩;have hN8:=HN.out.upd1 HX.out HMy.out f8 n8 b8;have hF8:Fr (fun q=>q∈zas NV) w w8:=HF.out.trans f8 (fun q _ e=>HM1.out q e);obtain⟨m8,hm8⟩:∃m8,m8=m+y.1.length:=⟨_,rfl⟩;rw[←hm8];have hjm:j<(midF k j FN).length:=by rw[zsd _ _ _ hj];exact hlt
   have hy8:((midF k j FN).set j (List.range' m y.1.length,y.2))[j]?=some (List.range' m y.1.length,y.2):=by rw[List.getElem?_set_self hjm]
   obtain⟨t1,t2⟩:=hN8.nats j _ _ HX.out hy8;obtain⟨b',off',e,_,d2⟩:=HRd.out w8 (.bool true) _ hN8;cases e
   have hmk2:=zk0 xr y.2 m8 w8 t2 (fun q hq=>hN8.thaw q (HM2.out q hq)) (by have:=HSum.out;have:=HLe.out;have:=HM.out;omega);have HMk2:=Hh hmk2;have HN8:=Hh hN8;have HF8:=Hh hF8;have HY8:=Hh hy8;have HM8:=Hh hm8;clear hmk2 hN8 hF8 n8 b8 f8 hy8 t1 t2 hm8 d1 hjm;go_wp2_with fail;refine HMk2.out.mono ?_
   rintro e w9 ⟨rfl,n9,b9,f9⟩;have hN9:=HN8.out.upd2 HX.out HY8.out f9 n9 b9;have hF9:Fr (fun q=>q∈zas NV) w w9:=HF8.out.trans f9 (fun q _ e=>HM2.out q e);have hnx:=zz2 (k:=k) HY.out;rw[←HM.out,←HM8.out]at hnx;rw[hnx]at hN9;obtain⟨m9,hm9⟩:∃m9,m9=m8+y.2.length:=⟨_,rfl⟩;rw[←hm9];have HN9:=Hh hN9;have HF9:=Hh hF9;have HM9:=Hh hm9;clear hN9 hF9 hnx n9 b9 f9 hm9 d2;go_wp2;go_roundw
   case rel=>exact⟨j+1,m9,by go_num,rfl,by rw[HM9.out,HM8.out,HM.out,HSum.out];omega,by omega,HN9.out,HF9.out⟩
   case measure=>simp[intOf];omega
  ·have hj':j=FN.length:=by omega
   subst hj';rw[ybk]at hn;rw[List.take_length]at hm;have HM:=Hh hm;have HN:=Hh hn;have HF:=Hh hf;clear hm hn hf;go_wp2;go_ret;exact⟨by rw[HM.out];rfl,HN.out,HF.out⟩
set_option maxHeartbeats 1000000 in
theorem zpz (D:Nat)(v:Value)(FN:List PL)(NV:List (Value × Value))(k:Nat)(w:World)(h:NodesN D w v FN NV)(hk:k+cntF FN<1000000000)(hl:FN.length<1000000000) :
  Calls Tryz.prog 10 #[.agg #[v],.int .i64 (k:Int)] w fun e w'=>e=.returned (.int .i64 ((k+cntF FN:Nat):Int))/\NodesN D w' v (zed k FN) NV/\Fr (fun q=>q∈zas NV) w w':=by
 have O1:v.oneCell'=true:=by obtain⟨_,_,rfl,_⟩:=Pairs.of_owns h.row;rfl
 have f1:Fr NoM w (w.alloc (.cells #[v] 26)):=(Fr.refl NoM w).alloc _;have HK:=Hh (zoq D v FN NV k _ (h.fr f1 (fun _ _ _ q=>q)) hk hl);have HF1:=Hh f1;obtain⟨m,hm⟩:∃m,m=k+cntF FN:=⟨_,rfl⟩;rw[←hm]at HK ⊢;clear h f1 hm;go_enter Tryz.func10,Tryz.ntmps10;go_wp2_with fail;refine HK.out.mono ?_
 rintro e w' ⟨rfl,hn,f⟩;have HN:=Hh hn;have F3:=Hh (HF1.out.any.trans f (fun _ _ q=>q));clear hn f;go_wp2;go_ret;exact⟨rfl,HN.out,F3.out⟩
set_option maxHeartbeats 1000000 in
theorem zk4 (v:Value)(n k:Nat)(w:World)(hL:Nats w v (List.range' k n))(hk:k+n<1000000000) :
  Calls Tryz.prog 67 #[v,.int .i64 (k:Int)] w fun e w'=>e=.returned (.int .i64 ((k+n:Nat):Int))/\w'=w:=by
 obtain⟨a,c,rfl,h1,h2,h3⟩:=hL;rw[List.length_range']at h1 ⊢;have H3:=Hh h3;clear h3;go_enter Tryz.func67,Tryz.ntmps67;go_wp2;go_loop [5,1] (fun i kv=>∃j m:Nat,i=.int .i64 j/\kv=.int .i64 m/\m=k+j/\j≤n) (fun i _=>n-(intOf i).toNat)
 case atStart=>exact⟨0,k,rfl,rfl,rfl,Nat.zero_le _⟩
 case round =>
  obtain⟨j,m,rfl,rfl,hm,hj⟩:=hrel;by_cases hlt:j<n
  ·have hmb:m<1000000000:=by omega
   obtain⟨b,off,rfl,c0⟩:=H3.out j m (by rw[List.getElem?_range' hlt,hm,Nat.one_mul]);have c1:w.cell? ⟨b,off+j,none⟩=some (.int .i64 (m:Int)):=c0;clear c0;have ix:=zaa (some ⟨b,off,none⟩) n c j b off hlt rfl;have hne:((m:Int) != (m:Int))=false:=by simp
   have HM:=Hh hm;clear hm;go_wp2;go_round
   case rel=>exact⟨j+1,m+1,by go_num,by go_num,by rw[HM.out];rfl,by omega⟩
   case measure=>simp[intOf];omega
  ·have hj':j=n:=by omega
   subst hj';have HM:=Hh hm;clear hm;go_wp2;go_ret;exact⟨by rw[HM.out];rfl,rfl⟩
set_option maxHeartbeats 2000000 in
theorem zox (D:Nat)(v:Value)(FN:List PL)(NV:List (Value × Value))(k:Nat)(w:World)(h:NodesN D w v (zed k FN) NV)(hk:k+cntF FN<1000000000)(hl:FN.length<1000000000) :
  Calls Tryz.prog 30 #[v,.int .i64 (k:Int)] w fun e w'=>e=.returned (.int .i64 ((k+cntF FN:Nat):Int))/\w'=w:=by
 obtain⟨a,c,rfl,_,_,h6⟩:=Pairs.of_owns h.row;have hnl:NV.length=FN.length:=h.len.trans (zca k FN);have hnats:=h.nats;rw[hnl];have H6:=Hh h6;have HNats:=Hh hnats;have HNl:=Hh hnl;clear h h6 hnl hnats;go_enter Tryz.func30,Tryz.ntmps30;go_wp2;go_loop [5,1] (fun i kv=>∃j m:Nat,i=.int .i64 j/\kv=.int .i64 m/\m=k+cntF (FN.take j)/\j≤FN.length) (fun i _=>FN.length-(intOf i).toNat)
 case atStart=>exact⟨0,k,rfl,rfl,by simp[cntF],Nat.zero_le _⟩
 case round =>
  obtain⟨j,m,rfl,rfl,hm,hj⟩:=hrel;by_cases hlt:j<FN.length
  ·obtain⟨y,hy⟩:∃y,FN[j]?=some y:=⟨_,List.getElem?_eq_getElem hlt⟩
   obtain⟨⟨xl,xr⟩,hx⟩:∃x,NV[j]?=some x:=⟨NV[j]'(by rw[HNl.out];exact hlt),List.getElem?_eq_getElem _⟩;obtain⟨s1,s2⟩:=HNats.out j _ _ hx (zz3 hy);obtain⟨b,off,rfl,d1,d2⟩:=H6.out j _ hx;have ix:=zbe (some ⟨b,off,none⟩) FN.length c j b off hlt rfl;have hsum:=zh0 hy;have hle:=zk8 FN (j+1);rw[←hm]at s1 s2;obtain⟨m1,hm1⟩:∃m1,m1=m+y.1.length:=⟨_,rfl⟩;rw[←hm1]at s2;obtain⟨m2,hm2⟩:∃m2,m2=m1+y.2.length:=⟨_,rfl⟩;have g1:=zk4 xl y.1.length m w s1 (by omega);have g2:=zk4 xr y.2.length m1 w s2 (by omega);rw[←hm1]at g1;rw[←hm2]at g2;have n1:decide ((m1:Int)<0)=false:=by simp
   have n2:decide ((m2:Int)<0)=false:=by simp
   have G1:=Hh g1;have G2:=Hh g2;have HM:=Hh hm;have HM1:=Hh hm1;have HM2:=Hh hm2;have HSum:=Hh hsum;clear g1 g2 hm hm1 hm2 hsum hle s1 s2 hx hy;go_wp2_with fail;refine G1.out.mono ?_
   rintro e w8 ⟨rfl,rfl⟩;go_wp2_with fail;refine G2.out.mono ?_
   rintro e w9 ⟨rfl,rfl⟩;go_wp2;go_round
   case rel=>exact⟨j+1,m2,by go_num,rfl,by rw[HM2.out,HM1.out,HM.out,HSum.out];omega,by omega⟩
   case measure=>simp[intOf];omega
  ·have hj':j=FN.length:=by omega
   subst hj';rw[List.take_length]at hm;have HM:=Hh hm;clear hm;go_wp2;go_ret;exact⟨by rw[HM.out];rfl,rfl⟩
set_option maxHeartbeats 1000000 in
theorem zr3 (D:Nat)(v:Value)(FN:List PL)(NV:List (Value × Value))(k:Nat)(w:World)(h:NodesN D w v (zed k FN) NV)(hk:k+cntF FN<1000000000)(hl:FN.length<1000000000) :
  Calls Tryz.prog 11 #[.agg #[v],.int .i64 (k:Int)] w fun e w'=>e=.returned (.int .i64 ((k+cntF FN:Nat):Int))/\Fr NoM w w':=by
 have O1:v.oneCell'=true:=by obtain⟨_,_,rfl,_⟩:=Pairs.of_owns h.row;rfl
 have f1:Fr NoM w (w.alloc (.cells #[v] 26)):=(Fr.refl NoM w).alloc _;have HK:=Hh (zox D v FN NV k _ (h.fr f1 (fun _ _ _ q=>q)) hk hl);have HF1:=Hh f1;obtain⟨m,hm⟩:∃m,m=k+cntF FN:=⟨_,rfl⟩;rw[←hm]at HK ⊢;have n1:decide ((m:Int)<0)=false:=by simp
 clear h f1 hm;go_enter Tryz.func11,Tryz.ntmps11;go_wp2_with fail;refine HK.out.mono ?_
 rintro e w' ⟨rfl,rfl⟩;go_wp2;go_ret;exact⟨rfl,HF1.out⟩
end Go.Proofs.YtghekfmfonoocaaGreatDoor
