import Derived.Test.YtkofnbjjbcohgaaGreatDoorZw7
/- Lemmas. -/
namespace Go.Proofs.YtkofnbjjbcohgaaGreatDoor
set_option linter.unusedVariables false
set_option linter.unusedSimpArgs false
open Go.RowKit
theorem zt5:(Tryz.prog.info? 99).map (fun i=>(i.zero,i.size,i.bytes))=some (some (.agg #[.int .i64 0,.slice none 0 0,.slice none 0 0]),3,56):=by kernel_rfl
def zgs (A:List Nat)(x:Nat):Option Nat:=if x∈A then some (A.idxOf x)else none
theorem zpx (A:List Nat)(x:Nat)(h:x ∉ A):upd (zgs A) x A.length=zgs (A ++ [x]):=by
 funext y
 unfold upd zgs;by_cases e:y=x
 ·subst e;simp[List.idxOf_append,h]
 ·by_cases hy:y∈A
  ·simp[e,hy,List.idxOf_append]
  ·simp[e,hy]
theorem znd {A L:List Nat}(h:∀x∈L,x∈A):zfb (zgs A) L=L.map fun x=>A.idxOf x:=by
 unfold zfb;refine List.map_congr_left fun x hx=>?_
 unfold zgs;rw[if_pos (h x hx)];rfl
def RowB (w:World)(q:Nat):Prop:=∃cur:Array Value,w.heap[q]?=some (.cells cur 3 (0,0))
theorem RowB.fr {M:Nat→Prop}{w w':World}{q:Nat}(h:RowB w q)(hf:Fr M w w')(hm:¬M q):RowB w' q:=by
 obtain⟨cur,h⟩:=h;exact⟨cur,hf.heap h hm⟩
theorem RowB.of_owns {w:World}{base g n cap:Nat}{xs:List Value}(h:w.ownsRow base 3 1 (.slice (some ⟨g,0,none⟩) n cap) n xs):RowB w g:=by
 rcases h.2 with ⟨h0,_⟩|⟨g',cap',cur,hv,hb,hg,hnc,hcm,hs,ht⟩
 ·cases h0
 ·cases hv
  exact⟨cur,hg⟩
theorem zhn (v:Value)(L A:List Nat)(rb:Nat)(w:World)(hL:Nats w v L)(hR:MapF encN encN w rb (zgs A))(hA:∀x∈L,x∈A)(hu:L.Pairwise (· < ·))(hl:L.length<1000000000) :
  Calls Tryz.prog 61 #[v,.map (some rb)] w fun e w'=>∃g,e=.returned (.slice (some ⟨g,0,none⟩) L.length L.length)/\Nats w' (.slice (some ⟨g,0,none⟩) L.length L.length) (zd0 A L)/\w.heap.size≤g/\g<w'.heap.size/\Fr NoM w w'∧RowB w' g:=by
 refine(zpv v L rb (zgs A) w hL hR hl).mono ?_
 rintro e w' ⟨g,rfl,h,f⟩;have hnd:(L.map fun x=>A.idxOf x).Nodup:=by
  refine List.nodup_iff_pairwise_ne.2 (List.pairwise_map.2 (hu.imp_of_mem fun {a b} ha hb hlt e=>?_));have h1:=(ze3 (hA a ha)).2;have h2:=(ze3 (hA b hb)).2;rw[e,h2]at h1;omega
 rw[znd hA,zn6 _ hnd]at h;have hx:(ints (za6 (L.map fun x=>A.idxOf x))).map encI=(zd0 A L).map encN:=by simp[ints,encN,encI,Function.comp_def,zd0]
 rw[hx]at h;exact⟨g,rfl,SliceOf.of_owns h rfl,(h.lt g rfl).1,(h.lt g rfl).2,f,RowB.of_owns h⟩
def zb6 (NV:List (Value × Value)):List Nat:=(zay NV).filterMap Value.ownBlock
theorem zck (NV:List (Value × Value))(l r:Value):zb6 (NV ++ [(l,r)])=zb6 NV ++ [l,r].filterMap Value.ownBlock:=by simp[zb6,zay]
theorem zg6 {NV:List (Value × Value)}{j:Nat}{x:Value × Value}(h:NV[j]?=some x):(∀q,x.1.ownBlock=some q→q∈zb6 NV)/\∀q,x.2.ownBlock=some q→q∈zb6 NV:=by
 have hx:=List.mem_of_getElem? h;constructor
 ·intro q hq;exact List.mem_filterMap.2 ⟨x.1,List.mem_flatMap.2 ⟨x,hx,by simp⟩,hq⟩
 ·intro q hq;exact List.mem_filterMap.2 ⟨x.2,List.mem_flatMap.2 ⟨x,hx,by simp⟩,hq⟩
theorem ziq (l r:Value)(h:∀q,l.ownBlock=some q→r.ownBlock≠some q):([l,r].filterMap Value.ownBlock).Nodup:=by
 cases hl:l.ownBlock with
 | none=>cases hr:r.ownBlock <;> simp[List.filterMap_cons,hl,hr]
 | some a =>
  cases hr:r.ownBlock with
  | none=>simp[List.filterMap_cons,hl,hr]
  | some b =>
   have hne:a≠b:=fun e=>h a hl (by rw[hr,e])
   simp[List.filterMap_cons,hl,hr,hne]
theorem zez {l r:Value}{q:Nat}(h:q∈[l,r].filterMap Value.ownBlock):l.ownBlock=some q∨r.ownBlock=some q:=by
 obtain⟨u,hu,hq⟩:=List.mem_filterMap.1 h;simp at hu;rcases hu with rfl|rfl
 ·exact .inl hq
 ·exact .inr hq
structure NodesN (D:Nat) (w:World) (v:Value) (FN:List PL) (NV:List (Value × Value)):Prop where
 row:w.ownsRow D 55 2 v NV.length (zay NV)
 len:NV.length=FN.length
 nats:∀(j:Nat) (x:Value × Value) (y:PL),NV[j]?=some x→FN[j]?=some y→Nats w x.1 y.1/\Nats w x.2 y.2
 blk:∀q∈zb6 NV,D≤q/\q<w.heap.size/\v.ownBlock≠some q
 sep:(zb6 NV).Nodup
 thaw:∀q∈zb6 NV,RowB w q
def NodesS (D:Nat)(w:World)(v:Value)(FN:List PL):Prop:=∃NV,NodesN D w v FN NV
theorem NodesN.fr {M:Nat→Prop}{D:Nat}{w w':World}{v:Value}{FN:List PL}{NV:List (Value × Value)}(h:NodesN D w v FN NV)(hf:Fr M w w')(hM:∀q,D≤q→q<w.heap.size→¬M q):NodesN D w' v FN NV:=by
 refine⟨za2 h.row hf (fun q hq=>hM q (h.row.lt q hq).1 (h.row.lt q hq).2),h.len,fun j x y hx hy=>?_,fun q hq=>⟨(h.blk q hq).1,Nat.lt_of_lt_of_le (h.blk q hq).2.1 hf.size,(h.blk q hq).2.2⟩,h.sep,fun q hq=>(h.thaw q hq).fr hf (hM q (h.blk q hq).1 (h.blk q hq).2.1)⟩;obtain⟨s1,s2⟩:=h.nats j x y hx hy;obtain⟨m1,m2⟩:=zg6 hx;exact⟨s1.fr hf (fun _ q hq=>hM q (h.blk q (m1 q hq)).1 (h.blk q (m1 q hq)).2.1),s2.fr hf (fun _ q hq=>hM q (h.blk q (m2 q hq)).1 (h.blk q (m2 q hq)).2.1)⟩
theorem NodesS.fr {M:Nat→Prop}{D:Nat}{w w':World}{v:Value}{FN:List PL}(h:NodesS D w v FN)(hf:Fr M w w')(hM:∀q,D≤q→q<w.heap.size→¬M q):NodesS D w' v FN:=by
 obtain⟨NV,h⟩:=h;exact⟨NV,h.fr hf hM⟩
theorem NodesS.base {D D':Nat}{w:World}{v:Value}{FN:List PL}(h:NodesS D w v FN)(hd:D'≤D):NodesS D' w v FN:=by
 obtain⟨NV,h⟩:=h;exact⟨NV,zb2 h.row hd,h.len,h.nats,fun q hq=>⟨Nat.le_trans hd (h.blk q hq).1,(h.blk q hq).2⟩,h.sep,h.thaw⟩
theorem NodesS.made (w:World)(n:Nat)(hn:n≤9223372036854775807)(cur:Array Value)(hc:cur.size=n*2):NodesS w.heap.size (w.alloc (.cells cur 55)) (.slice (some ⟨w.heap.size,0,none⟩) 0 n) [] :=
 ⟨[],⟨rfl,.inr ⟨_,n,cur,rfl,Nat.le_refl _,heap_alloc_new w _,Nat.zero_le _,hn,hc,by simp[zay]⟩⟩,rfl,by simp,by simp[zb6,zay],by simp[zb6,zay],by simp[zb6,zay]⟩
theorem NodesN.snoc {D:Nat}{w w':World}{v v':Value}{FN:List PL}{x:PL}{l r:Value}{NV:List (Value × Value)}(h:NodesN D w v FN NV)
  (hl:Nats w l x.1/\∀q,l.ownBlock=some q→D≤q/\q<w.heap.size/\v.ownBlock≠some q) (hr:Nats w r x.2/\∀q,r.ownBlock=some q→D≤q/\q<w.heap.size/\v.ownBlock≠some q)
  (hlr:∀q,l.ownBlock=some q→r.ownBlock≠some q) (hnew:∀q∈zb6 NV,l.ownBlock≠some q/\r.ownBlock≠some q)
  (hth:∀q,l.ownBlock=some q∨r.ownBlock=some q→RowB w q)
  (hown:w'.ownsRow D 55 2 v' (NV.length+1) (zay NV ++ [l,r])) (hf:Fr (Own1 v) w w') (hb:v'.ownBlock=v.ownBlock∨∃b,v'.ownBlock=some b/\w.heap.size≤b):NodesN D w' v' (FN ++ [x]) (NV ++ [(l,r)]):=by
 have hup:∀q,(D≤q/\q<w.heap.size/\v.ownBlock≠some q)→(D≤q/\q<w'.heap.size/\v'.ownBlock≠some q):=fun q ⟨h1,h2,h3⟩=>⟨h1,Nat.lt_of_lt_of_le h2 hf.size,fun e=>by
  rcases hb with hb|⟨b,hb,hb2⟩
  ·exact h3 (hb ▸ e)
  ·rw[hb]at e;cases e;omega⟩
 have hfl:zay NV ++ [l,r]=zay (NV ++ [(l,r)]):=by simp[zay]
 rw[hfl]at hown;refine⟨by rw[List.length_append];exact hown,by simp[h.len],fun j a y ha hy=>?_,fun q hq=>?_,?_,fun q hq=>?_⟩
 ·by_cases hj:j<NV.length
  ·rw[List.getElem?_append_left hj]at ha
   rw[List.getElem?_append_left (by rw[←h.len];exact hj)]at hy;obtain⟨s1,s2⟩:=h.nats j a y ha hy;obtain⟨m1,m2⟩:=zg6 ha;exact⟨s1.fr hf (fun _ q hq=>(h.blk q (m1 q hq)).2.2),s2.fr hf (fun _ q hq=>(h.blk q (m2 q hq)).2.2)⟩
  ·have hje:j=NV.length:=by have:=(List.getElem?_eq_some_iff.1 ha).1;simp at this;omega
   subst hje;have e1:a=(l,r):=by simpa using ha.symm
   have e2:y=x:=by rw[h.len]at hy;simpa using hy.symm
   subst e1;subst e2;exact⟨hl.1.fr hf (fun _ q hq=>(hl.2 q hq).2.2),hr.1.fr hf (fun _ q hq=>(hr.2 q hq).2.2)⟩
 ·rw[zck,List.mem_append]at hq
  rcases hq with hq|hq
  ·exact hup q (h.blk q hq)
  ·rcases zez hq with hq|hq
   ·exact hup q (hl.2 q hq)
   ·exact hup q (hr.2 q hq)
 ·rw[zck,List.nodup_append]
  refine⟨h.sep,ziq l r hlr,fun q hq p hp e=>?_⟩;subst e;rcases zez hp with hp|hp
  ·exact(hnew q hq).1 hp
  ·exact(hnew q hq).2 hp
 ·rw[zck,List.mem_append]at hq
  rcases hq with hq|hq
  ·exact(h.thaw q hq).fr hf (h.blk q hq).2.2
  ·refine(hth q (zez hq)).fr hf ?_
   rcases zez hq with hq|hq
   ·exact(hl.2 q hq).2.2
   ·exact(hr.2 q hq).2.2
theorem NodesS.nodeL {D:Nat}{w:World}{v:Value}{FN:List PL}(h:NodesS D w v FN):NodeL (D≤·) encN w v FN:=by
 obtain⟨NV,h⟩:=h;have hr:NodeRow (D≤·) D w v FN:=⟨NV,h.row,h.len,fun j x y hx hy=>by
  obtain⟨s1,s2⟩:=h.nats j x y hx hy;obtain⟨m1,m2⟩:=zg6 hx;exact⟨s1,s2,fun _ q hq=>(h.blk q (m1 q hq)).1,fun _ q hq=>(h.blk q (m2 q hq)).1⟩⟩
 exact hr.nodeL (fun _ hb=>hb) (fun _ hb=>hb)
theorem NodesS.nil (D:Nat)(w:World):NodesS D w (.slice none 0 0) []:=⟨[],⟨rfl,.inl ⟨rfl,rfl⟩⟩,rfl,by simp,by simp[zb6,zay],by simp[zb6,zay],by simp[zb6,zay]⟩
def fG (V:List PL)(A G:List Nat)(i:Nat):PL:=if i∈G then zb7 A (za4 V i)else ([],[])
def zbb (lv rv:Nat→Value)(G:List Nat):List Nat:=(G.flatMap fun x=>[lv x,rv x]).filterMap Value.ownBlock
theorem zc7 (lv rv:Nat→Value)(G H:List Nat):zbb lv rv (G++H)=zbb lv rv G++zbb lv rv H:=by simp[zbb]
theorem zfe (lv rv:Nat→Value)(x:Nat):zbb lv rv [x]=[lv x,rv x].filterMap Value.ownBlock:=by simp[zbb]
theorem znr {lv rv:Nat→Value}{G:List Nat}{q:Nat}(h:q∈zbb lv rv G):∃x∈G,(lv x).ownBlock=some q∨(rv x).ownBlock=some q:=by
 obtain⟨u,hu,hq⟩:=List.mem_filterMap.1 h;obtain⟨x,hx,hu⟩:=List.mem_flatMap.1 hu;simp at hu;rcases hu with rfl|rfl
 ·exact⟨x,hx,.inl hq⟩
 ·exact⟨x,hx,.inr hq⟩
theorem zmx {lv rv:Nat→Value}{G H:List Nat}(h:G.Perm H):(zbb lv rv G).Perm (zbb lv rv H):=(h.flatMap_right _).filterMap _
structure ERow (Z:Nat) (w:World) (v:Value) (G:List Nat) (lv rv:Nat→Value) (f:Nat→PL):Prop where
 row:w.ownsRow Z 99 3 v G.length (zem lv rv G)
 left:∀i,Nats w (lv i) (f i).1/\∀q,(lv i).ownBlock=some q→Z≤q/\q<w.heap.size/\v.ownBlock≠some q
 right:∀i,Nats w (rv i) (f i).2/\∀q,(rv i).ownBlock=some q→Z≤q/\q<w.heap.size/\v.ownBlock≠some q
 sep:(zbb lv rv G).Nodup
 thaw:∀i q,(lv i).ownBlock=some q∨(rv i).ownBlock=some q→RowB w q
theorem ERow.fr {M:Nat→Prop}{Z:Nat}{w w':World}{v:Value}{G:List Nat}{lv rv:Nat→Value}{f:Nat→PL}(h:ERow Z w v G lv rv f)(hf:Fr M w w')(hM:∀q,Z≤q→q<w.heap.size→¬M q):ERow Z w' v G lv rv f :=
 ⟨za2 h.row hf (fun q hq=>hM q (h.row.lt q hq).1 (h.row.lt q hq).2),
  fun i=>⟨(h.left i).1.fr hf (fun _ q hq=>hM q ((h.left i).2 q hq).1 ((h.left i).2 q hq).2.1),fun q hq=>⟨((h.left i).2 q hq).1,Nat.lt_of_lt_of_le ((h.left i).2 q hq).2.1 hf.size,((h.left i).2 q hq).2.2⟩⟩,
  fun i=>⟨(h.right i).1.fr hf (fun _ q hq=>hM q ((h.right i).2 q hq).1 ((h.right i).2 q hq).2.1),fun q hq=>⟨((h.right i).2 q hq).1,Nat.lt_of_lt_of_le ((h.right i).2 q hq).2.1 hf.size,((h.right i).2 q hq).2.2⟩⟩,h.sep,fun i q hq=>(h.thaw i q hq).fr hf (by
   rcases hq with hq|hq
   ·exact hM q ((h.left i).2 q hq).1 ((h.left i).2 q hq).2.1
   ·exact hM q ((h.right i).2 q hq).1 ((h.right i).2 q hq).2.1)⟩
def setV (f:Nat→Value)(x:Nat)(v:Value)(i:Nat):Value:=if i=x then v else f i
theorem ztd (lv rv:Nat→Value)(G:List Nat)(x:Nat)(l r:Value)(h:x ∉ G):zem (setV lv x l) (setV rv x r) (G ++ [x])=zem lv rv G ++ [encN x,l,r]:=by
 unfold zem;rw[List.flatMap_append];have e1:G.flatMap (enc3 (setV lv x l) (setV rv x r))=G.flatMap (enc3 lv rv):=by
  rw[List.flatMap_def,List.flatMap_def];congr 1
  refine List.map_congr_left fun i hi=>?_
  have hne:¬i=x:=fun e=>h (e ▸ hi)
  simp[enc3,setV,hne]
 rw[e1];simp[enc3,setV]
theorem zo5 (lv rv:Nat→Value)(G:List Nat)(x:Nat)(l r:Value)(h:x ∉ G):zbb (setV lv x l) (setV rv x r) (G ++ [x])=zbb lv rv G ++ [l,r].filterMap Value.ownBlock:=by
 rw[zc7,zfe];have e1:G.flatMap (fun y=>[setV lv x l y,setV rv x r y])=G.flatMap (fun y=>[lv y,rv y]):=by
  rw[List.flatMap_def,List.flatMap_def];congr 1
  refine List.map_congr_left fun i hi=>?_
  have hne:¬i=x:=fun e=>h (e ▸ hi)
  simp[setV,hne]
 have e2:zbb (setV lv x l) (setV rv x r) G=zbb lv rv G:=by unfold zbb;rw[e1]
 rw[e2];simp[setV]
theorem ERow.snoc {Z:Nat}{w w1 w':World}{v v':Value}{G:List Nat}{lv rv:Nat→Value}{V:List PL}{A:List Nat}{x:Nat}{l r:Value}(h:ERow Z w v G lv rv (fG V A G))(hx:x ∉ G)(hf1:Fr NoM w w1)
  (hlr:∀q,l.ownBlock=some q→r.ownBlock≠some q) (hge:∀q,l.ownBlock=some q∨r.ownBlock=some q→w.heap.size≤q) (hth:∀q,l.ownBlock=some q∨r.ownBlock=some q→RowB w1 q)
  (hl:Nats w1 l (zb7 A (za4 V x)).1/\∀q,l.ownBlock=some q→Z≤q/\q<w1.heap.size/\v.ownBlock≠some q) (hr:Nats w1 r (zb7 A (za4 V x)).2/\∀q,r.ownBlock=some q→Z≤q/\q<w1.heap.size/\v.ownBlock≠some q)
  (hown:w'.ownsRow Z 99 3 v' (G.length+1) (zem lv rv G ++ [encN x,l,r])) (hf:Fr (Own1 v) w1 w') (hb:v'.ownBlock=v.ownBlock∨∃b,v'.ownBlock=some b/\w1.heap.size≤b):ERow Z w' v' (G ++ [x]) (setV lv x l) (setV rv x r) (fG V A (G ++ [x])):=by
 have h1:=h.fr hf1 (fun _ _ _ q=>q);have hnew:∀q,(Z≤q/\q<w1.heap.size/\v.ownBlock≠some q)→(Z≤q/\q<w'.heap.size/\v'.ownBlock≠some q):=fun q ⟨h1,h2,h3⟩=>⟨h1,Nat.lt_of_lt_of_le h2 hf.size,fun e=>by
  rcases hb with hb|⟨b,hb,hb2⟩
  ·exact h3 (hb ▸ e)
  ·rw[hb]at e;cases e;omega⟩
 have hsep:(zbb (setV lv x l) (setV rv x r) (G ++ [x])).Nodup:=by
  rw[zo5 _ _ _ _ _ _ hx,List.nodup_append];refine⟨h.sep,ziq l r hlr,fun q hq p hp e=>?_⟩;subst e;have h1:=hge q (zez hp);obtain⟨i,_,hi|hi⟩:=znr hq
  ·have:=((h.left i).2 q hi).2.1;omega
  ·have:=((h.right i).2 q hi).2.1;omega
 refine⟨by rw[List.length_append,ztd _ _ _ _ _ _ hx];exact hown,fun i=>?_,fun i=>?_,hsep,fun i q hq=>?_⟩
 ·by_cases e:i=x
  ·subst e
   have e1:fG V A (G ++ [i]) i=zb7 A (za4 V i):=if_pos (by simp);rw[e1];simp only[setV,if_true];exact⟨hl.1.fr hf (fun _ q hq=>(hl.2 q hq).2.2),fun q hq=>hnew q (hl.2 q hq)⟩
  ·have e1:fG V A (G ++ [x]) i=fG V A G i:=by unfold fG;simp[e]
   rw[e1];simp only[setV,if_neg e];exact⟨(h1.left i).1.fr hf (fun _ q hq=>((h1.left i).2 q hq).2.2),fun q hq=>hnew q ((h1.left i).2 q hq)⟩
 ·by_cases e:i=x
  ·subst e
   have e1:fG V A (G ++ [i]) i=zb7 A (za4 V i):=if_pos (by simp);rw[e1];simp only[setV,if_true];exact⟨hr.1.fr hf (fun _ q hq=>(hr.2 q hq).2.2),fun q hq=>hnew q (hr.2 q hq)⟩
  ·have e1:fG V A (G ++ [x]) i=fG V A G i:=by unfold fG;simp[e]
   rw[e1];simp only[setV,if_neg e];exact⟨(h1.right i).1.fr hf (fun _ q hq=>((h1.right i).2 q hq).2.2),fun q hq=>hnew q ((h1.right i).2 q hq)⟩
 ·by_cases e:i=x
  ·subst e
   simp only[setV,if_true]at hq;refine(hth q hq).fr hf ?_
   rcases hq with hq|hq
   ·exact(hl.2 q hq).2.2
   ·exact(hr.2 q hq).2.2
  ·simp only[setV,if_neg e]at hq
   refine(h1.thaw i q hq).fr hf ?_
   rcases hq with hq|hq
   ·exact((h1.left i).2 q hq).2.2
   ·exact((h1.right i).2 q hq).2.2
theorem ERow.made (w:World)(V:List PL)(A:List Nat):ERow w.heap.size (w.alloc (.cells #[] 99)) (.slice (some ⟨w.heap.size,0,none⟩) 0 0) [] (fun _=>.slice none 0 0) (fun _=>.slice none 0 0) (fG V A []) :=
 ⟨World.ownsRow_made w #[] 0 (Nat.le_refl _) (by decide) (by simp),fun i=>⟨⟨none,0,rfl,Nat.le_refl _,by decide,by simp[fG]⟩,fun q hq=>by simp[Value.ownBlock]at hq⟩,fun i=>⟨⟨none,0,rfl,Nat.le_refl _,by decide,by simp[fG]⟩,fun q hq=>by simp[Value.ownBlock]at hq⟩,by simp[zbb],fun i q hq=>by simp[Value.ownBlock]at hq⟩
end Go.Proofs.YtkofnbjjbcohgaaGreatDoor
