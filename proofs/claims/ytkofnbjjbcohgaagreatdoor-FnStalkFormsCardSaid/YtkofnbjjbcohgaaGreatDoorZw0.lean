import Derived.Deep.RegionHeld3
import Derived.Test.YtkofnbjjbcohgaaGreatDoorZw15
/- Lemmas. -/
namespace Go.Proofs.YtkofnbjjbcohgaaGreatDoor
set_option linter.unusedVariables false
set_option linter.unusedSimpArgs false
open Go.RowKit
def zc6 (w:World)(bb:Nat)(k:Nat):Prop:=k=bb∨∃i v,w.cell? ⟨bb,i,none⟩=some v/\v.ownBlock=some k
def zay (NV:List (Value × Value)):List Value:=NV.flatMap fun x=>[x.1,x.2]
structure BookAt (w:World) (bb:Nat) (NL:List (List Nat × List Nat)) (BL:List Nat) (nv bv:Value) (NV:List (Value × Value)):Prop where
 blk:w.heap[bb]?=some (.cells #[nv,bv] 79 (0,0))
 nodes:w.ownsRow 0 55 2 nv NL.length (zay NV)
 born:w.ownsRow 0 3 1 bv BL.length (BL.map encN)
 lens:BL.length=NL.length
 lenV:NV.length=NL.length
 inner:∀(j:Nat) (x:Value × Value) (y:List Nat × List Nat),NV[j]?=some x→NL[j]?=some y→Nats w x.1 y.1/\Nats w x.2 y.2/\(y.1≠[]→∀q,x.1.ownBlock=some q→¬zc6 w bb q)/\(y.2≠[]→∀q,x.2.ownBlock=some q→¬zc6 w bb q)
 d1:∀q,nv.ownBlock=some q→q≠bb
 d2:∀q,bv.ownBlock=some q→q≠bb
 d3:∀q,nv.ownBlock=some q→bv.ownBlock=some q→False
def Book (w:World)(bb:Nat)(NL:List (List Nat × List Nat))(BL:List Nat):Prop:=∃nv bv NV,BookAt w bb NL BL nv bv NV
theorem zb9 {w:World}{bb k:Nat}{nv bv:Value}(h:w.heap[bb]?=some (.cells #[nv,bv] 79 (0,0))):zc6 w bb k↔k=bb∨nv.ownBlock=some k∨bv.ownBlock=some k:=by
 have c:∀i,w.cell? ⟨bb,i,none⟩=(#[nv,bv]:Array Value)[i]?:=fun i=>by rw[cell_of_row w bb i _ _ _ h]
 unfold zc6;constructor
 ·rintro(e|⟨i,v,hc,hv⟩)
  ·exact .inl e
  ·rw[c]at hc
   match i,hc with
   | 0,hc=>simp at hc;subst hc;exact .inr (.inl hv)
   | 1,hc=>simp at hc;subst hc;exact .inr (.inr hv)
   | i+2,hc=>simp at hc
 ·rintro(e|e|e)
  ·exact .inl e
  ·exact .inr ⟨0,nv,by rw[c];rfl,e⟩
  ·exact .inr ⟨1,bv,by rw[c];rfl,e⟩
theorem BookAt.fr {w w':World}{bb:Nat}{NL:List (List Nat × List Nat)}{BL:List Nat}{nv bv:Value}{NV:List (Value × Value)}{M:Nat→Prop}(h:BookAt w bb NL BL nv bv NV)(hf:Fr M w w')(h1:∀k,zc6 w bb k→¬M k)
  (h2:∀(j:Nat) (x:Value × Value) (y:List Nat × List Nat),NV[j]?=some x→NL[j]?=some y→(y.1≠[]→∀q,x.1.ownBlock=some q→¬M q)/\(y.2≠[]→∀q,x.2.ownBlock=some q→¬M q)):BookAt w' bb NL BL nv bv NV:=by
 have hb:w'.heap[bb]?=some (.cells #[nv,bv] 79 (0,0)):=hf.heap h.blk (h1 bb (.inl rfl));have hM:∀k,zc6 w' bb k↔zc6 w bb k:=fun k=>by rw[zb9 h.blk,zb9 hb]
 refine⟨hb,za2 h.nodes hf (fun b hb'=>h1 b ((zb9 h.blk).2 (.inr (.inl hb')))),za2 h.born hf (fun b hb'=>h1 b ((zb9 h.blk).2 (.inr (.inr hb')))),h.lens,h.lenV,?_,h.d1,h.d2,h.d3⟩;intro j x y hx hy;obtain⟨s1,s2,q1,q2⟩:=h.inner j x y hx hy;obtain⟨m1,m2⟩:=h2 j x y hx hy;exact⟨s1.fr hf m1,s2.fr hf m2,fun hne q hq=>by rw[hM];exact q1 hne q hq,fun hne q hq=>by rw[hM];exact q2 hne q hq⟩
theorem BookAt.fr0 {w w':World}{bb:Nat}{NL:List (List Nat × List Nat)}{BL:List Nat}{nv bv:Value}{NV:List (Value × Value)}(h:BookAt w bb NL BL nv bv NV)(hf:Fr NoM w w'):BookAt w' bb NL BL nv bv NV :=
 h.fr hf (fun _ _ q=>q) (fun _ _ _ _ _=>⟨fun _ _ _ q=>q,fun _ _ _ q=>q⟩)
theorem Book.fr0 {w w':World}{bb:Nat}{NL:List (List Nat × List Nat)}{BL:List Nat}(h:Book w bb NL BL)(hf:Fr NoM w w'):Book w' bb NL BL:=by
 obtain⟨nv,bv,NV,h⟩:=h;exact⟨nv,bv,NV,h.fr0 hf⟩
theorem zn2 {w w':World}{bb k:Nat}{NL:List (List Nat × List Nat)}{BL:List Nat}(h:Book w bb NL BL)(hf:Fr NoM w w'):zc6 w' bb k↔zc6 w bb k:=by
 obtain⟨nv,bv,NV,h⟩:=h;rw[zb9 h.blk,zb9 (h.fr0 hf).blk]
theorem zi1 (NV:List (Value × Value))(j:Nat)(x:Value × Value)(h:NV[j]?=some x):(zay NV)[j*2]?=some x.1/\(zay NV)[j*2+1]?=some x.2:=by
 induction NV generalizing j with
 | nil=>cases h
 | cons y l ih =>
  cases j with
  | zero=>simp at h;subst h;exact⟨rfl,rfl⟩
  | succ j =>
   have:=ih j (by simpa using h);simp only[zay,List.flatMap_cons]at this ⊢
   rw[show(j+1)*2=j*2+1+1 from by omega];exact this
theorem zen (NV:List (Value × Value)):(zay NV).length=NV.length*2:=by
 induction NV with
 | nil=>rfl
 | cons y l ih=>simp only[zay,List.flatMap_cons,List.length_append,List.length_cons,List.length_nil]at ih ⊢;omega
theorem BookAt.nodeL {w:World}{bb:Nat}{NL:List (List Nat × List Nat)}{BL:List Nat}{nv bv:Value}{NV:List (Value × Value)}(h:BookAt w bb NL BL nv bv NV):NodeL AnyB encN w nv NL:=by
 rcases h.nodes.2 with ⟨rfl,h0⟩|⟨g,cap,cur,rfl,_,hg,hnc,hcm,hs,ht⟩
 ·have:NL=[]:=List.eq_nil_of_length_eq_zero h0
  subst this
  exact⟨none,0,rfl,Nat.le_refl _,by decide,by simp⟩
 ·refine⟨_,cap,rfl,hnc,by simpa [maxLen] using hcm,fun j y hy=>?_⟩
  have hj:j<NL.length:=(List.getElem?_eq_some_iff.1 hy).1;obtain⟨x,hx⟩:∃x,NV[j]?=some x:=⟨NV[j]'(by rw[h.lenV];exact hj),List.getElem?_eq_getElem _⟩;obtain⟨s1,s2,_,_⟩:=h.inner j x y hx hy;obtain⟨f1,f2⟩:=zi1 NV j x hx;have key:∀i u,i<NL.length*2→(zay NV)[i]?=some u→w.cell? ⟨g,0+i,none⟩=some u:=fun i u hi hu=>by
   rw[Nat.zero_add,cell_of_row w g i cur _ _ hg];rw[←ht,List.getElem?_take,if_pos hi]at hu;simpa using hu
  exact⟨g,0,x.1,x.2,rfl,trivial,key _ _ (by omega) f1,by rw[Nat.add_assoc];exact key _ _ (by omega) f2,s1,s2,fun _ _ _=>trivial,fun _ _ _=>trivial⟩
theorem Fr.set (w:World)(a:Addr)(u:Value):Fr (fun k=>k=a.block) w (w.setCell a u):=(Fr.refl _ _).setCell a u (fun _=>rfl)
theorem heap_set {w:World}{bb i:Nat}{cur:Array Value}{e:TypeId}(h:w.heap[bb]?=some (.cells cur e (0,0)))(u:Value):(w.setCell ⟨bb,i,none⟩ u).heap[bb]?=some (.cells (cur.setIfInBounds i u) e (0,0)):=by
 simp[World.setCell,Array.getElem?_modify,h]
theorem zfc {w:World}{base:Nat}{e:TypeId}{size:Nat}{v:Value}{n:Nat}{xs:List Value}(h:w.ownsRow base e size v n xs){b:Nat}(hb:v.ownBlock=some b):b<w.heap.size:=(h.lt b hb).2
theorem ztu {wq w1 w2:World}{bb:Nat}{NL:List (List Nat × List Nat)}{BL:List Nat}{nv bv v1 v2 x1 x2:Value}{NV:List (Value × Value)}{l r:List Nat}{bn:Nat}(hB:BookAt wq bb NL BL nv bv NV)
  (h1:w1.ownsRow 0 55 2 v1 (NL.length+1) (zay NV ++ [x1,x2])) (f1:Fr (Own1 nv) wq w1) (q1:v1.ownBlock=nv.ownBlock∨∃b,v1.ownBlock=some b/\wq.heap.size≤b)
  (h2:w2.ownsRow 0 3 1 v2 (BL.length+1) (BL.map encN ++ [encN bn])) (f2:Fr (Own1 bv) (w1.setCell ⟨bb,0,none⟩ v1) w2) (q2:v2.ownBlock=bv.ownBlock∨∃b,v2.ownBlock=some b/\w1.heap.size≤b)
  (s1:Nats wq x1 l) (s2:Nats wq x2 r) (n1:l≠[]→∀b,x1.ownBlock=some b→¬zc6 wq bb b) (n2:r≠[]→∀b,x2.ownBlock=some b→¬zc6 wq bb b) :
  BookAt (w2.setCell ⟨bb,1,none⟩ v2) bb (NL ++ [(l,r)]) (BL ++ [bn]) v1 v2 (NV ++ [(x1,x2)])/\Fr (zc6 wq bb) wq (w2.setCell ⟨bb,1,none⟩ v2)/\∀k,zc6 (w2.setCell ⟨bb,1,none⟩ v2) bb k→zc6 wq bb k∨wq.heap.size≤k:=by
 have hbb:bb<wq.heap.size:=(Array.getElem?_eq_some_iff.1 hB.blk).1;have hnl:∀q,nv.ownBlock=some q→q<wq.heap.size:=fun q hq=>zfc hB.nodes hq
 have hbl:∀q,bv.ownBlock=some q→q<wq.heap.size:=fun q hq=>zfc hB.born hq
 have sz1:wq.heap.size≤w1.heap.size:=f1.size
 -- the book's own block
 have b1:w1.heap[bb]?=some (.cells #[nv,bv] 79 (0,0)):=f1.heap hB.blk (fun h=>hB.d1 bb h rfl);have b1':(w1.setCell ⟨bb,0,none⟩ v1).heap[bb]?=some (.cells #[v1,bv] 79 (0,0)):=by rw[heap_set b1];rfl
 have b2:w2.heap[bb]?=some (.cells #[v1,bv] 79 (0,0)):=f2.heap b1' (fun h=>hB.d2 bb h rfl);have b3:(w2.setCell ⟨bb,1,none⟩ v2).heap[bb]?=some (.cells #[v1,v2] 79 (0,0)):=by rw[heap_set b2];rfl
 -- where the new rows lie
 have e1:∀q,v1.ownBlock=some q→q≠bb:=by
  intro q hq;rcases q1 with e|⟨b,hb,hle⟩
  ·exact hB.d1 q (by rw[←e];exact hq)
  ·rw[hb]at hq;cases hq;omega
 have e1b:∀q,v1.ownBlock=some q→bv.ownBlock=some q→False:=by
  intro q hq hq2;rcases q1 with e|⟨b,hb,hle⟩
  ·exact hB.d3 q (by rw[←e];exact hq) hq2
  ·rw[hb]at hq;cases hq;have:=hbl _ hq2;omega
 have e2:∀q,v2.ownBlock=some q→q≠bb:=by
  intro q hq;rcases q2 with e|⟨b,hb,hle⟩
  ·exact hB.d2 q (by rw[←e];exact hq)
  ·rw[hb]at hq;cases hq;omega
 have e12:∀q,v1.ownBlock=some q→v2.ownBlock=some q→False:=by
  intro q hq hq2;rcases q2 with e|⟨b,hb,hle⟩
  ·exact e1b q hq (by rw[←e];exact hq2)
  ·rw[hb]at hq2;cases hq2;have:=zfc h1 hq;omega
 have hM3:∀k,zc6 (w2.setCell ⟨bb,1,none⟩ v2) bb k↔k=bb∨v1.ownBlock=some k∨v2.ownBlock=some k:=fun k=>zb9 b3
 have hMq:∀k,zc6 wq bb k↔k=bb∨nv.ownBlock=some k∨bv.ownBlock=some k:=fun k=>zb9 hB.blk
 have hnew:∀k,zc6 (w2.setCell ⟨bb,1,none⟩ v2) bb k→zc6 wq bb k∨wq.heap.size≤k:=by
  intro k hk;rcases (hM3 k).1 hk with h|h|h
  ·exact .inl ((hMq k).2 (.inl h))
  ·rcases q1 with e|⟨b,hb,hle⟩
   ·exact .inl ((hMq k).2 (.inr (.inl (by rw[←e];exact h))))
   ·rw[hb]at h;cases h;exact .inr hle
  ·rcases q2 with e|⟨b,hb,hle⟩
   ·exact .inl ((hMq k).2 (.inr (.inr (by rw[←e];exact h))))
   ·rw[hb]at h;cases h;exact .inr (by omega)
 have ff:Fr (zc6 wq bb) wq (w2.setCell ⟨bb,1,none⟩ v2):=by
  refine(((f1.mono fun k _ h=>(hMq k).2 (.inr (.inl h))).trans (Fr.set w1 ⟨bb,0,none⟩ v1) fun k _ h=>(hMq k).2 (.inl h)).trans f2 fun k _ h=>(hMq k).2 (.inr (.inr h))).trans (Fr.set w2 ⟨bb,1,none⟩ v2) fun k _ h=>(hMq k).2 (.inl h)
 -- what a kept row needs
 have keep:∀ {v:Value}{L:List Nat},Nats wq v L→(L≠[]→∀b,v.ownBlock=some b→¬zc6 wq bb b)→Nats (w2.setCell ⟨bb,1,none⟩ v2) v L/\(L≠[]→∀b,v.ownBlock=some b→¬zc6 (w2.setCell ⟨bb,1,none⟩ v2) bb b):=by
  intro v L hs hn;refine⟨hs.fr ff hn,fun hne b hb hk=>?_⟩;obtain⟨b',hb',hlt⟩:=hs.block hne;rw[hb]at hb';cases hb'
  rcases hnew b hk with h|h
  ·exact hn hne b hb h
  ·omega
 refine⟨⟨b3,?_,?_,by simp[hB.lens],by simp[hB.lenV],?_,e1,e2,e12⟩,ff,hnew⟩
 ·have a1:=za2 h1 (Fr.set w1 ⟨bb,0,none⟩ v1) (fun b hb=>e1 b hb)
  have a2:=za2 a1 f2 (fun b hb h=>e1b b hb h);have a3:=za2 a2 (Fr.set w2 ⟨bb,1,none⟩ v2) (fun b hb=>e1 b hb);have:zay (NV ++ [(x1,x2)])=zay NV ++ [x1,x2]:=by simp[zay]
  rw[this,List.length_append];exact a3
 ·have a3:=za2 h2 (Fr.set w2 ⟨bb,1,none⟩ v2) (fun b hb=>e2 b hb)
  rw[List.length_append,List.map_append];exact a3
 ·intro j x y hx hy
  by_cases hj:j<NL.length
  ·rw[List.getElem?_append_left (by rw[hB.lenV];exact hj)]at hx
   rw[List.getElem?_append_left hj]at hy;obtain⟨t1,t2,m1,m2⟩:=hB.inner j x y hx hy;exact⟨(keep t1 m1).1,(keep t2 m2).1,(keep t1 m1).2,(keep t2 m2).2⟩
  ·rw[List.getElem?_append_right (by rw[hB.lenV];omega)]at hx
   rw[List.getElem?_append_right (by omega)]at hy;rw[hB.lenV]at hx;cases hd:j-NL.length with
   | zero =>
    rw[hd]at hx hy;simp at hx hy;subst hx hy;exact⟨(keep s1 n1).1,(keep s2 n2).1,(keep s1 n1).2,(keep s2 n2).2⟩
   | succ d=>rw[hd]at hx;simp at hx
def InS (S:Nat→Prop)(NV:List (Value × Value))(NL:List (List Nat × List Nat)):Prop :=
 ∀(j:Nat) (x:Value × Value) (y:List Nat × List Nat),NV[j]?=some x→NL[j]?=some y→(y.1≠[]→∀q,x.1.ownBlock=some q→S q)/\(y.2≠[]→∀q,x.2.ownBlock=some q→S q)
def BookS (S:Nat→Prop)(w:World)(bb:Nat)(NL:List (List Nat × List Nat))(BL:List Nat):Prop :=
 ∃nv bv NV,BookAt w bb NL BL nv bv NV/\(∀k,zc6 w bb k→S k)/\InS S NV NL
theorem BookS.book {S:Nat→Prop}{w:World}{bb:Nat}{NL:List (List Nat × List Nat)}{BL:List Nat}(h:BookS S w bb NL BL):Book w bb NL BL:=by
 obtain⟨nv,bv,NV,h,_⟩:=h;exact⟨nv,bv,NV,h⟩
theorem BookS.fr {S M:Nat→Prop}{w w':World}{bb:Nat}{NL:List (List Nat × List Nat)}{BL:List Nat}(h:BookS S w bb NL BL)(hf:Fr M w w')(hm:∀k,S k→¬M k):BookS S w' bb NL BL:=by
 obtain⟨nv,bv,NV,h,h1,h2⟩:=h;have h':=h.fr hf (fun k hk=>hm k (h1 k hk)) (fun j x y hx hy=>⟨fun hne q hq=>hm q ((h2 j x y hx hy).1 hne q hq),fun hne q hq=>hm q ((h2 j x y hx hy).2 hne q hq)⟩);refine⟨nv,bv,NV,h',fun k hk=>h1 k ?_,h2⟩;rw[zb9 h.blk];exact(zb9 h'.blk).1 hk
theorem BookS.fr0 {S:Nat→Prop}{w w':World}{bb:Nat}{NL:List (List Nat × List Nat)}{BL:List Nat}(h:BookS S w bb NL BL)(hf:Fr NoM w w'):BookS S w' bb NL BL:=h.fr hf fun _ _ q=>q
theorem BookS.mono {S S':Nat→Prop}{w:World}{bb:Nat}{NL:List (List Nat × List Nat)}{BL:List Nat}(h:BookS S w bb NL BL)(hs:∀k,S k→S' k):BookS S' w bb NL BL:=by
 obtain⟨nv,bv,NV,h,h1,h2⟩:=h;exact⟨nv,bv,NV,h,fun k hk=>hs k (h1 k hk),fun j x y hx hy=>⟨fun hne q hq=>hs q ((h2 j x y hx hy).1 hne q hq),fun hne q hq=>hs q ((h2 j x y hx hy).2 hne q hq)⟩⟩
theorem InS.push {S:Nat→Prop}{NV:List (Value × Value)}{NL:List (List Nat × List Nat)}(h:InS S NV NL)(hl:NV.length=NL.length)(x:Value × Value)(y:List Nat × List Nat)(h1:y.1≠[]→∀q,x.1.ownBlock=some q→S q)
  (h2:y.2≠[]→∀q,x.2.ownBlock=some q→S q):InS S (NV ++ [x]) (NL ++ [y]):=by
 intro j a b ha hb;by_cases hj:j<NL.length
 ·rw[List.getElem?_append_left (by omega)]at ha
  rw[List.getElem?_append_left hj]at hb;exact h j a b ha hb
 ·rw[List.getElem?_append_right (by omega),hl]at ha
  rw[List.getElem?_append_right (by omega)]at hb;cases hd:j-NL.length with
  | zero=>rw[hd]at ha hb;simp at ha hb;subst ha hb;exact⟨h1,h2⟩
  | succ d=>rw[hd]at ha;simp at ha
theorem BookS.cut {S:Nat→Prop}{w:World}{bb:Nat}{NL:List (List Nat × List Nat)}{BL:List Nat}(h:BookS S w bb NL BL):BookS (fun k=>S k/\k<w.heap.size) w bb NL BL:=by
 obtain⟨nv,bv,NV,h,h1,h2⟩:=h;refine⟨nv,bv,NV,h,fun k hk=>⟨h1 k hk,?_⟩,fun j x y hx hy=>?_⟩
 ·rcases (zb9 h.blk).1 hk with e|e|e
  ·subst e;exact(Array.getElem?_eq_some_iff.1 h.blk).1
  ·exact zfc h.nodes e
  ·exact zfc h.born e
 ·obtain⟨s1,s2,_,_⟩:=h.inner j x y hx hy
  obtain⟨t1,t2⟩:=h2 j x y hx hy;refine⟨fun hne q hq=>⟨t1 hne q hq,?_⟩,fun hne q hq=>⟨t2 hne q hq,?_⟩⟩
  ·obtain⟨b,hb,hl⟩:=s1.block hne;rw[hq]at hb;cases hb;exact hl
  ·obtain⟨b,hb,hl⟩:=s2.block hne;rw[hq]at hb;cases hb;exact hl
theorem BookS.m {S:Nat→Prop}{w:World}{bb:Nat}{NL:List (List Nat × List Nat)}{BL:List Nat}(h:BookS S w bb NL BL):∀k,zc6 w bb k→S k:=by
 obtain⟨_,_,_,_,h1,_⟩:=h;exact h1
def za9 (BL:List Nat)(m:Nat)(L:List Nat):Nat:=L.foldl (fun m i=>max m (BL.getD i 0+1)) m
theorem zri (BL:List Nat)(m:Nat)(L:List Nat)(x:Nat):za9 BL m (L ++ [x])=max (za9 BL m L) (BL.getD x 0+1):=by simp[za9]
theorem zdr (BL:List Nat)(m0:Nat)(L:List Nat)(k:Nat)(hk:k<L.length)(hx:L[k]<BL.length):max (za9 BL m0 (L.take k):Int) ((BL[L[k]]:Int)+1)=((za9 BL m0 (L.take (k+1)):Nat):Int):=by
 rw[List.take_succ_eq_append_getElem hk,zri,List.getD_eq_getElem?_getD,List.getElem?_eq_getElem hx];simp only[Option.getD_some];omega
def znf (NL:List (List Nat × List Nat))(BL:List Nat)(bn:Nat)(lr:List Nat × List Nat):Nat:=(NL.zip BL).findIdx fun x=>decide (x.2=bn/\x.1=lr)
def zd6 (BL:List Nat)(L R:List Nat):Nat × (List Nat × List Nat):=(za9 BL (za9 BL 0 L) R,(za6 L,za6 R))
def putB (NL:List (List Nat × List Nat))(BL:List Nat)(L R:List Nat):List (List Nat × List Nat) × List Nat × Nat :=
 let q:=zd6 BL L R
 if znf NL BL q.1 q.2<NL.length then (NL,BL,znf NL BL q.1 q.2)else (NL ++ [q.2],BL ++ [q.1],NL.length)
theorem zdd {w:World}{v:Value}{L:List Nat}(h:Nats w v L):∃a c,v=.slice a L.length c/\∀(j:Nat) (x:Nat),L[j]?=some x→∃b off,a=some ⟨b,off,none⟩/\w.cell? ⟨b,off+j,none⟩=some (.int .i64 (x:Int)):=by
 obtain⟨a,c,rfl,_,_,h⟩:=h;exact⟨a,c,rfl,h⟩
theorem zkd {A B:List Nat}(h:ints A=ints B):A=B:=by
 unfold ints at h;exact List.map_inj_right (fun a b e=>Int.ofNat.inj e) |>.1 h
theorem zcu (av bv:Value)(A B:List Nat)(w:World)(hA:Nats w av A)(hB:Nats w bv B) :
  Calls Tryz.prog 71 #[av,bv] w fun e w'=>e=.returned (.bool (decide (A=B)))/\∃q,w'=w.drewN q :=
 (zc4 av bv (ints A) (ints B) w hA.ints hB.ints).mono fun _ _ h=>⟨by rw[h.1];congr 2;rw[decide_eq_decide];exact⟨zkd,fun e=>by rw[e]⟩,h.2⟩
theorem zk2 (NL:List (List Nat × List Nat))(BL:List Nat)(bn:Nat)(lr:List Nat × List Nat)(k:Nat)(hk:k<NL.length)(hB:BL.length=NL.length)(h0:∀j x y,j<k→NL[j]?=some x→BL[j]?=some y→¬(y=bn/\x=lr))
  (h1:BL[k]?=some bn) (h2:NL[k]?=some lr):znf NL BL bn lr=k:=by
 unfold znf;rw[List.findIdx_eq (by simp;omega)];constructor
 ·have e1:BL[k]'(by omega)=bn:=by rw[List.getElem?_eq_getElem (by omega)]at h1;exact Option.some.inj h1
  have e2:NL[k]=lr:=by rw[List.getElem?_eq_getElem hk]at h2;exact Option.some.inj h2
  simp[e1,e2]
 ·intro j hj
  have:=h0 j (NL[j]'(by omega)) (BL[j]'(by omega)) hj (List.getElem?_eq_getElem _) (List.getElem?_eq_getElem _);simpa using this
theorem zg3 (NL:List (List Nat × List Nat))(BL:List Nat)(bn:Nat)(lr:List Nat × List Nat)(hB:BL.length=NL.length)(h0:∀j x y,j<NL.length→NL[j]?=some x→BL[j]?=some y→¬(y=bn/\x=lr)):¬znf NL BL bn lr<NL.length:=by
 intro h;unfold znf at h;have hlen:(NL.zip BL).length=NL.length:=by simp;omega
 have:=List.findIdx_getElem (xs:=NL.zip BL) (p:=fun x=>decide (x.2=bn/\x.1=lr)) (w:=by rw[hlen];exact h);simp only[List.getElem_zip,decide_eq_true_eq]at this
 exact h0 _ _ _ h (List.getElem?_eq_getElem _) (List.getElem?_eq_getElem _) this
theorem zbg {w:World}{base:Nat}{e:TypeId}{size:Nat}{v:Value}{n:Nat}{xs:List Value}(h:w.ownsRow base e size v n xs)(hn:0<n):∃g cap,v=.slice (some ⟨g,0,none⟩) n cap/\base≤g/\g<w.heap.size:=by
 rcases h.2 with ⟨_,h0⟩|⟨g,cap,cur,rfl,hb,hg,_⟩
 ·omega
 ·exact⟨g,cap,rfl,hb,(Array.getElem?_eq_some_iff.1 hg).1⟩
theorem zn3 {P:Program}(w:World){ops:Array Oper}{rest:List Oper}{o:Oper}{a:Act}{Q:Exit→Act→World→Prop}(hg:o.guard=none)(s x:Operand)(t:TypeId)
  (hop:o.op=Op.call { callee:=Callee.builtin Builtin.append,args:=#[s,x],argTypes:=#[t,t] }) (base:Nat) (e:TypeId) (z:Value) (bytes:Nat) (ht:P.underlying t=some (.slice e))
  (hi:(P.info? e).map (fun i=>(i.zero,i.size,i.bytes))=some (some z,2,bytes)) (hz:z.cells.size=2) (v:Value) (n:Nat) (xs:List Value) (hs:a.eval s=v) (hown:w.ownsRow base e 2 v n xs)
  (x1 x2:Value) (hx:a.eval x=.slice (some ⟨w.heap.size,0,none⟩) 1 1) (h1:x1.oneCell'=true) (h2:x2.oneCell'=true) (hn:(n+1)*bytes≤140737488355328) (hb1:0<bytes) (hb:base≤w.heap.size)
  (K:∀(v':Value) (w':World),w'.ownsRow base e 2 v' (n+1) (xs ++ [x1,x2])→Fr (Own1 v) w w'→(v'.ownBlock=v.ownBlock∨∃b,v'.ownBlock=some b/\w.heap.size≤b)→wpList P ops Q rest (a.put o.dst v') w') :
  wpList P ops Q (o::rest) a (w.alloc (.cells #[x1,x2] e)):=by
 obtain⟨i0,hi,hz0,hz1,hz2⟩:=info_parts hi;have hnn:n+1≤140737488355328:=Nat.le_trans (by have:=Nat.mul_le_mul_left (n+1) hb1;omega) hn;refine wpList_append_own_at _ hg s x t hop base e i0 z 2 bytes ht hi hz0 hz1 hz2 hz (by decide) v n xs hs (hown.alloc _) ⟨w.heap.size,0,none⟩ 1 1 [x1,x2] hx rfl ?_ ?_ (by unfold maxLen;omega) hn (by simp;omega) ?_
 ·intro j u hj
  match j,hj with
  | 0,hj=>simp at hj;subst hj;show(w.alloc _).cell? ⟨w.heap.size,0,none⟩=_;rw[World.cell?_alloc_at _ _ _ _ rfl];rfl
  | 1,hj=>simp at hj;subst hj;show(w.alloc _).cell? ⟨w.heap.size,0+1,none⟩=_;rw[World.cell?_alloc_at _ _ _ _ rfl];rfl
 ·intro q hq
  simp at hq;rcases hq with rfl|rfl
  ·exact h1
  ·exact h2
 ·intro v' w' h1 h2 _ h3
  refine K v' w' h1 (((Fr.refl (Own1 v) w).alloc _).grown h2 (fun k hk _=>hk)) ?_
  rcases h3 with h3|h3
  ·exact .inl h3
  ·exact .inr ⟨_,h3,by simp⟩
theorem zkk {P:Program}(w:World){ops:Array Oper}{rest:List Oper}{o:Oper}{a:Act}{Q:Exit→Act→World→Prop}(hg:o.guard=none)(s x:Operand)(t:TypeId)
  (hop:o.op=Op.call { callee:=Callee.builtin Builtin.append,args:=#[s,x],argTypes:=#[t,t] }) (base:Nat) (e:TypeId) (z:Value) (bytes:Nat) (ht:P.underlying t=some (.slice e))
  (hi:(P.info? e).map (fun i=>(i.zero,i.size,i.bytes))=some (some z,1,bytes)) (hz:z.cells.size=1) (v:Value) (n:Nat) (xs:List Value) (hs:a.eval s=v) (hown:w.ownsRow base e 1 v n xs)
  (u:Value) (m:Nat) (hm:m=w.heap.size) (hx:a.eval x=.slice (some ⟨m,0,none⟩) 1 1) (hu:u.oneCell'=true) (hn:(n+1)*bytes≤140737488355328) (hb1:0<bytes) (hb:base≤w.heap.size)
  (K:∀(v':Value) (w':World),w'.ownsRow base e 1 v' (n+1) (xs ++ [u])→Fr (Own1 v) w w'→(v'.ownBlock=v.ownBlock∨∃b,v'.ownBlock=some b/\w.heap.size≤b)→wpList P ops Q rest (a.put o.dst v') w') :
  wpList P ops Q (o::rest) a (w.alloc (.cells #[u] e)):=by
 subst hm;exact zc1 w hg s x t hop base e z bytes ht hi hz v n xs hs hown u hx hu hn hb1 hb K
set_option maxHeartbeats 4000000 in
theorem zsd {S:Nat→Prop}(bb:Nat)(lv rv:Value)(NL:List (List Nat × List Nat))(BL L R:List Nat)(w:World)(hB:BookS S w bb NL BL)(hL:Nats w lv L)(hR:Nats w rv R)
  (hLt:∀(j x:Nat),L[j]?=some x→x<NL.length) (hRt:∀(j x:Nat),R[j]?=some x→x<NL.length) (hl:L.length<1000000000) (hr:R.length<1000000000) (hn:NL.length<1000000000) (hb:∀x∈BL,x<1000000000) :
  Calls Tryz.prog 38 #[.pointer (some ⟨bb,0,none⟩),lv,rv] w fun e w'=>e=.returned (.int .i64 ((putB NL BL L R).2.2:Nat))/\BookS (fun k=>S k∨w.heap.size≤k) w' bb (putB NL BL L R).1 (putB NL BL L R).2.1/\Fr (zc6 w bb) w w':=by
 have HBS:=Hh hB;obtain⟨nv,bv,NV,hB,hs1,hs2⟩:=hB;have HS1S:=Hh hs1;have HS2S:=Hh hs2;clear hs1 hs2;have hbl:=hB.blk;have hbn:=hB.born;have hlen:=hB.lens;obtain⟨ba,bc,rfl,_,_,hbc⟩:=SliceOf.of_owns (L:=BL) hbn rfl;have c0:w.cell? ⟨bb,0,none⟩=some nv:=by rw[cell_of_row w bb 0 _ _ _ hbl];rfl
 have c1:w.cell? ⟨bb,1,none⟩=some (.slice ba BL.length bc):=by rw[cell_of_row w bb 1 _ _ _ hbl];rfl
 obtain⟨na,nc,rfl,hnc,hncm,hnn⟩:=hB.nodeL;obtain⟨la,lc,rfl,hlc⟩:=zdd hL;obtain⟨ra,rc,rfl,hrc⟩:=zdd hR;have HB:=Hh hB;have HBc:=Hh hbc;have HNn:=Hh hnn;have HLc:=Hh hlc;have HRc:=Hh hrc;have HLt:=Hh hLt;have HRt:=Hh hRt;have Hl:=Hh hl;have Hr:=Hh hr;have Hn:=Hh hn;have Hb:=Hh hb;have HLen:=Hh hlen;have C0:=Hh c0;have C1:=Hh c1;clear hB hbc hnn hlc hrc hLt hRt hl hr hn hb hlen hbl hbn hL hR c0 c1;have hl9:L.length≤9223372036854775807:=by have:=Hl.out;omega
 have hr9:R.length≤9223372036854775807:=by have:=Hr.out;omega
 go_enter Tryz.func38,Tryz.ntmps38;go_wp2;go_loopw [7,9,10] (fun v m i wr=>∃k:Nat,k≤L.length/\i=.int .i64 k/\Nats wr v (za6 (L.take k))/\m=.int .i64 (za9 BL 0 (L.take k):Nat)/\Fr NoM w wr/\∀b,v.ownBlock=some b→w.heap.size≤b) (fun _ _ i _=>L.length-(intOf i).toNat)
 case atStart=>exact⟨0,by omega,rfl,SliceOf.of_owns (L:=[]) ((World.ownsRow_made (base:=0) (e:=3) (size:=1) w #[] 0 (by omega) (by decide) (by simp)).alloc _) rfl,rfl,((Fr.refl _ _).alloc _).alloc _,by simp[Value.ownBlock]⟩
 case round =>
  obtain⟨k,hk,rfl,hs,rfl,hfr,hnb⟩:=hrel;have HS:=Hh hs;have HFr:=Hh hfr;have HNb:=Hh hnb;clear hs hfr hnb;by_cases hlt:k<L.length
  ·obtain⟨b1,o1,ha1,d1⟩:=HLc.out k L[k] (by simp)
   have hx:=HLt.out k L[k] (by simp);have hxB:L[k]<BL.length:=by rw[HLen.out];exact hx
   obtain⟨b2,o2,ha2,d2⟩:=HBc.out L[k] BL[L[k]] (by simp);have ix1:=zaa la L.length lc k b1 o1 hlt ha1;have ix2:=zaa ba BL.length bc L[k] b2 o2 hxB ha2;have d1':=HFr.out.cell d1 (fun q=>q);have hnext:putN (za6 (L.take k)) L[k]=za6 (L.take (k+1)):=by rw[List.take_succ_eq_append_getElem hlt,zg1]
   have hbor:=zdr BL 0 L k hlt hxB;have hlen:(za6 (L.take k)).length<1000000000000:=by have h1:=zc8 (L.take k);have:=Hl.out;have h3:=List.length_take_le k L;omega
   have HN1:=Hh hnext;have HB1:=Hh hbor;have HLe:=Hh hlen;have D2:=Hh d2;clear hnext hbor hlen d1 d2 ha1 ha2;unfold encN at d1';have B1:BL[L[k]]<1000000000:=Hb.out _ (List.getElem_mem _);have HBd:=Hh B1;clear B1;go_wp2_with fail;refine(zhu _ (za6 (L.take k)) L[k] wr HS.out HLe.out).mono ?_
   rintro e w1 ⟨v1,rfl,h1,h2,h3⟩;rw[HN1.out]at h1;have HFr1:=Hh (HFr.out.trans h2 (fun _ _ q=>q));have H1:=Hh h1;have H3:=Hh h3;have e0:=HFr1.out.cell C1.out (fun q=>q);have e1:=HFr1.out.cell D2.out (fun q=>q);have e2:=h2.cell d1' (fun q=>q);unfold encN at e1;have hbd:(BL[L[k]]:Int)<1000000000:=by have:=HBd.out;omega
   clear h1 h2 h3 d1';go_wp2;go_quiet ((go_at_call 70;with_reducible exact Calls.quiet_of_same (zoz _ _ _)));go_wp2;go_roundw
   case rel=>exact⟨k+1,by omega,by go_num,H1.out,by rw[HB1.out],HFr1.out.trans (M':=NoM) ⟨rfl,rfl,rfl,Nat.le_refl _,fun _ _ _=>rfl⟩ (fun _ _ q=>q),fun b hb=>by
     rcases H3.out b hb with h|h
     ·exact HNb.out b h
     ·exact Nat.le_trans HFr.out.size h⟩
   case measure=>simp[intOf];omega
  ·have hk':k=L.length:=by omega
   have hs1:=HS.out;rw[hk',List.take_length]at hs1;have hm1:za9 BL 0 (L.take k)=za9 BL 0 L:=by rw[hk',List.take_length]
   have HS1:=Hh hs1;have HK:=Hh hk';rw[hm1];clear hs1 hk' HS hm1;have HNb1:=HNb;have HFr0:=HFr;clear HNb HFr;go_wp2;go_loopw [8,9,11] (fun v m i wq=>∃k:Nat,k≤R.length/\i=.int .i64 k/\Nats wq v (za6 (R.take k))/\m=.int .i64 (za9 BL (za9 BL 0 L) (R.take k):Nat)/\Fr NoM wr wq/\∀b,v.ownBlock=some b→w.heap.size≤b) (fun _ _ i _=>R.length-(intOf i).toNat)
   case atStart=>exact⟨0,by omega,rfl,⟨_,0,rfl,by simp[za6],by decide,by simp[za6]⟩,rfl,Fr.refl _ _,by simp[Value.ownBlock]⟩
   case round =>
    obtain⟨k2,hk2,rfl,hs2,rfl,hfr2,hnb2⟩:=hrel;have HS:=Hh hs2;have HFr:=Hh (HFr0.out.trans hfr2 (fun _ _ q=>q));have HNb:=Hh hnb2;have HFrq:=Hh hfr2;clear hs2 hfr2 hnb2;by_cases hlt:k2<R.length
    ·obtain⟨b1,o1,ha1,d1⟩:=HRc.out k2 R[k2] (by simp)
     have hx:=HRt.out k2 R[k2] (by simp);have hxB:R[k2]<BL.length:=by rw[HLen.out];exact hx
     obtain⟨b2,o2,ha2,d2⟩:=HBc.out R[k2] BL[R[k2]] (by simp);have ix1:=zaa ra R.length rc k2 b1 o1 hlt ha1;have ix2:=zaa ba BL.length bc R[k2] b2 o2 hxB ha2;have d1':=HFr.out.cell d1 (fun q=>q);have hnext:putN (za6 (R.take k2)) R[k2]=za6 (R.take (k2+1)):=by rw[List.take_succ_eq_append_getElem hlt,zg1]
     have hbor:=zdr BL (za9 BL 0 L) R k2 hlt hxB;have hlen:(za6 (R.take k2)).length<1000000000000:=by have h1:=zc8 (R.take k2);have:=Hr.out;have h3:=List.length_take_le k2 R;omega
     have HN1:=Hh hnext;have HB1:=Hh hbor;have HLe:=Hh hlen;have D2:=Hh d2;clear hnext hbor hlen d1 d2 ha1 ha2;have B1:BL[R[k2]]<1000000000:=Hb.out _ (List.getElem_mem _);have HBd:=Hh B1;clear B1;go_wp2_with fail;refine(zhu _ (za6 (R.take k2)) R[k2] wr HS.out HLe.out).mono ?_
     rintro e w1 ⟨v1,rfl,h1,h2,h3⟩;rw[HN1.out]at h1;have HFr1:=Hh (HFr.out.trans h2 (fun _ _ q=>q));have HFrq1:=Hh (HFrq.out.trans h2 (fun _ _ q=>q));have H1:=Hh h1;have H3:=Hh h3;have e0:=HFr1.out.cell C1.out (fun q=>q);have e1:=HFr1.out.cell D2.out (fun q=>q);have e2:=h2.cell d1' (fun q=>q);unfold encN at e1;have hbd:(BL[R[k2]]:Int)<1000000000:=by have:=HBd.out;omega
     clear h1 h2 h3 d1';go_wp2;go_quiet ((go_at_call 70;with_reducible exact Calls.quiet_of_same (zoz _ _ _)));go_wp2;go_roundw
     case rel=>exact⟨k2+1,by omega,by go_num,H1.out,by rw[HB1.out],HFrq1.out.trans (M':=NoM) ⟨rfl,rfl,rfl,Nat.le_refl _,fun _ _ _=>rfl⟩ (fun _ _ q=>q),fun b hb=>by
       rcases H3.out b hb with h|h
       ·exact HNb.out b h
       ·exact Nat.le_trans HFr.out.size h⟩
     case measure=>simp[intOf];omega
    ·have hk':k2=R.length:=by omega
     have hs1:=HS.out;rw[hk',List.take_length]at hs1;have hm1:za9 BL (za9 BL 0 L) (R.take k2)=za9 BL (za9 BL 0 L) R:=by rw[hk',List.take_length]
     have HS2:=Hh hs1;have HK2:=Hh hk';rw[hm1];clear hs1 hk' HS hm1;have HFr1:=HFr;have HNb2:=HNb;have hs1':=HS1.out.fr0 HFrq.out;have HS1':=Hh hs1';clear HFr HNb hs1' HS1 HFrq;obtain⟨a7,c7,e7,_,_,_⟩:=id HS1'.out;obtain⟨a8,c8,e8,_,_,_⟩:=id HS2.out;subst e7 e8;go_wp2;go_loopw [12] (fun i wq=>∃k q:Nat,k≤NL.length/\i=.int .i64 k/\(∀j x y,j<k→NL[j]?=some x→BL[j]?=some y→¬(y=za9 BL (za9 BL 0 L) R/\x=(za6 L,za6 R)))/\wq=wr.drewN q) (fun i _=>NL.length-(intOf i).toNat)
     case atStart=>exact⟨0,0,by omega,rfl,by intros;omega,rfl⟩
     case round =>
      obtain⟨k3,q,hk3,rfl,hno,rfl⟩:=hrel;have HNo:=Hh hno;clear hno;have c0:=HFr1.out.cell C0.out (fun q=>q);have c1:=HFr1.out.cell C1.out (fun q=>q);by_cases hlt:k3<NL.length
      ·have hltB:k3<BL.length:=by rw[HLen.out];exact hlt
       obtain⟨b1,o1,ha1,d1⟩:=HBc.out k3 BL[k3] (by simp);obtain⟨b2,o2,lv2,rv2,ha2,_,d2,d3,s1,s2,_,_⟩:=HNn.out k3 NL[k3] (by simp);have ix1:=zaa ba BL.length bc k3 b1 o1 hltB ha1;have ix2:=zbr na NL.length nc k3 b2 o2 hlt ha2;have d1':=HFr1.out.cell d1 (fun q=>q);have d2':=HFr1.out.cell d2 (fun q=>q);have d3':=HFr1.out.cell d3 (fun q=>q);have T1:=Hh (s1.fr0 HFr1.out);have T2:=Hh (s2.fr0 HFr1.out);unfold encN at d1';clear d1 d2 d3 ha1 ha2 s1 s2;by_cases hbk:BL[k3]=za9 BL (za9 BL 0 L) R
       ·have hbk':((BL[k3]:Int) == ((za9 BL (za9 BL 0 L) R:Nat):Int))=true:=by simp[hbk]
        have HBk:=Hh hbk;clear hbk;by_cases h1:NL[k3].1=za6 L
        ·have h1':decide (NL[k3].1=za6 L)=true:=decide_eq_true h1
         have H1:=Hh h1;clear h1;by_cases h2:NL[k3].2=za6 R
         ·have h2':decide (NL[k3].2=za6 R)=true:=decide_eq_true h2
          have hfin:putB NL BL L R=(NL,BL,k3):=by
           have hp:=zk2 NL BL (zd6 BL L R).1 (zd6 BL L R).2 k3 hlt HLen.out HNo.out (by rw[List.getElem?_eq_getElem hltB];exact congrArg some HBk.out) (by rw[List.getElem?_eq_getElem hlt];exact congrArg some (Prod.ext H1.out h2));simp only[putB,hp,hlt,if_true]
          have HFin:=Hh hfin;clear h2 hfin;go_wp2_with fail;refine(zcu _ _ NL[k3].1 (za6 L) (wr.drewN q) T1.out HS1'.out).mono ?_
          rintro e w1 ⟨rfl,q1,rfl⟩;go_wp2_with fail;refine(zcu _ _ NL[k3].2 (za6 R) (wr.drewN (q+q1)) T2.out HS2.out).mono ?_
          rintro e w1 ⟨rfl,q2,rfl⟩;go_wp2;go_ret;have hfz:Fr NoM w (wr.drewN (q+q1+q2)):=HFr1.out.trans (M':=NoM) ⟨rfl,rfl,rfl,Nat.le_refl _,fun _ _ _=>rfl⟩ (fun _ _ q=>q);refine⟨by rw[HFin.out];rfl,?_,hfz.mono (fun _ _ q=>q.elim)⟩;rw[HFin.out];exact(HBS.out.fr0 hfz).mono (fun _ h=>.inl h)
         ·have h2':decide (NL[k3].2=za6 R)=false:=decide_eq_false h2
          have H2:=Hh h2;clear h2;go_wp2_with fail;refine(zcu _ _ NL[k3].1 (za6 L) (wr.drewN q) T1.out HS1'.out).mono ?_
          rintro e w1 ⟨rfl,q1,rfl⟩;go_wp2_with fail;refine(zcu _ _ NL[k3].2 (za6 R) (wr.drewN (q+q1)) T2.out HS2.out).mono ?_
          rintro e w1 ⟨rfl,q2,rfl⟩;go_wp2;go_roundw
          case rel =>
           refine⟨k3+1,q+q1+q2,by omega,by go_num,fun j x y hj hx hy=>?_,rfl⟩;by_cases e:j=k3
           ·subst e;rw[List.getElem?_eq_getElem hlt]at hx;cases hx;exact fun c=>H2.out (by rw[c.2])
           ·exact HNo.out j x y (by omega) hx hy
          case measure=>simp[intOf];omega
        ·have h1':decide (NL[k3].1=za6 L)=false:=decide_eq_false h1
         have H1:=Hh h1;clear h1;go_wp2_with fail;refine(zcu _ _ NL[k3].1 (za6 L) (wr.drewN q) T1.out HS1'.out).mono ?_
         rintro e w1 ⟨rfl,q1,rfl⟩;go_wp2;go_roundw
         case rel =>
          refine⟨k3+1,q+q1,by omega,by go_num,fun j x y hj hx hy=>?_,rfl⟩;by_cases e:j=k3
          ·subst e;rw[List.getElem?_eq_getElem hlt]at hx;cases hx;exact fun c=>H1.out (by rw[c.2])
          ·exact HNo.out j x y (by omega) hx hy
         case measure=>simp[intOf];omega
       ·have hbk':((BL[k3]:Int) == ((za9 BL (za9 BL 0 L) R:Nat):Int))=false:=by rw[beq_eq_false_iff_ne];omega
        have HBk:=Hh hbk;clear hbk;go_wp2;go_roundw
        case rel =>
         refine⟨k3+1,q,by omega,by go_num,fun j x y hj hx hy=>?_,rfl⟩;by_cases e:j=k3
         ·subst e;rw[List.getElem?_eq_getElem hltB]at hy;cases hy;exact fun c=>HBk.out c.1
         ·exact HNo.out j x y (by omega) hx hy
        case measure=>simp[intOf];omega
      ·have hk':k3=NL.length:=by omega
       have hfin:putB NL BL L R=(NL ++ [(za6 L,za6 R)],BL ++ [za9 BL (za9 BL 0 L) R],NL.length):=by
        have hp:=zg3 NL BL (zd6 BL L R).1 (zd6 BL L R).2 HLen.out (fun j x y hj=>HNo.out j x y (by omega));simp only[putB,hp,if_false];rfl
       have HFin:=Hh hfin;have HK3:=Hh hk';clear hfin hk';have hfq:Fr NoM w (wr.drewN q):=HFr1.out.trans (M':=NoM) ⟨rfl,rfl,rfl,Nat.le_refl _,fun _ _ _=>rfl⟩ (fun _ _ q=>q);have hB2:=HB.out.fr0 hfq;have HFq:=Hh hfq;have HB2:=Hh hB2;clear hfq hB2;go_wp2_with (at_builtin;go_loud (refine zn3 (wr.drewN q) rfl _ _ 25 rfl 0 55 _ 48 Tryz.underlying25 zbi rfl (.slice na NL.length nc) NL.length (zay NV) rfl HB2.out.nodes (.slice a7 (za6 L).length c7) (.slice a8 (za6 R).length c8) rfl rfl rfl ?c1 (by decide) (Nat.zero_le _) ?_))
       case c1=>have:=Hn.out;omega
       intro v1 w1 h1 f1 q1;obtain⟨g1,cap1,rfl,_,hg1⟩:=zbg h1 (by omega);have hb1:=f1.heap HB2.out.blk (fun h=>HB2.out.d1 bb h rfl);have k0:w1.cell? ⟨bb,0,none⟩=some (.slice na NL.length nc):=by rw[cell_of_row w1 bb 0 _ _ _ hb1];rfl
       have k1:w1.cell? ⟨bb,1,none⟩=some (.slice ba BL.length bc):=by rw[cell_of_row w1 bb 1 _ _ _ hb1];rfl
       have z0:w1.frozen? ⟨bb,0,none⟩=false:=by simp[World.frozen?,hb1]
       have hsz:bb<w1.heap.size:=(Array.getElem?_eq_some_iff.1 hb1).1;have hbn:((w1.setCell ⟨bb,0,none⟩ (.slice (some ⟨g1,0,none⟩) (NL.length+1) cap1))).ownsRow 0 3 1 (.slice ba BL.length bc) BL.length (BL.map encN) :=
        za2 (za2 HB2.out.born f1 (fun b hb h=>HB2.out.d3 b h hb)) (Fr.set w1 ⟨bb,0,none⟩ _) (fun b hb=>HB2.out.d2 b hb)
       have HBb:=Hh hb1;have HH1:=Hh h1;have HF1:=Hh f1;have HQ1:=Hh q1;have HBn:=Hh hbn;clear hb1 h1 f1 q1 hbn;go_wp2_with (at_builtin;refine zkk (w1.setCell ⟨bb,0,none⟩ (.slice (some ⟨g1,0,none⟩) (NL.length+1) cap1)) rfl _ _ 42 rfl 0 3 (.int .i64 0) 8 Tryz.underlying42 za8 rfl (.slice ba BL.length bc) BL.length (BL.map encN) rfl HBn.out (encN (za9 BL (za9 BL 0 L) R)) w1.heap.size (by simp[World.setCell]) rfl rfl ?c2 (by decide) (Nat.zero_le _) ?_)
       case c2=>have:=Hn.out;rw[HLen.out];omega
       intro v2 w2 h2 f2 q2;obtain⟨g2,cap2,rfl,_,hg2⟩:=zbg h2 (by omega);have hb2:=f2.heap (heap_set HBb.out _) (fun h=>HB2.out.d2 bb h rfl);have k0':w2.cell? ⟨bb,0,none⟩=some (.slice (some ⟨g1,0,none⟩) (NL.length+1) cap1):=by rw[cell_of_row w2 bb 0 _ _ _ hb2];rfl
       have k1':w2.cell? ⟨bb,1,none⟩=some (.slice ba BL.length bc):=by rw[cell_of_row w2 bb 1 _ _ _ hb2];rfl
       have z1:w2.frozen? ⟨bb,1,none⟩=false:=by simp[World.frozen?,hb2]
       have HH2:=Hh h2;have HF2:=Hh f2;have HQ2:=Hh q2;have hn9:NL.length≤9223372036854775:=by have:=Hn.out;omega
       clear hb2 h2 f2 q2 k0 k1 z0 hsz;go_wp2;go_ret;have hw:∀ {k},w.heap.size≤k→¬zc6 (wr.drewN q) bb k:=fun hle hk=>by
        rcases (zb9 HB2.out.blk).1 hk with h|h|h
        ·have:=(Array.getElem?_eq_some_iff.1 HB.out.blk).1;omega
        ·have:=zfc HB.out.nodes h;omega
        ·have:=zfc HB.out.born h;omega
       obtain⟨p1,p2,p3⟩:=ztu HB2.out HH1.out HF1.out HQ1.out HH2.out HF2.out (by simpa [World.setCell] using HQ2.out) (SliceOf.fr0 HS1'.out ⟨rfl,rfl,rfl,Nat.le_refl _,fun _ _ _=>rfl⟩) (SliceOf.fr0 HS2.out ⟨rfl,rfl,rfl,Nat.le_refl _,fun _ _ _=>rfl⟩)
        (fun _ b hb=>hw (HNb1.out b hb)) (fun _ b hb=>hw (HNb2.out b hb))
       refine⟨?_,?_,(HFq.out.mono (M':=zc6 w bb) (fun _ _ q=>q.elim)).trans p2 (fun k _ h=>(zn2 ⟨_,_,_,HB.out⟩ HFq.out).1 h)⟩
       ·rw[HFin.out];simp
       ·rw[HFin.out]
        refine⟨_,_,_,p1,fun k hk=>?_,InS.push (fun j x y hx hy=>⟨fun hne q hq=>.inl ((HS2S.out j x y hx hy).1 hne q hq),fun hne q hq=>.inl ((HS2S.out j x y hx hy).2 hne q hq)⟩) HB.out.lenV _ _ (fun _ b hb=>.inr (HNb1.out b hb)) (fun _ b hb=>.inr (HNb2.out b hb))⟩;rcases p3 k hk with h|h
        ·exact .inl (HS1S.out k ((zn2 ⟨_,_,_,HB.out⟩ HFq.out).1 h))
        ·exact .inr (Nat.le_trans HFq.out.size h)
structure BookOK (NL:List (List Nat × List Nat)) (BL:List Nat):Prop where
 lens:BL.length=NL.length
 opts:∀(j:Nat) (y:List Nat × List Nat),NL[j]?=some y→(∀x∈y.1,x<j)/\∀x∈y.2,x<j
 born:∀(j x:Nat),BL[j]?=some x→x≤j
theorem zop (L:List Nat)(n x:Nat):x∈putN L n↔x∈L∨x=n:=by
 unfold putN;split
 ·rename_i h
  have hm:n∈L:=List.mem_of_getElem? h;constructor
  ·exact .inl
  ·rintro(h|rfl)
   ·exact h
   ·exact hm
 ·rw[List.mem_append,List.mem_cons]
  constructor
  ·rintro(h|h|h)
   ·exact .inl (List.mem_of_mem_take h)
   ·exact .inr h
   ·exact .inl (List.mem_of_mem_drop h)
  ·rintro(h|h)
   ·rw[←List.take_append_drop (posN L n) L,List.mem_append]at h
    rcases h with h|h
    ·exact .inl h
    ·exact .inr (.inr h)
   ·exact .inr (.inl h)
theorem zav (L:List Nat)(x:Nat):x∈za6 L↔x∈L:=by
 suffices h:∀(L A:List Nat),x∈L.foldl putN A↔x∈A∨x∈L by have:=h L [];simpa [za6] using this
 intro L;induction L with
 | nil=>intro A;simp
 | cons y l ih=>intro A;rw[List.foldl_cons,ih,zop,List.mem_cons,or_assoc]
theorem zh5 (BL:List Nat)(hb:∀(j x:Nat),BL[j]?=some x→x≤j)(N:Nat)(L:List Nat)(m:Nat)(hm:m≤N)(hL:∀x∈L,x<N):za9 BL m L≤N:=by
 unfold za9;induction L generalizing m with
 | nil=>exact hm
 | cons y l ih =>
  rw[List.foldl_cons];refine ih _ ?_ (fun x hx=>hL x (List.mem_cons_of_mem _ hx))
  have hy:=hL y List.mem_cons_self;rw[List.getD_eq_getElem?_getD];cases h:BL[y]? with
  | none=>simp only[Option.getD_none];omega
  | some z=>simp only[Option.getD_some];have:=hb y z h;omega
theorem zsi {NL:List (List Nat × List Nat)}{BL:List Nat}(h:BookOK NL BL)(L R:List Nat)(hL:∀x∈L,x<NL.length)(hR:∀x∈R,x<NL.length) :
  BookOK (putB NL BL L R).1 (putB NL BL L R).2.1/\(putB NL BL L R).2.2<(putB NL BL L R).1.length/\(putB NL BL L R).1.length≤NL.length+1/\NL <+: (putB NL BL L R).1/\BL <+: (putB NL BL L R).2.1:=by
 unfold putB;simp only;split
 ·rename_i hlt
  exact⟨h,hlt,Nat.le_succ _,List.prefix_refl _,List.prefix_refl _⟩
 ·refine⟨⟨by simp[h.lens],fun j y hy=>?_,fun j x hx=>?_⟩,by simp,by simp,List.prefix_append _ _,List.prefix_append _ _⟩
  ·by_cases hj:j<NL.length
   ·rw[List.getElem?_append_left hj]at hy;exact h.opts j y hy
   ·rw[List.getElem?_append_right (by omega)]at hy
    cases hd:j-NL.length with
    | zero =>
     rw[hd]at hy;simp at hy;subst hy;simp only[zd6];exact⟨fun x hx=>by have:=hL x ((zav L x).1 hx);omega,fun x hx=>by have:=hR x ((zav R x).1 hx);omega⟩
    | succ d=>rw[hd]at hy;simp at hy
  ·by_cases hj:j<BL.length
   ·rw[List.getElem?_append_left hj]at hx;exact h.born j x hx
   ·rw[List.getElem?_append_right (by omega)]at hx
    cases hd:j-BL.length with
    | zero =>
     rw[hd]at hx;simp at hx;subst hx;have hl:=h.lens;have:=zh5 BL h.born NL.length R (za9 BL 0 L) (zh5 BL h.born NL.length L 0 (Nat.zero_le _) hL) hR;simp only[zd6];omega
    | succ d=>rw[hd]at hx;simp at hx
theorem BookOK.lt {NL:List (List Nat × List Nat)}{BL:List Nat}(h:BookOK NL BL)(N:Nat)(hN:NL.length≤N):∀x∈BL,x<N+1:=by
 intro x hx;obtain⟨j,hj,rfl⟩:=List.getElem_of_mem hx;have:=h.born j _ (List.getElem?_eq_getElem hj);have:=h.lens;omega
def zff (s:List (List Nat × List Nat) × List Nat × List Nat)(x:List Nat × List Nat):List (List Nat × List Nat) × List Nat × List Nat :=
 let p:=putB s.1 s.2.1 (za1 s.2.2 x.1) (za1 s.2.2 x.2)
 (p.1,p.2.1,s.2.2 ++ [p.2.2])
def addB (NL:List (List Nat × List Nat))(BL:List Nat)(FL:List (List Nat × List Nat)):List (List Nat × List Nat) × List Nat × List Nat:=FL.foldl zff (NL,BL,[])
theorem zca (NL:List (List Nat × List Nat))(BL:List Nat)(FL:List (List Nat × List Nat))(x:List Nat × List Nat):addB NL BL (FL ++ [x])=zff (addB NL BL FL) x:=by simp[addB]
theorem zde {A L:List Nat}{N:Nat}(hA:∀x∈A,x<N)(hL:∀x∈L,x<A.length):∀x∈za1 A L,x<N:=by
 intro x hx;obtain⟨i,hi,rfl⟩:=List.mem_map.1 hx;rw[List.getD_eq_getElem?_getD,List.getElem?_eq_getElem (hL i hi)];exact hA _ (List.getElem_mem _)
theorem zeq {NL:List (List Nat × List Nat)}{BL:List Nat}(h:BookOK NL BL)(FL:List (List Nat × List Nat))(hF:∀(j:Nat) (y:List Nat × List Nat),FL[j]?=some y→(∀x∈y.1,x<j)/\∀x∈y.2,x<j) :
  BookOK (addB NL BL FL).1 (addB NL BL FL).2.1/\(addB NL BL FL).2.2.length=FL.length/\(∀x∈(addB NL BL FL).2.2,x<(addB NL BL FL).1.length)/\(addB NL BL FL).1.length≤NL.length+FL.length/\NL <+: (addB NL BL FL).1:=by
 suffices hs:∀n,n≤FL.length→BookOK (addB NL BL (FL.take n)).1 (addB NL BL (FL.take n)).2.1/\(addB NL BL (FL.take n)).2.2.length=n/\(∀x∈(addB NL BL (FL.take n)).2.2,x<(addB NL BL (FL.take n)).1.length)/\(addB NL BL (FL.take n)).1.length≤NL.length+n/\NL <+: (addB NL BL (FL.take n)).1 by
  have:=hs FL.length (Nat.le_refl _);rw[List.take_length]at this
  exact this
 intro n;induction n with
 | zero=>intro _;exact⟨h,rfl,by simp[addB],by simp[addB],by simp[addB]⟩
 | succ n ih =>
  intro hn;obtain⟨i1,i2,i3,i4,i5⟩:=ih (by omega);rw[List.take_succ_eq_append_getElem (by omega),zca];obtain⟨f1,f2⟩:=hF n FL[n] (List.getElem?_eq_getElem _);have a1:=zde i3 (fun x hx=>by rw[i2];exact f1 x hx);have a2:=zde i3 (fun x hx=>by rw[i2];exact f2 x hx);obtain⟨p1,p2,p3,p4,_⟩:=zsi i1 _ _ a1 a2;refine⟨p1,by simp[zff,i2],?_,by simp only[zff];omega,i5.trans p4⟩;intro x hx;simp only[zff,List.mem_append,List.mem_singleton]at hx ⊢;rcases hx with hx|rfl
  ·exact Nat.lt_of_lt_of_le (i3 x hx) p4.length_le
  ·exact p2
theorem Fr.any {M:Nat→Prop}{a b:World}(h:Fr NoM a b):Fr M a b:=h.mono fun _ _ q=>False.elim q
theorem zex {w:World}{base:Nat}{v:Value}{A L:List Nat}(h:w.ownsRow base 3 1 v L.length ((za1 A L).map encN)):Nats w v (za1 A L) :=
 SliceOf.of_owns (n:=(za1 A L).length) (by rw[show(za1 A L).length=L.length from by simp[za1]];exact h) rfl
theorem zse {S1:Nat→Prop}{wr W w3:World}{bb:Nat}{NL NL':List (List Nat × List Nat)}{BL BL':List Nat}(p1:BookS (fun k=>S1 k∨W.heap.size≤k) w3 bb NL' BL')(p2:Fr (zc6 W bb) W w3)(hb:BookS S1 W bb NL BL)(f:Fr NoM wr W) :
  ∃S2,BookS S2 w3 bb NL' BL'∧(∀q,S2 q→(S1 q∨wr.heap.size≤q)/\q<w3.heap.size)/\Fr S1 wr w3 :=
 ⟨_,p1.cut,fun _ h=>⟨h.1.imp_right (Nat.le_trans f.size),h.2⟩,(f.mono fun _ _ q=>q.elim).trans p2 fun k _ h=>hb.m k h⟩
set_option maxRecDepth 4000 in
set_option maxHeartbeats 4000000 in
theorem zye {R S:Nat→Prop}(bb:Nat)(nv:Value)(NL FL:List (List Nat × List Nat))(BL:List Nat)(w:World)(hB:BookS S w bb NL BL)(hOK:BookOK NL BL)(hF:NodeL R encN w nv FL)(hR:∀k,R k→¬S k)
  (hopt:∀(j:Nat) (y:List Nat × List Nat),FL[j]?=some y→(∀x∈y.1,x<j)/\∀x∈y.2,x<j) (hn:NL.length+FL.length<100000000) (hlen:∀y∈FL,y.1.length<100000000/\y.2.length<100000000) :
  Calls Tryz.prog 64 #[.pointer (some ⟨bb,0,none⟩),.agg #[nv]] w fun e w'=>∃v' S',e=.returned v'∧w'.ownsRow w.heap.size 3 1 v' FL.length ((addB NL BL FL).2.2.map encN)/\(∀b,v'.ownBlock=some b→¬S' b) ∧
   BookS S' w' bb (addB NL BL FL).1 (addB NL BL FL).2.1/\(∀k,S' k→S k∨w.heap.size≤k)/\Fr S w w':=by
 have hFk:=hF;obtain⟨na,nc,rfl,hnc,hncm,hnn⟩:=hF;have HNn:=Hh hnn;have HB:=Hh hB;have HOK:=Hh hOK;have HR:=Hh hR;have Hopt:=Hh hopt;have Hn:=Hh hn;have HLen:=Hh hlen;clear hnn hB hOK hFk hR hopt hn hlen;go_enter Tryz.func64,Tryz.ntmps64;go_wp2;obtain⟨w0,hw0⟩:∃w0:World,w0=(w.alloc (.cells #[.slice na FL.length nc] 27)).alloc (.cells #[] 3):=⟨_,rfl⟩;have F0:Fr NoM w w0:=by rw[hw0];exact((Fr.refl NoM w).alloc _).alloc _
 have k0:w0.heap[w.heap.size]?=some (.cells #[.slice na FL.length nc] 27 (0,0)):=by
  rw[hw0,Below.heap_alloc _ _ _ (by simp)];exact heap_alloc_new w _
 have o0:w0.ownsRow w.heap.size 3 1 (.slice (some ⟨w.heap.size+1,0,none⟩) 0 0) 0 []:=by
  have h:=World.ownsRow_made (base:=w.heap.size) (e:=3) (size:=1) (w.alloc (.cells #[.slice na FL.length nc] 27)) #[] 0 (by simp) (by decide) (by simp);simp only[World.size_alloc]at h;rw[hw0];exact h
 rw[←hw0];have HF0:=Hh F0;have HK0:=Hh k0;have HO0:=Hh o0;clear F0 k0 o0 hw0;go_loopw [5,6] (fun v0 i wr=>∃(k:Nat) (S1:Nat→Prop) (v:Value),v=v0/\k≤FL.length/\i=.int .i64 k/\wr.ownsRow w.heap.size 3 1 v k ((addB NL BL (FL.take k)).2.2.map encN)/\BookS S1 wr bb (addB NL BL (FL.take k)).1 (addB NL BL (FL.take k)).2.1 ∧
   (∀q,S1 q→S q∨w.heap.size≤q)/\¬S1 w.heap.size/\(∀b,v.ownBlock=some b→¬S1 b/\b≠w.heap.size)/\wr.heap[w.heap.size]?=some (.cells #[.slice na FL.length nc] 27 (0,0))/\Fr S w wr) (fun _ i _=>FL.length-(intOf i).toNat)
 case atStart =>
  exact⟨0,fun k=>S k/\k<w.heap.size,_,rfl,by omega,rfl,HO0.out,HB.out.cut.fr0 HF0.out,fun q h=>.inl h.1,fun h=>by have:=h.2;omega,fun b hb=>by
   simp[Value.ownBlock]at hb;subst hb;exact⟨fun h=>by have:=h.2;omega,by omega⟩,HK0.out,HF0.out.mono (fun _ _ q=>q.elim)⟩
 case round =>
  obtain⟨k,S1,v,rfl,hk,rfl,hown,hbs,hsub,hbx,hv,hbox,hfr⟩:=hrel;have hpre:∀(j:Nat) (y:List Nat × List Nat),(FL.take k)[j]?=some y→(∀x∈y.1,x<j)/\∀x∈y.2,x<j:=fun j y hy=>Hopt.out j y (by
   rw[List.getElem?_take]at hy;split at hy
   ·exact hy
   ·cases hy)
  obtain⟨ok1,ok2,ok3,ok4,ok5⟩:=zeq HOK.out (FL.take k) hpre;rw[List.length_take,Nat.min_eq_left hk]at ok2 ok4;obtain⟨⟨NLk,BLk,A⟩,hA⟩:∃s,addB NL BL (FL.take k)=s:=⟨_,rfl⟩;rw[hA]at hown hbs ok1 ok2 ok3 ok4 ok5;dsimp only at hown hbs ok1 ok2 ok3 ok4 ok5
  by_cases hlt:k<FL.length
  ·obtain⟨b1,o1,lv,rv,ha1,hR1,d1,d2,n1,n2,m1,m2⟩:=HNn.out k FL[k] (List.getElem?_eq_getElem _)
   obtain⟨x1,x2⟩:=Hopt.out k FL[k] (List.getElem?_eq_getElem _);obtain⟨y1,y2⟩:=HLen.out FL[k] (List.getElem_mem _);have hnn:=Hn.out;have ix:=zbr na FL.length nc k b1 o1 hlt ha1;have hnext:addB NL BL (FL.take (k+1))=((putB NLk BLk (za1 A FL[k].1) (za1 A FL[k].2)).1,(putB NLk BLk (za1 A FL[k].1) (za1 A FL[k].2)).2.1,A ++ [(putB NLk BLk (za1 A FL[k].1) (za1 A FL[k].2)).2.2]):=by
    rw[List.take_succ_eq_append_getElem hlt,zca,hA];rfl
   have hvb:∀b,v.ownBlock=some b→w.heap.size≤b/\b<wr.heap.size:=fun b hb=>hown.lt b hb
   have hlow:∀q,q<w.heap.size→R q→¬(S1 q∨Own1 v q):=by
    rintro q hq hR (h|h)
    ·rcases hsub q h with h|h
     ·exact HR.out q hR h
     ·omega
    ·have:=hvb q h;omega
   have hsz:w.heap.size<wr.heap.size:=(Array.getElem?_eq_some_iff.1 hbox).1;have HV:=Hh (fun(W:World) (f:Fr NoM wr W)=>(SliceOf.of_owns (L:=A) (ok2 ▸ hown) rfl:Nats wr v A).fr0 f);have hA1:A.length=k:=ok2;have HN1:=Hh (fun(W:World) (f:Fr NoM wr W)=>(n1.fr hfr (fun hne b hb=>fun h=>HR.out b (m1 hne b hb) h)).fr0 f);have HN2:=Hh (fun(W:World) (f:Fr NoM wr W)=>(n2.fr hfr (fun hne b hb=>fun h=>HR.out b (m2 hne b hb) h)).fr0 f);have HBk:=Hh (fun(W:World) (f:Fr NoM wr W)=>hbs.fr0 f);have e1:=hfr.cell d1 (HR.out b1 hR1);have e2:=hfr.cell d2 (HR.out b1 hR1);have hb1:b1<w.heap.size:=World.block_lt_of_cell? w _ d1;have e0:wr.cell? ⟨w.heap.size,0,none⟩=some (.slice na FL.length nc):=by rw[cell_of_row wr _ 0 _ _ _ hbox];rfl
   have HC:=Hh (fun(W:World) (f:Fr (fun q=>S1 q∨Own1 v q) wr W)=>(⟨f.cell e0 (fun h=>h.elim hbx (fun h=>(hv _ h).2 rfl)),f.cell e1 (hlow _ hb1 hR1),f.cell e2 (hlow _ hb1 hR1)⟩:W.cell? ⟨w.heap.size,0,none⟩=some (.slice na FL.length nc)/\W.cell? ⟨b1,o1+k*2,none⟩=some lv/\W.cell? ⟨b1,o1+k*2+1,none⟩=some rv));have HX1:=Hh (show ∀(j x:Nat),FL[k].1[j]?=some x→x<A.length from fun j x hx=>hA1 ▸ x1 x (List.mem_of_getElem? hx));have HX2:=Hh (show ∀(j x:Nat),FL[k].2[j]?=some x→x<A.length from fun j x hx=>hA1 ▸ x2 x (List.mem_of_getElem? hx));have HY1:=Hh (show FL[k].1.length<1000000000000 by omega);have HY2:=Hh (show FL[k].2.length<1000000000000 by omega);have hz1:=zde (L:=FL[k].1) ok3 (fun x hx=>hA1 ▸ x1 x hx);have hz2:=zde (L:=FL[k].2) ok3 (fun x hx=>hA1 ▸ x2 x hx);have HP1:=Hh (show ∀(j x:Nat),(za1 A FL[k].1)[j]?=some x→x<NLk.length from fun j x hx=>hz1 x (List.mem_of_getElem? hx));have HP2:=Hh (show ∀(j x:Nat),(za1 A FL[k].2)[j]?=some x→x<NLk.length from fun j x hx=>hz2 x (List.mem_of_getElem? hx));have HP3:=Hh (show(za1 A FL[k].1).length<1000000000 by simp[za1];omega);have HP4:=Hh (show(za1 A FL[k].2).length<1000000000 by simp[za1];omega);have HP5:=Hh (show NLk.length<1000000000 by omega);have HP6:=Hh (show ∀x∈BLk,x<1000000000 from fun x hx=>by have:=ok1.lt NLk.length (Nat.le_refl _) x hx;omega);have F0:Fr NoM wr wr.drew:=(Fr.refl NoM wr).drew;have G0:Fr (fun q=>S1 q∨Own1 v q) wr wr.drew:=(Fr.refl _ wr).drew;have HO:=Hh hown;have HNx:=Hh hnext;have HVb:=Hh hvb;have HFr:=Hh hfr;have HSub:=Hh hsub;have HVs:=Hh hv;have HBox:=Hh hbox;have HBx:=Hh hbx;have HSz:=Hh hsz;clear hown hnext hvb hfr hsub hv hbox hbx hsz d1 d2 n1 n2 m1 m2 x1 x2 y1 y2 hz1 hz2 ok1 ok2 ok3 ok4 ok5 hbs hA hpre e0 e1 e2 hb1 hlow hR1 ha1 hA1;have hc:=HC.out wr (Fr.refl _ wr);go_wp2;go_region_held3 (fun(W:World)=>W.cell? ⟨w.heap.size,0,none⟩=some (.slice na FL.length nc)/\W.cell? ⟨b1,o1+k*2,none⟩=some lv/\W.cell? ⟨b1,o1+k*2+1,none⟩=some rv)
    (first|exact HC.out _ (by assumption)|exact HC.out _ (Fr.alloc (by assumption) _))
    (first
     | (go_at_call 67;with_reducible refine(zh0 _ lv A FL[k].1 _ (HV.out _ (by assumption)) (HN1.out _ (by assumption)) HX1.out HY1.out).mono ?_;rintro e w1 ⟨v1,rfl,t1,f1⟩;have z1:Nats w1 v1 (za1 A FL[k].1):=zex t1;clear t1;have g1:Fr NoM wr w1:=Fr.trans (by assumption) f1 (fun _ _ q=>q);have k1:Fr (fun q=>S1 q∨Own1 v q) wr w1:=g1.any;try (have z2:=SliceOf.fr0 (L:=za1 A FL[k].2) (by assumption) f1))
     | (go_at_call 67;with_reducible refine(zh0 _ rv A FL[k].2 _ (HV.out _ (by assumption)) (HN2.out _ (by assumption)) HX2.out HY2.out).mono ?_;rintro e w2 ⟨v2,rfl,t2,f2⟩;have z2:Nats w2 v2 (za1 A FL[k].2):=zex t2;clear t2;have g2:Fr NoM wr w2:=Fr.trans (by assumption) f2 (fun _ _ q=>q);have k2:Fr (fun q=>S1 q∨Own1 v q) wr w2:=g2.any;try (have z1:=SliceOf.fr0 (L:=za1 A FL[k].1) (by assumption) f2))
     | (go_at_call 38;with_reducible refine(zsd bb _ _ NLk BLk (za1 A FL[k].1) (za1 A FL[k].2) _ (HBk.out _ (by assumption)) (by assumption) (by assumption) HP1.out HP2.out HP3.out HP4.out HP5.out HP6.out).mono ?_;rintro e w3 ⟨rfl,p1,p2⟩;obtain⟨S2,h3,s3,f3⟩:=zse (wr:=wr) p1 p2 (HBk.out _ (by assumption)) (by assumption);clear p1 p2;have HS3:=Hh s3;clear s3;have k3:Fr (fun q=>S1 q∨Own1 v q) wr w3:=f3.mono (fun _ _ q=>.inl q))
     | (refine zbc (enc:=encN) rfl (.tmp 15) (.tmp 34) 42 rfl w.heap.size 3 (.int .i64 0) 8 Tryz.underlying42 za8 rfl v k (A.map encN) rfl (za2 HO.out (f3.alloc _) (fun b hb=>(HVs.out b hb).1)) (.slice (some ⟨w3.heap.size,0,none⟩) 1 1) rfl [(putB NLk BLk (za1 A FL[k].1) (za1 A FL[k].2)).2.2] (SliceOf.one encN w3 _ 3) (fun _=>rfl) (by simp;omega) (by decide) (by have:=f3.size;have:=HSz.out;rw[World.size_alloc];omega) ?_;intro v4 w4 h4 f4 q4;have k4:Fr (fun q=>S1 q∨Own1 v q) wr w4:=(k3.alloc _).trans f4 (fun _ _ q=>.inr q))
     | fail)
   all_goals
    go_wp2;go_roundw
    case rel =>
     have hd:∀q,S2 q→¬Own1 v q:=fun q hq ho=>by
      rcases (HS3.out q hq).1 with h|h
      ·exact(HVs.out q ho).1 h
      ·have:=(HVb.out q ho).2;omega
     have hz:=HSz.out;refine⟨k+1,S2,_,rfl,by omega,by go_num,?_,?_,?_,?_,?_,?_,?_⟩
     ·rw[HNx.out,List.map_append];exact h4
     ·rw[HNx.out];exact(h3.fr0 ((Fr.refl NoM w3).alloc _)).fr f4 hd
     ·intro q hq
      rcases (HS3.out q hq).1 with h|h
      ·exact HSub.out q h
      ·exact .inr (by omega)
     ·intro hq
      rcases (HS3.out _ hq).1 with h|h
      ·exact HBx.out h
      ·omega
     ·intro b hb
      rcases q4 with h|⟨b',h,hle⟩
      ·rw[h]at hb
       exact⟨fun hq=>hd b hq hb,(HVs.out b hb).2⟩
      ·rw[h]at hb;cases hb
       simp only[World.size_alloc]at hle;have:=f3.size;exact⟨fun hq=>by have:=(HS3.out _ hq).2;omega,by omega⟩
     ·exact k4.heap HBox.out (fun h=>h.elim HBx.out (fun h=>(HVs.out _ h).2 rfl))
     ·refine HFr.out.trans k4 (fun q hq h=>?_)
      rcases h with h|h
      ·rcases HSub.out q h with h|h
       ·exact h
       ·omega
      ·have:=(HVb.out q h).1;omega
    case measure=>simp[intOf];omega
  ·have hk':k=FL.length:=by omega
   subst hk';rw[List.take_length]at hA;have HO:=Hh hown;have HFr:=Hh hfr;have HSub:=Hh hsub;have HVs:=Hh hv;have HBk:=Hh hbs;have HA:=Hh hA;have e0:wr.cell? ⟨w.heap.size,0,none⟩=some (.slice na FL.length nc):=by rw[cell_of_row wr _ 0 _ _ _ hbox];rfl
   clear hown hfr hsub hv hbs hA hbox hbx hpre ok1 ok2 ok3 ok4 ok5;go_wp2;go_ret;refine⟨_,S1,rfl,?_,fun b hb=>(HVs.out b hb).1,?_,HSub.out,HFr.out⟩
   ·rw[HA.out];exact HO.out
   ·rw[HA.out];exact HBk.out
def zdm (NL:List (List Nat × List Nat))(BL:List Nat)(FL:List (List Nat × List Nat)):Nat:=(addB NL BL FL).2.2.getD (FL.length-1) 0
set_option maxRecDepth 4000 in
set_option maxHeartbeats 4000000 in
theorem zk1 {R S:Nat→Prop}(bb:Nat)(nv:Value)(NL FL:List (List Nat × List Nat))(BL:List Nat)(w:World)(hB:BookS S w bb NL BL)(hOK:BookOK NL BL)(hF:NodeL R encN w nv FL)(hR:∀k,R k→¬S k)
  (hopt:∀(j:Nat) (y:List Nat × List Nat),FL[j]?=some y→(∀x∈y.1,x<j)/\∀x∈y.2,x<j) (hn:NL.length+FL.length<100000000) (hlen:∀y∈FL,y.1.length<100000000/\y.2.length<100000000) (hne:0<FL.length) :
  Calls Tryz.prog 36 #[.pointer (some ⟨bb,0,none⟩),.agg #[nv]] w fun e w'=>∃S',e=.returned (.int .i64 (zdm NL BL FL:Nat)) ∧
   BookS S' w' bb (addB NL BL FL).1 (addB NL BL FL).2.1/\(∀k,S' k→S k∨w.heap.size≤k)/\Fr S w w':=by
 have hlenA:(addB NL BL FL).2.2.length=FL.length:=(zeq hOK FL hopt).2.1;have hS0:=hB.cut;obtain⟨na,nc,rfl,hnc,hncm,hnn⟩:=id hF;have HF:=Hh hF;have HB:=Hh hS0;have HOK:=Hh hOK;have HR:=Hh hR;have Hopt:=Hh hopt;have Hn:=Hh hn;have HLen:=Hh hlen;have HLA:=Hh hlenA;clear hnn hB hS0 hOK hF hR hopt hn hlen hlenA;go_enter Tryz.func36,Tryz.ntmps36;obtain⟨w0,hw0⟩:∃w0:World,w0=w.alloc (.cells #[.slice na FL.length nc] 27):=⟨_,rfl⟩;go_wp2_with fail;rw[←hw0];have F0:Fr NoM w w0:=by rw[hw0];exact(Fr.refl NoM w).alloc _
 refine(zye bb (.slice na FL.length nc) NL FL BL w0 (HB.out.fr0 F0) HOK.out (HF.out.fr F0 (fun _ _ q=>q)) (fun k h h'=>HR.out k h h'.1) Hopt.out Hn.out HLen.out).mono ?_
 rintro e w1 ⟨v,S1,rfl,h1,h2,h3,h4,h5⟩;have hsz:w0.heap.size=w.heap.size+1:=by rw[hw0];simp
 have hlt:FL.length-1<(addB NL BL FL).2.2.length:=by rw[HLA.out];omega
 obtain⟨x,hx⟩:∃x,(addB NL BL FL).2.2[FL.length-1]?=some x:=⟨_,List.getElem?_eq_getElem hlt⟩;have hN:Nats w1 v (addB NL BL FL).2.2:=SliceOf.of_owns (n:=(addB NL BL FL).2.2.length) (by rw[HLA.out];exact h1) rfl;obtain⟨a1,c1,rfl,_,_,hc⟩:=hN;obtain⟨b1,o1,ha,d1⟩:=hc _ x hx;have ix1:=zaa a1 (addB NL BL FL).2.2.length c1 (FL.length-1) b1 o1 hlt ha;rw[HLA.out]at ix1;have hxe:zdm NL BL FL=x:=by unfold zdm;rw[List.getD_eq_getElem?_getD,hx];rfl
 have HX:=Hh hxe;have H2:=Hh h3;have H3:=Hh h4;have H4:=Hh h5;have HW:=Hh hw0;have H0:=Hh F0;have HSZ:=Hh hsz;have hl9:FL.length<100000000:=by have:=Hn.out;omega
 have hcast:((FL.length:Int)-1)=((FL.length-1:Nat):Int):=by omega
 unfold encN at d1;rw[HLA.out];clear hx hxe h1 h2 h3 h4 h5 hw0 F0 hc ha hsz;go_wp2;go_ret;refine⟨S1,by rw[HX.out];rfl,H2.out,fun k hk=>?_,(H0.out.any (M:=S)).trans H4.out (fun k _ h=>h.1)⟩;rcases H3.out k hk with h|h
 ·exact .inl h.1
 ·have:=HSZ.out;exact .inr (by omega)
def RowIs {α:Type}(e:TypeId)(enc:α→Value)(w:World)(g:Nat)(L:List α):Prop:=w.heap[g]?=some (.cells (L.map enc).toArray e (0,0))
section
variable {α:Type}{e:TypeId}{enc:α→Value}{w w':World}{g:Nat}{L:List α}
theorem RowIs.fr {M:Nat→Prop}(h:RowIs e enc w g L)(hf:Fr M w w')(hm:¬M g):RowIs e enc w' g L:=hf.heap h hm
theorem RowIs.cell (h:RowIs e enc w g L)(i:Nat)(hi:i<L.length):w.cell? ⟨g,i,none⟩=some (enc L[i]):=by
 rw[cell_of_row w g i _ _ _ h];simp[hi]
theorem RowIs.set (h:RowIs e enc w g L)(i:Nat)(x:α):RowIs e enc (w.setCell ⟨g,i,none⟩ (enc x)) g (L.set i x):=by
 unfold RowIs;rw[heap_set h];simp[List.map_set]
theorem RowIs.frozen (h:RowIs e enc w g L)(i:Nat):w.frozen? ⟨g,i,none⟩=false:=by unfold RowIs at h;simp[World.frozen?,h]
theorem RowIs.slice (h:RowIs e enc w g L)(hl:L.length≤9223372036854775807):SliceOf enc w (.slice (some ⟨g,0,none⟩) L.length L.length) L :=
 ⟨_,_,rfl,Nat.le_refl _,hl,fun j x hx=>⟨g,0,rfl,by
  have hj:=(List.getElem?_eq_some_iff.1 hx).1;rw[Nat.zero_add,h.cell j hj];rw[List.getElem?_eq_getElem hj]at hx;cases hx;rfl⟩⟩
end
def zdq {α:Type}(enc:α→Value)(x:α)(n:Nat):Array Value:=((List.replicate n x).map enc).toArray
theorem RowIs.made {α:Type}(e:TypeId)(enc:α→Value)(w:World)(x:α)(n:Nat):RowIs e enc (w.alloc (.cells (zdq enc x n) e)) w.heap.size (List.replicate n x):=heap_alloc_new w _
theorem RowIs.made1 {α:Type}(e:TypeId)(enc:α→Value)(w:World)(x y:α)(n i:Nat):RowIs e enc (w.alloc (.cells ((zdq enc x n).setIfInBounds i (enc y)) e)) w.heap.size ((List.replicate n x).set i y):=by
 unfold RowIs;rw[heap_alloc_new w _];unfold zdq;rw[List.setIfInBounds_toArray,List.map_set]
theorem zp4:(Tryz.prog.info? 4).map (fun i=>(i.zero,i.size,i.bytes))=some (some (.bool false),1,1):=by kernel_rfl
theorem zhv (g n c k:Nat)(hk:k<n)(w:World) :
  (Instr.indexAt 87 (.slice (some ⟨g,0,none⟩) n c) (.int .i64 (k:Int))).run Tryz.prog w=.ok (.pointer (some ⟨g,k,none⟩)) w:=by
 go_simp
theorem zd9 (g n c k:Nat)(hk:k<n)(w:World) :
  (Instr.indexAt 42 (.slice (some ⟨g,0,none⟩) n c) (.int .i64 (k:Int))).run Tryz.prog w=.ok (.pointer (some ⟨g,k,none⟩)) w:=by
 go_simp
def zaz (m:List Bool)(L:List Nat):List Bool:=L.foldl (fun m x=>m.set x true) m
def zbe (NL:List (List Nat × List Nat))(m:List Bool)(k:Nat):List Bool :=
 if m.getD k false=true then zaz (zaz m (NL.getD k ([],[])).1) (NL.getD k ([],[])).2 else m
def zb1 (NL:List (List Nat × List Nat)):Nat→List Bool→List Bool
 | 0,m=>m
 | n+1,m=>zb1 NL n (zbe NL m n)
def zab (NL:List (List Nat × List Nat))(root:Nat):List Bool:=zb1 NL (root+1) ((List.replicate (root+1) false).set root true)
theorem zah (m:List Bool)(L:List Nat):(zaz m L).length=m.length:=by
 unfold zaz;induction L generalizing m with
 | nil=>rfl
 | cons x l ih=>rw[List.foldl_cons,ih,List.length_set]
theorem zf0 (m:List Bool)(L:List Nat)(x:Nat):zaz m (L ++ [x])=(zaz m L).set x true:=by simp[zaz]
set_option maxRecDepth 4000 in
set_option maxHeartbeats 4000000 in
theorem znc (bb root:Nat)(NL:List (List Nat × List Nat))(BL:List Nat)(w:World)(hB:Book w bb NL BL)(hr:root<NL.length)(hopt:∀(j:Nat) (y:List Nat × List Nat),NL[j]?=some y→(∀x∈y.1,x<j)/\∀x∈y.2,x<j)
  (hn:NL.length<1000000000):Calls Tryz.prog 65 #[.pointer (some ⟨bb,0,none⟩),.int .i64 (root:Int)] w fun e w'=>e=.returned (.slice (some ⟨w.heap.size,0,none⟩) ((root:Nat)+1:Nat) ((root:Nat)+1:Nat)) ∧
   RowIs 4 encB w' w.heap.size (zab NL root)/\Fr NoM w w':=by
 obtain⟨nv,bv,NV,hB⟩:=hB;have hbl:=hB.blk;have c0:w.cell? ⟨bb,0,none⟩=some nv:=by rw[cell_of_row w bb 0 _ _ _ hbl];rfl
 obtain⟨na,nc,rfl,hnc,hncm,hnn⟩:=hB.nodeL;have hmk:∀W:World,(Instr.makeSlice 87 (.int .i64 ((root:Int)+1)) (.int .i64 ((root:Int)+1))).run Tryz.prog W=.ok (.slice (some ⟨W.heap.size,0,none⟩) (root+1:Nat) (root+1:Nat)) (W.alloc (.cells (zdq encB false (root+1)) 4)):=by
  intro W;obtain⟨i0,hi,hz0,hz1,hz2⟩:=info_parts zp4;have h:=run_make (P:=Tryz.prog) W 87 4 i0 (.bool false) Tryz.underlying87 hi hz0 .i64 .i64 ((root:Int)+1) ((root:Int)+1) (by omega) (by omega) (by rw[hz2];omega) (by omega);rw[h,hz1,show((root:Int)+1).toNat=root+1 from by omega,Nat.mul_one];have:madeCells (Value.cells (.bool false)) (root+1)=(zdq encB false (root+1)):=by
   apply Array.ext'
   unfold zdq;rw[List.toList_toArray,madeCells,Array.toList_map,Array.toList_range];refine(List.eq_replicate_iff.2 ⟨by simp,fun b hb=>?_⟩:_=List.replicate (root+1) (Value.bool false)).trans (by simp[encB]);obtain⟨y,_,rfl⟩:=List.mem_map.1 hb;simp[Value.cells,Nat.mod_one]
  rw[this]
 have ix0:=fun W=>zhv w.heap.size (root+1) (root+1) root (by omega) W
 have HNn:=Hh hnn;have C0:=Hh c0;have Hopt:=Hh hopt;have r0:=RowIs.made 4 encB w false (root+1);have z0:=r0.frozen root;have k0:=r0.cell root (by simp);have R0:=Hh r0;clear hnn c0 hopt hB hbl r0;go_enter Tryz.func65,Tryz.ntmps65;go_wp2;go_loopw [6] (fun i wr=>∃(n:Nat) (m:List Bool),i=.int .i64 ((n:Int)-1)/\n≤root+1/\m.length=root+1/\RowIs 4 encB wr w.heap.size m/\zb1 NL n m=zab NL root/\Fr NoM w wr) (fun i _=>(intOf i+1).toNat)
 case atStart=>exact⟨root+1,(List.replicate (root+1) false).set root true,by go_num,Nat.le_refl _,by simp,RowIs.made1 4 encB w false true (root+1) root,rfl,(Fr.refl NoM w).alloc _⟩
 case round =>
  obtain⟨n,m,rfl,hn',hm,hrow,hre,hfr⟩:=hrel;cases n with
  | zero =>
   have HRow:=Hh hrow;have HRe:=Hh hre;have HFr:=Hh hfr;clear hrow hre hfr;go_wp2;go_ret;refine⟨by simp,?_,HFr.out⟩;rw[←HRe.out];exact HRow.out
  | succ k =>
   rw[show(((k+1:Nat):Int)-1)=(k:Int)from by omega];have hkm:k<m.length:=by omega
   have hkN:k<NL.length:=by omega
   have ixm:=fun(j:Nat) (hj:j<root+1) W=>zhv w.heap.size (root+1) (root+1) j hj W
   have ixk:=ixm k (by omega);have d0:=hrow.cell k hkm;have hstep:zbe NL m k=if m[k]=true then zaz (zaz m NL[k].1) NL[k].2 else m:=by
    simp only[zbe,List.getD_eq_getElem?_getD,List.getElem?_eq_getElem hkm,List.getElem?_eq_getElem hkN,Option.getD_some]
   unfold zb1 at hre;rw[hstep]at hre;have HIx:=Hh ixm;have HRow:=Hh hrow;have HRe:=Hh hre;have HFr:=Hh hfr;have HM:=Hh hm;clear ixm hrow hre hfr hm hstep;by_cases hmk:m[k]=true
   ·have hre:=HRe.out
    rw[if_pos hmk]at hre;rw[hmk]at d0;unfold encB at d0;have HRe1:=Hh hre;clear HRe hre hmk;obtain⟨b1,o1,lv,rv,ha1,_,e1,e2,n1,n2,_,_⟩:=HNn.out k NL[k] (List.getElem?_eq_getElem _);obtain⟨x1,x2⟩:=Hopt.out k NL[k] (List.getElem?_eq_getElem _);have ix:=zbr na NL.length nc k b1 o1 hkN ha1;have hL9:NL[k].1.length≤9223372036854775807:=by obtain⟨a,c,_,h1,h2,_⟩:=n1;omega
    have hR9:NL[k].2.length≤9223372036854775807:=by obtain⟨a,c,_,h1,h2,_⟩:=n2;omega
    obtain⟨la,lc,rfl,hlc⟩:=zdd n1;obtain⟨ra,rc,rfl,hrc⟩:=zdd n2;have HE1:=Hh e1;have HE2:=Hh e2;have HLc:=Hh hlc;have HRc:=Hh hrc;have HX1:=Hh x1;have HX2:=Hh x2;clear e1 e2 hlc hrc x1 x2 n1 n2 ha1;go_wp2;go_loopw [7] (fun i wq=>∃j:Nat,i=.int .i64 j/\j≤NL[k].1.length/\RowIs 4 encB wq w.heap.size (zaz m (NL[k].1.take j))/\Fr NoM w wq) (fun i _=>NL[k].1.length-(intOf i).toNat)
    case atStart=>exact⟨0,rfl,Nat.zero_le _,HRow.out,HFr.out⟩
    case round =>
     obtain⟨j,rfl,hj,hrow,hfr⟩:=hrel;have c0:=hfr.cell C0.out (fun q=>q);have e1:=hfr.cell HE1.out (fun q=>q);by_cases hlt:j<NL[k].1.length
     ·have hx:=HX1.out NL[k].1[j] (List.getElem_mem _)
      obtain⟨b2,o2,ha2,d2⟩:=HLc.out j NL[k].1[j] (by simp);have d2':=hfr.cell d2 (fun q=>q);unfold encN at d2';have ix2:=zaa la NL[k].1.length lc j b2 o2 hlt ha2;have ix3:=HIx.out NL[k].1[j] (by omega);have hml:(zaz m (NL[k].1.take j)).length=root+1:=by rw[zah];exact HM.out
      have k1:=hrow.cell NL[k].1[j] (by omega);have z1:=hrow.frozen NL[k].1[j];have hset:(zaz m (NL[k].1.take j)).set NL[k].1[j] true=zaz m (NL[k].1.take (j+1)):=by rw[List.take_succ_eq_append_getElem hlt,zf0]
      have hnew:=hrow.set NL[k].1[j] true;rw[hset]at hnew;have hfr2:=hfr.setCell ⟨w.heap.size,NL[k].1[j],none⟩ (encB true) (fun h=>absurd h (Nat.lt_irrefl _));have HNew:=Hh hnew;have HF2:=Hh hfr2;clear hset hnew hfr2 hrow hfr d2 ha2;go_wp2;go_roundw
      case rel=>exact⟨j+1,by go_num,by omega,HNew.out,HF2.out⟩
      case measure=>simp[intOf];omega
     ·have hj':j=NL[k].1.length:=by omega
      subst hj';rw[List.take_length]at hrow;have HRow1:=Hh hrow;have HFr1:=Hh hfr;clear hrow hfr HRow HFr;go_wp2;go_loopw [8] (fun i wq=>∃j:Nat,i=.int .i64 j/\j≤NL[k].2.length/\RowIs 4 encB wq w.heap.size (zaz (zaz m NL[k].1) (NL[k].2.take j))/\Fr NoM w wq) (fun i _=>NL[k].2.length-(intOf i).toNat)
      case atStart=>exact⟨0,rfl,Nat.zero_le _,HRow1.out,HFr1.out⟩
      case round =>
       clear HRow1 HFr1;obtain⟨j,rfl,hj,hrow,hfr⟩:=hrel;have c0:=hfr.cell C0.out (fun q=>q);have e2:=hfr.cell HE2.out (fun q=>q);by_cases hlt:j<NL[k].2.length
       ·have hx:=HX2.out NL[k].2[j] (List.getElem_mem _)
        obtain⟨b2,o2,ha2,d2⟩:=HRc.out j NL[k].2[j] (by simp);have d2':=hfr.cell d2 (fun q=>q);unfold encN at d2';have ix2:=zaa ra NL[k].2.length rc j b2 o2 hlt ha2;have ix3:=HIx.out NL[k].2[j] (by omega);have hml:(zaz (zaz m NL[k].1) (NL[k].2.take j)).length=root+1:=by rw[zah,zah];exact HM.out
        have k1:=hrow.cell NL[k].2[j] (by omega);have z1:=hrow.frozen NL[k].2[j];have hset:(zaz (zaz m NL[k].1) (NL[k].2.take j)).set NL[k].2[j] true=zaz (zaz m NL[k].1) (NL[k].2.take (j+1)):=by rw[List.take_succ_eq_append_getElem hlt,zf0]
        have hnew:=hrow.set NL[k].2[j] true;rw[hset]at hnew;have hfr2:=hfr.setCell ⟨w.heap.size,NL[k].2[j],none⟩ (encB true) (fun h=>absurd h (Nat.lt_irrefl _));have HNew:=Hh hnew;have HF2:=Hh hfr2;clear hset hnew hfr2 hrow hfr d2 ha2;go_wp2;go_roundw
        case rel=>exact⟨j+1,by go_num,by omega,HNew.out,HF2.out⟩
        case measure=>simp[intOf];omega
       ·have hj':j=NL[k].2.length:=by omega
        subst hj';rw[List.take_length]at hrow;have HRow2:=Hh hrow;have HFr2:=Hh hfr;have HM2:=Hh (show(zaz (zaz m NL[k].1) NL[k].2).length=root+1 by rw[zah,zah];exact HM.out);clear hrow hfr;go_wp2;go_roundw
        case rel=>exact⟨k,_,by go_num,by omega,HM2.out,HRow2.out,HRe1.out,HFr2.out⟩
        case measure=>simp[intOf]
   ·have hre:=HRe.out
    rw[if_neg hmk]at hre;have hmk':m[k]=false:=by simpa using hmk
    rw[hmk']at d0;unfold encB at d0;have HRe1:=Hh hre;clear HRe hre hmk hmk';go_wp2;go_roundw
    case rel=>exact⟨k,m,by go_num,by omega,HM.out,HRow.out,HRe1.out,HFr.out⟩
    case measure=>simp[intOf]
end Go.Proofs.YtkofnbjjbcohgaaGreatDoor
