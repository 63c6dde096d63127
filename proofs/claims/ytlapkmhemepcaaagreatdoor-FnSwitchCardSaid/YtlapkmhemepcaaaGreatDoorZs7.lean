import Derived.Test.YtlapkmhemepcaaaGreatDoorZs8
import Derived.Test.YtlapkmhemepcaaaGreatDoorZs2
/- Lemmas. -/
set_option linter.all false
namespace Go.Proofs.YtlapkmhemepcaaaGreatDoor
open Go.RowKit
structure PSt {κ:Type}(ek:κ->Value) (MO:List PL->(κ->Option Nat)->Prop) (U:List Nat) (pb sb:Nat) (mo mc ms mn:Value) (W:World) (V:List PL) (BV:List Nat) (M I:Nat->Prop) (f:κ->Option Nat):Prop where
 pool:PoolS M I W pb V BV mo mc ms mn
 ok:PoolOK V BV
 inU:∀x,x<V.length->(za0 V).getD x 0∈U
 map:MapF ek encN W sb f
 memo:MO V f
 mlt:∀q,M q->q<W.heap.size/\q≠sb
 ilt:∀q,I q->q<W.heap.size/\q≠sb
structure PNx (sb:Nat) (W:World) (V:List PL) (M I:Nat->Prop) (W':World) (V':List PL) (M' I':Nat->Prop):Prop where
 pre:V <+: V'
 mM:∀q,M' q->M q\/W.heap.size<=q
 mI:∀q,I' q->I q\/W.heap.size<=q
 fr:Fr (λq=>M q\/q=sb) W W'
section
variable {κ:Type}{ek:κ->Value}{MO:List PL->(κ->Option Nat)->Prop}{U:List Nat}{pb sb:Nat}{mo mc ms mn:Value}{W W' W1 W2:World}{V V' V1 V2:List PL}{BV BV':List Nat}{M I M' I' M1 I1 M2 I2 X:Nat->Prop}{f f':κ->Option Nat}
theorem PoolS.sep (h:PoolS M I W pb V BV mo mc ms mn):∀q,M q->¬I q:=by obtain⟨lv,rv,bv,fb,LS,RS,_,_,_,_,_,_,_,_,m,_⟩:=h;exact m
theorem PSt.fr (h:PSt ek MO U pb sb mo mc ms mn W V BV M I f)(hf:Fr X W W')(hx:∀q,X q->¬M q/\¬I q/\q≠sb):PSt ek MO U pb sb mo mc ms mn W' V BV M I f :=
 ⟨h.pool.fr hf (λq hq hX=>(hx q hX).1 hq) (λq hq hX=>(hx q hX).2.1 hq),h.ok,h.inU,h.map.fr hf (λhX=>(hx sb hX).2.2 rfl),h.memo,λq hq=>⟨kQ (h.mlt q hq).1 hf.size,(h.mlt q hq).2⟩,λq hq=>⟨kQ (h.ilt q hq).1 hf.size,(h.ilt q hq).2⟩⟩
theorem PSt.fr0 (h:PSt ek MO U pb sb mo mc ms mn W V BV M I f)(hf:Fr NoM W W'):PSt ek MO U pb sb mo mc ms mn W' V BV M I f:=h.fr hf (λ_ q=>q.elim)
theorem PSt.len (h:PSt ek MO U pb sb mo mc ms mn W V BV M I f):V.length<=U.length:=zhc h.ok h.inU
theorem PNx.of0 (hf:Fr NoM W W'):PNx sb W V M I W' V M I:=⟨List.prefix_refl _,λ_ h=>.inl h,λ_ h=>.inl h,hf.any⟩
theorem PNx.trans (h:PNx sb W V M I W1 V1 M1 I1)(h':PNx sb W1 V1 M1 I1 W2 V2 M2 I2):PNx sb W V M I W2 V2 M2 I2 :=
 ⟨h.pre.trans h'.pre,λq hq=>(h'.mM q hq).elim (h.mM q) (λz=>.inr (kJ h.fr.size z)),λq hq=>(h'.mI q hq).elim (h.mI q) (λz=>.inr (kJ h.fr.size z)),
  h.fr.trans h'.fr (λk hk q=>q.elim (λq=>(h.mM k q).elim .inl (λz=>by omega)) .inr)⟩
theorem PSt.node {L R cs ds:List Nat}(hMO:∀ {V V' f},MO V f->V <+: V'->MO V' f)(h:PSt ek MO U pb sb mo mc ms mn W V BV M I f)(hL:RowC V L cs)(hR:RowC V R ds)(hc:mkC cs ds∈U)
  (p:PoolS M' I' W' pb (za4 V BV L R).1 (za4 V BV L R).2.1 mo mc ms mn) (hM:∀q,M' q->M q\/W.heap.size<=q) (hI:∀q,I' q->I q\/W.heap.size<=q) (hf:Fr M W W') :
  PSt ek MO U pb sb mo mc ms mn W' (za4 V BV L R).1 (za4 V BV L R).2.1 (λq=>M' q/\q<W'.heap.size) (λq=>I' q/\q<W'.heap.size) f ∧
   PNx sb W V M I W' (za4 V BV L R).1 (λq=>M' q/\q<W'.heap.size) (λq=>I' q/\q<W'.heap.size)/\(za4 V BV L R).2.2<(za4 V BV L R).1.length/\(za0 (za4 V BV L R).1).getD (za4 V BV L R).2.2 0=mkC cs ds:=by
 obtain⟨q1,q2,q3,q4⟩:=zf9 h.ok hL hR;have hsb:=h.map.lt;exact⟨⟨p.low,q1,zga h.inU (by rw[q4];exact hc),h.map.fr hf (λe=>(h.mlt sb e).2 rfl),hMO h.memo q2,λq hq=>⟨hq.2,λe=>by
   rcases hM q hq.1 with h1|h1
   ·exact(h.mlt q h1).2 e
   ·omega⟩,λq hq=>⟨hq.2,λe=>by
   rcases hI q hq.1 with h1|h1
   ·exact(h.ilt q h1).2 e
   ·omega⟩⟩,⟨q2,λq hq=>hM q hq.1,λq hq=>hI q hq.1,hf.mono (λ_ _ q=>.inl q)⟩,q3,q4⟩
end
section
variable {κ:Type}{ek:κ->Value}{MO:List PL->(κ->Option Nat)->Prop}{U:List Nat}{pb sb:Nat}{mo mc ms mn:Value}{w0 W W' Wa:World}{V0 V V':List PL}{BV BV' TL TR la L R:List Nat}{M0 I0 M I M' I':Nat->Prop}{f f':κ->Option Nat}{lv rv va v':Value}{i j x c:Nat}
end
def NegMO (V:List PL)(f:Nat->Option Nat):Prop:=∀k i,f k=some i->k<V.length/\i<V.length/\(za0 V).getD i 0=negC ((za0 V).getD k 0)
theorem NegMO.mono {V V':List PL}{f:Nat->Option Nat}(h:NegMO V f)(hp:V <+: V'):NegMO V' f:=λk i e=>by obtain⟨a,b,c⟩:=h k i e;have:=hp.length_le;exact⟨by omega,by omega,by rw[zan hp b,zan hp a];exact c⟩
theorem NegMO.none (V:List PL):NegMO V (λ_=>none):=λ_ _ h=>by cases h
def NegPost (U:List Nat)(pb sb:Nat)(mo mc ms:Value)(w:World)(V:List PL)(M I:Nat->Prop)(c:Nat)(e:Ending)(w':World):Prop :=
 ∃(i:Nat) (V':List PL) (BV':List Nat) (M' I':Nat->Prop) (f':Nat->Option Nat),e=.returned (.int .i64 (i:Int)) ∧
   PSt encN NegMO U pb sb mo mc ms (.map (some sb)) w' V' BV' M' I' f'/\PNx sb w V M I w' V' M' I'/\i<V'.length/\(za0 V').getD i 0=c
theorem zyx:(Tryz.prog.info? 172).map (λi=>(i.zero,i.size,i.bytes))=some (some (.agg #[.int .i64 0,.slice none 0 0,.slice none 0 0]),3,56):=by kernel_rfl
def zk2 (A:List Nat)(x:Nat):Option Nat:=if x∈A then some (A.idxOf x)else none
theorem zv0 (A:List Nat)(x:Nat)(h:x ∉ A):upd (zk2 A) x A.length=zk2 (A ++ [x]):=by funext y;unfold upd zk2;by_cases e:y=x;{subst e;simp[List.idxOf_append,h]};{by_cases hy:y∈A;{simp[e,hy,List.idxOf_append]};{simp[e,hy]}}
theorem zri {A L:List Nat}(h:∀x∈L,x∈A):zh1 (zk2 A) L=L.map λx=>A.idxOf x:=by unfold zh1;refine uX λx hx=>?_;unfold zk2;rw[if_pos (h x hx)];rfl
def RowB (w:World)(q:Nat):Prop:=∃cur:Array Value,w.heap[q]?=some (.cells cur 3 (0,0))
theorem RowB.fr {M:Nat->Prop}{w w':World}{q:Nat}(h:RowB w q)(hf:Fr M w w')(hm:¬M q):RowB w' q:=by obtain⟨cur,h⟩:=h;exact⟨cur,hf.heap h hm⟩
theorem RowB.of_owns {w:World}{base g n cap:Nat}{xs:List Value}(h:w.ownsRow base 3 1 (.slice (some ⟨g,0,none⟩) n cap) n xs):RowB w g:=by rcases h.2 with ⟨h0,_⟩|⟨g',cap',cur,hv,hb,hg,hnc,hcm,hs,ht⟩;{cases h0};{cases hv;exact⟨cur,hg⟩}
theorem zky (v:Value)(L A:List Nat)(rb:Nat)(w:World)(hL:Nats w v L)(hR:MapF encN encN w rb (zk2 A))(hA:∀x∈L,x∈A)(hu:L.Pairwise (· < ·))(hl:L.length<1000000000) : Calls Tryz.prog 154 #[v,.map (some rb)] w λe w'=>∃g,e=.returned (.slice (some ⟨g,0,none⟩) L.length L.length)/\Nats w' (.slice (some ⟨g,0,none⟩) L.length L.length) (zey A L)/\w.heap.size<=g/\g<w'.heap.size/\Fr NoM w w'/\RowB w' g:=by refine(zuz v L rb (zk2 A) w hL hR hl).mono ?_;rintro e w' ⟨g,rfl,h,f⟩;have hnd:(L.map λx=>A.idxOf x).Nodup:=by{refine List.nodup_iff_pairwise_ne.2 (List.pairwise_map.2 (hu.imp_of_mem λ{a b} ha hb hlt e=>?_));have h1:=(zgh (hA a ha)).2;have h2:=(zgh (hA b hb)).2;rw[e,h2]at h1;omega};(rw[zri hA,zrb _ hnd]at h;have hx:(ints (zaa (L.map λx=>A.idxOf x))).map encI=(zey A L).map encN:=by simp[ints,encN,encI,Function.comp_def,zey]);rw[hx]at h;exact⟨g,rfl,SliceOf.of_owns h rfl,(h.lt g rfl).1,(h.lt g rfl).2,f,RowB.of_owns h⟩
def zbf (NV:List (Value × Value)):List Nat:=(zaz NV).filterMap Value.ownBlock
theorem zdt (NV:List (Value × Value))(l r:Value):zbf (NV ++ [(l,r)])=zbf NV ++ [l,r].filterMap Value.ownBlock:=by simp[zbf,zaz]
theorem zic {NV:List (Value × Value)}{j:Nat}{x:Value × Value}(h:NV[j]?=some x):(∀q,x.1.ownBlock=some q->q∈zbf NV)/\∀q,x.2.ownBlock=some q->q∈zbf NV:=by have hx:=xK h;constructor;{intro q hq;exact List.mem_filterMap.2 ⟨x.1,List.mem_flatMap.2 ⟨x,hx,by simp⟩,hq⟩};{intro q hq;exact List.mem_filterMap.2 ⟨x.2,List.mem_flatMap.2 ⟨x,hx,by simp⟩,hq⟩}
theorem zn4 (l r:Value)(h:∀q,l.ownBlock=some q->r.ownBlock≠some q):([l,r].filterMap Value.ownBlock).Nodup:=by cases hl:l.ownBlock with| none=>cases hr:r.ownBlock <;> simp[List.filterMap_cons,hl,hr]| some a =>{cases hr:r.ownBlock with| none=>simp[List.filterMap_cons,hl,hr]| some b =>{have hne:a≠b:=λe=>h a hl (by rw[hr,e]);simp[List.filterMap_cons,hl,hr,hne]}}
theorem zgc {l r:Value}{q:Nat}(h:q∈[l,r].filterMap Value.ownBlock):l.ownBlock=some q\/r.ownBlock=some q:=by obtain⟨u,hu,hq⟩:=List.mem_filterMap.1 h;simp at hu;rcases hu with rfl|rfl;{exact .inl hq};{exact .inr hq}
structure NodesN (D:Nat) (w:World) (v:Value) (FN:List PL) (NV:List (Value × Value)):Prop where
 row:w.ownsRow D 102 2 v NV.length (zaz NV)
 len:NV.length=FN.length
 nats:∀(j:Nat) (x:Value × Value) (y:PL),NV[j]?=some x->FN[j]?=some y->Nats w x.1 y.1/\Nats w x.2 y.2
 blk:∀q∈zbf NV,D<=q/\q<w.heap.size/\v.ownBlock≠some q
 sep:(zbf NV).Nodup
 thaw:∀q∈zbf NV,RowB w q
def NodesS (D:Nat)(w:World)(v:Value)(FN:List PL):Prop:=∃NV,NodesN D w v FN NV
theorem NodesN.fr {M:Nat->Prop}{D:Nat}{w w':World}{v:Value}{FN:List PL}{NV:List (Value × Value)}(h:NodesN D w v FN NV)(hf:Fr M w w')(hM:∀q,D<=q->q<w.heap.size->¬M q):NodesN D w' v FN NV:=by refine⟨za1 h.row hf (λq hq=>hM q (h.row.lt q hq).1 (h.row.lt q hq).2),h.len,λj x y hx hy=>?_,λq hq=>⟨(h.blk q hq).1,kQ (h.blk q hq).2.1 hf.size,(h.blk q hq).2.2⟩,h.sep,λq hq=>(h.thaw q hq).fr hf (hM q (h.blk q hq).1 (h.blk q hq).2.1)⟩;obtain⟨s1,s2⟩:=h.nats j x y hx hy;obtain⟨m1,m2⟩:=zic hx;exact⟨s1.fr hf (λ_ q hq=>hM q (h.blk q (m1 q hq)).1 (h.blk q (m1 q hq)).2.1),s2.fr hf (λ_ q hq=>hM q (h.blk q (m2 q hq)).1 (h.blk q (m2 q hq)).2.1)⟩
theorem NodesS.fr {M:Nat->Prop}{D:Nat}{w w':World}{v:Value}{FN:List PL}(h:NodesS D w v FN)(hf:Fr M w w')(hM:∀q,D<=q->q<w.heap.size->¬M q):NodesS D w' v FN:=by obtain⟨NV,h⟩:=h;exact⟨NV,h.fr hf hM⟩
theorem NodesS.base {D D':Nat}{w:World}{v:Value}{FN:List PL}(h:NodesS D w v FN)(hd:D'<=D):NodesS D' w v FN:=by obtain⟨NV,h⟩:=h;exact⟨NV,zb6 h.row hd,h.len,h.nats,λq hq=>⟨kJ hd (h.blk q hq).1,(h.blk q hq).2⟩,h.sep,h.thaw⟩
theorem NodesS.made (w:World)(n:Nat)(hn:n<=9223372036854775807)(cur:Array Value)(hc:cur.size=n*2):NodesS w.heap.size (w.alloc (.cells cur 102)) (.slice (some ⟨w.heap.size,0,none⟩) 0 n) [] :=
 ⟨[],⟨rfl,.inr ⟨_,n,cur,rfl,xW _,xJ w _,yK _,hn,hc,by simp[zaz]⟩⟩,rfl,by simp,by simp[zbf,zaz],by simp[zbf,zaz],by simp[zbf,zaz]⟩
theorem NodesN.snoc {D:Nat}{w w':World}{v v':Value}{FN:List PL}{x:PL}{l r:Value}{NV:List (Value × Value)}(h:NodesN D w v FN NV) (hl:Nats w l x.1/\∀q,l.ownBlock=some q->D<=q/\q<w.heap.size/\v.ownBlock≠some q) (hr:Nats w r x.2/\∀q,r.ownBlock=some q->D<=q/\q<w.heap.size/\v.ownBlock≠some q) (hlr:∀q,l.ownBlock=some q->r.ownBlock≠some q) (hnew:∀q∈zbf NV,l.ownBlock≠some q/\r.ownBlock≠some q) (hth:∀q,l.ownBlock=some q\/r.ownBlock=some q->RowB w q) (hown:w'.ownsRow D 102 2 v' (NV.length+1) (zaz NV ++ [l,r])) (hf:Fr (Own1 v) w w') (hb:v'.ownBlock=v.ownBlock\/∃b,v'.ownBlock=some b/\w.heap.size<=b):NodesN D w' v' (FN ++ [x]) (NV ++ [(l,r)]):=by have hup:∀q,(D<=q/\q<w.heap.size/\v.ownBlock≠some q)->(D<=q/\q<w'.heap.size/\v'.ownBlock≠some q):=λq ⟨h1,h2,h3⟩=>⟨h1,kQ h2 hf.size,λe=>by{rcases hb with hb|⟨b,hb,hb2⟩;{exact h3 (hb ▸ e)};{rw[hb]at e;cases e;omega}}⟩;(have hfl:zaz NV ++ [l,r]=zaz (NV ++ [(l,r)]):=by simp[zaz]);rw[hfl]at hown;refine⟨by rw[yX];exact hown,by simp[h.len],λj a y ha hy=>?_,λq hq=>?_,?_,λq hq=>?_⟩;{by_cases hj:j<NV.length;{rw[yV hj]at ha;rw[yV (by rw[<-h.len];exact hj)]at hy;obtain⟨s1,s2⟩:=h.nats j a y ha hy;obtain⟨m1,m2⟩:=zic ha;exact⟨s1.fr hf (λ_ q hq=>(h.blk q (m1 q hq)).2.2),s2.fr hf (λ_ q hq=>(h.blk q (m2 q hq)).2.2)⟩};{(have hje:j=NV.length:=by have:=(xV.1 ha).1;simp at this;omega);(subst hje;have e1:a=(l,r):=by simpa using ha.symm);(have e2:y=x:=by rw[h.len]at hy;simpa using hy.symm);subst e1;subst e2;exact⟨hl.1.fr hf (λ_ q hq=>(hl.2 q hq).2.2),hr.1.fr hf (λ_ q hq=>(hr.2 q hq).2.2)⟩}};{rw[zdt,y4]at hq;rcases hq with hq|hq;{exact hup q (h.blk q hq)};{rcases zgc hq with hq|hq;{exact hup q (hl.2 q hq)};{exact hup q (hr.2 q hq)}}};{rw[zdt,List.nodup_append];refine⟨h.sep,zn4 l r hlr,λq hq p hp e=>?_⟩;subst e;rcases zgc hp with hp|hp;{exact(hnew q hq).1 hp};{exact(hnew q hq).2 hp}};{rw[zdt,y4]at hq;rcases hq with hq|hq;{exact(h.thaw q hq).fr hf (h.blk q hq).2.2};{refine(hth q (zgc hq)).fr hf ?_;rcases zgc hq with hq|hq;{exact(hl.2 q hq).2.2};{exact(hr.2 q hq).2.2}}}
theorem NodesS.nodeL {D:Nat}{w:World}{v:Value}{FN:List PL}(h:NodesS D w v FN):NodeL (D<=·) encN w v FN:=by obtain⟨NV,h⟩:=h;have hr:NodeRow (D<=·) D w v FN:=⟨NV,h.row,h.len,λj x y hx hy=>by{obtain⟨s1,s2⟩:=h.nats j x y hx hy;obtain⟨m1,m2⟩:=zic hx;exact⟨s1,s2,λ_ q hq=>(h.blk q (m1 q hq)).1,λ_ q hq=>(h.blk q (m2 q hq)).1⟩}⟩;exact hr.nodeL (λ_ hb=>hb) (λ_ hb=>hb)
theorem NodesS.nil (D:Nat)(w:World):NodesS D w (.slice none 0 0) []:=⟨[],⟨rfl,.inl ⟨rfl,rfl⟩⟩,rfl,by simp,by simp[zbf,zaz],by simp[zbf,zaz],by simp[zbf,zaz]⟩
def fG (V:List PL)(A G:List Nat)(i:Nat):PL:=if i∈G then zbi A (za2 V i)else ([],[])
def zbt (lv rv:Nat->Value)(G:List Nat):List Nat:=(G.flatMap λx=>[lv x,rv x]).filterMap Value.ownBlock
theorem zde (lv rv:Nat->Value)(G H:List Nat):zbt lv rv (G++H)=zbt lv rv G++zbt lv rv H:=by simp[zbt]
theorem zh8 (lv rv:Nat->Value)(x:Nat):zbt lv rv [x]=[lv x,rv x].filterMap Value.ownBlock:=by simp[zbt]
theorem zrx {lv rv:Nat->Value}{G:List Nat}{q:Nat}(h:q∈zbt lv rv G):∃x∈G,(lv x).ownBlock=some q\/(rv x).ownBlock=some q:=by obtain⟨u,hu,hq⟩:=List.mem_filterMap.1 h;obtain⟨x,hx,hu⟩:=List.mem_flatMap.1 hu;simp at hu;rcases hu with rfl|rfl;{exact⟨x,hx,.inl hq⟩};{exact⟨x,hx,.inr hq⟩}
theorem zr4 {lv rv:Nat->Value}{G H:List Nat}(h:G.Perm H):(zbt lv rv G).Perm (zbt lv rv H):=(h.flatMap_right _).filterMap _
structure ERow (Z:Nat) (w:World) (v:Value) (G:List Nat) (lv rv:Nat->Value) (f:Nat->PL):Prop where
 row:w.ownsRow Z 172 3 v G.length (zg0 lv rv G)
 left:∀i,Nats w (lv i) (f i).1/\∀q,(lv i).ownBlock=some q->Z<=q/\q<w.heap.size/\v.ownBlock≠some q
 right:∀i,Nats w (rv i) (f i).2/\∀q,(rv i).ownBlock=some q->Z<=q/\q<w.heap.size/\v.ownBlock≠some q
 sep:(zbt lv rv G).Nodup
 thaw:∀i q,(lv i).ownBlock=some q\/(rv i).ownBlock=some q->RowB w q
theorem ERow.fr {M:Nat->Prop}{Z:Nat}{w w':World}{v:Value}{G:List Nat}{lv rv:Nat->Value}{f:Nat->PL}(h:ERow Z w v G lv rv f)(hf:Fr M w w')(hM:∀q,Z<=q->q<w.heap.size->¬M q):ERow Z w' v G lv rv f :=
 ⟨za1 h.row hf (λq hq=>hM q (h.row.lt q hq).1 (h.row.lt q hq).2),
  λi=>⟨(h.left i).1.fr hf (λ_ q hq=>hM q ((h.left i).2 q hq).1 ((h.left i).2 q hq).2.1),λq hq=>⟨((h.left i).2 q hq).1,kQ ((h.left i).2 q hq).2.1 hf.size,((h.left i).2 q hq).2.2⟩⟩,
  λi=>⟨(h.right i).1.fr hf (λ_ q hq=>hM q ((h.right i).2 q hq).1 ((h.right i).2 q hq).2.1),λq hq=>⟨((h.right i).2 q hq).1,kQ ((h.right i).2 q hq).2.1 hf.size,((h.right i).2 q hq).2.2⟩⟩,h.sep,λi q hq=>(h.thaw i q hq).fr hf (by
   rcases hq with hq|hq
   ·exact hM q ((h.left i).2 q hq).1 ((h.left i).2 q hq).2.1
   ·exact hM q ((h.right i).2 q hq).1 ((h.right i).2 q hq).2.1)⟩
def setV (f:Nat->Value)(x:Nat)(v:Value)(i:Nat):Value:=if i=x then v else f i
theorem zz7 (lv rv:Nat->Value)(G:List Nat)(x:Nat)(l r:Value)(h:x ∉ G):zg0 (setV lv x l) (setV rv x r) (G ++ [x])=zg0 lv rv G ++ [encN x,l,r]:=by unfold zg0;rw[List.flatMap_append];have e1:G.flatMap (enc3 (setV lv x l) (setV rv x r))=G.flatMap (enc3 lv rv):=by{rw[List.flatMap_def,List.flatMap_def];congr 1;refine uX λi hi=>?_;have hne:¬i=x:=λe=>h (e ▸ hi);simp[enc3,setV,hne]};rw[e1];simp[enc3,setV]
theorem zsm (lv rv:Nat->Value)(G:List Nat)(x:Nat)(l r:Value)(h:x ∉ G):zbt (setV lv x l) (setV rv x r) (G ++ [x])=zbt lv rv G ++ [l,r].filterMap Value.ownBlock:=by rw[zde,zh8];have e1:G.flatMap (λy=>[setV lv x l y,setV rv x r y])=G.flatMap (λy=>[lv y,rv y]):=by{rw[List.flatMap_def,List.flatMap_def];congr 1;refine uX λi hi=>?_;have hne:¬i=x:=λe=>h (e ▸ hi);simp[setV,hne]};(have e2:zbt (setV lv x l) (setV rv x r) G=zbt lv rv G:=by unfold zbt;rw[e1]);rw[e2];simp[setV]
theorem ERow.snoc {Z:Nat}{w w1 w':World}{v v':Value}{G:List Nat}{lv rv:Nat->Value}{V:List PL}{A:List Nat}{x:Nat}{l r:Value}(h:ERow Z w v G lv rv (fG V A G))(hx:x ∉ G)(hf1:Fr NoM w w1) (hlr:∀q,l.ownBlock=some q->r.ownBlock≠some q) (hge:∀q,l.ownBlock=some q\/r.ownBlock=some q->w.heap.size<=q) (hth:∀q,l.ownBlock=some q\/r.ownBlock=some q->RowB w1 q) (hl:Nats w1 l (zbi A (za2 V x)).1/\∀q,l.ownBlock=some q->Z<=q/\q<w1.heap.size/\v.ownBlock≠some q) (hr:Nats w1 r (zbi A (za2 V x)).2/\∀q,r.ownBlock=some q->Z<=q/\q<w1.heap.size/\v.ownBlock≠some q) (hown:w'.ownsRow Z 172 3 v' (G.length+1) (zg0 lv rv G ++ [encN x,l,r])) (hf:Fr (Own1 v) w1 w') (hb:v'.ownBlock=v.ownBlock\/∃b,v'.ownBlock=some b/\w1.heap.size<=b):ERow Z w' v' (G ++ [x]) (setV lv x l) (setV rv x r) (fG V A (G ++ [x])):=by have h1:=h.fr hf1 (λ_ _ _ q=>q);have hnew:∀q,(Z<=q/\q<w1.heap.size/\v.ownBlock≠some q)->(Z<=q/\q<w'.heap.size/\v'.ownBlock≠some q):=λq ⟨h1,h2,h3⟩=>⟨h1,kQ h2 hf.size,λe=>by{rcases hb with hb|⟨b,hb,hb2⟩;{exact h3 (hb ▸ e)};{rw[hb]at e;cases e;omega}}⟩;have hsep:(zbt (setV lv x l) (setV rv x r) (G ++ [x])).Nodup:=by{rw[zsm _ _ _ _ _ _ hx,List.nodup_append];refine⟨h.sep,zn4 l r hlr,λq hq p hp e=>?_⟩;subst e;have h1:=hge q (zgc hp);obtain⟨i,_,hi|hi⟩:=zrx hq;{have:=((h.left i).2 q hi).2.1;omega};{have:=((h.right i).2 q hi).2.1;omega}};refine⟨by rw[yX,zz7 _ _ _ _ _ _ hx];exact hown,λi=>?_,λi=>?_,hsep,λi q hq=>?_⟩;{by_cases e:i=x;{subst e;have e1:fG V A (G ++ [i]) i=zbi A (za2 V i):=if_pos (by simp);rw[e1];simp only[setV,if_true];exact⟨hl.1.fr hf (λ_ q hq=>(hl.2 q hq).2.2),λq hq=>hnew q (hl.2 q hq)⟩};{(have e1:fG V A (G ++ [x]) i=fG V A G i:=by unfold fG;simp[e]);rw[e1];simp only[setV,if_neg e];exact⟨(h1.left i).1.fr hf (λ_ q hq=>((h1.left i).2 q hq).2.2),λq hq=>hnew q ((h1.left i).2 q hq)⟩}};{by_cases e:i=x;{subst e;have e1:fG V A (G ++ [i]) i=zbi A (za2 V i):=if_pos (by simp);rw[e1];simp only[setV,if_true];exact⟨hr.1.fr hf (λ_ q hq=>(hr.2 q hq).2.2),λq hq=>hnew q (hr.2 q hq)⟩};{(have e1:fG V A (G ++ [x]) i=fG V A G i:=by unfold fG;simp[e]);rw[e1];simp only[setV,if_neg e];exact⟨(h1.right i).1.fr hf (λ_ q hq=>((h1.right i).2 q hq).2.2),λq hq=>hnew q ((h1.right i).2 q hq)⟩}};{by_cases e:i=x;{subst e;simp only[setV,if_true]at hq;refine(hth q hq).fr hf ?_;rcases hq with hq|hq;{exact(hl.2 q hq).2.2};{exact(hr.2 q hq).2.2}};{simp only[setV,if_neg e]at hq;refine(h1.thaw i q hq).fr hf ?_;rcases hq with hq|hq;{exact((h1.left i).2 q hq).2.2};{exact((h1.right i).2 q hq).2.2}}}
theorem ERow.made (w:World)(V:List PL)(A:List Nat):ERow w.heap.size (w.alloc (.cells #[] 172)) (.slice (some ⟨w.heap.size,0,none⟩) 0 0) [] (λ_=>.slice none 0 0) (λ_=>.slice none 0 0) (fG V A []) :=
 ⟨yW w #[] 0 (xW _) (by decide) (by simp),λi=>⟨⟨none,0,rfl,xW _,by decide,by simp[fG]⟩,λq hq=>by simp[Value.ownBlock]at hq⟩,λi=>⟨⟨none,0,rfl,xW _,by decide,by simp[fG]⟩,λq hq=>by simp[Value.ownBlock]at hq⟩,by simp[zbt],λi q hq=>by simp[Value.ownBlock]at hq⟩
def CanMO (V:List PL)(f:Nat->Option Nat):Prop:=∀k i,f k=some i->k<V.length/\i<V.length/\IsCan ((za0 V).getD i 0) ((za0 V).getD k 0)
theorem CanMO.mono {V V':List PL}{f:Nat->Option Nat}(h:CanMO V f)(hp:V <+: V'):CanMO V' f:=λk i e=>by obtain⟨a,b,c⟩:=h k i e;have:=hp.length_le;exact⟨by omega,by omega,by rw[zan hp b,zan hp a];exact c⟩
theorem CanMO.upd {V:List PL}{f:Nat->Option Nat}{x i:Nat}(h:CanMO V f)(hx:x<V.length)(hi:i<V.length)(hc:IsCan ((za0 V).getD i 0) ((za0 V).getD x 0)):CanMO V (upd f x i):=λk j e=>by unfold Go.Proofs.YtlapkmhemepcaaaGreatDoor.upd at e;split at e;{rename_i ek;subst ek;cases e;exact⟨hx,hi,hc⟩};{exact h k j e}
theorem CanMO.none (V:List PL):CanMO V (λ_=>none):=λ_ _ h=>by cases h
structure CSt (U:List Nat) (pb ob sb:Nat) (ms mn:Value) (W:World) (V:List PL) (BV:List Nat) (M I:Nat->Prop) (fo:Nat × Nat->Option Bool) (fc:Nat->Option Nat):Prop where
 pool:PoolS M I W pb V BV (.map (some ob)) (.map (some sb)) ms mn
 ok:PoolOK V BV
 inU:∀x,x<V.length->(za0 V).getD x 0∈U
 ord:MapF encP encB W ob fo
 ordOK:OrdF (za0 V) fo
 can:MapF encN encN W sb fc
 canOK:CanMO V fc
 mlt:∀q,M q->q<W.heap.size/\q≠ob/\q≠sb
 ilt:∀q,I q->q<W.heap.size/\q≠ob/\q≠sb
 os:ob≠sb
structure CNx (ob sb:Nat) (W:World) (V:List PL) (M I:Nat->Prop) (W':World) (V':List PL) (M' I':Nat->Prop):Prop where
 pre:V <+: V'
 mM:∀q,M' q->M q\/W.heap.size<=q
 mI:∀q,I' q->I q\/W.heap.size<=q
 fr:Fr (λq=>M q\/q=ob\/q=sb) W W'
section
variable {U:List Nat}{pb ob sb:Nat}{ms mn:Value}{W W' W1 W2:World}{V V' V1 V2:List PL}{BV BV':List Nat}{M I M' I' M1 I1 M2 I2 X:Nat->Prop}{fo fo':Nat × Nat->Option Bool}{fc fc':Nat->Option Nat}
theorem CSt.fr (h:CSt U pb ob sb ms mn W V BV M I fo fc)(hf:Fr X W W')(hx:∀q,X q->¬M q/\¬I q/\q≠ob/\q≠sb):CSt U pb ob sb ms mn W' V BV M I fo fc :=
 ⟨h.pool.fr hf (λq hq hX=>(hx q hX).1 hq) (λq hq hX=>(hx q hX).2.1 hq),h.ok,h.inU,h.ord.fr hf (λhX=>(hx ob hX).2.2.1 rfl),h.ordOK,h.can.fr hf (λhX=>(hx sb hX).2.2.2 rfl),h.canOK,λq hq=>⟨kQ (h.mlt q hq).1 hf.size,(h.mlt q hq).2⟩,λq hq=>⟨kQ (h.ilt q hq).1 hf.size,(h.ilt q hq).2⟩,h.os⟩
theorem CSt.fr0 (h:CSt U pb ob sb ms mn W V BV M I fo fc)(hf:Fr NoM W W'):CSt U pb ob sb ms mn W' V BV M I fo fc:=h.fr hf (λ_ q=>q.elim)
theorem CSt.len (h:CSt U pb ob sb ms mn W V BV M I fo fc):V.length<=U.length:=zhc h.ok h.inU
theorem CNx.refl (ob sb:Nat)(W:World)(V:List PL)(M I:Nat->Prop):CNx ob sb W V M I W V M I:=⟨List.prefix_refl _,λ_ h=>.inl h,λ_ h=>.inl h,Fr.refl _ _⟩
theorem CNx.of0 (hf:Fr NoM W W'):CNx ob sb W V M I W' V M I:=⟨List.prefix_refl _,λ_ h=>.inl h,λ_ h=>.inl h,hf.any⟩
theorem CNx.trans (h:CNx ob sb W V M I W1 V1 M1 I1)(h':CNx ob sb W1 V1 M1 I1 W2 V2 M2 I2):CNx ob sb W V M I W2 V2 M2 I2 :=
 ⟨h.pre.trans h'.pre,λq hq=>(h'.mM q hq).elim (h.mM q) (λz=>.inr (kJ h.fr.size z)),λq hq=>(h'.mI q hq).elim (h.mI q) (λz=>.inr (kJ h.fr.size z)),
  h.fr.trans h'.fr (λk hk q=>q.elim (λq=>(h.mM k q).elim .inl (λz=>by omega)) .inr)⟩
theorem CNx.own {Y:Nat->Prop}(h:CNx ob sb W V M I W1 V1 M1 I1)(hf:Fr Y W1 W2)(hv:∀q,Y q->W.heap.size<=q):CNx ob sb W V M I W2 V1 M1 I1 :=
 ⟨h.pre,h.mM,h.mI,h.fr.trans hf (λk hk q=>by have:=hv k q;omega)⟩
theorem CSt.ords (h:CSt U pb ob sb ms mn W V BV M I fo fc)(hf:Fr (λq=>q=ob) W W')(hm:MapF encP encB W' ob fo')(ho:OrdF (za0 V) fo'):CSt U pb ob sb ms mn W' V BV M I fo' fc/\CNx ob sb W V M I W' V M I :=
 ⟨⟨h.pool.fr hf (λq hq e=>(h.mlt q hq).2.1 e) (λq hq e=>(h.ilt q hq).2.1 e),h.ok,h.inU,hm,ho,h.can.fr hf (λe=>h.os e.symm),h.canOK,λq hq=>⟨kQ (h.mlt q hq).1 hf.size,(h.mlt q hq).2⟩,λq hq=>⟨kQ (h.ilt q hq).1 hf.size,(h.ilt q hq).2⟩,h.os⟩,
  ⟨List.prefix_refl _,λ_ h=>.inl h,λ_ h=>.inl h,hf.mono (λ_ _ q=>.inr (.inl q))⟩⟩
theorem CSt.store (h:CSt U pb ob sb ms mn W V BV M I fo fc)(hf:Fr (λq=>q=sb) W W')(hm:MapF encN encN W' sb fc')(ho:CanMO V fc'):CSt U pb ob sb ms mn W' V BV M I fo fc'/\CNx ob sb W V M I W' V M I :=
 ⟨⟨h.pool.fr hf (λq hq e=>(h.mlt q hq).2.2 e) (λq hq e=>(h.ilt q hq).2.2 e),h.ok,h.inU,h.ord.fr hf (λe=>h.os e),h.ordOK,hm,ho,λq hq=>⟨kQ (h.mlt q hq).1 hf.size,(h.mlt q hq).2⟩,λq hq=>⟨kQ (h.ilt q hq).1 hf.size,(h.ilt q hq).2⟩,h.os⟩,
  ⟨List.prefix_refl _,λ_ h=>.inl h,λ_ h=>.inl h,hf.mono (λ_ _ q=>.inr (.inr q))⟩⟩
theorem CSt.node {L R cs ds:List Nat}(h:CSt U pb ob sb ms mn W V BV M I fo fc)(hL:RowC V L cs)(hR:RowC V R ds)(hc:mkC cs ds∈U) (p:PoolS M' I' W' pb (za4 V BV L R).1 (za4 V BV L R).2.1 (.map (some ob)) (.map (some sb)) ms mn) (hM:∀q,M' q->M q\/W.heap.size<=q) (hI:∀q,I' q->I q\/W.heap.size<=q) (hf:Fr M W W') : CSt U pb ob sb ms mn W' (za4 V BV L R).1 (za4 V BV L R).2.1 (λq=>M' q/\q<W'.heap.size) (λq=>I' q/\q<W'.heap.size) fo fc ∧ CNx ob sb W V M I W' (za4 V BV L R).1 (λq=>M' q/\q<W'.heap.size) (λq=>I' q/\q<W'.heap.size)/\(za4 V BV L R).2.2<(za4 V BV L R).1.length/\(za0 (za4 V BV L R).1).getD (za4 V BV L R).2.2 0=mkC cs ds:=by obtain⟨q1,q2,q3,q4⟩:=zf9 h.ok hL hR;have h1:=h.ord.lt;have h2:=h.can.lt;refine⟨⟨p.low,q1,zga h.inU (by rw[q4];exact hc),h.ord.fr hf (λe=>(h.mlt ob e).2.1 rfl),h.ordOK.mono (zes q2),h.can.fr hf (λe=>(h.mlt sb e).2.2 rfl),h.canOK.mono q2,λq hq=>⟨hq.2,λe=>?_,λe=>?_⟩,λq hq=>⟨hq.2,λe=>?_,λe=>?_⟩,h.os⟩,⟨q2,λq hq=>hM q hq.1,λq hq=>hI q hq.1,hf.mono (λ_ _ q=>.inl q)⟩,q3,q4⟩;{exact(hM q hq.1).elim (λz=>(h.mlt q z).2.1 e) (λz=>by omega)};{exact(hM q hq.1).elim (λz=>(h.mlt q z).2.2 e) (λz=>by omega)};{exact(hI q hq.1).elim (λz=>(h.ilt q z).2.1 e) (λz=>by omega)};{exact(hI q hq.1).elim (λz=>(h.ilt q z).2.2 e) (λz=>by omega)}
end
structure RSt (U:List Nat) (pb ob sb mb:Nat) (ms mn:Value) (w0:World) (V0:List PL) (M0 I0:Nat->Prop) (W:World) (qv kv va:Value) (Q Kp la:List Nat) (fs:Nat->Option Bool) (V:List PL) (BV:List Nat) (M I:Nat->Prop) (fo:Nat × Nat->Option Bool) (fc:Nat->Option Nat):Prop where
 st:CSt U pb ob sb ms mn W V BV M I fo fc
 nx:CNx ob sb w0 V0 M0 I0 W V M I
 rq:W.ownsRow w0.heap.size 3 1 qv Q.length (Q.map encN)
 rk:W.ownsRow w0.heap.size 3 1 kv Kp.length (Kp.map encN)
 sq:∀q,qv.ownBlock=some q->¬M q/\¬I q/\q≠ob/\q≠sb/\q≠mb/\kv.ownBlock≠some q
 sk:∀q,kv.ownBlock=some q->¬M q/\¬I q/\q≠ob/\q≠sb/\q≠mb
 smap:MapF encN encB W mb fs
 sm:¬M mb/\¬I mb/\mb≠ob/\mb≠sb/\w0.heap.size<=mb
 src:Nats W va la
 ss:la≠[]->∀q,va.ownBlock=some q->¬M q/\q≠ob/\q≠sb/\q≠mb/\qv.ownBlock≠some q/\kv.ownBlock≠some q
section
variable {U:List Nat}{pb ob sb mb:Nat}{ms mn:Value}{w0 W W' Wa:World}{V0 V V':List PL}{BV BV' Q Kp la L:List Nat}{M0 I0 M I M' I':Nat->Prop}{fo fo':Nat × Nat->Option Bool}{fc fc':Nat->Option Nat}{fs fs':Nat->Option Bool}{qv kv va v':Value}
theorem RSt.call (h:RSt U pb ob sb mb ms mn w0 V0 M0 I0 W qv kv va Q Kp la fs V BV M I fo fc)(st:CSt U pb ob sb ms mn W' V' BV' M' I' fo' fc')(nx:CNx ob sb W V M I W' V' M' I') : RSt U pb ob sb mb ms mn w0 V0 M0 I0 W' qv kv va Q Kp la fs V' BV' M' I' fo' fc':=by have kM:∀q,q<W.heap.size->¬M q->¬M' q:=λq hq hm e=>(nx.mM q e).elim hm (λz=>by omega);have kI:∀q,q<W.heap.size->¬I q->¬I' q:=λq hq hm e=>(nx.mI q e).elim hm (λz=>by omega);have hml:=h.smap.lt;refine⟨st,h.nx.trans nx,za1 h.rq nx.fr (λq hq e=>?_),za1 h.rk nx.fr (λq hq e=>?_),λq hq=>?_,λq hq=>?_,h.smap.fr nx.fr (λe=>?_),⟨kM mb hml h.sm.1,kI mb hml h.sm.2.1,h.sm.2.2⟩,h.src.fr nx.fr (λhne q hq e=>?_),λhne q hq=>?_⟩;{obtain⟨a,b,c,d,_⟩:=h.sq q hq;rcases e with e|e|e;{exact a e};{exact c e};{exact d e}};{obtain⟨a,b,c,d,_⟩:=h.sk q hq;rcases e with e|e|e;{exact a e};{exact c e};{exact d e}};{obtain⟨a,b,c⟩:=h.sq q hq;have hl:=(h.rq.lt q hq).2;exact⟨kM q hl a,kI q hl b,c⟩};{obtain⟨a,b,c⟩:=h.sk q hq;have hl:=(h.rk.lt q hq).2;exact⟨kM q hl a,kI q hl b,c⟩};{rcases e with e|e|e;{exact h.sm.1 e};{exact h.sm.2.2.1 e};{exact h.sm.2.2.2.1 e}};{obtain⟨a,b,c,_⟩:=h.ss hne q hq;rcases e with e|e|e;{exact a e};{exact b e};{exact c e}};{obtain⟨b,hb,hl⟩:=h.src.block hne;rw[hq]at hb;cases hb;obtain⟨a,c⟩:=h.ss hne q hq;exact⟨kM q hl a,c⟩}
theorem RSt.fr0 (h:RSt U pb ob sb mb ms mn w0 V0 M0 I0 W qv kv va Q Kp la fs V BV M I fo fc)(hf:Fr NoM W W'):RSt U pb ob sb mb ms mn w0 V0 M0 I0 W' qv kv va Q Kp la fs V BV M I fo fc :=
 h.call (h.st.fr0 hf) (CNx.of0 hf)
theorem RSt.pushQ (h:RSt U pb ob sb mb ms mn w0 V0 M0 I0 W qv kv va Q Kp la fs V BV M I fo fc)(ha:Fr NoM W Wa)(ho:W'.ownsRow w0.heap.size 3 1 v' (Q.length+L.length) (Q.map encN++L.map encN))(hf:Fr (Own1 qv) Wa W') (hq:v'.ownBlock=qv.ownBlock\/∃b,v'.ownBlock=some b/\Wa.heap.size<=b):RSt U pb ob sb mb ms mn w0 V0 M0 I0 W' v' kv va (Q++L) Kp la fs V BV M I fo fc:=by have h:=h.fr0 ha;have nw:∀q,v'.ownBlock=some q->qv.ownBlock=some q\/Wa.heap.size<=q:=λq e=>by{rcases hq with h1|⟨b,h1,h2⟩;{exact .inl (h1 ▸ e)};{rw[h1]at e;cases e;exact .inr h2}};have h1:=h.st.ord.lt;have h2:=h.st.can.lt;have h3:=h.smap.lt;refine⟨h.st.fr hf (λq hq'=>⟨(h.sq q hq').1,(h.sq q hq').2.1,(h.sq q hq').2.2.1,(h.sq q hq').2.2.2.1⟩),h.nx.own hf (λq hq'=>(h.rq.lt q hq').1),by rw[yX,vK];exact ho,za1 h.rk hf (λq hq' e=>(h.sq q e).2.2.2.2.2 hq'),λq e=>?_,h.sk,h.smap.fr hf (λe=>(h.sq mb e).2.2.2.2.1 rfl),h.sm,h.src.fr hf (λhne q hq' e=>(h.ss hne q hq').2.2.2.2.1 e),λhne q hq'=>?_⟩;{rcases nw q e with e'|e';{exact h.sq q e'};{refine⟨λz=>?_,λz=>?_,λz=>by omega,λz=>by omega,λz=>by omega,λz=>?_⟩;{have:=(h.st.mlt q z).1;omega};{have:=(h.st.ilt q z).1;omega};{have:=(h.rk.lt q z).2;omega}}};{obtain⟨a,b,c,d,e,f⟩:=h.ss hne q hq';refine⟨a,b,c,d,λe'=>?_,f⟩;rcases nw q e' with e'|e';{exact e e'};{obtain⟨b',hb,hl⟩:=h.src.block hne;rw[hq']at hb;cases hb;omega}}
theorem RSt.pushK {i:Nat}(h:RSt U pb ob sb mb ms mn w0 V0 M0 I0 W qv kv va Q Kp la fs V BV M I fo fc)(ha:Fr NoM W Wa)(ho:W'.ownsRow w0.heap.size 3 1 v' (Kp.length+1) (Kp.map encN ++ [i].map encN))(hf:Fr (Own1 kv) Wa W') (hq:v'.ownBlock=kv.ownBlock\/∃b,v'.ownBlock=some b/\Wa.heap.size<=b):RSt U pb ob sb mb ms mn w0 V0 M0 I0 W' qv v' va Q (Kp ++ [i]) la fs V BV M I fo fc:=by have h:=h.fr0 ha;have nw:∀q,v'.ownBlock=some q->kv.ownBlock=some q\/Wa.heap.size<=q:=λq e=>by{rcases hq with h1|⟨b,h1,h2⟩;{exact .inl (h1 ▸ e)};{rw[h1]at e;cases e;exact .inr h2}};have h1:=h.st.ord.lt;have h2:=h.st.can.lt;have h3:=h.smap.lt;refine⟨h.st.fr hf (λq hq'=>⟨(h.sk q hq').1,(h.sk q hq').2.1,(h.sk q hq').2.2.1,(h.sk q hq').2.2.2.1⟩),h.nx.own hf (λq hq'=>(h.rk.lt q hq').1),za1 h.rq hf (λq hq' e=>(h.sq q hq').2.2.2.2.2 e),by rw[yX,vK];exact ho,λq e=>?_,λq e=>?_,h.smap.fr hf (λe=>(h.sk mb e).2.2.2.2 rfl),h.sm,h.src.fr hf (λhne q hq' e=>(h.ss hne q hq').2.2.2.2.2 e),λhne q hq'=>?_⟩;{obtain⟨a,b,c,d,e1,f⟩:=h.sq q e;refine⟨a,b,c,d,e1,λz=>?_⟩;rcases nw q z with z|z;{exact f z};{have:=(h.rq.lt q e).2;omega}};{rcases nw q e with e'|e';{exact h.sk q e'};{refine⟨λz=>?_,λz=>?_,λz=>by omega,λz=>by omega,λz=>by omega⟩;{have:=(h.st.mlt q z).1;omega};{have:=(h.st.ilt q z).1;omega}}};{obtain⟨a,b,c,d,e,f⟩:=h.ss hne q hq';refine⟨a,b,c,d,e,λe'=>?_⟩;rcases nw q e' with e'|e';{exact f e'};{obtain⟨b',hb,hl⟩:=h.src.block hne;rw[hq']at hb;cases hb;omega}}
theorem RSt.see (h:RSt U pb ob sb mb ms mn w0 V0 M0 I0 W qv kv va Q Kp la fs V BV M I fo fc)(hf:Fr (λq=>q=mb) W W')(hm:MapF encN encB W' mb fs'):RSt U pb ob sb mb ms mn w0 V0 M0 I0 W' qv kv va Q Kp la fs' V BV M I fo fc :=
 ⟨h.st.fr hf (λq e=>by subst e;exact⟨h.sm.1,h.sm.2.1,h.sm.2.2.1,h.sm.2.2.2.1⟩),h.nx.own hf (λq e=>by rw[e];exact h.sm.2.2.2.2),za1 h.rq hf (λq hq e=>(h.sq q hq).2.2.2.2.1 e),za1 h.rk hf (λq hq e=>(h.sk q hq).2.2.2.2 e),h.sq,h.sk,hm,h.sm,h.src.fr hf (λhne q hq e=>(h.ss hne q hq).2.2.2.1 e),h.ss⟩
theorem RSt.look {va':Value}{la':List Nat}(h:RSt U pb ob sb mb ms mn w0 V0 M0 I0 W qv kv va Q Kp la fs V BV M I fo fc)(hn:Nats W va' la')(hI:la'≠[]->∀q,va'.ownBlock=some q->I q):RSt U pb ob sb mb ms mn w0 V0 M0 I0 W qv kv va' Q Kp la' fs V BV M I fo fc :=
 ⟨h.st,h.nx,h.rq,h.rk,h.sq,h.sk,h.smap,h.sm,hn,λhne q hq=>⟨λe=>h.st.pool.sep q e (hI hne q hq),(h.st.ilt q (hI hne q hq)).2.1,(h.st.ilt q (hI hne q hq)).2.2,λe=>h.sm.2.1 (e ▸ hI hne q hq),λe=>(h.sq q e).2.1 (hI hne q hq),λe=>(h.sk q e).2.1 (hI hne q hq)⟩⟩
theorem RSt.pop {i g c:Nat}(h:RSt U pb ob sb mb ms mn w0 V0 M0 I0 W (.slice (some ⟨g,0,none⟩) (Q.length+1) c) kv va (Q ++ [i]) Kp la fs V BV M I fo fc):RSt U pb ob sb mb ms mn w0 V0 M0 I0 W (.slice (some ⟨g,0,none⟩) Q.length c) kv va Q Kp la fs V BV M I fo fc:=by refine⟨h.st,h.nx,⟨by simp,?_⟩,h.rk,λq e=>h.sq q e,h.sk,h.smap,h.sm,h.src,λhne q hq=>h.ss hne q hq⟩;have hr:=h.rq.2;rw[yX]at hr;rcases hr with ⟨e,_⟩|⟨g',cap,cur,e,hb,hg,hn,hc,hs,ht⟩;{cases e};{cases e;refine .inr ⟨g,c,cur,rfl,hb,hg,by simp at hn;omega,hc,hs,?_⟩;have ht2:=congrArg (λl=>l.take (Q.length*1)) ht;simp only[List.take_take,vK]at ht2;rw[vY,Nat.mul_one,Nat.mul_one,Nat.min_eq_left (by omega)]at ht2;rw[Nat.mul_one,ht2,List.take_left' (by simp)]}
end
