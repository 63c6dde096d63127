import Derived.Laws.IdiomStrings
import Derived.Test.YtkofnbjjbcohgaaGreatDoorZw6
/- Lemmas. -/
namespace Go.Proofs.YtkofnbjjbcohgaaGreatDoor
set_option linter.unusedVariables false
set_option linter.unusedSimpArgs false
open Go.RowKit
def encS (l:List UInt8):Value:=.string ⟨l.toArray⟩
theorem zvu {a b:List UInt8}(h:encS a=encS b):a=b:=by
 unfold encS at h;simpa using h
theorem zx8 {P:Program}{kt:TypeId}(hd:P.underlying kt=some .string):KeyAt P kt encS:=.plain hd (fun _=>by simp[encS,MapKept.IsKey]) zvu
def zig (V:List PL)(k:List UInt8):Option Nat:=V.findIdx? fun x=>decide (keyS x=k)
theorem zmq (V:List PL)(x:PL):zig V (keyS x)=if x∈V then some (V.idxOf x)else none:=by
 unfold zig;induction V with
 | nil=>rfl
 | cons y l ih =>
  rw[List.findIdx?_cons,ih];by_cases e:y=x
  ·subst e;simp
  ·have hk:¬keyS y=keyS x:=fun h=>e (zvd _ _ h)
   have e':¬x=y:=fun h=>e h.symm
   rw[decide_eq_false hk];simp only[Bool.false_eq_true,if_false,List.mem_cons,e',false_or];split
   ·rw[List.idxOf_cons,show(y == x)=false from by simpa using e];rfl
   ·rfl
theorem zre (V:List PL)(x:PL)(h:x ∉ V):zig (V ++ [x])=upd (zig V) (keyS x) V.length:=by
 funext k
 unfold upd;by_cases e:k=keyS x
 ·subst e
  rw[if_pos rfl,zmq,if_pos (by simp),List.idxOf_append,if_neg h];simp
 ·rw[if_neg e]
  unfold zig;rw[List.findIdx?_append];have:List.findIdx? (fun x=>decide (keyS x=k)) [x]=none:=by
   rw[List.findIdx?_cons,decide_eq_false (fun h=>e h.symm)];rfl
  rw[this];simp
structure PoolAt (w:World) (pb:Nat) (V:List PL) (BV:List Nat) (lv rv bv:Value) (fb:Nat) (mo mc ms mn:Value) (LS RS:List Value):Prop where
 blk:w.heap[pb]?=some (.cells #[lv,rv,bv,.map (some fb),mo,mc,ms,mn] 70 (0,0))
 left:w.ownsRow 0 42 1 lv LS.length LS
 right:w.ownsRow 0 42 1 rv RS.length RS
 born:w.ownsRow 0 3 1 bv BV.length (BV.map encN)
 lenL:LS.length=V.length
 lenR:RS.length=V.length
 lenB:BV.length=V.length
 find:MapF encS encN w fb (zig V)
def PoolS (M I:Nat→Prop) (w:World) (pb:Nat) (V:List PL) (BV:List Nat) (mo mc ms mn:Value):Prop :=
  ∃ lv rv bv fb LS RS, PoolAt w pb V BV lv rv bv fb mo mc ms mn LS RS ∧
    (∀ (j:Nat) (v:Value) (y:PL),LS[j]?=some v→V[j]?=some y→Nats w v y.1∧(y.1≠[]→∀ q,v.ownBlock=some q→I q)) ∧
    (∀ (j:Nat) (v:Value) (y:PL),RS[j]?=some v→V[j]?=some y→Nats w v y.2∧(y.2≠[]→∀ q,v.ownBlock=some q→I q)) ∧
    M pb∧M fb∧(∀ q,lv.ownBlock=some q→M q)∧(∀ q,rv.ownBlock=some q→M q)∧(∀ q,bv.ownBlock=some q→M q)∧(∀ q,M q→¬ I q) ∧
    pb≠fb∧(∀ q,lv.ownBlock=some q→q≠pb∧q≠fb)∧(∀ q,rv.ownBlock=some q→q≠pb∧q≠fb)∧(∀ q,bv.ownBlock=some q→q≠pb∧q≠fb) ∧
    (∀ q,lv.ownBlock=some q→rv.ownBlock=some q→False)∧(∀ q,lv.ownBlock=some q→bv.ownBlock=some q→False)∧(∀ q,rv.ownBlock=some q→bv.ownBlock=some q→False)
section
variable {M I X:Nat→Prop}{w w':World}{pb:Nat}{V:List PL}{BV:List Nat}{mo mc ms mn:Value}
theorem PoolS.fr (h:PoolS M I w pb V BV mo mc ms mn)(hf:Fr X w w')(hM:∀q,M q→¬X q)(hI:∀q,I q→¬X q):PoolS M I w' pb V BV mo mc ms mn:=by
 obtain⟨lv,rv,bv,fb,LS,RS,hp,h1,h2,m1,m2,m3,m4,m5,hr⟩:=h;refine⟨lv,rv,bv,fb,LS,RS,⟨hf.heap hp.blk (hM _ m1),za2 hp.left hf (fun q hq=>hM q (m3 q hq)),za2 hp.right hf (fun q hq=>hM q (m4 q hq)),za2 hp.born hf (fun q hq=>hM q (m5 q hq)),hp.lenL,hp.lenR,hp.lenB,hp.find.fr hf (hM _ m2)⟩,?_,?_,m1,m2,m3,m4,m5,hr⟩
 ·intro j v y hv hy
  obtain⟨s1,s2⟩:=h1 j v y hv hy;exact⟨s1.fr hf (fun hne q hq=>hI q (s2 hne q hq)),s2⟩
 ·intro j v y hv hy
  obtain⟨s1,s2⟩:=h2 j v y hv hy;exact⟨s1.fr hf (fun hne q hq=>hI q (s2 hne q hq)),s2⟩
theorem PoolS.fr0 (h:PoolS M I w pb V BV mo mc ms mn)(hf:Fr NoM w w'):PoolS M I w' pb V BV mo mc ms mn:=h.fr hf (fun _ _ q=>q) (fun _ _ q=>q)
end
set_option maxHeartbeats 4000000 in
theorem zhs (w:World):Calls Tryz.prog 14 #[] w fun e w'=>e=.returned (.pointer (some ⟨w.heap.size+5,0,none⟩)) ∧
  PoolS (fun q=>q=w.heap.size∨q=w.heap.size+5) NoM w' (w.heap.size+5) [] [] (.map (some (w.heap.size+1))) (.map (some (w.heap.size+2))) (.map (some (w.heap.size+3))) (.map (some (w.heap.size+4))) ∧
  (∀i,i<5→w'.heap[w.heap.size+i]?=some (.map #[] 0))/\Fr NoM w w':=by
 have hmm:∀(t:TypeId) (w:World),(Instr.makeMap t none).run Tryz.prog w=.ok (.map (some w.heap.size)) (w.alloc (.map #[] 0)):=fun t w=>run_makeMap t w
 go_enter Tryz.func14,Tryz.ntmps14;go_wp2;go_ret;obtain⟨w5,hw5⟩:∃w5,w5=((((w.alloc (.map #[] 0)).alloc (.map #[] 0)).alloc (.map #[] 0)).alloc (.map #[] 0)).alloc (.map #[] 0):=⟨_,rfl⟩;have hs:w5.heap.size=w.heap.size+5:=by rw[hw5];simp
 have hmaps:∀i,i<5→w5.heap[w.heap.size+i]?=some (.map #[] 0):=by
  intro i hi;rw[hw5];have k0:=heap_alloc_new w (.map #[] 0);have k1:=heap_alloc_new (w.alloc (.map #[] 0)) (.map #[] 0);have k2:=heap_alloc_new ((w.alloc (.map #[] 0)).alloc (.map #[] 0)) (.map #[] 0);have k3:=heap_alloc_new (((w.alloc (.map #[] 0)).alloc (.map #[] 0)).alloc (.map #[] 0)) (.map #[] 0);have k4:=heap_alloc_new ((((w.alloc (.map #[] 0)).alloc (.map #[] 0)).alloc (.map #[] 0)).alloc (.map #[] 0)) (.map #[] 0);simp only[World.size_alloc,Nat.add_assoc]at k0 k1 k2 k3 k4;match i,hi with
  | 0,_=>exact((((Fr.refl NoM _).alloc _).alloc _).alloc _ |>.alloc _).heap k0 (fun q=>q)
  | 1,_=>exact(((Fr.refl NoM _).alloc _).alloc _ |>.alloc _).heap k1 (fun q=>q)
  | 2,_=>exact(((Fr.refl NoM _).alloc _).alloc _).heap k2 (fun q=>q)
  | 3,_=>exact((Fr.refl NoM _).alloc _).heap k3 (fun q=>q)
  | 4,_=>exact k4
  | n+5,h=>omega
 have hF5:Fr NoM w w5:=by rw[hw5];exact(((((Fr.refl NoM w).alloc _).alloc _).alloc _).alloc _).alloc _
 rw[←hw5];have hb:=heap_alloc_new w5 (.cells #[.slice none 0 0,.slice none 0 0,.slice none 0 0,.map (some w.heap.size),.map (some (w.heap.size+1)),.map (some (w.heap.size+2)),.map (some (w.heap.size+3)),.map (some (w.heap.size+4))] 70);rw[hs]at hb;have hm0:=(Fr.alloc (Fr.refl NoM w5) (.cells #[.slice none 0 0,.slice none 0 0,.slice none 0 0,.map (some w.heap.size),.map (some (w.heap.size+1)),.map (some (w.heap.size+2)),.map (some (w.heap.size+3)),.map (some (w.heap.size+4))] 70)).heap (hmaps 0 (by decide)) (fun q=>q);refine⟨rfl,⟨.slice none 0 0,.slice none 0 0,.slice none 0 0,w.heap.size,[],[],⟨hb,World.ownsRow_nil _ _ _ _,World.ownsRow_nil _ _ _ _,World.ownsRow_nil _ _ _ _,rfl,rfl,rfl,?_⟩,by simp,by simp,.inr rfl,.inl rfl,by simp[Value.ownBlock],by simp[Value.ownBlock],by simp[Value.ownBlock],fun _ _ q=>q,by omega,by simp[Value.ownBlock],by simp[Value.ownBlock],by simp[Value.ownBlock],by simp[Value.ownBlock],by simp[Value.ownBlock],by simp[Value.ownBlock]⟩,fun i hi=>(Fr.alloc (Fr.refl NoM w5) _).heap (hmaps i hi) (fun q=>q),hF5.alloc _⟩;exact⟨#[],0,hm0,by simp,by simp,fun k a h=>by simp[zig]at h⟩
theorem zx9:(Tryz.prog.info? 42).map (fun i=>(i.zero,i.size,i.bytes))=some (some (.slice none 0 0),1,24):=by kernel_rfl
theorem zpf {w:World}{base n:Nat}{v:Value}{l:List UInt8}(h:w.ownsRow base 5 1 v n (l.map encU))(hn:n=l.length)(hne:v.ownBlock≠none):(convert 22 9 v).run Tryz.prog w=.ok (encS l) w:=by
 subst hn;rcases h.2 with ⟨rfl,h0⟩|⟨g,cap,cur,rfl,hb,hg,hnc,hcm,hs,ht⟩
 ·exact absurd rfl hne
 ·refine run_convert_bytes_back w _ _ 5 ⟨g,0,none⟩ cap l Tryz.underlying22 Tryz.underlying5 Tryz.underlying9 fun j hj=>?_
  have:(cur.toList.take (l.length*1))[j]?=some (encU l[j]):=by rw[ht,List.getElem?_map,List.getElem?_eq_getElem hj];rfl
  rw[List.getElem?_take,if_pos (by omega)]at this
  have e:(⟨g,0,none⟩:Addr).add j=⟨g,j,none⟩:=by unfold Addr.add;split <;> simp_all
  rw[e,cell_of_row w g j cur _ _ hg];simpa [encU] using this
theorem zfr (l:List Nat)(h:∀x∈l,x<1000000000):(keyL l).length≤13*l.length:=by
 induction l with
 | nil=>simp[keyL]
 | cons i t ih =>
  have h1:=ih (fun x hx=>h x (List.mem_cons_of_mem _ hx));have h2:=zkg 12 i (by decide) (by have:=h i List.mem_cons_self;omega);have e:keyL (i::t)=d36 i ++ [44]++keyL t:=by simp[keyL]
  rw[e];simp;omega
theorem zhp {w w':World}{pb i:Nat}{cur:Array Value}{e:TypeId}{v u:Value}(hb:w.heap[pb]?=some (.cells cur e (0,0)))(hf:Fr (Own1 v) w w')(hv:v.ownBlock≠some pb) :
  (∀k,w'.cell? ⟨pb,k,none⟩=cur[k]?)/\(∀k,w'.frozen? ⟨pb,k,none⟩=false)/\(w'.setCell ⟨pb,i,none⟩ u).heap[pb]?=some (.cells (cur.setIfInBounds i u) e (0,0))/\Fr (fun q=>v.ownBlock=some q∨q=pb) w (w'.setCell ⟨pb,i,none⟩ u):=by
 have h:=hf.heap hb hv;refine⟨fun k=>by rw[cell_of_row w' pb k _ _ _ h],fun k=>by simp[World.frozen?,h],by rw[heap_set h],?_⟩;exact(hf.mono (fun _ _ q=>.inl q)).setCell _ _ (fun _=>.inr rfl)
theorem PoolAt.fr0 {w w':World}{pb:Nat}{V:List PL}{BV:List Nat}{lv rv bv:Value}{fb:Nat}{mo mc ms mn:Value}{LS RS:List Value}(hp:PoolAt w pb V BV lv rv bv fb mo mc ms mn LS RS)(hf:Fr NoM w w'):PoolAt w' pb V BV lv rv bv fb mo mc ms mn LS RS :=
 ⟨hf.heap hp.blk (fun q=>q),za2 hp.left hf (fun _ _ q=>q),za2 hp.right hf (fun _ _ q=>q),za2 hp.born hf (fun _ _ q=>q),hp.lenL,hp.lenR,hp.lenB,hp.find.fr hf (fun q=>q)⟩
section
variable {M I:Nat→Prop}{w:World}{pb:Nat}{V:List PL}{BV:List Nat}{mo mc ms mn:Value}
theorem PoolS.low (h:PoolS M I w pb V BV mo mc ms mn):PoolS (fun q=>M q/\q<w.heap.size) (fun q=>I q/\q<w.heap.size) w pb V BV mo mc ms mn:=by
 obtain⟨lv,rv,bv,fb,LS,RS,hp,h1,h2,m1,m2,m3,m4,m5,m6,hr⟩:=h;have lf:fb<w.heap.size:=by
  obtain⟨es,clock,hb,_⟩:=hp.find;exact(Array.getElem?_eq_some_iff.1 hb).1
 refine⟨lv,rv,bv,fb,LS,RS,hp,fun j v y hv hy=>⟨(h1 j v y hv hy).1,fun hne q hq=>⟨(h1 j v y hv hy).2 hne q hq,?_⟩⟩,fun j v y hv hy=>⟨(h2 j v y hv hy).1,fun hne q hq=>⟨(h2 j v y hv hy).2 hne q hq,?_⟩⟩,
  ⟨m1,(Array.getElem?_eq_some_iff.1 hp.blk).1⟩,⟨m2,lf⟩,fun q hq=>⟨m3 q hq,(hp.left.lt q hq).2⟩,fun q hq=>⟨m4 q hq,(hp.right.lt q hq).2⟩,fun q hq=>⟨m5 q hq,(hp.born.lt q hq).2⟩,fun q a b=>m6 q a.1 b.1,hr⟩
 ·obtain⟨b,e,lt⟩:=(h1 j v y hv hy).1.block hne
  rw[hq]at e;cases e;exact lt
 ·obtain⟨b,e,lt⟩:=(h2 j v y hv hy).1.block hne
  rw[hq]at e;cases e;exact lt
end
structure NRow (B:Nat) (W:World) (v:Value) (L:List Nat):Prop where
 own:W.ownsRow B 3 1 v L.length (L.map encN)
 shape:∃b c,v=.slice (some ⟨b,0,none⟩) L.length c
theorem NRow.fr {M:Nat→Prop}{B:Nat}{W W':World}{v:Value}{L:List Nat}(h:NRow B W v L)(hf:Fr M W W')(hv:∀q,v.ownBlock=some q→¬M q):NRow B W' v L:=⟨za2 h.own hf hv,h.shape⟩
theorem NRow.nats {B:Nat}{W:World}{v:Value}{L:List Nat}(h:NRow B W v L):Nats W v L:=SliceOf.of_owns h.own rfl
theorem NRow.made (W:World):NRow W.heap.size (W.alloc (.cells #[] 3)) (.slice (some ⟨W.heap.size,0,none⟩) 0 0) [] :=
 ⟨World.ownsRow_made W #[] 0 (Nat.le_refl _) (by decide) (by simp),_,_,rfl⟩
theorem NRow.snoc {B:Nat}{W:World}{v:Value}{L:List Nat}{x:Nat}(h:W.ownsRow B 3 1 v (L.length+1) (L.map encN ++ [encN x])):NRow B W v (L ++ [x]):=by
 obtain⟨b,c,e,_⟩:=zbg h (Nat.succ_pos _);exact⟨by rw[List.length_append,List.map_append];exact h,b,c,by rw[e,List.length_append];rfl⟩
theorem zyz (n:Nat)(W:World)(hn:n<1000000000):(Instr.makeSlice 42 (.int .i64 (n:Int)) (.int .i64 (n:Int))).run Tryz.prog W=.ok (.slice (some ⟨W.heap.size,0,none⟩) n n) (W.alloc (.cells (zdq encN 0 n) 3)):=by
 obtain⟨i0,hi,hz0,hz1,hz2⟩:=info_parts za8;have h:=run_make (P:=Tryz.prog) W 42 3 i0 (.int .i64 0) Tryz.underlying42 hi hz0 .i64 .i64 n n (by omega) (by omega) (by rw[hz2];omega) (by omega);rw[h,hz1,Int.toNat_natCast,Nat.mul_one];have:madeCells (Value.cells (.int .i64 0)) n=zdq encN 0 n:=by
  apply Array.ext'
  unfold zdq;rw[List.toList_toArray,madeCells,Array.toList_map,Array.toList_range];refine(List.eq_replicate_iff.2 ⟨by simp,fun b hb=>?_⟩:_=List.replicate n (Value.int .i64 0)).trans (by simp[encN]);obtain⟨y,_,rfl⟩:=List.mem_map.1 hb;simp[Value.cells,Nat.mod_one]
 rw[this]
theorem RowIs.owns {e:TypeId}{w:World}{g base:Nat}{L:List Nat}(h:RowIs e encN w g L)(hb:base≤g)(hl:L.length≤9223372036854775807):w.ownsRow base e 1 (.slice (some ⟨g,0,none⟩) L.length L.length) L.length (L.map encN) :=
 ⟨by simp,.inr ⟨g,L.length,_,rfl,hb,h,Nat.le_refl _,hl,by simp,by rw[List.toList_toArray,List.take_of_length_le (by simp)]⟩⟩
theorem zn6 (L:List Nat)(h:L.Nodup):zcf L=ints (za6 L):=by
 have hp:=zg2 L;have hnd:(ints L).Nodup:=by
  unfold ints;exact List.nodup_iff_pairwise_ne.2 (List.pairwise_map.2 ((List.nodup_iff_pairwise_ne.1 h).imp fun hne e=>hne (Int.ofNat.inj e)))
 have hlt:(zcf L).Pairwise (· < ·):=by
  have h1:=ziz L;have h2:=List.nodup_iff_pairwise_ne.1 ((hp.nodup_iff).2 hnd);exact(h1.and h2).imp fun⟨a,b⟩=>by omega
 have hnn:∀x∈zcf L,∃n:Nat,x=(n:Int)/\n∈L:=fun x hx=>by
  have:=(hp.mem_iff).1 hx;unfold ints at this
  obtain⟨n,hn,rfl⟩:=List.mem_map.1 this
  exact⟨n,rfl,hn⟩
 have e:zcf L=ints ((zcf L).map Int.toNat):=by
  unfold ints;rw[List.map_map];refine((List.map_congr_left fun x hx=>?_).trans (List.map_id' _)).symm;obtain⟨n,rfl,_⟩:=hnn x hx;rfl
 rw[e];congr 1
 refine zgh ?_ (zd3 L) fun x=>?_
 ·refine List.pairwise_map.2 (hlt.imp_of_mem fun {a b} ha hb hl=>?_)
  obtain⟨n,rfl,_⟩:=hnn a ha;obtain⟨m,rfl,_⟩:=hnn b hb;simpa using hl
 ·rw[zav]
  constructor
  ·intro hx
   obtain⟨y,hy,rfl⟩:=List.mem_map.1 hx;obtain⟨n,rfl,hn⟩:=hnn y hy;simpa using hn
  ·intro hx
   refine List.mem_map.2 ⟨(x:Int),(hp.mem_iff).2 ?_,by simp⟩;unfold ints;exact List.mem_map.2 ⟨x,hx,rfl⟩
def zfb (f:Nat→Option Nat)(L:List Nat):List Nat:=L.map fun x=>(f x).getD 0
set_option maxRecDepth 4000 in
set_option maxHeartbeats 4000000 in
theorem zpv (v:Value)(L:List Nat)(rb:Nat)(f:Nat→Option Nat)(w:World)(hL:Nats w v L)(hR:MapF encN encN w rb f)(hl:L.length<1000000000) :
  Calls Tryz.prog 61 #[v,.map (some rb)] w fun e w'=>∃g,e=.returned (.slice (some ⟨g,0,none⟩) L.length L.length)/\w'.ownsRow w.heap.size 3 1 (.slice (some ⟨g,0,none⟩) L.length L.length) L.length ((zcf (zfb f L)).map encI)/\Fr NoM w w':=by
 obtain⟨a,c,rfl,hac,hcm,hL⟩:=hL;have HL:=Hh hL;have HR:=Hh hR;clear hL hR;have mk:=zyz L.length w hl;go_enter Tryz.func61,Tryz.ntmps61;go_wp2;obtain⟨w1,hw1⟩:∃w1,w1=w.alloc (.cells (zdq encN 0 L.length) 3):=⟨_,rfl⟩;have hf1:Fr NoM w w1:=by rw[hw1];exact(Fr.refl NoM w).alloc _
 have hr1:RowIs 3 encN w1 w.heap.size (List.replicate L.length 0):=by rw[hw1];exact RowIs.made 3 encN w 0 L.length
 rw[←hw1];have HF1:=Hh hf1;have HR1:=Hh hr1;clear hf1 hr1 hw1 mk;go_loopw [13] (fun i W=>∃k:Nat,i=.int .i64 k/\k≤L.length/\RowIs 3 encN W w.heap.size (zfb f (L.take k)++List.replicate (L.length-k) 0)/\Fr NoM w W) (fun i _=>L.length-(intOf i).toNat)
 case atStart=>exact⟨0,rfl,Nat.zero_le _,by simpa [zfb] using HR1.out,HF1.out⟩
 case round =>
  obtain⟨k,rfl,hk,hrow,hfr⟩:=hrel;have HRow:=Hh hrow;have HFr:=Hh hfr;clear hrow hfr;by_cases hlt:k<L.length
  ·obtain⟨b1,o1,ha,d1⟩:=HL.out k L[k] (List.getElem?_eq_getElem _)
   have c1:wr.cell? ⟨b1,o1+k,none⟩=some (.int .i64 (L[k]:Int)):=HFr.out.cell d1 (fun q=>q);have ix:=zaa a L.length c k b1 o1 hlt ha;have hlen:(zfb f (L.take k)++List.replicate (L.length-k) 0).length=L.length:=by simp[zfb];omega
   obtain⟨vk,ck⟩:∃vk,wr.cell? ⟨w.heap.size,k,none⟩=some vk:=⟨_,HRow.out.cell k (by omega)⟩;have zk:=HRow.out.frozen k;have ix2:=zd9 w.heap.size L.length L.length k hlt;have hlook:(Instr.lookup 66 (.map (some rb)) (.int .i64 (L[k]:Int)) false).run Tryz.prog wr=.ok (.int .i64 (((f L[k]).getD 0:Nat):Int)) wr:=by
    have:=MapF.look (P:=Tryz.prog) (w:=wr) (HR.out.fr HFr.out (fun q=>q)) (KeyAt.nat Tryz.underlying3) Tryz.underlying66 (Tryz.zeroValue3 _) L[k] false;simp only[Bool.false_eq_true,if_false]at this
    rw[show(.int .i64 (L[k]:Int):Value)=encN L[k]from rfl,this];cases f L[k] <;> rfl
   have hset:=HRow.out.set k ((f L[k]).getD 0);have hnext:(zfb f (L.take k)++List.replicate (L.length-k) 0).set k ((f L[k]).getD 0)=zfb f (L.take (k+1))++List.replicate (L.length-(k+1)) 0:=by
    have h1:(zfb f (L.take k)).length=k:=by simp[zfb];omega
    rw[List.set_append_right _ _ (by omega),h1,Nat.sub_self,List.take_succ_eq_append_getElem hlt,show L.length-k=(L.length-(k+1))+1 from by omega,List.replicate_succ];simp only[List.set_cons_zero,zfb,List.map_append,List.map_cons,List.map_nil,List.append_assoc,List.cons_append,List.nil_append]
   rw[hnext]at hset;have hf:=Fr.setCell HFr.out ⟨w.heap.size,k,none⟩ (.int .i64 (((f L[k]).getD 0:Nat):Int)) (fun h=>absurd h (Nat.lt_irrefl _));have HSet:=Hh hset;have HF:=Hh hf;clear hset hf hnext hlen ha d1;go_wp2;go_roundw
   case rel=>exact⟨k+1,by go_num,by omega,HSet.out,HF.out⟩
   case measure=>simp[intOf];omega
  ·have hk':k=L.length:=by omega
   subst hk';have hrow:=HRow.out;rw[List.take_length,Nat.sub_self,List.replicate_zero,List.append_nil]at hrow;have hrl:(zfb f L).length=L.length:=by simp[zfb]
   have hown:=hrow.owns (base:=w.heap.size) (Nat.le_refl _) (by omega);rw[hrl]at hown;have HOwn:=Hh hown;have HRl:=Hh hrl;clear hrow hown hrl hk;go_wp2_with fail;have hs:=zob (base:=w.heap.size) (g:=w.heap.size) (cap:=L.length) (zfb f L) wr (by rw[HRl.out];exact HOwn.out) (by rw[HRl.out];omega);rw[HRl.out]at hs;refine hs.mono ?_
   rintro e w2 ⟨rfl,h2,f2⟩;have H2:=Hh h2;have F2:=Hh f2;clear h2 f2 hs;go_wp2;go_ret;exact⟨_,rfl,H2.out,HFr.out.trans F2.out (fun q hq e=>by omega)⟩
end Go.Proofs.YtkofnbjjbcohgaaGreatDoor
