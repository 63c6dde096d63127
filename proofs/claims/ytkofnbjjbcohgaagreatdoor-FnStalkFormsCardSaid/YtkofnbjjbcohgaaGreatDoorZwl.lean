import Derived.Shelf.Slices.In.SortNone
import Derived.Test.YtkofnbjjbcohgaaGreatDoorZw7
/- Lemmas. -/
namespace Go.Proofs.YtkofnbjjbcohgaaGreatDoor
set_option linter.unusedVariables false
set_option linter.unusedSimpArgs false
open Go.RowKit
theorem zgr (a:Option Addr)(c:Nat)(L:List Nat)(w:World)(hL:Nats w (.slice a L.length c) L)(hl:L.length<1000000000000) :
  Calls Tryz.prog 31 #[.slice a L.length c] w fun e w'=>∃g cap,e=.returned (.slice g (za6 L).length cap)/\w'.ownsRow w.heap.size 3 1 (.slice g (za6 L).length cap) (za6 L).length ((za6 L).map encN)/\Fr NoM w w':=by
 cases L with
 | cons x l =>
  obtain⟨a',c',e,h1,h2,h3⟩:=id hL;obtain⟨b,off,e1,_⟩:=h3 0 x rfl;cases e
  subst e1;exact(zmr b off c (x::l) w hL hl).mono fun e w' ⟨g,cap,h⟩=>⟨some ⟨g,0,none⟩,cap,h⟩
 | nil =>
  have es:za6 []=[]:=by decide
  rw[es];have HC:=Hh (show Calls Tryz.prog 55 #[.slice a 0 c] w fun e w'=>∃g cap,e=.returned (.slice g 0 cap)/\w'.ownsRow w.heap.size 3 1 (.slice g 0 cap) 0 []/\Fr NoM w w' from by
   cases a with
   | none =>
    refine Calls.mono (P:=Tryz.prog) (Any.slices_Clone_int_nil Tryz.layClone 0 c w) ?_
    rintro e w' ⟨rfl,rfl⟩;exact⟨none,0,rfl,World.ownsRow_nil _ _ _ _,Fr.refl _ _⟩
   | some a =>
    refine Calls.mono (P:=Tryz.prog) (Any.slices_Clone_int_zero Tryz.layClone a c w) ?_
    rintro e w' ⟨v',rfl,h4,h5,h6⟩;rcases h4.2 with ⟨h0,_⟩|⟨g,cap,cur,rfl,hr⟩
    ·exact absurd h0 h5
    ·exact⟨some ⟨g,0,none⟩,cap,rfl,h4,Fr.of_below h6⟩)
  clear hL hl es;go_enter Tryz.func31,Tryz.ntmps31;go_wp2_with fail;refine HC.out.mono ?_
  rintro e w1 ⟨g,cap,rfl,h1,f1⟩;have H1:=Hh h1;have F1:=Hh f1;clear h1 f1;have HS:=Hh (Any.slices_Sort_int_none Tryz.laySort g cap w1);have HCo:=Hh (Any.slices_Compact_int_empty Tryz.layCompact g cap w1);go_wp2_with fail;refine Calls.mono (P:=Tryz.prog) HS.out ?_
  rintro e w2 ⟨rfl,hw⟩;have hw:=hw.symm;subst hw;go_wp2_with fail;refine Calls.mono (P:=Tryz.prog) HCo.out ?_
  rintro e w2 ⟨rfl,hw⟩;have hw:=hw.symm;subst hw;go_wp2;go_ret;exact⟨g,cap,rfl,H1.out,F1.out⟩
theorem znh {M I:Nat→Prop}{w wr w6 w8 w10 w12:World}{pb fb bn:Nat}{V:List PL}{BV l r:List Nat}{u1 u2 lv rv bv v7 v9 v11 mo mc ms mn:Value}{LS RS:List Value}
  (hA:PoolAt w pb V BV lv rv bv fb mo mc ms mn LS RS) (hfr:Fr NoM w wr)
  (hI1:∀(j:Nat) (v:Value) (y:PL),LS[j]?=some v→V[j]?=some y→Nats w v y.1/\(y.1≠[]→∀q,v.ownBlock=some q→I q))
  (hI2:∀(j:Nat) (v:Value) (y:PL),RS[j]?=some v→V[j]?=some y→Nats w v y.2/\(y.2≠[]→∀q,v.ownBlock=some q→I q))
  (hMs:M pb/\M fb/\(∀q,lv.ownBlock=some q→M q)/\(∀q,rv.ownBlock=some q→M q)/\(∀q,bv.ownBlock=some q→M q)/\(∀q,M q→¬I q))
  (hDs:pb≠fb/\(∀q,lv.ownBlock=some q→q≠pb/\q≠fb)/\(∀q,rv.ownBlock=some q→q≠pb/\q≠fb)/\(∀q,bv.ownBlock=some q→q≠pb/\q≠fb) ∧
   (∀q,lv.ownBlock=some q→rv.ownBlock=some q→False)/\(∀q,lv.ownBlock=some q→bv.ownBlock=some q→False)/\(∀q,rv.ownBlock=some q→bv.ownBlock=some q→False))
  (e1:wr.ownsRow w.heap.size 3 1 u1 l.length (l.map encN)) (e2:wr.ownsRow w.heap.size 3 1 u2 r.length (r.map encN))
  (f6:Fr (fun q=>q=fb) wr w6) (hmap:MapF encS encN w6 fb (upd (zig V) (keyS (l,r)) BV.length)) (f8:Fr (fun q=>lv.ownBlock=some q∨q=pb) w6 w8) (f10:Fr (fun q=>rv.ownBlock=some q∨q=pb) w8 w10) (f12:Fr (fun q=>bv.ownBlock=some q∨q=pb) w10 w12)
  (hb12:w12.heap[pb]?=some (.cells #[v7,v9,v11,.map (some fb),mo,mc,ms,mn] 70 (0,0)))
  (o8:w8.ownsRow 0 42 1 v7 (LS.length+1) (LS ++ [u1])) (o10:w10.ownsRow 0 42 1 v9 (RS.length+1) (RS ++ [u2])) (o12:w12.ownsRow 0 3 1 v11 (BV.length+1) (BV.map encN ++ [encN bn]))
  (q7:∀q,v7.ownBlock=some q→lv.ownBlock=some q∨w6.heap.size≤q) (q9:∀q,v9.ownBlock=some q→rv.ownBlock=some q∨w8.heap.size≤q) (q11:∀q,v11.ownBlock=some q→bv.ownBlock=some q∨w10.heap.size≤q) (hmem:(l,r) ∉ V) :
  ∃M' I',PoolS M' I' w12 pb (V ++ [(l,r)]) (BV ++ [bn]) mo mc ms mn/\(∀q,M' q→M q∨w.heap.size≤q)/\(∀q,I' q→I q∨w.heap.size≤q)/\Fr M w w12:=by
 obtain⟨hm1,hm2,hm3,hm4,hm5,hmi⟩:=hMs;obtain⟨hd1,hd2,hd3,hd4,hd5,hd6,hd7⟩:=hDs;have spb:pb<w.heap.size:=(Array.getElem?_eq_some_iff.1 hA.blk).1;have sfb:fb<w.heap.size:=hA.find.lt;have slv:=fun q hq=>(hA.left.lt q hq).2
 have srv:=fun q hq=>(hA.right.lt q hq).2
 have sbv:=fun q hq=>(hA.born.lt q hq).2
 have s0:=hfr.size;have s6:=f6.size;have s8:=f8.size;have s10:=f10.size;have s12:=f12.size;have sg1:=fun q hq=>e1.lt q hq
 have sg2:=fun q hq=>e2.lt q hq
 have b7:=fun q hq=>(o8.lt q hq).2
 have b9:=fun q hq=>(o10.lt q hq).2
 have hFM:Fr M w w12:=by
  have a0:Fr M w wr:=hfr.any;have a6:=a0.trans f6 (fun q _ e=>by subst e;exact hm2);have a8:=a6.trans f8 (fun q _ e=>e.elim (hm3 q) (fun e=>by subst e;exact hm1));have a10:=a8.trans f10 (fun q _ e=>e.elim (hm4 q) (fun e=>by subst e;exact hm1));exact a10.trans f12 (fun q _ e=>e.elim (hm5 q) (fun e=>by subst e;exact hm1))
 refine⟨fun q=>q=pb∨q=fb∨v7.ownBlock=some q∨v9.ownBlock=some q∨v11.ownBlock=some q,fun q=>(I q/\q<w.heap.size)∨u1.ownBlock=some q∨u2.ownBlock=some q,?_,?_,?_,hFM⟩
 ·have hnew:∀q,w.heap.size≤q→q<wr.heap.size→(q≠fb)/\(¬(lv.ownBlock=some q∨q=pb))/\(¬(rv.ownBlock=some q∨q=pb))/\¬(bv.ownBlock=some q∨q=pb):=fun q h1 h2 =>
   ⟨by omega,fun e=>e.elim (fun e=>by have:=slv q e;omega) (fun e=>by omega),fun e=>e.elim (fun e=>by have:=srv q e;omega) (fun e=>by omega),fun e=>e.elim (fun e=>by have:=sbv q e;omega) (fun e=>by omega)⟩
  have hold:∀q,I q→(q≠fb)/\(¬(lv.ownBlock=some q∨q=pb))/\(¬(rv.ownBlock=some q∨q=pb))/\¬(bv.ownBlock=some q∨q=pb):=fun q hq =>
   ⟨fun e=>by subst e;exact hmi _ hm2 hq,fun e=>e.elim (fun e=>hmi q (hm3 q e) hq) (fun e=>by subst e;exact hmi _ hm1 hq),fun e=>e.elim (fun e=>hmi q (hm4 q e) hq) (fun e=>by subst e;exact hmi _ hm1 hq),
    fun e=>e.elim (fun e=>hmi q (hm5 q e) hq) (fun e=>by subst e;exact hmi _ hm1 hq)⟩
  have hcar:∀(v:Value) (L:List Nat),Nats wr v L→(L≠[]→∀q,v.ownBlock=some q→(q≠fb)/\(¬(lv.ownBlock=some q∨q=pb))/\(¬(rv.ownBlock=some q∨q=pb))/\¬(bv.ownBlock=some q∨q=pb))→Nats w12 v L:=fun v L h hq =>
   (((h.fr f6 (fun hne q hh=>(hq hne q hh).1)).fr f8 (fun hne q hh=>(hq hne q hh).2.1)).fr f10 (fun hne q hh=>(hq hne q hh).2.2.1)).fr f12 (fun hne q hh=>(hq hne q hh).2.2.2)
  have hlenB:=hA.lenB;refine⟨v7,v9,v11,fb,LS ++ [u1],RS ++ [u2],⟨hb12,?_,?_,?_,by rw[List.length_append,List.length_append,hA.lenL];rfl,by rw[List.length_append,List.length_append,hA.lenR];rfl,by rw[List.length_append,List.length_append,hlenB];rfl,?_⟩,?_,?_,.inl rfl,.inr (.inl rfl),fun q h=>.inr (.inr (.inl h)),fun q h=>.inr (.inr (.inr (.inl h))),fun q h=>.inr (.inr (.inr (.inr h))),?_,hd1,?_,?_,?_,?_,?_,?_⟩
  ·have h:=za2 (za2 o8 f10 (fun q hq e=>?_)) f12 (fun q hq e=>?_)
   ·rw[List.length_append];exact h
   ·rcases q7 q hq with h|h
    ·exact e.elim (fun e=>hd5 q h e) (fun e=>(hd2 q h).1 e)
    ·exact e.elim (fun e=>by have:=srv q e;omega) (fun e=>by omega)
   ·rcases q7 q hq with h|h
    ·exact e.elim (fun e=>hd6 q h e) (fun e=>(hd2 q h).1 e)
    ·exact e.elim (fun e=>by have:=sbv q e;omega) (fun e=>by omega)
  ·have h:=za2 o10 f12 (fun q hq e=>?_)
   ·rw[List.length_append];exact h
   ·rcases q9 q hq with h|h
    ·exact e.elim (fun e=>hd7 q h e) (fun e=>(hd3 q h).1 e)
    ·exact e.elim (fun e=>by have:=sbv q e;omega) (fun e=>by omega)
  ·rw[List.length_append,List.map_append];exact o12
  ·rw[zre V (l,r) hmem,←hlenB]
   exact((hmap.fr f8 (fun e=>e.elim (fun e=>(hd2 _ e).2 rfl) (fun e=>hd1 e.symm))).fr f10 (fun e=>e.elim (fun e=>(hd3 _ e).2 rfl) (fun e=>hd1 e.symm))).fr f12 (fun e=>e.elim (fun e=>(hd4 _ e).2 rfl) (fun e=>hd1 e.symm))
  ·intro j v y hv hy
   by_cases hj:j<LS.length
   ·rw[List.getElem?_append_left hj]at hv
    rw[List.getElem?_append_left (by rw[←hA.lenL];exact hj)]at hy;obtain⟨s1,s2⟩:=hI1 j v y hv hy;refine⟨hcar v _ (s1.fr0 hfr) (fun hne q hq=>hold q (s2 hne q hq)),fun hne q hq=>.inl ⟨s2 hne q hq,?_⟩⟩;obtain⟨b,hb,hl⟩:=s1.block hne;rw[hq]at hb;cases hb;exact hl
   ·rw[List.getElem?_append_right (by omega)]at hv
    rw[List.getElem?_append_right (by rw[←hA.lenL];omega),←hA.lenL]at hy;cases hd:j-LS.length with
    | zero =>
     rw[hd]at hv hy;simp at hv hy;subst hv hy;exact⟨hcar _ _ (SliceOf.of_owns e1 rfl) (fun _ q hq=>hnew _ (sg1 q hq).1 (sg1 q hq).2),fun _ q hq=>.inr (.inl hq)⟩
    | succ d=>rw[hd]at hv;simp at hv
  ·intro j v y hv hy
   by_cases hj:j<RS.length
   ·rw[List.getElem?_append_left hj]at hv
    rw[List.getElem?_append_left (by rw[←hA.lenR];exact hj)]at hy;obtain⟨s1,s2⟩:=hI2 j v y hv hy;refine⟨hcar v _ (s1.fr0 hfr) (fun hne q hq=>hold q (s2 hne q hq)),fun hne q hq=>.inl ⟨s2 hne q hq,?_⟩⟩;obtain⟨b,hb,hl⟩:=s1.block hne;rw[hq]at hb;cases hb;exact hl
   ·rw[List.getElem?_append_right (by omega)]at hv
    rw[List.getElem?_append_right (by rw[←hA.lenR];omega),←hA.lenR]at hy;cases hd:j-RS.length with
    | zero =>
     rw[hd]at hv hy;simp at hv hy;subst hv hy;exact⟨hcar _ _ (SliceOf.of_owns e2 rfl) (fun _ q hq=>hnew _ (sg2 q hq).1 (sg2 q hq).2),fun _ q hq=>.inr (.inr hq)⟩
    | succ d=>rw[hd]at hv;simp at hv
  ·intro q hM hI0
   have hI:(I q/\q<w.heap.size)∨(w.heap.size≤q/\q<wr.heap.size)∨(w.heap.size≤q/\q<wr.heap.size):=hI0.imp_right (fun h=>h.imp (sg1 q) (sg2 q));rcases hM with e|e|e|e|e
   ·subst e
    rcases hI with h|h|h
    ·exact hmi _ hm1 h.1
    ·omega
    ·omega
   ·subst e
    rcases hI with h|h|h
    ·exact hmi _ hm2 h.1
    ·omega
    ·omega
   ·rcases q7 q e with k|k
    ·have:=slv q k
     rcases hI with h|h|h
     ·exact hmi q (hm3 q k) h.1
     ·omega
     ·omega
    ·rcases hI with h|h|h
     ·have:=h.2;omega
     ·omega
     ·omega
   ·rcases q9 q e with k|k
    ·have:=srv q k
     rcases hI with h|h|h
     ·exact hmi q (hm4 q k) h.1
     ·omega
     ·omega
    ·rcases hI with h|h|h
     ·have:=h.2;omega
     ·omega
     ·omega
   ·rcases q11 q e with k|k
    ·have:=sbv q k
     rcases hI with h|h|h
     ·exact hmi q (hm5 q k) h.1
     ·omega
     ·omega
    ·rcases hI with h|h|h
     ·have:=h.2;omega
     ·omega
     ·omega
  ·intro q e
   rcases q7 q e with k|k
   ·exact hd2 q k
   ·exact⟨by omega,by omega⟩
  ·intro q e
   rcases q9 q e with k|k
   ·exact hd3 q k
   ·exact⟨by omega,by omega⟩
  ·intro q e
   rcases q11 q e with k|k
   ·exact hd4 q k
   ·exact⟨by omega,by omega⟩
  ·intro q h1 h2
   have:=b7 q h1;rcases q9 q h2 with k|k
   ·rcases q7 q h1 with j|j
    ·exact hd5 q j k
    ·have:=srv q k;omega
   ·omega
  ·intro q h1 h2
   have:=b7 q h1;rcases q11 q h2 with k|k
   ·rcases q7 q h1 with j|j
    ·exact hd6 q j k
    ·have:=sbv q k;omega
   ·omega
  ·intro q h1 h2
   have:=b9 q h1;rcases q11 q h2 with k|k
   ·rcases q9 q h1 with j|j
    ·exact hd7 q j k
    ·have:=sbv q k;omega
   ·omega
 ·intro q hq
  rcases hq with e|e|e|e|e
  ·subst e;exact .inl hm1
  ·subst e;exact .inl hm2
  ·rcases q7 q e with k|k
   ·exact .inl (hm3 q k)
   ·exact .inr (by omega)
  ·rcases q9 q e with k|k
   ·exact .inl (hm4 q k)
   ·exact .inr (by omega)
  ·rcases q11 q e with k|k
   ·exact .inl (hm5 q k)
   ·exact .inr (by omega)
 ·intro q hq
  rcases hq with e|e|e
  ·exact .inl e.1
  ·exact .inr (sg1 q e).1
  ·exact .inr (sg2 q e).1
set_option maxRecDepth 4000 in
set_option maxHeartbeats 8000000 in
theorem zv6 {M I:Nat→Prop}(pb:Nat)(V:List PL)(BV L R:List Nat)(mo mc ms mn:Value)(a1 a2:Option Addr)(c1 c2:Nat)(w:World)(hP:PoolS M I w pb V BV mo mc ms mn)(hL:Nats w (.slice a1 L.length c1) L)(hR:Nats w (.slice a2 R.length c2) R)
  (hLt:∀x∈L,x<V.length) (hRt:∀x∈R,x<V.length) (hl:L.length<1000000000) (hr:R.length<1000000000) (hn:V.length<1000000000) (hb:∀x∈BV,x<1000000000) :
  Calls Tryz.prog 15 #[.pointer (some ⟨pb,0,none⟩),.slice a1 L.length c1,.slice a2 R.length c2] w fun e w'=>e=.returned (.int .i64 ((za3 V BV L R).2.2:Nat)) ∧
   ∃M' I',PoolS M' I' w' pb (za3 V BV L R).1 (za3 V BV L R).2.1 mo mc ms mn/\(∀q,M' q→M q∨w.heap.size≤q)/\(∀q,I' q→I q∨w.heap.size≤q)/\Fr M w w':=by
 have HP:=Hh hP;have HL:=Hh hL;have HR:=Hh hR;have HLt:=Hh hLt;have HRt:=Hh hRt;have Hl:=Hh hl;have Hr:=Hh hr;have Hn:=Hh hn;have HBv:=Hh hb;clear hP hL hR hLt hRt hb;go_enter Tryz.func15,Tryz.ntmps15;go_wp2_with fail;refine(zgr a1 c1 L w HL.out (by omega)).mono ?_
 rintro e w1 ⟨g1,p1,rfl,h1,f1⟩;have H1:=Hh h1;have F1:=Hh f1;clear h1 f1;go_wp2_with fail;refine(zgr a2 c2 R w1 (HR.out.fr0 F1.out) (by omega)).mono ?_
 rintro e w2 ⟨g2,p2,rfl,h2,f2⟩;have H2:=Hh h2;have F2:=Hh f2;clear h2 f2;obtain⟨l,hl'⟩:∃l,l=za6 L:=⟨_,rfl⟩;obtain⟨r,hr'⟩:∃r,r=za6 R:=⟨_,rfl⟩;have hll:l.length≤L.length:=by rw[hl'];exact zc8 L
 have hrl:r.length≤R.length:=by rw[hr'];exact zc8 R
 have h1:=H1.out;have h2:=H2.out;rw[←hl']at h1 ⊢;rw[←hr']at h2 ⊢;have H1:=Hh h1;have H2:=Hh h2;have HLd:=Hh hl';have HRd:=Hh hr';clear h1 h2 hl' hr';obtain⟨i0,hi,hz0,hz1,hz2⟩:=info_parts zme;have hmk:=run_make (P:=Tryz.prog) w2 22 5 i0 (.int .u8 0) Tryz.underlying22 hi hz0 .i64 .i64 0 (4*(l.length+r.length)+1) (by omega) (by omega) (by rw[hz2];omega) (by omega);have hw1:wrap64 ((l.length:Int)+(r.length:Int))=(l.length:Int)+(r.length:Int):=by unfold wrap64;omega
 have hw2:wrap64 (4*((l.length:Int)+(r.length:Int)))=4*((l.length:Int)+(r.length:Int)):=by unfold wrap64;omega
 have hw3:wrap64 (4*((l.length:Int)+(r.length:Int))+1)=4*((l.length:Int)+(r.length:Int))+1:=by unfold wrap64;omega
 rw[hz1]at hmk;have hown0:(w2.alloc (.cells (madeCells #[.int .u8 0] (4*(l.length+r.length)+1)) 5)).ownsRow w2.heap.size 5 1 (.slice (some ⟨w2.heap.size,0,none⟩) 0 (4*(l.length+r.length)+1)) 0 [] :=
  World.ownsRow_made w2 _ _ (Nat.le_refl _) (by unfold maxLen;omega) (by simp[madeCells])
 have HOwn0:=Hh hown0;have hmk:(Instr.makeSlice 22 (.int .i64 0) (.int .i64 (4*((l.length:Int)+(r.length:Int))+1))).run Tryz.prog w2=_:=hmk;clear hi hz0 hz1 hz2 hown0
 -- what the walk reads of the pool
 have hlV:∀x∈l,x<V.length:=fun x hx=>HLt.out x ((zav L x).1 (by rw[←HLd.out];exact hx))
 have hrV:∀x∈r,x<V.length:=fun x hx=>HRt.out x ((zav R x).1 (by rw[←HRd.out];exact hx))
 have hF2:=F1.out.trans F2.out (fun _ _ q=>q);have hP2:=HP.out.fr0 hF2;obtain⟨lv,rv,bv,fb,LS,RS,hA,hI1,hI2,hm1,hm2,hm3,hm4,hm5,hmi,hd1,hd2,hd3,hd4,hd5,hd6,hd7⟩:=id hP2;obtain⟨ba,bc,rfl,hbc0,hbcm,hbcell⟩:=SliceOf.of_owns (L:=BV) hA.born rfl;have hBl:BV.length=V.length:=hA.lenB;have HB:=Hh (fun(W:World) (f:Fr NoM w2 W) (k:Nat) (hk:k<BV.length)=>show W.cell? ⟨pb,2,none⟩=some (.slice ba BV.length bc)/\∃b off,ba=some ⟨b,off,none⟩/\W.cell? ⟨b,off+k,none⟩=some (.int .i64 (BV[k]:Int))from by
  refine⟨f.cell (by rw[cell_of_row w2 pb 2 _ _ _ hA.blk];rfl) (fun q=>q),?_⟩;obtain⟨b,off,e,c⟩:=hbcell k BV[k] (List.getElem?_eq_getElem hk);exact⟨b,off,e,f.cell c (fun q=>q)⟩)
 have HC1:=Hh (fun(W:World) (f:Fr NoM w2 W) (k:Nat) (hk:k<l.length)=>show ∃b off,g1=some ⟨b,off,none⟩/\W.cell? ⟨b,off+k,none⟩=some (.int .i64 (l[k]:Int))from by
  obtain⟨a,c,e,_,_,h⟩:=(SliceOf.of_owns (L:=l) H1.out rfl).fr0 (F2.out.trans f (fun _ _ q=>q));obtain⟨b,off,e2,hc⟩:=h k l[k] (List.getElem?_eq_getElem hk);cases e
  exact⟨b,off,e2,hc⟩)
 have HC2:=Hh (fun(W:World) (f:Fr NoM w2 W) (k:Nat) (hk:k<r.length)=>show ∃b off,g2=some ⟨b,off,none⟩/\W.cell? ⟨b,off+k,none⟩=some (.int .i64 (r[k]:Int))from by
  obtain⟨a,c,e,_,_,h⟩:=(SliceOf.of_owns (L:=r) H2.out rfl).fr0 f;obtain⟨b,off,e2,hc⟩:=h k r[k] (List.getElem?_eq_getElem hk);cases e
  exact⟨b,off,e2,hc⟩)
 have HBl:=Hh hBl;clear hBl;have HP2:=Hh hP2;have HLV:=Hh hlV;have HRV:=Hh hrV;have HF2:=Hh hF2;clear hlV hrV hF2 hP2 hA hI1 hI2 hm1 hm2 hm3 hm4 hm5 hmi hd1 hd2 hd3 hd4 hd5 hd6 hd7 hbcell;go_wp2;obtain⟨w3,hw3⟩:∃w3:World,w3=w2.alloc (.cells (madeCells #[.int .u8 0] (4*(l.length+r.length)+1)) 5):=⟨_,rfl⟩;have hf3:Fr NoM w2 w3:=by rw[hw3];exact(Fr.refl NoM w2).alloc _
 have ho3:=HOwn0.out;rw[←hw3]at ho3 ⊢;have HF3:=Hh hf3;have HO3:=Hh ho3;clear hf3 ho3 hw3 hmk;go_loopw [7,8,30] (fun kv b i W=>∃(k:Nat) (v:Value),v=kv/\i=.int .i64 k/\k≤l.length/\b=.int .i64 (za9 BV 0 (l.take k):Nat)/\W.ownsRow w2.heap.size 5 1 v (keyL (l.take k)).length ((keyL (l.take k)).map encU)/\Fr NoM w2 W) (fun _ _ i _=>l.length-(intOf i).toNat)
 case atStart=>exact⟨0,_,rfl,rfl,Nat.zero_le _,by simp[za9],by simpa [keyL] using HO3.out,HF3.out⟩
 case round =>
  obtain⟨k,v,rfl,rfl,hk,rfl,hown,hfr⟩:=hrel;have HOw:=Hh hown;have HFr:=Hh hfr;clear hown hfr;by_cases hlt:k<l.length
  ·have hx:l[k]<BV.length:=by rw[HBl.out];exact HLV.out _ (List.getElem_mem _)
   obtain⟨b1,o1,hx1,cx⟩:=HC1.out _ HFr.out k hlt;have ix:=zaa g1 l.length p1 k b1 o1 hlt hx1;clear hx1;have hkl:=zfr (l.take k) (fun x hx=>by have:=HLV.out x (List.mem_of_mem_take hx);omega);have htl:(l.take k).length≤l.length:=by rw[List.length_take];omega
   have hkl2:(keyL (l.take k)).length≤20000000000:=by omega
   have hstep:=zdr BV 0 l k hlt hx;have hkey:keyL (l.take (k+1))=keyL (l.take k)++d36 l[k] ++ [44]:=by rw[List.take_succ_eq_append_getElem hlt,zmd]
   have hxV:l[k]<V.length:=HLV.out _ (List.getElem_mem _);have hxm:l[k]<1000000000000:=by omega
   have hdl:=zkg 12 l[k] (by decide) (by omega);have HKl:=Hh hkl2;have HStep:=Hh hstep;have HKey:=Hh hkey;have HXm:=Hh hxm;have HDl:=Hh hdl;have HX:=Hh hx;clear hkl hkl2 hstep hkey hxm hdl;go_wp2_with fail;refine(zfz (base:=w2.heap.size) v (keyL (l.take k)) l[k] wr HOw.out HXm.out HFr.out.size (by have:=HKl.out;omega)).mono ?_
   rintro e w4 ⟨v4,rfl,h4,f4⟩;have g4:=HFr.out.own HOw.out f4;have H4:=Hh h4;have G4:=Hh g4;clear h4 f4 g4;go_wp2_with (at_builtin;refine zc0 (enc:=encU) w2 (G4.out.alloc _) rfl _ _ 22 rfl 5 (.int .u8 0) 1 Tryz.underlying22 zme rfl v4 _ _ rfl (H4.out.alloc _) _ rfl [44] (SliceOf.one encU w4 44 5) (fun _=>rfl) ?c1 (by decide) ?_)
   case c1=>have:=HKl.out;have:=HDl.out;simp;omega
   intro v5 w5 h5 f5;obtain⟨cb,bb,ob,hba,cbb⟩:=HB.out _ f5 l[k] hx;have ib:=zaa ba BV.length bc l[k] bb ob hx hba;have hbx:BV[l[k]]<1000000000:=HBv.out _ (List.getElem_mem _);have H5:=Hh h5;have F5:=Hh f5;clear h5 f5 hba;go_wp2;go_roundw
   case rel =>
    refine⟨k+1,v5,rfl,by go_num,by omega,by rw[HStep.out],?_,F5.out⟩;rw[HKey.out];simpa [Nat.add_assoc] using H5.out
   case measure=>simp[intOf];omega
  ·have hk':k=l.length:=by omega
   subst hk';obtain⟨BN,hBN⟩:∃x,x=za9 BV 0 l:=⟨_,rfl⟩;have hbn:za9 BV 0 (l.take l.length)=BN:=by rw[List.take_length,hBN]
   have ho:=HOw.out;rw[List.take_length]at ho;have HO:=Hh ho;have HBN:=Hh hBN;rw[hbn];clear ho hBN hbn hk;have hkl:=zfr l (fun x hx=>by have:=HLV.out x hx;omega);go_wp2_with (at_builtin;refine zc0 (enc:=encU) w2 (HFr.out.alloc _) rfl _ _ 22 rfl 5 (.int .u8 0) 1 Tryz.underlying22 zme rfl v _ _ rfl (HO.out.alloc _) _ rfl [124] (SliceOf.one encU wr 124 5) (fun _=>rfl) ?c1 (by decide) ?_)
   case c1=>simp;omega
   intro v5 w5 h5 f5;have h6:w5.ownsRow w2.heap.size 5 1 v5 (keyL l ++ [124]).length ((keyL l ++ [124]).map encU):=by simpa using h5
   have H6:=Hh h6;have F5:=Hh f5;clear h5 f5 h6;go_wp2;go_loopw [7,8,55] (fun kv b i W=>∃(k:Nat) (v:Value),v=kv/\i=.int .i64 k/\k≤r.length/\b=.int .i64 (za9 BV BN (r.take k):Nat)/\W.ownsRow w2.heap.size 5 1 v (keyL l ++ [124]++keyL (r.take k)).length ((keyL l ++ [124]++keyL (r.take k)).map encU)/\Fr NoM w2 W) (fun _ _ i _=>r.length-(intOf i).toNat)
   case atStart=>exact⟨0,_,rfl,rfl,Nat.zero_le _,by simp[za9],by simpa [keyL] using H6.out,F5.out⟩
   case round =>
    obtain⟨k,v,rfl,rfl,hk,rfl,hown,hfr⟩:=hrel;have HOw:=Hh hown;have HFr:=Hh hfr;clear hown hfr;by_cases hlt:k<r.length
    ·have hx:r[k]<BV.length:=by rw[HBl.out];exact HRV.out _ (List.getElem_mem _)
     obtain⟨b2,o2,hx2,cx⟩:=HC2.out _ HFr.out k hlt;have ix:=zaa g2 r.length p2 k b2 o2 hlt hx2;clear hx2;have hkl:=zfr (r.take k) (fun x hx=>by have:=HRV.out x (List.mem_of_mem_take hx);omega);have htl:(r.take k).length≤r.length:=by rw[List.length_take];omega
     have hkl2:(keyL l ++ [124]++keyL (r.take k)).length≤40000000000:=by simp;omega
     have hstep:=zdr BV BN r k hlt hx;have hkey:keyL (r.take (k+1))=keyL (r.take k)++d36 r[k] ++ [44]:=by rw[List.take_succ_eq_append_getElem hlt,zmd]
     have hxV:r[k]<V.length:=HRV.out _ (List.getElem_mem _);have hxm:r[k]<1000000000000:=by omega
     have hdl:=zkg 12 r[k] (by decide) (by omega);have HKl:=Hh hkl2;have HStep:=Hh hstep;have HKey:=Hh hkey;have HXm:=Hh hxm;have HDl:=Hh hdl;have HX:=Hh hx;clear hkl hkl2 hstep hkey hxm hdl;go_wp2_with fail;refine(zfz (base:=w2.heap.size) v (keyL l ++ [124]++keyL (r.take k)) r[k] wr HOw.out HXm.out HFr.out.size (by have:=HKl.out;omega)).mono ?_
     rintro e w4 ⟨v4,rfl,h4,f4⟩;have g4:=HFr.out.own HOw.out f4;have H4:=Hh h4;have G4:=Hh g4;clear h4 f4 g4;go_wp2_with (at_builtin;refine zc0 (enc:=encU) w2 (G4.out.alloc _) rfl _ _ 22 rfl 5 (.int .u8 0) 1 Tryz.underlying22 zme rfl v4 _ _ rfl (H4.out.alloc _) _ rfl [44] (SliceOf.one encU w4 44 5) (fun _=>rfl) ?c1 (by decide) ?_)
     case c1=>have:=HKl.out;have:=HDl.out;simp at *;omega
     intro v5 w5 h5 f5;obtain⟨cb,bb,ob,hba,cbb⟩:=HB.out _ f5 r[k] hx;have ib:=zaa ba BV.length bc r[k] bb ob hx hba;have hbx:BV[r[k]]<1000000000:=HBv.out _ (List.getElem_mem _);have H5:=Hh h5;have F5:=Hh f5;clear h5 f5 hba;go_wp2;go_roundw
     case rel =>
      refine⟨k+1,v5,rfl,by go_num,by omega,by rw[HStep.out],?_,F5.out⟩;rw[HKey.out];simpa [Nat.add_assoc] using H5.out
     case measure=>simp[intOf];omega
    ·have hk':k=r.length:=by omega
     subst hk';have hbn:za9 BV BN (r.take r.length)=za9 BV (za9 BV 0 l) r:=by rw[List.take_length,HBN.out]
     have ho:=HOw.out;rw[List.take_length,show keyL l ++ [124]++keyL r=keyS (l,r)from by simp[keyS]]at ho;obtain⟨g3,p3,rfl,hg3,_⟩:=zbg ho (by simp[keyS];omega);have hkl:=zfr l (fun x hx=>by have:=HLV.out x hx;omega);have hkr:=zfr r (fun x hx=>by have:=HRV.out x hx;omega);have HK:=Hh ho;rw[hbn];clear ho hbn hk;obtain⟨lv,rv,bv,fb,LS,RS,hA0,hI1,hI2,hm1,hm2,hm3,hm4,hm5,hmi,hd1,hd2,hd3,hd4,hd5,hd6,hd7⟩:=HP.out;have hA:=hA0.fr0 (HF2.out.trans HFr.out (fun _ _ q=>q));have HA0:=Hh hA0;clear hA0;have c3:wr.cell? ⟨pb,3,none⟩=some (.map (some fb)):=by rw[cell_of_row wr pb 3 _ _ _ hA.blk];rfl
     have hconv:∀n,(convert 22 9 (.slice (some ⟨g3,0,none⟩) (keyS (l,r)).length p3)).run Tryz.prog (wr.drewN n)=.ok (encS (keyS (l,r))) (wr.drewN n):=fun n=>zpf (w:=wr.drewN n) HK.out rfl (by simp[Value.ownBlock])
     have hlook:∀n,(Instr.lookup 64 (.map (some fb)) (encS (keyS (l,r))) true).run Tryz.prog (wr.drewN n)=.ok (.tuple #[((zig V (keyS (l,r))).map encN).getD (.int .i64 0),.bool (zig V (keyS (l,r))).isSome]) (wr.drewN n):=fun n =>
      MapF.look (w:=wr.drewN n) hA.find (zx8 Tryz.underlying9) Tryz.underlying64 (Tryz.zeroValue3 _) (keyS (l,r)) true
     rw[zmq]at hlook;have HA:=Hh hA;have HI1:=Hh hI1;have HI2:=Hh hI2;have HMs:=Hh (And.intro hm1 (And.intro hm2 (And.intro hm3 (And.intro hm4 (And.intro hm5 hmi)))));have HDs:=Hh (And.intro hd1 (And.intro hd2 (And.intro hd3 (And.intro hd4 (And.intro hd5 (And.intro hd6 hd7))))));clear hA hI1 hI2 hm1 hm2 hm3 hm4 hm5 hmi hd1 hd2 hd3 hd4 hd5 hd6 hd7;by_cases hmem:(l,r)∈V
     ·rw[if_pos hmem]at hlook
      have hlook:∀n,(Instr.lookup 64 (.map (some fb)) (encS (keyS (l,r))) true).run Tryz.prog (wr.drewN n)=.ok (.tuple #[.int .i64 (V.idxOf (l,r):Nat),.bool true]) (wr.drewN n):=hlook;have HMem:=Hh hmem;clear hmem;go_wp2;go_quiet (fail);go_wp2;go_ret;have hp:za3 V BV L R=(V,BV,V.idxOf (l,r)):=by unfold za3;rw[←HLd.out,←HRd.out,if_pos HMem.out]
      rw[hp];have hfq:Fr NoM w (wr.drewN nq):=(HF2.out.trans HFr.out (fun _ _ q=>q)).trans (M':=NoM) ⟨rfl,rfl,rfl,Nat.le_refl _,fun _ _ _=>rfl⟩ (fun _ _ q=>q);exact⟨rfl,M,I,HP.out.fr0 hfq,fun q h=>.inl h,fun q h=>.inl h,hfq.any⟩
     ·rw[if_neg hmem]at hlook
      have hlook:∀n,(Instr.lookup 64 (.map (some fb)) (encS (keyS (l,r))) true).run Tryz.prog (wr.drewN n)=.ok (.tuple #[.int .i64 0,.bool false]) (wr.drewN n):=hlook;have HMem:=Hh hmem;clear hmem;go_wp2;go_quiet (fail);obtain⟨wq,hwq⟩:∃wq,wq=wr.drewN nq:=⟨_,rfl⟩;have hfq:Fr NoM wr wq:=by rw[hwq];exact⟨rfl,rfl,rfl,Nat.le_refl _,fun _ _ _=>rfl⟩
      rw[←hwq];have HFq:=Hh hfq;clear hlook hconv c3 hwq hfq;have c2:wq.cell? ⟨pb,2,none⟩=some bv:=by rw[cell_of_row wq pb 2 _ _ _ (HFq.out.heap HA.out.blk (fun q=>q))];rfl
      have c3:wq.cell? ⟨pb,3,none⟩=some (.map (some fb)):=by rw[cell_of_row wq pb 3 _ _ _ (HFq.out.heap HA.out.blk (fun q=>q))];rfl
      obtain⟨ba',bc',rfl,_⟩:=SliceOf.of_owns (L:=BV) HA.out.born rfl;have hconv:(convert 22 9 (.slice (some ⟨g3,0,none⟩) (keyS (l,r)).length p3)).run Tryz.prog wq.drew=.ok (encS (keyS (l,r))) wq.drew:=zpf (w:=wq.drew) (za2 HK.out (HFq.out.drew) (fun _ _ q=>q)) rfl (by simp[Value.ownBlock]);obtain⟨w6,hrun,hmap6,hf6⟩:=MapF.store (P:=Tryz.prog) (w:=wq.drew) (HA.out.find.fr (HFq.out.drew) (fun q=>q)) (zx8 Tryz.underlying9) Tryz.underlying64 (keyS (l,r)) BV.length;have hrun:(Instr.mapUpdate 64 (.map (some fb)) (encS (keyS (l,r))) (.int .i64 (BV.length:Nat))).run Tryz.prog wq.drew=.ok () w6:=hrun;have HMap6:=Hh hmap6;have HF6:=Hh hf6;clear hmap6 hf6;go_upto_region 21 with fail;go_cut []from 86 (fun wx=>wx=w6)
      case first =>
       go_region_law (fail);all_goals
        go_wp2_with fail;go_meet
        case rel=>rfl
      case rest =>
       subst hcut;obtain⟨w6,rfl⟩:∃w6,w6=wc:=⟨_,rfl⟩;clear hrun hconv c2 c3;have hF6:Fr (fun q=>q=fb) wr w6:=(HFq.out.drew.mono (fun _ _ q=>q.elim)).trans HF6.out (fun _ _ q=>q);obtain⟨hd1,hd2,hd3,hd4,hd5,hd6,hd7⟩:=HDs.out;have hb6:=hF6.heap HA.out.blk (fun e=>hd1 e);have c0:w6.cell? ⟨pb,0,none⟩=some lv:=by rw[cell_of_row w6 pb 0 _ _ _ hb6];rfl
       have hl6:=za2 HA.out.left hF6 (fun q hq e=>(hd2 q hq).2 e);have hlt:LS.length<1000000000:=by rw[HA.out.lenL];exact Hn.out
       have HF6':=Hh hF6;have HB6:=Hh hb6;have HL6:=Hh hl6;clear hF6 hd1 hd2 hd3 hd4 hd5 hd6 hd7 hb6 hl6;go_wp2_with (at_builtin;refine zc1 w6 rfl _ _ 68 rfl 0 42 (.slice none 0 0) 24 Tryz.underlying68 zx9 rfl lv LS.length LS rfl HL6.out (.slice g1 l.length p1) rfl rfl ?c1 (by decide) (Nat.zero_le _) ?_)
       case c1=>omega
       intro v7 w7 h7 f7 q7;obtain⟨g7,p7,rfl,_,hg7⟩:=zbg h7 (Nat.succ_pos _);obtain⟨k7,z7,hb8,hf8⟩:=zhp (i:=0) (u:=.slice (some ⟨g7,0,none⟩) (LS.length+1) p7) HB6.out f7 (fun e=>(HDs.out.2.1 pb e).1 rfl);have k70:w7.cell? ⟨pb,0,none⟩=some lv:=by rw[k7];rfl
       have z70:=z7 0;have ho8:(w7.setCell ⟨pb,0,none⟩ (.slice (some ⟨g7,0,none⟩) (LS.length+1) p7)).ownsRow 0 42 1 (.slice (some ⟨g7,0,none⟩) (LS.length+1) p7) (LS.length+1) (LS ++ [.slice g1 l.length p1]):=za2 h7 (Fr.setCell (Fr.refl (fun q=>q=pb) w7) ⟨pb,0,none⟩ _ (fun _=>rfl)) (fun q hq e=>by
        subst e;rcases q7 with h|⟨b,h,hle⟩
        ·rw[h]at hq;exact(HDs.out.2.1 _ hq).1 rfl
        ·rw[h]at hq;cases hq
         have:=(Array.getElem?_eq_some_iff.1 HB6.out).1;omega)
       have hq7:∀q,(Value.slice (some ⟨g7,0,none⟩) (LS.length+1) p7).ownBlock=some q→lv.ownBlock=some q∨w6.heap.size≤q:=fun q hq=>by
        rcases q7 with h|⟨b,h,hle⟩
        ·rw[h]at hq;exact .inl hq
        ·rw[h]at hq;cases hq;exact .inr hle
       have HB8:=Hh hb8;have HF8:=Hh hf8;have HO8:=Hh ho8;have HQ7:=Hh hq7;clear h7 f7 q7 k7 z7 hb8 hf8 ho8 hq7 c0;obtain⟨w8,hw8⟩:∃w8,w8=w7.setCell ⟨pb,0,none⟩ (.slice (some ⟨g7,0,none⟩) (LS.length+1) p7):=⟨_,rfl⟩;rw[←hw8]at HB8 HF8 HO8;have c1:w8.cell? ⟨pb,1,none⟩=some rv:=by rw[cell_of_row w8 pb 1 _ _ _ HB8.out];rfl
       have hr8:w8.ownsRow 0 42 1 rv RS.length RS:=za2 (za2 HA.out.right HF6'.out (fun q hq e=>(HDs.out.2.2.1 q hq).2 e)) HF8.out (fun q hq e=>by
        rcases e with e|e
        ·exact HDs.out.2.2.2.2.1 q e hq
        ·exact(HDs.out.2.2.1 q hq).1 e)
       have hlr:RS.length<1000000000:=by rw[HA.out.lenR];exact Hn.out
       have HR8:=Hh hr8;clear hr8;go_upto_region 23 with fail;rw[←hw8];clear hw8 k70 z70;go_wp2_with (at_builtin;refine zc1 w8 rfl _ _ 68 rfl 0 42 (.slice none 0 0) 24 Tryz.underlying68 zx9 rfl rv RS.length RS rfl HR8.out (.slice g2 r.length p2) rfl rfl ?c1 (by decide) (Nat.zero_le _) ?_)
       case c1=>omega
       intro v9 w9 h9 f9 q9;obtain⟨g9,p9,rfl,_,hg9⟩:=zbg h9 (Nat.succ_pos _);obtain⟨k9,z9,hb10,hf10⟩:=zhp (i:=1) (u:=.slice (some ⟨g9,0,none⟩) (RS.length+1) p9) HB8.out f9 (fun e=>(HDs.out.2.2.1 pb e).1 rfl);have k90:w9.cell? ⟨pb,1,none⟩=some rv:=by rw[k9];rfl
       have z90:=z9 1;have hpb8:pb<w8.heap.size:=(Array.getElem?_eq_some_iff.1 HB8.out).1;have ho10:(w9.setCell ⟨pb,1,none⟩ (.slice (some ⟨g9,0,none⟩) (RS.length+1) p9)).ownsRow 0 42 1 (.slice (some ⟨g9,0,none⟩) (RS.length+1) p9) (RS.length+1) (RS ++ [.slice g2 r.length p2]):=za2 h9 (Fr.setCell (Fr.refl (fun q=>q=pb) w9) ⟨pb,1,none⟩ _ (fun _=>rfl)) (fun q hq e=>by
        subst e;rcases q9 with h|⟨b,h,hle⟩
        ·rw[h]at hq;exact(HDs.out.2.2.1 _ hq).1 rfl
        ·rw[h]at hq;cases hq;omega)
       have hq9:∀q,(Value.slice (some ⟨g9,0,none⟩) (RS.length+1) p9).ownBlock=some q→rv.ownBlock=some q∨w8.heap.size≤q:=fun q hq=>by
        rcases q9 with h|⟨b,h,hle⟩
        ·rw[h]at hq;exact .inl hq
        ·rw[h]at hq;cases hq;exact .inr hle
       have HB10:=Hh hb10;have HF10:=Hh hf10;have HO10:=Hh ho10;have HQ9:=Hh hq9;clear h9 f9 q9 k9 z9 hb10 hf10 ho10 hq9 c1 hpb8;obtain⟨w10,hw10⟩:∃w10,w10=w9.setCell ⟨pb,1,none⟩ (.slice (some ⟨g9,0,none⟩) (RS.length+1) p9):=⟨_,rfl⟩;rw[←hw10]at HB10 HF10 HO10;have c2:w10.cell? ⟨pb,2,none⟩=some (.slice ba' BV.length bc'):=by rw[cell_of_row w10 pb 2 _ _ _ HB10.out];rfl
       have hn10:w10.ownsRow 0 3 1 (.slice ba' BV.length bc') BV.length (BV.map encN):=za2 (za2 (za2 HA.out.born HF6'.out (fun q hq e=>(HDs.out.2.2.2.1 q hq).2 e)) HF8.out (fun q hq e=>by
        rcases e with e|e
        ·exact HDs.out.2.2.2.2.2.1 q e hq
        ·exact(HDs.out.2.2.2.1 q hq).1 e)) HF10.out (fun q hq e=>by
        rcases e with e|e
        ·exact HDs.out.2.2.2.2.2.2 q e hq
        ·exact(HDs.out.2.2.2.1 q hq).1 e)
       have hlb:BV.length<1000000000:=by rw[HA.out.lenB];exact Hn.out
       have HN10:=Hh hn10;clear hn10;go_upto_region 24 with fail;rw[←hw10];clear hw10 k90 z90;go_wp2_with (at_builtin;refine zc1 w10 rfl _ _ 42 rfl 0 3 (.int .i64 0) 8 Tryz.underlying42 za8 rfl (.slice ba' BV.length bc') BV.length (BV.map encN) rfl HN10.out (encN (za9 BV (za9 BV 0 l) r)) rfl rfl ?c1 (by decide) (Nat.zero_le _) ?_)
       case c1=>omega
       intro v11 w11 h11 f11 q11;obtain⟨g11,p11,rfl,_,hg11⟩:=zbg h11 (Nat.succ_pos _);obtain⟨k11,z11,hb12,hf12⟩:=zhp (i:=2) (u:=.slice (some ⟨g11,0,none⟩) (BV.length+1) p11) HB10.out f11 (fun e=>(HDs.out.2.2.2.1 pb e).1 rfl);have k110:w11.cell? ⟨pb,2,none⟩=some (.slice ba' BV.length bc'):=by rw[k11];rfl
       have z110:=z11 2;have hpb10:pb<w10.heap.size:=(Array.getElem?_eq_some_iff.1 HB10.out).1;have ho12:(w11.setCell ⟨pb,2,none⟩ (.slice (some ⟨g11,0,none⟩) (BV.length+1) p11)).ownsRow 0 3 1 (.slice (some ⟨g11,0,none⟩) (BV.length+1) p11) (BV.length+1) (BV.map encN ++ [encN (za9 BV (za9 BV 0 l) r)]):=za2 h11 (Fr.setCell (Fr.refl (fun q=>q=pb) w11) ⟨pb,2,none⟩ _ (fun _=>rfl)) (fun q hq e=>by
        subst e;rcases q11 with h|⟨b,h,hle⟩
        ·rw[h]at hq;exact(HDs.out.2.2.2.1 _ hq).1 rfl
        ·rw[h]at hq;cases hq;omega)
       have hq11:∀q,(Value.slice (some ⟨g11,0,none⟩) (BV.length+1) p11).ownBlock=some q→(Value.slice ba' BV.length bc').ownBlock=some q∨w10.heap.size≤q:=fun q hq=>by
        rcases q11 with h|⟨b,h,hle⟩
        ·rw[h]at hq;exact .inl hq
        ·rw[h]at hq;cases hq;exact .inr hle
       have HB12:=Hh hb12;have HF12:=Hh hf12;have HO12:=Hh ho12;have HQ11:=Hh hq11;clear h11 f11 q11 k11 z11 hb12 hf12 ho12 hq11 c2 hpb10;go_wp2;go_ret;have hbl:=HBl.out;have hp:za3 V BV L R=(V ++ [(l,r)],BV ++ [za9 BV (za9 BV 0 l) r],V.length):=by unfold za3;rw[←HLd.out,←HRd.out,if_neg HMem.out]
       rw[hp];refine⟨by rw[←hbl];rfl,?_⟩;have hb12:=HB12.out;exact znh HA0.out (HF2.out.trans HFr.out (fun _ _ q=>q)) HI1.out HI2.out HMs.out HDs.out (za2 H1.out (F2.out.trans HFr.out (fun _ _ q=>q)) (fun _ _ q=>q)) (zb2 (za2 H2.out HFr.out (fun _ _ q=>q)) F1.out.size) HF6'.out HMap6.out HF8.out HF10.out HF12.out hb12 HO8.out HO10.out HO12.out HQ7.out HQ9.out HQ11.out HMem.out
theorem zk8 {M I:Nat→Prop}(pb:Nat)(V:List PL)(BV L R:List Nat)(mo mc ms mn:Value)(b1 o1 c1 b2 o2 c2:Nat)(w:World)(hP:PoolS M I w pb V BV mo mc ms mn)(hL:Nats w (.slice (some ⟨b1,o1,none⟩) L.length c1) L)(hR:Nats w (.slice (some ⟨b2,o2,none⟩) R.length c2) R)
  (hLt:∀x∈L,x<V.length) (hRt:∀x∈R,x<V.length) (hl:L.length<1000000000) (hr:R.length<1000000000) (hn:V.length<1000000000) (hb:∀x∈BV,x<1000000000) :
  Calls Tryz.prog 15 #[.pointer (some ⟨pb,0,none⟩),.slice (some ⟨b1,o1,none⟩) L.length c1,.slice (some ⟨b2,o2,none⟩) R.length c2] w fun e w'=>e=.returned (.int .i64 ((za3 V BV L R).2.2:Nat)) ∧
   ∃M' I',PoolS M' I' w' pb (za3 V BV L R).1 (za3 V BV L R).2.1 mo mc ms mn/\(∀q,M' q→M q∨w.heap.size≤q)/\(∀q,I' q→I q∨w.heap.size≤q)/\Fr M w w' :=
 zv6 pb V BV L R mo mc ms mn (some ⟨b1,o1,none⟩) (some ⟨b2,o2,none⟩) c1 c2 w hP hL hR hLt hRt hl hr hn hb
end Go.Proofs.YtkofnbjjbcohgaaGreatDoor
