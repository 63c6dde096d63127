import Derived.Test.YtkofnbjjbcohgaaGreatDoorZw5
import Derived.Test.YtkofnbjjbcohgaaGreatDoorZwk
/- Lemmas. -/
namespace Go.Proofs.YtkofnbjjbcohgaaGreatDoor
set_option linter.unusedVariables false
set_option linter.unusedSimpArgs false
open Go.RowKit
theorem zxx (g:Nat)(W:World):(Instr.indexAt 50 (.slice (some ⟨g,0,none⟩) 2 2) (.int .i64 0)).run Tryz.prog W=.ok (.pointer (some ⟨g,0,none⟩)) W:=by go_simp
theorem zxv (g:Nat)(W:World):(Instr.indexAt 50 (.slice (some ⟨g,0,none⟩) 2 2) (.int .i64 1)).run Tryz.prog W=.ok (.pointer (some ⟨g,1,none⟩)) W:=by go_simp
structure Sides (wo W:World) (sb:Nat) (lv rv:Value) (VL VR:List Value) (FL FR:List (List PL)) (T:Nat→Prop):Prop where
 blk:W.heap[sb]?=some (.cells #[lv,rv] 49 (0,0))
 left:FRow wo.heap.size W lv VL FL T
 right:FRow wo.heap.size W rv VR FR T
 nl:∀q,lv.ownBlock=some q→q≠sb/\rv.ownBlock≠some q
 nr:∀q,rv.ownBlock=some q→q≠sb
 ge:wo.heap.size≤sb
 nt:∀q,T q→q≠sb
 fr:Fr NoM wo W
theorem Sides.pushL {wo W Wa W4:World}{sb:Nat}{lv rv v4 nv:Value}{VL VR:List Value}{FL FR:List (List PL)}{T:Nat→Prop}{Fm:List PL}(h:Sides wo W sb lv rv VL VR FL FR T)(ha:Fr NoM W Wa)
  (ho:W4.ownsRow wo.heap.size 27 1 v4 (VL.length+1) (VL ++ [nv])) (hf:Fr (Own1 lv) Wa W4) (hq:v4.ownBlock=lv.ownBlock∨∃b,v4.ownBlock=some b/\Wa.heap.size≤b) (hn:NodeL T encN W nv Fm) :
  Sides wo (W4.setCell ⟨sb,0,none⟩ v4) sb v4 rv (VL ++ [nv]) VR (FL ++ [Fm]) FR T:=by
 have hsb:sb<W.heap.size:=(Array.getElem?_eq_some_iff.1 h.blk).1;have hfa:Fr (Own1 lv) W W4:=ha.any.trans hf (fun q _ e=>e);have hne:¬Own1 lv sb:=fun e=>(h.nl sb e).1 rfl
 have hb4:=hfa.heap h.blk hne;have hset:=heap_set (i:=0) hb4 v4;have hs:Fr (fun q=>q=sb) W4 (W4.setCell ⟨sb,0,none⟩ v4):=Fr.set W4 ⟨sb,0,none⟩ v4;have hv4:∀q,v4.ownBlock=some q→lv.ownBlock=some q∨W.heap.size≤q:=fun q e=>by
  rcases hq with h1|⟨b,h1,h2⟩
  ·rw[h1]at e;exact .inl e
  ·rw[h1]at e;cases e;exact .inr (Nat.le_trans ha.size h2)
 have hv4s:∀q,v4.ownBlock=some q→q≠sb:=fun q e=>by
  rcases hv4 q e with h1|h1
  ·exact(h.nl q h1).1
  ·omega
 have hl:=h.left.snoc (Fm:=Fm) ha ho hf hq (hn.fr0 ha) (fun _ q=>q) (fun q hq=>⟨Nat.lt_of_lt_of_le (h.left.sep q hq).1 ha.size,(h.left.sep q hq).2⟩);refine⟨hset,hl.fr hs (fun q e=>hv4s q e) (fun q e=>h.nt q e),(h.right.fr hfa (fun q e e'=>(h.nl q e').2 e) (fun q hT e'=>(h.left.sep q hT).2 e')).fr hs (fun q e=>h.nr q e) (fun q e=>h.nt q e),fun q e=>⟨hv4s q e,fun e'=>?_⟩,h.nr,h.ge,h.nt,?_⟩
 ·rcases hv4 q e with h1|h1
  ·exact(h.nl q h1).2 e'
  ·have:=(h.right.row.lt q e').2;omega
 ·refine(h.fr.trans hfa (fun q hq e=>?_)).setCell _ _ (fun hlt=>?_)
  ·have:=(h.left.row.lt q e).1;omega
  ·have:=h.ge
   have hlt:sb<wo.heap.size:=hlt;omega
theorem Sides.pushR {wo W Wa W4:World}{sb:Nat}{lv rv v4 nv:Value}{VL VR:List Value}{FL FR:List (List PL)}{T:Nat→Prop}{Fm:List PL}(h:Sides wo W sb lv rv VL VR FL FR T)(ha:Fr NoM W Wa)
  (ho:W4.ownsRow wo.heap.size 27 1 v4 (VR.length+1) (VR ++ [nv])) (hf:Fr (Own1 rv) Wa W4) (hq:v4.ownBlock=rv.ownBlock∨∃b,v4.ownBlock=some b/\Wa.heap.size≤b) (hn:NodeL T encN W nv Fm) :
  Sides wo (W4.setCell ⟨sb,1,none⟩ v4) sb lv v4 VL (VR ++ [nv]) FL (FR ++ [Fm]) T:=by
 have hsb:sb<W.heap.size:=(Array.getElem?_eq_some_iff.1 h.blk).1;have hfa:Fr (Own1 rv) W W4:=ha.any.trans hf (fun q _ e=>e);have hne:¬Own1 rv sb:=fun e=>h.nr sb e rfl
 have hb4:=hfa.heap h.blk hne;have hset:=heap_set (i:=1) hb4 v4;have hs:Fr (fun q=>q=sb) W4 (W4.setCell ⟨sb,1,none⟩ v4):=Fr.set W4 ⟨sb,1,none⟩ v4;have hv4:∀q,v4.ownBlock=some q→rv.ownBlock=some q∨W.heap.size≤q:=fun q e=>by
  rcases hq with h1|⟨b,h1,h2⟩
  ·rw[h1]at e;exact .inl e
  ·rw[h1]at e;cases e;exact .inr (Nat.le_trans ha.size h2)
 have hv4s:∀q,v4.ownBlock=some q→q≠sb:=fun q e=>by
  rcases hv4 q e with h1|h1
  ·exact h.nr q h1
  ·omega
 have hl:=h.right.snoc (Fm:=Fm) ha ho hf hq (hn.fr0 ha) (fun _ q=>q) (fun q hq=>⟨Nat.lt_of_lt_of_le (h.right.sep q hq).1 ha.size,(h.right.sep q hq).2⟩);refine⟨hset,(h.left.fr hfa (fun q e e'=>(h.nl q e).2 e') (fun q hT e'=>(h.right.sep q hT).2 e')).fr hs (fun q e=>(h.nl q e).1) (fun q e=>h.nt q e),hl.fr hs (fun q e=>hv4s q e) (fun q e=>h.nt q e),fun q e=>⟨(h.nl q e).1,fun e'=>?_⟩,hv4s,h.ge,h.nt,?_⟩
 ·rcases hv4 q e' with h1|h1
  ·exact(h.nl q e).2 h1
  ·have:=(h.left.row.lt q e).2;omega
 ·refine(h.fr.trans hfa (fun q hq e=>?_)).setCell _ _ (fun hlt=>?_)
  ·have:=(h.right.row.lt q e).1;omega
  ·have:=h.ge
   have hlt:sb<wo.heap.size:=hlt;omega
theorem NodeL.lowB {R:Nat→Prop}{w:World}{v:Value}{FN:List PL}(h:NodeL R encN w v FN):NodeL (fun q=>R q/\q<w.heap.size) encN w v FN:=by
 obtain⟨a,c,rfl,h1,h2,h3⟩:=h;refine⟨a,c,rfl,h1,h2,fun j y hy=>?_⟩;obtain⟨b,off,lv,rv,ha,hb,c1,c2,s1,s2,r1,r2⟩:=h3 j y hy;refine⟨b,off,lv,rv,ha,⟨hb,World.block_lt_of_cell? w _ c1⟩,c1,c2,s1,s2,fun hne q hq=>⟨r1 hne q hq,?_⟩,fun hne q hq=>⟨r2 hne q hq,?_⟩⟩
 ·obtain⟨b',hb',hl⟩:=s1.block hne;rw[hq]at hb';cases hb';exact hl
 ·obtain⟨b',hb',hl⟩:=s2.block hne;rw[hq]at hb';cases hb';exact hl
theorem zgd {w:World}{b:Nat}{v1:Value}{e:TypeId}(h:w.heap[b]?=some (.cells #[v1] e (0,0))):w.cell? ⟨b,0,none⟩=some v1/\w.frozen? ⟨b,0,none⟩=false :=
 ⟨by rw[cell_of_row w b 0 _ _ _ h];rfl,by simp[World.frozen?,h]⟩
theorem zvi (b:List Bool)(n:Nat)(hn:n≤24):GoodF (stF b (n+1)) :=
 zp5 (zo1 b n hn) (fun j y hy=>by
  obtain⟨_,rfl⟩:=zrz b _ j y hy;exact zcq b j)
set_option maxRecDepth 4000 in
set_option maxHeartbeats 8000000 in
theorem zi8 (s:ByteArray)(w:World)(hs:s.size<1000000000)(g:Bool)(hg:g=true↔zcb s/\s.size≤16) :
  Calls Tryz.prog 7 #[.string s] w fun e w'=>∃v',e=.returned (.tuple #[.agg #[v'],.bool g])/\NodeL (fun b=>w.heap.size≤b) encN w' v' (if g then stF (zf6 s) (s.size+1)else [])/\Fr NoM w w':=by
 obtain⟨w1,hw1⟩:∃w1,w1=w.alloc (.cells #[.slice none 0 0] 27):=⟨_,rfl⟩;have hf1:Fr NoM w w1:=by rw[hw1];exact(Fr.refl NoM w).alloc _
 have hb1:w1.heap[w.heap.size]?=some (.cells #[.slice none 0 0] 27 (0,0)):=by rw[hw1];exact heap_alloc_new w _
 have hs1:w1.heap.size=w.heap.size+1:=by rw[hw1];simp
 have HK:=Hh (fun(W:World) (f:Fr NoM w1 W)=>show W.cell? ⟨w.heap.size,0,none⟩=some (.slice none 0 0)/\W.frozen? ⟨w.heap.size,0,none⟩=false from by
  have hb:=f.heap hb1 (fun q=>q);exact⟨by rw[cell_of_row W _ 0 _ _ _ hb];rfl,by simp[World.frozen?,hb]⟩)
 have HF1:=Hh hf1;have HS1:=Hh hs1;have HG:=Hh hg;have HSig:=Hh (zie s w1 hs g hg);clear hf1 hb1 hs1 hg;go_enter Tryz.func7,Tryz.ntmps7;go_wp2_with fail;rw[←hw1];clear hw1;refine HSig.out.mono ?_
 rintro e w' ⟨rfl,rfl⟩;cases g with
 | false =>
  obtain⟨k1,z1⟩:=HK.out w' (Fr.refl _ _);go_wp2;refine bodyPost_ret (v:=.tuple #[.agg #[.slice none 0 0],.bool false]) (by simp[results,Tryz.results7,go_sem,k1]) rfl ?_
  exact⟨_,rfl,⟨none,0,rfl,Nat.le_refl _,by decide,by simp⟩,HF1.out.setCell _ _ (fun h=>absurd h (Nat.lt_irrefl _))⟩
 | true =>
  obtain⟨hmk,h16⟩:=HG.out.1 rfl;obtain⟨w1,rfl⟩:∃w1,w1=w':=⟨_,rfl⟩;have HMk:=Hh hmk;have hsl:s.data.toList.length=s.size:=by rw[Array.length_toList];rfl
  have HSl:=Hh hsl;have HH16:=Hh h16;clear hmk hsl hs;obtain⟨bits,hbits⟩:∃b,b=zf6 s:=⟨_,rfl⟩;have HBits:=Hh hbits;clear hbits;go_wp2_with fail;refine(zr5 w1).mono ?_
  rintro e w2 ⟨v0,rfl,n0,f0⟩;obtain⟨a0,c0,rfl,z⟩:=id n0;clear z;have hz:stF bits 1=[([],[])]:=rfl;have HN0:=Hh n0;have HF0:=Hh f0;clear n0 f0;go_wp2_with fail;obtain⟨w3,hw3⟩:∃w3,w3=w2.alloc (.cells #[.slice a0 1 c0] 27):=⟨_,rfl⟩;have hfrow:FRow w1.heap.size w3 (.slice (some ⟨w2.heap.size,0,none⟩) 1 1) [.slice a0 1 c0] [stF bits 1] (fun q=>w1.heap.size≤q/\q<w2.heap.size):=by
   rw[hw3];refine⟨⟨rfl,.inr ⟨w2.heap.size,1,#[.slice a0 1 c0],rfl,HF0.out.size,heap_alloc_new w2 _,Nat.le_refl _,by decide,rfl,rfl⟩⟩,rfl,fun j nv Fm h1 h2=>?_,fun q hq=>⟨by simp;omega,fun e=>by have e:w2.heap.size=q:=Option.some.inj e;omega⟩⟩;cases j with
   | zero =>
    have e1:Value.slice a0 1 c0=nv:=by simpa using h1
    have e2:stF bits 1=Fm:=by simpa using h2
    subst e1;subst e2;rw[hz];have hl:NodeL (fun q=>w1.heap.size≤q/\q<w2.heap.size) encN w2 (.slice a0 1 c0) [([],[])]:=by
     obtain⟨a,c,e,h1,h2,h3⟩:=HN0.out;obtain⟨a',c',e',_,_,h3'⟩:=HN0.out.low;refine⟨a,c,e,h1,h2,fun j y hy=>?_⟩;obtain⟨b,off,lv,rv,ha,hb,c1,c2,s1,s2,r1,r2⟩:=h3 j y hy;have hy2:y=([],[]):=by
      cases j with
      | zero=>simpa using hy.symm
      | succ j=>simp at hy
     subst hy2;exact⟨b,off,lv,rv,ha,⟨hb,World.block_lt_of_cell? w2 _ c1⟩,c1,c2,s1,s2,fun h=>absurd rfl h,fun h=>absurd rfl h⟩
    exact hl.fr0 ((Fr.refl NoM w2).alloc _)
   | succ j=>simp at h1
  have hf3:Fr NoM w1 w3:=by rw[hw3];exact HF0.out.alloc _
  rw[←hw3];have HRow:=Hh hfrow;have HF3:=Hh hf3;clear hfrow hf3 hw3 hz;go_loopw [4,5] (fun v4 i W=>∃(n:Nat) (VS:List Value) (v:Value) (T:Nat→Prop),v=v4/\i=.int .i64 n/\1≤n/\n≤s.size+1/\FRow w1.heap.size W v VS ((List.range n).map fun k=>stF bits (k+1)) T/\(∀q,T q→w1.heap.size≤q)/\Fr NoM w1 W) (fun _ i _=>s.size+1-(intOf i).toNat)
  case atStart=>exact⟨1,_,_,_,rfl,rfl,Nat.le_refl _,by omega,HRow.out,fun q hq=>hq.1,HF3.out⟩
  case round =>
   obtain⟨n,VS,v,T,rfl,rfl,hn1,hn2,hrow,hT,hfr⟩:=hrel;obtain⟨wo,rfl⟩:∃wo,wo=wr:=⟨_,rfl⟩;obtain⟨a,c,rfl,hcell⟩:=hrow.cell;have hvl:VS.length=n:=by rw[hrow.len];simp
   have HRowO:=Hh hrow;have HT:=Hh hT;have HFrO:=Hh hfr;have HVl:=Hh hvl;have HN1:=Hh hn1;have HN2:=Hh hn2;have HCell:=Hh (fun(W:World) (f:Fr NoM wo W) (k:Nat) (hk:k<n)=>show ∃b off an cn,a=some ⟨b,off,none⟩/\W.cell? ⟨b,off+k,none⟩=some (.slice an (k+1) cn)/\VS[k]?=some (.slice an (k+1) cn)/\NodeL T encN W (.slice an (k+1) cn) (stF bits (k+1))from by
    obtain⟨nv,hnv⟩:∃nv,VS[k]?=some nv:=⟨VS[k]'(by rw[hvl];exact hk),List.getElem?_eq_getElem _⟩;obtain⟨b,off,ha,hc⟩:=hcell k nv hnv;have hN:=hrow.nodes k nv (stF bits (k+1)) hnv (by rw[List.getElem?_map,rget,if_pos hk];rfl);obtain⟨an,cn,e,z⟩:=id hN;rw[zae]at e;subst e;exact⟨b,off,an,cn,ha,f.cell hc (fun q=>q),hnv,hN.fr0 f⟩)
   clear hrow hT hfr hcell;by_cases hlt:n≤s.size
   ·rw[hvl]
    go_wp2_with fail;obtain⟨w5,hw5⟩:∃w5,w5=((wo.alloc (.cells #[] 27)).alloc (.cells #[] 27)).alloc (.cells #[.slice (some ⟨wo.heap.size,0,none⟩) 0 0,.slice (some ⟨wo.heap.size+1,0,none⟩) 0 0] 49):=⟨_,rfl⟩;obtain⟨sb,hsb⟩:∃sb,sb=wo.heap.size+1+1:=⟨_,rfl⟩;have hsd:Sides wo w5 sb (.slice (some ⟨wo.heap.size,0,none⟩) 0 0) (.slice (some ⟨wo.heap.size+1,0,none⟩) 0 0) [] [] [] [] T:=by
     have hTl:∀q,T q→q<wo.heap.size:=fun q hq=>(HRowO.out.sep q hq).1
     have m1:=FRow.made wo T hTl;have m2:=FRow.made (wo.alloc (.cells #[] 27)) T (fun q hq=>by have:=hTl q hq;simp;omega);rw[World.size_alloc]at m2;rw[hw5];refine⟨?_,(m1.fr0 ((Fr.refl NoM _).alloc _)).fr0 ((Fr.refl NoM _).alloc _),?_,fun q e=>?_,fun q e=>?_,by omega,fun q hq=>by have:=hTl q hq;omega,(((Fr.refl NoM wo).alloc _).alloc _).alloc _⟩
     ·have h:=heap_alloc_new ((wo.alloc (.cells #[] 27)).alloc (.cells #[] 27)) (.cells #[.slice (some ⟨wo.heap.size,0,none⟩) 0 0,.slice (some ⟨wo.heap.size+1,0,none⟩) 0 0] 49)
      simp only[World.size_alloc]at h;rw[hsb];exact h
     ·have h:=m2.fr0 ((Fr.refl NoM _).alloc (.cells #[.slice (some ⟨wo.heap.size,0,none⟩) 0 0,.slice (some ⟨wo.heap.size+1,0,none⟩) 0 0] 49))
      exact⟨zb2 h.row (by omega),h.len,h.nodes,h.sep⟩
     ·have e:wo.heap.size=q:=Option.some.inj e
      exact⟨by omega,fun e'=>by have e':wo.heap.size+1=q:=Option.some.inj e';omega⟩
     ·have e:wo.heap.size+1=q:=Option.some.inj e
      omega
    rw[←hw5,←hsb];have HSd:=Hh hsd;clear hsd hw5 hsb;have ix0:=zxx sb;have ix1:=zxv sb;go_loopw [7] (fun i W=>∃(k:Nat) (lv rv:Value),i=.int .i64 k/\k≤n/\Sides wo W sb lv rv ((goL bits k).map fun j=>VS.getD j (.slice none 0 0)) ((goR bits k).map fun j=>VS.getD j (.slice none 0 0)) ((goL bits k).map fun j=>stF bits (j+1)) ((goR bits k).map fun j=>stF bits (j+1)) T) (fun i _=>n-(intOf i).toNat)
    case atStart=>exact⟨0,_,_,rfl,Nat.zero_le _,HSd.out⟩
    case round =>
     obtain⟨k,lv,rv,rfl,hk,hsd⟩:=hrel;obtain⟨w7,rfl⟩:∃w7,w7=wr:=⟨_,rfl⟩;have O1:lv.oneCell'=true:=by obtain⟨_,_,rfl,_⟩:=hsd.left.cell;rfl
     have O2:rv.oneCell'=true:=by obtain⟨_,_,rfl,_⟩:=hsd.right.cell;rfl
     have HSd7:=Hh hsd;clear hsd;by_cases hkn:k<n
     ·obtain⟨b,hb⟩:∃b,s.data.toList[k]?=some b:=⟨_,List.getElem?_eq_getElem (by rw[HSl.out];omega)⟩
      have hrun:=zed s k b hb .i64 w7;have hbit:bits.getD k false=decide (b=76):=by rw[HBits.out];exact zf4 s k b hb
      have hb2:b=76∨b=82:=HMk.out b (List.mem_of_getElem? hb);obtain⟨fb,fo,an,cn,ha,c1,hvk,hnk⟩:=HCell.out w7 HSd7.out.fr k hkn;subst ha;have ixf:=zkc (some ⟨fb,fo,none⟩) n c k fb fo hkn rfl;have hgd:VS.getD k (.slice none 0 0)=.slice an (k+1) cn:=by rw[List.getD_eq_getElem?_getD,hvk];rfl
      have hTne:∀q,q<wo.heap.size→¬Own1 lv q/\¬Own1 rv q:=fun q hq=>⟨fun e=>by have:=(HSd7.out.left.row.lt q e).1;omega,fun e=>by have:=(HSd7.out.right.row.lt q e).1;omega⟩
      have hfbl:fb<wo.heap.size:=by
       obtain⟨fb2,fo2,_,_,ha2,c2,_⟩:=HCell.out wo (Fr.refl _ _) k hkn;cases ha2
       exact World.block_lt_of_cell? wo _ c2
      have hsbk:w7.cell? ⟨sb,0,none⟩=some lv/\w7.cell? ⟨sb,1,none⟩=some rv:=⟨by rw[cell_of_row w7 sb 0 _ _ _ HSd7.out.blk];rfl,by rw[cell_of_row w7 sb 1 _ _ _ HSd7.out.blk];rfl⟩;have hll:((goL bits k).map fun j=>VS.getD j (.slice none 0 0)).length≤k:=by rw[List.length_map];exact zp7 bits k
      have hlr:((goR bits k).map fun j=>VS.getD j (.slice none 0 0)).length≤k:=by rw[List.length_map];exact zp6 bits k
      obtain⟨VL,hVL⟩:∃x,x=((goL bits k).map fun j=>VS.getD j (.slice none 0 0)):=⟨_,rfl⟩;obtain⟨VR,hVR⟩:∃x,x=((goR bits k).map fun j=>VS.getD j (.slice none 0 0)):=⟨_,rfl⟩;rw[←hVL,←hVR]at HSd7;rw[←hVL]at hll;rw[←hVR]at hlr;have HNk:=Hh hnk;have HGd:=Hh hgd;have HB2:=Hh hb2;have HBit:=Hh hbit;have HVL:=Hh hVL;have HVR:=Hh hVR;have HLl:=Hh hll;have HLr:=Hh hlr;have F0:Fr NoM w7 w7.drew:=(Fr.refl NoM w7).drew;have HFd:=Hh F0;clear hb hnk hgd hb2 hbit hvk hVL hVR hll hlr F0;by_cases h76:b=76
      ·subst h76
       have hne:¬Own1 lv sb:=fun e=>(HSd7.out.nl sb e).1 rfl
       have cs:=hsbk.1;have zs:w7.frozen? ⟨sb,0,none⟩=false:=by simp[World.frozen?,HSd7.out.blk]
       have csa:∀o,(w7.alloc o).cell? ⟨sb,0,none⟩=some lv:=fun o=>((Fr.refl NoM w7).alloc o).cell cs (fun q=>q)
       have cfa:∀o,(w7.alloc o).cell? ⟨fb,fo+k,none⟩=some (.slice an (k+1) cn):=fun o=>((Fr.refl NoM w7).alloc o).cell c1 (fun q=>q)
       have HNe:=Hh hne;clear hsbk hTne hne;go_upto_region 12 with fail;go_region_law (first
        | (refine zhf rfl (.tmp 36) (.tmp 41) 49 rfl wo.heap.size 27 _ 1 24 Tryz.underlying49 zke rfl (by decide) lv VL.length VL rfl (by exact za2 HSd7.out.left.row (((Fr.refl NoM w7).alloc (.cells #[.slice an (k+1) cn] 27)).drew) (fun _ _ q=>q)) w7.heap.size rfl [.slice an (k+1) cn] 27 (by exact heap_alloc_new w7 _) rfl (by intro u hu;simp at hu;subst hu;rfl) (by have:=HLl.out;omega) (by decide) (by exact Nat.le_trans HSd7.out.fr.size ((Fr.refl NoM w7).alloc (.cells #[.slice an (k+1) cn] 27)).size) ?_;intro v4 w4 h4 f4 q4;obtain⟨g4,c4,rfl,z3,z4⟩:=zbg h4 (Nat.succ_pos _);clear z3 z4;have f4':Fr (Own1 lv) w7 w4:=Fr.trans ((Fr.refl (Own1 lv) w7).alloc _).drew f4 (fun _ _ q=>q);have cb4:=f4'.cell cs HNe.out;have zb4:w4.frozen? ⟨sb,0,none⟩=false:=(by simp[World.frozen?,f4'.heap HSd7.out.blk HNe.out]))
        | fail)
       all_goals
        have H4:=Hh (HSd7.out.pushL (((Fr.refl NoM w7).alloc (.cells #[.slice an (k+1) cn] 27)).drew) h4 f4 (by first|exact q4|(rw[World.size_alloc];exact q4)) HNk.out);clear h4 f4 q4 f4' cb4 zb4 cs zs csa cfa;go_wp2;go_roundw
        case rel =>
         refine⟨k+1,.slice (some ⟨g4,0,none⟩) (VL.length+1) c4,rv,by go_num,by omega,?_⟩;have h:=H4.out;have e1:bits.getD k false=true:=by rw[HBit.out];rfl
         rw[zh4,zh3,if_pos e1,if_pos e1,List.map_append,List.map_append,List.map_cons,List.map_nil,List.map_cons,List.map_nil,HGd.out,←HVL.out,←HVR.out];exact h
        case measure=>simp[intOf];omega
      ·have h82:b=82:=HB2.out.resolve_left h76
       subst h82;have hne:¬Own1 rv sb:=fun e=>HSd7.out.nr sb e rfl
       have cs:=hsbk.2;have zs:w7.frozen? ⟨sb,1,none⟩=false:=by simp[World.frozen?,HSd7.out.blk]
       have csa:∀o,(w7.alloc o).cell? ⟨sb,1,none⟩=some rv:=fun o=>((Fr.refl NoM w7).alloc o).cell cs (fun q=>q)
       have cfa:∀o,(w7.alloc o).cell? ⟨fb,fo+k,none⟩=some (.slice an (k+1) cn):=fun o=>((Fr.refl NoM w7).alloc o).cell c1 (fun q=>q)
       have HNe:=Hh hne;clear hsbk hTne hne;go_upto_region 13 with fail;go_region_law (first
        | (refine zhf rfl (.tmp 47) (.tmp 52) 49 rfl wo.heap.size 27 _ 1 24 Tryz.underlying49 zke rfl (by decide) rv VR.length VR rfl (by exact za2 HSd7.out.right.row (((Fr.refl NoM w7).alloc (.cells #[.slice an (k+1) cn] 27)).drew) (fun _ _ q=>q)) w7.heap.size rfl [.slice an (k+1) cn] 27 (by exact heap_alloc_new w7 _) rfl (by intro u hu;simp at hu;subst hu;rfl) (by have:=HLr.out;omega) (by decide) (by exact Nat.le_trans HSd7.out.fr.size ((Fr.refl NoM w7).alloc (.cells #[.slice an (k+1) cn] 27)).size) ?_;intro v4 w4 h4 f4 q4;obtain⟨g4,c4,rfl,z3,z4⟩:=zbg h4 (Nat.succ_pos _);clear z3 z4;have f4':Fr (Own1 rv) w7 w4:=Fr.trans ((Fr.refl (Own1 rv) w7).alloc _).drew f4 (fun _ _ q=>q);have cb4:=f4'.cell cs HNe.out;have zb4:w4.frozen? ⟨sb,1,none⟩=false:=(by simp[World.frozen?,f4'.heap HSd7.out.blk HNe.out]))
        | fail)
       all_goals
        have H4:=Hh (HSd7.out.pushR (((Fr.refl NoM w7).alloc (.cells #[.slice an (k+1) cn] 27)).drew) h4 f4 (by first|exact q4|(rw[World.size_alloc];exact q4)) HNk.out);clear h4 f4 q4 f4' cb4 zb4 cs zs csa cfa;go_wp2;go_roundw
        case rel =>
         refine⟨k+1,lv,.slice (some ⟨g4,0,none⟩) (VR.length+1) c4,by go_num,by omega,?_⟩;have h:=H4.out;have e1:bits.getD k false≠true:=by rw[HBit.out];decide
         rw[zh4,zh3,if_neg e1,if_neg e1,List.map_append,List.map_append,List.map_cons,List.map_nil,List.map_cons,List.map_nil,HGd.out,←HVL.out,←HVR.out];exact h
        case measure=>simp[intOf];omega
     ·have hkn':k=n:=by omega
      have hsd:=HSd7.out;rw[hkn']at hsd;have hn16:n≤16:=by have:=HN2.out;have:=HH16.out;omega
      have hgoL:∀(G:List Nat),(G.map fun j=>VS.getD j (.slice none 0 0)).length=G.length:=fun G=>by simp
      have gf:∀(G:List Nat),(∀j∈G,j<n)→∀Fm∈G.map (fun j=>stF bits (j+1)),GoodF Fm:=fun G hG Fm hF=>by
       obtain⟨j,hj,rfl⟩:=List.mem_map.1 hF;exact zvi bits j (by have:=hG j hj;omega)
      have HMk:=Hh (fun(W:World) (f:Fr NoM w7 W)=>zr8 lv rv ((goL bits n).map fun j=>stF bits (j+1)) ((goR bits n).map fun j=>stF bits (j+1)) W (hsd.left.fr0 f).forms (hsd.right.fr0 f).forms (gf _ (zcq bits n).1) (gf _ (zcq bits n).2) (by rw[List.length_map];have:=zp7 bits n;omega) (by rw[List.length_map];have:=zp6 bits n;omega));have HSS:=Hh (fun(W:World) (f:Fr NoM w7 W)=>(⟨f.cell (show w7.cell? ⟨sb,0,none⟩=some lv by rw[cell_of_row w7 sb 0 _ _ _ hsd.blk];rfl) (fun q=>q),f.cell (show w7.cell? ⟨sb,1,none⟩=some rv by rw[cell_of_row w7 sb 1 _ _ _ hsd.blk];rfl) (fun q=>q)⟩:W.cell? ⟨sb,0,none⟩=some lv/\W.cell? ⟨sb,1,none⟩=some rv));have HMs:=Hh (show zm9 ((goL bits n).map fun j=>stF bits (j+1)) ((goR bits n).map fun j=>stF bits (j+1))=stF bits (n+1)from zva bits n);have HF7:=Hh hsd.fr;clear hsd gf hgoL hn16 hkn';go_upto_region 14 with fail;go_cut [8]from 15 to 69 (fun x wx=>∃(b:Nat) (v:Value),x=.pointer (some ⟨b,0,none⟩)/\wx.heap[b]?=some (.cells #[v] 27 (0,0))/\w7.heap.size≤b/\NodeL (fun q=>w7.heap.size≤q) encN wx v (stF bits (n+1))/\Fr NoM w7 wx)
      case first =>
       have F0:Fr NoM w7 w7.drew:=(Fr.refl NoM w7).drew;have hs:=HSS.out w7 (Fr.refl NoM w7);go_region_held3 (fun(W:World)=>W.cell? ⟨sb,0,none⟩=some lv/\W.cell? ⟨sb,1,none⟩=some rv)
        (first|exact HSS.out _ (by assumption)|exact HSS.out _ (Fr.alloc (by assumption) _)|exact HSS.out _ (Fr.setCell (by assumption) _ _ (fun h=>absurd h (Nat.not_lt.2 (by first|exact Fr.size (by assumption)|exact Nat.le_refl _)))))
        (first
         | (go_at_call 19;(with_reducible refine(HMk.out _ (by first|assumption|exact Fr.alloc (by assumption) _|exact Fr.drew (Fr.alloc (Fr.refl NoM _) _))).mono ?_);rintro e w8 ⟨v8,rfl,n8,f8⟩;have f8':Fr NoM w7 w8:=(by first|exact Fr.trans (by assumption) f8 (fun _ _ q=>q)|exact Fr.trans (Fr.alloc (by assumption) _) f8 (fun _ _ q=>q)|exact Fr.trans (Fr.drew (Fr.alloc (Fr.refl NoM _) _)) f8 (fun _ _ q=>q));obtain⟨a8,c8,rfl,z8⟩:=id n8;clear z8;(first|have hx:=Fr.heap f8 (heap_alloc_new _ _) (fun q=>q)|skip);(first|have hc0:=(zgd hx).1|skip);(first|have hz0:=(zgd hx).2|skip))
         | fail)
       all_goals
        go_wp2_with fail;go_meet
        case rel =>
         refine⟨_,.slice a8 (zm9 ((goL bits n).map fun j=>stF bits (j+1)) ((goR bits n).map fun j=>stF bits (j+1))).length c8,rfl,?_,?_,?_,?_⟩
         ·first|exact heap_alloc_new w8 _|exact heap_set (i:=0) hx _
         ·first|exact f8'.size|exact Nat.le_refl _
         ·rw[←HMs.out]
          first
           | exact(n8.fr0 ((Fr.refl NoM w8).alloc _)).mono (fun q hq=>Nat.le_trans (Nat.le_refl _) hq)
           | exact(n8.fr (Fr.set w8 ⟨w7.heap.size,0,none⟩ _) (fun q hq e=>by have e:q=w7.heap.size:=e;simp at hq;omega)).mono (fun q hq=>by simp at hq;omega)
         ·first|exact f8'.alloc _|exact f8'.setCell _ _ (fun h=>absurd h (Nat.lt_irrefl _))
      case rest =>
       obtain⟨b8,v8,rfl,hb8,hlo8,hn8,hf8⟩:=hcut;obtain⟨w12,rfl⟩:∃w12,w12=wc:=⟨_,rfl⟩;obtain⟨a8,c8,rfl,z8⟩:=id hn8;rw[zae]at hb8 hn8;have h8c:=(zgd hb8).1;have hgd:zeb (i2 (stF bits (n+1))):=zt8 bits n (by have:=HN2.out;have:=HH16.out;omega);have HGd:=Hh hgd;have Hlo8:=Hh hlo8;have HN8:=Hh hn8;have HF8:=Hh hf8;have Hb8:=Hh hb8;clear z8 hgd hlo8 hn8 hf8 hb8;go_wp2_with fail;refine(zmk _ (i2 (stF bits (n+1))) w12 HN8.out.toI).mono ?_
       rintro e w13 ⟨g13,rfl,hg13,f13⟩;have hgt:=hg13.2 HGd.out;subst hgt;have k13:=f13.cell h8c (fun q=>q);have HF13:=Hh f13;clear hg13 h8c f13;have F07:=Hh (HF7.out.trans (HF8.out.trans HF13.out (fun _ _ q=>q)) (fun _ _ q=>q));go_wp2_with (at_builtin;refine zh9 rfl (.tmp 66) (.tmp 68) 49 rfl w1.heap.size 27 _ 1 24 Tryz.underlying49 zke rfl (by decide) (.slice a n c) n VS rfl (by have h:=za2 HRowO.out.row (F07.out.alloc (.cells #[.slice a8 (n+1) c8] 27)) (fun _ _ q=>q);rw[HVl.out]at h;exact h) w13.heap.size rfl [.slice a8 (n+1) c8] 27 (heap_alloc_new w13 _) rfl (by intro u hu;simp at hu;subst hu;rfl) (by have:=HN2.out;have:=HH16.out;omega) (by decide) (by have:=HFrO.out.size;have:=F07.out.size;rw[World.size_alloc];omega) ?_);intro v14 w14 h14 f14 q14;have hrow:=HRowO.out.fr0 F07.out;rw[HVl.out]at hrow;have hT13:∀q,T q→q<wo.heap.size:=fun q hq=>(HRowO.out.sep q hq).1
       have s7:=HF7.out.size;have s8:=HF8.out.size;have s13:=HF13.out.size;have hvlt:∀q,(Value.slice a n c).ownBlock=some q→q<wo.heap.size:=fun q e=>(HRowO.out.row.lt q (by rw[HVl.out];exact e)).2
       have hsn:=hrow.snoc (Wa:=w13.alloc (.cells #[.slice a8 (n+1) c8] 27)) (T':=fun q=>T q∨w7.heap.size≤q/\q<w12.heap.size) (Fm:=stF bits (n+1)) ((Fr.refl NoM w13).alloc _) (by rw[HVl.out];exact h14) f14 (by rw[World.size_alloc];exact q14)
        (((HN8.out.lowB).fr0 HF13.out).fr0 ((Fr.refl NoM w13).alloc _) |>.mono fun q hq=>.inr hq) (fun q hq=>.inl hq) (fun q hq=>by
         rw[World.size_alloc];rcases hq with hq|hq
         ·have:=hT13 q hq
          exact⟨by omega,(hrow.sep q hq).2⟩
         ·exact⟨by omega,fun e=>by have:=hvlt q e;omega⟩)
       have HSn:=Hh hsn;have HF14:=Hh f14;clear hsn hrow hT13 hvlt s7 s8 s13 h14 f14 q14 k13;go_wp2;go_roundw
       case rel =>
        refine⟨n+1,VS ++ [.slice a8 (n+1) c8],v14,(fun q=>T q∨w7.heap.size≤q/\q<w12.heap.size),rfl,by go_num,by omega,by omega,?_,fun q hq=>?_,?_⟩
        ·rw[List.range_succ,List.map_append];exact HSn.out
        ·rcases hq with hq|hq
         ·exact HT.out q hq
         ·have:=HFrO.out.size;have:=HF7.out.size;omega
        ·refine((HFrO.out.trans F07.out (fun _ _ q=>q)).alloc _).trans HF14.out (fun q hq e=>?_)
         have:=(HRowO.out.row.lt q (by rw[HVl.out];exact e)).1;omega
       case measure=>simp[intOf];omega
   ·have hne:n=s.size+1:=by have:=HN2.out;omega
    subst hne;obtain⟨fb,fo,an,cn,ha,c1,hvk,hnk⟩:=HCell.out wo (Fr.refl _ _) s.size (Nat.lt_succ_self _);subst ha;have ixf:=zkc (some ⟨fb,fo,none⟩) (s.size+1) c s.size fb fo (Nat.lt_succ_self _) rfl;obtain⟨k1,z1⟩:=HK.out wo HFrO.out;have HNk:=Hh hnk;rw[hvl];clear hnk hvk;go_wp2;refine bodyPost_ret (v:=.tuple #[.agg #[.slice an (s.size+1) cn],.bool true]) (by simp[results,Tryz.results7,go_sem,k1]) rfl ?_
    refine⟨_,rfl,?_,(HF1.out.trans HFrO.out (fun _ _ q=>q)).setCell _ _ (fun h=>absurd h (Nat.lt_irrefl _))⟩;show NodeL _ _ _ _ (stF (zf6 s) (s.size+1))
    rw[←HBits.out];have h1:=HS1.out;exact(HNk.out.fr (Fr.set wo ⟨w.heap.size,0,none⟩ (.slice an (s.size+1) cn)) (fun q hq e=>by have e:q=w.heap.size:=e;have:=HT.out q hq;omega)).mono (fun q hq=>by have:=HT.out q hq;omega)
end Go.Proofs.YtkofnbjjbcohgaaGreatDoor
