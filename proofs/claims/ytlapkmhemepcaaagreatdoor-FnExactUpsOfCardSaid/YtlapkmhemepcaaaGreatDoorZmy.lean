import Derived.Test.YtlapkmhemepcaaaGreatDoorZma
/- Lemmas. -/
namespace Go.Proofs.YtlapkmhemepcaaaGreatDoor
set_option linter.unusedVariables false
set_option linter.unusedSimpArgs false
open Go.RowKit
theorem NodeL.low {α:Type}{R:Nat→Prop}{enc:α→Value}{w:World}{v:Value}{NL:List (List α × List α)}(h:NodeL R enc w v NL):NodeL (· < w.heap.size) enc w v NL:=by
 obtain⟨a,c,rfl,h1,h2,h3⟩:=h;refine⟨a,c,rfl,h1,h2,fun j y hy=>?_⟩;obtain⟨b,off,lv,rv,ha,hb,c1,c2,s1,s2,r1,r2⟩:=h3 j y hy;refine⟨b,off,lv,rv,ha,World.block_lt_of_cell? w _ c1,c1,c2,s1,s2,fun hne q hq=>?_,fun hne q hq=>?_⟩
 ·obtain⟨b',hb',hl⟩:=s1.block hne;rw[hq]at hb';cases hb';exact hl
 ·obtain⟨b',hb',hl⟩:=s2.block hne;rw[hq]at hb';cases hb';exact hl
theorem BookS.made {w:World}{bb:Nat}(h:w.heap[bb]?=some (.cells #[.slice none 0 0,.slice none 0 0] 147 (0,0))):BookS (fun q=>q=bb) w bb [] [] :=
 ⟨.slice none 0 0,.slice none 0 0,[],⟨h,World.ownsRow_nil _ _ _ _,World.ownsRow_nil _ _ _ _,rfl,rfl,by simp,by simp[Value.ownBlock],by simp[Value.ownBlock],by simp[Value.ownBlock]⟩,fun k hk=>by
  rcases (zbf h).1 hk with h|h|h
  ·exact h
  ·simp[Value.ownBlock]at h
  ·simp[Value.ownBlock]at h,by intro j x y hx;simp at hx⟩
theorem SliceOf.unmap {α β:Type}{enc:α→Value}{enc':β→Value}{w:World}{v:Value}{L:List α}{f:α→β}(h:SliceOf enc' w v (L.map f))(hf:∀x,enc' (f x)=enc x):SliceOf enc w v L:=by
 obtain⟨a,c,rfl,h1,h2,h3⟩:=h;refine⟨a,c,by simp,by simpa using h1,h2,fun j x hx=>?_⟩;obtain⟨b,off,ha,hc⟩:=h3 j (f x) (by rw[List.getElem?_map,hx];rfl);exact⟨b,off,ha,by rw[←hf];exact hc⟩
theorem NodeL.toI {R:Nat→Prop}{w:World}{v:Value}{Fm:List PL}(h:NodeL R encN w v Fm):NodeL R encI w v (i2 Fm):=by
 obtain⟨a,c,rfl,h1,h2,h3⟩:=h;refine⟨a,c,by rw[zfy],by rw[zfy];exact h1,h2,fun j y hy=>?_⟩;obtain⟨x,hx,rfl⟩:=yb5 hy;obtain⟨b,off,lv,rv,ha,hb,c1,c2,s1,s2,r1,r2⟩:=h3 j x hx;exact⟨b,off,lv,rv,ha,hb,c1,c2,Nats.ints s1,Nats.ints s2,fun hne=>r1 (fun e=>hne (by rw[e];rfl)),fun hne=>r2 (fun e=>hne (by rw[e];rfl))⟩
theorem NodeL.ofI {R:Nat→Prop}{w:World}{v:Value}{Fm:List PL}(h:NodeL R encI w v (i2 Fm)):NodeL R encN w v Fm:=by
 obtain⟨a,c,rfl,h1,h2,h3⟩:=h;rw[zfy]at h1 ⊢;refine⟨a,c,rfl,h1,h2,fun j x hx=>?_⟩;obtain⟨b,off,lv,rv,ha,hb,c1,c2,s1,s2,r1,r2⟩:=h3 j (ints x.1,ints x.2) (by unfold i2;rw[List.getElem?_map,hx];rfl);have hne:∀L:List Nat,L≠[]→ints L≠[]:=fun L h e=>h (by unfold ints at e;simpa using e)
 exact⟨b,off,lv,rv,ha,hb,c1,c2,SliceOf.unmap s1 (fun _=>rfl),SliceOf.unmap s2 (fun _=>rfl),fun h=>r1 (hne _ h),fun h=>r2 (hne _ h)⟩
theorem ya4 {Fm:List PL}(h:zdh Fm=true)(ho:∀(j:Nat) (y:PL),Fm[j]?=some y→(∀i∈y.1,i<j)/\∀i∈y.2,i<j):GoodF Fm:=by
 obtain⟨h1,h2,h3⟩:=of_decide_eq_true h;exact⟨by omega,h1,ho,fun y hy=>by have:=h3 y hy;omega⟩
set_option maxRecDepth 4000 in
set_option maxHeartbeats 4000000 in
theorem zuk {R:Nat→Prop}(nv:Value)(Fi:List (List Int × List Int))(w:World)(h:NodeL R encI w nv Fi) :
  Calls Tryz.prog 72 #[.agg #[nv]] w fun e w'=>∃b,e=.returned (.bool b)/\(b=true↔zfh Fi)/\Fr NoM w w':=by
 have hN:=h.low;obtain⟨a,c,rfl,h1,h2,h3⟩:=id h;clear h h1 h2;obtain⟨w1,hw1⟩:∃w1,w1=w.alloc (.cells #[.slice a Fi.length c] 26):=⟨_,rfl⟩;have hf1:Fr NoM w w1:=by rw[hw1];exact(Fr.refl NoM w).alloc _
 have hb1:w1.heap[w.heap.size]?=some (.cells #[.slice a Fi.length c] 26 (0,0)):=by rw[hw1];exact heap_alloc_new w _
 have HK:=Hh (fun(W:World) (f:Fr NoM w1 W)=>show W.cell? ⟨w.heap.size,0,none⟩=some (.slice a Fi.length c)from by rw[cell_of_row W _ 0 _ _ _ (f.heap hb1 (fun q=>q))];rfl);have HRd:=Hh (fun(k:Nat) (hk:k<Fi.length) (W:World) (f:Fr NoM w1 W)=>show ∃b off al cl ar cr,a=some ⟨b,off,none⟩/\W.cell? ⟨b,off+k*2,none⟩=some (.slice al Fi[k].1.length cl)/\W.cell? ⟨b,off+k*2+1,none⟩=some (.slice ar Fi[k].2.length cr)/\Ints W (.slice al Fi[k].1.length cl) Fi[k].1/\Ints W (.slice ar Fi[k].2.length cr) Fi[k].2 from by
  obtain⟨b,off,lv,rv,ha,_,c1,c2,s1,s2,_,_⟩:=h3 k Fi[k] (List.getElem?_eq_getElem hk);have f0:=hf1.trans f (fun _ _ q=>q);have s1:=s1.fr0 f0;have s2:=s2.fr0 f0;obtain⟨al,cl,rfl,_⟩:=id s1;obtain⟨ar,cr,rfl,_⟩:=id s2;exact⟨b,off,al,cl,ar,cr,ha,f0.cell c1 (fun q=>q),f0.cell c2 (fun q=>q),s1,s2⟩)
 have HN:=Hh hN;have HF1:=Hh hf1;have HB1:=Hh hb1;have hk1:=HK.out w1 (Fr.refl _ _);clear hN hf1 hb1 h3;go_enter Tryz.func72,Tryz.ntmps72;go_wp2_with fail;rw[←hw1];clear hw1;refine(zum (.slice a Fi.length c) Fi w1 (HN.out.fr0 HF1.out)).mono ?_
 rintro e w2 ⟨rfl,f2⟩;have F2:=Hh f2;clear f2 hk1;cases hfit:zdh Fi with
 | false =>
  have HFit:=Hh hfit;clear hfit;go_wp2;go_ret;exact⟨false,rfl,⟨fun e=>(by cases e),fun e=>by have:=e.1;rw[HFit.out]at this;cases this⟩,HF1.out.trans F2.out (fun _ _ q=>q)⟩
 | true =>
  have HFit:=Hh hfit;clear hfit;go_wp2_with fail;go_loopw [3] (fun i W=>∃k:Nat,i=.int .i64 k/\k≤Fi.length/\risI Fi k/\Fr NoM w1 W) (fun i _=>Fi.length-(intOf i).toNat)
  case atStart=>exact⟨0,rfl,Nat.zero_le _,fun j y hj=>by omega,F2.out⟩
  case round =>
   obtain⟨k,rfl,hk,hris,hfr⟩:=hrel;obtain⟨w3,rfl⟩:∃w3,w3=wr:=⟨_,rfl⟩;have HRis:=Hh hris;have HFr:=Hh hfr;have HKl:=Hh hk;clear hris hfr hk;have k3:=HK.out w3 HFr.out;have hfl:Fi.length≤120:=(of_decide_eq_true HFit.out).1;by_cases hlt:k<Fi.length
   ·obtain⟨b,off,al,cl,ar,cr,ha,c1,c2,s1,s2⟩:=HRd.out k hlt w3 HFr.out
    subst ha;have ix:=zb9 (some ⟨b,off,none⟩) Fi.length c k b off hlt rfl;have hc1:=zik (.slice al Fi[k].1.length cl) Fi[k].1 0 ((k:Int)-1) w3 s1;obtain⟨b1,hb1⟩:∃b1,b1=zah 0 ((k:Int)-1) none Fi[k].1:=⟨_,rfl⟩;obtain⟨b2,hb2⟩:∃b2,b2=zah 0 ((k:Int)-1) none Fi[k].2:=⟨_,rfl⟩;have HC2:=Hh (fun(W:World) (f:Fr NoM w3 W)=>zik (.slice ar Fi[k].2.length cr) Fi[k].2 0 ((k:Int)-1) W (s2.fr0 f));rw[←hb1]at hc1;rw[←hb2]at HC2;have HCell:=Hh (fun(W:World) (f:Fr NoM w3 W)=>show W.cell? ⟨w.heap.size,0,none⟩=some (.slice (some ⟨b,off,none⟩) Fi.length c)/\W.cell? ⟨b,off+k*2+1,none⟩=some (.slice ar Fi[k].2.length cr)from⟨f.cell k3 (fun q=>q),f.cell c2 (fun q=>q)⟩);have HC1:=Hh hc1;have HB1':=Hh hb1;have HB2':=Hh hb2;clear hc1 hb1 hb2 s1 s2 c2;go_wp2_with fail;refine HC1.out.mono ?_
    rintro e w4 ⟨rfl,q,hw4⟩;have hf4:Fr NoM w3 w4:=by rw[hw4];exact⟨rfl,rfl,rfl,Nat.le_refl _,fun _ _ _=>rfl⟩
    obtain⟨k4,c4⟩:=HCell.out w4 hf4;have hc2:=HC2.out w4 hf4;have HC2':=Hh hc2;have HF4:=Hh hf4;clear hc2 hf4 hw4 k3 c1;cases hb:b1 with
    | false =>
     have HBad:=Hh (show zah 0 ((k:Int)-1) none Fi[k].1=false from by rw[←HB1'.out,hb]);subst hb;go_wp2;go_ret;exact⟨false,rfl,⟨fun e=>(by cases e),fun e=>by have h1:=(e.2.1 k Fi[k] hlt (List.getElem?_eq_getElem hlt)).1;rw[HBad.out]at h1;cases h1⟩,(HF1.out.trans HFr.out (fun _ _ q=>q)).trans HF4.out (fun _ _ q=>q)⟩
    | true =>
     have HGood:=Hh (show zah 0 ((k:Int)-1) none Fi[k].1=true from by rw[←HB1'.out,hb]);subst hb;go_wp2_with fail;refine HC2'.out.mono ?_
     rintro e w5 ⟨rfl,q5,hw5⟩;have hf5:Fr NoM w4 w5:=by rw[hw5];exact⟨rfl,rfl,rfl,Nat.le_refl _,fun _ _ _=>rfl⟩
     have HF5:=Hh hf5;clear hf5 hw5 k4 c4;cases hb:b2 with
     | false =>
      have HBad:=Hh (show zah 0 ((k:Int)-1) none Fi[k].2=false from by rw[←HB2'.out,hb]);subst hb;go_wp2;go_ret;exact⟨false,rfl,⟨fun e=>(by cases e),fun e=>by have h1:=(e.2.1 k Fi[k] hlt (List.getElem?_eq_getElem hlt)).2;rw[HBad.out]at h1;cases h1⟩,((HF1.out.trans HFr.out (fun _ _ q=>q)).trans HF4.out (fun _ _ q=>q)).trans HF5.out (fun _ _ q=>q)⟩
     | true =>
      have HGood2:=Hh (show zah 0 ((k:Int)-1) none Fi[k].2=true from by rw[←HB2'.out,hb]);subst hb;go_wp2;go_roundw
      case rel =>
       refine⟨k+1,by go_num,by omega,fun j y hj hy=>?_,(HFr.out.trans HF4.out (fun _ _ q=>q)).trans HF5.out (fun _ _ q=>q)⟩;by_cases e:j=k
       ·subst e
        rw[List.getElem?_eq_getElem hlt]at hy;cases hy
        exact⟨HGood.out,HGood2.out⟩
       ·exact HRis.out j y (by omega) hy
      case measure=>simp[intOf];omega
   ·have hke:k=Fi.length:=by have:=HKl.out;omega
    subst hke;obtain⟨Fm,hFm,ho,hu⟩:=ziv HRis.out;have hgF:GoodF Fm:=ya4 (by rw[←zo4,←hFm];exact HFit.out) ho;have hfin:∀b:Bool,b=decide (i2 (zgi (addB [] [] Fm).1 (addB [] [] Fm).2.1 (zh7 [] [] Fm))=Fi)→(b=true↔zfh Fi):=fun b hb=>by
     rw[hb,decide_eq_true_iff];constructor
     ·intro e
      refine⟨HFit.out,HRis.out,fun F' hF'=>?_⟩;have e1:Fm=F':=zt8 (hFm.symm.trans hF');subst e1;rw[hFm]at e;exact zt8 e
     ·intro e
      rw[e.2.2 Fm hFm];exact hFm.symm
    obtain⟨k1,k2,k3',k4,k5⟩:=zid BookOK.nil Fm hgF.opts;have hup:=ycy (BL:=[]) BookUp.nil Fm;have hlens:=hup.lens k1;obtain⟨NL1,hNL⟩:∃x,x=(addB [] [] Fm).1:=⟨_,rfl⟩;obtain⟨BL1,hBL⟩:∃x,x=(addB [] [] Fm).2.1:=⟨_,rfl⟩;obtain⟨x,hx⟩:∃x,x=zh7 [] [] Fm:=⟨_,rfl⟩;have hxl:x<NL1.length:=by
     rw[hx,hNL];unfold zh7;have hp:=hgF.pos;rw[List.getD_eq_getElem?_getD,List.getElem?_eq_getElem (by omega)];exact k3' _ (List.getElem_mem _)
    have hnl:NL1.length≤120:=by have h1:=hgF.le;have h2:(addB [] [] Fm).1.length≤0+Fm.length:=k4;rw[hNL];omega
    rw[←hNL,←hBL,←hx]at hfin;rw[←hNL,←hBL]at k1;rw[←hNL]at hlens;obtain⟨w5,hw5⟩:∃w5,w5=w3.alloc (.cells #[.slice none 0 0,.slice none 0 0] 147):=⟨_,rfl⟩;have hf5:Fr NoM w3 w5:=by rw[hw5];exact(Fr.refl NoM w3).alloc _
    have hb5:w5.heap[w3.heap.size]?=some (.cells #[.slice none 0 0,.slice none 0 0] 147 (0,0)):=by rw[hw5];exact heap_alloc_new w3 _
    obtain⟨bb,hbb⟩:∃bb,bb=w3.heap.size:=⟨_,rfl⟩;rw[←hbb]at hb5;have hwb:w.heap.size<bb:=by
     have e1:=HFr.out.size;have e2:w.heap.size<w1.heap.size:=(Array.getElem?_eq_some_iff.1 HB1.out).1;omega
    have hf05:=(HF1.out.trans HFr.out (fun _ _ q=>q)).trans hf5 (fun _ _ q=>q);have hNm:NodeL (· < w.heap.size) encN w5 (.slice a Fi.length c) Fm:=by
     have h:=HN.out.fr0 hf05;rw[hFm]at h ⊢;exact h.ofI
    have HRoot:=Hh (fun(W:World) (f:Fr NoM w5 W)=>show Calls Tryz.prog 126 #[.pointer (some ⟨bb,0,none⟩),.agg #[.slice a Fi.length c]] W fun e w'=>∃S',e=.returned (.int .i64 (x:Nat))/\BookS S' w' bb NL1 BL1/\(∀k,S' k→k=bb∨W.heap.size≤k)/\Fr (fun k=>k=bb) W w' from by
     have h:=zyy (R:=(· < w.heap.size)) bb (.slice a Fi.length c) [] Fm [] W ((BookS.made hb5).fr0 f) BookOK.nil (hNm.fr0 f) (fun k hk e=>by have hk:k<w.heap.size:=hk;omega) hgF.opts (by have:=hgF.le;simp;omega) (fun y hy=>by have:=hgF.lens y hy;omega) hgF.pos;rw[←hNL,←hBL,←hx]at h;exact h)
    have HForm:=Hh (fun(S':Nat→Prop) (W:World) (b:BookS S' W bb NL1 BL1)=>ztb bb x NL1 BL1 W b k1 hxl (by omega) (fun y hy=>by have:=hlens y hy;omega));have HSame:=Hh (fun(W:World) (f:Fr (fun k=>k=bb) w5 W) (R2:Nat→Prop) (v':Value) (G:List PL) (n:NodeL R2 encN W v' G)=>zui v' (.slice a Fi.length c) (i2 G) Fi W n.toI ((HN.out.fr0 hf05).fr f (fun k hk e=>by have hk:k<w.heap.size:=hk;omega)));have HCell:=Hh (fun(W:World) (f:Fr (fun k=>k=bb) w5 W)=>show W.cell? ⟨w.heap.size,0,none⟩=some (.slice a Fi.length c)from f.cell (hf5.cell k3 (fun q=>q)) (fun e=>by have e:w.heap.size=bb:=e;omega));have HFin:=Hh hfin;have HBb:=Hh hbb;have HF05:=Hh hf05;have HWb:=Hh hwb;clear hfin hf5 hb5 hf05 hNm hwb k1 k2 k3' k4 k5 hup hlens hNL hBL hx hxl hnl hgF ho hu hFm;go_upto_region 9 with fail;rw[←hw5,←hbb];have HW5:=Hh hw5;clear hw5 hbb k3;have F0:Fr NoM w5 w5.drew:=(Fr.refl NoM w5).drew;have G0:Fr (fun k=>k=bb) w5 w5.drew:=(Fr.refl _ w5).drew;have hc5:=HCell.out w5 (Fr.refl _ _);go_region_held3 (fun(W:World)=>W.cell? ⟨w.heap.size,0,none⟩=some (.slice a Fi.length c))
     (exact HCell.out _ (by assumption))
     (first
      | (go_at_call 126;(with_reducible refine(HRoot.out _ (by assumption)).mono ?_);rintro e w6 ⟨S',rfl,b6,s6,f6⟩;have G6:Fr (fun k=>k=bb) w5 w6:=Fr.trans (by assumption) f6 (fun _ _ q=>q))
      | (go_at_call 125;(with_reducible refine(HForm.out _ _ b6).mono ?_);rintro e w7 ⟨v7,rfl,n7,f7⟩;obtain⟨a7,c7,rfl,z7⟩:=id n7;clear z7;have G7:Fr (fun k=>k=bb) w5 w7:=Fr.trans G6 f7 (fun _ _ q=>q.elim))
      | (go_at_call 124;(with_reducible refine(HSame.out _ (by assumption) _ _ _ n7).mono ?_);rintro e w8 ⟨rfl,f8⟩;have G8:Fr (fun k=>k=bb) w5 w8:=Fr.trans G7 f8 (fun _ _ q=>q.elim))
      | fail)
    all_goals
     have HG8:=Hh G8;clear n7 f7 f8 G6 G7 G8 b6 s6 f6 hc5 F0 G0;obtain⟨bR,hbR⟩:∃bR,bR=decide (i2 (zgi NL1 BL1 x)=Fi):=⟨_,rfl⟩;rw[←hbR];have HBR:=Hh hbR;clear hbR;go_wp2;go_ret;refine⟨bR,rfl,HFin.out bR HBR.out,HF05.out.trans HG8.out (fun q hq e=>?_)⟩;have:=HWb.out;omega
structure BkSt (w1 W:World) (bb:Nat) (V:List PL) (BV:List Nat) (S:Nat→Prop) (v1:Value) (A1 c1:List Nat) (v2:Value) (A2 c2:List Nat) (v3:Value) (A3 c3:List Nat):Prop where
 book:BookS S W bb V BV
 ok:PoolOK V BV
 sub:∀q,S q→w1.heap.size≤q/\q<W.heap.size
 o1:W.ownsRow w1.heap.size 3 1 v1 A1.length (A1.map encN)
 o2:W.ownsRow w1.heap.size 3 1 v2 A2.length (A2.map encN)
 o3:W.ownsRow w1.heap.size 3 1 v3 A3.length (A3.map encN)
 n1:∀b,v1.ownBlock=some b→¬S b
 n2:∀b,v2.ownBlock=some b→¬S b
 n3:∀b,v3.ownBlock=some b→¬S b
 s12:∀b,v1.ownBlock=some b→v2.ownBlock≠some b
 s13:∀b,v1.ownBlock=some b→v3.ownBlock≠some b
 s23:∀b,v2.ownBlock=some b→v3.ownBlock≠some b
 r1:RowC V A1 c1
 r2:RowC V A2 c2
 r3:RowC V A3 c3
 fr:Fr NoM w1 W
section
variable {w1 W W' Wa:World}{bb:Nat}{V:List PL}{BV:List Nat}{S S':Nat→Prop}{v1 v2 v3 v4:Value}{A1 c1 A2 c2 A3 c3:List Nat}{x c:Nat}
theorem BkSt.fr0 (h:BkSt w1 W bb V BV S v1 A1 c1 v2 A2 c2 v3 A3 c3)(hf:Fr NoM W W'):BkSt w1 W' bb V BV S v1 A1 c1 v2 A2 c2 v3 A3 c3 :=
 ⟨h.book.fr0 hf,h.ok,fun q hq=>⟨(h.sub q hq).1,Nat.lt_of_lt_of_le (h.sub q hq).2 hf.size⟩,za2 h.o1 hf (fun _ _ q=>q),za2 h.o2 hf (fun _ _ q=>q),za2 h.o3 hf (fun _ _ q=>q),h.n1,h.n2,h.n3,h.s12,h.s13,h.s23,h.r1,h.r2,h.r3,h.fr.trans hf (fun _ _ q=>q)⟩
theorem BkSt.app (h:BkSt w1 W bb V BV S v1 A1 c1 v2 A2 c2 v3 A3 c3)(ha:Fr NoM W Wa)(ho:W'.ownsRow w1.heap.size 3 1 v4 (A1.length+1) (A1.map encN ++ [x].map encN))(hf:Fr (Own1 v1) Wa W')(hq:v4.ownBlock=v1.ownBlock∨∃b,v4.ownBlock=some b/\Wa.heap.size≤b)(hx:x<V.length)(hc:(za0 V).getD x 0=c) :
  BkSt w1 W' bb V BV S v4 (A1 ++ [x]) (c1 ++ [c]) v2 A2 c2 v3 A3 c3:=by
 have h:=h.fr0 ha;have hlt:∀b,v4.ownBlock=some b→v1.ownBlock=some b∨Wa.heap.size≤b:=fun b hb=>by
  rcases hq with h1|⟨b',h1,h2⟩
  ·rw[h1]at hb;exact .inl hb
  ·rw[h1]at hb;cases hb;exact .inr h2
 exact⟨h.book.fr hf (fun k hk e=>h.n1 k e hk),h.ok,fun q hq=>⟨(h.sub q hq).1,Nat.lt_of_lt_of_le (h.sub q hq).2 hf.size⟩,by rw[List.length_append,List.map_append];exact ho,za2 h.o2 hf (fun b hb e=>h.s12 b e hb),za2 h.o3 hf (fun b hb e=>h.s13 b e hb),
  fun b hb hS=>by
   rcases hlt b hb with h1|h1
   ·exact h.n1 b h1 hS
   ·have:=(h.sub b hS).2;omega,
  h.n2,h.n3,fun b hb hu=>by
   rcases hlt b hb with h1|h1
   ·exact h.s12 b h1 hu
   ·have:=(h.o2.lt b hu).2;omega,fun b hb hu=>by
   rcases hlt b hb with h1|h1
   ·exact h.s13 b h1 hu
   ·have:=(h.o3.lt b hu).2;omega,h.s23,h.r1.snoc hx hc,h.r2,h.r3,
  h.fr.trans hf (fun q hq e=>by have:=(h.o1.lt q e).1;omega)⟩
theorem BkSt.nats1 (h:BkSt w1 W bb V BV S v1 A1 c1 v2 A2 c2 v3 A3 c3):Nats W v1 A1:=SliceOf.of_owns h.o1 rfl
end
section
variable {U:List Nat}{S:Nat→Prop}{w w':World}{bb:Nat}{V:List PL}{BV:List Nat}
end
theorem zm6 {t p:Nat}(hp:p≤24):(t:Int)*2^(24-p)/2^24=((t/2^p:Nat):Int):=by
 have e1:(t:Int)*2^(24-p)=((t*2^(24-p):Nat):Int):=by simp
 have e2:(2:Int)^24=((2^24:Nat):Int):=by simp
 rw[e1,e2,←Int.natCast_ediv,show(2:Nat)^24=2^p*2^(24-p)from by rw[←Nat.pow_add,show p+(24-p)=24 from by omega],Nat.mul_div_mul_right _ _ (Nat.pow_pos (by decide))]
set_option maxRecDepth 4000 in
set_option maxHeartbeats 2000000 in
theorem zrf (t p:Nat)(w:World)(hp:p≤24)(ht:t≤1073741824):Calls Tryz.prog 187 #[.agg #[.int .i64 (t:Int),.int .i64 (p:Int)]] w fun e w'=>e=.returned (.int .i64 ((t/2^p:Nat):Int))/\Fr NoM w w':=by
 obtain⟨w1,hw1⟩:∃w1,w1=w.alloc (.cells #[.int .i64 (t:Int),.int .i64 (p:Int)] 29):=⟨_,rfl⟩;have f1:Fr NoM w w1:=by rw[hw1];exact(Fr.refl NoM w).alloc _
 obtain⟨m,hm⟩:∃m:Int,m=(t:Int)*2^(24-p):=⟨_,rfl⟩;have hb:=zfk (T:=(t:Int)) hp (by omega);rw[←hm]at hb;have HS:=Hh (show Calls Tryz.prog 139 #[.agg #[.int .i64 (t:Int),.int .i64 (p:Int)]] w1 fun e w'=>e=.returned (.int .i64 m)/\Fr NoM w1 w' from by rw[hm];exact zbv (t:Int) p w1 hp (by omega));have HE:=Hh (show m/16777216=((t/2^p:Nat):Int)from by rw[←zm6 hp,hm];rfl);have F1:=Hh f1;clear f1 hm;go_enter Tryz.func187,Tryz.ntmps187;go_wp2_with fail;rw[←hw1];clear hw1;(with_reducible refine HS.out.mono ?_);rintro e w2 ⟨rfl,f2⟩;have F2:=Hh (F1.out.trans f2 (fun _ _ q=>q));clear f2;go_wp2;go_ret;exact⟨by rw[←HE.out];rfl,F2.out⟩
end Go.Proofs.YtlapkmhemepcaaaGreatDoor
