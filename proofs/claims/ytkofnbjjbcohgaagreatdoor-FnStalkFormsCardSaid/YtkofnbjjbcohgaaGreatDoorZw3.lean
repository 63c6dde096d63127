import Derived.Test.YtkofnbjjbcohgaaGreatDoorZw1
/- Lemmas. -/
namespace Go.Proofs.YtkofnbjjbcohgaaGreatDoor
set_option linter.unusedVariables false
set_option linter.unusedSimpArgs false
open Go.RowKit
theorem znp (n:Nat)(W:World)(hn:n<1000000000):(Instr.makeSlice 42 (.int .i64 (n:Int)) (.int .i64 (n:Int))).run Tryz.prog W=.ok (.slice (some ⟨W.heap.size,0,none⟩) n n) (W.alloc (.cells (zdq encN 0 n) 3)):=by
 obtain⟨i0,hi,hz0,hz1,hz2⟩:=info_parts za8;have h:=run_make (P:=Tryz.prog) W 42 3 i0 (.int .i64 0) Tryz.underlying42 hi hz0 .i64 .i64 n n (by omega) (by omega) (by rw[hz2];omega) (by omega);rw[h,hz1,Int.toNat_natCast,Nat.mul_one];have:madeCells (Value.cells (.int .i64 0)) n=zdq encN 0 n:=by
  apply Array.ext'
  unfold zdq;rw[List.toList_toArray,madeCells,Array.toList_map,Array.toList_range];refine(List.eq_replicate_iff.2 ⟨by simp,fun b hb=>?_⟩:_=List.replicate n (Value.int .i64 0)).trans (by simp[encN]);obtain⟨y,_,rfl⟩:=List.mem_map.1 hb;simp[Value.cells,Nat.mod_one]
 rw[this]
set_option maxRecDepth 4000 in
set_option maxHeartbeats 8000000 in
theorem zp8 {S:Nat→Prop}(bb root:Nat)(NL:List PL)(BL:List Nat)(w:World)(hB:BookS S w bb NL BL)(hOK:BookOK NL BL)(hr:root<NL.length)(hn:NL.length<1000000)(hlen:∀y∈NL,y.1.length<100000000/\y.2.length<100000000) :
  Calls Tryz.prog 37 #[.pointer (some ⟨bb,0,none⟩),.int .i64 (root:Int)] w fun e w'=>∃v',e=.returned (.agg #[v'])/\NodeOwn w.heap.size w' v' (ze7 NL BL root)/\Fr NoM w w':=by
 have HB:=Hh hB.book;have HOK:=Hh hOK;have Hr:=Hh hr;have Hn:=Hh hn;have HLen:=Hh hlen;have mk:=fun W=>znp (root+1) W (by omega)
 have mk':∀W:World,(Instr.makeSlice 42 (.int .i64 ((root:Int)+1)) (.int .i64 ((root:Int)+1))).run Tryz.prog W=.ok (.slice (some ⟨W.heap.size,0,none⟩) (root+1) (root+1)) (W.alloc (.cells (zdq encN 0 (root+1)) 3)):=fun W=>by have:=mk W;rw[show((root+1:Nat):Int)=(root:Int)+1 from by omega]at this;exact this
 clear hB hOK hlen mk;go_enter Tryz.func37,Tryz.ntmps37;go_wp2_with fail;have F1:Fr NoM w (w.alloc (.cells #[.slice none 0 0] 27)):=(Fr.refl NoM w).alloc _;refine(znc bb root NL BL _ (HB.out.fr0 F1) Hr.out HOK.out.opts (by have:=Hn.out;omega)).mono ?_
 rintro e w2 ⟨rfl,hneed,F2⟩;have hb4:w2.heap[w.heap.size]?=some (.cells #[.slice none 0 0] 27 (0,0)):=F2.heap (heap_alloc_new w _) (fun q=>q);have hs2:=F2.size;simp only[World.size_alloc]at hneed hs2 ⊢;have HNeed:=Hh hneed;have HF2:=Hh (F1.trans F2 (fun _ _ q=>q));have HB4:=Hh hb4;have HS2:=Hh hs2;clear hneed F1 F2 hb4 hs2;obtain⟨nv0,bv0,NV0,hBA⟩:=HB.out;obtain⟨na,nc,rfl,hnc,hncm,hnn⟩:=hBA.nodeL;have hbr:=hBA.born;have hbl:=hBA.blk;obtain⟨ba,bc,rfl,hbc0,hbcm,hbc⟩:=SliceOf.of_owns (L:=BL) hbr rfl;have c0:w.cell? ⟨bb,0,none⟩=some (.slice na NL.length nc):=by rw[cell_of_row w bb 0 _ _ _ hbl];rfl
 have c1:w.cell? ⟨bb,1,none⟩=some (.slice ba BL.length bc):=by rw[cell_of_row w bb 1 _ _ _ hbl];rfl
 have hbL:BL.length=NL.length:=hBA.lens;have hrB:root<BL.length:=by rw[hbL];exact Hr.out
 obtain⟨bR,hbR⟩:∃x,BL[root]?=some x:=⟨_,List.getElem?_eq_getElem hrB⟩;have hbRle:bR≤root:=HOK.out.born root bR hbR;have HN:=Hh (fun(W:World) (f:Fr NoM w2 W) (j:Nat) (y:PL) (hy:NL[j]?=some y)=>show ∃b off lv rv,na=some ⟨b,off,none⟩/\W.cell? ⟨b,off+j*2,none⟩=some lv/\W.cell? ⟨b,off+j*2+1,none⟩=some rv/\Nats W lv y.1/\Nats W rv y.2 from by
  obtain⟨b,off,lv,rv,e,_,d1,d2,n1,n2,_,_⟩:=hnn j y hy;have g:=HF2.out.trans f (fun _ _ q=>q);exact⟨b,off,lv,rv,e,g.cell d1 (fun q=>q),g.cell d2 (fun q=>q),n1.fr0 g,n2.fr0 g⟩)
 have HBn:=Hh (fun(W:World) (f:Fr NoM w2 W) (j:Nat) (y:Nat) (hy:BL[j]?=some y)=>show ∃b off,ba=some ⟨b,off,none⟩/\W.cell? ⟨b,off+j,none⟩=some (.int .i64 (y:Int))from by
  obtain⟨b,off,e,d1⟩:=hbc j y hy;exact⟨b,off,e,(HF2.out.trans f (fun _ _ q=>q)).cell d1 (fun q=>q)⟩)
 have HC:=Hh (fun(W:World) (f:Fr NoM w2 W)=>show W.cell? ⟨bb,0,none⟩=some (.slice na NL.length nc)/\W.cell? ⟨bb,1,none⟩=some (.slice ba BL.length bc)from
  ⟨(HF2.out.trans f (fun _ _ q=>q)).cell c0 (fun q=>q),(HF2.out.trans f (fun _ _ q=>q)).cell c1 (fun q=>q)⟩)
 have HbR:=Hh hbR;have HbL:=Hh hbL;clear hBA hnn hbr hbl hbc c0 c1 hbR hbL;go_wp2;obtain⟨w5,hw5⟩:∃w5:World,w5=((w2.alloc (.cells (zdq encN 0 (root+1)) 3)).alloc (.cells #[] 55)).alloc (.cells #[.slice (some ⟨w2.heap.size+1,0,none⟩) 0 0] 27):=⟨_,rfl⟩;have F5:Fr NoM w2 w5:=by rw[hw5];exact(((Fr.refl NoM w2).alloc _).alloc _).alloc _
 have q6:RowIs 3 encN w5 w2.heap.size (List.replicate (root+1) 0):=by
  rw[hw5];exact((RowIs.made 3 encN w2 0 (root+1)).fr (((Fr.refl NoM _).alloc _).alloc _) (fun q=>q))
 have q7:w5.heap[w2.heap.size+2]?=some (.cells #[.slice (some ⟨w2.heap.size+1,0,none⟩) 0 0] 27 (0,0)):=by
  rw[hw5];have h:=heap_alloc_new ((w2.alloc (.cells (zdq encN 0 (root+1)) 3)).alloc (.cells #[] 55)) (.cells #[.slice (some ⟨w2.heap.size+1,0,none⟩) 0 0] 27 (0,0));simp only[World.size_alloc]at h;exact h
 have q1:NodeRow (fun _=>False) (w2.heap.size+1) w5 (.slice (some ⟨w2.heap.size+1,0,none⟩) 0 0) []:=by
  refine⟨[],?_,rfl,by simp⟩;have h:=World.ownsRow_made (base:=w2.heap.size+1) (e:=55) (size:=2) (w2.alloc (.cells (zdq encN 0 (root+1)) 3)) #[] 0 (by simp) (by decide) (by simp);simp only[World.size_alloc]at h;rw[hw5];exact h.alloc _
 rw[show w2.heap.size+1+1=w2.heap.size+2 from rfl,←hw5];have HW5:=Hh hw5;have HF5:=Hh F5;have Q6:=Hh q6;have Q7:=Hh q7;have Q1:=Hh q1;clear hw5 F5 q6 q7 q1;go_loopw [8] (fun i wr=>∃(n:Nat) (T:Nat→Prop) (nv:Value),i=.int .i64 n/\n≤bR+1/\RowIs 3 encN wr w2.heap.size (zag NL BL (zab NL root) root n).1 ∧
   wr.heap[w2.heap.size+2]?=some (.cells #[nv] 27 (0,0))/\NodeRow T (w2.heap.size+1) wr nv (zag NL BL (zab NL root) root n).2/\(∀q,T q→w2.heap.size+2<q)/\(∀q,nv.ownBlock=some q→q≠w2.heap.size+2/\¬T q)/\Fr NoM w2 wr) (fun i _=>bR+1-(intOf i).toNat)
 case atStart=>exact⟨0,_,_,rfl,Nat.zero_le _,Q6.out,Q7.out,Q1.out,fun q h=>h.elim,fun q hq=>by simp[Value.ownBlock]at hq;subst hq;exact⟨by omega,fun h=>h⟩,HF5.out⟩
 case round =>
  obtain⟨n,T,nv,rfl,hn',hat,hbox,hrow,hT,hnv,hfr⟩:=hrel;obtain⟨wo,rfl⟩:∃wo,wo=wr:=⟨_,rfl⟩;obtain⟨c0,c1⟩:=HC.out _ hfr;obtain⟨b1,o1,ha1,d1⟩:=HBn.out _ hfr root bR HbR.out;have ix1:=zaa ba BL.length bc root b1 o1 hrB ha1;have HAt:=Hh hat;have HBox:=Hh hbox;have HRow:=Hh hrow;have HT:=Hh hT;have HNv:=Hh hnv;have HFr:=Hh hfr;clear hat hbox hrow hT hnv hfr ha1;by_cases hlt:n≤bR
  ·go_wp2
   obtain⟨wA,hwA⟩:∃wA:World,wA=(wo.alloc (.cells #[] 55)).alloc (.cells #[] 3):=⟨_,rfl⟩;have FA:Fr NoM wo wA:=by rw[hwA];exact((Fr.refl NoM wo).alloc _).alloc _
   have p1:NodeRow (fun q=>wo.heap.size≤q) wo.heap.size wA (.slice (some ⟨wo.heap.size,0,none⟩) 0 0) []:=by
    refine⟨[],?_,rfl,by simp⟩;rw[hwA];exact(World.ownsRow_made (base:=wo.heap.size) (e:=55) (size:=2) wo #[] 0 (by simp) (by decide) (by simp)).alloc _
   have p2:wA.ownsRow wo.heap.size 3 1 (.slice (some ⟨wo.heap.size+1,0,none⟩) 0 0) 0 []:=by
    have h:=World.ownsRow_made (base:=wo.heap.size) (e:=3) (size:=1) (wo.alloc (.cells #[] 55)) #[] 0 (by simp) (by decide) (by simp);simp only[World.size_alloc]at h;rw[hwA];exact h
   rw[←hwA];have HA1:=Hh p1;have HA2:=Hh p2;have HFA:=Hh FA;clear p1 p2 FA hwA;go_loopw [9,10,11] (fun v f i wq=>∃(k:Nat) (lv fv:Value),lv=v/\fv=f/\i=.int .i64 k/\k≤root+1/\NodeRow (fun q=>wo.heap.size≤q) wo.heap.size wq lv (zc9 NL BL (zab NL root) (zag NL BL (zab NL root) root n).1 n k).1 ∧
    wq.ownsRow wo.heap.size 3 1 fv (zc9 NL BL (zab NL root) (zag NL BL (zab NL root) root n).1 n k).2.length ((zc9 NL BL (zab NL root) (zag NL BL (zab NL root) root n).1 n k).2.map encN)/\Fr NoM wo wq) (fun _ _ i _=>root+1-(intOf i).toNat)
   case atStart=>exact⟨0,_,_,rfl,rfl,rfl,Nat.zero_le _,HA1.out,HA2.out,HFA.out⟩
   case round =>
    obtain⟨k,lv,fv,rfl,rfl,rfl,hk,hlist,hfrom,hfq⟩:=hrel;obtain⟨c0',c1'⟩:=HC.out _ (HFr.out.trans hfq (fun _ _ q=>q));have HL:=Hh hlist;have HFm:=Hh hfrom;have HFq:=Hh hfq;clear hlist hfrom hfq;by_cases hk1:k≤root
    ·have hkN:k<NL.length:=by omega
     have hkB:k<BL.length:=by omega
     obtain⟨bk,hbk⟩:∃x,BL[k]?=some x:=⟨_,List.getElem?_eq_getElem hkB⟩;obtain⟨b2,o2,ha2,d2⟩:=HBn.out _ (HFr.out.trans HFq.out (fun _ _ q=>q)) k bk hbk;have ix2:=zaa ba BL.length bc k b2 o2 hkB ha2;have ix3:=zhv (w.heap.size+1) (root+1) (root+1) k (by omega);have hneed:=(HNeed.out.fr HFr.out (fun q=>q)).fr HFq.out (fun q=>q);have hnl:(zab NL root).length=root+1:=zfg NL root;have d3:=hneed.cell k (by omega);unfold encB at d3;by_cases hpick:(zab NL root)[k]=true/\bk=n
     ·obtain⟨hm,hbn⟩:=hpick
      subst hbn;rw[hm]at d3;obtain⟨b3,o3,xl,xr,ha3,d4,d5,m1,m2⟩:=HN.out _ (HFr.out.trans HFq.out (fun _ _ q=>q)) k NL[k] (List.getElem?_eq_getElem _);have ix4:=zbr na NL.length nc k b3 o3 hkN ha3;have HM1:=Hh m1;have HM2:=Hh m2;have HPick:=Hh (show(zab NL root).getD k false=true/\BL.getD k 0=bk from⟨by rw[List.getD_eq_getElem?_getD,List.getElem?_eq_getElem (by omega)];exact hm,by rw[List.getD_eq_getElem?_getD,hbk];rfl⟩);clear m1 m2 ha3 hneed hnl hm ha2;obtain⟨A,hA⟩:∃A,A=(zag NL BL (zab NL root) root bk).1:=⟨_,rfl⟩;have hAl:A.length=root+1:=by rw[hA];exact(zbv NL BL _ root bk).1
      have HAA:=Hh (fun(W:World) (f:Fr NoM wr W)=>show Nats W (.slice (some ⟨w2.heap.size,0,none⟩) (root+1) (root+1)) A from by
       have h:=((HAt.out.fr HFq.out (fun q=>q)).fr f (fun q=>q)).slice (by rw[(zbv NL BL (zab NL root) root bk).1];omega);rw[(zbv NL BL (zab NL root) root bk).1,←hA]at h;exact h)
      have HN1:=Hh (fun(W:World) (f:Fr NoM wr W)=>HM1.out.fr0 f);have HN2:=Hh (fun(W:World) (f:Fr NoM wr W)=>HM2.out.fr0 f);obtain⟨p1,p2⟩:=HOK.out.opts k NL[k] (List.getElem?_eq_getElem _);obtain⟨q1,q2⟩:=HLen.out NL[k] (List.getElem_mem _);have HX1:=Hh (show ∀(j x:Nat),NL[k].1[j]?=some x→x<A.length from fun j x hx=>by have:=p1 x (List.mem_of_getElem? hx);omega);have HX2:=Hh (show ∀(j x:Nat),NL[k].2[j]?=some x→x<A.length from fun j x hx=>by have:=p2 x (List.mem_of_getElem? hx);omega);have HY1:=Hh (show NL[k].1.length<1000000000000 by omega);have HY2:=Hh (show NL[k].2.length<1000000000000 by omega);have HZ1:=Hh (show(za1 A NL[k].1).length<1000000000000 by simp[za1];omega);have HZ2:=Hh (show(za1 A NL[k].2).length<1000000000000 by simp[za1];omega);have HSS:=Hh (fun(W:World) (f:Fr NoM wr W)=>(⟨f.cell c0' (fun q=>q),f.cell d4 (fun q=>q),f.cell d5 (fun q=>q)⟩:W.cell? ⟨bb,0,none⟩=some (.slice na NL.length nc)/\W.cell? ⟨b3,o3+k*2,none⟩=some xl/\W.cell? ⟨b3,o3+k*2+1,none⟩=some xr));have HA:=Hh hA;have HAl:=Hh hAl;clear hA hAl p1 p2 q1 q2;go_upto_region 12 with fail;go_cut [12]from 36 to 117 (fun x wx=>∃(b:Nat) (l r:Value),x=.pointer (some ⟨b,0,none⟩)/\wx.heap[b]?=some (.cells #[l,r] 55 (0,0))/\wr.heap.size≤b/\Nats wx l (za6 (za1 A NL[k].1))/\Nats wx r (za6 (za1 A NL[k].2))/\(∀q,l.ownBlock=some q→wr.heap.size≤q)/\(∀q,r.ownBlock=some q→wr.heap.size≤q)/\Fr NoM wr wx)
      case first =>
       have F0:Fr NoM wr wr.drew:=(Fr.refl NoM wr).drew;have hs:=HSS.out wr (Fr.refl NoM wr);go_region_held3 (fun(W:World)=>W.cell? ⟨bb,0,none⟩=some (.slice na NL.length nc)/\W.cell? ⟨b3,o3+k*2,none⟩=some xl/\W.cell? ⟨b3,o3+k*2+1,none⟩=some xr)
        (first|exact HSS.out _ (by assumption)|exact HSS.out _ (Fr.alloc (by assumption) _)|exact HSS.out _ (Fr.setCell (Fr.setCell g4 _ _ (fun h=>absurd h (Nat.not_lt.2 (by first|exact g4.size|exact g3.size|exact g2.size|exact g1.size|exact Nat.le_refl _)))) _ _ (fun h=>absurd h (Nat.not_lt.2 (by first|exact g4.size|exact g3.size|exact g2.size|exact g1.size|exact Nat.le_refl _)))))
        (first
         | (go_at_call 67;(with_reducible refine(zh0 _ xl A NL[k].1 _ (HAA.out _ (by first|assumption|exact Fr.alloc (by assumption) _|exact Fr.drew (Fr.alloc (Fr.refl NoM _) _))) (HN1.out _ (by first|assumption|exact Fr.alloc (by assumption) _|exact Fr.drew (Fr.alloc (Fr.refl NoM _) _))) HX1.out HY1.out).mono ?_);rintro e w5 ⟨v1,rfl,t1,f1⟩;have z1:Nats w5 v1 (za1 A NL[k].1):=zex t1;clear t1;have g1:Fr NoM wr w5:=Fr.trans (by first|assumption|exact Fr.alloc (by assumption) _|exact Fr.drew (Fr.alloc (Fr.refl NoM _) _)) f1 (fun _ _ q=>q);(first|have hx:=Fr.heap f1 (heap_alloc_new _ _) (fun q=>q)|skip))
         | (go_at_call 66;(with_reducible refine(zgp v1 (za1 A NL[k].1) _ (by first|exact z1|exact SliceOf.fr0 z1 (Fr.alloc (Fr.refl NoM _) _)) HZ1.out).mono ?_);rintro e w6 ⟨l1,rfl,⟨la1,lc1,rfl,y1a⟩,f2,r1⟩;have y1:Nats w6 (.slice la1 (za6 (za1 A NL[k].1)).length lc1) (za6 (za1 A NL[k].1)):=⟨la1,lc1,rfl,y1a⟩;clear y1a;have h2:Fr NoM w5 w6:=(by first|exact f2|exact Fr.trans (Fr.alloc (Fr.refl NoM _) _) f2 (fun _ _ q=>q));have g2:Fr NoM wr w6:=g1.trans h2 (fun _ _ q=>q);have r1':∀q,(Value.slice la1 (za6 (za1 A NL[k].1)).length lc1).ownBlock=some q→wr.heap.size≤q:=(fun q hq=>Nat.le_trans (Nat.le_trans g1.size (by simp)) (r1 q hq));(first|have hx:=Fr.heap h2 hx (fun q=>q)|have hx:=Fr.heap f2 (heap_alloc_new _ _) (fun q=>q)|skip))
         | (go_at_call 67;(with_reducible refine(zh0 _ xr A NL[k].2 _ (HAA.out _ (by first|assumption|exact Fr.alloc (by assumption) _)) (HN2.out _ (by first|assumption|exact Fr.alloc (by assumption) _)) HX2.out HY2.out).mono ?_);rintro e w7 ⟨v2,rfl,t2,f3⟩;have z2:Nats w7 v2 (za1 A NL[k].2):=zex t2;clear t2;have h3:Fr NoM w6 w7:=(by first|exact f3|exact Fr.trans (Fr.alloc (Fr.refl NoM _) _) f3 (fun _ _ q=>q));have g3:Fr NoM wr w7:=g2.trans h3 (fun _ _ q=>q);(first|have hx:=Fr.heap h3 hx (fun q=>q)|have hx:=Fr.heap f3 (heap_alloc_new _ _) (fun q=>q)|skip))
         | (go_at_call 66;(with_reducible refine(zgp v2 (za1 A NL[k].2) _ (by first|exact z2|exact SliceOf.fr0 z2 (Fr.alloc (Fr.refl NoM _) _)) HZ2.out).mono ?_);rintro e w8 ⟨l2,rfl,⟨la2,lc2,rfl,y2a⟩,f4,r2⟩;have y2:Nats w8 (.slice la2 (za6 (za1 A NL[k].2)).length lc2) (za6 (za1 A NL[k].2)):=⟨la2,lc2,rfl,y2a⟩;clear y2a;have h4:Fr NoM w7 w8:=(by first|exact f4|exact Fr.trans (Fr.alloc (Fr.refl NoM _) _) f4 (fun _ _ q=>q));have g4:Fr NoM wr w8:=g3.trans h4 (fun _ _ q=>q);have r2':∀q,(Value.slice la2 (za6 (za1 A NL[k].2)).length lc2).ownBlock=some q→wr.heap.size≤q:=(fun q hq=>Nat.le_trans (Nat.le_trans g3.size (by simp)) (r2 q hq));(first|have hx:=Fr.heap h4 hx (fun q=>q)|have hx:=Fr.heap f4 (heap_alloc_new _ _) (fun q=>q)|skip);(first|have hc0:=(zdt hx).1|skip);(first|have hc1:=(zdt hx).2.1|skip);(first|have hz0:=(zdt hx).2.2.1|skip);(first|have hz1:=(zdt hx).2.2.2|skip))
         | fail)
       all_goals
        go_wp2_with fail;go_meet
        case rel =>
         have s1:=f1.size;have s2:=f2.size;have s3:=f3.size;have s4:=f4.size;have s5:=g1.size;try simp at s1
         try simp at s2
         try simp at s3
         try simp at s4
         refine⟨_,_,_,rfl,?_,?_,?_,?_,r1',r2',?_⟩
         ·first|exact heap_alloc_new w8 _|exact(put2 hx).1
         ·first|exact g4.size|exact g3.size|exact g2.size|exact g1.size|exact Nat.le_refl _
         ·first|exact(y1.fr0 (h3.trans h4 (fun _ _ q=>q))).fr0 ((Fr.refl NoM w8).alloc _)|exact(y1.fr0 (h3.trans h4 (fun _ _ q=>q))).fr (put2 hx).2 (fun hne q hq e=>by have t:=r1 q hq;(try simp at t);obtain⟨b,hb,hl⟩:=y1.block hne;rw[hq]at hb;cases hb;omega)
         ·first|exact y2.fr0 ((Fr.refl NoM w8).alloc _)|exact y2.fr (put2 hx).2 (fun hne q hq e=>by have t:=r2 q hq;(try simp at t);obtain⟨b,hb,hl⟩:=y2.block hne;rw[hq]at hb;cases hb;omega)
         ·first|exact g4.alloc _|exact g4.trans (put2 hx).2 (fun q hq e=>by exfalso;omega)
      case rest =>
       obtain⟨xb,xl',xr',rfl,hxb,hxs,hn1,hn2,hr1,hr2,hfx⟩:=hcut;obtain⟨wi,rfl⟩:∃wi,wi=wr:=⟨_,rfl⟩;obtain⟨w12,rfl⟩:∃w12,w12=wc:=⟨_,rfl⟩;obtain⟨LL,hLL⟩:∃s,s=(zc9 NL BL (zab NL root) (zag NL BL (zab NL root) root bk).1 bk k).1:=⟨_,rfl⟩;obtain⟨KL,hKL⟩:∃s,s=(zc9 NL BL (zab NL root) (zag NL BL (zab NL root) root bk).1 bk k).2:=⟨_,rfl⟩;have hl:=HL.out;have hf:=HFm.out;rw[←hLL]at hl;rw[←hKL]at hf;obtain⟨x,hx⟩:∃x,x=keyF A NL[k]:=⟨_,rfl⟩;rw[show za6 (za1 A NL[k].1)=x.1 from by rw[hx];rfl]at hn1;rw[show za6 (za1 A NL[k].2)=x.2 from by rw[hx];rfl]at hn2;have hlen1:=(zeg NL BL (zab NL root) (zag NL BL (zab NL root) root bk).1 bk k);rw[←hLL,←hKL]at hlen1;have hklt:=zoq NL BL (zab NL root) (zag NL BL (zab NL root) root bk).1 bk k;rw[←hKL]at hklt;have hlc:NodeRow (fun q=>wo.heap.size≤q) wo.heap.size w12 lv LL:=hl.fr0 hfx;have hfc:w12.ownsRow wo.heap.size 3 1 fv KL.length (KL.map encN):=za2 hf hfx (fun _ _ q=>q);have HLc:=Hh hlc;have hfc12:=Hh hfc;obtain⟨NV,hrow1,hNV,hNVs⟩:=id hlc;obtain⟨pa,pc,rfl,hpc,hpcm,hpcell⟩:=Pairs.of_owns hrow1;have HXB:=Hh hxb;have HXS:=Hh hxs;have HN1':=Hh hn1;have HN2':=Hh hn2;have HR1:=Hh hr1;have HR2:=Hh hr2;have HFX:=Hh hfx;have HX:=Hh hx;have HLL:=Hh hLL;have HKL:=Hh hKL;have HLen1:=Hh hlen1;have HKlt:=Hh hklt;have HNVl:=Hh hNV;have HNVs:=Hh hNVs;have HPC:=Hh hpcell;clear hxb hxs hn1 hn2 hr1 hr2 hfx hx hLL hKL hlen1 hklt hNV hNVs hpcell hl hf hlc hfc hrow1;go_wp2_with fail;go_loopw [13] (fun i W=>∃j:Nat,i=.int .i64 j/\j≤NV.length/\(∀j' y,j'<j→LL[j']?=some y→zac y x=true)/\Fr NoM w12 W) (fun i _=>NV.length-(intOf i).toNat)
       case atStart=>exact⟨0,rfl,Nat.zero_le _,fun j' y h=>absurd h (Nat.not_lt_zero _),Fr.refl _ _⟩
       case round =>
        obtain⟨j,rfl,hj,hbef,hfw⟩:=hrel;obtain⟨cb,hcb⟩:∃cb:Bool,cb=(decide (j<LL.length) && zac (LL.getD j ([],[])) x):=⟨_,rfl⟩;have HBef:=Hh hbef;have HCb:=Hh hcb;have HFw:=Hh hfw;clear hbef hcb hfw;go_upto_region 14 with fail;go_cut [91]from 80 to 93 (fun c wx=>c=.bool cb/\Fr NoM wr wx)
        case first =>
         by_cases hlt:j<NV.length
         ·have hltL:j<LL.length:=by rw[←HNVl.out];exact hlt
          obtain⟨b5,o5,hpa,d7,d8⟩:=HPC.out j NV[j] (List.getElem?_eq_getElem _);have ix5:=zbr pa NV.length pc j b5 o5 hlt hpa;obtain⟨e1,e2,_,_⟩:=HNVs.out j NV[j] LL[j] (List.getElem?_eq_getElem _) (List.getElem?_eq_getElem _);have hcbe:zac LL[j] x=cb:=by rw[HCb.out,List.getD_eq_getElem?_getD,List.getElem?_eq_getElem hltL,decide_eq_true hltL];rfl
          have hb:=zdt HXB.out;have HS3:=Hh (fun(W:World) (f:Fr NoM wr W)=>have g:=HFw.out.trans f (fun _ _ q=>q);(⟨g.cell d7 (fun q=>q),g.cell d8 (fun q=>q),g.cell hb.1 (fun q=>q),g.cell hb.2.1 (fun q=>q)⟩:W.cell? ⟨b5,o5+j*2,none⟩=some NV[j].1/\W.cell? ⟨b5,o5+j*2+1,none⟩=some NV[j].2/\W.cell? ⟨xb,0,none⟩=some xl'∧W.cell? ⟨xb,1,none⟩=some xr'));have HE1:=Hh (fun(W:World) (f:Fr NoM wr W)=>e1.fr0 (HFw.out.trans f (fun _ _ q=>q)));have HE2:=Hh (fun(W:World) (f:Fr NoM wr W)=>e2.fr0 (HFw.out.trans f (fun _ _ q=>q)));have HE3:=Hh (fun(W:World) (f:Fr NoM wr W)=>HN1'.out.fr0 (HFw.out.trans f (fun _ _ q=>q)));have HE4:=Hh (fun(W:World) (f:Fr NoM wr W)=>HN2'.out.fr0 (HFw.out.trans f (fun _ _ q=>q)));have hg:decide ((j:Int)<(NV.length:Int))=true:=by simp;omega
          have F0:Fr NoM wr wr.drew:=(Fr.refl NoM wr).drew;have hs3:=HS3.out wr (Fr.refl NoM wr);have HCe:=Hh hcbe;clear d7 d8 e1 e2 hb hpa hcbe;go_region_held3 (fun(W:World)=>W.cell? ⟨b5,o5+j*2,none⟩=some NV[j].1/\W.cell? ⟨b5,o5+j*2+1,none⟩=some NV[j].2/\W.cell? ⟨xb,0,none⟩=some xl'∧W.cell? ⟨xb,1,none⟩=some xr')
           (first|exact HS3.out _ (by assumption))
           (first
            | (go_at_call 68;(with_reducible refine(zht _ _ _ _ LL[j] x _ (HE1.out _ (by assumption)) (HE2.out _ (by assumption)) (HE3.out _ (by assumption)) (HE4.out _ (by assumption))).mono ?_);rintro e w9 ⟨rfl,f9⟩;have g9:Fr NoM wr w9:=Fr.trans (by assumption) f9 (fun _ _ q=>q))
            | fail)
          all_goals
           go_wp2_with fail;go_meet
           case rel=>exact⟨congrArg Value.bool HCe.out,by assumption⟩
         ·have hltL:¬j<LL.length:=by rw[←HNVl.out];exact hlt
          have hcbe:false=cb:=by rw[HCb.out,decide_eq_false hltL];rfl
          have hg:decide ((j:Int)<(NV.length:Int))=false:=by simp;omega
          have HCe:=Hh hcbe;clear hcbe hltL;go_quiet (fail);go_wp2_with fail;go_meet
          case rel=>exact⟨congrArg Value.bool HCe.out,⟨rfl,rfl,rfl,Nat.le_refl _,fun _ _ _=>rfl⟩⟩
        case rest =>
         obtain⟨rfl,hfc⟩:=hcut;obtain⟨w14,rfl⟩:∃w14,w14=wc:=⟨_,rfl⟩;have HFc:=Hh hfc;clear hfc;cases cb with
         | true =>
          have hall:=HCb.out;have hltL:j<LL.length:=by
           rcases Nat.lt_or_ge j LL.length with h|h
           ·exact h
           ·rw[decide_eq_false (by omega)]at hall;cases hall
          have hah:zac LL[j] x=true:=by
           rw[decide_eq_true hltL,List.getD_eq_getElem?_getD,List.getElem?_eq_getElem hltL]at hall;simpa using hall.symm
          have HAh:=Hh hah;have hltN:j<NV.length:=by rw[HNVl.out];exact hltL
          clear hall hah;go_wp2;go_roundw
          case rel =>
           have:=HNVl.out;refine⟨j+1,by go_num,by omega,fun j' y hj' hy=>?_,HFw.out.trans HFc.out (fun _ _ q=>q)⟩;by_cases e:j'=j
           ·subst e;rw[List.getElem?_eq_getElem hltL]at hy;cases hy;exact HAh.out
           ·exact HBef.out j' y (by omega) hy
          case measure=>have:=HNVl.out;simp[intOf];omega
         | false =>
          have hall:=HCb.out;have hpos:posA LL x=j:=zxm LL x j (by have:=HNVl.out;omega) HBef.out (fun y hy=>by
           have hltL:=(List.getElem?_eq_some_iff.1 hy).1;rw[decide_eq_true hltL,List.getD_eq_getElem?_getD,hy]at hall;simpa using hall.symm)
          obtain⟨xa,xc,rfl,hxa⟩:=id HN1'.out;obtain⟨xa',xc',rfl,hxa'⟩:=id HN2'.out;have hpw:Pairs w14 (.slice pa NV.length pc) NV:=(show Pairs w12 (.slice pa NV.length pc) NV from⟨pa,pc,rfl,hpc,hpcm,HPC.out⟩).fr0 (HFw.out.trans HFc.out (fun _ _ q=>q));obtain⟨v1,r1,s1,q1⟩:=zyq (P:=Tryz.prog) hpw 25 55 _ 48 Tryz.underlying25 zbi j hj;obtain⟨v2,r2,s2,q2⟩:=zuu (P:=Tryz.prog) hpw 25 55 _ 48 Tryz.underlying25 zbi j hj;have HP1:=Hh (fun(W:World) (f:Fr NoM w14 W)=>s1.fr0 f);have HP2:=Hh (fun(W:World) (f:Fr NoM w14 W)=>s2.fr0 f);have hone:∀y∈NV,y.1.oneCell'=true/\y.2.oneCell'=true:=fun y hy=>by
           obtain⟨i,hi,rfl⟩:=List.getElem_of_mem hy;have hiL:i<LL.length:=by rw[←HNVl.out];exact hi
           obtain⟨e1,e2,_,_⟩:=HNVs.out i NV[i] LL[i] (List.getElem?_eq_getElem _) (List.getElem?_eq_getElem _);exact⟨zov e1,zov e2⟩
          have HO1:=Hh (show ∀y∈NV.take j,y.1.oneCell'=true/\y.2.oneCell'=true from fun y hy=>hone y (List.mem_of_mem_take hy));have HO2:=Hh (show ∀y∈NV.drop j,y.1.oneCell'=true/\y.2.oneCell'=true from fun y hy=>hone y (List.mem_of_mem_drop hy));have HO3:=Hh (show ∀y∈[(Value.slice xa x.1.length xc,Value.slice xa' x.2.length xc')],y.1.oneCell'=true/\y.2.oneCell'=true from fun y hy=>by simp at hy;subst hy;exact⟨rfl,rfl⟩);have hsm:NV.length≤1000000:=by have:=HNVl.out;have:=HLen1.out;omega
          have HC1:=Hh (show(([]:List (Value × Value)).length+(NV.take j).length)*48≤140737488355328 by simp;omega);have HC2:=Hh (show(([]++NV.take j).length + [(Value.slice xa x.1.length xc,Value.slice xa' x.2.length xc')].length)*48≤140737488355328 by simp;omega);have HC3:=Hh (show((([]++NV.take j) ++ [(Value.slice xa x.1.length xc,Value.slice xa' x.2.length xc')]).length+(NV.drop j).length)*48≤140737488355328 by simp;omega);have hxb:=zdt HXB.out;have d7:=(HFw.out.trans HFc.out (fun _ _ q=>q)).cell hxb.1 (fun q=>q);have d8:=(HFw.out.trans HFc.out (fun _ _ q=>q)).cell hxb.2.1 (fun q=>q);have da7:∀o,(w14.alloc o).cell? ⟨xb,0,none⟩=_:=fun o=>((Fr.refl NoM w14).alloc o).cell d7 (fun q=>q)
          have da8:∀o,(w14.alloc o).cell? ⟨xb,1,none⟩=_:=fun o=>((Fr.refl NoM w14).alloc o).cell d8 (fun q=>q)
          have HPos:=Hh hpos;clear hall hpos hxa hxa' hpw s1 s2 q1 q2 hone hxb;go_upto_region 16 with fail;go_cut [9]from 36 to 117 (fun c wx=>wx.ownsRow w14.heap.size 55 2 c (NV.take j++(Value.slice xa x.1.length xc,Value.slice xa' x.2.length xc')::NV.drop j).length (zay (NV.take j++(Value.slice xa x.1.length xc,Value.slice xa' x.2.length xc')::NV.drop j))/\Fr NoM w14 wx)
          case first =>
           go_region_law (first
            | (refine zer w14.heap.size ((((Fr.refl NoM w14).alloc _).drew).size) rfl (.tmp 94) (.tmp 97) 25 rfl 55 _ 48 Tryz.underlying25 zbi rfl (.slice (some ⟨w14.heap.size,0,none⟩) 0 0) [] rfl (by exact World.ownsRow_made w14 #[] 0 (Nat.le_refl _) (by decide) (by simp)) v1 rfl (NV.take j) (by exact HP1.out _ (((Fr.refl NoM w14).alloc _).drew)) HO1.out HC1.out (by decide) ?_;intro v3 w3 h3 f3 _;have g3:Fr NoM w14 w3:=Fr.own (e:=55) (size:=2) (n:=0) (xs:=[]) (((Fr.refl NoM w14).alloc _).drew) (by exact World.ownsRow_made w14 #[] 0 (Nat.le_refl _) (by decide) (by simp)) f3;have d7':=Fr.cell g3 d7 (fun q=>q);have d8':=Fr.cell g3 d8 (fun q=>q))
            | (refine zer w14.heap.size (((((Fr.refl NoM w14).alloc _).alloc _).drew).size) rfl (.tmp 94) (.tmp 97) 25 rfl 55 _ 48 Tryz.underlying25 zbi rfl (.slice (some ⟨w14.heap.size,0,none⟩) 0 0) [] rfl (by exact(World.ownsRow_made w14 #[] 0 (Nat.le_refl _) (by decide) (by simp)).alloc (.cells #[.slice xa x.1.length xc,.slice xa' x.2.length xc'] 55)) v1 rfl (NV.take j) (by exact HP1.out _ ((((Fr.refl NoM w14).alloc _).alloc _).drew)) HO1.out HC1.out (by decide) ?_;intro v3 w3 h3 f3 _;have g3:Fr NoM w14 w3:=Fr.own (e:=55) (size:=2) (n:=0) (xs:=[]) ((((Fr.refl NoM w14).alloc _).alloc _).drew) (by exact(World.ownsRow_made w14 #[] 0 (Nat.le_refl _) (by decide) (by simp)).alloc (.cells #[.slice xa x.1.length xc,.slice xa' x.2.length xc'] 55)) f3;have d7':=Fr.cell g3 d7 (fun q=>q);have d8':=Fr.cell g3 d8 (fun q=>q))
            | (refine zer w14.heap.size (((((Fr.refl NoM w14).alloc _).alloc _).drew).size) rfl (.tmp 94) (.tmp 97) 25 rfl 55 _ 48 Tryz.underlying25 zbi rfl (.slice (some ⟨w14.heap.size+1,0,none⟩) 0 0) [] rfl (by have h:=World.ownsRow_made (base:=w14.heap.size) (e:=55) (size:=2) (w14.alloc (.cells #[.slice xa x.1.length xc,.slice xa' x.2.length xc'] 55)) #[] 0 (by simp) (by decide) (by simp);simp only[World.size_alloc]at h;exact h) v1 rfl (NV.take j) (by exact HP1.out _ ((((Fr.refl NoM w14).alloc _).alloc _).drew)) HO1.out HC1.out (by decide) ?_;intro v3 w3 h3 f3 _;have g3:Fr NoM w14 w3:=Fr.own (e:=55) (size:=2) (n:=0) (xs:=[]) ((((Fr.refl NoM w14).alloc _).alloc _).drew) (by have h:=World.ownsRow_made (base:=w14.heap.size) (e:=55) (size:=2) (w14.alloc (.cells #[.slice xa x.1.length xc,.slice xa' x.2.length xc'] 55)) #[] 0 (by simp) (by decide) (by simp);simp only[World.size_alloc]at h;exact h) f3;have d7':=Fr.cell g3 d7 (fun q=>q);have d8':=Fr.cell g3 d8 (fun q=>q))
            | (refine zes w14 (by first|exact g3.alloc _|exact g3) rfl (.tmp 98) (.tmp 100) 25 rfl 55 _ 48 Tryz.underlying25 zbi rfl v3 ([]++NV.take j) rfl (by first|exact h3.alloc _|exact h3) (.slice (some ⟨w3.heap.size,0,none⟩) 1 1) rfl [(.slice xa x.1.length xc,.slice xa' x.2.length xc')] (by exact Pairs.one w3 _ 55) HO3.out HC2.out (by decide) ?_;intro v4 w4 h4 f4)
            | (refine zes w14 (by first|exact g3.alloc _|exact g3) rfl (.tmp 98) (.tmp 100) 25 rfl 55 _ 48 Tryz.underlying25 zbi rfl v3 ([]++NV.take j) rfl (by first|exact h3.alloc _|exact h3) (.slice (some ⟨w14.heap.size+1,0,none⟩) 1 1) rfl [(.slice xa x.1.length xc,.slice xa' x.2.length xc')] (by have h:=(Pairs.one (w14.alloc (.cells #[] 55)) (.slice xa x.1.length xc,.slice xa' x.2.length xc') 55).fr (w:=((w14.alloc (.cells #[] 55)).alloc (.cells #[.slice xa x.1.length xc,.slice xa' x.2.length xc'] 55)).drew) f3 (by simp[Own1,Value.ownBlock]);simp only[World.size_alloc]at h;exact h) HO3.out HC2.out (by decide) ?_;intro v4 w4 h4 f4)
            | (refine zes w14 (by first|exact g3.alloc _|exact g3) rfl (.tmp 98) (.tmp 100) 25 rfl 55 _ 48 Tryz.underlying25 zbi rfl v3 ([]++NV.take j) rfl (by first|exact h3.alloc _|exact h3) (.slice (some ⟨w14.heap.size,0,none⟩) 1 1) rfl [(.slice xa x.1.length xc,.slice xa' x.2.length xc')] (by exact((Pairs.one w14 (.slice xa x.1.length xc,.slice xa' x.2.length xc') 55).fr0 ((Fr.refl NoM _).alloc (.cells #[] 55))).fr (w:=((w14.alloc (.cells #[.slice xa x.1.length xc,.slice xa' x.2.length xc'] 55)).alloc (.cells #[] 55)).drew) f3 (by simp[Own1,Value.ownBlock])) HO3.out HC2.out (by decide) ?_;intro v4 w4 h4 f4)
            | (refine zes w14 f4 rfl (.tmp 101) (.tmp 104) 25 rfl 55 _ 48 Tryz.underlying25 zbi rfl v4 _ rfl h4 v2 rfl (NV.drop j) (by exact HP2.out _ f4) HO2.out HC3.out (by decide) ?_;intro v5 w5 h5 f5)
            | fail)
           all_goals
            go_wp2_with fail;go_meet
            case rel=>exact⟨by simpa using h5,f5⟩
          case rest =>
           obtain⟨hn16,hf16⟩:=hcut;obtain⟨w16,rfl⟩:∃w16,w16=wc:=⟨_,rfl⟩;have hfall:Fr NoM w12 w16:=(HFw.out.trans HFc.out (fun _ _ q=>q)).trans hf16 (fun _ _ q=>q);have hfn:Nats w16 fv KL:=(SliceOf.of_owns (L:=KL) hfc12.out rfl).fr0 hfall;have hjK:j≤KL.length:=by have:=HNVl.out;have:=HLen1.out;omega
           have hKs:KL.length≤1000000:=by have:=HLen1.out;omega
           obtain⟨y1,r1',s1,q1⟩:=zn7 (P:=Tryz.prog) hfn 42 3 (.int .i64 0) 8 Tryz.underlying42 za8 j hjK;obtain⟨y2,r2',s2,q2⟩:=sliceFrom (P:=Tryz.prog) hfn 42 3 (.int .i64 0) 8 Tryz.underlying42 za8 j hjK;have HT1:=Hh (fun(W:World) (f:Fr NoM w16 W)=>s1.fr0 f);have HT2:=Hh (fun(W:World) (f:Fr NoM w16 W)=>s2.fr0 f);have HD1:=Hh (show(0+(KL.take j).length)*8≤140737488355328 by simp;omega);have HD2:=Hh (show(0+(KL.take j).length + [k].length)*8≤140737488355328 by simp;omega);have HD3:=Hh (show(0+(KL.take j).length + [k].length+(KL.drop j).length)*8≤140737488355328 by simp;omega);have hstep:zc9 NL BL (zab NL root) (zag NL BL (zab NL root) root bk).1 bk (k+1)=(LL.take j++x::LL.drop j,KL.take j++k::KL.drop j):=by
            rw[zcp];unfold zd7;rw[if_pos HPick.out];unfold insF;rw[←HLL.out,←HKL.out,←HA.out,show keyF A (NL.getD k ([],[]))=x from by rw[HX.out,List.getD_eq_getElem?_getD,List.getElem?_eq_getElem hkN];rfl,HPos.out]
           have hio:Fr NoM wo w16:=(HFq.out.trans HFX.out (fun _ _ q=>q)).trans hfall (fun _ _ q=>q);have hnew:∀W,Fr NoM w16 W→NodeRow (fun q=>wo.heap.size≤q) wo.heap.size W _ (LL.take j++x::LL.drop j):=fun W f=>by
            have g:=hfall.trans f (fun _ _ q=>q);have hs1:=HFq.out.size;have hs2:=HFX.out.size;have hs3:=(HFw.out.trans HFc.out (fun _ _ q=>q)).size;refine zhr (za2 (zb2 hn16 (by omega)) f (fun _ _ q=>q)) HNVl.out (by have:=HNVl.out;omega) (fun i a b ha hb=>?_) ⟨HN1'.out.fr0 g,HN2'.out.fr0 g,fun _ q hq=>Nat.le_trans hs1 (HR1.out q hq),fun _ q hq=>Nat.le_trans hs1 (HR2.out q hq)⟩;obtain⟨e1,e2,e3,e4⟩:=HNVs.out i a b ha hb;exact⟨e1.fr0 g,e2.fr0 g,e3,e4⟩
           have HStep:=Hh hstep;have HIo:=Hh hio;have HNew:=Hh hnew;clear hstep hio hnew;have HN16:=Hh hn16;have HF16:=Hh hfall;clear hn16 hf16 hfall s1 s2 q1 q2 hfn d7 d8 da7 da8;go_upto_region 17 with fail
           -- R17
           go_region_law (first
            | (refine zbc (enc:=encN) rfl (.tmp 106) (.tmp 109) 42 rfl w16.heap.size 3 (.int .i64 0) 8 Tryz.underlying42 za8 rfl (.slice (some ⟨w16.heap.size,0,none⟩) 0 0) 0 [] rfl (by exact World.ownsRow_made w16 #[] 0 (Nat.le_refl _) (by decide) (by simp)) y1 rfl (KL.take j) (by exact HT1.out _ (((Fr.refl NoM w16).alloc _).drew)) (fun _=>rfl) HD1.out (by decide) (((Fr.refl NoM w16).alloc _).drew).size ?_;intro v3 w3 h3 f3 q3;have g3:Fr NoM w16 w3:=Fr.own (e:=3) (size:=1) (n:=0) (xs:=[]) (((Fr.refl NoM w16).alloc _).drew) (by exact World.ownsRow_made w16 #[] 0 (Nat.le_refl _) (by decide) (by simp)) f3)
            | (refine zbc (enc:=encN) rfl (.tmp 106) (.tmp 109) 42 rfl w16.heap.size 3 (.int .i64 0) 8 Tryz.underlying42 za8 rfl (.slice (some ⟨w16.heap.size,0,none⟩) 0 0) 0 [] rfl (by exact(World.ownsRow_made w16 #[] 0 (Nat.le_refl _) (by decide) (by simp)).alloc (.cells #[.int .i64 (k:Int)] 3)) y1 rfl (KL.take j) (by exact HT1.out _ ((((Fr.refl NoM w16).alloc _).alloc _).drew)) (fun _=>rfl) HD1.out (by decide) ((((Fr.refl NoM w16).alloc _).alloc _).drew).size ?_;intro v3 w3 h3 f3 q3;have g3:Fr NoM w16 w3:=Fr.own (e:=3) (size:=1) (n:=0) (xs:=[]) ((((Fr.refl NoM w16).alloc _).alloc _).drew) (by exact(World.ownsRow_made w16 #[] 0 (Nat.le_refl _) (by decide) (by simp)).alloc (.cells #[.int .i64 (k:Int)] 3)) f3)
            | (refine zbc (enc:=encN) rfl (.tmp 106) (.tmp 109) 42 rfl w16.heap.size 3 (.int .i64 0) 8 Tryz.underlying42 za8 rfl (.slice (some ⟨w16.heap.size+1,0,none⟩) 0 0) 0 [] rfl (by have h:=World.ownsRow_made (base:=w16.heap.size) (e:=3) (size:=1) (w16.alloc (.cells #[.int .i64 (k:Int)] 3)) #[] 0 (by simp) (by decide) (by simp);simp only[World.size_alloc]at h;exact h) y1 rfl (KL.take j) (by exact HT1.out _ ((((Fr.refl NoM w16).alloc _).alloc _).drew)) (fun _=>rfl) HD1.out (by decide) ((((Fr.refl NoM w16).alloc _).alloc _).drew).size ?_;intro v3 w3 h3 f3 q3;have g3:Fr NoM w16 w3:=Fr.own (e:=3) (size:=1) (n:=0) (xs:=[]) ((((Fr.refl NoM w16).alloc _).alloc _).drew) (by have h:=World.ownsRow_made (base:=w16.heap.size) (e:=3) (size:=1) (w16.alloc (.cells #[.int .i64 (k:Int)] 3)) #[] 0 (by simp) (by decide) (by simp);simp only[World.size_alloc]at h;exact h) f3)
            | (refine zbd (enc:=encN) w16 (by first|exact g3.alloc _|exact g3) rfl (.tmp 110) (.tmp 112) 42 rfl 3 (.int .i64 0) 8 Tryz.underlying42 za8 rfl v3 (0+(KL.take j).length) ([]++(KL.take j).map encN) rfl (by first|exact h3.alloc _|exact h3) (.slice (some ⟨w3.heap.size,0,none⟩) 1 1) rfl [k] (by exact SliceOf.one encN w3 k 3) (fun _=>rfl) HD2.out (by decide) ?_;intro v4 w4 h4 f4)
            | (refine zbd (enc:=encN) w16 (by first|exact g3.alloc _|exact g3) rfl (.tmp 110) (.tmp 112) 42 rfl 3 (.int .i64 0) 8 Tryz.underlying42 za8 rfl v3 (0+(KL.take j).length) ([]++(KL.take j).map encN) rfl (by first|exact h3.alloc _|exact h3) (.slice (some ⟨w16.heap.size+1,0,none⟩) 1 1) rfl [k] (by have h:=(SliceOf.one encN (w16.alloc (.cells #[] 3)) k 3).fr (w:=((w16.alloc (.cells #[] 3)).alloc (.cells #[encN k] 3)).drew) f3 (by simp[Own1,Value.ownBlock]);simp only[World.size_alloc]at h;exact h) (fun _=>rfl) HD2.out (by decide) ?_;intro v4 w4 h4 f4)
            | (refine zbd (enc:=encN) w16 (by first|exact g3.alloc _|exact g3) rfl (.tmp 110) (.tmp 112) 42 rfl 3 (.int .i64 0) 8 Tryz.underlying42 za8 rfl v3 (0+(KL.take j).length) ([]++(KL.take j).map encN) rfl (by first|exact h3.alloc _|exact h3) (.slice (some ⟨w16.heap.size,0,none⟩) 1 1) rfl [k] (by exact((SliceOf.one encN w16 k 3).fr0 ((Fr.refl NoM _).alloc (.cells #[] 3))).fr (w:=((w16.alloc (.cells #[encN k] 3)).alloc (.cells #[] 3)).drew) f3 (by simp[Own1,Value.ownBlock])) (fun _=>rfl) HD2.out (by decide) ?_;intro v4 w4 h4 f4)
            | (refine zbd (enc:=encN) w16 f4 rfl (.tmp 113) (.tmp 116) 42 rfl 3 (.int .i64 0) 8 Tryz.underlying42 za8 rfl v4 _ _ rfl h4 y2 rfl (KL.drop j) (by exact HT2.out _ f4) (fun _=>rfl) HD3.out (by decide) ?_;intro v5 w5 h5 f5)
            | fail)
           all_goals
            go_wp2;go_roundw
            case rel =>
             have hb16:=HIo.out.size;refine⟨k+1,_,_,rfl,rfl,by go_num,by omega,?_,?_,HIo.out.trans f5 (fun _ _ q=>q)⟩
             ·rw[HStep.out];exact HNew.out _ f5
             ·rw[HStep.out]
              refine zb2 (base:=w16.heap.size) ?_ hb16
              have e1:0+(KL.take j).length + [k].length+(KL.drop j).length=(KL.take j++k::KL.drop j).length:=by simp;omega
              have e2:[]++(KL.take j).map encN ++ [k].map encN++(KL.drop j).map encN=(KL.take j++k::KL.drop j).map encN:=by simp
              rw[←e1,←e2];exact h5
            case measure=>simp[intOf];omega
     ·have hstep:zc9 NL BL (zab NL root) (zag NL BL (zab NL root) root n).1 n (k+1)=zc9 NL BL (zab NL root) (zag NL BL (zab NL root) root n).1 n k:=by
       rw[zcp];unfold zd7;rw[if_neg];rw[List.getD_eq_getElem?_getD,List.getD_eq_getElem?_getD,hbk,List.getElem?_eq_getElem (by omega)];exact hpick
      have HSt:=Hh hstep;clear hstep;by_cases hm:(zab NL root)[k]=true
      ·have hbn:((bk:Int) == (n:Int))=false:=by rw[beq_eq_false_iff_ne];intro h;exact hpick ⟨hm,by omega⟩
       rw[hm]at d3;clear hpick hm hneed hnl;go_wp2;go_roundw
       case rel=>exact⟨k+1,_,_,rfl,rfl,by go_num,by omega,by rw[HSt.out];exact HL.out,by rw[HSt.out];exact HFm.out,HFq.out⟩
       case measure=>simp[intOf];omega
      ·have hm':(zab NL root)[k]=false:=by simpa using hm
       rw[hm']at d3;clear hpick hm hm' hneed hnl;go_wp2;go_roundw
       case rel=>exact⟨k+1,_,_,rfl,rfl,by go_num,by omega,by rw[HSt.out];exact HL.out,by rw[HSt.out];exact HFm.out,HFq.out⟩
       case measure=>simp[intOf];omega
    ·have hk2:k=root+1:=by omega
     subst hk2;clear hk hk1;obtain⟨wl,rfl⟩:∃wl,wl=wr:=⟨_,rfl⟩;obtain⟨s0,hs0⟩:∃s,s=zag NL BL (zab NL root) root n:=⟨_,rfl⟩;obtain⟨LL,hLL⟩:∃s,s=(zc9 NL BL (zab NL root) s0.1 n (root+1)).1:=⟨_,rfl⟩;obtain⟨KL,hKL⟩:∃s,s=(zc9 NL BL (zab NL root) s0.1 n (root+1)).2:=⟨_,rfl⟩;have hat:=HAt.out;have hrow:=HRow.out;have hl:=HL.out;have hf:=HFm.out;rw[←hs0]at hat hrow hl hf;rw[←hLL]at hl;rw[←hKL]at hf;have hnext:zag NL BL (zab NL root) root (n+1)=(List.zip LL KL).foldl layF s0:=by
      rw[ze6,←hs0];unfold zrk;rw[←hLL,←hKL]
     have hlen1:=zeg NL BL (zab NL root) s0.1 n (root+1);rw[←hLL,←hKL]at hlen1;have hklt:=zoq NL BL (zab NL root) s0.1 n (root+1);rw[←hKL]at hklt;have hs0l:s0.1.length=root+1/\s0.2.length≤n*(root+1):=by rw[hs0];exact zbv NL BL (zab NL root) root n
     have hsz:=(Array.getElem?_eq_some_iff.1 HBox.out).1;have hrowb:∀q,nv.ownBlock=some q→w2.heap.size+1≤q/\q<wo.heap.size:=fun q hq=>by
      obtain⟨NV,h1,_⟩:=hrow;exact h1.lt q hq
     obtain⟨NV,hrow1,hNV,hNVs⟩:=id hl;have hlvb:=fun q hq=>hrow1.lt q hq
     have hfvb:=fun q hq=>hf.lt q hq
     obtain⟨pa,pc,rfl,hpc,hpcm,hpcell⟩:=Pairs.of_owns hrow1;obtain⟨fa,fc,rfl,hfc,hfcm,hfcell⟩:=SliceOf.of_owns (L:=KL) hf rfl;obtain⟨M,hM⟩:∃M:Nat→Prop,M=fun q=>q=w2.heap.size∨q=w2.heap.size+2∨nv.ownBlock=some q:=⟨_,rfl⟩
     obtain⟨T',hT'⟩:∃T':Nat→Prop,T'=fun q=>(T q/\q<wo.heap.size)∨(wo.heap.size≤q/\q<wl.heap.size):=⟨_,rfl⟩
     have hMlow:∀q,wo.heap.size≤q→¬M q:=fun q hq h=>by
      rw[hM]at h;rcases h with h|h|h
      ·omega
      ·omega
      ·have:=hrowb q h;omega
     have hMT:∀q,T' q→¬M q:=fun q hq h=>by
      rw[hT']at hq;rcases hq with ⟨h1,h2⟩|⟨h1,h2⟩
      ·have:=HT.out q h1
       rw[hM]at h;rcases h with h|h|h
       ·omega
       ·omega
       ·exact(HNv.out q h).2 h1
      ·exact hMlow q h1 h
     have hT2:∀q,T' q→w2.heap.size+2<q/\q<wl.heap.size:=fun q hq=>by
      have:=HFq.out.size;rw[hT']at hq;rcases hq with ⟨h1,h2⟩|⟨h1,h2⟩
      ·have:=HT.out q h1;omega
      ·omega
     have hrow':NodeRow T' (w2.heap.size+1) wl nv s0.2:=(hrow.mono (fun b hb hb'=>by rw[hT'];exact .inl ⟨hb,hb'⟩)).fr0 HFq.out;have hat':RowIs 3 encN wl w2.heap.size s0.1:=hat.fr HFq.out (fun q=>q);have hbox':=HFq.out.heap HBox.out (fun q=>q);have HS0:=Hh hs0;have HLL:=Hh hLL;have HKL:=Hh hKL;have HNext:=Hh hnext;have HLen1:=Hh hlen1;have HKlt:=Hh hklt;have HS0l:=Hh hs0l;have HSz:=Hh hsz;have HRowb:=Hh hrowb;have HNVl:=Hh hNV;have HNVs:=Hh hNVs;have HLvb:=Hh hlvb;have HFvb:=Hh hfvb;have HPC:=Hh hpcell;have HFC:=Hh hfcell;have HM:=Hh hM;have HTd:=Hh hT';have HMlow:=Hh hMlow;have HMT:=Hh hMT;have HT2:=Hh hT2;have HRow':=Hh hrow';have HAt':=Hh hat';have HBox':=Hh hbox';clear hat hrow hl hf hs0 hLL hKL hnext hlen1 hklt hs0l hsz hrowb hrow1 hNV hNVs hlvb hfvb hpcell hfcell hM hT' hMlow hMT hT2 hrow' hat' hbox';go_wp2_with fail;go_loopw [14] (fun i W=>∃(j:Nat) (nv':Value),i=.int .i64 j/\j≤NV.length/\RowIs 3 encN W w2.heap.size (((List.zip LL KL).take j).foldl layF s0).1/\W.heap[w2.heap.size+2]?=some (.cells #[nv'] 27 (0,0)) ∧
      NodeRow T' (w2.heap.size+1) W nv' (((List.zip LL KL).take j).foldl layF s0).2/\(∀q,nv'.ownBlock=some q→nv.ownBlock=some q∨wl.heap.size≤q)/\Fr M wl W) (fun i _=>NV.length-(intOf i).toNat)
     case atStart=>exact⟨0,nv,rfl,Nat.zero_le _,by simpa using HAt'.out,HBox'.out,by simpa using HRow'.out,fun q h=>.inl h,Fr.refl _ _⟩
     case round =>
      obtain⟨j,nv',rfl,hj,hat,hbox,hrow,hnv,hfr⟩:=hrel;obtain⟨sj,hsj⟩:∃s,s=((List.zip LL KL).take j).foldl layF s0:=⟨_,rfl⟩;rw[←hsj]at hat hrow;by_cases hlt:j<NV.length
      ·have hltL:j<LL.length:=by rw[←HNVl.out];exact hlt
       have hltK:j<KL.length:=by have:=HLen1.out;omega
       have hkk:KL[j]<root+1:=HKlt.out _ (List.getElem_mem _);obtain⟨NV',hr',hNl',hNs'⟩:=id hrow;obtain⟨oa,oc,rfl,hoc,hocm,_⟩:=Pairs.of_owns hr';obtain⟨b6,o6,hfa,d9⟩:=HFC.out j KL[j] (List.getElem?_eq_getElem _);obtain⟨b5,o5,hpa,d7,d8⟩:=HPC.out j NV[j] (List.getElem?_eq_getElem _);have hb6:¬M b6:=HMlow.out b6 (HFvb.out b6 (by rw[hfa];rfl)).1;have hb5:¬M b5:=HMlow.out b5 (HLvb.out b5 (by rw[hpa];rfl)).1;obtain⟨e1,e2,e3,e4⟩:=HNVs.out j NV[j] LL[j] (List.getElem?_eq_getElem _) (List.getElem?_eq_getElem _);obtain⟨⟨x1,x2⟩,hxx⟩:∃y,y=NV[j]:=⟨_,rfl⟩;rw[←hxx]at d7 d8 e1 e2 e3 e4;obtain⟨xa,xc,rfl,hx1⟩:=id e1;obtain⟨xa',xc',rfl,hx2⟩:=id e2;dsimp only at d7 d8 e1 e2 e3 e4
       have hsl:sj.1.length=root+1:=by rw[hsj,(zc3 _ _).1];exact HS0l.out.1
       have c9:wr.cell? ⟨b6,o6+j,none⟩=some (.int .i64 (KL[j]:Int)):=hfr.cell d9 hb6;have c7:=hfr.cell d7 hb5;have c8:=hfr.cell d8 hb5;have cat:=hat.cell KL[j] (by omega);have zat:=hat.frozen KL[j];have cbx:wr.cell? ⟨w2.heap.size+2,0,none⟩=some (.slice oa NV'.length oc):=by rw[cell_of_row wr _ 0 _ _ _ hbox];rfl
       have ix6:=zaa fa KL.length fc j b6 o6 hltK hfa;have ix5:=zbr pa NV.length pc j b5 o5 hlt hpa;have ix7:=zd9 w2.heap.size (root+1) (root+1) KL[j] hkk;have hstep:((List.zip LL KL).take (j+1)).foldl layF s0=(sj.1.set KL[j] NV'.length,sj.2 ++ [LL[j]]):=by
        rw[List.take_succ_eq_append_getElem (by rw[List.length_zip];omega),List.foldl_append,←hsj,List.getElem_zip];simp only[List.foldl_cons,List.foldl_nil,layF,hNl']
       have hnvb:∀q,(Value.slice oa NV'.length oc).ownBlock=some q→w2.heap.size+1≤q/\q<wr.heap.size/\q≠w2.heap.size+2/\¬T' q:=fun q hq=>by
        obtain⟨h1,h2⟩:=hr'.lt q hq;have h3:=HSz.out;have h4:=HFq.out.size;rcases hnv q hq with h|h
        ·exact⟨h1,h2,(HNv.out q h).1,fun ht=>HMT.out q ht (by rw[HM.out];exact .inr (.inr h))⟩
        ·exact⟨h1,h2,by omega,fun ht=>by have:=(HT2.out q ht).2;omega⟩
       have hbsz:NV'.length≤1000000000000:=by
        have h1:=HS0l.out.2;have h2:=HLen1.out;have h3:sj.2.length≤n*(root+1)+(root+1):=by
         rw[hsj,(zc3 _ _).2,List.length_take,List.length_zip];omega
        have h4:n*(root+1)≤999998*999999:=Nat.mul_le_mul (by omega) (by omega);omega
       have HAt3:=Hh hat;have HBox3:=Hh hbox;have HRow3:=Hh hrow;have HNv3:=Hh hnv;have HFr3:=Hh hfr;have HSj:=Hh hsj;have HStep:=Hh hstep;have HNvb:=Hh hnvb;have HBsz:=Hh hbsz;have HE1:=Hh e1;have HE2:=Hh e2;have HE3:=Hh e3;have HE4:=Hh e4;have HR':=Hh hr';have HNl':=Hh hNl';have HNs':=Hh hNs';have HXX:=Hh hxx;have HB5:=Hh hb5;have HD7:=Hh d7;have HD8:=Hh d8;clear hat hbox hrow hnv hfr hsj hstep hnvb hbsz e1 e2 e3 e4 hr' hNl' hNs' hxx hb5 hb6 d7 d8 d9 hx1 hx2 hpa hfa;go_upto_region 21 with fail;go_cut []from 118 to 141 (fun wx=>RowIs 3 encN wx w2.heap.size (sj.1.set KL[j] NV'.length)/\Fr (fun q=>q=w2.heap.size) wr wx)
       case first =>
        go_region_law (fail);all_goals
         go_wp2_with fail;go_meet
         case rel=>exact⟨HAt3.out.set KL[j] NV'.length,(Fr.setCell (Fr.refl (fun q=>q=w2.heap.size) wr) _ _ (fun _=>rfl)).drew⟩
       case rest =>
        obtain⟨hat4,hf4⟩:=hcut;obtain⟨w21,rfl⟩:∃w21,w21=wc:=⟨_,rfl⟩;have hsz:=HSz.out;have hbox4:=hf4.heap HBox3.out (by omega);have hrow4:=HRow3.out.fr hf4 (fun q hq=>by have:=(HNvb.out q hq).1;omega) (fun q hq=>by have:=(HT2.out q hq).1;omega);have hfl4:Fr M wl w21:=HFr3.out.trans hf4 (fun q _ h=>by rw[HM.out];exact .inl h);have c7:=hfl4.cell HD7.out HB5.out;have c8:=hfl4.cell HD8.out HB5.out;have cbx:w21.cell? ⟨w2.heap.size+2,0,none⟩=some (.slice oa NV'.length oc):=by rw[cell_of_row w21 _ 0 _ _ _ hbox4];rfl
        have zbx:w21.frozen? ⟨w2.heap.size+2,0,none⟩=false:=by simp[World.frozen?,hbox4]
        have cbxa:∀o,(w21.alloc o).cell? ⟨w2.heap.size+2,0,none⟩=_:=fun o=>((Fr.refl NoM w21).alloc o).cell cbx (fun q=>q)
        have HAt4:=Hh hat4;have HF4:=Hh hf4;have HBox4:=Hh hbox4;have HRow4:=Hh hrow4;have HFl4:=Hh hfl4;clear hat4 hf4 hbox4 hrow4 hfl4 hsz;go_upto_region 22 with fail;go_region_law (first
         | (refine zer (w2.heap.size+1) (by have:=HSz.out;have:=HFq.out.size;have:=HFl4.out.size;simp;omega) rfl (.tmp 134) (.tmp 139) 25 rfl 55 _ 48 Tryz.underlying25 zbi rfl (.slice oa NV'.length oc) NV' rfl (by exact za2 HR'.out ((HF4.out.alloc _).drew) (fun q hq e=>by have:=(HNvb.out q hq).1;omega)) (.slice (some ⟨w21.heap.size,0,none⟩) 1 1) rfl [(.slice xa LL[j].1.length xc,.slice xa' LL[j].2.length xc')] (by exact Pairs.one w21 _ 55) (fun y hy=>by simp at hy;subst hy;exact⟨rfl,rfl⟩) (by have:=HBsz.out;simp;omega) (by decide) ?_;intro v4 w4 h4 f4 q4;obtain⟨a4,c4,rfl,_⟩:=Pairs.of_owns h4;have f4':Fr (Own1 (.slice oa NV'.length oc)) w21 w4:=Fr.trans ((Fr.refl (Own1 (.slice oa NV'.length oc)) w21).alloc _).drew f4 (fun _ _ q=>q);have cb4:=f4'.cell cbx (fun e=>(HNvb.out _ e).2.2.1 rfl);have zb4:w4.frozen? ⟨w2.heap.size+2,0,none⟩=false:=(by simp[World.frozen?,f4'.heap HBox4.out (fun e=>(HNvb.out _ e).2.2.1 rfl)]))
         | fail)
        all_goals
         go_wp2;go_roundw
         case rel =>
          refine⟨j+1,.slice a4 (NV'.length+1) c4,by go_num,by omega,?_⟩;rw[HStep.out];exact zvp HF4.out HFl4.out f4' HAt4.out HBox4.out HNv3.out HNvb.out HT2.out HM.out HMlow.out (fun q h1 h2=>by rw[HTd.out];exact .inr ⟨h1,h2⟩) HSz.out HFq.out.size HNl'.out HNs'.out HE1.out HE2.out HE3.out HE4.out h4 q4
         case measure=>simp[intOf];omega
      ·have hjN:j=NV.length:=by omega
       have HAt2:=Hh hat;have HBox2:=Hh hbox;have HRow2:=Hh hrow;have HNv2:=Hh hnv;have HFr2:=Hh hfr;have HSj:=Hh hsj;clear hat hbox hrow hnv hfr hsj;go_wp2;go_roundw
       case rel =>
        have e1:zag NL BL (zab NL root) root (n+1)=sj:=by
         have h1:=HNVl.out;have h2:=HLen1.out;rw[HNext.out,HSj.out,hjN,List.take_of_length_le (by rw[List.length_zip];omega)]
        refine⟨n+1,T',_,by go_num,by omega,by rw[e1];exact HAt2.out,HBox2.out,by rw[e1];exact HRow2.out,fun q hq=>(HT2.out q hq).1,fun q hq=>?_,?_⟩
        ·rcases HNv2.out q hq with h|h
         ·refine⟨by have:=HRowb.out q h;have:=(HNv.out q h).1;omega,fun ht=>HMT.out q ht (by rw[HM.out];exact .inr (.inr h))⟩
         ·have h1:=HSz.out;have h2:=HFq.out.size
          exact⟨by omega,fun ht=>by have:=(HT2.out q ht).2;omega⟩
        ·refine(HFr.out.trans HFq.out (fun _ _ q=>q)).trans HFr2.out (fun q hq h=>?_)
         rw[HM.out]at h;rcases h with h|h|h
         ·omega
         ·omega
         ·have:=HRowb.out q h;omega
       case measure=>simp[intOf];omega
  ·have hn1:n=bR+1:=by omega
   subst hn1;obtain⟨va,vc,e,_⟩:=id (HRow.out.nodeL (R:=AnyB) (fun _ _=>trivial) (fun _ _=>trivial));subst e;have k0:wo.cell? ⟨w2.heap.size+2,0,none⟩=some (.slice va (zag NL BL (zab NL root) root (bR+1)).2.length vc):=by rw[cell_of_row wo _ 0 _ _ _ HBox.out];rfl
   have hb4:=HFr.out.heap HB4.out (fun q=>q);have k4:wo.cell? ⟨w.heap.size,0,none⟩=some (.slice none 0 0):=by rw[cell_of_row wo _ 0 _ _ _ hb4];rfl
   have z4:wo.frozen? ⟨w.heap.size,0,none⟩=false:=by simp[World.frozen?,hb4]
   have hz4:w.heap.size<wo.heap.size:=(Array.getElem?_eq_some_iff.1 hb4).1;have h4:(wo.setCell ⟨w.heap.size,0,none⟩ (.slice va (zag NL BL (zab NL root) root (bR+1)).2.length vc)).heap[w.heap.size]?=some (.cells #[.slice va (zag NL BL (zab NL root) root (bR+1)).2.length vc] 27 (0,0)):=by rw[heap_set hb4];rfl
   have k5:(wo.setCell ⟨w.heap.size,0,none⟩ (.slice va (zag NL BL (zab NL root) root (bR+1)).2.length vc)).cell? ⟨w.heap.size,0,none⟩=some (.slice va (zag NL BL (zab NL root) root (bR+1)).2.length vc):=by rw[cell_of_row _ _ 0 _ _ _ h4];rfl
   have HB5:=Hh hb4;have K5:=Hh k5;clear hb4 h4 k5;go_wp2;have hfin:ze7 NL BL root=(zag NL BL (zab NL root) root (bR+1)).2:=by unfold ze7;rw[List.getD_eq_getElem?_getD,HbR.out];rfl
   have HFin:=Hh hfin;clear hfin;have hs2:=HS2.out;refine bodyPost_ret (v:=.agg #[.slice va (zag NL BL (zab NL root) root (bR+1)).2.length vc]) (by simp[results,Tryz.results37,go_sem,K5.out]) rfl ?_
   have fz:Fr NoM w (wo.setCell ⟨w.heap.size,0,none⟩ (.slice va (zag NL BL (zab NL root) root (bR+1)).2.length vc)):=(HF2.out.trans HFr.out (fun _ _ q=>q)).setCell _ _ (fun h=>absurd h (Nat.lt_irrefl _));refine⟨_,rfl,?_,fz⟩;rw[HFin.out];refine⟨_,_,HRow.out.fr (M:=fun k=>k=w.heap.size) (Fr.set wo ⟨w.heap.size,0,none⟩ _) (fun b hb e=>?_) (fun b hb e=>?_),by omega,fun q hq=>by have:=HT.out q hq;omega,fun q hq=>(HNv.out q hq).2⟩
   ·obtain⟨NV,h1,_⟩:=HRow.out
    have:=(h1.lt b hb).1;omega
   ·have:=HT.out b hb;omega
theorem zvq {S:Nat→Prop}(bb root:Nat)(NL:List PL)(BL:List Nat)(w:World)(hB:BookS S w bb NL BL)(hOK:BookOK NL BL)(hr:root<NL.length)(hn:NL.length<1000000)(hlen:∀y∈NL,y.1.length<100000000/\y.2.length<100000000) :
  Calls Tryz.prog 37 #[.pointer (some ⟨bb,0,none⟩),.int .i64 (root:Int)] w fun e w'=>∃v',e=.returned (.agg #[v'])/\NodeL (fun b=>w.heap.size≤b) encN w' v' (ze7 NL BL root)/\Fr NoM w w':=by
 refine(zp8 bb root NL BL w hB hOK hr hn hlen).mono ?_
 rintro e w' ⟨v',rfl,h,f⟩;exact⟨v',rfl,h.nodeL,f⟩
end Go.Proofs.YtkofnbjjbcohgaaGreatDoor
