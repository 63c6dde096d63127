import Derived.Test.YtknniemfpkjnbaaGreatDoorZhHotDraw
import Derived.Test.YtknniemfpkjnbaaGreatDoorZhLineP
import Derived.Test.YtknniemfpkjnbaaGreatDoorZhLineR
import Derived.Test.YtknniemfpkjnbaaGreatDoorZhRefOpts
/- What the claim of FnStopLineCard needs of: StopLineFn. -/
namespace Go.Proofs.YtknniemfpkjnbaaGreatDoor
set_option linter.unusedVariables false
set_option linter.unusedSimpArgs false
open Go.RowKit
def LineA (F:List PL)(s:Int × Nat)(X:List PL)(left:Bool)(N:List Nat):Prop:=∃k,k<F.length/\X=zad ((za0 F).getD k 0)/\sOf F left k=s/\N=zdu F k left
noncomputable def yck (X:List PL)(left:Bool):List (List PL):=if left=true then zvu X else zvt X
theorem LineA.start {F:List PL}(hg:zbv (i2 F))(left:Bool):LineA F (sOf F left (F.length-1)) F left (zdu F (F.length-1) left) :=
 ⟨F.length-1,by obtain⟨p1,_⟩:=zaz hg;omega,(zkq hg).of,rfl,rfl⟩
theorem LineA.good {F X:List PL}{s:Int × Nat}{left:Bool}{N:List Nat}(h:LineA F s X left N)(hg:zbv (i2 F)):zbv (i2 X):=by
 obtain⟨k,hk,rfl,_,_⟩:=h;exact(zgs hg hk rfl).1
theorem LineA.step {F X:List PL}{s:Int × Nat}{left:Bool}{x:Nat}{N:List Nat}(h:LineA F s X left (x::N))(hg:zbv (i2 F)):∃Y,(yck X left)[x]?=some Y/\LineA F s Y (!left) N:=by
 obtain⟨k,hk,rfl,hs,hN⟩:=h;obtain⟨_,_,_,p4,_⟩:=zaz hg;have hno:isNB (xAt F k)=false:=by
  cases e:isNB (xAt F k)with
  | false=>rfl
  | true=>rw[ziq e]at hN;cases hN
 obtain⟨y,hy,hyk,hsy,_⟩:=zfm p4.book rfl hk hno left;rw[zdt p4.book rfl hk hno left hy hyk]at hN;obtain⟨rfl,rfl⟩:=List.cons.inj hN;obtain⟨_,_,r1,r2⟩:=zgs hg hk rfl;refine⟨zad ((za0 F).getD y 0),?_,y,by omega,rfl,hsy.trans hs,rfl⟩;have key:∀ {A B:List Nat}{G:List PL},za3 (za0 G) A=za3 (za0 F) B→∀(i:Nat),B[i]?=some y→(optF G A)[i]?=some (zad ((za0 F).getD y 0)):=by
  intro A B G e i hi;have e1:optF G A=(za3 (za0 G) A).map zad:=by unfold optF za3;rw[List.map_map];rfl
  rw[e1,e,List.getElem?_map];unfold za3;rw[List.getElem?_map,hi];rfl
 unfold yck;unfold zfc at hy;cases left with
 | true=>rw[if_pos rfl]at hy ⊢;exact key r1 _ hy
 | false=>rw[if_neg (by decide)]at hy ⊢;exact key r2 _ hy
theorem LineA.fin {F X:List PL}{s:Int × Nat}{left:Bool}(h:LineA F s X left [])(hg:zbv (i2 F))(ho:okTo F F.length):okOf true (i2 X)=true/\zx0 true (i2 X)=s:=by
 obtain⟨k,hk,rfl,hs,hN⟩:=h;obtain⟨_,_,_,p4,_⟩:=zaz hg;have hyes:isNB (xAt F k)=true:=by
  cases e:isNB (xAt F k)with
  | true=>rfl
  | false =>
   obtain⟨y,hy,hyk,_⟩:=zfm p4.book rfl hk e left;rw[zdt p4.book rfl hk e left hy hyk]at hN;cases hN
 obtain⟨_,hc,_⟩:=zgs hg hk rfl;unfold okOf zx0;rw[if_pos rfl,zdr,hc,Bool.true_and];refine⟨ho k hk hyes,?_⟩;obtain⟨s1,s2⟩:=zva hyes;rw[←hs];unfold sOf;cases left with
 | true=>rw[if_pos rfl];exact s1.symm
 | false=>rw[if_neg (by decide)];exact s2.symm
set_option maxRecDepth 8000 in
set_option maxHeartbeats 16000000 in
theorem fnStopLine_any (cv:Value)(L:List Int)(W0:World)(h:CodeOK W0 cv L):Calls Tryz.prog 4 #[cv] W0 fun e W'=>e=.returned (.bool true)/\Fr NoM W0 W':=by
 obtain⟨big,hbig⟩:∃big,big=decide (65536<L.length):=⟨_,rfl⟩;have hv:=zyt cv L W0 h;rw[←hbig]at hv;have HV:=Hh hv;have HD:=Hh (fun(W:World) (f:Fr NoM W0 W)=>zox cv L W (h.fr0 f));have G0:=Hh (Fr.refl NoM W0);obtain⟨ca,cc,rfl,zz⟩:=id h.1;clear zz h hbig hv;go_enter Tryz.func4,Tryz.ntmps4;go_wp2_with fail;(with_reducible refine HV.out.mono ?_);rintro e x0 ⟨rfl,hx⟩;have hx:=hx.symm;subst hx;cases big with
 | true =>
  go_wp2_with fail;go_ret;exact⟨rfl,G0.out⟩
 | false =>
  have HD0:=Hh (HD.out _ G0.out);clear HD HV;go_wp2_with fail;(with_reducible refine HD0.out.mono ?_);rintro e x1 ⟨v,Fi,left,rfl,n1,f1,_⟩;obtain⟨g,hg⟩:∃g:Bool,(g=true↔zbv Fi):=by
   by_cases h:zbv Fi
   ·exact⟨true,by simp[h]⟩
   ·exact⟨false,by simp[h]⟩
  obtain⟨ok,hok⟩:∃ok,ok=zgt g Fi:=⟨_,rfl⟩;obtain⟨N,hNl⟩:∃N,N=zgd g Fi left:=⟨_,rfl⟩;obtain⟨va,vc,rfl,zz⟩:=id n1;obtain⟨W1,hW1⟩:∃W1,W1=x1.alloc (.cells #[.slice va Fi.length vc] 31):=⟨_,rfl⟩;obtain⟨b3,hb3⟩:∃b3,b3=x1.heap.size:=⟨_,rfl⟩;have e3:W1.heap[b3]?=some (.cells #[.slice va Fi.length vc] 31 (0,0)):=by rw[hW1,hb3];exact heap_alloc_new x1 _
  have g1:Fr NoM x1 W1:=by rw[hW1];exact(Fr.refl NoM x1).alloc _
  have hN1:NodeL (fun q=>q≠b3/\q<W1.heap.size) encI W1 (.slice va Fi.length vc) Fi:=(n1.cap.mono (fun q hq=>⟨by have h:=hq.2;omega,by have h:=hq.2;have h2:=g1.size;omega⟩)).fr0 g1;have G1:=Hh (f1.trans g1 (fun _ _ q=>q));have HB3:=Hh (show W0.heap.size≤b3 from by have h:=f1.size;omega);have HBx:=Hh (show b3<W1.heap.size from by rw[hW1,World.size_alloc];omega);have HIn:=Hh (fun(W:World) (f:Fr NoM W1 W)=>(⟨by rw[cell_of_row W _ 0 _ _ _ (f.heap e3 (fun q=>q))];rfl,hN1.fr0 f,f.heap e3 (fun q=>q)⟩:W.cell? ⟨b3,0,none⟩=some (.slice va Fi.length vc)/\NodeL (fun q=>q≠b3/\q<W1.heap.size) encI W (.slice va Fi.length vc) Fi/\W.heap[b3]?=some (.cells #[.slice va Fi.length vc] 31 (0,0))));have HP:=Hh (fun(w:World) (f:Fr NoM W1 w)=>zmz (.slice va Fi.length vc) Fi left w (HIn.out w f).2.1 g hg ok hok N hNl);have HR:=Hh (fun(w:World) (f:Fr NoM W1 w)=>zmy (.slice va Fi.length vc) Fi left w (HIn.out w f).2.1 g hg ok hok N hNl);have HG:=Hh hg;have HOk:=Hh hok;have HNl:=Hh hNl;clear n1 f1 g1 zz e3 hN1 hok hNl hg HD0;have k1:=(HIn.out W1 (Fr.refl _ _)).1;go_upto_region 4 with fail;rw[←hW1,←hb3];clear hW1 hb3;go_wp2_with fail;(with_reducible refine(HP.out _ (Fr.refl _ _)).mono ?_);rintro e w2 ⟨l2,rfl,r2,f2⟩;obtain⟨l2a,l2c,rfl⟩:=r2.shape;have F2:=Hh f2;have HR2:=Hh r2;have k2:=(HIn.out w2 f2).1;clear f2 r2 k1;go_wp2_with fail;(with_reducible refine(HR.out _ F2.out).mono ?_);rintro e w3 ⟨l3,rfl,r3,f3⟩;obtain⟨l3a,l3c,rfl⟩:=r3.shape;have F3:=Hh (F2.out.trans f3 (fun _ _ q=>q));have HR2':=Hh (HR2.out.fr f3 (fun _ _ q=>q));have hvi:=zuy _ _ _ _ w3 HR2'.out.nats.ints r3.nats.ints;rw[decide_eq_true rfl]at hvi;have HVi:=Hh hvi;have k3:=(HIn.out w3 F3.out).1;clear f3 r3 k2 hvi HR2;cases ok with
  | false =>
   have hl:N.length=0:=by
    rw[HNl.out];unfold zgd;rw[←HOk.out,if_neg (by decide)];rfl
   obtain⟨n0,hn0⟩:∃n0,n0=N.length:=⟨_,rfl⟩;rw[←hn0]at hl HVi HR2' ⊢;subst hl;clear hn0;go_wp2_with fail;(with_reducible refine HVi.out.mono ?_);rintro e x4 ⟨rfl,q4,rfl⟩;have G4:=Hh ((G1.out.trans F3.out (fun _ _ q=>q)).trans (zae w3 q4) (fun _ _ q=>q));clear k3;go_wp2;go_ret;exact⟨rfl,G4.out⟩
  | true =>
   have hgt:g=true:=by have h1:=HOk.out;unfold zgt at h1;exact(Bool.and_eq_true_iff.1 h1.symm).1
   subst hgt;obtain⟨F,rfl⟩:=zer (HG.out.1 rfl);have HGd:=Hh (HG.out.1 rfl);have HTo:=Hh (zem.1 HOk.out.symm);obtain⟨s,hs⟩:∃s,s=zcu true (i2 F) left:=⟨_,rfl⟩;obtain⟨sT,sP⟩:=s;have HLn:=Hh (show LineA F (sT,sP) F left N from by
    have h:=LineA.start HGd.out left;rw[HNl.out,hs];unfold zgd zcu;rw[←HOk.out,if_pos rfl,if_pos rfl,zdr,zbc];exact h)
   have HNl2:=Hh (show N.length<1000000 from by
    obtain⟨p1,p2,_,p4,_⟩:=zaz HGd.out;rw[HNl.out];unfold zgd;rw[←HOk.out,if_pos rfl,zdr,zbc];have:=zn8 p4.book rfl (F.length-1) (by omega) left;omega)
   obtain⟨A1,hA1⟩:∃A1,A1=zcu true (i2 F) true:=⟨_,rfl⟩;obtain⟨A2,hA2⟩:∃A2,A2=zcu true (i2 F) false:=⟨_,rfl⟩;obtain⟨T1,P1⟩:=A1;obtain⟨T2,P2⟩:=A2;have HE1:=Hh (fun(w:World) (f:Fr NoM W1 w)=>zn9 (.slice va (i2 F).length vc) (i2 F) w (HIn.out w f).2.1 true HG.out true HOk.out T1 (P1:Int) (by rw[←hA1]) (by rw[←hA1]));have HE2:=Hh (fun(w:World) (f:Fr NoM W1 w)=>zm0 (.slice va (i2 F).length vc) (i2 F) w (HIn.out w f).2.1 true HG.out true HOk.out T2 (P2:Int) (by rw[←hA2]) (by rw[←hA2]));have HS1:=Hh (show left=true→T1=sT/\P1=sP from fun e=>by subst e;exact⟨congrArg Prod.fst (hA1.trans hs.symm),congrArg Prod.snd (hA1.trans hs.symm)⟩);have HS2:=Hh (show left=false→T2=sT/\P2=sP from fun e=>by subst e;exact⟨congrArg Prod.fst (hA2.trans hs.symm),congrArg Prod.snd (hA2.trans hs.symm)⟩);clear hs hA1 hA2;go_wp2_with fail;(with_reducible refine HVi.out.mono ?_);rintro e x4 ⟨rfl,q4,hx4⟩;have f4:Fr NoM w3 x4:=by rw[hx4];exact zae w3 q4
   have F4:=Hh (F3.out.trans f4 (fun _ _ q=>q));have HR4:=Hh (HR2'.out.fr f4 (fun _ _ q=>q));have k4:=(HIn.out x4 F4.out).1;clear f4 hx4 k3 HVi HR2';go_wp2_with fail;(with_reducible refine(HE1.out _ F4.out).mono ?_);rintro e x5 ⟨rfl,f5⟩;obtain⟨W5,hW5⟩:∃W5,W5=x5.alloc (.cells #[.int .i64 T1,.int .i64 (P1:Int)] 43):=⟨_,rfl⟩;obtain⟨b9,hb9⟩:∃b9,b9=x5.heap.size:=⟨_,rfl⟩;have e9:W5.heap[b9]?=some (.cells #[.int .i64 T1,.int .i64 (P1:Int)] 43 (0,0)):=by rw[hW5,hb9];exact heap_alloc_new x5 _
   have g5:Fr NoM x4 W5:=f5.trans (show Fr NoM x5 W5 by rw[hW5];exact(Fr.refl NoM x5).alloc _) (fun _ _ q=>q);have F5:=Hh (F4.out.trans g5 (fun _ _ q=>q));have HR5:=Hh (HR4.out.fr g5 (fun _ _ q=>q));have HB9:=Hh (show W1.heap.size≤b9/\b9<W5.heap.size/\(∀q,(Value.slice (some ⟨l2a,0,none⟩) N.length l2c).ownBlock=some q→W1.heap.size≤q/\q≠b9)from⟨by have h1:=F4.out.size;have h2:=f5.size;omega,by rw[hW5,World.size_alloc];omega,fun q hq=>by have h1:=HR4.out.own.lt q hq;have h2:=f5.size;omega⟩);have E9:=Hh e9;clear f5 g5 k4 HR4;go_upto_region 11 with fail;rw[←hW5,←hb9];clear hW5 hb9 e9;have k5:=(HIn.out W5 F5.out).1;cases left with
   | true =>
    obtain⟨rfl,rfl⟩:=HS1.out rfl;have HIn9:=Hh (fun(W:World) (f:Fr (fun q=>q=b3) W5 W)=>show W.cell? ⟨b9,0,none⟩=some (.int .i64 T1)/\W.cell? ⟨b9,1,none⟩=some (.int .i64 (P1:Int))from by
     have h9:=f.heap E9.out (fun e=>by have:=HB9.out.1;have:=HBx.out;omega);exact⟨by rw[cell_of_row W _ 0 _ _ _ h9];rfl,by rw[cell_of_row W _ 1 _ _ _ h9];rfl⟩)
    have HE3:=Hh (HIn.out W5 F5.out).2;have HRl:=Hh (fun(W:World) (f:Fr (fun q=>q=b3) W5 W)=>HR5.out.nats.fr f (fun _ q hq e=>by have h:=(HB9.out.2.2 q hq).1;have:=HBx.out;omega));have HFin:=Hh (fun(W:World) (f:Fr (fun q=>q=b3) W5 W)=>((G1.out.trans F5.out (fun _ _ q=>q)).trans f (fun q hq e=>by have:=HB3.out;omega):Fr NoM W0 W));have HZ5:=Hh (show b3<W5.heap.size from by have:=HBx.out;have:=F5.out.size;omega);clear k5;go_wp2_with fail;go_loopw [4,11] (fun v4 t W=>∃(i:Nat) (lf:Bool) (X:List PL) (fv:Value),v4=.bool lf/\t=.int .i64 i/\i≤N.length/\LineA F (T1,P1) X lf (N.drop i)/\W.heap[b3]?=some (.cells #[fv] 31 (0,0))/\NodeL (fun q=>q≠b3) encI W fv (i2 X)/\Fr (fun q=>q=b3) W5 W) (fun _ t _=>N.length-(intOf t).toNat)
    case atStart=>exact⟨0,_,F,_,rfl,rfl,Nat.zero_le _,HLn.out,HE3.out.2,HE3.out.1.mono (fun q hq=>hq.1),Fr.refl _ _⟩
    case round =>
     obtain⟨i,lf,X,fv,rfl,rfl,hi,hln,hbx,hnd,hf⟩:=hrel;obtain⟨w7,rfl⟩:∃w7,w7=wr:=⟨_,rfl⟩;obtain⟨fa,fc,rfl,zz⟩:=id hnd;have HGx:=Hh (hln.good HGd.out);have k7:w7.cell? ⟨b3,0,none⟩=some (.slice fa (i2 X).length fc):=by rw[cell_of_row w7 _ 0 _ _ _ hbx];rfl
     have HZ7:=Hh (show b3<w7.heap.size from by have:=HZ5.out;have:=hf.size;omega);by_cases hlt:i<N.length
     ·have HOp:=Hh (zoa (.slice fa (i2 X).length fc) X w7 hnd HGx.out)
      obtain⟨x,hx⟩:∃x,N[i]?=some x:=⟨_,List.getElem?_eq_getElem hlt⟩;have hdr:N.drop i=x::N.drop (i+1):=by
       rw[List.drop_eq_getElem_cons hlt];rw[List.getElem?_eq_getElem hlt]at hx;rw[Option.some.inj hx]
      rw[hdr]at hln;obtain⟨Y,hY,hln2⟩:=hln.step HGd.out;have HLn2:=Hh hln2;have HY:=Hh hY;have HBox:=Hh hbx;have HF:=Hh hf;have HX:=Hh hx;clear zz hln hnd hf hx hdr hY hln2 hbx;go_wp2_with fail;(with_reducible refine HOp.out.mono ?_);rintro e w8 ⟨lv,rv,VL,VR,TL,TR,rfl,gl,gr,f8⟩;have g8:Fr (fun q=>q=b3) W5 w8:=HF.out.trans f8 (fun _ _ q=>q.elim);have hb8:=f8.heap HBox.out (fun q=>q);have u0:w8.cell? ⟨b3,0,none⟩=some (.slice fa (i2 X).length fc):=by rw[cell_of_row w8 _ 0 _ _ _ hb8];rfl
      have u1:w8.frozen? ⟨b3,0,none⟩=false:=by simp[World.frozen?,hb8]
      obtain⟨_,_,ee,_,_,hcc⟩:=HRl.out w8 g8;obtain⟨rfl,hz,rfl⟩:=Value.slice.inj ee;obtain⟨lb,lo,hla,hc2⟩:=hcc i x HX.out;have ix:=za7 (some ⟨l2a,0,none⟩) N.length l2c i lb lo hlt hla;unfold encN at hc2;have HG8:=Hh g8;have HB8:=Hh hb8;have HF8:=Hh f8.size;clear ee hz hcc hla hb8 g8 f8 k7;cases lf with
      | true =>
       obtain⟨oa,oc,rfl,hcl⟩:=id gl.cell;have hxl:x<VL.length:=by
        have h1:=(List.getElem?_eq_some_iff.1 HY.out).1;have h2:=gl.len;exact Nat.lt_of_lt_of_le h1 (Nat.le_of_eq h2.symm)
       obtain⟨nv,hnv⟩:∃nv,VL[x]?=some nv:=⟨_,List.getElem?_eq_getElem hxl⟩;obtain⟨b2,o2,ha,hcc2⟩:=hcl x nv hnv;have ix2:=zd1 oa VL.length oc x b2 o2 hxl ha;have HNv:=Hh ((gl.nodes x nv Y hnv HY.out).nodeL.mono (R':=fun q=>w7.heap.size≤q) (fun q hq=>(gl.sep q hq).1));obtain⟨na,nc,rfl⟩:=HNv.out.len_val;have HWs:=Hh (show(w8.setCell ⟨b3,0,none⟩ (.slice na Y.length nc)).heap[b3]?=some (.cells #[.slice na Y.length nc] 31 (0,0))from by rw[heap_set HB8.out];rfl);have HNs:=Hh (show NodeL (fun q=>q≠b3) encI (w8.setCell ⟨b3,0,none⟩ (.slice na Y.length nc)) (.slice na Y.length nc) (i2 Y)from((HNv.out.fr (Fr.set w8 ⟨b3,0,none⟩ _) (fun q hq e=>by have e:q=b3:=e;have hq:w7.heap.size≤q:=hq;have:=HZ7.out;omega)).mono (fun q hq=>by have hq:w7.heap.size≤q:=hq;have:=HZ7.out;omega)).toI);have HFs:=Hh (HG8.out.setCell ⟨b3,0,none⟩ (.slice na Y.length nc) (fun _=>rfl));clear hnv ha hcl gl gr;go_wp2;go_roundw
       case rel=>exact⟨i+1,_,Y,_,rfl,by go_num,by omega,HLn2.out,HWs.out,HNs.out,HFs.out⟩
       case measure=>simp[intOf];omega
      | false =>
       obtain⟨oa,oc,rfl,hcl⟩:=id gr.cell;have hxl:x<VR.length:=by
        have h1:=(List.getElem?_eq_some_iff.1 HY.out).1;have h2:=gr.len;exact Nat.lt_of_lt_of_le h1 (Nat.le_of_eq h2.symm)
       obtain⟨nv,hnv⟩:∃nv,VR[x]?=some nv:=⟨_,List.getElem?_eq_getElem hxl⟩;obtain⟨b2,o2,ha,hcc2⟩:=hcl x nv hnv;have ix2:=zd1 oa VR.length oc x b2 o2 hxl ha;have HNv:=Hh ((gr.nodes x nv Y hnv HY.out).nodeL.mono (R':=fun q=>w7.heap.size≤q) (fun q hq=>(gr.sep q hq).1));obtain⟨na,nc,rfl⟩:=HNv.out.len_val;have HWs:=Hh (show(w8.setCell ⟨b3,0,none⟩ (.slice na Y.length nc)).heap[b3]?=some (.cells #[.slice na Y.length nc] 31 (0,0))from by rw[heap_set HB8.out];rfl);have HNs:=Hh (show NodeL (fun q=>q≠b3) encI (w8.setCell ⟨b3,0,none⟩ (.slice na Y.length nc)) (.slice na Y.length nc) (i2 Y)from((HNv.out.fr (Fr.set w8 ⟨b3,0,none⟩ _) (fun q hq e=>by have e:q=b3:=e;have hq:w7.heap.size≤q:=hq;have:=HZ7.out;omega)).mono (fun q hq=>by have hq:w7.heap.size≤q:=hq;have:=HZ7.out;omega)).toI);have HFs:=Hh (HG8.out.setCell ⟨b3,0,none⟩ (.slice na Y.length nc) (fun _=>rfl));clear hnv ha hcl gl gr;go_wp2;go_roundw
       case rel=>exact⟨i+1,_,Y,_,rfl,by go_num,by omega,HLn2.out,HWs.out,HNs.out,HFs.out⟩
       case measure=>simp[intOf];omega
     ·obtain rfl:i=N.length:=by omega
      rw[List.drop_length]at hln;obtain⟨hok,hnum⟩:=hln.fin HGd.out HTo.out;have HNo:=Hh (zgu (.slice fa (i2 X).length fc) (i2 X) w7 hnd true (by simp[HGx.out]) true hok.symm T1 (P1:Int) (by rw[hnum]) (by rw[hnum]));have HF:=Hh hf;clear zz hln hnd hf hbx hok hnum;go_wp2_with fail;(with_reducible refine HNo.out.mono ?_);rintro e x8 ⟨rfl,f8⟩;obtain⟨W8,hW8⟩:∃W8,W8=x8.alloc (.cells #[.int .i64 T1,.int .i64 (P1:Int)] 43):=⟨_,rfl⟩;obtain⟨b15,hb15⟩:∃b15,b15=x8.heap.size:=⟨_,rfl⟩;have e15:W8.heap[b15]?=some (.cells #[.int .i64 T1,.int .i64 (P1:Int)] 43 (0,0)):=by rw[hW8,hb15];exact heap_alloc_new x8 _
      have g8:Fr (fun q=>q=b3) W5 W8:=(HF.out.trans f8 (fun _ _ q=>q.elim)).trans (show Fr NoM x8 W8 by rw[hW8];exact(Fr.refl NoM x8).alloc _) (fun _ _ q=>q.elim);obtain⟨d0,d1⟩:=HIn9.out W8 g8;have d2:W8.cell? ⟨b15,0,none⟩=some (.int .i64 T1):=by rw[cell_of_row W8 _ 0 _ _ _ e15];rfl
      have d3:W8.cell? ⟨b15,1,none⟩=some (.int .i64 (P1:Int)):=by rw[cell_of_row W8 _ 1 _ _ _ e15];rfl
      have HG8:=Hh (HFin.out W8 g8);clear f8 g8 e15 k7 HNo;go_upto_region 22 with fail;rw[←hW8,←hb15];clear hW8 hb15;go_wp2_with fail;go_ret;exact⟨by simp,HG8.out⟩
   | false =>
    obtain⟨rfl,rfl⟩:=HS2.out rfl;go_wp2_with fail;(with_reducible refine(HE2.out _ F5.out).mono ?_);rintro e x6 ⟨rfl,f6⟩;have e9:=f6.heap E9.out (fun q=>q);have u0:x6.cell? ⟨b9,0,none⟩=some (.int .i64 T1):=by rw[cell_of_row x6 _ 0 _ _ _ e9];rfl
    have u1:x6.cell? ⟨b9,1,none⟩=some (.int .i64 (P1:Int)):=by rw[cell_of_row x6 _ 1 _ _ _ e9];rfl
    have u2:x6.frozen? ⟨b9,0,none⟩=false:=by simp[World.frozen?,e9]
    have u3:x6.frozen? ⟨b9,1,none⟩=false:=by simp[World.frozen?,e9]
    obtain⟨W6,hW6⟩:∃W6,W6=(x6.setCell ⟨b9,0,none⟩ (.int .i64 T2)).setCell ⟨b9,1,none⟩ (.int .i64 (P2:Int)):=⟨_,rfl⟩;have e6:(x6.setCell ⟨b9,0,none⟩ (.int .i64 T2)).heap[b9]?=some (.cells #[.int .i64 T2,.int .i64 (P1:Int)] 43 (0,0)):=by rw[heap_set e9];rfl
    have EX:=Hh (show W6.heap[b9]?=some (.cells #[.int .i64 T2,.int .i64 (P2:Int)] 43 (0,0))from by rw[hW6,heap_set e6];rfl);have FX:=Hh (show Fr (fun q=>q=b9) W5 W6 from by rw[hW6];exact((f6.any (M:=fun q=>q=b9)).setCell _ _ (fun _=>rfl)).setCell _ _ (fun _=>rfl));have F6:=Hh (show Fr NoM W1 W6 from F5.out.trans FX.out (fun q hq e=>by have:=HB9.out.1;have e:q=b9:=e;omega));have HR6:=Hh (HR5.out.fr FX.out (fun q hq e=>(HB9.out.2.2 q hq).2 e));clear f6 e9 e6 k5;go_upto_region 13 with fail;rw[←hW6];clear hW6 u0 u1 u2 u3;have HIn9:=Hh (fun(W:World) (f:Fr (fun q=>q=b3) W6 W)=>show W.cell? ⟨b9,0,none⟩=some (.int .i64 T2)/\W.cell? ⟨b9,1,none⟩=some (.int .i64 (P2:Int))from by
     have h9:=f.heap EX.out (fun e=>by have:=HB9.out.1;have:=HBx.out;omega);exact⟨by rw[cell_of_row W _ 0 _ _ _ h9];rfl,by rw[cell_of_row W _ 1 _ _ _ h9];rfl⟩)
    have HE3:=Hh (HIn.out W6 F6.out).2;have HRl:=Hh (fun(W:World) (f:Fr (fun q=>q=b3) W6 W)=>HR6.out.nats.fr f (fun _ q hq e=>by have h:=(HB9.out.2.2 q hq).1;have:=HBx.out;omega));have HFin:=Hh (fun(W:World) (f:Fr (fun q=>q=b3) W6 W)=>((G1.out.trans F6.out (fun _ _ q=>q)).trans f (fun q hq e=>by have:=HB3.out;omega):Fr NoM W0 W));have HZ5:=Hh (show b3<W6.heap.size from by have:=HBx.out;have:=F6.out.size;omega);go_wp2_with fail;go_loopw [4,11] (fun v4 t W=>∃(i:Nat) (lf:Bool) (X:List PL) (fv:Value),v4=.bool lf/\t=.int .i64 i/\i≤N.length/\LineA F (T2,P2) X lf (N.drop i)/\W.heap[b3]?=some (.cells #[fv] 31 (0,0))/\NodeL (fun q=>q≠b3) encI W fv (i2 X)/\Fr (fun q=>q=b3) W6 W) (fun _ t _=>N.length-(intOf t).toNat)
    case atStart=>exact⟨0,_,F,_,rfl,rfl,Nat.zero_le _,HLn.out,HE3.out.2,HE3.out.1.mono (fun q hq=>hq.1),Fr.refl _ _⟩
    case round =>
     obtain⟨i,lf,X,fv,rfl,rfl,hi,hln,hbx,hnd,hf⟩:=hrel;obtain⟨w7,rfl⟩:∃w7,w7=wr:=⟨_,rfl⟩;obtain⟨fa,fc,rfl,zz⟩:=id hnd;have HGx:=Hh (hln.good HGd.out);have k7:w7.cell? ⟨b3,0,none⟩=some (.slice fa (i2 X).length fc):=by rw[cell_of_row w7 _ 0 _ _ _ hbx];rfl
     have HZ7:=Hh (show b3<w7.heap.size from by have:=HZ5.out;have:=hf.size;omega);by_cases hlt:i<N.length
     ·have HOp:=Hh (zoa (.slice fa (i2 X).length fc) X w7 hnd HGx.out)
      obtain⟨x,hx⟩:∃x,N[i]?=some x:=⟨_,List.getElem?_eq_getElem hlt⟩;have hdr:N.drop i=x::N.drop (i+1):=by
       rw[List.drop_eq_getElem_cons hlt];rw[List.getElem?_eq_getElem hlt]at hx;rw[Option.some.inj hx]
      rw[hdr]at hln;obtain⟨Y,hY,hln2⟩:=hln.step HGd.out;have HLn2:=Hh hln2;have HY:=Hh hY;have HBox:=Hh hbx;have HF:=Hh hf;have HX:=Hh hx;clear zz hln hnd hf hx hdr hY hln2 hbx;go_wp2_with fail;(with_reducible refine HOp.out.mono ?_);rintro e w8 ⟨lv,rv,VL,VR,TL,TR,rfl,gl,gr,f8⟩;have g8:Fr (fun q=>q=b3) W6 w8:=HF.out.trans f8 (fun _ _ q=>q.elim);have hb8:=f8.heap HBox.out (fun q=>q);have u0:w8.cell? ⟨b3,0,none⟩=some (.slice fa (i2 X).length fc):=by rw[cell_of_row w8 _ 0 _ _ _ hb8];rfl
      have u1:w8.frozen? ⟨b3,0,none⟩=false:=by simp[World.frozen?,hb8]
      obtain⟨_,_,ee,_,_,hcc⟩:=HRl.out w8 g8;obtain⟨rfl,hz,rfl⟩:=Value.slice.inj ee;obtain⟨lb,lo,hla,hc2⟩:=hcc i x HX.out;have ix:=za7 (some ⟨l2a,0,none⟩) N.length l2c i lb lo hlt hla;unfold encN at hc2;have HG8:=Hh g8;have HB8:=Hh hb8;have HF8:=Hh f8.size;clear ee hz hcc hla hb8 g8 f8 k7;cases lf with
      | true =>
       obtain⟨oa,oc,rfl,hcl⟩:=id gl.cell;have hxl:x<VL.length:=by
        have h1:=(List.getElem?_eq_some_iff.1 HY.out).1;have h2:=gl.len;exact Nat.lt_of_lt_of_le h1 (Nat.le_of_eq h2.symm)
       obtain⟨nv,hnv⟩:∃nv,VL[x]?=some nv:=⟨_,List.getElem?_eq_getElem hxl⟩;obtain⟨b2,o2,ha,hcc2⟩:=hcl x nv hnv;have ix2:=zd1 oa VL.length oc x b2 o2 hxl ha;have HNv:=Hh ((gl.nodes x nv Y hnv HY.out).nodeL.mono (R':=fun q=>w7.heap.size≤q) (fun q hq=>(gl.sep q hq).1));obtain⟨na,nc,rfl⟩:=HNv.out.len_val;have HWs:=Hh (show(w8.setCell ⟨b3,0,none⟩ (.slice na Y.length nc)).heap[b3]?=some (.cells #[.slice na Y.length nc] 31 (0,0))from by rw[heap_set HB8.out];rfl);have HNs:=Hh (show NodeL (fun q=>q≠b3) encI (w8.setCell ⟨b3,0,none⟩ (.slice na Y.length nc)) (.slice na Y.length nc) (i2 Y)from((HNv.out.fr (Fr.set w8 ⟨b3,0,none⟩ _) (fun q hq e=>by have e:q=b3:=e;have hq:w7.heap.size≤q:=hq;have:=HZ7.out;omega)).mono (fun q hq=>by have hq:w7.heap.size≤q:=hq;have:=HZ7.out;omega)).toI);have HFs:=Hh (HG8.out.setCell ⟨b3,0,none⟩ (.slice na Y.length nc) (fun _=>rfl));clear hnv ha hcl gl gr;go_wp2;go_roundw
       case rel=>exact⟨i+1,_,Y,_,rfl,by go_num,by omega,HLn2.out,HWs.out,HNs.out,HFs.out⟩
       case measure=>simp[intOf];omega
      | false =>
       obtain⟨oa,oc,rfl,hcl⟩:=id gr.cell;have hxl:x<VR.length:=by
        have h1:=(List.getElem?_eq_some_iff.1 HY.out).1;have h2:=gr.len;exact Nat.lt_of_lt_of_le h1 (Nat.le_of_eq h2.symm)
       obtain⟨nv,hnv⟩:∃nv,VR[x]?=some nv:=⟨_,List.getElem?_eq_getElem hxl⟩;obtain⟨b2,o2,ha,hcc2⟩:=hcl x nv hnv;have ix2:=zd1 oa VR.length oc x b2 o2 hxl ha;have HNv:=Hh ((gr.nodes x nv Y hnv HY.out).nodeL.mono (R':=fun q=>w7.heap.size≤q) (fun q hq=>(gr.sep q hq).1));obtain⟨na,nc,rfl⟩:=HNv.out.len_val;have HWs:=Hh (show(w8.setCell ⟨b3,0,none⟩ (.slice na Y.length nc)).heap[b3]?=some (.cells #[.slice na Y.length nc] 31 (0,0))from by rw[heap_set HB8.out];rfl);have HNs:=Hh (show NodeL (fun q=>q≠b3) encI (w8.setCell ⟨b3,0,none⟩ (.slice na Y.length nc)) (.slice na Y.length nc) (i2 Y)from((HNv.out.fr (Fr.set w8 ⟨b3,0,none⟩ _) (fun q hq e=>by have e:q=b3:=e;have hq:w7.heap.size≤q:=hq;have:=HZ7.out;omega)).mono (fun q hq=>by have hq:w7.heap.size≤q:=hq;have:=HZ7.out;omega)).toI);have HFs:=Hh (HG8.out.setCell ⟨b3,0,none⟩ (.slice na Y.length nc) (fun _=>rfl));clear hnv ha hcl gl gr;go_wp2;go_roundw
       case rel=>exact⟨i+1,_,Y,_,rfl,by go_num,by omega,HLn2.out,HWs.out,HNs.out,HFs.out⟩
       case measure=>simp[intOf];omega
     ·obtain rfl:i=N.length:=by omega
      rw[List.drop_length]at hln;obtain⟨hok,hnum⟩:=hln.fin HGd.out HTo.out;have HNo:=Hh (zgu (.slice fa (i2 X).length fc) (i2 X) w7 hnd true (by simp[HGx.out]) true hok.symm T2 (P2:Int) (by rw[hnum]) (by rw[hnum]));have HF:=Hh hf;clear zz hln hnd hf hbx hok hnum;go_wp2_with fail;(with_reducible refine HNo.out.mono ?_);rintro e x8 ⟨rfl,f8⟩;obtain⟨W8,hW8⟩:∃W8,W8=x8.alloc (.cells #[.int .i64 T2,.int .i64 (P2:Int)] 43):=⟨_,rfl⟩;obtain⟨b15,hb15⟩:∃b15,b15=x8.heap.size:=⟨_,rfl⟩;have e15:W8.heap[b15]?=some (.cells #[.int .i64 T2,.int .i64 (P2:Int)] 43 (0,0)):=by rw[hW8,hb15];exact heap_alloc_new x8 _
      have g8:Fr (fun q=>q=b3) W6 W8:=(HF.out.trans f8 (fun _ _ q=>q.elim)).trans (show Fr NoM x8 W8 by rw[hW8];exact(Fr.refl NoM x8).alloc _) (fun _ _ q=>q.elim);obtain⟨d0,d1⟩:=HIn9.out W8 g8;have d2:W8.cell? ⟨b15,0,none⟩=some (.int .i64 T2):=by rw[cell_of_row W8 _ 0 _ _ _ e15];rfl
      have d3:W8.cell? ⟨b15,1,none⟩=some (.int .i64 (P2:Int)):=by rw[cell_of_row W8 _ 1 _ _ _ e15];rfl
      have HG8:=Hh (HFin.out W8 g8);clear f8 g8 e15 k7 HNo;go_upto_region 22 with fail;rw[←hW8,←hb15];clear hW8 hb15;go_wp2_with fail;go_ret;exact⟨by simp,HG8.out⟩
end Go.Proofs.YtknniemfpkjnbaaGreatDoor
