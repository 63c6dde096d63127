import Derived.Test.YtknniemfpkjnbaaGreatDoorZhRefAll
/- What the claim of FnStopLineCard needs of: LineR. -/
namespace Go.Proofs.YtknniemfpkjnbaaGreatDoor
set_option linter.unusedVariables false
set_option linter.unusedSimpArgs false
open Go.RowKit
set_option maxRecDepth 8000 in
set_option maxHeartbeats 16000000 in
theorem zmy {R:Nat→Prop}(nv:Value)(Fi:List (List Int × List Int))(left:Bool)(w:World)(h:NodeL R encI w nv Fi)(g:Bool)(hg:g=true↔zbv Fi)(ok:Bool)(hok:ok=zgt g Fi)(N:List Nat)(hN:N=zgd g Fi left) :
  Calls Tryz.prog 9 #[.agg #[nv],.bool left] w fun e w'=>ztc ok N w e w':=by
 obtain⟨w1,hw1⟩:∃w1,w1=(w.alloc (.cells #[nv] 31)).alloc (.cells #[] 3):=⟨_,rfl⟩;have f1:Fr NoM w w1:=by rw[hw1];exact((Fr.refl NoM w).alloc _).alloc _
 have hs1:w1.heap.size=w.heap.size+2:=by rw[hw1];simp
 have e0:w1.heap[w.heap.size]?=some (.cells #[nv] 31 (0,0)):=by rw[hw1];exact((Fr.refl NoM _).alloc _).heap (heap_alloc_new w _) (fun q=>q)
 have eo:w1.heap[w.heap.size+1]?=some (.cells #[] 3 (0,0)):=by
  have h:=heap_alloc_new (w.alloc (.cells #[nv] 31)) (.cells #[] 3);rw[World.size_alloc]at h;rw[hw1];exact h
 have k0:w1.cell? ⟨w.heap.size,0,none⟩=some nv:=by rw[cell_of_row w1 _ 0 _ _ _ e0];rfl
 have hrow:NRow w.heap.size w1 (.slice (some ⟨w.heap.size+1,0,none⟩) 0 0) []:=by
  have h:=NRow.made (w.alloc (.cells #[nv] 31));rw[World.size_alloc]at h;rw[hw1];exact h.base (Nat.le_succ _)
 have HGood:=Hh (zmi nv Fi w1 (h.fr0 f1));have HK:=Hh (fun(W:World) (f:Fr NoM w1 W)=>show W.cell? ⟨w.heap.size,0,none⟩=some nv from f.cell k0 (fun q=>q));have HNl:=Hh (fun(W:World) (f:Fr NoM w1 W)=>(h.fr0 (f1.trans f (fun _ _ q=>q)):NodeL R encI W nv Fi));have F1:=Hh f1;have HS1:=Hh hs1;have HOut:=Hh (fun(W:World) (f:Fr NoM w1 W)=>show W.heap[w.heap.size+1]?=some (.cells #[] 3 (0,0))from f.heap eo (fun q=>q));have HOk:=Hh hok;have HNn:=Hh hN;have HG:=Hh hg;have HRow:=Hh hrow;obtain⟨na,nc,rfl,z⟩:=id h;clear z h f1 e0 hok hN hg hrow hs1 eo;go_enter Tryz.func9,Tryz.ntmps9;go_wp2_with fail;rw[←hw1];clear hw1;(with_reducible refine HGood.out.mono ?_);rintro e w2 ⟨b,rfl,hb,f2⟩;obtain rfl:b=g:=by
  have h:=HG.out;cases b <;> cases g <;> simp_all
 have F2:=Hh f2;have HB:=Hh hb;clear f2 hb k0;have k0:=HK.out w2 F2.out;cases b with
 | false =>
  have hno:ok=false:=HOk.out;subst hno;have hn:N=[]:=HNn.out;subst hn;go_wp2_with fail;refine bodyPost_ret (v:=.tuple #[.slice (some ⟨w.heap.size+1,0,none⟩) 0 0,.bool false]) (by simp[results,Tryz.results9,go_sem]) rfl ?_
  exact⟨_,rfl,HRow.out.fr F2.out (fun _ _ q=>q),F1.out.trans F2.out (fun _ _ q=>q)⟩
 | true =>
  have hgd:=HB.out.1 rfl;obtain⟨F,rfl⟩:=zer hgd;have hokI:ok=true↔okTo F F.length:=by rw[HOk.out];exact zem
  obtain⟨n,hnn⟩:∃n,n=F.length:=⟨_,rfl⟩;have hil:(i2 F).length=n:=by rw[zbc,hnn]
  have hN2:=(HNl.out w2 F2.out).ofI;have HAl:=Hh (zub _ F w2 hN2 hgd ok hokI);rw[hil]at k0 HK HNl HAl ⊢;have HGd:=Hh hgd;have Hnn:=Hh hnn;clear hgd hokI hil hN2 hnn;go_wp2_with fail;(with_reducible refine HAl.out.mono ?_);rintro e w3 ⟨la,z1,zl,ra,z2,zr,ba,z3,zb,rfl,hrows,_,_,f3⟩;obtain⟨W3,hW3⟩:∃W3,W3=w3.alloc (.cells #[.slice la z1 zl,.slice ra z2 zr,.slice ba z3 zb] 69):=⟨_,rfl⟩;obtain⟨sx,hsx⟩:∃sx,sx=w3.heap.size:=⟨_,rfl⟩;have g3:Fr NoM w3 W3:=by rw[hW3];exact(Fr.refl NoM w3).alloc _
  have e3:W3.heap[sx]?=some (.cells #[.slice la z1 zl,.slice ra z2 zr,.slice ba z3 zb] 69 (0,0)):=by rw[hW3,hsx];exact heap_alloc_new w3 _
  have f13:=F2.out.trans f3 (fun _ _ q=>q);have F13:=Hh f13;have F1W:=Hh (f13.trans g3 (fun _ _ q=>q));have G3:=Hh g3;have HRows:=Hh hrows;have HSx:=Hh (fun(W:World) (f:Fr NoM W3 W)=>show W.cell? ⟨sx,0,none⟩=some (.slice la z1 zl)/\W.cell? ⟨sx,1,none⟩=some (.slice ra z2 zr)/\W.cell? ⟨sx,2,none⟩=some (.slice ba z3 zb)from by
   have h1:=f.heap e3 (fun q=>q);exact⟨by rw[cell_of_row W _ 0 _ _ _ h1];rfl,by rw[cell_of_row W _ 1 _ _ _ h1];rfl,by rw[cell_of_row W _ 2 _ _ _ h1];rfl⟩)
  clear f3 g3 e3 hrows f13 k0;go_upto_region 5 with fail;rw[←hW3,←hsx];clear hW3 hsx;cases ok with
  | false =>
   have hn:N=[]:=by rw[HNn.out];unfold zgd;rw[←HOk.out];rfl
   subst hn;go_wp2_with fail;refine bodyPost_ret (v:=.tuple #[.slice (some ⟨w.heap.size+1,0,none⟩) 0 0,.bool false]) (by simp[results,Tryz.results9,go_sem]) rfl ?_
   exact⟨_,rfl,HRow.out.fr F1W.out (fun _ _ q=>q),F1.out.trans F1W.out (fun _ _ q=>q)⟩
  | true =>
   have hn:N=zdu F (n-1) left:=by rw[HNn.out];unfold zgd;rw[←HOk.out,if_pos rfl,zdr,zbc,←Hnn.out]
   obtain⟨p1,p2,p3,p4,_,_⟩:=zaz HGd.out;have hok:=HOk.out.symm;have hrw:=HRows.out rfl;have hN3:=(HNl.out w3 F13.out);have hnn:=Hnn.out;have hls:LineS W3 F n na la ra ba:=by
    have hN4:NodeL R encN w3 (.slice na F.length nc) F:=by rw[←hnn];exact hN3.ofI
    rw[hnn];exact(LineS.mk' hN4 hrw.1 hrw.2.1 hrw.2.2).fr0 G3.out
   have hlen:n=z1/\n=z2/\n=z3:=by
    obtain⟨a,c,e1,_⟩:=hrw.1;obtain⟨a',c',e2,_⟩:=hrw.2.1;obtain⟨a'',c'',e3,_⟩:=hrw.2.2;obtain⟨_,e1,_⟩:=Value.slice.inj e1;obtain⟨_,e2,_⟩:=Value.slice.inj e2;obtain⟨_,e3,_⟩:=Value.slice.inj e3;rw[zfp]at e1 e2;rw[zgv]at e3;exact⟨hnn.trans e1.symm,hnn.trans e2.symm,hnn.trans e3.symm⟩
   obtain⟨rfl,rfl,rfl⟩:=hlen;have hn1:1≤n:=by omega
   have hn120:n≤120:=by omega
   have F03:=Hh (F1.out.trans F1W.out (fun _ _ q=>q));have eo:=HOut.out W3 F1W.out;have hM:∀b i v,W3.cell? ⟨b,i,none⟩=some v→¬b=w.heap.size+1:=fun b i v hc e=>by
    rw[e,cell_of_row W3 _ i _ _ _ eo]at hc;simp at hc
   have HM:=Hh hM;have HLs:=Hh (fun(W:World) (f:Fr (fun q=>q=w.heap.size+1) W3 W)=>hls.frC f hM);have HL3:=Hh hls;have k3:=HK.out W3 F1W.out;have HK2:=Hh (fun(W:World) (f:Fr (fun q=>q=w.heap.size+1) W3 W)=>show W.cell? ⟨w.heap.size,0,none⟩=some (.slice na n nc)from f.cell k3 (hM _ _ _ k3));have HBk:=Hh p4.book;have HNv:=Hh hn;have HR3:=Hh (HRow.out.fr F1W.out (fun _ _ q=>q));have HNl2:=Hh (show N.length≤120 by rw[hn];have:=zn8 p4.book rfl (n-1) (by omega) left;omega);have k0:=k3;have hwr:IntKind.i64.wrap ((n:Int)-1)=(n:Int)-1:=(by rw[IntKind.wrap_i64];omega);have HS3:=Hh (show w.heap.size+2≤W3.heap.size by have h1:=F1W.out.size;have h2:=HS1.out;omega);have HSx:=Hh (fun(W:World) (f:Fr (fun q=>q=w.heap.size+1) W3 W)=>show W.cell? ⟨sx,0,none⟩=some (.slice la n zl)/\W.cell? ⟨sx,1,none⟩=some (.slice ra n zr)/\W.cell? ⟨sx,2,none⟩=some (.slice ba n zb)from by
    obtain⟨h1,h2,h3⟩:=HSx.out W3 (Fr.refl _ _);exact⟨f.cell h1 (hM _ _ _ h1),f.cell h2 (hM _ _ _ h2),f.cell h3 (hM _ _ _ h3)⟩)
   clear hls hrw hok hn p1 p2 p3 p4 hnn hN3 hM eo k3;go_wp2_with fail;go_loopw [1,6,9] (fun v1 v6 v9 W=>∃(lf:Bool) (ov:Value) (P:List Nat) (k:Nat),v1=.bool lf/\v6=ov/\v9=.int .i64 (k:Int)/\k<n/\P++zdu F k lf=N/\NRow w.heap.size W ov P/\(∀q,ov.ownBlock=some q→q=w.heap.size+1∨W3.heap.size≤q)/\Fr (fun q=>q=w.heap.size+1) W3 W) (fun _ _ v9 _=>(intOf v9).toNat)
   case atStart=>exact⟨left,_,[],n-1,rfl,rfl,by rw[show((n-1:Nat):Int)=(n:Int)-1 from by omega],by omega,by rw[HNv.out];rfl,HR3.out,(fun q hq=>.inl (Option.some.inj hq).symm),Fr.refl _ _⟩
   case round =>
    obtain⟨lf,ov,P,k,rfl,rfl,rfl,hk,hP,ho,hob,hf⟩:=hrel;obtain⟨w7,rfl⟩:∃w7,w7=wr:=⟨_,rfl⟩;obtain⟨ob,oc,hov⟩:=ho.shape;subst hov;have hs:=HLs.out w7 hf;obtain⟨q1,q2,q3⟩:=HSx.out w7 hf;have q4:=HK2.out w7 hf;obtain⟨b5,o5,ha5,c5⟩:=hs.b k hk;have ix5:=zf3 ba n zb k b5 o5 hk ha5;obtain⟨fl,hfl⟩:∃fl,fl=isNB (xAt F k):=⟨_,rfl⟩;rw[←hfl]at c5;have hkF:k<F.length:=by have:=Hnn.out;omega
    cases fl with
    | true =>
     have hPN:P=N:=by rw[ziq hfl.symm,List.append_nil]at hP;exact hP
     have HO:=Hh ho;have HF:=Hh ((F03.out.trans hf (fun q hq e=>by have e:q=w.heap.size+1:=e;omega)):Fr NoM w w7);have HPN:=Hh hPN;clear hP ho hf hs ha5 hfl hPN hkF hob;go_wp2_with fail;refine bodyPost_ret (v:=.tuple #[.slice (some ⟨ob,0,none⟩) P.length oc,.bool true]) (by simp[results,Tryz.results9,go_sem]) rfl ?_
     exact⟨_,rfl,by rw[←HPN.out];exact HO.out,HF.out⟩
    | false =>
     have hno:isNB (xAt F k)=false:=hfl.symm;obtain⟨nb,no,lw,rw',ha,d1,d2,m1,m2⟩:=HL3.out.node k hk;have hx3:=fun {b i:Nat}{v:Value}(hc:W3.cell? ⟨b,i,none⟩=some v) (W:World) (f:Fr (fun q=>q=w.heap.size+1) W3 W)=>(f.cell hc (HM.out _ _ _ hc):W.cell? ⟨b,i,none⟩=some v)
     have HD1:=Hh (hx3 d1);have HD2:=Hh (hx3 d2);have ixn:=zb7 na n nc k nb no hk ha;obtain⟨b6,o6,ha6,r1,r2⟩:=hs.r k hk;have ixr:=zh4 ra n zr k b6 o6 hk ha6;obtain⟨b7,o7,ha7,l1,l2⟩:=HL3.out.l k hk;obtain⟨TR,hTR⟩:∃T,T=(sR F k).1:=⟨_,rfl⟩;obtain⟨PR,hPR⟩:∃T:Int,T=((sR F k).2:Int):=⟨_,rfl⟩;obtain⟨TL,hTL⟩:∃T,T=(sL F k).1:=⟨_,rfl⟩;obtain⟨PL',hPL⟩:∃T:Int,T=((sL F k).2:Int):=⟨_,rfl⟩;rw[←hTR]at r1;rw[←hPR]at r2;rw[←hTL]at l1;rw[←hPL]at l2;have HL1:=Hh (hx3 l1);have HL2:=Hh (hx3 l2);have HO7:=Hh ho;have HF7:=Hh hf;have HPP:=Hh hP;have HKl:=Hh hk;have HKF:=Hh hkF;have HNo:=Hh hno;have HOb:=Hh hob;have HV:=Hh (And.intro hTR (And.intro hPR (And.intro hTL hPL)));have HNd:=Hh (And.intro m1 m2);have HEa:=Hh (And.intro ha ha7);have d2:=HD2.out w7 hf;have al:=fun(o:Obj)=>(Fr.refl NoM w7).alloc o
     have q1o:=fun o=>(al o).cell q1 (fun q=>q)
     have q2o:=fun o=>(al o).cell q2 (fun q=>q)
     have q4o:=fun o=>(al o).cell q4 (fun q=>q)
     have d2o:=fun o=>(al o).cell d2 (fun q=>q)
     have r1o:=fun o=>(al o).cell r1 (fun q=>q)
     have r2o:=fun o=>(al o).cell r2 (fun q=>q)
     have aL:(k:Int)<(n:Int):=by omega
     obtain⟨oa0,oc0,hrw0,_,_,_⟩:=id m2;subst hrw0;clear hs ho hf hP hk hkF hno hfl ha ha5 ha6 ha7 hTR hPR hTL hPL l1 l2 d1 al hx3 hob;go_upto_region 10 with fail;clear ix5 c5;go_cut [10,11,12]from 39 to 51 (fun a b c Wx=>∃wb:Nat,a=.slice oa0 (za2 F k).2.length oc0/\b=.slice la n zl/\c=.pointer (some ⟨wb,0,none⟩)/\w7.heap.size≤wb/\Wx.heap[wb]?=some (.cells #[.int .i64 TR,.int .i64 PR] 43 (0,0))/\Fr NoM w7 Wx)
     case first =>
      go_region;all_goals
       go_wp2_with fail;go_meet
       case rel=>exact⟨w7.heap.size,rfl,rfl,rfl,Nat.le_refl _,((Fr.refl NoM _).drew).heap (heap_alloc_new w7 _) (fun q=>q),((Fr.refl NoM w7).alloc _).drew⟩
     case rest =>
      obtain⟨wb,rfl,rfl,rfl,hwb7,hwb,fx0⟩:=hcut;obtain⟨Wx,rfl⟩:∃Wx,Wx=wc:=⟨_,rfl⟩;clear q1o q2o q4o d2o r1o r2o q1 q2 q3 q4 d2 r1 r2 ixr m1 m2;have fx:Fr (fun q=>q=w.heap.size+1) W3 Wx:=HF7.out.trans fx0 (fun _ _ q=>q.elim);have HWb7:=Hh (show W3.heap.size≤wb by have:=HF7.out.size;omega);have HPl:=Hh (show(P.length+1)*8≤140737488355328 by have h1:=HNl2.out;rw[←HPP.out,List.length_append]at h1;omega);have HOx:=Hh (HO7.out.fr fx0 (fun _ _ q=>q));have HObL:=Hh (show ob<w7.heap.size from(HO7.out.own.lt ob rfl).2);have HWo:=Hh (show w7.heap.size≤wb from hwb7);cases lf with
      | false =>
       have HFz:=Hh fx;have HWb:=Hh hwb;have HOz:=HOx;clear hwb7 hwb fx fx0 ixn;obtain⟨Lz,hLz⟩:∃Lz,Lz=zfc F k false:=⟨_,rfl⟩;have hLzn:(za2 F k).2=Lz:=by rw[hLz];rfl
       obtain⟨x,hx,hxk,hxe,hxn⟩:=zfm HBk.out rfl HKF.out HNo.out false;have hnext:=zdt HBk.out rfl HKF.out HNo.out false hx hxk;rw[←hLz]at hx hxn;obtain⟨ix,hix⟩:∃ix,ix=ixOf F k false:=⟨_,rfl⟩;rw[←hix]at hx hxn hnext;have hm:=HNd.out.2;rw[hLzn]at hm ⊢;obtain⟨_,_,ee,hl9,hl8,hlc⟩:=id hm;obtain⟨e1,_,e2⟩:=Value.slice.inj ee;subst e1 e2;have hl9:Lz.length≤9223372036854775807:=by omega
       have hixl:ix<Lz.length:=(List.getElem?_eq_some_iff.1 hx).1;have HLt:=Hh (fun(j:Nat) (hj:j<Lz.length)=>show ∃y b o,Lz[j]?=some y/\(∀W,(Instr.indexAt 26 (.slice oa0 Lz.length oc0) (.int .i64 (j:Int))).run Tryz.prog W=.ok (.pointer (some ⟨b,o,none⟩)) W)/\∀W,Fr (fun q=>q=w.heap.size+1) W3 W→W.cell? ⟨b,o,none⟩=some (.int .i64 (y:Int))from by
        have hy:=List.getElem?_eq_getElem hj
        obtain⟨b,o,ha,c⟩:=hlc j _ hy;exact⟨_,b,o+j,hy,fun W=>za7 oa0 Lz.length oc0 j b o hj ha W,fun W f=>f.cell c (HM.out _ _ _ c)⟩)
       have HXt:=Hh (fun(y:Nat) (hy:y<n)=>show ∃b o,(∀W,(Instr.indexAt 66 (.slice la n zl) (.int .i64 (y:Int))).run Tryz.prog W=.ok (.pointer (some ⟨b,o,none⟩)) W)/\∀W,Fr (fun q=>q=w.heap.size+1) W3 W→W.cell? ⟨b,o,none⟩=some (.int .i64 (sL F y).1)/\W.cell? ⟨b,o+1,none⟩=some (.int .i64 ((sL F y).2:Int))from by
        obtain⟨b,o,ha,c1,c2⟩:=HL3.out.l y hy;exact⟨b,o+y*2,fun W=>zh4 la n zl y b o hy ha W,fun W f=>⟨f.cell c1 (HM.out _ _ _ c1),f.cell c2 (HM.out _ _ _ c2)⟩⟩)
       have HX1:=Hh (And.intro hx (And.intro hxk hxe));have HXn:=Hh hxn;have HNx:=Hh hnext;have HLo:=Hh (show ∀i∈Lz,i<k from by rw[hLz];exact zh0 HBk.out.opts HKF.out false);have HIxl:=Hh hixl;clear hx hxk hxe hxn hnext hm hlc hLz hLzn hix hl8 hixl ee;go_wp2_with fail;go_loopw [13] (fun t W=>∃(j:Nat),t=.int .i64 (j:Int)/\j≤ix/\W.heap[wb]?=some (.cells #[.int .i64 TR,.int .i64 PR] 43 (0,0))/\NRow w.heap.size W (.slice (some ⟨ob,0,none⟩) P.length oc) P/\Fr (fun q=>q=w.heap.size+1) W3 W) (fun t _=>Lz.length-(intOf t).toNat)
       case atStart=>exact⟨0,rfl,Nat.zero_le _,HWb.out,HOz.out,HFz.out⟩
       case round =>
        obtain⟨j,rfl,hj,hwb,hoj,hfj⟩:=hrel;obtain⟨wy,rfl⟩:∃wy,wy=wr:=⟨_,rfl⟩;have hjl:j<Lz.length:=by have:=HIxl.out;omega
        obtain⟨y,b8,o8,hy,ix8,hc8⟩:=HLt.out j hjl;have c8:=hc8 wy hfj;have hyk:y<k:=HLo.out y (List.mem_of_getElem? hy);obtain⟨b9,o9,ix9,hc9⟩:=HXt.out y (by have:=HKl.out;omega);obtain⟨c9,c10⟩:=hc9 wy hfj;have z0:wy.cell? ⟨wb,0,none⟩=some (.int .i64 TR):=by rw[cell_of_row wy _ 0 _ _ _ hwb];rfl
        have z1:wy.cell? ⟨wb,1,none⟩=some (.int .i64 PR):=by rw[cell_of_row wy _ 1 _ _ _ hwb];rfl
        have aL:(j:Int)<(Lz.length:Int):=by omega
        obtain⟨Ty,hTy⟩:∃T,T=(sL F y).1:=⟨_,rfl⟩;obtain⟨Py,hPy⟩:∃T:Int,T=((sL F y).2:Int):=⟨_,rfl⟩;rw[←hTy]at c9;rw[←hPy]at c10;have HY:=Hh hy;have HFj:=Hh hfj;have HWy:=Hh hwb;have HJ:=Hh hj;have HJl:=Hh hjl;have HTy:=Hh (And.intro hTy hPy);have HOj:=Hh hoj;have HC8:=Hh hc8;by_cases hji:j=ix
        ·have hyx:y=x:=by rw[hji,HX1.out.1]at hy;exact(Option.some.inj hy).symm
         have hE:Ty=TR/\Py=PR:=by
          obtain⟨v1,v2,v3,v4⟩:=HV.out;have h:sL F x=sR F k:=HX1.out.2.2;rw[hTy,hPy,hyx,h,v1,v2];exact⟨rfl,rfl⟩
         obtain⟨rfl,rfl⟩:=hE;have HYx:=Hh hyx;have HJi:=Hh hji;clear hy hyk hc8 hc9 hTy hPy hji hyx hj hjl hwb hfj hoj;go_upto_region 16 with fail;go_quiet (fail);obtain⟨W8,hW8⟩:∃W8,W8=wy.drewN nq:=⟨_,rfl⟩;rw[←hW8];have h38:Fr (fun q=>q=w.heap.size+1) W3 W8:=by rw[hW8];exact HFj.out.trans (zae wy nq) (fun _ _ q=>q.elim)
         have HF8:=Hh h38;have HO8:=Hh (show NRow w.heap.size W8 (.slice (some ⟨ob,0,none⟩) P.length oc) P by rw[hW8];exact HOj.out.fr (zae wy nq) (fun _ _ q=>q));clear hW8 h38 c8 c9 c10 z0 z1 ix9;go_wp2_with (at_builtin;refine za8 rfl _ _ 26 rfl w.heap.size 3 _ 1 8 Tryz.underlying26 zaa rfl (by decide) (.slice (some ⟨ob,0,none⟩) P.length oc) P.length (P.map encN) rfl (by exact za1 HO8.out.own ((Fr.refl NoM W8).alloc _) (fun _ _ q=>q)) W8.heap.size rfl [.int .i64 (j:Int)] 3 (heap_alloc_new W8 _) rfl (by intro u hu;simp at hu;subst hu;rfl) HPl.out (by decide) (by have h1:=HF8.out.size;have h2:=HS3.out;simp;omega) ?_);intro ov' w9 h9 f9 s9;have hf9:Fr (fun q=>q=w.heap.size+1) W3 w9:=(HF8.out.trans ((Fr.refl NoM W8).alloc (.cells #[.int .i64 (j:Int)] 3)) (fun _ _ q=>q.elim)).trans f9 (fun q hq e=>by
          rcases HOb.out q e with e|e
          ·exact e
          ·omega)
         have HSb:=Hh (show ∀q,ov'.ownBlock=some q→q=w.heap.size+1∨W3.heap.size≤q from fun q hq=>by
          rcases s9 with s|⟨b,s,hb⟩
          ·exact HOb.out q (by rw[←s];exact hq)
          ·rw[hq]at s;cases s
           have h1:=HF8.out.size
           (try rw[World.size_alloc]at hb)
           exact .inr (by omega))
         have c8:=HC8.out w9 hf9;have H9:=Hh h9;have HF9:=Hh hf9;clear h9 f9 s9 hf9;go_wp2;go_roundw
         case rel =>
          have hxk:=HX1.out.2.1;have hkl:=HKl.out;refine⟨!false,ov',P ++ [ix],x,rfl,rfl,by rw[HYx.out],by omega,?_,?_,HSb.out,HF9.out⟩
          ·have h:=HPP.out
           rw[HNx.out]at h;rw[List.append_assoc];exact h
          ·have h:=H9.out
           rw[HJi.out]at h;exact NRow.snoc h
         case measure=>have hxk:=HX1.out.2.1;rw[HYx.out];simp[intOf];omega
        ·have hlt:j<ix:=by omega
         have hne:¬(Ty=TR/\Py=PR):=fun e=>by
          obtain⟨v1,v2,v3,v4⟩:=HV.out;refine HXn.out j y hlt hy ?_
          show sL F y=sR F k
          refine Prod.ext ?_ ?_
          ·rw[←hTy,e.1];exact v1
          ·have h:=hPy.symm.trans (e.2.trans v2)
           exact Int.ofNat.inj h
         have HLt2:=Hh hlt;clear hy hyk hc8 hc9 hji hj hjl hwb hfj hoj;by_cases hT:Ty=TR
         ·have hP2:¬Py=PR:=fun e=>hne ⟨hT,e⟩
          clear hne hlt hTy hPy HTy;subst hT;go_upto_region 16 with fail;go_quiet (fail);go_wp2;go_roundw
          case rel =>
           have hjl:=HJl.out;exact⟨j+1,by go_num,by have:=HLt2.out;omega,(zae wy nq).heap HWy.out (fun q=>q),HOj.out.fr (zae wy nq) (fun _ _ q=>q),HFj.out.trans (zae wy nq) (fun _ _ q=>q.elim)⟩
          case measure=>have hjl:=HJl.out;simp[intOf];omega
         ·clear hne hlt hTy hPy HTy
          go_upto_region 16 with fail;go_quiet (fail);go_wp2;go_roundw
          case rel =>
           have hjl:=HJl.out;exact⟨j+1,by go_num,by have:=HLt2.out;omega,(zae wy nq).heap HWy.out (fun q=>q),HOj.out.fr (zae wy nq) (fun _ _ q=>q),HFj.out.trans (zae wy nq) (fun _ _ q=>q.elim)⟩
          case measure=>have hjl:=HJl.out;simp[intOf];omega
      | true =>
       obtain⟨q1,q2,q3⟩:=HSx.out Wx fx;have q4:=HK2.out Wx fx;have d1:=HD1.out Wx fx;have l1:=HL1.out Wx fx;have l2:=HL2.out Wx fx;have ixl:=zh4 la n zl k b7 o7 HKl.out HEa.out.2;obtain⟨oa1,oc1,hlw0,_,_,_⟩:=HNd.out.1;subst hlw0;have yw:=(show Wx.frozen? ⟨wb,0,none⟩=false by simp[World.frozen?,hwb]);have yw1:=(show Wx.frozen? ⟨wb,1,none⟩=false by simp[World.frozen?,hwb]);have yc:=(show Wx.cell? ⟨wb,0,none⟩=some (.int .i64 TR)by rw[cell_of_row Wx _ 0 _ _ _ hwb];rfl);have yc1:=(show Wx.cell? ⟨wb,1,none⟩=some (.int .i64 PR)by rw[cell_of_row Wx _ 1 _ _ _ hwb];rfl);have HWb:=Hh (show((Wx.setCell ⟨wb,0,none⟩ (.int .i64 TL)).setCell ⟨wb,1,none⟩ (.int .i64 PL')).heap[wb]?=some (.cells #[.int .i64 TL,.int .i64 PL'] 43 (0,0))by rw[heap_set (heap_set hwb _)];rfl);have hset:Fr (fun q=>q=wb) Wx ((Wx.setCell ⟨wb,0,none⟩ (.int .i64 TL)).setCell ⟨wb,1,none⟩ (.int .i64 PL')):=Fr.setCell (M:=fun q=>q=wb) (Fr.setCell (M:=fun q=>q=wb) (Fr.refl _ Wx) _ _ (fun _=>rfl)) _ _ (fun _=>rfl);have HFz:=Hh (show Fr (fun q=>q=w.heap.size+1) W3 ((Wx.setCell ⟨wb,0,none⟩ (.int .i64 TL)).setCell ⟨wb,1,none⟩ (.int .i64 PL'))from fx.trans hset (fun q hq e=>by have h1:=HWb7.out;have e:q=wb:=e;omega));have HOz:=Hh (HOx.out.fr hset (fun q hq e=>by have h1:=HObL.out;have h2:=HWo.out;have h3:ob=q:=Option.some.inj hq;have e:q=wb:=e;omega));clear hwb7 hwb fx fx0 hset;go_upto_region 15 with fail;clear q1 q2 q3 q4 d1 l1 l2 ixn ixl yw yw1 yc yc1;obtain⟨Lz,hLz⟩:∃Lz,Lz=zfc F k true:=⟨_,rfl⟩;have hLzn:(za2 F k).1=Lz:=by rw[hLz];rfl
       obtain⟨x,hx,hxk,hxe,hxn⟩:=zfm HBk.out rfl HKF.out HNo.out true;have hnext:=zdt HBk.out rfl HKF.out HNo.out true hx hxk;rw[←hLz]at hx hxn;obtain⟨ix,hix⟩:∃ix,ix=ixOf F k true:=⟨_,rfl⟩;rw[←hix]at hx hxn hnext;have hm:=HNd.out.1;rw[hLzn]at hm ⊢;obtain⟨_,_,ee,hl9,hl8,hlc⟩:=id hm;obtain⟨e1,_,e2⟩:=Value.slice.inj ee;subst e1 e2;have hl9:Lz.length≤9223372036854775807:=by omega
       have hixl:ix<Lz.length:=(List.getElem?_eq_some_iff.1 hx).1;have HLt:=Hh (fun(j:Nat) (hj:j<Lz.length)=>show ∃y b o,Lz[j]?=some y/\(∀W,(Instr.indexAt 26 (.slice oa1 Lz.length oc1) (.int .i64 (j:Int))).run Tryz.prog W=.ok (.pointer (some ⟨b,o,none⟩)) W)/\∀W,Fr (fun q=>q=w.heap.size+1) W3 W→W.cell? ⟨b,o,none⟩=some (.int .i64 (y:Int))from by
        have hy:=List.getElem?_eq_getElem hj
        obtain⟨b,o,ha,c⟩:=hlc j _ hy;exact⟨_,b,o+j,hy,fun W=>za7 oa1 Lz.length oc1 j b o hj ha W,fun W f=>f.cell c (HM.out _ _ _ c)⟩)
       have HXt:=Hh (fun(y:Nat) (hy:y<n)=>show ∃b o,(∀W,(Instr.indexAt 66 (.slice ra n zr) (.int .i64 (y:Int))).run Tryz.prog W=.ok (.pointer (some ⟨b,o,none⟩)) W)/\∀W,Fr (fun q=>q=w.heap.size+1) W3 W→W.cell? ⟨b,o,none⟩=some (.int .i64 (sR F y).1)/\W.cell? ⟨b,o+1,none⟩=some (.int .i64 ((sR F y).2:Int))from by
        obtain⟨b,o,ha,c1,c2⟩:=HL3.out.r y hy;exact⟨b,o+y*2,fun W=>zh4 ra n zr y b o hy ha W,fun W f=>⟨f.cell c1 (HM.out _ _ _ c1),f.cell c2 (HM.out _ _ _ c2)⟩⟩)
       have HX1:=Hh (And.intro hx (And.intro hxk hxe));have HXn:=Hh hxn;have HNx:=Hh hnext;have HLo:=Hh (show ∀i∈Lz,i<k from by rw[hLz];exact zh0 HBk.out.opts HKF.out true);have HIxl:=Hh hixl;clear hx hxk hxe hxn hnext hm hlc hLz hLzn hix hl8 hixl ee;go_wp2_with fail;go_loopw [13] (fun t W=>∃(j:Nat),t=.int .i64 (j:Int)/\j≤ix/\W.heap[wb]?=some (.cells #[.int .i64 TL,.int .i64 PL'] 43 (0,0))/\NRow w.heap.size W (.slice (some ⟨ob,0,none⟩) P.length oc) P/\Fr (fun q=>q=w.heap.size+1) W3 W) (fun t _=>Lz.length-(intOf t).toNat)
       case atStart=>exact⟨0,rfl,Nat.zero_le _,HWb.out,HOz.out,HFz.out⟩
       case round =>
        obtain⟨j,rfl,hj,hwb,hoj,hfj⟩:=hrel;obtain⟨wy,rfl⟩:∃wy,wy=wr:=⟨_,rfl⟩;have hjl:j<Lz.length:=by have:=HIxl.out;omega
        obtain⟨y,b8,o8,hy,ix8,hc8⟩:=HLt.out j hjl;have c8:=hc8 wy hfj;have hyk:y<k:=HLo.out y (List.mem_of_getElem? hy);obtain⟨b9,o9,ix9,hc9⟩:=HXt.out y (by have:=HKl.out;omega);obtain⟨c9,c10⟩:=hc9 wy hfj;have z0:wy.cell? ⟨wb,0,none⟩=some (.int .i64 TL):=by rw[cell_of_row wy _ 0 _ _ _ hwb];rfl
        have z1:wy.cell? ⟨wb,1,none⟩=some (.int .i64 PL'):=by rw[cell_of_row wy _ 1 _ _ _ hwb];rfl
        have aL:(j:Int)<(Lz.length:Int):=by omega
        obtain⟨Ty,hTy⟩:∃T,T=(sR F y).1:=⟨_,rfl⟩;obtain⟨Py,hPy⟩:∃T:Int,T=((sR F y).2:Int):=⟨_,rfl⟩;rw[←hTy]at c9;rw[←hPy]at c10;have HY:=Hh hy;have HFj:=Hh hfj;have HWy:=Hh hwb;have HJ:=Hh hj;have HJl:=Hh hjl;have HTy:=Hh (And.intro hTy hPy);have HOj:=Hh hoj;have HC8:=Hh hc8;by_cases hji:j=ix
        ·have hyx:y=x:=by rw[hji,HX1.out.1]at hy;exact(Option.some.inj hy).symm
         have hE:Ty=TL/\Py=PL':=by
          obtain⟨v1,v2,v3,v4⟩:=HV.out;have h:sR F x=sL F k:=HX1.out.2.2;rw[hTy,hPy,hyx,h,v3,v4];exact⟨rfl,rfl⟩
         obtain⟨rfl,rfl⟩:=hE;have HYx:=Hh hyx;have HJi:=Hh hji;clear hy hyk hc8 hc9 hTy hPy hji hyx hj hjl hwb hfj hoj;go_upto_region 16 with fail;go_quiet (fail);obtain⟨W8,hW8⟩:∃W8,W8=wy.drewN nq:=⟨_,rfl⟩;rw[←hW8];have h38:Fr (fun q=>q=w.heap.size+1) W3 W8:=by rw[hW8];exact HFj.out.trans (zae wy nq) (fun _ _ q=>q.elim)
         have HF8:=Hh h38;have HO8:=Hh (show NRow w.heap.size W8 (.slice (some ⟨ob,0,none⟩) P.length oc) P by rw[hW8];exact HOj.out.fr (zae wy nq) (fun _ _ q=>q));clear hW8 h38 c8 c9 c10 z0 z1 ix9;go_wp2_with (at_builtin;refine za8 rfl _ _ 26 rfl w.heap.size 3 _ 1 8 Tryz.underlying26 zaa rfl (by decide) (.slice (some ⟨ob,0,none⟩) P.length oc) P.length (P.map encN) rfl (by exact za1 HO8.out.own ((Fr.refl NoM W8).alloc _) (fun _ _ q=>q)) W8.heap.size rfl [.int .i64 (j:Int)] 3 (heap_alloc_new W8 _) rfl (by intro u hu;simp at hu;subst hu;rfl) HPl.out (by decide) (by have h1:=HF8.out.size;have h2:=HS3.out;simp;omega) ?_);intro ov' w9 h9 f9 s9;have hf9:Fr (fun q=>q=w.heap.size+1) W3 w9:=(HF8.out.trans ((Fr.refl NoM W8).alloc (.cells #[.int .i64 (j:Int)] 3)) (fun _ _ q=>q.elim)).trans f9 (fun q hq e=>by
          rcases HOb.out q e with e|e
          ·exact e
          ·omega)
         have HSb:=Hh (show ∀q,ov'.ownBlock=some q→q=w.heap.size+1∨W3.heap.size≤q from fun q hq=>by
          rcases s9 with s|⟨b,s,hb⟩
          ·exact HOb.out q (by rw[←s];exact hq)
          ·rw[hq]at s;cases s
           have h1:=HF8.out.size
           (try rw[World.size_alloc]at hb)
           exact .inr (by omega))
         have c8:=HC8.out w9 hf9;have H9:=Hh h9;have HF9:=Hh hf9;clear h9 f9 s9 hf9;go_wp2;go_roundw
         case rel =>
          have hxk:=HX1.out.2.1;have hkl:=HKl.out;refine⟨!true,ov',P ++ [ix],x,rfl,rfl,by rw[HYx.out],by omega,?_,?_,HSb.out,HF9.out⟩
          ·have h:=HPP.out
           rw[HNx.out]at h;rw[List.append_assoc];exact h
          ·have h:=H9.out
           rw[HJi.out]at h;exact NRow.snoc h
         case measure=>have hxk:=HX1.out.2.1;rw[HYx.out];simp[intOf];omega
        ·have hlt:j<ix:=by omega
         have hne:¬(Ty=TL/\Py=PL'):=fun e=>by
          obtain⟨v1,v2,v3,v4⟩:=HV.out;refine HXn.out j y hlt hy ?_
          show sR F y=sL F k
          refine Prod.ext ?_ ?_
          ·rw[←hTy,e.1];exact v3
          ·have h:=hPy.symm.trans (e.2.trans v4)
           exact Int.ofNat.inj h
         have HLt2:=Hh hlt;clear hy hyk hc8 hc9 hji hj hjl hwb hfj hoj;by_cases hT:Ty=TL
         ·have hP2:¬Py=PL':=fun e=>hne ⟨hT,e⟩
          clear hne hlt hTy hPy HTy;subst hT;go_upto_region 16 with fail;go_quiet (fail);go_wp2;go_roundw
          case rel =>
           have hjl:=HJl.out;exact⟨j+1,by go_num,by have:=HLt2.out;omega,(zae wy nq).heap HWy.out (fun q=>q),HOj.out.fr (zae wy nq) (fun _ _ q=>q),HFj.out.trans (zae wy nq) (fun _ _ q=>q.elim)⟩
          case measure=>have hjl:=HJl.out;simp[intOf];omega
         ·clear hne hlt hTy hPy HTy
          go_upto_region 16 with fail;go_quiet (fail);go_wp2;go_roundw
          case rel =>
           have hjl:=HJl.out;exact⟨j+1,by go_num,by have:=HLt2.out;omega,(zae wy nq).heap HWy.out (fun q=>q),HOj.out.fr (zae wy nq) (fun _ _ q=>q),HFj.out.trans (zae wy nq) (fun _ _ q=>q.elim)⟩
          case measure=>have hjl:=HJl.out;simp[intOf];omega
end Go.Proofs.YtknniemfpkjnbaaGreatDoor
