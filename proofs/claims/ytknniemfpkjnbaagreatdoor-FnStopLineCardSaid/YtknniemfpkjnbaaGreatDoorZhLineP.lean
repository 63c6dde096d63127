import Derived.Test.YtknniemfpkjnbaaGreatDoorZhStopsP
import Derived.Test.YtknniemfpkjnbaaGreatDoorZhRefOf7
/- What the claim of FnStopLineCard needs of: LineP. -/
namespace Go.Proofs.YtknniemfpkjnbaaGreatDoor
set_option linter.unusedVariables false
set_option linter.unusedSimpArgs false
open Go.RowKit
set_option maxRecDepth 8000 in
set_option maxHeartbeats 16000000 in
theorem zmz {R:Nat→Prop}(nv:Value)(Fi:List (List Int × List Int))(left:Bool)(w:World)(h:NodeL R encI w nv Fi)(g:Bool)(hg:g=true↔zbv Fi)(ok:Bool)(hok:ok=zgt g Fi)(N:List Nat)(hN:N=zgd g Fi left) :
  Calls Tryz.prog 11 #[.agg #[nv],.bool left] w fun e w'=>ztc ok N w e w':=by
 obtain⟨w1,hw1⟩:∃w1,w1=w.alloc (.cells #[nv] 31):=⟨_,rfl⟩;have f1:Fr NoM w w1:=by rw[hw1];exact(Fr.refl NoM w).alloc _
 have e0:w1.heap[w.heap.size]?=some (.cells #[nv] 31 (0,0)):=by rw[hw1];exact heap_alloc_new w _
 have k0:w1.cell? ⟨w.heap.size,0,none⟩=some nv:=by rw[cell_of_row w1 _ 0 _ _ _ e0];rfl
 have HSt:=Hh (zk4 nv Fi w1 (h.fr0 f1) g hg ok hok);have HK:=Hh (fun(W:World) (f:Fr NoM w1 W)=>show W.cell? ⟨w.heap.size,0,none⟩=some nv from f.cell k0 (fun q=>q));have HNl:=Hh (fun(W:World) (f:Fr NoM w1 W)=>(h.fr0 (f1.trans f (fun _ _ q=>q)):NodeL R encI W nv Fi));have F1:=Hh f1;have HOk:=Hh hok;have HNn:=Hh hN;have HG:=Hh hg;obtain⟨na,nc,rfl,z⟩:=id h;clear z h f1 e0 hok hN hg;go_enter Tryz.func11,Tryz.ntmps11;go_wp2_with fail;rw[←hw1];clear hw1;(with_reducible refine HSt.out.mono ?_);rintro e w2 ⟨la,z1,zl,ra,z2,zr,ba,z3,zb,rfl,hrows,_,_,f2⟩;obtain⟨W2,hW2⟩:∃W2,W2=w2.alloc (.cells #[.slice la z1 zl,.slice ra z2 zr,.slice ba z3 zb] 76):=⟨_,rfl⟩;obtain⟨sx,hsx⟩:∃sx,sx=w2.heap.size:=⟨_,rfl⟩;have g2:Fr NoM w2 W2:=by rw[hW2];exact(Fr.refl NoM w2).alloc _
 have e2:W2.heap[sx]?=some (.cells #[.slice la z1 zl,.slice ra z2 zr,.slice ba z3 zb] 76 (0,0)):=by rw[hW2,hsx];exact heap_alloc_new w2 _
 have F2a:=Hh f2;have F2:=Hh (f2.trans g2 (fun _ _ q=>q));have G2:=Hh g2;have HRows:=Hh hrows;have HSx:=Hh (fun(W:World) (f:Fr NoM W2 W)=>show W.cell? ⟨sx,0,none⟩=some (.slice la z1 zl)/\W.cell? ⟨sx,1,none⟩=some (.slice ra z2 zr)/\W.cell? ⟨sx,2,none⟩=some (.slice ba z3 zb)from by
  have h1:=f.heap e2 (fun q=>q);exact⟨by rw[cell_of_row W _ 0 _ _ _ h1];rfl,by rw[cell_of_row W _ 1 _ _ _ h1];rfl,by rw[cell_of_row W _ 2 _ _ _ h1];rfl⟩)
 clear f2 g2 e2 hrows k0;go_upto_region 2 with fail;rw[←hW2,←hsx];clear hW2 hsx;cases ok with
 | false =>
  have hn:N=[]:=by rw[HNn.out];unfold zgd;rw[←HOk.out];rfl
  subst hn;go_wp2_with fail;refine bodyPost_ret (v:=.tuple #[.slice (some ⟨W2.heap.size,0,none⟩) 0 0,.bool false]) (by simp[results,Tryz.results11,go_sem]) rfl ?_
  exact⟨_,rfl,(NRow.made W2).base (by have h1:=F1.out.size;have h2:=F2.out.size;omega),(F1.out.trans F2.out (fun _ _ q=>q)).trans ((Fr.refl NoM W2).alloc _) (fun _ _ q=>q)⟩
 | true =>
  have hgt:g=true:=by
   have h1:=HOk.out;unfold zgt at h1;cases g with
   | true=>rfl
   | false=>cases h1
  subst hgt;obtain⟨F,rfl⟩:=zer (HG.out.1 rfl);have hgd:=HG.out.1 rfl;have hn:N=zdu F (F.length-1) left:=by rw[HNn.out];unfold zgd;rw[←HOk.out,if_pos rfl,zdr,zbc]
  obtain⟨p1,p2,p3,p4,_,_⟩:=zaz hgd;have hok:=zem.1 HOk.out.symm;have hrw:=HRows.out rfl;rw[zdr]at hrw;obtain⟨n,hnn⟩:∃n,n=F.length:=⟨_,rfl⟩;have hil:(i2 F).length=n:=by rw[zbc,hnn]
  have hN2:=(HNl.out w2 F2a.out).ofI;rw[zbc]at hN2;have hls:LineS W2 F n na la ra ba:=by
   rw[hnn];have h1:=hrw.1;have h2:=hrw.2.1;have h3:=hrw.2.2;exact(LineS.mk' hN2 h1 h2 h3).fr0 G2.out
  have hlen:n=z1/\n=z2/\n=z3:=by
   obtain⟨a,c,e1,_⟩:=hrw.1;obtain⟨a',c',e2,_⟩:=hrw.2.1;obtain⟨a'',c'',e3,_⟩:=hrw.2.2;obtain⟨_,e1,_⟩:=Value.slice.inj e1;obtain⟨_,e2,_⟩:=Value.slice.inj e2;obtain⟨_,e3,_⟩:=Value.slice.inj e3;rw[zfp]at e1 e2;rw[zgv]at e3;exact⟨hnn.trans e1.symm,hnn.trans e2.symm,hnn.trans e3.symm⟩
  obtain⟨rfl,rfl,rfl⟩:=hlen;have hn1:1≤n:=by omega
  have hn120:n≤120:=by omega
  have F02:=Hh (F1.out.trans F2.out (fun _ _ q=>q));have HLs:=Hh (fun(W:World) (f:Fr NoM W2 W)=>hls.fr0 f);have HK2:=Hh (fun(W:World) (f:Fr NoM W2 W)=>show W.cell? ⟨w.heap.size,0,none⟩=some (.slice na n nc)from by rw[←hil];exact HK.out W (F2.out.trans f (fun _ _ q=>q)));have HBk:=Hh p4.book;have HNv:=Hh (show N=zdu F (n-1) left by rw[hnn];exact hn);have HNl2:=Hh (show N.length≤120 by rw[hn];have:=zn8 p4.book rfl (F.length-1) (by omega) left;omega);have Hnn:=Hh hnn;rw[hil];have k0:=HK2.out (W2.alloc (.cells #[] 3)) ((Fr.refl NoM W2).alloc _);have hwr:IntKind.i64.wrap ((n:Int)-1)=(n:Int)-1:=(by rw[IntKind.wrap_i64];omega);clear hN2 hls hrw hok hn p1 p2 p3 p4 hil hgd hnn;go_wp2_with fail;go_loopw [1,8,9] (fun v1 v8 v9 W=>∃(lf:Bool) (ov:Value) (P:List Nat) (k:Nat),v1=.bool lf/\v8=ov/\v9=.int .i64 (k:Int)/\k<n/\P++zdu F k lf=N/\NRow W2.heap.size W ov P/\Fr NoM W2 W) (fun _ _ v9 _=>(intOf v9).toNat)
  case atStart=>exact⟨left,_,[],n-1,rfl,rfl,by rw[show((n-1:Nat):Int)=(n:Int)-1 from by omega],by omega,by rw[HNv.out];rfl,NRow.made W2,(Fr.refl NoM W2).alloc _⟩
  case round =>
   obtain⟨lf,ov,P,k,rfl,rfl,rfl,hk,hP,ho,hf⟩:=hrel;obtain⟨w7,rfl⟩:∃w7,w7=wr:=⟨_,rfl⟩;obtain⟨ob,oc,hov⟩:=ho.shape;subst hov;have hs:=HLs.out w7 hf;obtain⟨q1,q2,q3⟩:=HSx.out w7 hf;have q4:=HK2.out w7 hf;obtain⟨b5,o5,ha5,c5⟩:=hs.b k hk;have ix5:=zf3 ba n zb k b5 o5 hk ha5;obtain⟨fl,hfl⟩:∃fl,fl=isNB (xAt F k):=⟨_,rfl⟩;rw[←hfl]at c5;have hkF:k<F.length:=by have:=Hnn.out;omega
   cases fl with
   | true =>
    have hPN:P=N:=by rw[ziq hfl.symm,List.append_nil]at hP;exact hP
    have HO:=Hh (ho.base (B':=w.heap.size) (by have h1:=F02.out.size;omega));have HF:=Hh (F02.out.trans hf (fun _ _ q=>q));have HPN:=Hh hPN;clear hP ho hf hs ha5 hfl hPN hkF;go_wp2_with fail;refine bodyPost_ret (v:=.tuple #[.slice (some ⟨ob,0,none⟩) P.length oc,.bool true]) (by simp[results,Tryz.results11,go_sem]) rfl ?_
    exact⟨_,rfl,by rw[←HPN.out];exact HO.out,HF.out⟩
   | false =>
    have hno:isNB (xAt F k)=false:=hfl.symm;obtain⟨nb,no,lw,rw',ha,d1,d2,m1,m2⟩:=hs.node k hk;have ixn:=zb7 na n nc k nb no hk ha;obtain⟨b6,o6,ha6,r1,r2⟩:=hs.r k hk;have ixr:=zh4 ra n zr k b6 o6 hk ha6;obtain⟨b7,o7,ha7,l1,l2⟩:=hs.l k hk;have ixl:=zh4 la n zl k b7 o7 hk ha7;obtain⟨TR,hTR⟩:∃T,T=(sR F k).1:=⟨_,rfl⟩;obtain⟨PR,hPR⟩:∃T:Int,T=((sR F k).2:Int):=⟨_,rfl⟩;obtain⟨TL,hTL⟩:∃T,T=(sL F k).1:=⟨_,rfl⟩;obtain⟨PL',hPL⟩:∃T:Int,T=((sL F k).2:Int):=⟨_,rfl⟩;rw[←hTR]at r1;rw[←hPR]at r2;rw[←hTL]at l1;rw[←hPL]at l2;have HLs7:=Hh hs;have HO7:=Hh ho;have HF7:=Hh hf;have HPP:=Hh hP;have HKl:=Hh hk;have HKF:=Hh hkF;have HNo:=Hh hno;have HV:=Hh (And.intro hTR (And.intro hPR (And.intro hTL hPL)));have HNd:=Hh (And.intro m1 m2);have HEa:=Hh (And.intro ha ha7);have HL7:=Hh (And.intro d1 (And.intro l1 l2));have al:=fun(o:Obj)=>(Fr.refl NoM w7).alloc o
    have q1o:=fun o=>(al o).cell q1 (fun q=>q)
    have q2o:=fun o=>(al o).cell q2 (fun q=>q)
    have q4o:=fun o=>(al o).cell q4 (fun q=>q)
    have d2o:=fun o=>(al o).cell d2 (fun q=>q)
    have r1o:=fun o=>(al o).cell r1 (fun q=>q)
    have r2o:=fun o=>(al o).cell r2 (fun q=>q)
    have aL:(k:Int)<(n:Int):=by omega
    obtain⟨oa0,oc0,hrw0,_,_,_⟩:=id m2;subst hrw0;clear hs ho hf hP hk hkF hno hfl ha ha5 ha6 ha7 hTR hPR hTL hPL l1 l2 d1 al;go_upto_region 8 with fail;clear ix5 c5;go_cut [10,11,12]from 36 to 48 (fun a b c Wx=>∃wb:Nat,a=.slice oa0 (za2 F k).2.length oc0/\b=.pointer (some ⟨wb,0,none⟩)/\c=.slice la n zl/\w7.heap.size≤wb/\Wx.heap[wb]?=some (.cells #[.int .i64 TR,.int .i64 PR] 43 (0,0))/\Fr NoM w7 Wx)
    case first =>
     go_region;all_goals
      go_wp2_with fail;go_meet
      case rel=>exact⟨w7.heap.size,rfl,rfl,rfl,Nat.le_refl _,((Fr.refl NoM _).drew).heap (heap_alloc_new w7 _) (fun q=>q),((Fr.refl NoM w7).alloc _).drew⟩
    case rest =>
     obtain⟨wb,rfl,rfl,rfl,hwb7,hwb,fx⟩:=hcut;obtain⟨Wx,rfl⟩:∃Wx,Wx=wc:=⟨_,rfl⟩;clear q1o q2o q4o d2o r1o r2o q1 q2 q3 q4 d2 r1 r2 ixn ixr ixl m1 m2;have HWb7:=Hh hwb7;have HPl:=Hh (show(P.length+1)*8≤140737488355328 by have h1:=HNl2.out;rw[←HPP.out,List.length_append]at h1;omega);cases lf with
     | false =>
      have HFz:=Hh fx;have HWb:=Hh hwb;clear hwb7 hwb fx;obtain⟨Lz,hLz⟩:∃Lz,Lz=zfc F k false:=⟨_,rfl⟩;have hLzn:(za2 F k).2=Lz:=by rw[hLz];rfl
      obtain⟨x,hx,hxk,hxe,hxn⟩:=zfm HBk.out rfl HKF.out HNo.out false;have hnext:=zdt HBk.out rfl HKF.out HNo.out false hx hxk;rw[←hLz]at hx hxn;obtain⟨ix,hix⟩:∃ix,ix=ixOf F k false:=⟨_,rfl⟩;rw[←hix]at hx hxn hnext;have hm:=HNd.out.2;rw[hLzn]at hm ⊢;obtain⟨_,_,ee,hl9,hl8,hlc⟩:=id hm;obtain⟨e1,_,e2⟩:=Value.slice.inj ee;subst e1 e2;have hl9:Lz.length≤9223372036854775807:=by omega
      have hixl:ix<Lz.length:=(List.getElem?_eq_some_iff.1 hx).1;have HLt:=Hh (fun(j:Nat) (hj:j<Lz.length)=>show ∃y b o,Lz[j]?=some y/\(∀W,(Instr.indexAt 26 (.slice oa0 Lz.length oc0) (.int .i64 (j:Int))).run Tryz.prog W=.ok (.pointer (some ⟨b,o,none⟩)) W)/\∀W,Fr NoM w7 W→W.cell? ⟨b,o,none⟩=some (.int .i64 (y:Int))from by
       have hy:=List.getElem?_eq_getElem hj
       obtain⟨b,o,ha,c⟩:=hlc j _ hy;exact⟨_,b,o+j,hy,fun W=>za7 oa0 Lz.length oc0 j b o hj ha W,fun W f=>f.cell c (fun q=>q)⟩)
      have HXt:=Hh (fun(y:Nat) (hy:y<n)=>show ∃b o,(∀W,(Instr.indexAt 66 (.slice la n zl) (.int .i64 (y:Int))).run Tryz.prog W=.ok (.pointer (some ⟨b,o,none⟩)) W)/\∀W,Fr NoM w7 W→W.cell? ⟨b,o,none⟩=some (.int .i64 (sL F y).1)/\W.cell? ⟨b,o+1,none⟩=some (.int .i64 ((sL F y).2:Int))from by
       obtain⟨b,o,ha,c1,c2⟩:=HLs7.out.l y hy;exact⟨b,o+y*2,fun W=>zh4 la n zl y b o hy ha W,fun W f=>⟨f.cell c1 (fun q=>q),f.cell c2 (fun q=>q)⟩⟩)
      have HX1:=Hh (And.intro hx (And.intro hxk hxe));have HXn:=Hh hxn;have HNx:=Hh hnext;have HLo:=Hh (show ∀i∈Lz,i<k from by rw[hLz];exact zh0 HBk.out.opts HKF.out false);have HIxl:=Hh hixl;clear hx hxk hxe hxn hnext hm hlc hLz hLzn hix hl8 hixl ee;go_wp2_with fail;go_loopw [8,65] (fun v8 t W=>∃(j:Nat),v8=.slice (some ⟨ob,0,none⟩) P.length oc/\t=.int .i64 (j:Int)/\j≤ix/\W.heap[wb]?=some (.cells #[.int .i64 TR,.int .i64 PR] 43 (0,0))/\Fr NoM w7 W) (fun _ t _=>Lz.length-(intOf t).toNat)
      case atStart=>exact⟨0,rfl,rfl,Nat.zero_le _,HWb.out,HFz.out⟩
      case round =>
       obtain⟨j,rfl,rfl,hj,hwb,hfj⟩:=hrel;obtain⟨wy,rfl⟩:∃wy,wy=wr:=⟨_,rfl⟩;have hjl:j<Lz.length:=by have:=HIxl.out;omega
       obtain⟨y,b8,o8,hy,ix8,hc8⟩:=HLt.out j hjl;have c8:=hc8 wy hfj;have hyk:y<k:=HLo.out y (List.mem_of_getElem? hy);obtain⟨b9,o9,ix9,hc9⟩:=HXt.out y (by have:=HKl.out;omega);obtain⟨c9,c10⟩:=hc9 wy hfj;have z0:wy.cell? ⟨wb,0,none⟩=some (.int .i64 TR):=by rw[cell_of_row wy _ 0 _ _ _ hwb];rfl
       have z1:wy.cell? ⟨wb,1,none⟩=some (.int .i64 PR):=by rw[cell_of_row wy _ 1 _ _ _ hwb];rfl
       have aL:(j:Int)<(Lz.length:Int):=by omega
       obtain⟨Ty,hTy⟩:∃T,T=(sL F y).1:=⟨_,rfl⟩;obtain⟨Py,hPy⟩:∃T:Int,T=((sL F y).2:Int):=⟨_,rfl⟩;rw[←hTy]at c9;rw[←hPy]at c10;have HY:=Hh hy;have HFj:=Hh hfj;have HWy:=Hh hwb;have HJ:=Hh hj;have HJl:=Hh hjl;have HTy:=Hh (And.intro hTy hPy);by_cases hji:j=ix
       ·have hyx:y=x:=by rw[hji,HX1.out.1]at hy;exact(Option.some.inj hy).symm
        have hE:Ty=TR/\Py=PR:=by
         obtain⟨v1,v2,v3,v4⟩:=HV.out;have h:sL F x=sR F k:=HX1.out.2.2;rw[hTy,hPy,hyx,h,v1,v2];exact⟨rfl,rfl⟩
        obtain⟨rfl,rfl⟩:=hE;have HYx:=Hh hyx;have HJi:=Hh hji;clear hy hyk hc8 hc9 hTy hPy hji hyx hj hjl hwb hfj;go_upto_region 14 with fail;go_quiet (fail);obtain⟨W8,hW8⟩:∃W8,W8=wy.drewN nq:=⟨_,rfl⟩;rw[←hW8];have h78:Fr NoM w7 W8:=by rw[hW8];exact HFj.out.trans (zae wy nq) (fun _ _ q=>q)
        have HF8:=Hh h78;have HO8:=Hh (HO7.out.fr h78 (fun _ _ q=>q));clear hW8 h78 c8 c9 c10 z0 z1 ix8 ix9;go_wp2_with (at_builtin;refine za8 rfl _ _ 26 rfl W2.heap.size 3 _ 1 8 Tryz.underlying26 zaa rfl (by decide) (.slice (some ⟨ob,0,none⟩) P.length oc) P.length (P.map encN) rfl (by exact za1 HO8.out.own ((Fr.refl NoM W8).alloc _) (fun _ _ q=>q)) W8.heap.size rfl [.int .i64 (j:Int)] 3 (heap_alloc_new W8 _) rfl (by intro u hu;simp at hu;subst hu;rfl) HPl.out (by decide) (by have h1:=HF7.out.size;have h2:=HF8.out.size;simp;omega) ?_);intro ov' w9 h9 f9 s9;have H9:=Hh h9;have F9:=Hh f9;clear h9 f9 s9;go_wp2;go_roundw
        case rel =>
         have hxk:=HX1.out.2.1;have hkl:=HKl.out;refine⟨!false,ov',P ++ [ix],x,rfl,rfl,by rw[HYx.out],by omega,?_,?_,?_⟩
         ·have h:=HPP.out
          rw[HNx.out]at h;rw[List.append_assoc];exact h
         ·have h:=H9.out
          rw[HJi.out]at h;exact NRow.snoc h
         ·have f79:=HF8.out.trans ((Fr.refl NoM W8).alloc (.cells #[.int .i64 (j:Int)] 3)) (fun _ _ q=>q)
          exact(HF7.out.trans f79 (fun _ _ q=>q)).trans F9.out (fun q hq e=>absurd (HO7.out.own.lt q e).1 (by omega))
        case measure=>have hxk:=HX1.out.2.1;rw[HYx.out];simp[intOf];omega
       ·have hlt:j<ix:=by omega
        have hne:¬(Ty=TR/\Py=PR):=fun e=>by
         obtain⟨v1,v2,v3,v4⟩:=HV.out;refine HXn.out j y hlt hy ?_
         show sL F y=sR F k
         refine Prod.ext ?_ ?_
         ·rw[←hTy,e.1];exact v1
         ·have h:=hPy.symm.trans (e.2.trans v2)
          exact Int.ofNat.inj h
        have HLt2:=Hh hlt;clear hy hyk hc8 hc9 hji hj hjl hwb hfj;by_cases hT:Ty=TR
        ·have hP2:¬Py=PR:=fun e=>hne ⟨hT,e⟩
         clear hne hlt hTy hPy HTy;subst hT;go_upto_region 14 with fail;go_quiet (fail);go_wp2;go_roundw
         case rel =>
          have hjl:=HJl.out;exact⟨j+1,rfl,by go_num,by have:=HLt2.out;omega,(zae wy nq).heap HWy.out (fun q=>q),HFj.out.trans (zae wy nq) (fun _ _ q=>q)⟩
         case measure=>have hjl:=HJl.out;simp[intOf];omega
        ·clear hne hlt hTy hPy HTy
         go_upto_region 14 with fail;go_quiet (fail);go_wp2;go_roundw
         case rel =>
          have hjl:=HJl.out;exact⟨j+1,rfl,by go_num,by have:=HLt2.out;omega,(zae wy nq).heap HWy.out (fun q=>q),HFj.out.trans (zae wy nq) (fun _ _ q=>q)⟩
         case measure=>have hjl:=HJl.out;simp[intOf];omega
     | true =>
      obtain⟨q1,q2,q3⟩:=HSx.out Wx (HF7.out.trans fx (fun _ _ q=>q));have q4:=HK2.out Wx (HF7.out.trans fx (fun _ _ q=>q));obtain⟨d1,l1,l2⟩:=HL7.out;have d1:=fx.cell d1 (fun q=>q);have l1:=fx.cell l1 (fun q=>q);have l2:=fx.cell l2 (fun q=>q);have ixn:=zb7 na n nc k nb no HKl.out HEa.out.1;have ixl:=zh4 la n zl k b7 o7 HKl.out HEa.out.2;obtain⟨oa1,oc1,hlw0,_,_,_⟩:=HNd.out.1;subst hlw0;have hd:=(show Fr NoM Wx Wx.drew from(Fr.refl NoM Wx).drew);have hwd:=hd.heap hwb (fun q=>q);have zw:=(show Wx.drew.frozen? ⟨wb,0,none⟩=false by simp[World.frozen?,hwd]);have zw1:=(show Wx.drew.frozen? ⟨wb,1,none⟩=false by simp[World.frozen?,hwd]);have zc:=(show Wx.drew.cell? ⟨wb,0,none⟩=some (.int .i64 TR)by rw[cell_of_row Wx.drew _ 0 _ _ _ hwd];rfl);have zc1:=(show Wx.drew.cell? ⟨wb,1,none⟩=some (.int .i64 PR)by rw[cell_of_row Wx.drew _ 1 _ _ _ hwd];rfl);have HFz:=Hh (show Fr NoM w7 ((Wx.drew.setCell ⟨wb,0,none⟩ (.int .i64 TL)).setCell ⟨wb,1,none⟩ (.int .i64 PL'))from((fx.trans hd (fun _ _ q=>q)).setCell _ _ (fun h=>absurd h (Nat.not_lt.2 hwb7))).setCell _ _ (fun h=>absurd h (Nat.not_lt.2 hwb7)));have HWb:=Hh (show((Wx.drew.setCell ⟨wb,0,none⟩ (.int .i64 TL)).setCell ⟨wb,1,none⟩ (.int .i64 PL')).heap[wb]?=some (.cells #[.int .i64 TL,.int .i64 PL'] 43 (0,0))by rw[heap_set (heap_set hwd _)];rfl);have yw:=(show Wx.frozen? ⟨wb,0,none⟩=false by simp[World.frozen?,hwb]);have yw1:=(show Wx.frozen? ⟨wb,1,none⟩=false by simp[World.frozen?,hwb]);have yc:=(show Wx.cell? ⟨wb,0,none⟩=some (.int .i64 TR)by rw[cell_of_row Wx _ 0 _ _ _ hwb];rfl);have yc1:=(show Wx.cell? ⟨wb,1,none⟩=some (.int .i64 PR)by rw[cell_of_row Wx _ 1 _ _ _ hwb];rfl);have hnw:∀ {b i:Nat}{v:Value},w7.cell? ⟨b,i,none⟩=some v→¬b=wb:=fun {b i v} hc e=>by have h:b<w7.heap.size:=World.block_lt_of_cell? w7 _ hc;omega
      have HS:=Hh (fun(W:World) (f:Fr (fun q=>q=wb) Wx W)=>show W.cell? ⟨sx,0,none⟩=some (.slice la n zl)/\W.cell? ⟨sx,1,none⟩=some (.slice ra n zr)/\W.cell? ⟨w.heap.size,0,none⟩=some (.slice na n nc)/\W.cell? ⟨nb,no+k*2,none⟩=some (.slice oa1 (za2 F k).1.length oc1)/\W.cell? ⟨b7,o7+k*2,none⟩=some (.int .i64 TL)/\W.cell? ⟨b7,o7+k*2+1,none⟩=some (.int .i64 PL')from
       ⟨f.cell q1 (hnw (HSx.out w7 HF7.out).1),f.cell q2 (hnw (HSx.out w7 HF7.out).2.1),f.cell q4 (hnw (HK2.out w7 HF7.out)),f.cell d1 (hnw HL7.out.1),f.cell l1 (hnw HL7.out.2.1),f.cell l2 (hnw HL7.out.2.2)⟩)
      have K0:Fr (fun q=>q=wb) Wx Wx.drew:=(Fr.refl _ Wx).drew;have K1:Fr (fun q=>q=wb) Wx ((Wx.drew.setCell ⟨wb,0,none⟩ (.int .i64 TL)).setCell ⟨wb,1,none⟩ (.int .i64 PL')):=Fr.setCell (M:=fun q=>q=wb) (Fr.setCell (M:=fun q=>q=wb) K0 ⟨wb,0,none⟩ _ (fun _=>rfl)) ⟨wb,1,none⟩ _ (fun _=>rfl);clear hwb7 hwb fx hd hwd hnw;go_upto_region 10 with fail;go_region_held3 (fun(W:World)=>W.cell? ⟨sx,0,none⟩=some (.slice la n zl)/\W.cell? ⟨sx,1,none⟩=some (.slice ra n zr)/\W.cell? ⟨w.heap.size,0,none⟩=some (.slice na n nc)/\W.cell? ⟨nb,no+k*2,none⟩=some (.slice oa1 (za2 F k).1.length oc1)/\W.cell? ⟨b7,o7+k*2,none⟩=some (.int .i64 TL)/\W.cell? ⟨b7,o7+k*2+1,none⟩=some (.int .i64 PL'))
       (first|exact HS.out _ (by assumption))
       (first|fail)
      clear q1 q2 q3 q4 d1 l1 l2 ixn ixl zw zw1 zc zc1 yw yw1 yc yc1;go_upto_region 11 with fail;obtain⟨Lz,hLz⟩:∃Lz,Lz=zfc F k true:=⟨_,rfl⟩;have hLzn:(za2 F k).1=Lz:=by rw[hLz];rfl
      obtain⟨x,hx,hxk,hxe,hxn⟩:=zfm HBk.out rfl HKF.out HNo.out true;have hnext:=zdt HBk.out rfl HKF.out HNo.out true hx hxk;rw[←hLz]at hx hxn;obtain⟨ix,hix⟩:∃ix,ix=ixOf F k true:=⟨_,rfl⟩;rw[←hix]at hx hxn hnext;have hm:=HNd.out.1;rw[hLzn]at hm ⊢;obtain⟨_,_,ee,hl9,hl8,hlc⟩:=id hm;obtain⟨e1,_,e2⟩:=Value.slice.inj ee;subst e1 e2;have hl9:Lz.length≤9223372036854775807:=by omega
      have hixl:ix<Lz.length:=(List.getElem?_eq_some_iff.1 hx).1;have HLt:=Hh (fun(j:Nat) (hj:j<Lz.length)=>show ∃y b o,Lz[j]?=some y/\(∀W,(Instr.indexAt 26 (.slice oa1 Lz.length oc1) (.int .i64 (j:Int))).run Tryz.prog W=.ok (.pointer (some ⟨b,o,none⟩)) W)/\∀W,Fr NoM w7 W→W.cell? ⟨b,o,none⟩=some (.int .i64 (y:Int))from by
       have hy:=List.getElem?_eq_getElem hj
       obtain⟨b,o,ha,c⟩:=hlc j _ hy;exact⟨_,b,o+j,hy,fun W=>za7 oa1 Lz.length oc1 j b o hj ha W,fun W f=>f.cell c (fun q=>q)⟩)
      have HXt:=Hh (fun(y:Nat) (hy:y<n)=>show ∃b o,(∀W,(Instr.indexAt 66 (.slice ra n zr) (.int .i64 (y:Int))).run Tryz.prog W=.ok (.pointer (some ⟨b,o,none⟩)) W)/\∀W,Fr NoM w7 W→W.cell? ⟨b,o,none⟩=some (.int .i64 (sR F y).1)/\W.cell? ⟨b,o+1,none⟩=some (.int .i64 ((sR F y).2:Int))from by
       obtain⟨b,o,ha,c1,c2⟩:=HLs7.out.r y hy;exact⟨b,o+y*2,fun W=>zh4 ra n zr y b o hy ha W,fun W f=>⟨f.cell c1 (fun q=>q),f.cell c2 (fun q=>q)⟩⟩)
      have HX1:=Hh (And.intro hx (And.intro hxk hxe));have HXn:=Hh hxn;have HNx:=Hh hnext;have HLo:=Hh (show ∀i∈Lz,i<k from by rw[hLz];exact zh0 HBk.out.opts HKF.out true);have HIxl:=Hh hixl;clear hx hxk hxe hxn hnext hm hlc hLz hLzn hix hl8 hixl ee;go_wp2_with fail;go_loopw [8,65] (fun v8 t W=>∃(j:Nat),v8=.slice (some ⟨ob,0,none⟩) P.length oc/\t=.int .i64 (j:Int)/\j≤ix/\W.heap[wb]?=some (.cells #[.int .i64 TL,.int .i64 PL'] 43 (0,0))/\Fr NoM w7 W) (fun _ t _=>Lz.length-(intOf t).toNat)
      case atStart=>exact⟨0,rfl,rfl,Nat.zero_le _,HWb.out,HFz.out⟩
      case round =>
       obtain⟨j,rfl,rfl,hj,hwb,hfj⟩:=hrel;obtain⟨wy,rfl⟩:∃wy,wy=wr:=⟨_,rfl⟩;have hjl:j<Lz.length:=by have:=HIxl.out;omega
       obtain⟨y,b8,o8,hy,ix8,hc8⟩:=HLt.out j hjl;have c8:=hc8 wy hfj;have hyk:y<k:=HLo.out y (List.mem_of_getElem? hy);obtain⟨b9,o9,ix9,hc9⟩:=HXt.out y (by have:=HKl.out;omega);obtain⟨c9,c10⟩:=hc9 wy hfj;have z0:wy.cell? ⟨wb,0,none⟩=some (.int .i64 TL):=by rw[cell_of_row wy _ 0 _ _ _ hwb];rfl
       have z1:wy.cell? ⟨wb,1,none⟩=some (.int .i64 PL'):=by rw[cell_of_row wy _ 1 _ _ _ hwb];rfl
       have aL:(j:Int)<(Lz.length:Int):=by omega
       obtain⟨Ty,hTy⟩:∃T,T=(sR F y).1:=⟨_,rfl⟩;obtain⟨Py,hPy⟩:∃T:Int,T=((sR F y).2:Int):=⟨_,rfl⟩;rw[←hTy]at c9;rw[←hPy]at c10;have HY:=Hh hy;have HFj:=Hh hfj;have HWy:=Hh hwb;have HJ:=Hh hj;have HJl:=Hh hjl;have HTy:=Hh (And.intro hTy hPy);by_cases hji:j=ix
       ·have hyx:y=x:=by rw[hji,HX1.out.1]at hy;exact(Option.some.inj hy).symm
        have hE:Ty=TL/\Py=PL':=by
         obtain⟨v1,v2,v3,v4⟩:=HV.out;have h:sR F x=sL F k:=HX1.out.2.2;rw[hTy,hPy,hyx,h,v3,v4];exact⟨rfl,rfl⟩
        obtain⟨rfl,rfl⟩:=hE;have HYx:=Hh hyx;have HJi:=Hh hji;clear hy hyk hc8 hc9 hTy hPy hji hyx hj hjl hwb hfj;go_upto_region 14 with fail;go_quiet (fail);obtain⟨W8,hW8⟩:∃W8,W8=wy.drewN nq:=⟨_,rfl⟩;rw[←hW8];have h78:Fr NoM w7 W8:=by rw[hW8];exact HFj.out.trans (zae wy nq) (fun _ _ q=>q)
        have HF8:=Hh h78;have HO8:=Hh (HO7.out.fr h78 (fun _ _ q=>q));clear hW8 h78 c8 c9 c10 z0 z1 ix8 ix9;go_wp2_with (at_builtin;refine za8 rfl _ _ 26 rfl W2.heap.size 3 _ 1 8 Tryz.underlying26 zaa rfl (by decide) (.slice (some ⟨ob,0,none⟩) P.length oc) P.length (P.map encN) rfl (by exact za1 HO8.out.own ((Fr.refl NoM W8).alloc _) (fun _ _ q=>q)) W8.heap.size rfl [.int .i64 (j:Int)] 3 (heap_alloc_new W8 _) rfl (by intro u hu;simp at hu;subst hu;rfl) HPl.out (by decide) (by have h1:=HF7.out.size;have h2:=HF8.out.size;simp;omega) ?_);intro ov' w9 h9 f9 s9;have H9:=Hh h9;have F9:=Hh f9;clear h9 f9 s9;go_wp2;go_roundw
        case rel =>
         have hxk:=HX1.out.2.1;have hkl:=HKl.out;refine⟨!true,ov',P ++ [ix],x,rfl,rfl,by rw[HYx.out],by omega,?_,?_,?_⟩
         ·have h:=HPP.out
          rw[HNx.out]at h;rw[List.append_assoc];exact h
         ·have h:=H9.out
          rw[HJi.out]at h;exact NRow.snoc h
         ·have f79:=HF8.out.trans ((Fr.refl NoM W8).alloc (.cells #[.int .i64 (j:Int)] 3)) (fun _ _ q=>q)
          exact(HF7.out.trans f79 (fun _ _ q=>q)).trans F9.out (fun q hq e=>absurd (HO7.out.own.lt q e).1 (by omega))
        case measure=>have hxk:=HX1.out.2.1;rw[HYx.out];simp[intOf];omega
       ·have hlt:j<ix:=by omega
        have hne:¬(Ty=TL/\Py=PL'):=fun e=>by
         obtain⟨v1,v2,v3,v4⟩:=HV.out;refine HXn.out j y hlt hy ?_
         show sR F y=sL F k
         refine Prod.ext ?_ ?_
         ·rw[←hTy,e.1];exact v3
         ·have h:=hPy.symm.trans (e.2.trans v4)
          exact Int.ofNat.inj h
        have HLt2:=Hh hlt;clear hy hyk hc8 hc9 hji hj hjl hwb hfj;by_cases hT:Ty=TL
        ·have hP2:¬Py=PL':=fun e=>hne ⟨hT,e⟩
         clear hne hlt hTy hPy HTy;subst hT;go_upto_region 14 with fail;go_quiet (fail);go_wp2;go_roundw
         case rel =>
          have hjl:=HJl.out;exact⟨j+1,rfl,by go_num,by have:=HLt2.out;omega,(zae wy nq).heap HWy.out (fun q=>q),HFj.out.trans (zae wy nq) (fun _ _ q=>q)⟩
         case measure=>have hjl:=HJl.out;simp[intOf];omega
        ·clear hne hlt hTy hPy HTy
         go_upto_region 14 with fail;go_quiet (fail);go_wp2;go_roundw
         case rel =>
          have hjl:=HJl.out;exact⟨j+1,rfl,by go_num,by have:=HLt2.out;omega,(zae wy nq).heap HWy.out (fun q=>q),HFj.out.trans (zae wy nq) (fun _ _ q=>q)⟩
         case measure=>have hjl:=HJl.out;simp[intOf];omega
end Go.Proofs.YtknniemfpkjnbaaGreatDoor
