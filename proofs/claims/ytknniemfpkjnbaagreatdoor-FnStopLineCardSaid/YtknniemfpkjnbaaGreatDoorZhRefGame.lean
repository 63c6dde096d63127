import Derived.Test.YtknniemfpkjnbaaGreatDoorZhOrderKit
/- What the claim of FnStopLineCard needs of: RefGame. -/
namespace Go.Proofs.YtknniemfpkjnbaaGreatDoor
set_option linter.unusedVariables false
set_option linter.unusedSimpArgs false
open Go.RowKit
noncomputable def isL (C:List Nat)(n:Nat):List Bool:=(List.range n).map fun j=>isNB (C.getD j 0)
theorem zxh (C:List Nat)(n:Nat):(isL C n).length=n:=by unfold isL;rw[List.length_map,List.length_range]
theorem zxi (C:List Nat){n j:Nat}(h:j<n):(isL C n)[j]?=some (isNB (C.getD j 0)):=by unfold isL;rw[List.getElem?_map,List.getElem?_range h];rfl
theorem zch (C:List Nat)(k:Nat):isL C (k+1)=isL C k ++ [isNB (C.getD k 0)]:=by unfold isL;rw[List.range_succ,List.map_append];rfl
set_option maxRecDepth 8000 in
set_option maxHeartbeats 8000000 in
theorem zty {R:Nat→Prop}(nv:Value)(c:Nat)(w:World)(h:NodeL R encN w nv (zad c))(hl:(zad c).length≤120)(hcc:∀x,x<(zad c).length→CanC ((za0 (zad c)).getD x 0))(hw:∀y∈zad c,y.1.length≤1000000/\y.2.length≤1000000)(g:Bool)(hg:g=isNB c) :
  Calls Tryz.prog 85 #[.agg #[nv]] w fun e w'=>e=.returned (.bool g)/\Fr NoM w w':=by
 obtain⟨hp,ho,hu,hk,_,hcode⟩:=zfi (zbu c);have hPool:=zey ho hu (zdm ho hk);have hadd:=zkz (zad c) ho hu (zdm ho hk);obtain⟨V,hV⟩:∃V,V=zad c:=⟨_,rfl⟩;rw[←hV]at h hl hcc hw hp ho hu hk hcode hPool hadd;obtain⟨C,hC⟩:∃C,C=za0 V:=⟨_,rfl⟩;have B:BookC V C:=by rw[hC];exact hPool.book
 have hg:g=isNB (C.getD (V.length-1) 0):=by rw[hg,←hcode,hC];rfl
 rw[←hC]at hcc;obtain⟨w1,hw1⟩:∃w1,w1=w.alloc (.cells #[nv] 31):=⟨_,rfl⟩;have f1:Fr NoM w w1:=by rw[hw1];exact(Fr.refl NoM w).alloc _
 have hs1:w1.heap.size=w.heap.size+1:=by rw[hw1];simp
 have e0:w1.heap[w.heap.size]?=some (.cells #[nv] 31 (0,0)):=by rw[hw1];exact heap_alloc_new w _
 obtain⟨bb,hbb⟩:∃bb,bb=w1.heap.size:=⟨_,rfl⟩;obtain⟨w2,hw2⟩:∃w2,w2=w1.alloc (.cells #[.slice none 0 0,.slice none 0 0] 112):=⟨_,rfl⟩;have f2:Fr NoM w1 w2:=by rw[hw2];exact(Fr.refl NoM w1).alloc _
 have hs2:w2.heap.size=bb+1:=by rw[hw2,hbb];simp
 have e2:w2.heap[bb]?=some (.cells #[.slice none 0 0,.slice none 0 0] 112 (0,0)):=by rw[hw2,hbb];exact heap_alloc_new w1 _
 have k0:w2.cell? ⟨w.heap.size,0,none⟩=some nv:=by rw[cell_of_row w2 _ 0 _ _ _ (f2.heap e0 (fun q=>q))];rfl
 have HAd:=Hh (zrk bb nv [] V [] w2 (BookS.made e2) BookOK.nil ((h.low.fr0 f1).fr0 f2) (fun k (hk:k<w.heap.size) e=>by have e:k=bb:=e;omega) ho (by simp;omega) (fun y hy=>by have:=hw y hy;omega));have F12:=Hh (f1.trans f2 (fun _ _ q=>q));have HS2:=Hh hs2;have HS1:=Hh hs1;have HBb:=Hh hbb;obtain⟨na,nc,rfl,_,_,hcell⟩:=id h;have hbd:∀y∈V,y.1.length≤1000000/\y.2.length≤1000000:=hw;have HN:=Hh (fun(k:Nat) (hk:k<V.length)=>show ∃b off lv rv,na=some ⟨b,off,none⟩/\b<w.heap.size/\w.cell? ⟨b,off+k*2,none⟩=some lv/\w.cell? ⟨b,off+k*2+1,none⟩=some rv/\Nats w lv (za2 V k).1/\Nats w rv (za2 V k).2 from by
  obtain⟨b,off,lv,rv,ha,_,c1,c2,s1,s2,_,_⟩:=hcell k _ (za4 hk);exact⟨b,off,lv,rv,ha,World.block_lt_of_cell? w _ c1,c1,c2,s1,s2⟩)
 have HB:=Hh B;have HCc:=Hh hcc;have HG:=Hh hg;have Hl:=Hh hl;have Hp:=Hh hp;have HAdd:=Hh hadd;have E0:=Hh e0;have HOp:=Hh ho;obtain⟨n,hn⟩:∃n,n=V.length:=⟨_,rfl⟩;have hn120:n≤120:=by omega
 rw[←hn]at hw1 HN HCc HG Hl Hp HAdd HAd k0 E0;have Hn:=Hh hn;clear h hl hcc hw hp ho hu hk hcode hPool hadd hV hC B hg f1 hs1 e0 f2 hs2 e2 hcell hbd;rw[←hn];clear hn;go_enter Tryz.func85,Tryz.ntmps85;go_upto_region 1 with fail;rw[←hw1];clear hw1;go_upto_region 2 with fail;rw[←hw2,←hbb];clear hw2 hbb;go_wp2_with fail;(with_reducible refine HAd.out.mono ?_);rintro e w3 ⟨v3,S3,rfl,hrow,hnS,hBS,hS3,f3⟩;rw[HAdd.out]at hrow hBS;have hN3:Nats w3 v3 (List.range n):=SliceOf.of_owns hrow rfl;obtain⟨bnv,bv3,NV3,hBA,_⟩:=id hBS;have hbv:w3.cell? ⟨bb,0,none⟩=some bnv:=by rw[cell_of_row _ _ 0 _ _ _ hBA.blk];rfl
 have HO:=Hh (zna bb bnv V w3 hbv hBA.nodeL (by have:=Hn.out;omega));have HAt:=Hh hN3;have F3:=Hh (show Fr (fun q=>q=bb) w2 w3 from f3);have HK2:=Hh k0;clear hrow hnS hBS hS3 f3 hBA hbv k0;obtain⟨a3,c3,rfl,zz⟩:=id hN3;rw[List.length_range]at *;clear zz hN3;go_wp2_with fail;(with_reducible refine HO.out.mono ?_);rintro e w4 ⟨ob,kb,rfl,hob,hkb,hO,f4⟩;have hkb4:kb<w4.heap.size:=(Array.getElem?_eq_some_iff.1 hO.row).1;have HO4:=Hh hO;have HKb:=Hh (show w3.heap.size≤kb/\kb<w4.heap.size/\w.heap.size<w3.heap.size/\w.heap.size<bb/\bb<w3.heap.size from⟨hkb,hkb4,by have h1:=F3.out.size;have h2:=HS2.out;have h3:=HS1.out;have h4:=HBb.out;omega,by have h3:=HS1.out;have h4:=HBb.out;omega,by have h1:=F3.out.size;have h2:=HS2.out;omega⟩);have F4:=Hh f4;have FW:=Hh (fun(W:World) (f:Fr (fun q=>q=kb) w4 W)=>((F12.out.trans F3.out (fun q hq e=>by have h1:=HKb.out;have e:q=bb:=e;omega)).trans (F4.out.any (M:=fun q=>q=kb)) (fun q hq e=>by have h1:=HKb.out;have e:q=kb:=e;omega)).trans f (fun q hq e=>by have h1:=HKb.out;have e:q=kb:=e;omega) |> (fun(z:Fr NoM w W)=>z));have HK:=Hh (fun(W:World) (f:Fr (fun q=>q=kb) w4 W)=>show W.cell? ⟨w.heap.size,0,none⟩=some (.slice na n nc)from by
  have e1:=(F12.out.trans (Fr.refl NoM w2) (fun _ _ q=>q));have g3:Fr (fun q=>q=bb∨q=kb) w2 W:=(F3.out.mono (fun _ _ e=>.inl e)).trans ((F4.out.any (M:=fun q=>q=kb)).trans f (fun _ _ e=>e)) (fun _ _ e=>.inr e);have e2:w2.cell? ⟨w.heap.size,0,none⟩=some (.slice na n nc):=HK2.out;exact g3.cell e2 (fun e=>by have h1:=HKb.out;rcases e with e|e <;> (first|(have e:w.heap.size=bb:=e;omega)|(have e:w.heap.size=kb:=e;omega))))
 have HNd:=Hh (fun(k:Nat) (hk:k<n)=>show ∃b off lv rv,na=some ⟨b,off,none⟩/\∀W,Fr (fun q=>q=kb) w4 W→W.cell? ⟨b,off+k*2,none⟩=some lv/\W.cell? ⟨b,off+k*2+1,none⟩=some rv/\Nats W lv (za2 V k).1/\Nats W rv (za2 V k).2 from by
  obtain⟨b,off,lv,rv,ha,_,c1,c2,s1,s2⟩:=HN.out k hk;exact⟨b,off,lv,rv,ha,fun W f=>⟨(FW.out W f).cell c1 (fun q=>q),(FW.out W f).cell c2 (fun q=>q),SliceOf.fr0 s1 (FW.out W f),SliceOf.fr0 s2 (FW.out W f)⟩⟩)
 have HAc:=Hh (fun(k:Nat) (hk:k<n)=>show ∃b off,a3=some ⟨b,off,none⟩/\∀W,Fr (fun q=>q=kb) w4 W→W.cell? ⟨b,off+k,none⟩=some (.int .i64 (k:Int))from by
  obtain⟨_,_,ee,_,_,hc⟩:=HAt.out;obtain⟨rfl,_,rfl⟩:=Value.slice.inj ee;obtain⟨b,off,ha,d⟩:=hc k k (by rw[List.getElem?_range hk]);exact⟨b,off,ha,fun W f=>((F4.out.any (M:=fun q=>q=kb)).trans f (fun _ _ e=>e)).cell d (fun e=>by have h1:=HKb.out;have h2:=World.block_lt_of_cell? w3 _ d;have e:b=kb:=e;have h2:b<w3.heap.size:=h2;omega)⟩)
 clear hob hkb hO f4 hkb4 HAt HN;obtain⟨w5,hw5⟩:∃w5,w5=w4.alloc (.cells #[] 4):=⟨_,rfl⟩;have f5:Fr NoM w4 w5:=by rw[hw5];exact(Fr.refl NoM w4).alloc _
 have m5:w5.ownsRow w4.heap.size 4 1 (.slice (some ⟨w4.heap.size,0,none⟩) 0 0) 0 []:=by rw[hw5];exact World.ownsRow_made w4 #[] 0 (Nat.le_refl _) (by decide) (by simp)
 have F5:=Hh f5;have M5:=Hh m5;clear f5 m5;go_upto_region 5 with fail;rw[←hw5];clear hw5;go_wp2_with fail;go_loopw [6,7] (fun v6 v7 W=>∃(bv:Value) (k:Nat) (K:List Nat),bv=v6/\v7=.int .i64 (k:Int)/\k≤n/\W.ownsRow w4.heap.size 4 1 bv k ((isL C k).map encB)/\RowIs 3 encN W kb K/\K.length=V.length*V.length/\KOK C V.length (2*V.length) K/\Fr (fun q=>q=kb) w4 W) (fun _ v7 _=>n-(intOf v7).toNat)
 case atStart=>exact⟨_,0,_,rfl,rfl,Nat.zero_le _,M5.out,HO4.out.row.fr F5.out (fun q=>q),HO4.out.len,KOK.start _ _ _ _,F5.out.any⟩
 case round =>
  obtain⟨bv,k,K,rfl,rfl,hk,hr,hK1,hK2,hK3,hf⟩:=hrel;obtain⟨w7,rfl⟩:∃w7,w7=wr:=⟨_,rfl⟩;have k0:=HK.out w7 hf;by_cases hlt:k<n
  ·obtain⟨b1,o1,lv,rv,ha1,hcc⟩:=HNd.out k hlt
   obtain⟨c1,c2,n1,n2⟩:=hcc w7 hf;have ixn:=zb7 na n nc k b1 o1 hlt ha1;have aL:(k:Int)<(n:Int):=by omega
   have hk120:k<120:=by omega
   obtain⟨Lx,hLx⟩:∃Lx,Lx=(za2 V k).1:=⟨_,rfl⟩;obtain⟨Rx,hRx⟩:∃Rx,Rx=(za2 V k).2:=⟨_,rfl⟩;have hrows:=zir HB.out (x:=k) (by have:=Hn.out;omega) (HCc.out k hlt);obtain⟨q1,q2⟩:=HOp.out k _ (za4 (by have:=Hn.out;omega));rw[←hLx]at n1 hrows q1;rw[←hRx]at n2 hrows q2;obtain⟨la,lc,rfl,hl1,hl2,hlc⟩:=id n1;obtain⟨ra,rc,rfl,hr1,hr2,hrc⟩:=id n2;have hl9:Lx.length≤9223372036854775807:=by omega
   have hr9:Rx.length≤9223372036854775807:=by omega
   obtain⟨W6,hW6⟩:∃W6,W6=w7.alloc (.cells #[.slice la Lx.length lc,.slice ra Rx.length rc] 73):=⟨_,rfl⟩;obtain⟨bx,hbx⟩:∃bx,bx=w7.heap.size:=⟨_,rfl⟩;have f6:Fr NoM w7 W6:=by rw[hW6];exact(Fr.refl NoM w7).alloc _
   have e6:W6.heap[bx]?=some (.cells #[.slice la Lx.length lc,.slice ra Rx.length rc] 73 (0,0)):=by rw[hW6,hbx];exact heap_alloc_new w7 _
   have g6:Fr (fun q=>q=kb) w4 W6:=hf.trans f6 (fun _ _ q=>q.elim);have HX:=Hh (fun(W:World) (f:Fr NoM W6 W)=>show W.cell? ⟨bx,0,none⟩=some (.slice la Lx.length lc)/\W.cell? ⟨bx,1,none⟩=some (.slice ra Rx.length rc)from by
    have h0:=f.heap e6 (fun q=>q);exact⟨by rw[cell_of_row W _ 0 _ _ _ h0];rfl,by rw[cell_of_row W _ 1 _ _ _ h0];rfl⟩)
   obtain⟨ba,bc,hbv,_,_,hwc⟩:=(SliceOf.of_owns hr rfl:SliceOf encB w7 bv (isL C k));rw[zxh]at hbv;subst hbv;have HWd:=Hh (fun(y:Nat) (hy:y<k)=>show ∃b o,ba=some ⟨b,o,none⟩/\∀W,Fr NoM W6 W→W.cell? ⟨b,o+y,none⟩=some (.bool (isNB (C.getD y 0)))from by
    obtain⟨b,o,ha,d⟩:=hwc y _ (zxi C hy);exact⟨b,o,ha,fun W f=>(f6.trans f (fun _ _ q=>q)).cell d (fun q=>q)⟩)
   have HR:=Hh (za1 hr f6 (fun _ _ q=>q));have HRow:=Hh (hK1.fr f6 (fun q=>q));have HKk:=Hh (And.intro hK2 hK3);have G6:=Hh g6;have HOr:=Hh (show OrdR W6 ob bb kb V K from HO4.out.fr g6 (hK1.fr f6 (fun q=>q)) hK2);have HRows:=Hh hrows;have HQ:=Hh (And.intro q1 q2);have HKl:=Hh hlt;have HLc:=Hh (fun(y x:Nat) (hy:Lx[y]?=some x)=>show ∃b o,la=some ⟨b,o,none⟩/\∀W,Fr NoM W6 W→W.cell? ⟨b,o+y,none⟩=some (.int .i64 (x:Int))from by
    obtain⟨b,o,ha,d⟩:=hlc y x hy;exact⟨b,o,ha,fun W f=>(f6.trans f (fun _ _ q=>q)).cell d (fun q=>q)⟩)
   have HRc:=Hh (fun(y x:Nat) (hy:Rx[y]?=some x)=>show ∃b o,ra=some ⟨b,o,none⟩/\∀W,Fr NoM W6 W→W.cell? ⟨b,o+y,none⟩=some (.int .i64 (x:Int))from by
    obtain⟨b,o,ha,d⟩:=hrc y x hy;exact⟨b,o,ha,fun W f=>(f6.trans f (fun _ _ q=>q)).cell d (fun q=>q)⟩)
   have HLx:=Hh hLx;have HRx:=Hh hRx;clear hr hK1 hK2 hK3 hf hcc ha1 hrows q1 q2 n1 n2 hl1 hl2 hlc hr1 hr2 hrc f6 e6 g6 hwc hlt hk hLx hRx;go_upto_region 9 with fail;rw[←hW6,←hbx];clear hW6 hbx k0 c1 c2 ixn aL;have HRows2:=HRows;by_cases hL1:1<Lx.length
   ·have a1:¬(Lx.length:Int)≤1:=by omega
    obtain⟨x0,x1⟩:=HX.out W6 (Fr.refl _ _);have GW:=G6;have HRW:=HR;have HRowW:=HRow;have HKW:=HKk;have HSz:=Hh (show w4.heap.size≤W6.heap.size from GW.out.size);have HBb':=Hh (show(k+1)*1≤140737488355328 by have h1:=HKl.out;omega);go_wp2_with (at_builtin;refine za8 rfl _ _ 67 rfl w4.heap.size 4 _ 1 1 Tryz.underlying67 zbh rfl (by decide) (.slice ba k bc) k ((isL C k).map encB) rfl (by exact za1 HRW.out ((Fr.refl NoM W6).alloc _) (fun _ _ q=>q)) W6.heap.size rfl [.bool false] 4 (heap_alloc_new W6 _) rfl (by intro u hu;simp at hu;subst hu;rfl) HBb'.out (by decide) (by have:=HSz.out;simp;omega) ?_);intro v9 w9 h9 f9 s9;have H9:=Hh h9;have F9:=Hh f9;clear h9 f9 s9;go_wp2;go_roundw
    case rel =>
     have hv:isNB (C.getD k 0)=false:=by
      cases hc:isNB (C.getD k 0)with
      | false=>rfl
      | true=>have:=(HRows.out.1 hc).1;omega
     have g9:Fr (fun q=>q=kb) w4 w9:=(GW.out.trans ((Fr.refl NoM W6).alloc (.cells #[.bool false] 4)) (fun _ _ q=>q.elim)).trans F9.out (fun q hq e=>by have h1:=(HRW.out.lt q e).1;omega);have hkl:=HKl.out;refine⟨v9,k+1,K,rfl,by go_num,by omega,?_,?_,HKW.out.1,HKW.out.2,g9⟩
     ·rw[zch,List.map_append,hv]
      exact H9.out
     ·exact(HRowW.out.fr ((Fr.refl NoM W6).alloc (.cells #[.bool false] 4)) (fun q=>q)).fr F9.out (fun e=>by have h1:=(HRW.out.lt kb e).1;have h2:=HKb.out;omega)
    case measure=>have hkl:=HKl.out;simp[intOf];omega
   ·by_cases hR1:1<Rx.length
    ·have a1:(Lx.length:Int)≤1:=by omega
     have a2:¬(Rx.length:Int)≤1:=by omega
     obtain⟨x0,x1⟩:=HX.out W6 (Fr.refl _ _);have GW:=G6;have HRW:=HR;have HRowW:=HRow;have HKW:=HKk;have HSz:=Hh (show w4.heap.size≤W6.heap.size from GW.out.size);have HBb':=Hh (show(k+1)*1≤140737488355328 by have h1:=HKl.out;omega);go_wp2_with (at_builtin;refine za8 rfl _ _ 67 rfl w4.heap.size 4 _ 1 1 Tryz.underlying67 zbh rfl (by decide) (.slice ba k bc) k ((isL C k).map encB) rfl (by exact za1 HRW.out ((Fr.refl NoM W6).alloc _) (fun _ _ q=>q)) W6.heap.size rfl [.bool false] 4 (heap_alloc_new W6 _) rfl (by intro u hu;simp at hu;subst hu;rfl) HBb'.out (by decide) (by have:=HSz.out;simp;omega) ?_);intro v9 w9 h9 f9 s9;have H9:=Hh h9;have F9:=Hh f9;clear h9 f9 s9;go_wp2;go_roundw
     case rel =>
      have hv:isNB (C.getD k 0)=false:=by
       cases hc:isNB (C.getD k 0)with
       | false=>rfl
       | true=>have:=(HRows.out.1 hc).2.1;omega
      have g9:Fr (fun q=>q=kb) w4 w9:=(GW.out.trans ((Fr.refl NoM W6).alloc (.cells #[.bool false] 4)) (fun _ _ q=>q.elim)).trans F9.out (fun q hq e=>by have h1:=(HRW.out.lt q e).1;omega);have hkl:=HKl.out;refine⟨v9,k+1,K,rfl,by go_num,by omega,?_,?_,HKW.out.1,HKW.out.2,g9⟩
      ·rw[zch,List.map_append,hv]
       exact H9.out
      ·exact(HRowW.out.fr ((Fr.refl NoM W6).alloc (.cells #[.bool false] 4)) (fun q=>q)).fr F9.out (fun e=>by have h1:=(HRW.out.lt kb e).1;have h2:=HKb.out;omega)
     case measure=>have hkl:=HKl.out;simp[intOf];omega
    ·have hl1:Lx.length≤1:=by omega
     have hr1:Rx.length≤1:=by omega
     clear hL1 hR1 hl9 hr9;match Lx,Rx,hl1,hr1,HRows,HQ,HLc,HRc,HX,HLx,HRx with
     | [],[],hl1,hr1,HRows,HQ,HLc,HRc,HX,HLx,HRx =>
      obtain⟨x0,x1⟩:=HX.out W6 (Fr.refl _ _);replace x0:W6.cell? ⟨bx,0,none⟩=some (.slice la 0 lc):=x0
      replace x1:W6.cell? ⟨bx,1,none⟩=some (.slice ra 0 rc):=x1
      have GW:=G6;have HRW:=HR;have HRowW:=HRow;have HKW:=HKk;have HSz:=Hh (show w4.heap.size≤W6.heap.size from GW.out.size);have HBb':=Hh (show(k+1)*1≤140737488355328 by have h1:=HKl.out;omega);go_wp2_with (at_builtin;refine za8 rfl _ _ 67 rfl w4.heap.size 4 _ 1 1 Tryz.underlying67 zbh rfl (by decide) (.slice ba k bc) k ((isL C k).map encB) rfl (by exact za1 HRW.out ((Fr.refl NoM W6).alloc _) (fun _ _ q=>q)) W6.heap.size rfl [.bool true] 4 (heap_alloc_new W6 _) rfl (by intro u hu;simp at hu;subst hu;rfl) HBb'.out (by decide) (by have:=HSz.out;simp;omega) ?_);intro v9 w9 h9 f9 s9;have H9:=Hh h9;have F9:=Hh f9;clear h9 f9 s9;go_wp2;go_roundw
      case rel =>
       have hv:isNB (C.getD k 0)=true:=by
        exact HRows.out.2 ⟨by simp,by simp,by simp,by simp,by simp⟩
       have g9:Fr (fun q=>q=kb) w4 w9:=(GW.out.trans ((Fr.refl NoM W6).alloc (.cells #[.bool true] 4)) (fun _ _ q=>q.elim)).trans F9.out (fun q hq e=>by have h1:=(HRW.out.lt q e).1;omega);have hkl:=HKl.out;refine⟨v9,k+1,K,rfl,by go_num,by omega,?_,?_,HKW.out.1,HKW.out.2,g9⟩
       ·rw[zch,List.map_append,hv]
        exact H9.out
       ·exact(HRowW.out.fr ((Fr.refl NoM W6).alloc (.cells #[.bool true] 4)) (fun q=>q)).fr F9.out (fun e=>by have h1:=(HRW.out.lt kb e).1;have h2:=HKb.out;omega)
      case measure=>have hkl:=HKl.out;simp[intOf];omega
     | [a],[],hl1,hr1,HRows,HQ,HLc,HRc,HX,HLx,HRx =>
      obtain⟨x0,x1⟩:=HX.out W6 (Fr.refl _ _);replace x0:W6.cell? ⟨bx,0,none⟩=some (.slice la 1 lc):=x0
      replace x1:W6.cell? ⟨bx,1,none⟩=some (.slice ra 0 rc):=x1
      have hak:a<k:=HQ.out.1 a (by simp);obtain⟨b5,o5,ha5,d5⟩:=HLc.out 0 a rfl;have ixa:=za7 la 1 lc 0 b5 o5 (by omega) ha5;rw[show((0:Nat):Int)=0 from rfl]at ixa;have d5:W6.cell? ⟨b5,o5,none⟩=some (.int .i64 (a:Int)):=d5 W6 (Fr.refl _ _);obtain⟨b6,o6,ha6,d6⟩:=HWd.out a hak;have ixw:=zf3 ba k bc a b6 o6 hak ha6;have d6:=d6 W6 (Fr.refl _ _);have hakI:(a:Int)<(k:Int):=by omega
      obtain⟨ga,hga⟩:∃ga,ga=isNB (C.getD a 0):=⟨_,rfl⟩;rw[←hga]at d6;have HGa:=Hh hga;clear ha5 ha6 hga;have GW:=G6;have HRW:=HR;have HRowW:=HRow;have HKW:=HKk;cases ga with
      | true =>
       have HSz:=Hh (show w4.heap.size≤W6.heap.size from GW.out.size);have HBb':=Hh (show(k+1)*1≤140737488355328 by have h1:=HKl.out;omega);go_wp2_with (at_builtin;refine za8 rfl _ _ 67 rfl w4.heap.size 4 _ 1 1 Tryz.underlying67 zbh rfl (by decide) (.slice ba k bc) k ((isL C k).map encB) rfl (by exact za1 HRW.out ((Fr.refl NoM W6).alloc _) (fun _ _ q=>q)) W6.heap.size rfl [.bool true] 4 (heap_alloc_new W6 _) rfl (by intro u hu;simp at hu;subst hu;rfl) HBb'.out (by decide) (by have:=HSz.out;simp;omega) ?_);intro v9 w9 h9 f9 s9;have H9:=Hh h9;have F9:=Hh f9;clear h9 f9 s9;go_wp2;go_roundw
       case rel =>
        have hv:isNB (C.getD k 0)=true:=by
         exact HRows.out.2 ⟨by simp,by simp,fun l hl=>by rw[List.mem_singleton.1 hl,←HGa.out],by simp,by simp⟩
        have g9:Fr (fun q=>q=kb) w4 w9:=(GW.out.trans ((Fr.refl NoM W6).alloc (.cells #[.bool true] 4)) (fun _ _ q=>q.elim)).trans F9.out (fun q hq e=>by have h1:=(HRW.out.lt q e).1;omega);have hkl:=HKl.out;refine⟨v9,k+1,K,rfl,by go_num,by omega,?_,?_,HKW.out.1,HKW.out.2,g9⟩
        ·rw[zch,List.map_append,hv]
         exact H9.out
        ·exact(HRowW.out.fr ((Fr.refl NoM W6).alloc (.cells #[.bool true] 4)) (fun q=>q)).fr F9.out (fun e=>by have h1:=(HRW.out.lt kb e).1;have h2:=HKb.out;omega)
       case measure=>have hkl:=HKl.out;simp[intOf];omega
      | false =>
       have HSz:=Hh (show w4.heap.size≤W6.heap.size from GW.out.size);have HBb':=Hh (show(k+1)*1≤140737488355328 by have h1:=HKl.out;omega);go_wp2_with (at_builtin;refine za8 rfl _ _ 67 rfl w4.heap.size 4 _ 1 1 Tryz.underlying67 zbh rfl (by decide) (.slice ba k bc) k ((isL C k).map encB) rfl (by exact za1 HRW.out ((Fr.refl NoM W6).alloc _) (fun _ _ q=>q)) W6.heap.size rfl [.bool false] 4 (heap_alloc_new W6 _) rfl (by intro u hu;simp at hu;subst hu;rfl) HBb'.out (by decide) (by have:=HSz.out;simp;omega) ?_);intro v9 w9 h9 f9 s9;have H9:=Hh h9;have F9:=Hh f9;clear h9 f9 s9;go_wp2;go_roundw
       case rel =>
        have hv:isNB (C.getD k 0)=false:=by
         cases hc:isNB (C.getD k 0)with
         | false=>rfl
         | true=>rw[(HRows.out.1 hc).2.2.1 a (by simp)]at HGa;exact HGa.out.symm
        have g9:Fr (fun q=>q=kb) w4 w9:=(GW.out.trans ((Fr.refl NoM W6).alloc (.cells #[.bool false] 4)) (fun _ _ q=>q.elim)).trans F9.out (fun q hq e=>by have h1:=(HRW.out.lt q e).1;omega);have hkl:=HKl.out;refine⟨v9,k+1,K,rfl,by go_num,by omega,?_,?_,HKW.out.1,HKW.out.2,g9⟩
        ·rw[zch,List.map_append,hv]
         exact H9.out
        ·exact(HRowW.out.fr ((Fr.refl NoM W6).alloc (.cells #[.bool false] 4)) (fun q=>q)).fr F9.out (fun e=>by have h1:=(HRW.out.lt kb e).1;have h2:=HKb.out;omega)
       case measure=>have hkl:=HKl.out;simp[intOf];omega
     | [],[a],hl1,hr1,HRows,HQ,HLc,HRc,HX,HLx,HRx =>
      obtain⟨x0,x1⟩:=HX.out W6 (Fr.refl _ _);replace x0:W6.cell? ⟨bx,0,none⟩=some (.slice la 0 lc):=x0
      replace x1:W6.cell? ⟨bx,1,none⟩=some (.slice ra 1 rc):=x1
      have hak:a<k:=HQ.out.2 a (by simp);obtain⟨b5,o5,ha5,d5⟩:=HRc.out 0 a rfl;have ixa:=za7 ra 1 rc 0 b5 o5 (by omega) ha5;rw[show((0:Nat):Int)=0 from rfl]at ixa;have d5:W6.cell? ⟨b5,o5,none⟩=some (.int .i64 (a:Int)):=d5 W6 (Fr.refl _ _);obtain⟨b6,o6,ha6,d6⟩:=HWd.out a hak;have ixw:=zf3 ba k bc a b6 o6 hak ha6;have d6:=d6 W6 (Fr.refl _ _);have hakI:(a:Int)<(k:Int):=by omega
      obtain⟨ga,hga⟩:∃ga,ga=isNB (C.getD a 0):=⟨_,rfl⟩;rw[←hga]at d6;have HGa:=Hh hga;clear ha5 ha6 hga;have GW:=G6;have HRW:=HR;have HRowW:=HRow;have HKW:=HKk;cases ga with
      | true =>
       have HSz:=Hh (show w4.heap.size≤W6.heap.size from GW.out.size);have HBb':=Hh (show(k+1)*1≤140737488355328 by have h1:=HKl.out;omega);go_wp2_with (at_builtin;refine za8 rfl _ _ 67 rfl w4.heap.size 4 _ 1 1 Tryz.underlying67 zbh rfl (by decide) (.slice ba k bc) k ((isL C k).map encB) rfl (by exact za1 HRW.out ((Fr.refl NoM W6).alloc _) (fun _ _ q=>q)) W6.heap.size rfl [.bool true] 4 (heap_alloc_new W6 _) rfl (by intro u hu;simp at hu;subst hu;rfl) HBb'.out (by decide) (by have:=HSz.out;simp;omega) ?_);intro v9 w9 h9 f9 s9;have H9:=Hh h9;have F9:=Hh f9;clear h9 f9 s9;go_wp2;go_roundw
       case rel =>
        have hv:isNB (C.getD k 0)=true:=by
         exact HRows.out.2 ⟨by simp,by simp,by simp,fun l hl=>by rw[List.mem_singleton.1 hl,←HGa.out],by simp⟩
        have g9:Fr (fun q=>q=kb) w4 w9:=(GW.out.trans ((Fr.refl NoM W6).alloc (.cells #[.bool true] 4)) (fun _ _ q=>q.elim)).trans F9.out (fun q hq e=>by have h1:=(HRW.out.lt q e).1;omega);have hkl:=HKl.out;refine⟨v9,k+1,K,rfl,by go_num,by omega,?_,?_,HKW.out.1,HKW.out.2,g9⟩
        ·rw[zch,List.map_append,hv]
         exact H9.out
        ·exact(HRowW.out.fr ((Fr.refl NoM W6).alloc (.cells #[.bool true] 4)) (fun q=>q)).fr F9.out (fun e=>by have h1:=(HRW.out.lt kb e).1;have h2:=HKb.out;omega)
       case measure=>have hkl:=HKl.out;simp[intOf];omega
      | false =>
       have HSz:=Hh (show w4.heap.size≤W6.heap.size from GW.out.size);have HBb':=Hh (show(k+1)*1≤140737488355328 by have h1:=HKl.out;omega);go_wp2_with (at_builtin;refine za8 rfl _ _ 67 rfl w4.heap.size 4 _ 1 1 Tryz.underlying67 zbh rfl (by decide) (.slice ba k bc) k ((isL C k).map encB) rfl (by exact za1 HRW.out ((Fr.refl NoM W6).alloc _) (fun _ _ q=>q)) W6.heap.size rfl [.bool false] 4 (heap_alloc_new W6 _) rfl (by intro u hu;simp at hu;subst hu;rfl) HBb'.out (by decide) (by have:=HSz.out;simp;omega) ?_);intro v9 w9 h9 f9 s9;have H9:=Hh h9;have F9:=Hh f9;clear h9 f9 s9;go_wp2;go_roundw
       case rel =>
        have hv:isNB (C.getD k 0)=false:=by
         cases hc:isNB (C.getD k 0)with
         | false=>rfl
         | true=>rw[(HRows.out.1 hc).2.2.2.1 a (by simp)]at HGa;exact HGa.out.symm
        have g9:Fr (fun q=>q=kb) w4 w9:=(GW.out.trans ((Fr.refl NoM W6).alloc (.cells #[.bool false] 4)) (fun _ _ q=>q.elim)).trans F9.out (fun q hq e=>by have h1:=(HRW.out.lt q e).1;omega);have hkl:=HKl.out;refine⟨v9,k+1,K,rfl,by go_num,by omega,?_,?_,HKW.out.1,HKW.out.2,g9⟩
        ·rw[zch,List.map_append,hv]
         exact H9.out
        ·exact(HRowW.out.fr ((Fr.refl NoM W6).alloc (.cells #[.bool false] 4)) (fun q=>q)).fr F9.out (fun e=>by have h1:=(HRW.out.lt kb e).1;have h2:=HKb.out;omega)
       case measure=>have hkl:=HKl.out;simp[intOf];omega
     | [a],[b],hl1,hr1,HRows,HQ,HLc,HRc,HX,HLx,HRx =>
      obtain⟨x0,x1⟩:=HX.out W6 (Fr.refl _ _);replace x0:W6.cell? ⟨bx,0,none⟩=some (.slice la 1 lc):=x0
      replace x1:W6.cell? ⟨bx,1,none⟩=some (.slice ra 1 rc):=x1
      have hak:a<k:=HQ.out.1 a (by simp);obtain⟨b5a,o5a,ha5a,d5a⟩:=HLc.out 0 a rfl;have ixa:=za7 la 1 lc 0 b5a o5a (by omega) ha5a;rw[show((0:Nat):Int)=0 from rfl]at ixa;have HD5a:=Hh d5a;have d5a:W6.cell? ⟨b5a,o5a,none⟩=some (.int .i64 (a:Int)):=d5a W6 (Fr.refl _ _);obtain⟨b6a,o6a,ha6a,d6a⟩:=HWd.out a hak;have ixwa:=zf3 ba k bc a b6a o6a hak ha6a;have d6a:=d6a W6 (Fr.refl _ _);have hakI:(a:Int)<(k:Int):=by omega
      obtain⟨ga,hga⟩:∃ga,ga=isNB (C.getD a 0):=⟨_,rfl⟩;rw[←hga]at d6a;have HGa:=Hh hga;obtain⟨b7a,o7a,ha7a,d7a⟩:=HAc.out a (by have:=HKl.out;omega);have ixta:=za7 a3 n c3 a b7a o7a (by have:=HKl.out;omega) ha7a;have d7a:=d7a W6 G6.out;clear ha5a ha6a hga ha7a;have hbk:b<k:=HQ.out.2 b (by simp);obtain⟨b5b,o5b,ha5b,d5b⟩:=HRc.out 0 b rfl;have ixb:=za7 ra 1 rc 0 b5b o5b (by omega) ha5b;rw[show((0:Nat):Int)=0 from rfl]at ixb;have HD5b:=Hh d5b;have d5b:W6.cell? ⟨b5b,o5b,none⟩=some (.int .i64 (b:Int)):=d5b W6 (Fr.refl _ _);obtain⟨b6b,o6b,ha6b,d6b⟩:=HWd.out b hbk;have ixwb:=zf3 ba k bc b b6b o6b hbk ha6b;have d6b:=d6b W6 (Fr.refl _ _);have hbkI:(b:Int)<(k:Int):=by omega
      obtain⟨gb,hgb⟩:∃gb,gb=isNB (C.getD b 0):=⟨_,rfl⟩;rw[←hgb]at d6b;have HGb:=Hh hgb;obtain⟨b7b,o7b,ha7b,d7b⟩:=HAc.out b (by have:=HKl.out;omega);have ixtb:=za7 a3 n c3 b b7b o7b (by have:=HKl.out;omega) ha7b;have d7b:=d7b W6 G6.out;clear ha5b ha6b hgb ha7b;cases ga with
      | false =>
       have GW:=G6;have HRW:=HR;have HRowW:=HRow;have HKW:=HKk;have HSz:=Hh (show w4.heap.size≤W6.heap.size from GW.out.size);have HBb':=Hh (show(k+1)*1≤140737488355328 by have h1:=HKl.out;omega);go_wp2_with (at_builtin;refine za8 rfl _ _ 67 rfl w4.heap.size 4 _ 1 1 Tryz.underlying67 zbh rfl (by decide) (.slice ba k bc) k ((isL C k).map encB) rfl (by exact za1 HRW.out ((Fr.refl NoM W6).alloc _) (fun _ _ q=>q)) W6.heap.size rfl [.bool false] 4 (heap_alloc_new W6 _) rfl (by intro u hu;simp at hu;subst hu;rfl) HBb'.out (by decide) (by have:=HSz.out;simp;omega) ?_);intro v9 w9 h9 f9 s9;have H9:=Hh h9;have F9:=Hh f9;clear h9 f9 s9;go_wp2;go_roundw
       case rel =>
        have hv:isNB (C.getD k 0)=false:=by
         cases hc:isNB (C.getD k 0)with
         | false=>rfl
         | true=>rw[(HRows.out.1 hc).2.2.1 a (by simp)]at HGa;exact HGa.out.symm
        have g9:Fr (fun q=>q=kb) w4 w9:=(GW.out.trans ((Fr.refl NoM W6).alloc (.cells #[.bool false] 4)) (fun _ _ q=>q.elim)).trans F9.out (fun q hq e=>by have h1:=(HRW.out.lt q e).1;omega);have hkl:=HKl.out;refine⟨v9,k+1,K,rfl,by go_num,by omega,?_,?_,HKW.out.1,HKW.out.2,g9⟩
        ·rw[zch,List.map_append,hv]
         exact H9.out
        ·exact(HRowW.out.fr ((Fr.refl NoM W6).alloc (.cells #[.bool false] 4)) (fun q=>q)).fr F9.out (fun e=>by have h1:=(HRW.out.lt kb e).1;have h2:=HKb.out;omega)
       case measure=>have hkl:=HKl.out;simp[intOf];omega
      | true =>
       cases gb with
       | false =>
        have GW:=G6;have HRW:=HR;have HRowW:=HRow;have HKW:=HKk;have HSz:=Hh (show w4.heap.size≤W6.heap.size from GW.out.size);have HBb':=Hh (show(k+1)*1≤140737488355328 by have h1:=HKl.out;omega);go_wp2_with (at_builtin;refine za8 rfl _ _ 67 rfl w4.heap.size 4 _ 1 1 Tryz.underlying67 zbh rfl (by decide) (.slice ba k bc) k ((isL C k).map encB) rfl (by exact za1 HRW.out ((Fr.refl NoM W6).alloc _) (fun _ _ q=>q)) W6.heap.size rfl [.bool false] 4 (heap_alloc_new W6 _) rfl (by intro u hu;simp at hu;subst hu;rfl) HBb'.out (by decide) (by have:=HSz.out;simp;omega) ?_);intro v9 w9 h9 f9 s9;have H9:=Hh h9;have F9:=Hh f9;clear h9 f9 s9;go_wp2;go_roundw
        case rel =>
         have hv:isNB (C.getD k 0)=false:=by
          cases hc:isNB (C.getD k 0)with
          | false=>rfl
          | true=>rw[(HRows.out.1 hc).2.2.2.1 b (by simp)]at HGb;exact HGb.out.symm
         have g9:Fr (fun q=>q=kb) w4 w9:=(GW.out.trans ((Fr.refl NoM W6).alloc (.cells #[.bool false] 4)) (fun _ _ q=>q.elim)).trans F9.out (fun q hq e=>by have h1:=(HRW.out.lt q e).1;omega);have hkl:=HKl.out;refine⟨v9,k+1,K,rfl,by go_num,by omega,?_,?_,HKW.out.1,HKW.out.2,g9⟩
         ·rw[zch,List.map_append,hv]
          exact H9.out
         ·exact(HRowW.out.fr ((Fr.refl NoM W6).alloc (.cells #[.bool false] 4)) (fun q=>q)).fr F9.out (fun e=>by have h1:=(HRW.out.lt kb e).1;have h2:=HKb.out;omega)
        case measure=>have hkl:=HKl.out;simp[intOf];omega
       | true =>
        have hn:=Hn.out;obtain⟨gv,hgv⟩:∃gv,gv=geV C a b:=⟨_,rfl⟩;have HGe:=Hh (fun(W:World) (f:Fr NoM W6 W)=>by
         have h:=zhc HB.out ob bb kb a b (by omega) (by have:=HKl.out;omega) (by have:=HKl.out;omega) K W (HOr.out.fr0 f) HKk.out.2;rw[←hgv]at h;exact h)
        have HGv:=Hh hgv;have HSc:=Hh (fun(W:World) (f:Fr NoM W6 W)=>show(W.cell? ⟨bx,0,none⟩=some (.slice la 1 lc)/\W.cell? ⟨bx,1,none⟩=some (.slice ra 1 rc))/\(W.cell? ⟨b5a,o5a,none⟩=some (.int .i64 (a:Int))/\W.cell? ⟨b5b,o5b,none⟩=some (.int .i64 (b:Int)))/\W.cell? ⟨b7a,o7a+a,none⟩=some (.int .i64 (a:Int))/\W.cell? ⟨b7b,o7b+b,none⟩=some (.int .i64 (b:Int))from
         ⟨HX.out W f,⟨HD5a.out W f,HD5b.out W f⟩,f.cell d7a (fun q=>q),f.cell d7b (fun q=>q)⟩)
        have Q0:Fr NoM W6 W6.drew:=(Fr.refl NoM W6).drew;clear hn hgv;go_upto_region 11 with fail;go_region_law (first
         | (go_simp;first
          | (go_at_call 131;(with_reducible refine(HGe.out _ (by first|exact Q0|exact Fr.refl _ _)).mono ?_);rintro e w8 ⟨rfl,K',o8,kk8,f8⟩;have g8:Fr (fun q=>q=kb) w4 w8:=(G6.out.trans Q0 (fun _ _ q=>q.elim)).trans f8 (fun _ _ q=>q))
          | fail)
         | fail)
        all_goals
         have GW:=Hh g8;have HRW:=Hh (show w8.ownsRow w4.heap.size 4 1 (.slice ba k bc) k ((isL C k).map encB)from za1 HR.out ((Q0.any (M:=fun q=>q=kb)).trans f8 (fun _ _ q=>q)) (fun q hq e=>by have h1:=(HR.out.lt q hq).1;have h2:=HKb.out;have e:q=kb:=e;omega));have HRowW:=Hh o8.row;have HKW:=Hh (And.intro o8.len kk8);obtain⟨nb,hnb⟩:∃nb,nb=!gv:=⟨_,rfl⟩;have HNb:=Hh hnb;clear g8 o8 kk8 f8 d5a d5b d6a d6b d7a d7b x0 x1;cases gv with
         | true =>
          have HSz:=Hh (show w4.heap.size≤w8.heap.size from GW.out.size);have HBb':=Hh (show(k+1)*1≤140737488355328 by have h1:=HKl.out;omega);go_wp2_with (at_builtin;refine za8 rfl _ _ 67 rfl w4.heap.size 4 _ 1 1 Tryz.underlying67 zbh rfl (by decide) (.slice ba k bc) k ((isL C k).map encB) rfl (by exact za1 HRW.out ((Fr.refl NoM w8).alloc _) (fun _ _ q=>q)) w8.heap.size rfl [.bool false] 4 (heap_alloc_new w8 _) rfl (by intro u hu;simp at hu;subst hu;rfl) HBb'.out (by decide) (by have:=HSz.out;simp;omega) ?_);intro v9 w9 h9 f9 s9;have H9:=Hh h9;have F9:=Hh f9;clear h9 f9 s9;go_wp2;go_roundw
          case rel =>
           have hv:isNB (C.getD k 0)=false:=by
            cases hc:isNB (C.getD k 0)with
            | false=>rfl
            | true =>
             have h1:=(HRows.out.1 hc).2.2.2.2 a (by simp) b (by simp);rw[←HGv.out]at h1;cases h1
           have g9:Fr (fun q=>q=kb) w4 w9:=(GW.out.trans ((Fr.refl NoM w8).alloc (.cells #[.bool false] 4)) (fun _ _ q=>q.elim)).trans F9.out (fun q hq e=>by have h1:=(HRW.out.lt q e).1;omega);have hkl:=HKl.out;refine⟨v9,k+1,K',rfl,by go_num,by omega,?_,?_,HKW.out.1,HKW.out.2,g9⟩
           ·rw[zch,List.map_append,hv]
            exact H9.out
           ·exact(HRowW.out.fr ((Fr.refl NoM w8).alloc (.cells #[.bool false] 4)) (fun q=>q)).fr F9.out (fun e=>by have h1:=(HRW.out.lt kb e).1;have h2:=HKb.out;omega)
          case measure=>have hkl:=HKl.out;simp[intOf];omega
         | false =>
          have HSz:=Hh (show w4.heap.size≤w8.heap.size from GW.out.size);have HBb':=Hh (show(k+1)*1≤140737488355328 by have h1:=HKl.out;omega);go_wp2_with (at_builtin;refine za8 rfl _ _ 67 rfl w4.heap.size 4 _ 1 1 Tryz.underlying67 zbh rfl (by decide) (.slice ba k bc) k ((isL C k).map encB) rfl (by exact za1 HRW.out ((Fr.refl NoM w8).alloc _) (fun _ _ q=>q)) w8.heap.size rfl [.bool true] 4 (heap_alloc_new w8 _) rfl (by intro u hu;simp at hu;subst hu;rfl) HBb'.out (by decide) (by have:=HSz.out;simp;omega) ?_);intro v9 w9 h9 f9 s9;have H9:=Hh h9;have F9:=Hh f9;clear h9 f9 s9;go_wp2;go_roundw
          case rel =>
           have hv:isNB (C.getD k 0)=true:=by
            exact HRows.out.2 ⟨by simp,by simp,fun l hl=>by rw[List.mem_singleton.1 hl,←HGa.out],fun l hl=>by rw[List.mem_singleton.1 hl,←HGb.out],fun l hl r hr=>by rw[List.mem_singleton.1 hl,List.mem_singleton.1 hr,←HGv.out]⟩
           have g9:Fr (fun q=>q=kb) w4 w9:=(GW.out.trans ((Fr.refl NoM w8).alloc (.cells #[.bool true] 4)) (fun _ _ q=>q.elim)).trans F9.out (fun q hq e=>by have h1:=(HRW.out.lt q e).1;omega);have hkl:=HKl.out;refine⟨v9,k+1,K',rfl,by go_num,by omega,?_,?_,HKW.out.1,HKW.out.2,g9⟩
           ·rw[zch,List.map_append,hv]
            exact H9.out
           ·exact(HRowW.out.fr ((Fr.refl NoM w8).alloc (.cells #[.bool true] 4)) (fun q=>q)).fr F9.out (fun e=>by have h1:=(HRW.out.lt kb e).1;have h2:=HKb.out;omega)
          case measure=>have hkl:=HKl.out;simp[intOf];omega
     | _::_::_,_,hl1,_,_,_,_,_,_,_,_=>simp at hl1
     | _,_::_::_,_,hr1,_,_,_,_,_,_,_=>simp at hr1
  ·have hkn:k=n:=by omega
   subst hkn;have hp:=Hp.out;obtain⟨ba,bc,hbv,_,_,hwc⟩:=(SliceOf.of_owns hr rfl:SliceOf encB w7 bv (isL C k));rw[zxh]at hbv;subst hbv;obtain⟨b2,o2,ha2,d3⟩:=hwc (k-1) _ (zxi C (by omega));have ix2:=zf3 ba k bc (k-1) b2 o2 (by omega) ha2;have hcast:((k:Int)-1)=((k-1:Nat):Int):=by omega
   rw[←HG.out]at d3;unfold encB at d3;have aL:¬(k:Int)<(k:Int):=by omega
   have HM:=Hh (FW.out w7 hf);clear hr hK1 hK2 hK3 hf hwc ha2 hk hlt hp;go_wp2_with fail;go_ret;exact⟨rfl,HM.out⟩
end Go.Proofs.YtknniemfpkjnbaaGreatDoor
