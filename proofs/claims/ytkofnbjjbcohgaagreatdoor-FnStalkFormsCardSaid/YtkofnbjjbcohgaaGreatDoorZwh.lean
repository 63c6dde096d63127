import Derived.Test.YtkofnbjjbcohgaaGreatDoorZw2
import Derived.Test.YtkofnbjjbcohgaaGreatDoorZwg
/- Lemmas. -/
namespace Go.Proofs.YtkofnbjjbcohgaaGreatDoor
set_option linter.unusedVariables false
set_option linter.unusedSimpArgs false
open Go.RowKit
def PostF (V:List PL)(BV:List Nat)(r:Nat)(w:World)(e:Ending)(w':World):Prop :=
 ∃(nv:Value) (ok:Bool) (FN:List PL),e=.returned (.tuple #[.agg #[nv],.bool ok])/\zki V BV r ok FN/\NodesS w.heap.size w' nv FN/\Fr NoM w w'
theorem PostF.mk {V:List PL}{BV:List Nat}{r:Nat}{w:World}{e:Ending}{w':World}(nv:Value)(ok:Bool)(FN:List PL)(h1:e=.returned (.tuple #[.agg #[nv],.bool ok]))(h2:zki V BV r ok FN)(h3:NodesS w.heap.size w' nv FN)(h4:Fr NoM w w'):PostF V BV r w e w':=⟨nv,ok,FN,h1,h2,h3,h4⟩
set_option maxHeartbeats 4000000 in
theorem zpz {M I:Nat→Prop}(pb r:Nat)(V:List PL)(BV:List Nat)(mo mc ms mn:Value)(w:World)(hP:PoolS M I w pb V BV mo mc ms mn)(hOK:PoolOK V BV)(hr:r<V.length)(hn:V.length<1000000000) :
  Calls Tryz.prog 16 #[.pointer (some ⟨pb,0,none⟩),.int .i64 (r:Int)] w fun e w'=>PostF V BV r w e w':=by
 have hr1:∀x∈[r],x<V.length:=fun x hx=>by rw[List.mem_singleton]at hx;subst hx;exact hr
 have HP:=Hh hP;have HOK:=Hh hOK;have Hr:=Hh hr;have Hn:=Hh hn;have HR1:=Hh hr1;clear hP hOK hr hn hr1;go_enter Tryz.func16,Tryz.ntmps16;go_wp2_with fail;obtain⟨w1,hw1⟩:∃w1,w1=(w.alloc (.cells #[.slice none 0 0] 27)).alloc (.cells #[.int .i64 (r:Int)] 3):=⟨_,rfl⟩;have hf1:Fr NoM w w1:=by rw[hw1];exact((Fr.refl NoM w).alloc _).alloc _
 have hb1:w1.heap[w.heap.size]?=some (.cells #[.slice none 0 0] 27 (0,0)):=by
  rw[hw1];exact((Fr.refl NoM (w.alloc (.cells #[.slice none 0 0] 27))).alloc _).heap (heap_alloc_new w _) (fun q=>q)
 have hn1:Nats w1 (.slice (some ⟨w.heap.size+1,0,none⟩) 1 1) [r]:=by
  have h:=SliceOf.one encN (w.alloc (.cells #[.slice none 0 0] 27)) r 3;rw[World.size_alloc]at h;rw[hw1];exact h
 rw[←hw1];have HF1:=Hh hf1;have HB1:=Hh hb1;have HN1:=Hh hn1;clear hf1 hb1 hn1 hw1;refine(zm3 pb V BV [r] mo mc ms mn _ w1 (HP.out.fr0 HF1.out) HN1.out HR1.out (fun j y hy=>HOK.out.opts' j y hy) (by simp) Hn.out (HOK.out.lens Hn.out)).mono ?_
 rintro e w2 ⟨g,cap,Q0,rfl,h2,hnd,hmem,f2⟩;have HK:=Hh (fun(W:World) (f:Fr NoM w1 W)=>show W.cell? ⟨w.heap.size,0,none⟩=some (.slice none 0 0)/\W.frozen? ⟨w.heap.size,0,none⟩=false from by
  have hb:=f.heap HB1.out (fun q=>q);exact⟨by rw[cell_of_row W _ 0 _ _ _ hb];rfl,by simp[World.frozen?,hb]⟩)
 obtain⟨n0,hn0⟩:∃n0,n0=Q0.length:=⟨_,rfl⟩;rw[←hn0];have HND:=Hh hnd;have HMem:=Hh hmem;have F2:=Hh f2;have HN0:=Hh hn0;clear h2 hnd hmem f2 hn0;by_cases hbig:120<n0
 ·obtain⟨k2,z2⟩:=HK.out w2 F2.out
  go_wp2;refine bodyPost_ret (v:=.tuple #[.agg #[.slice none 0 0],.bool false]) (by simp[results,Tryz.results16,go_sem,k2]) rfl ?_
  exact PostF.mk _ false [] rfl (.inl ⟨rfl,rfl,Q0,HND.out,HMem.out,by rw[←HN0.out];exact hbig⟩) (NodesS.nil _ _) ((HF1.out.trans F2.out (fun _ _ q=>q)).setCell ⟨w.heap.size,0,none⟩ _ (fun h=>absurd h (Nat.lt_irrefl _)))
 ·go_wp2_with fail
  obtain⟨w3,hw3⟩:∃w3,w3=w2.alloc (.cells #[.int .i64 (r:Int)] 3):=⟨_,rfl⟩;have hf3:Fr NoM w2 w3:=by rw[hw3];exact(Fr.refl NoM w2).alloc _
  have hn3:Nats w3 (.slice (some ⟨w2.heap.size,0,none⟩) 1 1) [r]:=by rw[hw3];exact SliceOf.one encN w2 r 3
  rw[←hw3];have HF3:=Hh (F2.out.trans hf3 (fun _ _ q=>q));have HN3:=Hh hn3;clear hf3 hn3 hw3;have hf03:=HF1.out.trans HF3.out (fun _ _ q=>q);refine(zsn pb V BV [r] mo mc ms mn _ w3 (HP.out.fr0 hf03) HN3.out HR1.out (by have:=Hr.out;omega) (fun j y hy=>HOK.out.opts' j y hy) (by simp) Hn.out (HOK.out.lens Hn.out) (fun Q h1 h2 h3=>HOK.out.qok HR1.out h1 h2 h3)).mono ?_
  clear hf03;rintro e w4 ⟨lv,nv,Q,FN,rfl,hO,hQ4,hS,f4⟩;have hql:Q.length=n0:=by
   rw[HN0.out];exact Nat.le_antisymm (hO.nodup.length_le_of_subset fun x hx=>(HMem.out x).2 ((hO.mem x).1 hx)) (HND.out.length_le_of_subset fun x hx=>(hO.mem x).2 ((HMem.out x).1 hx))
  have hfl:FN.length=Q.length:=by rw[hO.nodes];simp
  have hq1:1≤Q.length:=List.length_pos_of_mem ((hO.mem r).2 (.root (by simp)));obtain⟨NV,hN⟩:=hS;obtain⟨a,c,rfl,_,_,h6⟩:=Pairs.of_owns hN.row;have hnl:=hN.len;rw[hnl]at hN ⊢;have HRd:=Hh (fun(j:Nat) (hj:j<FN.length) (W:World) (f:Fr NoM w4 W)=>show ∃b off al cl ar cr y,FN[j]?=some y/\a=some ⟨b,off,none⟩/\W.cell? ⟨b,off+j*2,none⟩=some (.slice al y.1.length cl)/\W.cell? ⟨b,off+j*2+1,none⟩=some (.slice ar y.2.length cr)from by
   obtain⟨y,hy⟩:∃y,FN[j]?=some y:=⟨_,List.getElem?_eq_getElem hj⟩;obtain⟨⟨xl,xr⟩,hx⟩:∃x,NV[j]?=some x:=⟨NV[j]'(by rw[hnl];exact hj),List.getElem?_eq_getElem _⟩;obtain⟨b,off,ha,c1,c2⟩:=h6 j _ hx;obtain⟨s1,s2⟩:=hN.nats j _ _ hx hy;obtain⟨al,cl,rfl,_⟩:=s1;obtain⟨ar,cr,rfl,_⟩:=s2;exact⟨b,off,al,cl,ar,cr,y,hy,ha,f.cell c1 (fun q=>q),f.cell c2 (fun q=>q)⟩)
  have HO:=Hh hO;have HN:=Hh hN;have F4:=Hh f4;have HQl:=Hh hql;have HFl:=Hh hfl;have HQ1:=Hh hq1;have HW3:=Hh (show w.heap.size+1≤w3.heap.size from by
   have h1:=HF3.out.size;have h2:w.heap.size<w1.heap.size:=(Array.getElem?_eq_some_iff.1 HB1.out).1;omega)
  have hF4:Fr NoM w1 w4:=HF3.out.trans f4 (fun _ _ q=>q);have HF4:=Hh hF4;have hflb:FN.length<1000000000:=by omega
  clear hO hQ4 hN f4 hql hfl hq1 h6 hnl hF4;go_wp2_with fail;go_loopw [26] (fun i W=>∃j:Nat,i=.int .i64 j/\j≤FN.length/\(∀(k:Nat) (y:PL),k<j→FN[k]?=some y→y.1.length≤24/\y.2.length≤24)/\Fr NoM w4 W) (fun i _=>FN.length-(intOf i).toNat)
  case atStart=>exact⟨0,rfl,Nat.zero_le _,by intros;omega,Fr.refl _ _⟩
  case round =>
   obtain⟨j,rfl,hj,hall,hf⟩:=hrel;obtain⟨w7,rfl⟩:∃w7,w7=wr:=⟨_,rfl⟩;have HAll:=Hh hall;have HF:=Hh hf;clear hall hf;by_cases hlt:j<FN.length
   ·obtain⟨b,off,al,cl,ar,cr,y,hy,ha,c1,c2⟩:=HRd.out j hlt w7 HF.out
    subst ha;have ix:=zbr (some ⟨b,off,none⟩) FN.length c j b off hlt rfl;obtain⟨n1,hn1⟩:∃n1,n1=y.1.length:=⟨_,rfl⟩;obtain⟨n2,hn2⟩:∃n2,n2=y.2.length:=⟨_,rfl⟩;rw[←hn1]at c1;rw[←hn2]at c2;have HY:=Hh hy;have HN1':=Hh hn1;have HN2':=Hh hn2;clear hy hn1 hn2;have HNext:=Hh (fun(h1:n1≤24) (h2:n2≤24)=>show ∀(k:Nat) (y:PL),k<j+1→FN[k]?=some y→y.1.length≤24/\y.2.length≤24 from fun k z hk hz=>by
     by_cases e:k=j
     ·subst e
      have e:=HY.out.symm.trans hz;cases e
      rw[←HN1'.out,←HN2'.out];exact⟨h1,h2⟩
     ·exact HAll.out k z (by omega) hz)
    have HBad:=Hh (fun(h:24<n1∨24<n2) (W:World) (f:Fr NoM w W)=>show PostF V BV r w (Ending.returned (.tuple #[.agg #[.slice none 0 0],.bool false])) W from
     PostF.mk _ false [] rfl (.inr ⟨Q,FN,HO.out,by have:=HQl.out;omega,(zvs HY.out (by rw[←HN1'.out,←HN2'.out];exact h)).symm,rfl⟩) (NodesS.nil _ _) f)
    go_upto_region 7 with fail;obtain⟨w8,hw8⟩:∃w8,w8=w7.alloc (.cells #[.slice al n1 cl,.slice ar n2 cr] 55):=⟨_,rfl⟩;have hf8:Fr NoM w4 w8:=by rw[hw8];exact HF.out.alloc _
    have hb8:w8.heap[w7.heap.size]?=some (.cells #[.slice al n1 cl,.slice ar n2 cr] 55 (0,0)):=by rw[hw8];exact heap_alloc_new w7 _
    have d1:w8.cell? ⟨w7.heap.size,0,none⟩=some (.slice al n1 cl):=by rw[cell_of_row w8 _ 0 _ _ _ hb8];rfl
    have d2:w8.cell? ⟨w7.heap.size,1,none⟩=some (.slice ar n2 cr):=by rw[cell_of_row w8 _ 1 _ _ _ hb8];rfl
    rw[←hw8];obtain⟨k8,z8⟩:=HK.out w8 (HF4.out.trans hf8 (fun _ _ q=>q));have HF8:=Hh hf8;clear hf8 hb8 hw8 c1 c2 ix;by_cases h1:24<n1
    ·go_wp2
     refine bodyPost_ret (v:=.tuple #[.agg #[.slice none 0 0],.bool false]) (by simp[results,Tryz.results16,go_sem,k8]) rfl ?_
     exact HBad.out (.inl h1) _ (((HF1.out.trans HF4.out (fun _ _ q=>q)).trans HF8.out (fun _ _ q=>q)).setCell ⟨w.heap.size,0,none⟩ _ (fun h=>absurd h (Nat.lt_irrefl _)))
    ·by_cases h2:24<n2
     ·go_wp2
      refine bodyPost_ret (v:=.tuple #[.agg #[.slice none 0 0],.bool false]) (by simp[results,Tryz.results16,go_sem,k8]) rfl ?_
      exact HBad.out (.inr h2) _ (((HF1.out.trans HF4.out (fun _ _ q=>q)).trans HF8.out (fun _ _ q=>q)).setCell ⟨w.heap.size,0,none⟩ _ (fun h=>absurd h (Nat.lt_irrefl _)))
     ·clear k8 z8
      go_wp2;go_roundw
      case rel=>exact⟨j+1,by go_num,by omega,HNext.out (by omega) (by omega),HF8.out⟩
      case measure=>simp[intOf];omega
   ·have hje:j=FN.length:=by omega
    obtain⟨k7,z7⟩:=HK.out w7 (HF4.out.trans HF.out (fun _ _ q=>q));have hfit:zby FN=true:=zte (by have:=HFl.out;have:=HQl.out;omega) (by have:=HFl.out;have:=HQ1.out;omega) (fun k y hy=>HAll.out k y (by rw[hje];exact(List.getElem?_eq_some_iff.1 hy).1) hy);have HFit:=Hh hfit;clear hje hfit;go_wp2;refine bodyPost_ret (v:=.tuple #[.agg #[.slice a FN.length c],.bool true]) (by simp[results,Tryz.results16,go_sem,k7]) rfl ?_
    refine PostF.mk _ true FN rfl (.inr ⟨Q,FN,HO.out,by have:=HQl.out;omega,HFit.out.symm,rfl⟩) ?_ (((HF1.out.trans HF4.out (fun _ _ q=>q)).trans HF.out (fun _ _ q=>q)).setCell ⟨w.heap.size,0,none⟩ _ (fun h=>absurd h (Nat.lt_irrefl _)))
    have hS:NodesS w3.heap.size w7 (.slice a FN.length c) FN:=⟨NV,HN.out.fr HF.out (fun _ _ _ q=>q)⟩;have hlow:=HW3.out;exact(hS.fr (Fr.set w7 ⟨w.heap.size,0,none⟩ (.slice a FN.length c)) (fun q hq _ e=>by have e:q=w.heap.size:=e;omega)).base (by omega)
theorem zsk {M I:Nat→Prop}(pb r:Nat)(V:List PL)(BV:List Nat)(mo mc ms mn:Value)(w:World)(hP:PoolS M I w pb V BV mo mc ms mn)(hOK:PoolOK V BV)(hr:r<V.length)(hn:V.length<1000000000) :
  Calls Tryz.prog 16 #[.pointer (some ⟨pb,0,none⟩),.int .i64 (r:Int)] w fun e w'=>∃(nv:Value) (ok:Bool) (FN:List PL),e=.returned (.tuple #[.agg #[nv],.bool ok])/\zki V BV r ok FN/\NodesS w.heap.size w' nv FN/\Fr NoM w w' :=
 (zpz pb r V BV mo mc ms mn w hP hOK hr hn).mono fun _ _ h=>h
end Go.Proofs.YtkofnbjjbcohgaaGreatDoor
