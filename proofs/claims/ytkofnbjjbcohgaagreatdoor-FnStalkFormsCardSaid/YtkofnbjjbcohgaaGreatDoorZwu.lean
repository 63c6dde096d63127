import Derived.Test.YtkofnbjjbcohgaaGreatDoorZwt
/- Lemmas. -/
namespace Go.Proofs.YtkofnbjjbcohgaaGreatDoor
set_option linter.unusedVariables false
set_option linter.unusedSimpArgs false
open Go.RowKit
theorem zfm {Fi:List (List Int × List Int)}(h:zby Fi=false):¬zeb Fi:=fun q=>by rw[q.1]at h;cases h
theorem zm6 {Fi:List (List Int × List Int)}{i:Nat}{y:List Int × List Int}(hy:Fi[i]?=some y)(h:zad 0 ((i:Int)-1) none y.1=false∨zad 0 ((i:Int)-1) none y.2=false):¬zeb Fi:=fun q=>by
 obtain⟨h1,h2⟩:=q.2.1 i y (List.getElem?_eq_some_iff.1 hy).1 hy;rcases h with h|h
 ·rw[h1]at h;cases h
 ·rw[h2]at h;cases h
def optB (i:Nat)(L:List Int):Bool:=decide (L.length≤24) && zad 0 ((i:Int)-1) none L
theorem zgn {Fi:List (List Int × List Int)}{i:Nat}{y:List Int × List Int}(hy:Fi[i]?=some y)(h:optB i y.1=false∨optB i y.2=false):¬zeb Fi:=fun q=>by
 have hf:=q.1;unfold zby at hf;rw[decide_eq_true_eq]at hf;obtain⟨l1,l2⟩:=hf.2.2 y (List.mem_of_getElem? hy);unfold optB at h;rw[decide_eq_true l1,decide_eq_true l2,Bool.true_and,Bool.true_and]at h;exact zm6 hy h q
theorem zuz {Fi:List (List Int × List Int)}(hp:1≤Fi.length)(hl:Fi.length≤120)(h:∀(j:Nat) (y:List Int × List Int),j<Fi.length→Fi[j]?=some y→optB j y.1=true/\optB j y.2=true) :
  ∃Fs:List PL,Fi=i2 Fs/\zby Fs=true/\OptsOK Fs/\BookUp Fs:=by
 have hr:risI Fi Fi.length:=fun j y hj hy=>by
  obtain⟨h1,h2⟩:=h j y hj hy;unfold optB at h1 h2;rw[Bool.and_eq_true]at h1 h2;exact⟨h1.2,h2.2⟩
 obtain⟨Fs,rfl,ho,hu⟩:=zgx hr;refine⟨Fs,rfl,?_,ho,hu⟩;rw[←zi2];refine zte hl hp fun k y hy=>?_
 obtain⟨h1,h2⟩:=h k y (List.getElem?_eq_some_iff.1 hy).1 hy;unfold optB at h1 h2;rw[Bool.and_eq_true,decide_eq_true_eq]at h1 h2;exact⟨h1.1,h2.1⟩
theorem zpq {Fs:List PL}(hp:0<Fs.length):zix Fs Fs.length (Fs.length-1)=zab Fs (Fs.length-1):=by
 unfold zix zab;rw[show Fs.length-1+1=Fs.length from by omega]
theorem zuc {Fs:List PL}(hp:0<Fs.length):(false∈zix Fs Fs.length (Fs.length-1))↔¬zc5 Fs:=by
 rw[zpq hp];have hl:=zfg Fs (Fs.length-1);constructor
 ·intro h q
  obtain⟨i,hi,e⟩:=List.getElem_of_mem h;have:=q i (by omega);rw[List.getD_eq_getElem?_getD,List.getElem?_eq_getElem hi,e]at this
  cases this
 ·intro h
  refine Classical.byContradiction fun hno=>h fun x hx=>?_
  have hxl:x<(zab Fs (Fs.length-1)).length:=by omega
  cases hb:(zab Fs (Fs.length-1))[x]with
  | true=>rw[List.getD_eq_getElem?_getD,List.getElem?_eq_getElem hxl,hb];rfl
  | false=>exact absurd (hb ▸ List.getElem_mem hxl) hno
theorem ztk (w5:World)(l1 r1 l2 r2:Value)(e:TypeId):∃ba bb:Nat,Value.pointer (some ⟨w5.heap.size,0,none⟩)=.pointer (some ⟨ba,0,none⟩)/\Value.pointer (some ⟨w5.heap.size+1,0,none⟩)=.pointer (some ⟨bb,0,none⟩) ∧
  (((w5.alloc (.cells #[l1,r1] e)).alloc (.cells #[l2,r2] e)).drew).heap[ba]?=some (.cells #[l1,r1] e (0,0))/\(((w5.alloc (.cells #[l1,r1] e)).alloc (.cells #[l2,r2] e)).drew).heap[bb]?=some (.cells #[l2,r2] e (0,0)) ∧
  Fr NoM w5 (((w5.alloc (.cells #[l1,r1] e)).alloc (.cells #[l2,r2] e)).drew):=by
 refine⟨_,_,rfl,rfl,?_,?_,(((Fr.refl NoM w5).alloc _).alloc _).drew⟩
 ·exact((Fr.refl NoM (w5.alloc (.cells #[l1,r1] e))).alloc _).heap (heap_alloc_new w5 _) (fun q=>q)
 ·have h:=heap_alloc_new (w5.alloc (.cells #[l1,r1] e)) (.cells #[l2,r2] e)
  rw[World.size_alloc]at h;exact h
theorem cut_two' (w5:World)(l1 r1 l2 r2:Value)(e:TypeId):∃ba bb:Nat,Value.pointer (some ⟨w5.heap.size+1,0,none⟩)=.pointer (some ⟨ba,0,none⟩)/\Value.pointer (some ⟨w5.heap.size,0,none⟩)=.pointer (some ⟨bb,0,none⟩) ∧
  (((w5.alloc (.cells #[l2,r2] e)).alloc (.cells #[l1,r1] e)).drew).heap[ba]?=some (.cells #[l1,r1] e (0,0))/\(((w5.alloc (.cells #[l2,r2] e)).alloc (.cells #[l1,r1] e)).drew).heap[bb]?=some (.cells #[l2,r2] e (0,0)) ∧
  Fr NoM w5 (((w5.alloc (.cells #[l2,r2] e)).alloc (.cells #[l1,r1] e)).drew):=by
 obtain⟨ba,bb,h1,h2,h3,h4,h5⟩:=ztk w5 l2 r2 l1 r1 e;exact⟨bb,ba,h2,h1,h4,h3,h5⟩
theorem zcm (w:World)(a b c:Value)(e:TypeId):(w.alloc (.cells #[a,b,c] e)).cell? ⟨w.heap.size,0,none⟩=some a/\(w.alloc (.cells #[a,b,c] e)).cell? ⟨w.heap.size,1,none⟩=some b/\(w.alloc (.cells #[a,b,c] e)).cell? ⟨w.heap.size,2,none⟩=some c:=by
 have h:=heap_alloc_new w (.cells #[a,b,c] e);exact⟨by rw[cell_of_row _ _ 0 _ _ _ h];rfl,by rw[cell_of_row _ _ 1 _ _ _ h];rfl,by rw[cell_of_row _ _ 2 _ _ _ h];rfl⟩
set_option maxRecDepth 4000 in
set_option maxHeartbeats 8000000 in
theorem zkf {R:Nat→Prop}(nv:Value)(Fi:List (List Int × List Int))(w:World)(h:NodeL R encI w nv Fi)(g:Bool)(hg:g=true↔zeb Fi) :
  Calls Tryz.prog 23 #[.agg #[nv]] w fun e w'=>e=.returned (.bool g)/\Fr NoM w w':=by
 have hN:=h.low;obtain⟨a,c,rfl,h1,h2,h3⟩:=id h;clear h h1 h2;have hbad:¬zeb Fi→g=false:=fun q=>by
  cases hgb:g with
  | false=>rfl
  | true=>exact absurd (hg.1 hgb) q
 by_cases hp:Fi.length<1
 ·have hf:=hbad (zfm (decide_eq_false fun q=>by have:=q.2.1;omega))
  have HF:=Hh hf;clear hf hbad hg hN h3;go_enter Tryz.func23,Tryz.ntmps23;go_wp2_with fail;go_ret;exact⟨by rw[HF.out];rfl,(Fr.refl NoM w).alloc _⟩
 ·by_cases hbig:120<Fi.length
  ·have hf:=hbad (zfm (decide_eq_false fun q=>by have:=q.1;omega))
   have HF:=Hh hf;clear hf hbad hg hN h3;go_enter Tryz.func23,Tryz.ntmps23;go_wp2_with fail;go_ret;exact⟨by rw[HF.out];rfl,(Fr.refl NoM w).alloc _⟩
  ·obtain⟨N,hNN⟩:∃N,N=Fi.length:=⟨_,rfl⟩
   rw[←hNN]at hN hp hbig ⊢;have HG:=Hh hg;have HBad:=Hh hbad;have HN:=Hh hN;have H3:=Hh h3;have HNN:=Hh hNN;clear hg hbad hN h3 hNN;go_enter Tryz.func23,Tryz.ntmps23;go_wp2_with fail;obtain⟨w1,hw1⟩:∃w1,w1=w.alloc (.cells #[.slice a N c] 27):=⟨_,rfl⟩;have hf1:Fr NoM w w1:=by rw[hw1];exact(Fr.refl NoM w).alloc _
   have hb1:w1.heap[w.heap.size]?=some (.cells #[.slice a N c] 27 (0,0)):=by rw[hw1];exact heap_alloc_new w _
   rw[←hw1];have HK:=Hh (fun(W:World) (f:Fr NoM w1 W)=>show W.cell? ⟨w.heap.size,0,none⟩=some (.slice a N c)from by rw[cell_of_row W _ 0 _ _ _ (f.heap hb1 (fun q=>q))];rfl);have HF1:=Hh hf1;clear hf1 hb1 hw1;go_loopw [22] (fun t W=>∃i:Nat,t=.int .i64 i/\i≤N/\(∀(j:Nat) (y:List Int × List Int),j<i→Fi[j]?=some y→optB j y.1=true/\optB j y.2=true)/\Fr NoM w1 W) (fun t _=>N-(intOf t).toNat)
   case atStart=>exact⟨0,rfl,Nat.zero_le _,by intros;omega,Fr.refl _ _⟩
   case round =>
    obtain⟨i,rfl,hi,hall,hfr⟩:=hrel;obtain⟨w7,rfl⟩:∃w7,w7=wr:=⟨_,rfl⟩;have HAll:=Hh hall;have HFr:=Hh hfr;clear hall hfr;by_cases hlt:i<N
    ·obtain⟨y,hy⟩:∃y,Fi[i]?=some y:=⟨_,List.getElem?_eq_getElem (by rw[←HNN.out];exact hlt)⟩
     obtain⟨b,off,lv,rv,ha,_,c1,c2,s1,s2,_,_⟩:=H3.out i y hy;have ix:=zbr a N c i b off hlt ha;have f07:Fr NoM w w7:=HF1.out.trans HFr.out (fun _ _ q=>q);have d1:=f07.cell c1 (fun q=>q);have d2:=f07.cell c2 (fun q=>q);obtain⟨la,lc,rfl,z⟩:=id s1;clear z;obtain⟨ra,rc,rfl,z⟩:=id s2;clear z;obtain⟨w8,hw8⟩:∃w8,w8=w7.alloc (.cells #[.slice la y.1.length lc,.slice ra y.2.length rc] 55):=⟨_,rfl⟩;have hf8:Fr NoM w7 w8:=by rw[hw8];exact(Fr.refl NoM w7).alloc _
     have e1:w8.cell? ⟨w7.heap.size,0,none⟩=some (.slice la y.1.length lc):=by rw[hw8,cell_of_row _ _ 0 _ _ _ (heap_alloc_new w7 _)];rfl
     have e2:w8.cell? ⟨w7.heap.size,1,none⟩=some (.slice ra y.2.length rc):=by rw[hw8,cell_of_row _ _ 1 _ _ _ (heap_alloc_new w7 _)];rfl
     have f08:=f07.trans hf8 (fun _ _ q=>q);have hc1:=zea _ y.1 i w8 (s1.fr0 f08);have hc2:=zea _ y.2 i w8 (s2.fr0 f08);obtain⟨o1,ho1⟩:∃o1,o1=optB i y.1:=⟨_,rfl⟩;obtain⟨o2,ho2⟩:∃o2,o2=optB i y.2:=⟨_,rfl⟩;have hc1:Calls Tryz.prog 41 #[.slice la y.1.length lc,.int .i64 (i:Int)] w8 fun e w'=>e=.returned (.bool o1)/\w'=w8:=by rw[ho1];exact hc1
     have hc2:Calls Tryz.prog 41 #[.slice ra y.2.length rc,.int .i64 (i:Int)] w8 fun e w'=>e=.returned (.bool o2)/\w'=w8:=by rw[ho2];exact hc2
     have HC1:=Hh hc1;have HC2:=Hh hc2;have HO1:=Hh ho1;have HO2:=Hh ho2;have HY:=Hh hy;have HF8:=Hh (HFr.out.trans hf8 (fun _ _ q=>q));have HF08:=Hh f08;have HW8:=Hh hw8;clear hc1 hc2 ho1 ho2 hy hf8 f08 f07 ha c1 c2 s1 s2 hw8;go_wp2_with fail;rw[←HW8.out];refine HC1.out.mono ?_
     rintro e w9 ⟨rfl,rfl⟩;cases o1 with
     | false =>
      have hf:=HBad.out (zgn HY.out (.inl HO1.out.symm));have HFl:=Hh hf;clear hf;go_wp2_with fail;go_ret;exact⟨by rw[HFl.out];rfl,HF08.out⟩
     | true =>
      go_wp2_with fail;refine HC2.out.mono ?_
      rintro e w10 ⟨rfl,rfl⟩;cases o2 with
      | false =>
       have hf:=HBad.out (zgn HY.out (.inr HO2.out.symm));have HFl:=Hh hf;clear hf;go_wp2_with fail;go_ret;exact⟨by rw[HFl.out];rfl,HF08.out⟩
      | true =>
       go_wp2_with fail;go_roundw
       case rel=>exact⟨i+1,by go_num,by omega,fun j z hj hz=>by
        by_cases e:j=i
        ·subst e
         have e:=HY.out.symm.trans hz;cases e
         exact⟨HO1.out.symm,HO2.out.symm⟩
        ·exact HAll.out j z (by omega) hz,HF8.out⟩
       case measure=>simp[intOf];omega
    ·have hi':i=N:=by omega
     subst hi';have hnn:=HNN.out;obtain⟨Fs,hFs,hfit,ho,hu⟩:=zuz (by omega) (by omega) (fun j y hj hy=>HAll.out j y (by omega) hy);have hl:i=Fs.length:=by rw[hnn,hFs,zek]
     subst hl;have hgd:g=true↔zf9 Fs/\zc5 Fs:=by
      rw[HG.out,hFs,zmi];exact⟨fun q=>q.2.2.2,fun q=>⟨hfit,ho,hu,q⟩⟩
     have hNd:NodeL (· < w.heap.size) encN w (.slice a Fs.length c) Fs:=by
      have h:=HN.out;rw[hFs]at h;exact h.ofI
     have HGd:=Hh hgd;have HNd:=Hh hNd;have HO:=Hh ho;have HFN:=Hh (HF1.out.trans HFr.out (fun _ _ q=>q));have hk:=HK.out w7 HFr.out;clear hgd hNd hu hfit HAll HG HBad H3 HN hnn HNN hFs;go_wp2_with fail;refine(zrm _ Fs w7 (HNd.out.fr0 HFN.out) HO.out (by omega)).mono ?_
     rintro e w9 ⟨rfl,hrow,f9⟩;have HRow:=Hh hrow;have F9:=Hh (HFr.out.trans f9 (fun _ _ q=>q));clear hrow f9 hk;go_wp2_with fail;go_loopw [6] (fun t W=>∃k:Nat,t=.int .i64 ((k:Int)+1)/\k+1≤Fs.length/\(∀(j:Nat) (x y:PL),j<k→Fs[j]?=some x→Fs[j+1]?=some y→klt ((zau Fs).getD j 0) x ((zau Fs).getD (j+1) 0) y)/\Fr NoM w9 W) (fun t _=>Fs.length-(intOf t).toNat)
     case atStart=>exact⟨0,rfl,by omega,by intros;omega,Fr.refl _ _⟩
     case round =>
      obtain⟨k,rfl,hk,hall,hfr⟩:=hrel;obtain⟨w5,rfl⟩:∃w5,w5=wr:=⟨_,rfl⟩;have HAll:=Hh hall;have HF5:=Hh (F9.out.trans hfr (fun _ _ q=>q));have HF95:=Hh hfr;clear hall hfr;have hk5:=HK.out w5 HF5.out;by_cases hlt:k+1<Fs.length
      ·obtain⟨x,hx⟩:∃x,Fs[k]?=some x:=⟨_,List.getElem?_eq_getElem (by omega)⟩
       obtain⟨y,hy⟩:∃y,Fs[k+1]?=some y:=⟨_,List.getElem?_eq_getElem hlt⟩;obtain⟨a',c',ee,_,_,hnn⟩:=HNd.out;cases ee
       obtain⟨b1,o1,l1,r1,ha1,_,c1,c2,s1,s2,_,_⟩:=hnn k x hx;obtain⟨b2,o2,l2,r2,ha2,_,d1,d2,t1,t2,_,_⟩:=hnn (k+1) y hy;have ix1:=zbr a Fs.length c k b1 o1 (by omega) ha1;have ix2:=zbr a Fs.length c (k+1) b2 o2 hlt ha2;rw[show((k+1:Nat):Int)=(k:Int)+1 from by omega]at ix2;have f05:Fr NoM w w5:=HF1.out.trans HF5.out (fun _ _ q=>q);have c1':=f05.cell c1 (fun q=>q);have c2':=f05.cell c2 (fun q=>q);have d1':=f05.cell d1 (fun q=>q);have d2':=f05.cell d2 (fun q=>q);have S1:=Hh (s1.fr0 f05);have S2:=Hh (s2.fr0 f05);have T1:=Hh (t1.fr0 f05);have T2:=Hh (t2.fr0 f05);obtain⟨la,lc,rfl,z⟩:=id s1;clear z;obtain⟨ra,rc,rfl,z⟩:=id s2;clear z;obtain⟨ma,mc,rfl,z⟩:=id t1;clear z;obtain⟨na,nc,rfl,z⟩:=id t2;have HX:=Hh hx;have HY:=Hh hy;clear z hx hy hnn c1 c2 d1 d2 s1 s2 t1 t2 ha1 ha2 f05;have hdl:decide ((k:Int)+1<(Fs.length:Int))=true:=by simp;omega
       have hwk:IntKind.i64.wrap (k:Int)=(k:Int):=by rw[IntKind.wrap_i64];omega
       go_upto_region 13 with fail;go_cut [7,8]from 50 to 60 (fun p q W=>∃ba bb:Nat,p=.pointer (some ⟨ba,0,none⟩)/\q=.pointer (some ⟨bb,0,none⟩)/\W.heap[ba]?=some (.cells #[.slice la x.1.length lc,.slice ra x.2.length rc] 55 (0,0))/\W.heap[bb]?=some (.cells #[.slice ma y.1.length mc,.slice na y.2.length nc] 55 (0,0))/\Fr NoM w5 W)
       case first =>
        have HS:=Hh (fun(W:World) (f:Fr NoM w5 W)=>show W.cell? ⟨w.heap.size,0,none⟩=some (.slice a Fs.length c)/\W.cell? ⟨b1,o1+k*2,none⟩=some (.slice la x.1.length lc)/\W.cell? ⟨b1,o1+k*2+1,none⟩=some (.slice ra x.2.length rc)/\W.cell? ⟨b2,o2+(k+1)*2,none⟩=some (.slice ma y.1.length mc)/\W.cell? ⟨b2,o2+(k+1)*2+1,none⟩=some (.slice na y.2.length nc)from
         ⟨f.cell hk5 (fun q=>q),f.cell c1' (fun q=>q),f.cell c2' (fun q=>q),f.cell d1' (fun q=>q),f.cell d2' (fun q=>q)⟩)
        have F0:=Fr.refl NoM w5;have hs:=HS.out w5 F0;go_region_held3 (fun(W:World)=>W.cell? ⟨w.heap.size,0,none⟩=some (.slice a Fs.length c)/\W.cell? ⟨b1,o1+k*2,none⟩=some (.slice la x.1.length lc)/\W.cell? ⟨b1,o1+k*2+1,none⟩=some (.slice ra x.2.length rc)/\W.cell? ⟨b2,o2+(k+1)*2,none⟩=some (.slice ma y.1.length mc)/\W.cell? ⟨b2,o2+(k+1)*2+1,none⟩=some (.slice na y.2.length nc))
         (first|exact HS.out _ (by assumption)|exact HS.out _ F0.drew|exact HS.out _ (F0.alloc _)|exact HS.out _ (F0.alloc _).drew|exact HS.out _ ((F0.alloc _).alloc _)|exact HS.out _ ((F0.alloc _).alloc _).drew)
         (first|fail)
        all_goals
         go_wp2_with fail;go_meet
         case rel=>first|exact ztk w5 _ _ _ _ _|exact cut_two' w5 _ _ _ _ _
       case rest =>
        obtain⟨ba,bb,rfl,rfl,hba,hbb,hfx⟩:=hcut;obtain⟨w4,rfl⟩:∃w4,w4=wc:=⟨_,rfl⟩;have f94:=HF95.out.trans hfx (fun _ _ q=>q);have hbl:=zbz Fs;obtain⟨g1,hg1⟩:∃g1,(zau Fs)[k]?=some g1:=⟨_,List.getElem?_eq_getElem (by omega)⟩;obtain⟨g2,hg2⟩:∃g2,(zau Fs)[k+1]?=some g2:=⟨_,List.getElem?_eq_getElem (by omega)⟩;have ib1:=zd9 w7.heap.size Fs.length Fs.length k (by omega);have ib2:=zd9 w7.heap.size Fs.length Fs.length (k+1) hlt;rw[show((k+1:Nat):Int)=(k:Int)+1 from by omega]at ib2;have hbr:=HRow.out.fr f94 (fun q=>q);have HS:=Hh (fun(W:World) (f:Fr NoM w4 W)=>show W.cell? ⟨w7.heap.size,k,none⟩=some (.int .i64 (g1:Int))/\W.cell? ⟨w7.heap.size,k+1,none⟩=some (.int .i64 (g2:Int))/\W.cell? ⟨ba,0,none⟩=some (.slice la x.1.length lc)/\W.cell? ⟨ba,1,none⟩=some (.slice ra x.2.length rc)/\W.cell? ⟨bb,0,none⟩=some (.slice ma y.1.length mc)/\W.cell? ⟨bb,1,none⟩=some (.slice na y.2.length nc)from
         have h1:=f.heap hba (fun q=>q);have h2:=f.heap hbb (fun q=>q)
         ⟨f.cell (hbr.at hg1) (fun q=>q),f.cell (hbr.at hg2) (fun q=>q),by rw[cell_of_row W _ 0 _ _ _ h1];rfl,by rw[cell_of_row W _ 1 _ _ _ h1];rfl,by rw[cell_of_row W _ 0 _ _ _ h2];rfl,by rw[cell_of_row W _ 1 _ _ _ h2];rfl⟩)
        have S1':=Hh (fun(W:World) (f:Fr NoM w4 W)=>S1.out.fr0 (hfx.trans f (fun _ _ q=>q)));have S2':=Hh (fun(W:World) (f:Fr NoM w4 W)=>S2.out.fr0 (hfx.trans f (fun _ _ q=>q)));have T1':=Hh (fun(W:World) (f:Fr NoM w4 W)=>T1.out.fr0 (hfx.trans f (fun _ _ q=>q)));have T2':=Hh (fun(W:World) (f:Fr NoM w4 W)=>T2.out.fr0 (hfx.trans f (fun _ _ q=>q)));obtain⟨q0,hq0⟩:∃q0,q0=Lib.compareInt (g1:Int) (g2:Int):=⟨_,rfl⟩;obtain⟨q1,hq1⟩:∃q1,q1=cmpL x.1 y.1:=⟨_,rfl⟩;obtain⟨q2,hq2⟩:∃q2,q2=cmpL x.2 y.2:=⟨_,rfl⟩;obtain⟨v,hv⟩:∃v,v=orI q0 (orI q1 q2):=⟨_,rfl⟩;have hkl:v<0↔klt g1 x g2 y:=by rw[hv,hq0,hq1,hq2];exact zz0 g1 g2 x y
        have HQ0:=Hh hq0;have HQ1:=Hh hq1;have HQ2:=Hh hq2;have HV:=Hh hv;have HKl:=Hh hkl;have HG1:=Hh hg1;have HG2:=Hh hg2;have F94:=Hh f94;have HFx:=Hh (HF5.out.trans hfx (fun _ _ q=>q));have F0:Fr NoM w4 w4.drew:=(Fr.refl NoM w4).drew;have hs:=HS.out w4 (Fr.refl NoM w4);clear hq0 hq1 hq2 hv hkl hg1 hg2 f94 hbr hba hbb hfx hbl hk5 c1' c2' d1' d2' ix1 ix2;by_cases hneg:v<0
        ·go_upto_region 14 with fail
         go_region_held3 (fun(W:World)=>W.cell? ⟨w7.heap.size,k,none⟩=some (.int .i64 (g1:Int))/\W.cell? ⟨w7.heap.size,k+1,none⟩=some (.int .i64 (g2:Int))/\W.cell? ⟨ba,0,none⟩=some (.slice la x.1.length lc)/\W.cell? ⟨ba,1,none⟩=some (.slice ra x.2.length rc)/\W.cell? ⟨bb,0,none⟩=some (.slice ma y.1.length mc)/\W.cell? ⟨bb,1,none⟩=some (.slice na y.2.length nc))
          (first|exact HS.out _ (by assumption)|exact HS.out _ (Fr.alloc (by assumption) _))
          (first
           | (go_at_call 44;(with_reducible refine(zfx (g1:Int) (g2:Int) _).mono ?_);rw[←HQ0.out];rintro e w' ⟨rfl,rfl⟩)
           | (go_at_call 45;(with_reducible refine(zf3 _ _ x.1 y.1 _ (S1'.out _ (by assumption)) (T1'.out _ (by assumption))).mono ?_);rw[←HQ1.out];rintro e w' ⟨rfl,rfl⟩)
           | (go_at_call 45;(with_reducible refine(zf3 _ _ x.2 y.2 _ (S2'.out _ (by assumption)) (T2'.out _ (by assumption))).mono ?_);rw[←HQ2.out];rintro e w' ⟨rfl,rfl⟩)
           | (go_at_call 43;(refine(zsp q0 q1 q2 w4.heap.size _ (zcm w4.drew _ _ _ _).1 (zcm w4.drew _ _ _ _).2.1 (zcm w4.drew _ _ _ _).2.2).mono ?_);rw[←HV.out];rintro e w' ⟨rfl,rfl⟩)
           | fail)
         all_goals
          have HNeg:=Hh hneg;go_wp2_with fail;go_roundw
          case rel=>exact⟨k+1,by go_num,by omega,fun j a b hj ha hb=>by
           by_cases e:j=k
           ·subst e
            have e1:=HX.out.symm.trans ha;have e2:=HY.out.symm.trans hb;cases e1;cases e2
            rw[List.getD_eq_getElem?_getD,List.getD_eq_getElem?_getD,HG1.out,HG2.out];exact HKl.out.1 HNeg.out
           ·exact HAll.out j a b (by omega) ha hb,F94.out.trans ((F0.alloc _)) (fun _ _ q=>q)⟩
          case measure=>simp[intOf];omega
        ·have hgf:g=false:=by
          cases hgb:g with
          | false=>rfl
          | true =>
           exfalso
           have h:=(HGd.out.1 hgb).1 k x y HX.out HY.out;rw[List.getD_eq_getElem?_getD,List.getD_eq_getElem?_getD,HG1.out,HG2.out]at h;exact hneg (HKl.out.2 h)
         have HGf:=Hh hgf;clear hgf;go_upto_region 14 with fail;go_region_held3 (fun(W:World)=>W.cell? ⟨w7.heap.size,k,none⟩=some (.int .i64 (g1:Int))/\W.cell? ⟨w7.heap.size,k+1,none⟩=some (.int .i64 (g2:Int))/\W.cell? ⟨ba,0,none⟩=some (.slice la x.1.length lc)/\W.cell? ⟨ba,1,none⟩=some (.slice ra x.2.length rc)/\W.cell? ⟨bb,0,none⟩=some (.slice ma y.1.length mc)/\W.cell? ⟨bb,1,none⟩=some (.slice na y.2.length nc))
          (first|exact HS.out _ (by assumption)|exact HS.out _ (Fr.alloc (by assumption) _))
          (first
           | (go_at_call 44;(with_reducible refine(zfx (g1:Int) (g2:Int) _).mono ?_);rw[←HQ0.out];rintro e w' ⟨rfl,rfl⟩)
           | (go_at_call 45;(with_reducible refine(zf3 _ _ x.1 y.1 _ (S1'.out _ (by assumption)) (T1'.out _ (by assumption))).mono ?_);rw[←HQ1.out];rintro e w' ⟨rfl,rfl⟩)
           | (go_at_call 45;(with_reducible refine(zf3 _ _ x.2 y.2 _ (S2'.out _ (by assumption)) (T2'.out _ (by assumption))).mono ?_);rw[←HQ2.out];rintro e w' ⟨rfl,rfl⟩)
           | (go_at_call 43;(refine(zsp q0 q1 q2 w4.heap.size _ (zcm w4.drew _ _ _ _).1 (zcm w4.drew _ _ _ _).2.1 (zcm w4.drew _ _ _ _).2.2).mono ?_);rw[←HV.out];rintro e w' ⟨rfl,rfl⟩)
           | fail)
         all_goals
          go_wp2_with fail;go_ret;exact⟨by rw[HGf.out];rfl,(HF1.out.trans HFx.out (fun _ _ q=>q)).trans (F0.alloc _) (fun _ _ q=>q)⟩
      ·have hke:k+1=Fs.length:=by omega
       have hnx:zf9 Fs:=fun j x y hx hy=>HAll.out j x y (by have:=(List.getElem?_eq_some_iff.1 hy).1;omega) hx hy
       have hgu:g=!decide (false∈zix Fs Fs.length (Fs.length-1)):=by
        have h1:=zuc (Fs:=Fs) (by omega);have h2:=HGd.out;by_cases hm:false∈zix Fs Fs.length (Fs.length-1)
        ·rw[decide_eq_true hm]
         cases hgb:g with
         | false=>rfl
         | true=>exact absurd (h2.1 hgb).2 (h1.1 hm)
        ·rw[decide_eq_false hm]
         exact h2.2 ⟨hnx,Classical.byContradiction fun q=>hm (h1.2 q)⟩
       have hus:=zub (.slice a Fs.length c) (Fs.length-1) Fs w5 (HNd.out.fr0 (HF1.out.trans HF5.out (fun _ _ q=>q))) (by omega) HO.out (by omega);rw[show((Fs.length-1:Nat):Int)=(Fs.length:Int)-1 from by omega]at hus;have HUs:=Hh hus;have HGu:=Hh hgu;have hkI:(Fs.length:Int)=(k:Int)+1:=by omega
       clear hus hgu hnx hke;have HKI:=Hh hkI;clear hkI;go_wp2_with fail;refine HUs.out.mono ?_
       rintro e w11 ⟨rfl,hrow,f11⟩;have hul:(zix Fs Fs.length (Fs.length-1)).length=Fs.length:=by unfold zix;rw[ze9];simp
       have hsl:=hrow.slice (by omega);rw[hul]at hsl;have HC:=Hh (zgb _ _ w11 hsl);have HF11:=Hh ((HF1.out.trans HF5.out (fun _ _ q=>q)).trans f11 (fun _ _ q=>q));clear hrow f11 hul hsl;go_wp2_with fail;refine HC.out.mono ?_
       rintro e w12 ⟨rfl,rfl⟩;go_wp2_with fail;go_ret;exact⟨by rw[HGu.out];rfl,HF11.out⟩
end Go.Proofs.YtkofnbjjbcohgaaGreatDoor
