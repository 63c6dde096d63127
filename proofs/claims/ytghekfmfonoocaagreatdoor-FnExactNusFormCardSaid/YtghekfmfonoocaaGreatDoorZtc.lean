import Derived.Test.YtghekfmfonoocaaGreatDoorZt8
import Derived.Test.YtghekfmfonoocaaGreatDoorZtb
/- Lemmas. -/
namespace Go.Proofs.YtghekfmfonoocaaGreatDoor
set_option linter.unusedVariables false
set_option linter.unusedSimpArgs false
open Go.RowKit
set_option maxRecDepth 4000 in
set_option maxHeartbeats 2000000 in
theorem zu9 {R:Nat→Prop}(bb:Nat)(v:Value)(NL:List PL)(w:World)(hv:w.cell? ⟨bb,0,none⟩=some v)(hN:NodeL R encN w v NL)(hn:NL.length<1000) :
  Calls Tryz.prog 126 #[.pointer (some ⟨bb,0,none⟩)] w fun e w'=>∃ob kb:Nat,e=.returned (.pointer (some ⟨ob,0,none⟩))/\w.heap.size≤ob/\w.heap.size≤kb/\OrdR w' ob bb kb NL (List.replicate (NL.length*NL.length) 0)/\Fr NoM w w':=by
 have hlow:=hN.low;obtain⟨a,c,rfl,_,_,_⟩:=hN;have hNN:NL.length*NL.length<1000000:=by
  have h1:=Nat.mul_le_mul (show NL.length≤999 by omega) (show NL.length≤999 by omega);omega
 obtain⟨N2,hN2⟩:∃N2,N2=NL.length*NL.length:=⟨_,rfl⟩;have hm:(NL.length:Int)*(NL.length:Int)=(N2:Int):=by rw[hN2];exact(Int.natCast_mul _ _).symm
 have hb2:N2<1000000:=by omega
 have mk:=fun W=>zop N2 W (by omega)
 have HLow:=Hh hlow;have HV:=Hh hv;have HN2:=Hh hN2;have hbb:bb<w.heap.size:=World.block_lt_of_cell? w _ hv;clear hlow hNN hN2;go_enter Tryz.func126,Tryz.ntmps126;go_wp2_with fail;go_region;all_goals
  go_wp2_with fail;go_ret;have f2:Fr NoM w ((w.alloc (.cells (ze9 encN 0 N2) 3)).alloc (.cells #[.pointer (some ⟨bb,0,none⟩),.slice (some ⟨w.heap.size,0,none⟩) N2 N2] 176)).drew:=(((Fr.refl NoM w).alloc _).alloc _).drew;have e2:=heap_alloc_new (w.alloc (.cells (ze9 encN 0 N2) 3)) (.cells #[.pointer (some ⟨bb,0,none⟩),.slice (some ⟨w.heap.size,0,none⟩) N2 N2] 176);rw[World.size_alloc]at e2;have e3:=((Fr.refl NoM _).drew).heap e2 (fun q=>q);have er:RowIs 3 encN (w.alloc (.cells (ze9 encN 0 N2) 3)) w.heap.size (List.replicate N2 0):=RowIs.made 3 encN w 0 N2;refine⟨w.heap.size+1,w.heap.size,rfl,by omega,Nat.le_refl _,⟨?_,?_,⟨_,f2.cell HV.out (fun q=>q),(HLow.out.fr0 f2).mono (fun k hk e=>?_)⟩,by omega,by omega,?_,by rw[List.length_replicate]⟩,f2⟩
  ·rw[cell_of_row _ _ 0 _ _ _ e3];rfl
  ·rw[cell_of_row _ _ 1 _ _ _ e3,←HN2.out];rfl
  ·have hk:k<w.heap.size:=hk
   omega
  ·rw[←HN2.out]
   exact er.fr (((Fr.refl NoM _).alloc _).drew) (fun q=>q)
theorem KOK.start (C:List Nat)(N n m:Nat):KOK C N n (List.replicate m 0):=fun i j _ _ _=>.inl (by
 rw[List.getD_eq_getElem?_getD,List.getElem?_replicate];split <;> rfl)
def natF (Fi:List (List Int × List Int)):List PL:=Fi.map fun y=>(y.1.map Int.toNat,y.2.map Int.toNat)
theorem zu2 (L:List Nat):(ints L).map Int.toNat=L:=by
 unfold ints;rw[List.map_map];exact(List.map_congr_left fun x _=>Int.toNat_natCast x).trans (List.map_id _)
theorem zbc (Fs:List PL):natF (i2 Fs)=Fs:=by
 unfold natF i2;rw[List.map_map];refine(List.map_congr_left fun y _=>?_).trans (List.map_id _);exact Prod.ext (zu2 _) (zu2 _)
set_option maxHeartbeats 2000000 in
theorem zor {R:Nat→Prop}(nv:Value)(NL:List PL)(w:World)(h:NodeL R encN w nv NL) :
  Calls Tryz.prog 54 #[.agg #[nv]] w fun e w'=>∃v',e=.returned (.tuple #[.agg #[v'],.bool (zam NL)])/\NodeL R encN w' v' (if zam NL=true then NL else [])/\Fr NoM w w':=by
 obtain⟨w1,hw1⟩:∃w1,w1=(w.alloc (.cells #[nv] 26)).alloc (.cells #[.slice none 0 0] 26):=⟨_,rfl⟩;have f1:Fr NoM w w1:=by rw[hw1];exact((Fr.refl NoM w).alloc _).alloc _
 have e0:w1.heap[w.heap.size]?=some (.cells #[nv] 26 (0,0)):=by rw[hw1];exact((Fr.refl NoM _).alloc _).heap (heap_alloc_new w _) (fun q=>q)
 have e1:w1.heap[w.heap.size+1]?=some (.cells #[.slice none 0 0] 26 (0,0)):=by
  have h:=heap_alloc_new (w.alloc (.cells #[nv] 26)) (.cells #[.slice none 0 0] 26);rw[World.size_alloc]at h;rw[hw1];exact h
 have HFit:=Hh (znx nv NL w1 (h.fr0 f1));have HK:=Hh (fun(W:World) (f:Fr NoM w1 W)=>show W.cell? ⟨w.heap.size,0,none⟩=some nv/\W.cell? ⟨w.heap.size+1,0,none⟩=some (.slice none 0 0)/\W.frozen? ⟨w.heap.size+1,0,none⟩=false from by
  have h0:=f.heap e0 (fun q=>q);have h1:=f.heap e1 (fun q=>q);exact⟨by rw[cell_of_row W _ 0 _ _ _ h0];rfl,by rw[cell_of_row W _ 0 _ _ _ h1];rfl,by simp[World.frozen?,h1]⟩)
 have HN:=Hh h;obtain⟨a,c,rfl,z⟩:=h;clear z;obtain⟨fb,hfb⟩:∃fb,fb=zam NL:=⟨_,rfl⟩;rw[←hfb]at HFit ⊢;clear hfb;obtain⟨k0,k1,z1⟩:=HK.out w1 (Fr.refl _ _);have HW:=Hh hw1;have F1:=Hh f1;clear hw1 f1 e0 e1;go_enter Tryz.func54,Tryz.ntmps54;go_wp2_with fail;rw[←HW.out];refine HFit.out.mono ?_
 rintro e w2 ⟨rfl,f2⟩;clear k0 k1 z1;obtain⟨k0,k1,z1⟩:=HK.out w2 f2;have F2:=Hh f2;clear f2;have hset:∀u,Fr NoM w (w2.setCell ⟨w.heap.size+1,0,none⟩ u):=fun u=>(F1.out.trans F2.out (fun _ _ q=>q)).setCell ⟨w.heap.size+1,0,none⟩ u (fun h=>by have h:w.heap.size+1<w.heap.size:=h;omega)
 have HSet:=Hh hset;clear hset;cases fb with
 | false =>
  go_wp2_with fail;refine bodyPost_ret (v:=.tuple #[.agg #[.slice none 0 0],.bool false]) (by simp[results,Tryz.results54,go_sem,k1]) rfl ?_
  exact⟨_,rfl,⟨none,0,rfl,Nat.le_refl _,by decide,by simp⟩,HSet.out _⟩
 | true =>
  go_wp2_with fail;refine bodyPost_ret (v:=.tuple #[.agg #[.slice a NL.length c],.bool true]) (by simp[results,Tryz.results54,go_sem,k1]) rfl ?_
  exact⟨_,rfl,HN.out.fr0 (HSet.out _),HSet.out _⟩
noncomputable def sumN (Fs Gs:List PL):List PL:=zac (sumC (zb0 Fs) (zb0 Gs))
open Classical in
noncomputable def zf9 (Fi Gi:List (List Int × List Int)):Bool:=decide (zbf Fi/\zbf Gi/\Fi.length*Gi.length≤1600/\zam (sumN (natF Fi) (natF Gi))=true)
open Classical in
theorem zc7 {Fi Gi:List (List Int × List Int)}:zf9 Fi Gi=true↔zbf Fi/\zbf Gi/\Fi.length*Gi.length≤1600/\zam (sumN (natF Fi) (natF Gi))=true:=by
 unfold zf9;exact⟨fun h=>of_decide_eq_true h,fun h=>decide_eq_true h⟩
theorem zng {Fi Gi:List (List Int × List Int)}(h:zf9 Fi Gi=true):zbf (i2 (sumN (natF Fi) (natF Gi))):=(zmv (zbi _) (zc7.1 h).2.2.2).1
theorem zk5 {Fs:List PL}(h:zbf (i2 Fs)):zac (zb0 Fs)=Fs:=(zzh h).of.symm
theorem zx4:zb0 [([],[])]=zar:=by
 unfold zb0 zar;rw[show za0 [([],[])]=za0 ([] ++ [([],[])])from rfl,zdn];rfl
end Go.Proofs.YtghekfmfonoocaaGreatDoor
