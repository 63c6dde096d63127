import Derived.Test.YtlapkmhemepcaaaGreatDoorZmy
/- Lemmas. -/
namespace Go.Proofs.YtlapkmhemepcaaaGreatDoor
set_option linter.unusedVariables false
set_option linter.unusedSimpArgs false
open Go.RowKit
set_option maxRecDepth 4000 in
set_option maxHeartbeats 2000000 in
theorem zt0 {R:Nat→Prop}(bb:Nat)(v:Value)(NL:List PL)(w:World)(hv:w.cell? ⟨bb,0,none⟩=some v)(hN:NodeL R encN w v NL)(hn:NL.length<1000) :
  Calls Tryz.prog 172 #[.pointer (some ⟨bb,0,none⟩)] w fun e w'=>∃ob kb:Nat,e=.returned (.pointer (some ⟨ob,0,none⟩))/\w.heap.size≤ob/\w.heap.size≤kb/\OrdR w' ob bb kb NL (List.replicate (NL.length*NL.length) 0)/\Fr NoM w w':=by
 have hlow:=hN.low;obtain⟨a,c,rfl,_,_,_⟩:=hN;have hNN:NL.length*NL.length<1000000:=by
  have h1:=Nat.mul_le_mul (show NL.length≤999 by omega) (show NL.length≤999 by omega);omega
 obtain⟨N2,hN2⟩:∃N2,N2=NL.length*NL.length:=⟨_,rfl⟩;have hm:(NL.length:Int)*(NL.length:Int)=(N2:Int):=by rw[hN2];exact(Int.natCast_mul _ _).symm
 have hb2:N2<1000000:=by omega
 have mk:=fun W=>zkz N2 W (by omega)
 have HLow:=Hh hlow;have HV:=Hh hv;have HN2:=Hh hN2;have hbb:bb<w.heap.size:=World.block_lt_of_cell? w _ hv;clear hlow hNN hN2;go_enter Tryz.func172,Tryz.ntmps172;go_wp2_with fail;go_region;all_goals
  go_wp2_with fail;go_ret;have f2:Fr NoM w ((w.alloc (.cells (zca encN 0 N2) 3)).alloc (.cells #[.pointer (some ⟨bb,0,none⟩),.slice (some ⟨w.heap.size,0,none⟩) N2 N2] 200)).drew:=(((Fr.refl NoM w).alloc _).alloc _).drew;have e2:=heap_alloc_new (w.alloc (.cells (zca encN 0 N2) 3)) (.cells #[.pointer (some ⟨bb,0,none⟩),.slice (some ⟨w.heap.size,0,none⟩) N2 N2] 200);rw[World.size_alloc]at e2;have e3:=((Fr.refl NoM _).drew).heap e2 (fun q=>q);have er:RowIs 3 encN (w.alloc (.cells (zca encN 0 N2) 3)) w.heap.size (List.replicate N2 0):=RowIs.made 3 encN w 0 N2;refine⟨w.heap.size+1,w.heap.size,rfl,by omega,Nat.le_refl _,⟨?_,?_,⟨_,f2.cell HV.out (fun q=>q),(HLow.out.fr0 f2).mono (fun k hk e=>?_)⟩,by omega,by omega,?_,by rw[List.length_replicate]⟩,f2⟩
  ·rw[cell_of_row _ _ 0 _ _ _ e3];rfl
  ·rw[cell_of_row _ _ 1 _ _ _ e3,←HN2.out];rfl
  ·have hk:k<w.heap.size:=hk
   omega
  ·rw[←HN2.out]
   exact er.fr (((Fr.refl NoM _).alloc _).drew) (fun q=>q)
theorem KOK.start (C:List Nat)(N n m:Nat):KOK C N n (List.replicate m 0):=fun i j _ _ _=>.inl (by
 rw[List.getD_eq_getElem?_getD,List.getElem?_replicate];split <;> rfl)
def natF (Fi:List (List Int × List Int)):List PL:=Fi.map fun y=>(y.1.map Int.toNat,y.2.map Int.toNat)
theorem zsr (L:List Nat):(ints L).map Int.toNat=L:=by
 unfold ints;rw[List.map_map];exact(List.map_congr_left fun x _=>Int.toNat_natCast x).trans (List.map_id _)
theorem zns (Fs:List PL):natF (i2 Fs)=Fs:=by
 unfold natF i2;rw[List.map_map];refine(List.map_congr_left fun y _=>?_).trans (List.map_id _);exact Prod.ext (zsr _) (zsr _)
end Go.Proofs.YtlapkmhemepcaaaGreatDoor
