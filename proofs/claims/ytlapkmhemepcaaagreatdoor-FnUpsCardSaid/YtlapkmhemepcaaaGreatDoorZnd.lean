import Derived.Test.YtlapkmhemepcaaaGreatDoorZnn
/- Lemmas. -/
namespace Go.Proofs.YtlapkmhemepcaaaGreatDoor
set_option linter.unusedVariables false
set_option linter.unusedSimpArgs false
open Go.RowKit
def natF (Fi:List (List Int × List Int)):List PL:=Fi.map fun y=>(y.1.map Int.toNat,y.2.map Int.toNat)
theorem ztg (L:List Nat):(ints L).map Int.toNat=L:=by
 unfold ints;rw[List.map_map];exact(List.map_congr_left fun x _=>Int.toNat_natCast x).trans (List.map_id _)
theorem zbe (Fs:List PL):natF (i2 Fs)=Fs:=by
 unfold natF i2;rw[List.map_map];refine(List.map_congr_left fun y _=>?_).trans (List.map_id _);exact Prod.ext (ztg _) (ztg _)
set_option maxHeartbeats 2000000 in
theorem yay {R:Nat→Prop}(nv:Value)(NL:List PL)(w:World)(h:NodeL R encN w nv NL) :
  Calls Tryz.prog 81 #[.agg #[nv]] w fun e w'=>∃v',e=.returned (.tuple #[.agg #[v'],.bool (zau NL)])/\NodeL R encN w' v' (if zau NL=true then NL else [])/\Fr NoM w w':=by
 obtain⟨w1,hw1⟩:∃w1,w1=(w.alloc (.cells #[nv] 26)).alloc (.cells #[.slice none 0 0] 26):=⟨_,rfl⟩;have f1:Fr NoM w w1:=by rw[hw1];exact((Fr.refl NoM w).alloc _).alloc _
 have e0:w1.heap[w.heap.size]?=some (.cells #[nv] 26 (0,0)):=by rw[hw1];exact((Fr.refl NoM _).alloc _).heap (heap_alloc_new w _) (fun q=>q)
 have e1:w1.heap[w.heap.size+1]?=some (.cells #[.slice none 0 0] 26 (0,0)):=by
  have h:=heap_alloc_new (w.alloc (.cells #[nv] 26)) (.cells #[.slice none 0 0] 26);rw[World.size_alloc]at h;rw[hw1];exact h
 have HFit:=Hh (zuy nv NL w1 (h.fr0 f1));have HK:=Hh (fun(W:World) (f:Fr NoM w1 W)=>show W.cell? ⟨w.heap.size,0,none⟩=some nv/\W.cell? ⟨w.heap.size+1,0,none⟩=some (.slice none 0 0)/\W.frozen? ⟨w.heap.size+1,0,none⟩=false from by
  have h0:=f.heap e0 (fun q=>q);have h1:=f.heap e1 (fun q=>q);exact⟨by rw[cell_of_row W _ 0 _ _ _ h0];rfl,by rw[cell_of_row W _ 0 _ _ _ h1];rfl,by simp[World.frozen?,h1]⟩)
 have HN:=Hh h;obtain⟨a,c,rfl,z⟩:=h;clear z;obtain⟨fb,hfb⟩:∃fb,fb=zau NL:=⟨_,rfl⟩;rw[←hfb]at HFit ⊢;clear hfb;obtain⟨k0,k1,z1⟩:=HK.out w1 (Fr.refl _ _);have HW:=Hh hw1;have F1:=Hh f1;clear hw1 f1 e0 e1;go_enter Tryz.func81,Tryz.ntmps81;go_wp2_with fail;rw[←HW.out];refine HFit.out.mono ?_
 rintro e w2 ⟨rfl,f2⟩;clear k0 k1 z1;obtain⟨k0,k1,z1⟩:=HK.out w2 f2;have F2:=Hh f2;clear f2;have hset:∀u,Fr NoM w (w2.setCell ⟨w.heap.size+1,0,none⟩ u):=fun u=>(F1.out.trans F2.out (fun _ _ q=>q)).setCell ⟨w.heap.size+1,0,none⟩ u (fun h=>by have h:w.heap.size+1<w.heap.size:=h;omega)
 have HSet:=Hh hset;clear hset;cases fb with
 | false =>
  go_wp2_with fail;refine bodyPost_ret (v:=.tuple #[.agg #[.slice none 0 0],.bool false]) (by simp[results,Tryz.results81,go_sem,k1]) rfl ?_
  exact⟨_,rfl,⟨none,0,rfl,Nat.le_refl _,by decide,by simp⟩,HSet.out _⟩
 | true =>
  go_wp2_with fail;refine bodyPost_ret (v:=.tuple #[.agg #[.slice a NL.length c],.bool true]) (by simp[results,Tryz.results81,go_sem,k1]) rfl ?_
  exact⟨_,rfl,HN.out.fr0 (HSet.out _),HSet.out _⟩
noncomputable def sumN (Fs Gs:List PL):List PL:=za6 (sumC (zas Fs) (zas Gs))
open Classical in
noncomputable def ziy (Fi Gi:List (List Int × List Int)):Bool:=decide (zc5 Fi/\zc5 Gi/\Fi.length*Gi.length≤1600/\zau (sumN (natF Fi) (natF Gi))=true)
open Classical in
theorem zcn {Fi Gi:List (List Int × List Int)}:ziy Fi Gi=true↔zc5 Fi/\zc5 Gi/\Fi.length*Gi.length≤1600/\zau (sumN (natF Fi) (natF Gi))=true:=by
 unfold ziy;exact⟨fun h=>of_decide_eq_true h,fun h=>decide_eq_true h⟩
theorem zue {Fi Gi:List (List Int × List Int)}(h:ziy Fi Gi=true):zc5 (i2 (sumN (natF Fi) (natF Gi))):=(zhp (zc4 _) (zcn.1 h).2.2.2).1
theorem zya:zc5 (i2 [([],[])]):=yde [] 0 (by decide)
theorem zob (Fi:List (List Int × List Int)):∃g:Bool,(g=true↔zc5 Fi):=by
 by_cases h:zc5 Fi
 ·exact⟨true,by simp[h]⟩
 ·exact⟨false,by simp[h]⟩
theorem ya7 (Fi Gi:List (List Int × List Int)):∃p:Bool,(p=true↔zc5 Fi/\zc5 Gi/\Fi.length*Gi.length≤1600)/\(ziy Fi Gi=(p && zau (sumN (natF Fi) (natF Gi)))):=by
 by_cases h:zc5 Fi/\zc5 Gi/\Fi.length*Gi.length≤1600
 ·refine⟨true,by simp[h],?_⟩
  cases hf:zau (sumN (natF Fi) (natF Gi))with
  | true=>exact zcn.2 ⟨h.1,h.2.1,h.2.2,hf⟩
  | false =>
   cases ho:ziy Fi Gi with
   | false=>rfl
   | true=>have:=(zcn.1 ho).2.2.2;rw[hf]at this;cases this
 ·refine⟨false,by simp[h],?_⟩
  cases ho:ziy Fi Gi with
  | false=>rfl
  | true=>exact absurd ⟨(zcn.1 ho).1,(zcn.1 ho).2.1,(zcn.1 ho).2.2.1⟩ h
end Go.Proofs.YtlapkmhemepcaaaGreatDoor
