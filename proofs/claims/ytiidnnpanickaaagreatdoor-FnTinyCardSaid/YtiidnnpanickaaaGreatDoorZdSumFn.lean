import Derived.Test.YtiidnnpanickaaaGreatDoorZdRefDrop
import Derived.Test.YtiidnnpanickaaaGreatDoorZdDropLaw
import Derived.Test.YtiidnnpanickaaaGreatDoorZdRefGood
/- What the claim of FnTinyCard needs of: RefBook RefDropForm SumFn. -/
namespace Go.Proofs.YtiidnnpanickaaaGreatDoor
set_option linter.unusedVariables false
set_option linter.unusedSimpArgs false
open Go.RowKit
def natF (Fi:List (List Int × List Int)):List PL:=Fi.map fun y=>(y.1.map Int.toNat,y.2.map Int.toNat)
theorem nat_ints (L:List Nat):(ints L).map Int.toNat=L:=by
  unfold ints
  rw [List.map_map]
  exact (List.map_congr_left fun x _=>Int.toNat_natCast x).trans (List.map_id _)
theorem natF_i2 (Fs:List PL):natF (i2 Fs)=Fs:=by
  unfold natF i2
  rw [List.map_map]
  refine (List.map_congr_left fun y _=>?_).trans (List.map_id _)
  exact Prod.ext (nat_ints _) (nat_ints _)
set_option maxHeartbeats 2000000 in
theorem l3If_any {R:Nat→Prop} (nv:Value) (NL:List PL) (w:World) (h:NodeL R encN w nv NL) :
    Calls Tryz.prog 75 #[.agg #[nv]] w fun e w'=>∃ v',e=.returned (.tuple #[.agg #[v'],.bool (fitsB NL)])∧NodeL R encN w' v' (if fitsB NL=true then NL else [])∧Fr NoM w w':=by
  obtain ⟨w1,hw1⟩:∃ w1,w1=(w.alloc (.cells #[nv] 31)).alloc (.cells #[.slice none 0 0] 31):=⟨_,rfl⟩
  have f1:Fr NoM w w1:=by rw [hw1];exact ((Fr.refl NoM w).alloc _).alloc _
  have e0:w1.heap[w.heap.size]?=some (.cells #[nv] 31 (0,0)):=by rw [hw1];exact ((Fr.refl NoM _).alloc _).heap (heap_alloc_new w _) (fun q=>q)
  have e1:w1.heap[w.heap.size + 1]?=some (.cells #[.slice none 0 0] 31 (0,0)):=by
    have h:=heap_alloc_new (w.alloc (.cells #[nv] 31)) (.cells #[.slice none 0 0] 31)
    rw [World.size_alloc] at h
    rw [hw1];exact h
  have HFit:=Lib.hid (l3Fits_any nv NL w1 (h.fr0 f1))
  have HK:=Lib.hid (fun (W:World) (f:Fr NoM w1 W)=>show W.cell? ⟨w.heap.size,0,none⟩=some nv∧W.cell? ⟨w.heap.size + 1,0,none⟩=some (.slice none 0 0)∧W.frozen? ⟨w.heap.size + 1,0,none⟩=false from by
    have h0:=f.heap e0 (fun q=>q)
    have h1:=f.heap e1 (fun q=>q)
    exact ⟨by rw [cell_of_row W _ 0 _ _ _ h0];rfl,by rw [cell_of_row W _ 0 _ _ _ h1];rfl,by simp [World.frozen?,h1]⟩)
  have HN:=Lib.hid h
  obtain ⟨a,c,rfl,z⟩:=h
  clear z
  obtain ⟨fb,hfb⟩:∃ fb,fb=fitsB NL:=⟨_,rfl⟩
  rw [← hfb] at HFit ⊢
  clear hfb
  obtain ⟨k0,k1,z1⟩:=HK.out w1 (Fr.refl _ _)
  have HW:=Lib.hid hw1;have F1:=Lib.hid f1
  clear hw1 f1 e0 e1
  go_enter Tryz.func75,Tryz.ntmps75
  go_wp2_with fail
  rw [← HW.out]
  refine HFit.out.mono ?_
  rintro e w2 ⟨rfl,f2⟩
  clear k0 k1 z1
  obtain ⟨k0,k1,z1⟩:=HK.out w2 f2
  have F2:=Lib.hid f2
  clear f2
  have hset:∀ u,Fr NoM w (w2.setCell ⟨w.heap.size + 1,0,none⟩ u):=fun u=>(F1.out.trans F2.out (fun _ _ q=>q)).setCell ⟨w.heap.size + 1,0,none⟩ u (fun h=>by have h:w.heap.size + 1 < w.heap.size:=h;omega)
  have HSet:=Lib.hid hset
  clear hset
  cases fb with
  | false =>
    go_wp2_with fail
    refine bodyPost_ret (v:=.tuple #[.agg #[.slice none 0 0],.bool false]) (by simp [results,Tryz.results75,go_sem,k1]) rfl ?_
    exact ⟨_,rfl,⟨none,0,rfl,Nat.le_refl _,by decide,by simp⟩,HSet.out _⟩
  | true =>
    go_wp2_with fail
    refine bodyPost_ret (v:=.tuple #[.agg #[.slice a NL.length c],.bool true]) (by simp [results,Tryz.results75,go_sem,k1]) rfl ?_
    exact ⟨_,rfl,HN.out.fr0 (HSet.out _),HSet.out _⟩
theorem good_zero:goodI (i2 [([],[])]):=good_st [] 0 (by decide)
end Go.Proofs.YtiidnnpanickaaaGreatDoor
