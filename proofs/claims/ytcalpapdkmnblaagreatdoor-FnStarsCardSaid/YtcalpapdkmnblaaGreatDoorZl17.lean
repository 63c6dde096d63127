import Derived.Test.YtcalpapdkmnblaaGreatDoorZlx
import Derived.Test.YtcalpapdkmnblaaGreatDoorZln
import Derived.Test.YtcalpapdkmnblaaGreatDoorZl5
/- Lemmas. -/
namespace Go.Proofs.YtcalpapdkmnblaaGreatDoor
set_option linter.unusedVariables false
set_option linter.unusedSimpArgs false
open Go.RowKit
theorem zz7 {R S:Nat→Prop}{v1 v2:Value}{Fi Gi F:List (List Int × List Int)}{w:World}{ok:Bool}(h1:NodeL R encI w v1 Fi)(h2:NodeL S encI w v2 Gi)(hok:ok=zi6 Fi Gi)(hF:F=i2 (if ok=true then sumN (natF Fi) (natF Gi)else [])) :
  Calls Tryz.prog 88 #[.agg #[v1],.agg #[v2]] w fun e w'=>FormPost ok F w e w' :=
 (zkx v1 v2 Fi Gi w h1 h2 ok hok).mono fun e w' h=>FormPost.ofP hF h
theorem zz6 {R S:Nat→Prop}{v1 v2:Value}{Fi Gi F:List (List Int × List Int)}{w:World}{ok:Bool}(h1:NodeL R encI w v1 Fi)(h2:NodeL S encI w v2 Gi)(hok:ok=zi6 Fi Gi)(hF:F=i2 (if ok=true then sumN (natF Fi) (natF Gi)else [])) :
  Calls Tryz.prog 89 #[.agg #[v1],.agg #[v2]] w fun e w'=>FormPost ok F w e w' :=
 (zkv v1 v2 Fi Gi w h1 h2 ok hok).mono fun e w' h=>FormPost.ofR hF h
def zxd (ok:Bool)(F:List (List Int × List Int))(w:World)(e:Ending)(w':World):Prop:=∃v',e=.returned (.tuple #[.agg #[v'],.bool ok,.bool true])/\NodeL (fun b=>w.heap.size≤b) encI w' v' F/\Fr NoM w w'
set_option maxRecDepth 8000 in
set_option maxHeartbeats 8000000 in
theorem zus {R S:Nat→Prop}(v1 v2:Value)(Fi Gi F:List (List Int × List Int))(w:World)(h1:NodeL R encI w v1 Fi)(h2:NodeL S encI w v2 Gi)(ok:Bool)(hok:ok=zi6 Fi Gi)(hF:F=i2 (if ok=true then sumN (natF Fi) (natF Gi)else [])) :
  Calls Tryz.prog 30 #[.agg #[v1],.agg #[v2]] w fun e w'=>zxd ok F w e w':=by
 obtain⟨w1,hw1⟩:∃w1,w1=((w.alloc (.cells #[v1] 26)).alloc (.cells #[v2] 26)).alloc (.cells #[.slice none 0 0] 26):=⟨_,rfl⟩;have f1:Fr NoM w w1:=by rw[hw1];exact(((Fr.refl NoM w).alloc _).alloc _).alloc _
 have hs1:w1.heap.size=w.heap.size+3:=by rw[hw1];simp
 have e0:w1.heap[w.heap.size]?=some (.cells #[v1] 26 (0,0)):=by rw[hw1];exact(((Fr.refl NoM _).alloc _).alloc _).heap (heap_alloc_new w _) (fun q=>q)
 have e1:w1.heap[w.heap.size+1]?=some (.cells #[v2] 26 (0,0)):=by
  have h:=heap_alloc_new (w.alloc (.cells #[v1] 26)) (.cells #[v2] 26);rw[World.size_alloc]at h;rw[hw1];exact((Fr.refl NoM _).alloc _).heap h (fun q=>q)
 have e2:w1.heap[w.heap.size+1+1]?=some (.cells #[.slice none 0 0] 26 (0,0)):=by
  have h:=heap_alloc_new ((w.alloc (.cells #[v1] 26)).alloc (.cells #[v2] 26)) (.cells #[.slice none 0 0] 26);rw[World.size_alloc,World.size_alloc]at h;rw[hw1];exact h
 have HK:=Hh (fun(W:World) (f:Fr NoM w1 W)=>show W.cell? ⟨w.heap.size,0,none⟩=some v1/\W.cell? ⟨w.heap.size+1,0,none⟩=some v2/\W.cell? ⟨w.heap.size+1+1,0,none⟩=some (.slice none 0 0)/\W.frozen? ⟨w.heap.size+1+1,0,none⟩=false from by
  have h0:=f.heap e0 (fun q=>q);have h1:=f.heap e1 (fun q=>q);have h2:=f.heap e2 (fun q=>q);exact⟨by rw[cell_of_row W _ 0 _ _ _ h0];rfl,by rw[cell_of_row W _ 0 _ _ _ h1];rfl,by rw[cell_of_row W _ 0 _ _ _ h2];rfl,by simp[World.frozen?,h2]⟩)
 have HN1:=Hh (fun(W:World) (f:Fr NoM w1 W)=>(h1.fr0 f1).fr0 f);have HN2:=Hh (fun(W:World) (f:Fr NoM w1 W)=>(h2.fr0 f1).fr0 f);have HOk:=Hh hok;have HF:=Hh hF;have F1:=Hh f1;have HS1:=Hh hs1;obtain⟨a1,c1,rfl,z⟩:=id h1;clear z;obtain⟨a2,c2,rfl,z⟩:=id h2;clear z h1 h2 f1 hs1 e0 e1 e2 hok hF;obtain⟨k0,k1,k2,k3⟩:=HK.out w1 (Fr.refl _ _);go_enter Tryz.func30,Tryz.ntmps30;go_wp2_with fail;rw[←hw1];clear hw1;(with_reducible refine(zz7 (HN1.out w1 (Fr.refl _ _)) (HN2.out w1 (Fr.refl _ _)) HOk.out HF.out).mono ?_);rintro e w2 ⟨x2,rfl,q2,f2⟩;obtain⟨a3,c3,rfl,zz⟩:=id q2;obtain⟨W2,hW2⟩:∃W2,W2=w2.alloc (.cells #[.slice a3 F.length c3] 26):=⟨_,rfl⟩;have g2:Fr NoM w1 W2:=f2.trans (show Fr NoM w2 W2 by rw[hW2];exact(Fr.refl NoM w2).alloc _) (fun _ _ q=>q);have B2:=Hh (BoxI.made q2 hW2);have G2:=Hh g2;have HZa:=Hh f2.size;clear q2 f2 g2 zz k0 k1 k2 k3;obtain⟨k0,k1,k2,k3⟩:=HK.out W2 G2.out;go_upto_region 2 with fail;rw[←hW2];clear hW2;go_wp2_with fail;(with_reducible refine(zz6 (HN1.out W2 G2.out) (HN2.out W2 G2.out) HOk.out HF.out).mono ?_);rintro e w3 ⟨x3,rfl,q3,f3⟩;obtain⟨a4,c4,rfl,zz⟩:=id q3;obtain⟨W3,hW3⟩:∃W3,W3=w3.alloc (.cells #[.slice a4 F.length c4] 26):=⟨_,rfl⟩;have g3:Fr NoM W2 W3:=f3.trans (show Fr NoM w3 W3 by rw[hW3];exact(Fr.refl NoM w3).alloc _) (fun _ _ q=>q);have B2:=Hh (B2.out.fr0 g3);have B3:=Hh (BoxI.made q3 hW3);have G3:=Hh (G2.out.trans g3 (fun _ _ q=>q));have HZ2:=Hh (show w.heap.size+3≤w2.heap.size/\w.heap.size+3≤w3.heap.size from by have h1:=HS1.out;have h2:=HZa.out;have h3:=f3.size;have h4:=G2.out.size;omega);clear q3 f3 g3 zz k0 k1 k2 k3;go_upto_region 3 with fail;rw[←hW3];clear hW3;have HS:=Hh (fun(W:World) (f:Fr (fun q=>q=w.heap.size+1+1) W3 W)=>(⟨f.cell B2.out.cell (fun e=>by have e:w2.heap.size=w.heap.size+1+1:=e;have:=HZ2.out;omega),f.cell B3.out.cell (fun e=>by have e:w3.heap.size=w.heap.size+1+1:=e;have:=HZ2.out;omega)⟩:W.cell? ⟨w2.heap.size,0,none⟩=some (.slice a3 F.length c3)/\W.cell? ⟨w3.heap.size,0,none⟩=some (.slice a4 F.length c4)));have G0:Fr NoM W3 W3.drew:=(Fr.refl NoM W3).drew;have h0:Fr (fun q=>q=w.heap.size+1+1) W3 W3.drew:=G0.any;go_region_held3 (fun(W:World)=>W.cell? ⟨w2.heap.size,0,none⟩=some (.slice a3 F.length c3)/\W.cell? ⟨w3.heap.size,0,none⟩=some (.slice a4 F.length c4))
  (first|exact HS.out _ (by assumption)|exact HS.out _ (Fr.setCell (by assumption) _ _ (fun _=>rfl)))
  (first
   | (go_at_call 40;(with_reducible refine(zrr _ _ F F _ (B2.out.node.fr0 G0) (B3.out.node.fr0 G0) rfl).mono ?_);rintro e w4 ⟨rfl,f4⟩;have g4:Fr NoM W3 w4:=G0.trans f4 (fun _ _ q=>q);have h4:Fr (fun q=>q=w.heap.size+1+1) W3 w4:=g4.any;obtain⟨j0,j1,j2,j3⟩:=HK.out w4 (G3.out.trans g4 (fun _ _ q=>q)))
   | fail)
 all_goals
  have G4:=Hh (G3.out.trans g4 (fun _ _ q=>q));have HN:=Hh (B2.out.node.fr0 g4);clear f4 g4 h4 j0 j1;go_wp2;refine bodyPost_ret (v:=.tuple #[.agg #[.slice a3 F.length c3],.bool ok,.bool true]) (by simp[results,Tryz.results30,go_sem,j2]) rfl ?_
  refine⟨_,rfl,?_,(F1.out.trans G4.out (fun _ _ q=>q)).setCell _ _ (fun h=>by have h:w.heap.size+1+1<w.heap.size:=h;omega)⟩;exact(HN.out.fr (Fr.set w4 ⟨w.heap.size+1+1,0,none⟩ _) (fun q hq e=>by have e:q=w.heap.size+1+1:=e;have hq:w1.heap.size≤q:=hq;have:=HS1.out;omega)).mono (fun q hq=>by have hq:w1.heap.size≤q:=hq;have:=HS1.out;omega)
end Go.Proofs.YtcalpapdkmnblaaGreatDoor
