import Derived.Test.YtlapkmhemepcaaaGreatDoorZm14
import Derived.Test.YtlapkmhemepcaaaGreatDoorZm16
/- Lemmas. -/
namespace Go.Proofs.YtlapkmhemepcaaaGreatDoor
set_option linter.unusedVariables false
set_option linter.unusedSimpArgs false
open Go.RowKit
set_option maxRecDepth 8000 in
set_option maxHeartbeats 8000000 in
theorem upsLaw_any {R:Nat→Prop}(v:Value)(Fi:List IL)(W:World)(hN:NodeL R encI W v Fi) :
  Calls Tryz.prog 6 #[.agg #[v]] W fun e W'=>e=.returned (.bool true)/\Fr NoM W W':=by
 obtain⟨W1,hW1⟩:∃W1,W1=W.alloc (.cells #[v] 49):=⟨_,rfl⟩;have f1:Fr NoM W W1:=by rw[hW1];exact(Fr.refl NoM W).alloc _
 have e1:W1.heap[W.heap.size]?=some (.cells #[v] 49 (0,0)):=by rw[hW1];exact heap_alloc_new W _
 obtain⟨va,vc,rfl,z⟩:=id hN;clear z;have HIn:=Hh (fun(w:World) (f:Fr NoM W1 w)=>(by rw[cell_of_row w _ 0 _ _ _ (f.heap e1 (fun q=>q))];rfl:w.cell? ⟨W.heap.size,0,none⟩=some (.slice va Fi.length vc)));have HNd:=Hh (fun(w:World) (f:Fr NoM W1 w)=>(hN.fr0 (f1.trans f (fun _ _ q=>q)):NodeL R encI w (.slice va Fi.length vc) Fi));have HSz:=Hh (zu4 (.slice va Fi.length vc) Fi 1048576 W1 (hN.fr0 f1) (Nat.le_refl _));have F1:=Hh f1;have c0:=HIn.out W1 (Fr.refl _ _);clear hN f1 e1;by_cases hbig:1048576<Fi.length+cntI Fi
 ·have hsz:=HSz.out
  rw[if_pos hbig]at hsz;have HZ:=Hh hsz;clear hsz HSz;go_enter Tryz.func6,Tryz.ntmps6;go_wp2_with fail;rw[←hW1];refine HZ.out.mono ?_
  rintro e w2 ⟨rfl,f2⟩;go_wp2_with fail;go_ret;exact⟨rfl,F1.out.trans f2 (fun _ _ q=>q)⟩
 ·obtain⟨k0,hk0⟩:∃k0:Nat,k0=1048576-(Fi.length+cntI Fi):=⟨_,rfl⟩
  have hsz:=HSz.out;rw[if_neg hbig,←hk0]at hsz;obtain⟨g,hg⟩:=ya3 Fi;have HR:=Hh (fun(w:World) (S:Nat→Prop) (nv:Value) (h:NodeL S encI w nv Fi)=>ztx nv Fi w h g hg);have HP:=Hh (fun(w:World) (S:Nat→Prop) (nv:Value) (h:NodeL S encI w nv Fi)=>zty nv Fi w h g hg);have HTo:=Hh (fun(w:World) (f:Fr NoM W1 w)=>zu2 (.slice va Fi.length vc) Fi w (HNd.out w f) (by omega) (fun y hy=>by
   obtain⟨j,hj,rfl⟩:=List.getElem_of_mem hy;have:=yag (List.getElem?_eq_getElem hj);omega))
  have HZ:=Hh hsz;have HEqI:=Hh (fun(av bv:Value) (w:World) (R S:Nat→Prop) (hA:NodeL R encI w av Fi) (hB:NodeL S encI w bv Fi)=>show Calls Tryz.prog 32 #[.agg #[av],.agg #[bv]] w fun e w'=>e=.returned (.bool true)/\Fr NoM w w' from by
   have h:=zrq av bv Fi Fi w hA hB;rw[decide_eq_true (rfl:Fi=Fi)]at h;exact h)
  clear hg HSz hsz hbig hk0;go_enter Tryz.func6,Tryz.ntmps6;go_wp2_with fail;rw[←hW1];clear hW1;refine HZ.out.mono ?_
  rintro e w2 ⟨rfl,f2⟩;have F2:=Hh f2;clear f2 c0;have c0:=HIn.out w2 F2.out;go_wp2_with fail;(with_reducible refine(HTo.out w2 F2.out).mono ?_);rintro e w3 ⟨v3,n3,rfl,hna,f3⟩;have HRu:=Hh (HR.out w3 _ _ hna.nodeL);have F3:=Hh (F2.out.trans f3 (fun _ _ q=>q));clear f3 c0 hna;go_wp2_with fail;(with_reducible refine HRu.out.mono ?_);rintro e w4 ⟨n,s,ok,rfl,hu,f4⟩;have F4:=Hh (F3.out.trans f4 (fun _ _ q=>q));have HU:=Hh hu;clear f4 hu;have c0:=HIn.out w4 F4.out;go_wp2_with fail;(with_reducible refine(HTo.out w4 F4.out).mono ?_);rintro e w6 ⟨x0,NX0,rfl,n6,f6⟩;obtain⟨ax,cx,rfl,z⟩:=id n6.nodeL;have HN6:=Hh n6;obtain⟨w7,hw7⟩:∃w7,w7=w6.alloc (.cells #[.slice ax Fi.length cx] 26):=⟨_,rfl⟩;have f7:Fr NoM w6 w7:=by rw[hw7];exact(Fr.refl NoM w6).alloc _
  have e7:w7.heap[w6.heap.size]?=some (.cells #[.slice ax Fi.length cx] 26 (0,0)):=by rw[hw7];exact heap_alloc_new w6 _
  have HX:=Hh (fun(w:World) (f:Fr NoM w7 w)=>(by rw[cell_of_row w _ 0 _ _ _ (f.heap e7 (fun q=>q))];rfl:w.cell? ⟨w6.heap.size,0,none⟩=some (.slice ax Fi.length cx)));have HXn:=Hh (fun(w:World) (f:Fr NoM w7 w)=>(HN6.out.nodeL.fr0 f7).fr0 f);have F7:=Hh ((F4.out.trans f6 (fun _ _ q=>q)).trans f7 (fun _ _ q=>q));have HPu:=Hh (HP.out w7 _ _ (HXn.out w7 (Fr.refl _ _)));clear z n6 f6 f7 e7 c0;go_upto_region 7 with fail;rw[←hw7];clear hw7;have c0:=HX.out w7 (Fr.refl _ _);go_wp2_with fail;(with_reducible refine HPu.out.mono ?_);rintro e wc ⟨n',s',ok',rfl,hu',f8⟩;obtain⟨e1,e2,e3⟩:=hu'.one HU.out;subst e1 e2 e3;have F8:=Hh f8;clear f8 c0 hu';go_upto_region 10 with fail;have K8:Fr NoM wc wc.drew:=(Fr.refl NoM wc).drew;have HF:=Hh (fun(w:World) (f:Fr NoM wc w)=>(F8.out.trans f (fun _ _ q=>q):Fr NoM w7 w));have HC:=Hh (fun(w:World) (f:Fr NoM wc w)=>(⟨HX.out _ (HF.out w f),HIn.out _ (F7.out.trans (HF.out w f) (fun _ _ q=>q))⟩:w.cell? ⟨w6.heap.size,0,none⟩=some (.slice ax Fi.length cx)/\w.cell? ⟨W.heap.size,0,none⟩=some (.slice va Fi.length vc)));go_region_held3 (fun(w:World)=>w.cell? ⟨w6.heap.size,0,none⟩=some (.slice ax Fi.length cx)/\w.cell? ⟨W.heap.size,0,none⟩=some (.slice va Fi.length vc))
   (first|exact HC.out _ (by assumption))
   (first
    | (go_at_call 30;(with_reducible refine(HTo.out _ (F7.out.trans (HF.out _ (by assumption)) (fun _ _ q=>q))).mono ?_);rintro e wd ⟨va',na',rfl,hna,fa⟩;have ka:Fr NoM wc wd:=Fr.trans (by assumption) fa (fun _ _ q=>q))
    | (go_at_call 32;(with_reducible refine(HEqI.out _ _ _ _ _ (HXn.out _ (HF.out _ (by assumption))) hna.nodeL).mono ?_);rintro e we ⟨rfl,fb⟩;have kb:Fr NoM wc we:=Fr.trans (by assumption) fb (fun _ _ q=>q))
    | fail)
  all_goals
   have KB:=Hh kb;go_wp2;go_ret;exact⟨rfl,(F1.out.trans F7.out (fun _ _ q=>q)).trans (HF.out _ KB.out) (fun _ _ q=>q)⟩
end Go.Proofs.YtlapkmhemepcaaaGreatDoor
