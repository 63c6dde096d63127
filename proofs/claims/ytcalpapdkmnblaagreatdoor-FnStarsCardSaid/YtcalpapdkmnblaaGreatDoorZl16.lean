import Derived.Test.YtcalpapdkmnblaaGreatDoorZlv
import Derived.Test.YtcalpapdkmnblaaGreatDoorZl15
/- Lemmas. -/
namespace Go.Proofs.YtcalpapdkmnblaaGreatDoor
set_option linter.unusedVariables false
set_option linter.unusedSimpArgs false
open Go.RowKit
def zz9 (Fs:List PL)(t:Int):Prop:=(∃n:Nat,n≤15/\t=n/\Fs=zbt (n+1))∨(t=-1/\∀n:Nat,n≤15→Fs≠zbt (n+1))
set_option maxRecDepth 4000 in
set_option maxHeartbeats 8000000 in
theorem znf {R:Nat→Prop}(v:Value)(Fs:List PL)(w:World)(h:NodeL R encN w v Fs)(hp:0<Fs.length)(hl:Fs.length≤120) :
  Calls Tryz.prog 110 #[.agg #[v]] w fun e w'=>∃t:Int,e=.returned (.int .i64 t)/\zz9 Fs t/\Fr NoM w w':=by
 obtain⟨n,hn⟩:∃n,Fs.length=n+1:=⟨Fs.length-1,by omega⟩;obtain⟨w1,hw1⟩:∃w1,w1=w.alloc (.cells #[v] 26):=⟨_,rfl⟩;have f1:Fr NoM w w1:=by rw[hw1];exact(Fr.refl NoM w).alloc _
 have e1:w1.heap[w.heap.size]?=some (.cells #[v] 26 (0,0)):=by rw[hw1];exact heap_alloc_new w _
 have HK:=Hh (fun(W:World) (f:Fr NoM w1 W)=>show W.cell? ⟨w.heap.size,0,none⟩=some v from by
  have h0:=f.heap e1 (fun q=>q);rw[cell_of_row W _ 0 _ _ _ h0];rfl)
 have HN:=Hh (fun(W:World) (f:Fr NoM w1 W)=>(h.fr0 f1).fr0 f);have HSame:=Hh (fun(W:World) (f:Fr NoM w1 W) (R2:Nat→Prop) (v':Value) (G:List PL) (n:NodeL R2 encN W v' G)=>zkg v v' (i2 Fs) (i2 G) W (HN.out W f).toI n.toI);have F1:=Hh f1;have HL:=Hh hn;obtain⟨a,c,rfl,zz⟩:=id h;have HLe:=Hh hl;clear zz h f1 e1 hp;have k0:=HK.out w1 (Fr.refl _ _);have hn1:(Fs.length:Int)-1=(n:Int):=by omega
 have HN1:=Hh hn1;clear hn1 hn;go_enter Tryz.func110,Tryz.ntmps110;go_upto_region 2 with fail;rw[←hw1];clear hw1;rw[HN1.out];have HEnd:=Hh (fun(m:Nat) (h:Fs=zbt (m+1))=>show m=n from by
  have h1:=congrArg List.length h;rw[zbk,HL.out]at h1;omega)
 by_cases hn15:n≤15
 ·have a1:(n:Int)≤15:=by omega
  have HStar:=Hh (fun(W:World)=>zh2 n (by omega) W);have F0:Fr NoM w1 w1.drew:=(Fr.refl NoM w1).drew;have F00:Fr NoM w1 w1:=Fr.refl NoM w1;have HN15:=Hh hn15;clear hn15;go_region_held3 (fun(W:World)=>W.cell? ⟨w.heap.size,0,none⟩=some (.slice a Fs.length c))
   (exact HK.out _ (by assumption))
   (first
    | (go_at_call 109;(with_reducible refine(HStar.out _).mono ?_);rintro e w3 ⟨v3,rfl,n3,f3⟩;obtain⟨a3,c3,rfl,z3⟩:=id n3;clear z3;have G3:Fr NoM w1 w3:=Fr.trans (by assumption) f3 (fun _ _ q=>q))
    | (go_at_call 155;(with_reducible refine(HSame.out _ G3 _ _ _ n3).mono ?_);rintro e w4 ⟨rfl,f4⟩;have G4:Fr NoM w1 w4:=Fr.trans G3 f4 (fun _ _ q=>q))
    | fail)
  all_goals
   have HG4:=Hh G4;clear n3 f3 f4 G3 G4 F0 F00 k0;obtain⟨bR,hbR⟩:∃bR,bR=decide (i2 Fs=i2 (zbt (n+1))):=⟨_,rfl⟩;rw[←hbR];have HBR:=Hh hbR;clear hbR;cases bR with
   | true =>
    go_wp2;go_ret;refine⟨(n:Int),rfl,.inl ⟨n,HN15.out,rfl,?_⟩,F1.out.trans HG4.out (fun _ _ q=>q)⟩;have h1:=congrArg natF (of_decide_eq_true HBR.out.symm);rwa [zbu,zbu]at h1
   | false =>
    go_wp2;go_ret;refine⟨-1,rfl,.inr ⟨rfl,fun m _ e=>?_⟩,F1.out.trans HG4.out (fun _ _ q=>q)⟩;have h1:=of_decide_eq_false HBR.out.symm;rw[HEnd.out m e]at e;exact h1 (by rw[←e])
 ·have a1:¬(n:Int)≤15:=by omega
  have HN15:=Hh hn15;clear hn15;have a2:decide ((n:Int)≤15)=false:=decide_eq_false a1;go_wp2;go_quiet (fail);go_wp2;go_ret;exact⟨-1,rfl,.inr ⟨rfl,fun m hm e=>HN15.out (by rw[←HEnd.out m e];exact hm)⟩,F1.out.trans (zv5 _ _) (fun _ _ q=>q)⟩
set_option maxRecDepth 4000 in
set_option maxHeartbeats 8000000 in
theorem zo6 {R:Nat→Prop}(nv:Value)(Fi:List (List Int × List Int))(w:World)(h:NodeL R encI w nv Fi)(g:Bool)(hg:g=true↔zc3 Fi) :
  Calls Tryz.prog 47 #[.agg #[nv]] w fun e w'=>zks g Fi w e w':=by
 obtain⟨w1,hw1⟩:∃w1,w1=w.alloc (.cells #[nv] 26):=⟨_,rfl⟩;have f1:Fr NoM w w1:=by rw[hw1];exact(Fr.refl NoM w).alloc _
 have e0:w1.heap[w.heap.size]?=some (.cells #[nv] 26 (0,0)):=by rw[hw1];exact heap_alloc_new w _
 have hgood:=zkh nv Fi w1 (h.fr0 f1);have HN:=Hh (fun(W:World) (f:Fr NoM w1 W)=>(h.fr0 f1).fr0 f);have HK:=Hh (fun(W:World) (f:Fr NoM w1 W)=>show W.cell? ⟨w.heap.size,0,none⟩=some nv from by
  have h0:=f.heap e0 (fun q=>q);rw[cell_of_row _ _ 0 _ _ _ h0];rfl)
 obtain⟨a,c,rfl,z⟩:=id h;have HW:=Hh hw1;have F1:=Hh f1;have HG:=Hh hg;have HGood:=Hh hgood;clear z h hw1 f1 e0 hg hgood;have k0:=HK.out w1 (Fr.refl _ _);go_enter Tryz.func47,Tryz.ntmps47;go_wp2_with fail;rw[←HW.out];refine HGood.out.mono ?_
 rintro e w2 ⟨b,rfl,hb,f2⟩;obtain rfl:b=g:=by
  have h:=HG.out;cases b <;> cases g <;> simp_all
 clear k0;have k0:=HK.out w2 f2;have F2:=Hh f2;have HB:=Hh hb;clear f2 hb;cases b with
 | false =>
  go_wp2;go_ret2;exact⟨0,false,rfl,.inr ⟨rfl,rfl,fun _ e=>by cases e⟩,F1.out.trans F2.out (fun _ _ q=>q)⟩
 | true =>
  have hgd:=HB.out.1 rfl;obtain⟨Fs,rfl⟩:=zec hgd;obtain⟨q1,q2,q3,q4,_⟩:=zen hgd;have HSm:=Hh (zor _ Fs w2 (HN.out w2 F2.out).ofI q4.opts q3 q1 q2);have hle:(zb9 (canC (zak Fs))).length≤Fs.length:=zu8 (zu9 (zak Fs)).1 (zu9 (zak Fs)).2.2 (zu9 (zak Fs)).2.1 (zts hgd);have hpo:=(zez (zc4 (canC (zak Fs)))).1;obtain⟨FN,hFN⟩:∃FN,FN=zb9 (canC (zak Fs)):=⟨_,rfl⟩;have hsm:=HSm.out;rw[←hFN]at hsm hle hpo;have HSm:=Hh hsm;have HFN:=Hh hFN;have HLn:=Hh (show 0<FN.length/\FN.length≤120 from⟨hpo,by omega⟩);clear hgd q1 q2 q3 q4 hsm hFN hle hpo;go_wp2_with fail;(with_reducible refine HSm.out.mono ?_);rintro e w3 ⟨v3,rfl,n3,f3⟩;have HSt:=Hh (znf v3 FN w3 n3 HLn.out.1 HLn.out.2);have F3:=Hh (F2.out.trans f3 (fun _ _ q=>q));clear n3 f3 k0;go_wp2_with fail;(with_reducible refine HSt.out.mono ?_);rintro e w4 ⟨t,rfl,ht,f4⟩;have F4:=Hh (F1.out.trans (F3.out.trans f4 (fun _ _ q=>q)) (fun _ _ q=>q));clear f4;rcases ht with ⟨n,hn,rfl,hF⟩|⟨rfl,hF⟩
  ·have HE:=Hh (show zam n=canC (zak Fs)from(znm.1 (HFN.out.symm.trans hF)).symm)
   have HN15:=Hh hn;have a2:(n:Int)≥0:=by omega
   clear hF hn;go_wp2_with fail;(with_reducible refine(zh4 _ _ _).mono ?_);rintro e w5 ⟨rfl,rfl⟩;rw[show max (n:Int) 0=(n:Int)from by omega];go_wp2;go_ret2;exact⟨(n:Int),true,rfl,.inl ⟨rfl,rfl,n,HN15.out,rfl,by rw[zbu];exact HE.out⟩,F4.out⟩
  ·have HNo:=Hh hF
   clear hF;go_wp2_with fail;(with_reducible refine(zh4 _ _ _).mono ?_);rintro e w5 ⟨rfl,rfl⟩;rw[show max (-1:Int) 0=0 from by decide];go_wp2;go_ret2;exact⟨0,false,rfl,.inr ⟨rfl,rfl,fun m _ hm e=>HNo.out m hm (by rw[HFN.out];exact znm.2 (by rw[zbu]at e;exact e.symm))⟩,F4.out⟩
end Go.Proofs.YtcalpapdkmnblaaGreatDoor
