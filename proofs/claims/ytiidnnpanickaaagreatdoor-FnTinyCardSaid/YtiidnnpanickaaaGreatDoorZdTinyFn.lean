import Derived.Test.YtiidnnpanickaaaGreatDoorZdTinyDraw
import Derived.Test.YtiidnnpanickaaaGreatDoorZdStarP
import Derived.Test.YtiidnnpanickaaaGreatDoorZdWinsP
/- What the claim of FnTinyCard needs of: TinyFn. -/
namespace Go.Proofs.YtiidnnpanickaaaGreatDoor
set_option linter.unusedVariables false
set_option linter.unusedSimpArgs false
open Go.RowKit
theorem tinyFP {R:Nat→Prop} {nv:Value} {Fi F:List (List Int × List Int)} {w:World} {g ok:Bool} (h:NodeL R encI w nv Fi) (hg:g=true↔goodI Fi) (hok:ok=(g && fitsB (tinyN (natF Fi)))) (hF:F=i2 (if ok=true then tinyN (natF Fi) else [])) :
    Calls Tryz.prog 25 #[.agg #[nv]] w fun e w'=>FormPost ok F w e w' :=
  (tinyP_any nv Fi w h g hg ok hok).mono fun e w' h=>FormPost.ofP hF h
theorem tinyFR {R:Nat→Prop} {nv:Value} {Fi F:List (List Int × List Int)} {w:World} {g ok:Bool} (h:NodeL R encI w nv Fi) (hln:Fi.length≤60) (hg:g=true↔goodI Fi) (hok:ok=(g && fitsB (tinyN (natF Fi)))) (hF:F=i2 (if ok=true then tinyN (natF Fi) else [])) :
    Calls Tryz.prog 30 #[.agg #[nv]] w fun e w'=>FormPost ok F w e w' :=
  (tinyR_any nv Fi w h hln g hg ok hok).mono fun e w' h=>FormPost.ofR hF h
theorem numFP {T:Int} {p:Nat} (w:World) (hr:Red T p) (h0:0≤T) (h9:T≤9) (hp:p≤2):Calls Tryz.prog 24 #[.agg #[.int .i64 T,.int .i64 (p:Int)]] w fun e w'=>FormPost true (i2 (numN T p)) w e w':=by
  have hg:=GoodD.of hr (show T.natAbs≤1000000 by omega) (show p≤16 by omega)
  have h:=numberFormP_any T (p:Int) w true (by simp [hg]) true (by rw [Int.toNat_natCast,(tiny_num hr h0 h9 hp).1];rfl)
  rw [Int.toNat_natCast] at h
  exact h.mono fun e w' h=>FormPost.ofP (FN:=if true=true then numN T p else []) rfl h
theorem upFP (w:World):Calls Tryz.prog 26 #[.int .i64 1,.int .i64 0] w fun e w'=>FormPost true (i2 (formOf upC)) w e w' :=
  (upForm_any w).mono fun e w' h=>FormPost.ofP rfl h
theorem fits_goodI {c:Nat} (h:fitsB (formOf c)=true):goodI (i2 (formOf c)):=(form_good (formOf_is c) h).1
theorem tiny_says {T:Int} {p:Nat} (hr:Red T p) (h0:0 < T) (h9:T≤9) (hp:p≤2) :
    goodI (i2 (numN T p))∧goodI (i2 (tinyN (numN T p)))∧outW (!geC zeroC (codeF (tinyN (numN T p)))) (!geC (codeF (tinyN (numN T p))) zeroC)=1∧outM (geC (codeF (formOf upC)) (codeF (tinyN (numN T p)))) (geC (codeF (tinyN (numN T p))) (codeF (formOf upC)))=1:=by
  have hf:=tiny_num hr (Int.le_of_lt h0) h9 hp
  have e1:codeF (tinyN (numN T p))=tinyC (nr T p):=by unfold tinyN numN;rw [codeF_formOf,codeF_formOf,nr_of hr]
  have e2:codeF (formOf upC)=upC:=codeF_formOf _
  have t1:=tiny_pos (s:=T) (P:=p)
  have t2:=tiny_up (P:=p) h0
  refine ⟨fits_goodI hf.1,fits_goodI hf.2,?_,?_⟩
  · rw [e1,t1.1,t1.2];rfl
  · rw [e1,e2,t2.1,t2.2];rfl
set_option maxRecDepth 8000 in
set_option maxHeartbeats 16000000 in
theorem fnTiny_any (cv:Value) (L:List Int) (W0:World) (h:CodeOK W0 cv L):Calls Tryz.prog 5 #[cv] W0 fun e W'=>e=.returned (.bool true)∧Fr NoM W0 W':=by
  obtain ⟨big,hbig⟩:∃ big,big=decide (65536 < L.length):=⟨_,rfl⟩
  have hv:=vBig_any cv L W0 h
  rw [← hbig] at hv
  have HV:=Lib.hid hv
  have HC:=Lib.hid h
  have HBig:=Lib.hid (fun (e:big=false)=>(by rw [hbig,decide_eq_false_iff_not] at e;omega:L.length≤65536))
  have G0:=Lib.hid (Fr.refl NoM W0)
  obtain ⟨ca,cc,rfl,zz⟩:=id h.1
  clear zz h hbig hv
  go_enter Tryz.func5,Tryz.ntmps5
  go_wp2_with fail
  (with_reducible refine HV.out.mono ?_)
  rintro e x0 ⟨rfl,hx⟩
  have hx:=hx.symm
  subst hx
  cases big with
  | true =>
    go_wp2_with fail
    go_ret
    exact ⟨rfl,G0.out⟩
  | false =>
    have HLb:=Lib.hid (HBig.out rfl)
    clear HBig
    have hat:=fun (W:World) (f:Fr NoM W0 W)=>vAt_any _ L W (HC.out.fr0 f) HLb.out 0 (by omega)
    have HAt:=Lib.hid (hat W0 (Fr.refl _ _))
    have hat1:=fun (W:World) (f:Fr NoM W0 W)=>vAt_any _ L W (HC.out.fr0 f) HLb.out 1 (by omega)
    rw [show ((1:Nat):Int)=1 from rfl] at hat1
    have HAt1:=Lib.hid hat1
    have hat:=HAt.out
    rw [show ((0:Nat):Int)=0 from rfl] at hat
    have HAt:=Lib.hid hat
    clear hat hat1
    go_wp2_with fail
    (with_reducible refine HAt.out.mono ?_)
    rintro e x1 ⟨y,rfl,hy,f1⟩
    have HY:=Lib.hid hy;have F1:=Lib.hid f1
    have HAt1:=Lib.hid (HAt1.out x1 f1)
    clear hy f1 HAt
    go_wp2_with fail
    (with_reducible refine HAt1.out.mono ?_)
    rintro e x2 ⟨z,rfl,hz,f2⟩
    have HZ:=Lib.hid hz
    have F2:=Lib.hid (F1.out.trans f2 (fun _ _ q=>q))
    clear hz f2 HAt1
    go_upto_region 4 with fail
    obtain ⟨T,hT⟩:∃ T,T=wrap64 (wrap64 (2 * y.tmod 5) + 1):=⟨_,rfl⟩
    obtain ⟨p,hp⟩:∃ p:Nat,(p:Int)=z.tmod 3:=⟨(z.tmod 3).toNat,by have:=HZ.out;rw [Int.tmod_eq_emod_of_nonneg this.1];omega⟩
    have hT2:T=2 * (y % 5) + 1:=by
      have h1:=HY.out
      rw [hT,Int.tmod_eq_emod_of_nonneg h1.1]
      unfold wrap64;omega
    have hp2:p≤2:=by have h1:=HZ.out;rw [Int.tmod_eq_emod_of_nonneg h1.1] at hp;omega
    have hr:Red T p:=.inr (by omega)
    have h0:0 < T:=by omega
    have h9:T≤9:=by omega
    have HSays:=Lib.hid (tiny_says hr h0 h9 hp2)
    have HNum:=Lib.hid (fun W=>numFP W hr (Int.le_of_lt h0) h9 hp2)
    have HFit:=Lib.hid (tiny_num hr (Int.le_of_lt h0) h9 hp2)
    rw [← hT,← hp]
    obtain ⟨W1,hW1⟩:∃ W1,W1=x2.alloc (.cells #[.int .i64 T,.int .i64 (p:Int)] 45):=⟨_,rfl⟩
    have g1:Fr NoM x2 W1:=by rw [hW1];exact (Fr.refl NoM x2).alloc _
    have e1:W1.heap[x2.heap.size]?=some (.cells #[.int .i64 T,.int .i64 (p:Int)] 45 (0,0)):=by rw [hW1];exact heap_alloc_new x2 _
    have k0:W1.cell? ⟨x2.heap.size,0,none⟩=some (.int .i64 T):=by rw [cell_of_row W1 _ 0 _ _ _ e1];rfl
    have k1:W1.cell? ⟨x2.heap.size,1,none⟩=some (.int .i64 (p:Int)):=by rw [cell_of_row W1 _ 1 _ _ _ e1];rfl
    have G1:=Lib.hid (F2.out.trans g1 (fun _ _ q=>q))
    rw [← hW1]
    clear hW1 hT hp hT2 hp2 hr h0 h9 g1 e1 HY HZ F1 F2 G0
    obtain ⟨FA,hFA⟩:∃ FA,FA=i2 (numN T p):=⟨_,rfl⟩
    obtain ⟨FB,hFB⟩:∃ FB,FB=i2 (tinyN (numN T p)):=⟨_,rfl⟩
    obtain ⟨FU,hFU⟩:∃ FU,FU=i2 (formOf upC):=⟨_,rfl⟩
    have HFA:=Lib.hid hFA;have HFB:=Lib.hid hFB;have HFU:=Lib.hid hFU
    have HN:=Lib.hid (HNum.out W1)
    clear hFA hFB hFU HNum
    go_wp2_with fail
    (with_reducible refine HN.out.mono ?_)
    rintro e w3 ⟨v3,rfl,q3,f3⟩
    rw [← HFA.out] at q3
    obtain ⟨a3,c3,rfl,zz⟩:=id q3
    obtain ⟨W3,hW3⟩:∃ W3,W3=w3.alloc (.cells #[.slice a3 FA.length c3] 31):=⟨_,rfl⟩
    have g3:Fr NoM W1 W3:=f3.trans (show Fr NoM w3 W3 by rw [hW3];exact (Fr.refl NoM w3).alloc _) (fun _ _ q=>q)
    have B3:=Lib.hid (BoxI.made q3 hW3)
    have G3:=Lib.hid (G1.out.trans g3 (fun _ _ q=>q))
    clear q3 f3 g3 zz HN k0 k1
    go_upto_region 5 with fail
    rw [← hW3]
    clear hW3
    have k3:=B3.out.cell
    have HT:=Lib.hid (tinyFP (g:=true) (ok:=true) (F:=FB) B3.out.node (by rw [HFA.out];simp [HSays.out.1]) (by rw [HFA.out,natF_i2,HFit.out.2];rfl) (by rw [HFA.out,natF_i2,HFB.out];rfl))
    go_wp2_with fail
    (with_reducible refine HT.out.mono ?_)
    rintro e w4 ⟨v4,rfl,q4,f4⟩
    obtain ⟨a4,c4,rfl,zz⟩:=id q4
    obtain ⟨W4,hW4⟩:∃ W4,W4=w4.alloc (.cells #[.slice a4 FB.length c4] 31):=⟨_,rfl⟩
    have g4:Fr NoM W3 W4:=f4.trans (show Fr NoM w4 W4 by rw [hW4];exact (Fr.refl NoM w4).alloc _) (fun _ _ q=>q)
    have B4:=Lib.hid (BoxI.made q4 hW4)
    have G4:=Lib.hid (G3.out.trans g4 (fun _ _ q=>q))
    clear q4 f4 g4 zz HT k3 B3
    go_upto_region 6 with fail
    rw [← hW4]
    clear hW4
    go_wp2_with fail
    (with_reducible refine (upFP W4).mono ?_)
    rintro e w5 ⟨v5,rfl,q5,f5⟩
    rw [← HFU.out] at q5
    obtain ⟨a5,c5,rfl,zz⟩:=id q5
    obtain ⟨W5,hW5⟩:∃ W5,W5=w5.alloc (.cells #[.slice a5 FU.length c5] 31):=⟨_,rfl⟩
    have g5:Fr NoM W4 W5:=f5.trans (show Fr NoM w5 W5 by rw [hW5];exact (Fr.refl NoM w5).alloc _) (fun _ _ q=>q)
    have B4:=Lib.hid (B4.out.fr0 g5)
    have B5:=Lib.hid (BoxI.made q5 hW5)
    have G5:=Lib.hid (G4.out.trans g5 (fun _ _ q=>q))
    clear q5 f5 g5 zz
    go_upto_region 7 with fail
    rw [← hW5]
    clear hW5
    have k4:=B4.out.cell
    have hop:=outcomeP_any (.slice a4 FB.length c4) (tinyN (numN T p)) W5 (by rw [← HFB.out];exact B4.out.node) HSays.out.2.1
    rw [HSays.out.2.2.1] at hop
    have HOp:=Lib.hid hop
    clear hop
    go_wp2_with fail
    (with_reducible refine HOp.out.mono ?_)
    rintro e x6 ⟨rfl,f6⟩
    have G6:=Lib.hid (G5.out.trans f6 (fun _ _ q=>q))
    have B4:=Lib.hid (B4.out.fr0 f6)
    have B5:=Lib.hid (B5.out.fr0 f6)
    clear f6 k4 HOp
    have k4:=B4.out.cell
    have k5:=B5.out.cell
    have hcm:=compareP_any (.slice a5 FU.length c5) (.slice a4 FB.length c4) (formOf upC) (tinyN (numN T p)) x6 (by rw [← HFU.out];exact B5.out.node) (by rw [← HFB.out];exact B4.out.node) (fits_goodI up_fits) HSays.out.2.1
    rw [HSays.out.2.2.2] at hcm
    have HCm:=Lib.hid hcm
    clear hcm
    go_wp2_with fail
    (with_reducible refine HCm.out.mono ?_)
    rintro e x7 ⟨rfl,f7⟩
    have G7:=Lib.hid (G6.out.trans f7 (fun _ _ q=>q))
    have HDr:=Lib.hid (drawTiny_any _ L x7 (HC.out.fr0 G7.out))
    clear f7 k4 k5 HCm B4 B5
    go_wp2_with fail
    (with_reducible refine HDr.out.mono ?_)
    rintro e w8 ⟨v8,Fi,rfl,q8,f8,hlen⟩
    obtain ⟨a8,c8,rfl,zz⟩:=id q8
    obtain ⟨W8,hW8⟩:∃ W8,W8=w8.alloc (.cells #[.slice a8 Fi.length c8] 31):=⟨_,rfl⟩
    have g8:Fr NoM x7 W8:=f8.trans (show Fr NoM w8 W8 by rw [hW8];exact (Fr.refl NoM w8).alloc _) (fun _ _ q=>q)
    have B8:=Lib.hid (BoxI.made q8 hW8)
    have G8:=Lib.hid (G7.out.trans g8 (fun _ _ q=>q))
    have HLen:=Lib.hid (show Fi.length≤60 from by omega)
    clear q8 f8 g8 zz hlen HDr
    go_upto_region 10 with fail
    rw [← hW8]
    clear hW8
    obtain ⟨g,hg⟩:=good_dec Fi
    obtain ⟨ok,hok⟩:∃ ok,ok=(g && fitsB (tinyN (natF Fi))):=⟨_,rfl⟩
    obtain ⟨FT,hFT⟩:∃ FT,FT=i2 (if ok=true then tinyN (natF Fi) else []):=⟨_,rfl⟩
    have HG:=Lib.hid hg;have HOk:=Lib.hid hok;have HFT:=Lib.hid hFT
    clear hg hok hFT
    have k8:=B8.out.cell
    go_wp2_with fail
    (with_reducible refine (tinyFP B8.out.node HG.out HOk.out HFT.out).mono ?_)
    rintro e w9 ⟨v9,rfl,q9,f9⟩
    obtain ⟨a9,c9,rfl,zz⟩:=id q9
    obtain ⟨W9,hW9⟩:∃ W9,W9=w9.alloc (.cells #[.slice a9 FT.length c9] 31):=⟨_,rfl⟩
    have g9:Fr NoM W8 W9:=f9.trans (show Fr NoM w9 W9 by rw [hW9];exact (Fr.refl NoM w9).alloc _) (fun _ _ q=>q)
    have B8:=Lib.hid (B8.out.fr0 g9)
    have B9:=Lib.hid (BoxI.made q9 hW9)
    have G9:=Lib.hid (G8.out.trans g9 (fun _ _ q=>q))
    clear q9 f9 g9 zz k8
    go_upto_region 11 with fail
    rw [← hW9]
    clear hW9
    have k8:=B8.out.cell
    go_wp2_with fail
    (with_reducible refine (tinyFR B8.out.node HLen.out HG.out HOk.out HFT.out).mono ?_)
    rintro e w10 ⟨v10,rfl,q10,f10⟩
    obtain ⟨a10,c10,rfl,zz⟩:=id q10
    obtain ⟨W10,hW10⟩:∃ W10,W10=w10.alloc (.cells #[.slice a10 FT.length c10] 31):=⟨_,rfl⟩
    have g10:Fr NoM W9 W10:=f10.trans (show Fr NoM w10 W10 by rw [hW10];exact (Fr.refl NoM w10).alloc _) (fun _ _ q=>q)
    have B9:=Lib.hid (B9.out.fr0 g10)
    have B10:=Lib.hid (BoxI.made q10 hW10)
    have G10:=Lib.hid (G9.out.trans g10 (fun _ _ q=>q))
    clear q10 f10 g10 zz k8 B8
    go_upto_region 12 with fail
    rw [← hW10]
    clear hW10
    have k9:=B9.out.cell
    have k10:=B10.out.cell
    go_wp2_with fail
    (with_reducible refine (vSame_true _ _ FT FT W10 B9.out.node B10.out.node rfl).mono ?_)
    rintro e x11 ⟨rfl,f11⟩
    have G11:=Lib.hid (G10.out.trans f11 (fun _ _ q=>q))
    go_wp2_with fail
    go_ret
    exact ⟨rfl,G11.out⟩
end Go.Proofs.YtiidnnpanickaaaGreatDoor
