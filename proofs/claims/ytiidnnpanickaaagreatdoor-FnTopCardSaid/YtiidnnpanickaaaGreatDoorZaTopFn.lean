import Derived.Test.YtiidnnpanickaaaGreatDoorZaFnFormX
import Derived.Test.YtiidnnpanickaaaGreatDoorZaFnSum
import Derived.Test.YtiidnnpanickaaaGreatDoorZaWinsP
import Derived.Test.YtiidnnpanickaaaGreatDoorZaTopP
import Derived.Test.YtiidnnpanickaaaGreatDoorZaRefCan
/- What the claim of FnTopCard needs of: TopFn. -/
namespace Go.Proofs.YtiidnnpanickaaaGreatDoor
set_option linter.unusedVariables false
set_option linter.unusedSimpArgs false
open Go.RowKit
theorem canFP {R : Nat → Prop} {nv : Value} {Fs Cs : List PL} {w : World} (h : NodeL R encI w nv (i2 Fs)) (hg : goodI (i2 Fs)) (hc : canN Fs = Cs) (hf : fitsB Cs = true) :
    Calls Tryz.prog 37 #[.agg #[nv]] w fun e w' => FormPost true (i2 Cs) w e w' := by
  have k := canFormP_any nv (i2 Fs) w h true (by simp [hg]) true (by rw [natF_i2, hc, hf]; rfl)
  rw [natF_i2, hc] at k
  exact k.mono fun e w' h => FormPost.ofP (FN := if true = true then Cs else []) rfl h
theorem canFR {R : Nat → Prop} {nv : Value} {Fs Cs : List PL} {w : World} (h : NodeL R encI w nv (i2 Fs)) (hg : goodI (i2 Fs)) (hc : canN Fs = Cs) (hf : fitsB Cs = true) :
    Calls Tryz.prog 38 #[.agg #[nv]] w fun e w' => FormPost true (i2 Cs) w e w' := by
  have k := canFormR_any nv (i2 Fs) w h true (by simp [hg]) true (by rw [natF_i2, hc, hf]; rfl)
  rw [natF_i2, hc] at k
  exact k.mono fun e w' h => FormPost.ofR (FN := if true = true then Cs else []) rfl h
theorem canN_len {Fs : List PL} (hg : goodI (i2 Fs)) : (canN Fs).length ≤ Fs.length := by
  have hi := can_is (codeF Fs)
  exact can_least hi.1 hi.2.2 hi.2.1 (good_form hg)
theorem codeF_sumN (Fs Gs : List PL) : codeF (sumN Fs Gs) = sumC (codeF Fs) (codeF Gs) := by unfold sumN; rw [codeF_formOf]
theorem outW_ne (l r : Bool) : outW l r ≠ 0 := by cases l <;> cases r <;> decide
set_option maxRecDepth 8000 in
set_option maxHeartbeats 16000000 in
theorem fnTop_any (cv : Value) (L : List Int) (W0 : World) (h : CodeOK W0 cv L) : Calls Tryz.prog 7 #[cv] W0 fun e W' => e = .returned (.bool true) ∧ Fr NoM W0 W' := by
  obtain ⟨big, hbig⟩ : ∃ big, big = decide (65536 < L.length) := ⟨_, rfl⟩
  have hv := vBig_any cv L W0 h
  rw [← hbig] at hv
  have HV := Lib.hid hv; have HA := Lib.hid (vFormX_any cv L W0 h)
  have HC := Lib.hid h
  have HBig := Lib.hid (fun (e : big = false) => (by rw [hbig, decide_eq_false_iff_not] at e; omega : L.length ≤ 65536))
  have G0 := Lib.hid (Fr.refl NoM W0)
  obtain ⟨ca, cc, rfl, zz⟩ := id h.1
  clear zz h hbig hv
  go_enter Tryz.func7, Tryz.ntmps7
  go_wp2_with fail
  (with_reducible refine HV.out.mono ?_)
  rintro e x0 ⟨rfl, hx⟩
  have hx := hx.symm
  subst hx
  cases big with
  | true =>
    go_wp2_with fail
    go_ret
    exact ⟨rfl, G0.out⟩
  | false =>
    have HLb := Lib.hid (HBig.out rfl)
    clear HBig
    go_wp2_with fail
    (with_reducible refine HA.out.mono ?_)
    rintro e w1 ⟨v1, As, rfl, q1, ga, la, fa, f1⟩
    have HB := Lib.hid (vTwoX_any _ L w1 (HC.out.fr0 f1) HLb.out)
    have Q1 := Lib.hid q1; have F1 := Lib.hid f1; have HGa := Lib.hid ga; have HFa := Lib.hid fa
    obtain ⟨a1, c1, rfl, zz⟩ := id q1
    clear zz q1 f1 HA ga fa
    go_wp2_with fail
    (with_reducible refine HB.out.mono ?_)
    rintro e w2 ⟨v2, Bs, rfl, q2, gb, lb, fb, f2⟩
    have Q1 := Lib.hid (Q1.out.fr0 f2); have Q2 := Lib.hid q2; have F2 := Lib.hid (F1.out.trans f2 (fun _ _ q => q)); have HGb := Lib.hid gb; have HFb := Lib.hid fb
    obtain ⟨a2, c2, rfl, zz⟩ := id q2
    clear zz q2 f2 HB gb fb
    obtain ⟨V1, hV1⟩ : ∃ V1, V1 = w2.alloc (.cells #[.slice a1 (i2 As).length c1] 31) := ⟨_, rfl⟩
    obtain ⟨W2, hW2⟩ : ∃ W2, W2 = V1.alloc (.cells #[.slice a2 (i2 Bs).length c2] 31) := ⟨_, rfl⟩
    have e1 : Fr NoM w2 V1 := by rw [hV1]; exact (Fr.refl NoM w2).alloc _
    have e2 : Fr NoM V1 W2 := by rw [hW2]; exact (Fr.refl NoM V1).alloc _
    have s1 : V1.heap.size = w2.heap.size + 1 := by rw [hV1]; simp
    have b1 := (BoxI.made Q1.out hV1).fr0 e2
    have b2 := BoxI.made (Q2.out.fr0 e1) hW2
    rw [s1] at b2
    have B1 := Lib.hid b1; have B2 := Lib.hid b2
    have G2 := Lib.hid (F2.out.trans (e1.trans e2 (fun _ _ q => q)) (fun _ _ q => q))
    clear e1 e2 s1 b1 b2 Q1 Q2
    go_upto_region 4 with fail
    rw [← hV1, ← hW2]
    clear hV1 hW2
    have k1 := B1.out.cell
    obtain ⟨FC, hFC⟩ : ∃ FC, FC = i2 (canN As) := ⟨_, rfl⟩
    obtain ⟨one, hone⟩ : ∃ one, one = sumOk (i2 As) (i2 Bs) := ⟨_, rfl⟩
    obtain ⟨FG, hFG⟩ : ∃ FG, FG = i2 (if one = true then sumN (natF (i2 As)) (natF (i2 Bs)) else []) := ⟨_, rfl⟩
    obtain ⟨two, htwo⟩ : ∃ two, two = sumOk FC (i2 Bs) := ⟨_, rfl⟩
    obtain ⟨FH, hFH⟩ : ∃ FH, FH = i2 (if two = true then sumN (natF FC) (natF (i2 Bs)) else []) := ⟨_, rfl⟩
    have hg1 : one = true → FG = i2 (sumN As Bs) ∧ goodI (i2 (sumN As Bs)) := fun e => by
      have h1 := sumOk_good (Fi := i2 As) (Gi := i2 Bs) (by rw [← hone]; exact e)
      rw [natF_i2, natF_i2] at h1
      refine ⟨?_, h1⟩
      rw [hFG, e, natF_i2, natF_i2]; rfl
    have hg2 : two = true → FH = i2 (sumN (canN As) Bs) ∧ goodI (i2 (sumN (canN As) Bs)) := fun e => by
      have h1 := sumOk_good (Fi := FC) (Gi := i2 Bs) (by rw [← htwo]; exact e)
      rw [hFC, natF_i2, natF_i2] at h1
      refine ⟨?_, h1⟩
      rw [hFH, e, hFC, natF_i2, natF_i2]; rfl
    have hlen : FC.length ≤ (i2 As).length := by
      rw [hFC, i2_length, i2_length]
      exact canN_len HGa.out
    have hgc : goodI (i2 (canN As)) := canN_good HFa.out
    have his : true = decide (canC (codeF (canN As)) = codeF (canN As)) := by
      rw [codeF_canN, canC_self (can_is (codeF As)).1]; simp
    obtain ⟨o, ho⟩ : ∃ o, o = outW (!geC zeroC (codeF (sumN As Bs))) (!geC (codeF (sumN As Bs)) zeroC) := ⟨_, rfl⟩
    have hs := sum_can (codeF As) (codeF Bs)
    have ho2 : o = outW (!geC zeroC (codeF (sumN (canN As) Bs))) (!geC (codeF (sumN (canN As) Bs)) zeroC) := by
      have h1 := ge_same hs.1 hs.2 zeroC
      rw [ho, codeF_sumN, codeF_sumN, codeF_canN, h1.1, h1.2]
    have hone0 : o ≠ 0 := by rw [ho]; exact outW_ne _ _
    have hsame : (geC (codeF (sumN As Bs)) (codeF (sumN (canN As) Bs)) && geC (codeF (sumN (canN As) Bs)) (codeF (sumN As Bs))) = true := by
      rw [codeF_sumN, codeF_sumN, codeF_canN, hs.1, hs.2]; rfl
    have HOne := Lib.hid hone; have HFG := Lib.hid hFG; have HTwo := Lib.hid htwo; have HFH := Lib.hid hFH; have HG1 := Lib.hid hg1; have HG2 := Lib.hid hg2
    have HFC := Lib.hid hFC; have HLen := Lib.hid hlen; have HGc := Lib.hid hgc; have HIs := Lib.hid his; have HO := Lib.hid ho; have HO2 := Lib.hid ho2; have HO0 := Lib.hid hone0; have HSame := Lib.hid hsame
    clear hone hFG htwo hFH hg1 hg2 hFC hlen hgc his ho hs ho2 hone0 hsame
    go_wp2_with fail
    (with_reducible refine (canFP B1.out.node HGa.out rfl HFa.out).mono ?_)
    rintro e w3 ⟨v3, rfl, q3, f3⟩
    rw [← HFC.out] at q3
    obtain ⟨a3, c3, rfl, zz⟩ := id q3
    obtain ⟨W3, hW3⟩ : ∃ W3, W3 = w3.alloc (.cells #[.slice a3 FC.length c3] 31) := ⟨_, rfl⟩
    have g3 : Fr NoM W2 W3 := f3.trans (show Fr NoM w3 W3 by rw [hW3]; exact (Fr.refl NoM w3).alloc _) (fun _ _ q => q)
    have B1 := Lib.hid (B1.out.fr0 g3)
    have B2 := Lib.hid (B2.out.fr0 g3)
    have B3 := Lib.hid (BoxI.made q3 hW3)
    have G3 := Lib.hid (G2.out.trans g3 (fun _ _ q => q))
    clear q3 f3 g3 zz
    clear k1
    go_upto_region 5 with fail
    rw [← hW3]
    clear hW3
    have k1 := B1.out.cell
    go_wp2_with fail
    (with_reducible refine (canFR B1.out.node HGa.out rfl HFa.out).mono ?_)
    rintro e w4 ⟨v4, rfl, q4, f4⟩
    rw [← HFC.out] at q4
    obtain ⟨a4, c4, rfl, zz⟩ := id q4
    obtain ⟨W4, hW4⟩ : ∃ W4, W4 = w4.alloc (.cells #[.slice a4 FC.length c4] 31) := ⟨_, rfl⟩
    have g4 : Fr NoM W3 W4 := f4.trans (show Fr NoM w4 W4 by rw [hW4]; exact (Fr.refl NoM w4).alloc _) (fun _ _ q => q)
    have B1 := Lib.hid (B1.out.fr0 g4)
    have B2 := Lib.hid (B2.out.fr0 g4)
    have B3 := Lib.hid (B3.out.fr0 g4)
    have B4 := Lib.hid (BoxI.made q4 hW4)
    have G4 := Lib.hid (G3.out.trans g4 (fun _ _ q => q))
    clear q4 f4 g4 zz
    clear k1
    go_upto_region 6 with fail
    rw [← hW4]
    clear hW4
    have k3 := B3.out.cell
    have k4 := B4.out.cell
    go_wp2_with fail
    (with_reducible refine (vSame_true _ _ FC FC W4 B3.out.node B4.out.node rfl).mono ?_)
    rintro e x4 ⟨rfl, f4⟩
    have G4 := Lib.hid (G4.out.trans f4 (fun _ _ q => q))
    have B1 := Lib.hid (B1.out.fr0 f4)
    have B2 := Lib.hid (B2.out.fr0 f4)
    have B3 := Lib.hid (B3.out.fr0 f4)
    clear f4 k3 k4 B4
    obtain ⟨W4, rfl⟩ : ∃ W, W = x4 := ⟨_, rfl⟩
    have k3 := B3.out.cell
    have hic := isCanP_any (.slice a3 FC.length c3) (canN As) W4 (by rw [← HFC.out]; exact B3.out.node) HGc.out true HIs.out
    have HIc := Lib.hid hic
    clear hic
    go_wp2_with fail
    (with_reducible refine HIc.out.mono ?_)
    rintro e x4 ⟨rfl, f4⟩
    have G4 := Lib.hid (G4.out.trans f4 (fun _ _ q => q))
    have B1 := Lib.hid (B1.out.fr0 f4)
    have B2 := Lib.hid (B2.out.fr0 f4)
    have B3 := Lib.hid (B3.out.fr0 f4)
    clear f4 k3
    obtain ⟨W4, rfl⟩ : ∃ W, W = x4 := ⟨_, rfl⟩
    have k1 := B1.out.cell
    have k2 := B2.out.cell
    go_wp2_with fail
    (with_reducible refine (vSum_any _ _ (i2 As) (i2 Bs) FG W4 B1.out.node B2.out.node one HOne.out HFG.out).mono ?_)
    rintro e w5 ⟨v5, rfl, q5, f5⟩
    obtain ⟨a5, c5, rfl, zz⟩ := id q5
    obtain ⟨W5, hW5⟩ : ∃ W5, W5 = w5.alloc (.cells #[.slice a5 FG.length c5] 31) := ⟨_, rfl⟩
    have g5 : Fr NoM W4 W5 := f5.trans (show Fr NoM w5 W5 by rw [hW5]; exact (Fr.refl NoM w5).alloc _) (fun _ _ q => q)
    have B1 := Lib.hid (B1.out.fr0 g5)
    have B2 := Lib.hid (B2.out.fr0 g5)
    have B3 := Lib.hid (B3.out.fr0 g5)
    have B5 := Lib.hid (BoxI.made q5 hW5)
    have G5 := Lib.hid (G4.out.trans g5 (fun _ _ q => q))
    clear q5 f5 g5 zz
    clear k1 k2
    go_upto_region 10 with fail
    rw [← hW5]
    clear hW5
    have k2 := B2.out.cell
    have k3 := B3.out.cell
    go_wp2_with fail
    (with_reducible refine (vSum_any _ _ FC (i2 Bs) FH W5 B3.out.node B2.out.node two HTwo.out HFH.out).mono ?_)
    rintro e w6 ⟨v6, rfl, q6, f6⟩
    obtain ⟨a6, c6, rfl, zz⟩ := id q6
    obtain ⟨W6, hW6⟩ : ∃ W6, W6 = w6.alloc (.cells #[.slice a6 FH.length c6] 31) := ⟨_, rfl⟩
    have g6 : Fr NoM W5 W6 := f6.trans (show Fr NoM w6 W6 by rw [hW6]; exact (Fr.refl NoM w6).alloc _) (fun _ _ q => q)
    have B1 := Lib.hid (B1.out.fr0 g6)
    have B3 := Lib.hid (B3.out.fr0 g6)
    have B5 := Lib.hid (B5.out.fr0 g6)
    have B6 := Lib.hid (BoxI.made q6 hW6)
    have G6 := Lib.hid (G5.out.trans g6 (fun _ _ q => q))
    clear q6 f6 g6 zz
    clear k2 k3
    go_upto_region 11 with fail
    rw [← hW6]
    clear hW6
    have k1 := B1.out.cell
    have k3 := B3.out.cell
    have hl := HLen.out
    have hl2 : ¬ ((i2 As).length : Int) < (FC.length : Int) := by omega
    clear hl
    cases one with
    | false =>
      go_wp2_with fail
      go_ret
      exact ⟨rfl, G6.out⟩
    | true =>
      cases two with
      | false =>
        go_wp2_with fail
        go_ret
        exact ⟨rfl, G6.out⟩
      | true =>
        obtain ⟨e1, ge1⟩ := HG1.out rfl
        obtain ⟨e2, ge2⟩ := HG2.out rfl
        have hop := fun (W : World) (f : Fr NoM W6 W) => outcomeP_any (.slice a5 FG.length c5) (sumN As Bs) W (by rw [← e1]; exact (B5.out.fr0 f).node) ge1
        rw [← HO.out] at hop
        have hoq := fun (W : World) (f : Fr NoM W6 W) => outcomeP_any (.slice a6 FH.length c6) (sumN (canN As) Bs) W (by rw [← e2]; exact (B6.out.fr0 f).node) ge2
        rw [← HO2.out] at hoq
        have heq := fun (W : World) (f : Fr NoM W6 W) => equalP_any (.slice a5 FG.length c5) (.slice a6 FH.length c6) (sumN As Bs) (sumN (canN As) Bs) W (by rw [← e1]; exact (B5.out.fr0 f).node) (by rw [← e2]; exact (B6.out.fr0 f).node) ge1 ge2
        rw [HSame.out] at heq
        have HOp := Lib.hid hop; have HOq := Lib.hid hoq; have HEq := Lib.hid heq
        clear hop hoq heq e1 e2 ge1 ge2
        have k5 := B5.out.cell
        have HP := Lib.hid (HOp.out W6 (Fr.refl _ _))
        go_wp2_with fail
        (with_reducible refine HP.out.mono ?_)
        rintro e x7 ⟨rfl, f7⟩
        have HF7 := Lib.hid f7
        clear k1 k3 k5 f7 hl2
        have k6 := (B6.out.fr0 HF7.out).cell
        have HQ := Lib.hid (HOq.out x7 HF7.out)
        go_wp2_with fail
        (with_reducible refine HQ.out.mono ?_)
        rintro e x8 ⟨rfl, f8⟩
        have HF8 := Lib.hid (HF7.out.trans f8 (fun _ _ q => q))
        clear k6 f8
        have k5 := (B5.out.fr0 HF8.out).cell
        have k6 := (B6.out.fr0 HF8.out).cell
        have HE := Lib.hid (HEq.out x8 HF8.out)
        go_wp2_with fail
        (with_reducible refine HE.out.mono ?_)
        rintro e x9 ⟨rfl, f9⟩
        have HF9 := Lib.hid (G6.out.trans (HF8.out.trans f9 (fun _ _ q => q)) (fun _ _ q => q))
        clear k5 k6 f9
        have ho0 : (o != 0) = true := by simpa using HO0.out
        go_wp2_with fail
        go_ret
        exact ⟨rfl, HF9.out⟩
end Go.Proofs.YtiidnnpanickaaaGreatDoor
