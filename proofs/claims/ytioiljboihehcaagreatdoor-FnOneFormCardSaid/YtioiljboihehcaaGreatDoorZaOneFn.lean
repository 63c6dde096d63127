import Derived.Test.YtioiljboihehcaaGreatDoorZaFnFormX
import Derived.Test.YtioiljboihehcaaGreatDoorZaMinusP
import Derived.Test.YtioiljboihehcaaGreatDoorZaFnSum
import Derived.Test.YtioiljboihehcaaGreatDoorZaCompareP
import Derived.Test.YtioiljboihehcaaGreatDoorZaCanFormP
/- What the claim of FnOneFormCard needs of: OneFn. -/
namespace Go.Proofs.YtioiljboihehcaaGreatDoor

set_option linter.unusedVariables false

set_option linter.unusedSimpArgs false

open Go.RowKit

theorem minusFP {R S : Nat → Prop} {v1 v2 : Value} {Fi Gi F : List (List Int × List Int)} {w : World} {p ok : Bool} (h1 : NodeL R encI w v1 Fi) (h2 : NodeL S encI w v2 Gi) (hp : p = true ↔ goodI Fi ∧ goodI Gi ∧ Fi.length * Gi.length ≤ 1600) (hok : ok = (p && fitsB (minusN (natF Fi) (natF Gi)))) (hF : F = i2 (if ok = true then minusN (natF Fi) (natF Gi) else [])) :
    Calls Tryz.prog 31 #[.agg #[v1], .agg #[v2]] w fun e w' => FormPost ok F w e w' :=
  (minusFormsP_any v1 v2 Fi Gi w h1 h2 p hp ok hok).mono fun e w' h => FormPost.ofP hF h

theorem minusFR {R S : Nat → Prop} {v1 v2 : Value} {Fi Gi F : List (List Int × List Int)} {w : World} {p ok : Bool} (h1 : NodeL R encI w v1 Fi) (h2 : NodeL S encI w v2 Gi) (hp : p = true ↔ goodI Fi ∧ goodI Gi ∧ Fi.length * Gi.length ≤ 1600) (hok : ok = (p && fitsB (minusN (natF Fi) (natF Gi)))) (hF : F = i2 (if ok = true then minusN (natF Fi) (natF Gi) else [])) :
    Calls Tryz.prog 32 #[.agg #[v1], .agg #[v2]] w fun e w' => FormPost ok F w e w' :=
  (minusFormsR_any v1 v2 Fi Gi w h1 h2 p hp ok hok).mono fun e w' h => FormPost.ofR hF h

/-- CanonOf, of a good form whose canonical form fits. -/
theorem canFP {R : Nat → Prop} {nv : Value} {Fs Cs : List PL} {w : World} (h : NodeL R encI w nv (i2 Fs)) (hg : goodI (i2 Fs)) (hc : canN Fs = Cs) (hf : fitsB Cs = true) :
    Calls Tryz.prog 18 #[.agg #[nv]] w fun e w' => FormPost true (i2 Cs) w e w' := by
  have k := canFormP_any nv (i2 Fs) w h true (by simp [hg]) true (by rw [natF_i2, hc, hf]; rfl)
  rw [natF_i2, hc] at k
  exact k.mono fun e w' h => FormPost.ofP (FN := if true = true then Cs else []) rfl h

theorem i2_iff {Fs Gs : List PL} : i2 Fs = i2 Gs ↔ Fs = Gs := ⟨fun e => by rw [← natF_i2 Fs, e, natF_i2], fun e => by rw [e]⟩

theorem canN_same {Fs Gs : List PL} : canN Fs = canN Gs ↔ geC (codeF Fs) (codeF Gs) = true ∧ geC (codeF Gs) (codeF Fs) = true := by
  rw [← can_same]
  unfold canN
  exact ⟨fun e => by rw [← codeF_formOf (canC (codeF Fs)), e, codeF_formOf], fun e => by rw [e]⟩

/-- A form and nothing: their sum has the form's canonical form. -/
theorem canN_zero (Fs Gs : List PL) : canN (sumN Fs (minusN Gs Gs)) = canN Fs := by
  rw [canN_same]
  have h := ge_diff (codeF Gs) (codeF Gs)
  rw [geC_refl] at h
  have e : codeF (sumN Fs (minusN Gs Gs)) = sumC (codeF Fs) (sumC (codeF Gs) (negC (codeF Gs))) := by unfold sumN minusN; rw [codeF_formOf, codeF_formOf]
  rw [e]
  exact sum_zero h.1 h.2

theorem canN_len {Fs : List PL} (hg : goodI (i2 Fs)) : (canN Fs).length ≤ Fs.length := by
  have hi := can_is (codeF Fs)
  exact can_least hi.1 hi.2.2 hi.2.1 (good_form hg)

set_option maxRecDepth 8000 in
set_option maxHeartbeats 16000000 in
theorem fnOneForm_any (cv : Value) (L : List Int) (W0 : World) (h : CodeOK W0 cv L) : Calls Tryz.prog 8 #[cv] W0 fun e W' => e = .returned (.bool true) ∧ Fr NoM W0 W' := by
  obtain ⟨big, hbig⟩ : ∃ big, big = decide (65536 < L.length) := ⟨_, rfl⟩
  have hv := vBig_any cv L W0 h
  rw [← hbig] at hv
  have HV := Lib.hid hv; have HA := Lib.hid (vFormX_any cv L W0 h)
  have HC := Lib.hid h
  have HBig := Lib.hid (fun (e : big = false) => (by rw [hbig, decide_eq_false_iff_not] at e; omega : L.length ≤ 65536))
  have G0 := Lib.hid (Fr.refl NoM W0)
  obtain ⟨ca, cc, rfl, zz⟩ := id h.1
  clear zz h hbig hv
  go_enter Tryz.func8, Tryz.ntmps8
  go_wp2_with fail
  (with_reducible refine HV.out.mono ?_)
  rintro e x0 ⟨rfl, hx⟩
  have hx := hx.symm
  subst hx
  cases big with
  | true =>
    go_wp2_with fail
    go_ret
    exact ⟨rfl, G0.out⟩
  | false =>
    have HLb := Lib.hid (HBig.out rfl)
    clear HBig
    go_wp2_with fail
    (with_reducible refine HA.out.mono ?_)
    rintro e w1 ⟨v1, As, rfl, q1, ga, la, fa, f1⟩
    have HB := Lib.hid (vTwoX_any _ L w1 (HC.out.fr0 f1) HLb.out)
    have Q1 := Lib.hid q1; have F1 := Lib.hid f1; have HGa := Lib.hid ga; have HFa := Lib.hid fa
    obtain ⟨a1, c1, rfl, zz⟩ := id q1
    clear zz q1 f1 HA ga fa
    go_wp2_with fail
    (with_reducible refine HB.out.mono ?_)
    rintro e w2 ⟨v2, Bs, rfl, q2, gb, lb, fb, f2⟩
    have Q1 := Lib.hid (Q1.out.fr0 f2); have Q2 := Lib.hid q2; have F2 := Lib.hid (F1.out.trans f2 (fun _ _ q => q)); have HGb := Lib.hid gb; have HFb := Lib.hid fb
    obtain ⟨a2, c2, rfl, zz⟩ := id q2
    clear zz q2 f2 HB gb fb
    obtain ⟨V1, hV1⟩ : ∃ V1, V1 = w2.alloc (.cells #[.slice a1 (i2 As).length c1] 28) := ⟨_, rfl⟩
    obtain ⟨W2, hW2⟩ : ∃ W2, W2 = V1.alloc (.cells #[.slice a2 (i2 Bs).length c2] 28) := ⟨_, rfl⟩
    have e1 : Fr NoM w2 V1 := by rw [hV1]; exact (Fr.refl NoM w2).alloc _
    have e2 : Fr NoM V1 W2 := by rw [hW2]; exact (Fr.refl NoM V1).alloc _
    have s1 : V1.heap.size = w2.heap.size + 1 := by rw [hV1]; simp
    have b1 := (BoxI.made Q1.out hV1).fr0 e2
    have b2 := BoxI.made (Q2.out.fr0 e1) hW2
    rw [s1] at b2
    have B1 := Lib.hid b1; have B2 := Lib.hid b2
    have G2 := Lib.hid (F2.out.trans (e1.trans e2 (fun _ _ q => q)) (fun _ _ q => q))
    clear e1 e2 s1 b1 b2 Q1 Q2
    go_upto_region 4 with fail
    rw [← hV1, ← hW2]
    clear hV1 hW2
    have k2 := B2.out.cell
    obtain ⟨p, hp, _⟩ := pair_dec (i2 Bs) (i2 Bs)
    obtain ⟨ok, hok⟩ : ∃ ok, ok = (p && fitsB (minusN (natF (i2 Bs)) (natF (i2 Bs)))) := ⟨_, rfl⟩
    obtain ⟨FU, hFU⟩ : ∃ FU, FU = i2 (if ok = true then minusN (natF (i2 Bs)) (natF (i2 Bs)) else []) := ⟨_, rfl⟩
    obtain ⟨more, hmore⟩ : ∃ more, more = sumOk (i2 As) FU := ⟨_, rfl⟩
    obtain ⟨FG, hFG⟩ : ∃ FG, FG = i2 (if more = true then sumN (natF (i2 As)) (natF FU) else []) := ⟨_, rfl⟩
    have hsum : ok = true → more = true → FG = i2 (sumN As (minusN Bs Bs)) ∧ goodI (i2 (sumN As (minusN Bs Bs))) := fun e1 e2 => by
      have hu : FU = i2 (minusN Bs Bs) := by rw [hFU, e1, natF_i2]; rfl
      have h1 := sumOk_good (Fi := i2 As) (Gi := FU) (by rw [← hmore]; exact e2)
      rw [hu, natF_i2, natF_i2] at h1
      refine ⟨?_, h1⟩
      rw [hFG, e2, hu, natF_i2, natF_i2]; rfl
    have HP := Lib.hid hp; have HOk := Lib.hid hok; have HFU := Lib.hid hFU; have HMore := Lib.hid hmore; have HFG := Lib.hid hFG; have HSum := Lib.hid hsum
    obtain ⟨same, hsame⟩ : ∃ same, same = (geC (codeF As) (codeF Bs) && geC (codeF Bs) (codeF As)) := ⟨_, rfl⟩
    obtain ⟨FA, hFA⟩ : ∃ FA, FA = i2 (canN As) := ⟨_, rfl⟩
    obtain ⟨FC, hFC⟩ : ∃ FC, FC = i2 (canN Bs) := ⟨_, rfl⟩
    have hdec : decide (FA = FC) = same := by
      rw [hFA, hFC, hsame, Bool.eq_iff_iff, decide_eq_true_eq, i2_iff, canN_same, Bool.and_eq_true]
    have hlen : same = true → FA.length ≤ (i2 Bs).length := fun e => by
      rw [← hdec, decide_eq_true_eq] at e
      rw [e, hFC, i2_length, i2_length]
      exact canN_len HGb.out
    have HSame := Lib.hid hsame; have HFA := Lib.hid hFA; have HFC := Lib.hid hFC; have HDec := Lib.hid hdec; have HLen := Lib.hid hlen
    clear hp hok hFU hmore hFG hsum hsame hFA hFC hdec hlen
    go_wp2_with fail
    (with_reducible refine (minusFP B2.out.node B2.out.node HP.out HOk.out HFU.out).mono ?_)
    rintro e w3 ⟨v3, rfl, q3, f3⟩
    obtain ⟨a3, c3, rfl, zz⟩ := id q3
    obtain ⟨W3, hW3⟩ : ∃ W3, W3 = w3.alloc (.cells #[.slice a3 FU.length c3] 28) := ⟨_, rfl⟩
    have g3 : Fr NoM W2 W3 := f3.trans (show Fr NoM w3 W3 by rw [hW3]; exact (Fr.refl NoM w3).alloc _) (fun _ _ q => q)
    have B1 := Lib.hid (B1.out.fr0 g3)
    have B2 := Lib.hid (B2.out.fr0 g3)
    have B3 := Lib.hid (BoxI.made q3 hW3)
    have G3 := Lib.hid (G2.out.trans g3 (fun _ _ q => q))
    clear q3 f3 g3 zz
    clear k2
    go_upto_region 5 with fail
    rw [← hW3]
    clear hW3
    have k2 := B2.out.cell
    go_wp2_with fail
    (with_reducible refine (minusFR B2.out.node B2.out.node HP.out HOk.out HFU.out).mono ?_)
    rintro e w4 ⟨v4, rfl, q4, f4⟩
    obtain ⟨a4, c4, rfl, zz⟩ := id q4
    obtain ⟨W4, hW4⟩ : ∃ W4, W4 = w4.alloc (.cells #[.slice a4 FU.length c4] 28) := ⟨_, rfl⟩
    have g4 : Fr NoM W3 W4 := f4.trans (show Fr NoM w4 W4 by rw [hW4]; exact (Fr.refl NoM w4).alloc _) (fun _ _ q => q)
    have B1 := Lib.hid (B1.out.fr0 g4)
    have B2 := Lib.hid (B2.out.fr0 g4)
    have B3 := Lib.hid (B3.out.fr0 g4)
    have B4 := Lib.hid (BoxI.made q4 hW4)
    have G4 := Lib.hid (G3.out.trans g4 (fun _ _ q => q))
    clear q4 f4 g4 zz
    clear k2
    go_upto_region 6 with fail
    rw [← hW4]
    clear hW4
    have k3 := B3.out.cell
    have k4 := B4.out.cell
    go_wp2_with fail
    (with_reducible refine (vSame_true _ _ FU FU W4 B3.out.node B4.out.node rfl).mono ?_)
    rintro e x4 ⟨rfl, f4⟩
    have G4 := Lib.hid (G4.out.trans f4 (fun _ _ q => q))
    have B1 := Lib.hid (B1.out.fr0 f4)
    have B2 := Lib.hid (B2.out.fr0 f4)
    have B3 := Lib.hid (B3.out.fr0 f4)
    clear f4 k3 k4 B4
    obtain ⟨W4, rfl⟩ : ∃ W, W = x4 := ⟨_, rfl⟩
    have k1 := B1.out.cell
    have k3 := B3.out.cell
    go_wp2_with fail
    (with_reducible refine (vSum_any _ _ (i2 As) FU FG W4 B1.out.node B3.out.node more HMore.out HFG.out).mono ?_)
    rintro e w5 ⟨v5, rfl, q5, f5⟩
    obtain ⟨a5, c5, rfl, zz⟩ := id q5
    obtain ⟨W5, hW5⟩ : ∃ W5, W5 = w5.alloc (.cells #[.slice a5 FG.length c5] 28) := ⟨_, rfl⟩
    have g5 : Fr NoM W4 W5 := f5.trans (show Fr NoM w5 W5 by rw [hW5]; exact (Fr.refl NoM w5).alloc _) (fun _ _ q => q)
    have B1 := Lib.hid (B1.out.fr0 g5)
    have B2 := Lib.hid (B2.out.fr0 g5)
    have B5 := Lib.hid (BoxI.made q5 hW5)
    have G5 := Lib.hid (G4.out.trans g5 (fun _ _ q => q))
    clear q5 f5 g5 zz
    clear k1 k3
    go_upto_region 9 with fail
    rw [← hW5]
    clear hW5
    have k1 := B1.out.cell
    go_wp2_with fail
    (with_reducible refine (canFP B1.out.node HGa.out rfl HFa.out).mono ?_)
    rintro e w6 ⟨v6, rfl, q6, f6⟩
    rw [← HFA.out] at q6
    obtain ⟨a6, c6, rfl, zz⟩ := id q6
    obtain ⟨W6, hW6⟩ : ∃ W6, W6 = w6.alloc (.cells #[.slice a6 FA.length c6] 28) := ⟨_, rfl⟩
    have g6 : Fr NoM W5 W6 := f6.trans (show Fr NoM w6 W6 by rw [hW6]; exact (Fr.refl NoM w6).alloc _) (fun _ _ q => q)
    have B1 := Lib.hid (B1.out.fr0 g6)
    have B2 := Lib.hid (B2.out.fr0 g6)
    have B5 := Lib.hid (B5.out.fr0 g6)
    have B6 := Lib.hid (BoxI.made q6 hW6)
    have G6 := Lib.hid (G5.out.trans g6 (fun _ _ q => q))
    clear q6 f6 g6 zz
    clear k1
    go_upto_region 12 with fail
    rw [← hW6]
    clear hW6
    by_cases hc : ok = true ∧ more = true
    · obtain ⟨h1, h2⟩ := hc
      subst h1
      subst h2
      obtain ⟨hg1, hg2⟩ := HSum.out (by simp) (by simp)
      have hcan := canFP (R := fun b => W4.heap.size ≤ b) (nv := .slice a5 FG.length c5) (Fs := sumN As (minusN Bs Bs)) (Cs := canN As) (w := W6) (by rw [← hg1]; exact B5.out.node) hg2 (canN_zero As Bs) HFa.out
      rw [← HFA.out] at hcan
      have HCan := Lib.hid hcan
      clear hg1 hg2 hcan
      have k5 := B5.out.cell
      go_wp2_with fail
      (with_reducible refine HCan.out.mono ?_)
      rintro e w9 ⟨v9, rfl, q9, f9⟩
      obtain ⟨a9, c9, rfl, zz⟩ := id q9
      obtain ⟨W9, hW9⟩ : ∃ W9, W9 = w9.alloc (.cells #[.slice a9 FA.length c9] 28) := ⟨_, rfl⟩
      have g9 : Fr NoM W6 W9 := f9.trans (show Fr NoM w9 W9 by rw [hW9]; exact (Fr.refl NoM w9).alloc _) (fun _ _ q => q)
      have B1 := Lib.hid (B1.out.fr0 g9)
      have B2 := Lib.hid (B2.out.fr0 g9)
      have B6 := Lib.hid (B6.out.fr0 g9)
      have B9 := Lib.hid (BoxI.made q9 hW9)
      have G9 := Lib.hid (G6.out.trans g9 (fun _ _ q => q))
      clear q9 f9 g9 zz
      clear k5
      go_upto_region 14 with fail
      rw [← hW9]
      clear hW9
      have k6 := B6.out.cell
      have k9 := B9.out.cell
      go_wp2_with fail
      (with_reducible refine (vSame_true _ _ FA FA W9 B6.out.node B9.out.node rfl).mono ?_)
      rintro e x9 ⟨rfl, f9⟩
      have G6 := Lib.hid (G9.out.trans f9 (fun _ _ q => q))
      have B1 := Lib.hid (B1.out.fr0 f9)
      have B2 := Lib.hid (B2.out.fr0 f9)
      have B6 := Lib.hid (B6.out.fr0 f9)
      clear f9 k6 k9 B9 B5
      obtain ⟨W6, rfl⟩ : ∃ W, W = x9 := ⟨_, rfl⟩
      have k1 := B1.out.cell
      have k2 := B2.out.cell
      go_wp2_with fail
      (with_reducible refine (equalP_any _ _ As Bs W6 B1.out.node B2.out.node HGa.out HGb.out).mono ?_)
      rintro e x7 ⟨rfl, f7⟩
      rw [← HSame.out]
      have G6 := Lib.hid (G6.out.trans f7 (fun _ _ q => q))
      have B2 := Lib.hid (B2.out.fr0 f7)
      have B6 := Lib.hid (B6.out.fr0 f7)
      clear f7 k1 k2
      obtain ⟨W6, rfl⟩ : ∃ W, W = x7 := ⟨_, rfl⟩
      have k2 := B2.out.cell
      go_wp2_with fail
      (with_reducible refine (canFP B2.out.node HGb.out rfl HFb.out).mono ?_)
      rintro e w7 ⟨v7, rfl, q7, f7⟩
      rw [← HFC.out] at q7
      obtain ⟨a7, c7, rfl, zz⟩ := id q7
      obtain ⟨W7, hW7⟩ : ∃ W7, W7 = w7.alloc (.cells #[.slice a7 FC.length c7] 28) := ⟨_, rfl⟩
      have g7 : Fr NoM W6 W7 := f7.trans (show Fr NoM w7 W7 by rw [hW7]; exact (Fr.refl NoM w7).alloc _) (fun _ _ q => q)
      have B2 := Lib.hid (B2.out.fr0 g7)
      have B6 := Lib.hid (B6.out.fr0 g7)
      have B7 := Lib.hid (BoxI.made q7 hW7)
      have G7 := Lib.hid (G6.out.trans g7 (fun _ _ q => q))
      clear q7 f7 g7 zz
      clear k2
      go_upto_region 18 with fail
      rw [← hW7]
      clear hW7
      have k2 := B2.out.cell
      have k6 := B6.out.cell
      have k7 := B7.out.cell
      have hvs := vSame_any _ _ FA FC W7 B6.out.node B7.out.node
      rw [HDec.out] at hvs
      have HVs := Lib.hid hvs
      clear hvs
      go_wp2_with fail
      (with_reducible refine HVs.out.mono ?_)
      rintro e w8 ⟨rfl, f8⟩
      have G8 := Lib.hid (G7.out.trans f8 (fun _ _ q => q))
      have B2 := Lib.hid (B2.out.fr0 f8)
      have B6 := Lib.hid (B6.out.fr0 f8)
      clear f8 k2 k6 k7
      have k2 := B2.out.cell
      have k6 := B6.out.cell
      cases same with
      | false =>
        go_wp2_with fail
        go_ret
        exact ⟨rfl, G8.out⟩
      | true =>
        have hl := HLen.out (by simp)
        have hl2 : (FA.length : Int) ≤ ((i2 Bs).length : Int) := by omega
        clear hl
        go_wp2_with fail
        go_ret
        exact ⟨rfl, G8.out⟩
    · cases ok with
      | false =>
        have k1 := B1.out.cell
        have k2 := B2.out.cell
        go_wp2_with fail
        (with_reducible refine (equalP_any _ _ As Bs W6 B1.out.node B2.out.node HGa.out HGb.out).mono ?_)
        rintro e x7 ⟨rfl, f7⟩
        rw [← HSame.out]
        have G6 := Lib.hid (G6.out.trans f7 (fun _ _ q => q))
        have B2 := Lib.hid (B2.out.fr0 f7)
        have B6 := Lib.hid (B6.out.fr0 f7)
        clear f7 k1 k2
        obtain ⟨W6, rfl⟩ : ∃ W, W = x7 := ⟨_, rfl⟩
        have k2 := B2.out.cell
        go_wp2_with fail
        (with_reducible refine (canFP B2.out.node HGb.out rfl HFb.out).mono ?_)
        rintro e w7 ⟨v7, rfl, q7, f7⟩
        rw [← HFC.out] at q7
        obtain ⟨a7, c7, rfl, zz⟩ := id q7
        obtain ⟨W7, hW7⟩ : ∃ W7, W7 = w7.alloc (.cells #[.slice a7 FC.length c7] 28) := ⟨_, rfl⟩
        have g7 : Fr NoM W6 W7 := f7.trans (show Fr NoM w7 W7 by rw [hW7]; exact (Fr.refl NoM w7).alloc _) (fun _ _ q => q)
        have B2 := Lib.hid (B2.out.fr0 g7)
        have B6 := Lib.hid (B6.out.fr0 g7)
        have B7 := Lib.hid (BoxI.made q7 hW7)
        have G7 := Lib.hid (G6.out.trans g7 (fun _ _ q => q))
        clear q7 f7 g7 zz
        clear k2
        go_upto_region 18 with fail
        rw [← hW7]
        clear hW7
        have k2 := B2.out.cell
        have k6 := B6.out.cell
        have k7 := B7.out.cell
        have hvs := vSame_any _ _ FA FC W7 B6.out.node B7.out.node
        rw [HDec.out] at hvs
        have HVs := Lib.hid hvs
        clear hvs
        go_wp2_with fail
        (with_reducible refine HVs.out.mono ?_)
        rintro e w8 ⟨rfl, f8⟩
        have G8 := Lib.hid (G7.out.trans f8 (fun _ _ q => q))
        have B2 := Lib.hid (B2.out.fr0 f8)
        have B6 := Lib.hid (B6.out.fr0 f8)
        clear f8 k2 k6 k7
        have k2 := B2.out.cell
        have k6 := B6.out.cell
        cases same with
        | false =>
          go_wp2_with fail
          go_ret
          exact ⟨rfl, G8.out⟩
        | true =>
          have hl := HLen.out (by simp)
          have hl2 : (FA.length : Int) ≤ ((i2 Bs).length : Int) := by omega
          clear hl
          go_wp2_with fail
          go_ret
          exact ⟨rfl, G8.out⟩
      | true =>
        have hm : more = false := by
          cases more with
          | false => rfl
          | true => exact absurd ⟨rfl, rfl⟩ hc
        subst hm
        clear hc
        have k1 := B1.out.cell
        have k2 := B2.out.cell
        go_wp2_with fail
        (with_reducible refine (equalP_any _ _ As Bs W6 B1.out.node B2.out.node HGa.out HGb.out).mono ?_)
        rintro e x7 ⟨rfl, f7⟩
        rw [← HSame.out]
        have G6 := Lib.hid (G6.out.trans f7 (fun _ _ q => q))
        have B2 := Lib.hid (B2.out.fr0 f7)
        have B6 := Lib.hid (B6.out.fr0 f7)
        clear f7 k1 k2
        obtain ⟨W6, rfl⟩ : ∃ W, W = x7 := ⟨_, rfl⟩
        have k2 := B2.out.cell
        go_wp2_with fail
        (with_reducible refine (canFP B2.out.node HGb.out rfl HFb.out).mono ?_)
        rintro e w7 ⟨v7, rfl, q7, f7⟩
        rw [← HFC.out] at q7
        obtain ⟨a7, c7, rfl, zz⟩ := id q7
        obtain ⟨W7, hW7⟩ : ∃ W7, W7 = w7.alloc (.cells #[.slice a7 FC.length c7] 28) := ⟨_, rfl⟩
        have g7 : Fr NoM W6 W7 := f7.trans (show Fr NoM w7 W7 by rw [hW7]; exact (Fr.refl NoM w7).alloc _) (fun _ _ q => q)
        have B2 := Lib.hid (B2.out.fr0 g7)
        have B6 := Lib.hid (B6.out.fr0 g7)
        have B7 := Lib.hid (BoxI.made q7 hW7)
        have G7 := Lib.hid (G6.out.trans g7 (fun _ _ q => q))
        clear q7 f7 g7 zz
        clear k2
        go_upto_region 18 with fail
        rw [← hW7]
        clear hW7
        have k2 := B2.out.cell
        have k6 := B6.out.cell
        have k7 := B7.out.cell
        have hvs := vSame_any _ _ FA FC W7 B6.out.node B7.out.node
        rw [HDec.out] at hvs
        have HVs := Lib.hid hvs
        clear hvs
        go_wp2_with fail
        (with_reducible refine HVs.out.mono ?_)
        rintro e w8 ⟨rfl, f8⟩
        have G8 := Lib.hid (G7.out.trans f8 (fun _ _ q => q))
        have B2 := Lib.hid (B2.out.fr0 f8)
        have B6 := Lib.hid (B6.out.fr0 f8)
        clear f8 k2 k6 k7
        have k2 := B2.out.cell
        have k6 := B6.out.cell
        cases same with
        | false =>
          go_wp2_with fail
          go_ret
          exact ⟨rfl, G8.out⟩
        | true =>
          have hl := HLen.out (by simp)
          have hl2 : (FA.length : Int) ≤ ((i2 Bs).length : Int) := by omega
          clear hl
          go_wp2_with fail
          go_ret
          exact ⟨rfl, G8.out⟩

end Go.Proofs.YtioiljboihehcaaGreatDoor
