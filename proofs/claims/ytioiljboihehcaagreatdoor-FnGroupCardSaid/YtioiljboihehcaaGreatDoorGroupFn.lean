/- The walk of laws.FnGroup: it returns true for every code. -/
import Derived.Test.YtioiljboihehcaaGreatDoorFnForm
import Derived.Test.YtioiljboihehcaaGreatDoorFnSum
import Derived.Test.YtioiljboihehcaaGreatDoorWinsP
import Derived.Test.YtioiljboihehcaaGreatDoorGroupLaw
namespace Go.Proofs.YtioiljboihehcaaGreatDoor
set_option linter.unusedVariables false
set_option linter.unusedSimpArgs false
open Go.RowKit

theorem sumOk_comm (Fi Gi : List (List Int × List Int)) : sumOk Fi Gi = sumOk Gi Fi := by
  rw [Bool.eq_iff_iff, sumOk_iff, sumOk_iff, sumN_comm, Nat.mul_comm]
  exact ⟨fun h => ⟨h.2.1, h.1, h.2.2⟩, fun h => ⟨h.2.1, h.1, h.2.2⟩⟩
/-- A game and its negative are 0 together. -/
theorem sum_neg_out (Fs : List PL) : outW (!geC zeroC (codeF (sumN Fs (negN Fs)))) (!geC (codeF (sumN Fs (negN Fs))) zeroC) = 4 := by
  have h := ge_diff (codeF Fs) (codeF Fs)
  rw [geC_refl] at h
  have e : codeF (sumN Fs (negN Fs)) = sumC (codeF Fs) (negC (codeF Fs)) := by unfold sumN negN; rw [codeF_formOf, codeF_formOf]
  rw [e, h.1, h.2]
  rfl
set_option maxRecDepth 8000 in
set_option maxHeartbeats 16000000 in
theorem fnGroup_any (cv : Value) (L : List Int) (W0 : World) (h : CodeOK W0 cv L) : Calls Tryz.prog 6 #[cv] W0 fun e W' => e = .returned (.bool true) ∧ Fr NoM W0 W' := by
  obtain ⟨big, hbig⟩ : ∃ big, big = decide (65536 < L.length) := ⟨_, rfl⟩
  have hv := vBig_any cv L W0 h
  rw [← hbig] at hv
  have HV := Lib.hid hv; have HA := Lib.hid (vForm_any cv L W0 h)
  have HC := Lib.hid h
  have HBig := Lib.hid (fun (e : big = false) => (by rw [hbig, decide_eq_false_iff_not] at e; omega : L.length ≤ 65536))
  have G0 := Lib.hid (Fr.refl NoM W0)
  obtain ⟨ca, cc, rfl, zz⟩ := id h.1
  clear zz h hbig hv
  go_enter Tryz.func6, Tryz.ntmps6
  go_wp2_with fail
  (with_reducible refine HV.out.mono ?_)
  rintro e x0 ⟨rfl, hx⟩
  have hx := hx.symm
  subst hx
  cases big with
  | true =>
    go_wp2_with fail
    go_ret
    exact ⟨rfl, G0.out⟩
  | false =>
    have HLb := Lib.hid (HBig.out rfl)
    clear HBig
    go_wp2_with fail
    (with_reducible refine HA.out.mono ?_)
    rintro e w1 ⟨v1, As, rfl, q1, ga, la, f1⟩
    have HB := Lib.hid (vTwo_any _ L w1 (HC.out.fr0 f1) HLb.out)
    have HCut := Lib.hid (fun (W : World) (f : Fr NoM w1 W) => vCut_any 3 ⟨by omega, by omega⟩ _ L W ((HC.out.fr0 f1).fr0 f) HLb.out)
    have Q1 := Lib.hid q1; have F1 := Lib.hid f1
    obtain ⟨a1, c1, rfl, zz⟩ := id q1
    clear zz q1 f1 HA
    go_wp2_with fail
    (with_reducible refine HB.out.mono ?_)
    rintro e w2 ⟨v2, Bs, rfl, q2, gb, lb, f2⟩
    have hcut := HCut.out w2 f2
    rw [show ((3 : Nat) : Int) = 3 from rfl] at hcut
    have HCut := Lib.hid hcut
    have Q1 := Lib.hid (Q1.out.fr0 f2); have Q2 := Lib.hid q2; have F2 := Lib.hid (F1.out.trans f2 (fun _ _ q => q))
    obtain ⟨a2, c2, rfl, zz⟩ := id q2
    clear zz q2 f2 hcut HB
    go_wp2_with fail
    (with_reducible refine HCut.out.mono ?_)
    rintro e w3 ⟨v3, L3, rfl, c3', f3⟩
    have HN := Lib.hid (drawNeg_any v3 L3 w3 c3')
    have Q1 := Lib.hid (Q1.out.fr0 f3); have Q2 := Lib.hid (Q2.out.fr0 f3); have F3 := Lib.hid (F2.out.trans f3 (fun _ _ q => q))
    obtain ⟨c3a, c3c, rfl, zz⟩ := id c3'.1
    clear zz c3' f3 HCut
    go_wp2_with fail
    (with_reducible refine HN.out.mono ?_)
    rintro e w4 ⟨v4, Fi, rfl, q4, f4⟩
    have Q1 := Lib.hid (Q1.out.fr0 f4); have Q2 := Lib.hid (Q2.out.fr0 f4); have F4 := Lib.hid (F3.out.trans f4 (fun _ _ q => q))
    have Q4 := Lib.hid q4
    obtain ⟨a4, c4, rfl, zz⟩ := id q4
    clear zz q4 f4 HN
    obtain ⟨V1, hV1⟩ : ∃ V1, V1 = w4.alloc (.cells #[.slice a1 (i2 As).length c1] 28) := ⟨_, rfl⟩
    obtain ⟨V2, hV2⟩ : ∃ V2, V2 = V1.alloc (.cells #[.slice a2 (i2 Bs).length c2] 28) := ⟨_, rfl⟩
    obtain ⟨W4, hW4⟩ : ∃ W4, W4 = V2.alloc (.cells #[.slice a4 Fi.length c4] 28) := ⟨_, rfl⟩
    have e1 : Fr NoM w4 V1 := by rw [hV1]; exact (Fr.refl NoM w4).alloc _
    have e2 : Fr NoM V1 V2 := by rw [hV2]; exact (Fr.refl NoM V1).alloc _
    have e3 : Fr NoM V2 W4 := by rw [hW4]; exact (Fr.refl NoM V2).alloc _
    have s1 : V1.heap.size = w4.heap.size + 1 := by rw [hV1]; simp
    have s2 : V2.heap.size = w4.heap.size + 1 + 1 := by rw [hV2, World.size_alloc, s1]
    have b1 := ((BoxI.made Q1.out hV1).fr0 e2).fr0 e3
    have b2 := (BoxI.made (Q2.out.fr0 e1) hV2).fr0 e3
    have b3 := BoxI.made ((Q4.out.fr0 e1).fr0 e2) hW4
    rw [s1] at b2
    rw [s2] at b3
    have B1 := Lib.hid b1; have B2 := Lib.hid b2; have B3 := Lib.hid b3
    have G4 := Lib.hid (F4.out.trans ((e1.trans e2 (fun _ _ q => q)).trans e3 (fun _ _ q => q)) (fun _ _ q => q))
    clear e1 e2 e3 s1 s2 b1 b2 b3 Q1 Q2 Q4
    go_upto_region 4 with fail
    rw [← hV1, ← hV2, ← hW4]
    clear hV1 hV2 hW4
    have k1 := B1.out.cell
    have k2 := B2.out.cell
    obtain ⟨one, hone⟩ : ∃ one, one = sumOk (i2 As) (i2 Bs) := ⟨_, rfl⟩
    obtain ⟨FU, hFU⟩ : ∃ FU, FU = i2 (if one = true then sumN (natF (i2 As)) (natF (i2 Bs)) else []) := ⟨_, rfl⟩
    have HOne := Lib.hid hone; have HFU := Lib.hid hFU
    have HOne2 := Lib.hid (show one = sumOk (i2 Bs) (i2 As) by rw [sumOk_comm]; exact hone)
    have HFU2 := Lib.hid (show FU = i2 (if one = true then sumN (natF (i2 Bs)) (natF (i2 As)) else []) by rw [sumN_comm]; exact hFU)
    clear hone hFU
    go_wp2_with fail
    (with_reducible refine (vSum_any _ _ (i2 As) (i2 Bs) FU W4 B1.out.node B2.out.node one HOne.out HFU.out).mono ?_)
    rintro e w5 ⟨v5, rfl, q5, f5⟩
    obtain ⟨a5, c5, rfl, zz⟩ := id q5
    obtain ⟨W5, hW5⟩ : ∃ W5, W5 = w5.alloc (.cells #[.slice a5 FU.length c5] 28) := ⟨_, rfl⟩
    have g5 : Fr NoM W4 W5 := f5.trans (show Fr NoM w5 W5 by rw [hW5]; exact (Fr.refl NoM w5).alloc _) (fun _ _ q => q)
    have B1 := Lib.hid (B1.out.fr0 g5)
    have B2 := Lib.hid (B2.out.fr0 g5)
    have B3 := Lib.hid (B3.out.fr0 g5)
    have B5 := Lib.hid (BoxI.made q5 hW5)
    have G5 := Lib.hid (G4.out.trans g5 (fun _ _ q => q))
    clear q5 f5 g5 zz
    clear k1 k2
    go_upto_region 5 with fail
    rw [← hW5]
    clear hW5
    have k1 := B1.out.cell
    have k2 := B2.out.cell
    go_wp2_with fail
    (with_reducible refine (vSum_any _ _ (i2 Bs) (i2 As) FU W5 B2.out.node B1.out.node one HOne2.out HFU2.out).mono ?_)
    rintro e w6 ⟨v6, rfl, q6, f6⟩
    obtain ⟨a6, c6, rfl, zz⟩ := id q6
    obtain ⟨W6, hW6⟩ : ∃ W6, W6 = w6.alloc (.cells #[.slice a6 FU.length c6] 28) := ⟨_, rfl⟩
    have g6 : Fr NoM W5 W6 := f6.trans (show Fr NoM w6 W6 by rw [hW6]; exact (Fr.refl NoM w6).alloc _) (fun _ _ q => q)
    have B3 := Lib.hid (B3.out.fr0 g6)
    have B5 := Lib.hid (B5.out.fr0 g6)
    have B6 := Lib.hid (BoxI.made q6 hW6)
    have G6 := Lib.hid (G5.out.trans g6 (fun _ _ q => q))
    clear q6 f6 g6 zz
    clear k1 k2
    go_upto_region 6 with fail
    rw [← hW6]
    clear hW6
    have k5 := B5.out.cell
    have k6 := B6.out.cell
    obtain ⟨g, hg⟩ := good_dec Fi
    obtain ⟨FN, hFN⟩ : ∃ FN, FN = i2 (if g = true then negN (natF Fi) else []) := ⟨_, rfl⟩
    have HG := Lib.hid hg; have HFN := Lib.hid hFN
    clear hg hFN
    have HVs := Lib.hid (vSame_true _ _ FU FU W6 B5.out.node B6.out.node rfl)
    have hpass : ∀ (Q : World → Prop) (x : World), Fr NoM W6 x → True := fun _ _ _ => trivial
    clear hpass
    cases one with
    | false =>
      clear k5 k6
      have k3 := B3.out.cell
      go_wp2_with fail
      (with_reducible refine (negFP B3.out.node HG.out HFN.out).mono ?_)
      rintro e w7 ⟨v7, rfl, q7, f7⟩
      obtain ⟨a7, c7, rfl, zz⟩ := id q7
      obtain ⟨W7, hW7⟩ : ∃ W7, W7 = w7.alloc (.cells #[.slice a7 FN.length c7] 28) := ⟨_, rfl⟩
      have g7 : Fr NoM W6 W7 := f7.trans (show Fr NoM w7 W7 by rw [hW7]; exact (Fr.refl NoM w7).alloc _) (fun _ _ q => q)
      have B3 := Lib.hid (B3.out.fr0 g7)
      have B7 := Lib.hid (BoxI.made q7 hW7)
      have G7 := Lib.hid (G6.out.trans g7 (fun _ _ q => q))
      clear q7 f7 g7 zz
      clear k3
      go_upto_region 9 with fail
      rw [← hW7]
      clear hW7
      have k3 := B3.out.cell
      go_wp2_with fail
      (with_reducible refine (negFR B3.out.node HG.out HFN.out).mono ?_)
      rintro e w8 ⟨v8, rfl, q8, f8⟩
      obtain ⟨a8, c8, rfl, zz⟩ := id q8
      obtain ⟨W8, hW8⟩ : ∃ W8, W8 = w8.alloc (.cells #[.slice a8 FN.length c8] 28) := ⟨_, rfl⟩
      have g8 : Fr NoM W7 W8 := f8.trans (show Fr NoM w8 W8 by rw [hW8]; exact (Fr.refl NoM w8).alloc _) (fun _ _ q => q)
      have B3 := Lib.hid (B3.out.fr0 g8)
      have B7 := Lib.hid (B7.out.fr0 g8)
      have B8 := Lib.hid (BoxI.made q8 hW8)
      have G8 := Lib.hid (G7.out.trans g8 (fun _ _ q => q))
      clear q8 f8 g8 zz
      clear k3
      go_upto_region 10 with fail
      rw [← hW8]
      clear hW8
      have k7 := B7.out.cell
      have k8 := B8.out.cell
      go_wp2_with fail
      (with_reducible refine (vSame_true _ _ FN FN W8 B7.out.node B8.out.node rfl).mono ?_)
      rintro e x8 ⟨rfl, f8⟩
      have G8 := Lib.hid (G8.out.trans f8 (fun _ _ q => q))
      have B3 := Lib.hid (B3.out.fr0 f8)
      have B7 := Lib.hid (B7.out.fr0 f8)
      clear f8 k7 k8 B8
      obtain ⟨W8, rfl⟩ : ∃ W, W = x8 := ⟨_, rfl⟩
      cases g with
      | false =>
        go_wp2_with fail
        go_ret
        exact ⟨rfl, G8.out⟩
      | true =>
        have hgd := HG.out.1 rfl
        obtain ⟨Fs, rfl⟩ := goodI_nat hgd
        have hfn : FN = i2 (negN Fs) := by rw [HFN.out, natF_i2]; rfl
        obtain ⟨_, hng⟩ := negN_good hgd
        obtain ⟨FB, hFB⟩ : ∃ FB, FB = i2 (if true = true then negN (natF FN) else []) := ⟨_, rfl⟩
        have hback : FB = i2 Fs := by rw [hFB, hfn, natF_i2]; simp only [if_true]; rw [negN_negN hgd]
        obtain ⟨told, htold⟩ : ∃ told, told = sumOk (i2 Fs) FN := ⟨_, rfl⟩
        obtain ⟨FZ, hFZ⟩ : ∃ FZ, FZ = i2 (if told = true then sumN (natF (i2 Fs)) (natF FN) else []) := ⟨_, rfl⟩
        have hout : told = true → FZ = i2 (sumN Fs (negN Fs)) ∧ goodI (i2 (sumN Fs (negN Fs))) := fun e => by
          have h1 := sumOk_good (Fi := i2 Fs) (Gi := FN) (by rw [← htold]; exact e)
          rw [hfn, natF_i2, natF_i2] at h1
          refine ⟨?_, h1⟩
          rw [hFZ, e, hfn, natF_i2, natF_i2]; rfl
        have HGN := Lib.hid (show goodI FN from by rw [hfn]; exact hng)
        have HFB := Lib.hid hFB; have HBack := Lib.hid hback; have HTold := Lib.hid htold; have HFZ := Lib.hid hFZ; have HOut := Lib.hid hout
        clear hgd hfn hng hFB hback htold hFZ hout
        have k7 := B7.out.cell
        go_wp2_with fail
        (with_reducible refine (negFP (g := true) B7.out.node ⟨fun _ => HGN.out, fun _ => rfl⟩ HFB.out).mono ?_)
        rintro e w9 ⟨v9, rfl, q9, f9⟩
        obtain ⟨a9, c9, rfl, zz⟩ := id q9
        obtain ⟨W9, hW9⟩ : ∃ W9, W9 = w9.alloc (.cells #[.slice a9 FB.length c9] 28) := ⟨_, rfl⟩
        have g9 : Fr NoM W8 W9 := f9.trans (show Fr NoM w9 W9 by rw [hW9]; exact (Fr.refl NoM w9).alloc _) (fun _ _ q => q)
        have B3 := Lib.hid (B3.out.fr0 g9)
        have B7 := Lib.hid (B7.out.fr0 g9)
        have B9 := Lib.hid (BoxI.made q9 hW9)
        have G9 := Lib.hid (G8.out.trans g9 (fun _ _ q => q))
        clear q9 f9 g9 zz
        clear k7
        go_upto_region 15 with fail
        rw [← hW9]
        clear hW9
        have k3 := B3.out.cell
        have k7 := B7.out.cell
        go_wp2_with fail
        (with_reducible refine (sumFP B3.out.node B7.out.node HTold.out HFZ.out).mono ?_)
        rintro e w10 ⟨v10, rfl, q10, f10⟩
        obtain ⟨a10, c10, rfl, zz⟩ := id q10
        obtain ⟨W10, hW10⟩ : ∃ W10, W10 = w10.alloc (.cells #[.slice a10 FZ.length c10] 28) := ⟨_, rfl⟩
        have g10 : Fr NoM W9 W10 := f10.trans (show Fr NoM w10 W10 by rw [hW10]; exact (Fr.refl NoM w10).alloc _) (fun _ _ q => q)
        have B3 := Lib.hid (B3.out.fr0 g10)
        have B9 := Lib.hid (B9.out.fr0 g10)
        have B10 := Lib.hid (BoxI.made q10 hW10)
        have G10 := Lib.hid (G9.out.trans g10 (fun _ _ q => q))
        clear q10 f10 g10 zz
        clear k3 k7
        go_upto_region 16 with fail
        rw [← hW10]
        clear hW10
        cases told with
        | false =>
          have k9 := B9.out.cell
          have k3 := B3.out.cell
          go_wp2_with fail
          (with_reducible refine (vSame_true _ _ FB (i2 Fs) W10 B9.out.node B3.out.node HBack.out).mono ?_)
          rintro e w11 ⟨rfl, f11⟩
          go_wp2_with fail
          go_ret
          exact ⟨rfl, G10.out.trans f11 (fun _ _ q => q)⟩
        | true =>
          obtain ⟨hz1, hz2⟩ := HOut.out (by simp)
          have HB10 := Lib.hid (show NodeL _ encI W10 _ (i2 (sumN Fs (negN Fs))) from by rw [← hz1]; exact B10.out.node)
          have hoc := outcomeP_any _ (sumN Fs (negN Fs)) W10 HB10.out hz2
          rw [sum_neg_out] at hoc
          have HOc := Lib.hid hoc
          clear hz1 hz2 hoc
          have k10 := B10.out.cell
          go_wp2_with fail
          (with_reducible refine HOc.out.mono ?_)
          rintro e w11 ⟨rfl, f11⟩
          have B9 := Lib.hid (B9.out.fr0 f11)
          have B3 := Lib.hid (B3.out.fr0 f11)
          have G11 := Lib.hid (G10.out.trans f11 (fun _ _ q => q))
          clear k10 f11
          have k9 := B9.out.cell
          have k3 := B3.out.cell
          go_wp2_with fail
          (with_reducible refine (vSame_true _ _ FB (i2 Fs) w11 B9.out.node B3.out.node HBack.out).mono ?_)
          rintro e w12 ⟨rfl, f12⟩
          go_wp2_with fail
          go_ret
          exact ⟨rfl, G11.out.trans f12 (fun _ _ q => q)⟩
    | true =>
      go_wp2_with fail
      (with_reducible refine HVs.out.mono ?_)
      rintro e x6 ⟨rfl, f6⟩
      have G6 := Lib.hid (G6.out.trans f6 (fun _ _ q => q))
      have B3 := Lib.hid (B3.out.fr0 f6)
      clear f6 k5 k6 HVs B5 B6
      obtain ⟨W6, rfl⟩ : ∃ W, W = x6 := ⟨_, rfl⟩
      have k3 := B3.out.cell
      go_wp2_with fail
      (with_reducible refine (negFP B3.out.node HG.out HFN.out).mono ?_)
      rintro e w7 ⟨v7, rfl, q7, f7⟩
      obtain ⟨a7, c7, rfl, zz⟩ := id q7
      obtain ⟨W7, hW7⟩ : ∃ W7, W7 = w7.alloc (.cells #[.slice a7 FN.length c7] 28) := ⟨_, rfl⟩
      have g7 : Fr NoM W6 W7 := f7.trans (show Fr NoM w7 W7 by rw [hW7]; exact (Fr.refl NoM w7).alloc _) (fun _ _ q => q)
      have B3 := Lib.hid (B3.out.fr0 g7)
      have B7 := Lib.hid (BoxI.made q7 hW7)
      have G7 := Lib.hid (G6.out.trans g7 (fun _ _ q => q))
      clear q7 f7 g7 zz
      clear k3
      go_upto_region 9 with fail
      rw [← hW7]
      clear hW7
      have k3 := B3.out.cell
      go_wp2_with fail
      (with_reducible refine (negFR B3.out.node HG.out HFN.out).mono ?_)
      rintro e w8 ⟨v8, rfl, q8, f8⟩
      obtain ⟨a8, c8, rfl, zz⟩ := id q8
      obtain ⟨W8, hW8⟩ : ∃ W8, W8 = w8.alloc (.cells #[.slice a8 FN.length c8] 28) := ⟨_, rfl⟩
      have g8 : Fr NoM W7 W8 := f8.trans (show Fr NoM w8 W8 by rw [hW8]; exact (Fr.refl NoM w8).alloc _) (fun _ _ q => q)
      have B3 := Lib.hid (B3.out.fr0 g8)
      have B7 := Lib.hid (B7.out.fr0 g8)
      have B8 := Lib.hid (BoxI.made q8 hW8)
      have G8 := Lib.hid (G7.out.trans g8 (fun _ _ q => q))
      clear q8 f8 g8 zz
      clear k3
      go_upto_region 10 with fail
      rw [← hW8]
      clear hW8
      have k7 := B7.out.cell
      have k8 := B8.out.cell
      go_wp2_with fail
      (with_reducible refine (vSame_true _ _ FN FN W8 B7.out.node B8.out.node rfl).mono ?_)
      rintro e x8 ⟨rfl, f8⟩
      have G8 := Lib.hid (G8.out.trans f8 (fun _ _ q => q))
      have B3 := Lib.hid (B3.out.fr0 f8)
      have B7 := Lib.hid (B7.out.fr0 f8)
      clear f8 k7 k8 B8
      obtain ⟨W8, rfl⟩ : ∃ W, W = x8 := ⟨_, rfl⟩
      cases g with
      | false =>
        go_wp2_with fail
        go_ret
        exact ⟨rfl, G8.out⟩
      | true =>
        have hgd := HG.out.1 rfl
        obtain ⟨Fs, rfl⟩ := goodI_nat hgd
        have hfn : FN = i2 (negN Fs) := by rw [HFN.out, natF_i2]; rfl
        obtain ⟨_, hng⟩ := negN_good hgd
        obtain ⟨FB, hFB⟩ : ∃ FB, FB = i2 (if true = true then negN (natF FN) else []) := ⟨_, rfl⟩
        have hback : FB = i2 Fs := by rw [hFB, hfn, natF_i2]; simp only [if_true]; rw [negN_negN hgd]
        obtain ⟨told, htold⟩ : ∃ told, told = sumOk (i2 Fs) FN := ⟨_, rfl⟩
        obtain ⟨FZ, hFZ⟩ : ∃ FZ, FZ = i2 (if told = true then sumN (natF (i2 Fs)) (natF FN) else []) := ⟨_, rfl⟩
        have hout : told = true → FZ = i2 (sumN Fs (negN Fs)) ∧ goodI (i2 (sumN Fs (negN Fs))) := fun e => by
          have h1 := sumOk_good (Fi := i2 Fs) (Gi := FN) (by rw [← htold]; exact e)
          rw [hfn, natF_i2, natF_i2] at h1
          refine ⟨?_, h1⟩
          rw [hFZ, e, hfn, natF_i2, natF_i2]; rfl
        have HGN := Lib.hid (show goodI FN from by rw [hfn]; exact hng)
        have HFB := Lib.hid hFB; have HBack := Lib.hid hback; have HTold := Lib.hid htold; have HFZ := Lib.hid hFZ; have HOut := Lib.hid hout
        clear hgd hfn hng hFB hback htold hFZ hout
        have k7 := B7.out.cell
        go_wp2_with fail
        (with_reducible refine (negFP (g := true) B7.out.node ⟨fun _ => HGN.out, fun _ => rfl⟩ HFB.out).mono ?_)
        rintro e w9 ⟨v9, rfl, q9, f9⟩
        obtain ⟨a9, c9, rfl, zz⟩ := id q9
        obtain ⟨W9, hW9⟩ : ∃ W9, W9 = w9.alloc (.cells #[.slice a9 FB.length c9] 28) := ⟨_, rfl⟩
        have g9 : Fr NoM W8 W9 := f9.trans (show Fr NoM w9 W9 by rw [hW9]; exact (Fr.refl NoM w9).alloc _) (fun _ _ q => q)
        have B3 := Lib.hid (B3.out.fr0 g9)
        have B7 := Lib.hid (B7.out.fr0 g9)
        have B9 := Lib.hid (BoxI.made q9 hW9)
        have G9 := Lib.hid (G8.out.trans g9 (fun _ _ q => q))
        clear q9 f9 g9 zz
        clear k7
        go_upto_region 15 with fail
        rw [← hW9]
        clear hW9
        have k3 := B3.out.cell
        have k7 := B7.out.cell
        go_wp2_with fail
        (with_reducible refine (sumFP B3.out.node B7.out.node HTold.out HFZ.out).mono ?_)
        rintro e w10 ⟨v10, rfl, q10, f10⟩
        obtain ⟨a10, c10, rfl, zz⟩ := id q10
        obtain ⟨W10, hW10⟩ : ∃ W10, W10 = w10.alloc (.cells #[.slice a10 FZ.length c10] 28) := ⟨_, rfl⟩
        have g10 : Fr NoM W9 W10 := f10.trans (show Fr NoM w10 W10 by rw [hW10]; exact (Fr.refl NoM w10).alloc _) (fun _ _ q => q)
        have B3 := Lib.hid (B3.out.fr0 g10)
        have B9 := Lib.hid (B9.out.fr0 g10)
        have B10 := Lib.hid (BoxI.made q10 hW10)
        have G10 := Lib.hid (G9.out.trans g10 (fun _ _ q => q))
        clear q10 f10 g10 zz
        clear k3 k7
        go_upto_region 16 with fail
        rw [← hW10]
        clear hW10
        cases told with
        | false =>
          have k9 := B9.out.cell
          have k3 := B3.out.cell
          go_wp2_with fail
          (with_reducible refine (vSame_true _ _ FB (i2 Fs) W10 B9.out.node B3.out.node HBack.out).mono ?_)
          rintro e w11 ⟨rfl, f11⟩
          go_wp2_with fail
          go_ret
          exact ⟨rfl, G10.out.trans f11 (fun _ _ q => q)⟩
        | true =>
          obtain ⟨hz1, hz2⟩ := HOut.out (by simp)
          have HB10 := Lib.hid (show NodeL _ encI W10 _ (i2 (sumN Fs (negN Fs))) from by rw [← hz1]; exact B10.out.node)
          have hoc := outcomeP_any _ (sumN Fs (negN Fs)) W10 HB10.out hz2
          rw [sum_neg_out] at hoc
          have HOc := Lib.hid hoc
          clear hz1 hz2 hoc
          have k10 := B10.out.cell
          go_wp2_with fail
          (with_reducible refine HOc.out.mono ?_)
          rintro e w11 ⟨rfl, f11⟩
          have B9 := Lib.hid (B9.out.fr0 f11)
          have B3 := Lib.hid (B3.out.fr0 f11)
          have G11 := Lib.hid (G10.out.trans f11 (fun _ _ q => q))
          clear k10 f11
          have k9 := B9.out.cell
          have k3 := B3.out.cell
          go_wp2_with fail
          (with_reducible refine (vSame_true _ _ FB (i2 Fs) w11 B9.out.node B3.out.node HBack.out).mono ?_)
          rintro e w12 ⟨rfl, f12⟩
          go_wp2_with fail
          go_ret
          exact ⟨rfl, G11.out.trans f12 (fun _ _ q => q)⟩
end Go.Proofs.YtioiljboihehcaaGreatDoor
