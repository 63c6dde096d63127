/- The walk of laws.FnMinus: it returns true for every code. -/
import Derived.Test.YtioiljboihehcaaGreatDoorFnForm
import Derived.Test.YtioiljboihehcaaGreatDoorMinusP
import Derived.Test.YtioiljboihehcaaGreatDoorAtLeastP
import Derived.Test.YtioiljboihehcaaGreatDoorWinsP
namespace Go.Proofs.YtioiljboihehcaaGreatDoor
set_option linter.unusedVariables false
set_option linter.unusedSimpArgs false
open Go.RowKit

theorem minusFP {R S : Nat → Prop} {v1 v2 : Value} {Fi Gi F : List (List Int × List Int)} {w : World} {p ok : Bool} (h1 : NodeL R encI w v1 Fi) (h2 : NodeL S encI w v2 Gi) (hp : p = true ↔ goodI Fi ∧ goodI Gi ∧ Fi.length * Gi.length ≤ 1600) (hok : ok = (p && fitsB (minusN (natF Fi) (natF Gi)))) (hF : F = i2 (if ok = true then minusN (natF Fi) (natF Gi) else [])) :
    Calls Tryz.prog 31 #[.agg #[v1], .agg #[v2]] w fun e w' => FormPost ok F w e w' :=
  (minusFormsP_any v1 v2 Fi Gi w h1 h2 p hp ok hok).mono fun e w' h => FormPost.ofP hF h
theorem minusFR {R S : Nat → Prop} {v1 v2 : Value} {Fi Gi F : List (List Int × List Int)} {w : World} {p ok : Bool} (h1 : NodeL R encI w v1 Fi) (h2 : NodeL S encI w v2 Gi) (hp : p = true ↔ goodI Fi ∧ goodI Gi ∧ Fi.length * Gi.length ≤ 1600) (hok : ok = (p && fitsB (minusN (natF Fi) (natF Gi)))) (hF : F = i2 (if ok = true then minusN (natF Fi) (natF Gi) else [])) :
    Calls Tryz.prog 32 #[.agg #[v1], .agg #[v2]] w fun e w' => FormPost ok F w e w' :=
  (minusFormsR_any v1 v2 Fi Gi w h1 h2 p hp ok hok).mono fun e w' h => FormPost.ofR hF h
theorem minus_ge (Fs Gs : List PL) : geC (codeF (minusN Fs Gs)) zeroC = geC (codeF Fs) (codeF Gs) := by
  unfold minusN
  rw [codeF_formOf, (ge_diff _ _).1]
theorem minus_good {Fs Gs : List PL} (h : fitsB (minusN Fs Gs) = true) : goodI (i2 (minusN Fs Gs)) := (form_good (formOf_is _) h).1
set_option maxRecDepth 8000 in
set_option maxHeartbeats 16000000 in
theorem fnMinus_any (cv : Value) (L : List Int) (W0 : World) (h : CodeOK W0 cv L) : Calls Tryz.prog 5 #[cv] W0 fun e W' => e = .returned (.bool true) ∧ Fr NoM W0 W' := by
  obtain ⟨big, hbig⟩ : ∃ big, big = decide (65536 < L.length) := ⟨_, rfl⟩
  have hv := vBig_any cv L W0 h
  rw [← hbig] at hv
  have HV := Lib.hid hv; have HA := Lib.hid (vForm_any cv L W0 h)
  have HC := Lib.hid h
  have HBig := Lib.hid (fun (e : big = false) => (by rw [hbig, decide_eq_false_iff_not] at e; omega : L.length ≤ 65536))
  have G0 := Lib.hid (Fr.refl NoM W0)
  obtain ⟨ca, cc, rfl, zz⟩ := id h.1
  clear zz h hbig hv
  go_enter Tryz.func5, Tryz.ntmps5
  go_wp2_with fail
  (with_reducible refine HV.out.mono ?_)
  rintro e x0 ⟨rfl, hx⟩
  have hx := hx.symm
  subst hx
  cases big with
  | true =>
    go_wp2_with fail
    go_ret
    exact ⟨rfl, G0.out⟩
  | false =>
    have HLb := Lib.hid (HBig.out rfl)
    clear HBig
    go_wp2_with fail
    (with_reducible refine HA.out.mono ?_)
    rintro e w1 ⟨v1, As, rfl, q1, ga, la, f1⟩
    have HB := Lib.hid (vTwo_any _ L w1 (HC.out.fr0 f1) HLb.out)
    have Q1 := Lib.hid q1; have F1 := Lib.hid f1; have HGa := Lib.hid ga
    obtain ⟨a1, c1, rfl, zz⟩ := id q1
    clear zz q1 f1 HA ga
    go_wp2_with fail
    (with_reducible refine HB.out.mono ?_)
    rintro e w2 ⟨v2, Bs, rfl, q2, gb, lb, f2⟩
    have Q1 := Lib.hid (Q1.out.fr0 f2); have Q2 := Lib.hid q2; have F2 := Lib.hid (F1.out.trans f2 (fun _ _ q => q)); have HGb := Lib.hid gb
    obtain ⟨a2, c2, rfl, zz⟩ := id q2
    clear zz q2 f2 HB gb
    obtain ⟨V1, hV1⟩ : ∃ V1, V1 = w2.alloc (.cells #[.slice a1 (i2 As).length c1] 28) := ⟨_, rfl⟩
    obtain ⟨W2, hW2⟩ : ∃ W2, W2 = V1.alloc (.cells #[.slice a2 (i2 Bs).length c2] 28) := ⟨_, rfl⟩
    have e1 : Fr NoM w2 V1 := by rw [hV1]; exact (Fr.refl NoM w2).alloc _
    have e2 : Fr NoM V1 W2 := by rw [hW2]; exact (Fr.refl NoM V1).alloc _
    have s1 : V1.heap.size = w2.heap.size + 1 := by rw [hV1]; simp
    have b1 := (BoxI.made Q1.out hV1).fr0 e2
    have b2 := BoxI.made (Q2.out.fr0 e1) hW2
    rw [s1] at b2
    have B1 := Lib.hid b1; have B2 := Lib.hid b2
    have G2 := Lib.hid (F2.out.trans (e1.trans e2 (fun _ _ q => q)) (fun _ _ q => q))
    clear e1 e2 s1 b1 b2 Q1 Q2
    go_upto_region 4 with fail
    rw [← hV1, ← hW2]
    clear hV1 hW2
    have k1 := B1.out.cell
    have k2 := B2.out.cell
    obtain ⟨p, hp, _⟩ := pair_dec (i2 As) (i2 Bs)
    obtain ⟨ok, hok⟩ : ∃ ok, ok = (p && fitsB (minusN (natF (i2 As)) (natF (i2 Bs)))) := ⟨_, rfl⟩
    obtain ⟨FU, hFU⟩ : ∃ FU, FU = i2 (if ok = true then minusN (natF (i2 As)) (natF (i2 Bs)) else []) := ⟨_, rfl⟩
    have HP := Lib.hid hp; have HOk := Lib.hid hok; have HFU := Lib.hid hFU
    clear hp hok hFU
    go_wp2_with fail
    (with_reducible refine (minusFP B1.out.node B2.out.node HP.out HOk.out HFU.out).mono ?_)
    rintro e w3 ⟨v3, rfl, q3, f3⟩
    obtain ⟨a3, c3, rfl, zz⟩ := id q3
    obtain ⟨W3, hW3⟩ : ∃ W3, W3 = w3.alloc (.cells #[.slice a3 FU.length c3] 28) := ⟨_, rfl⟩
    have g3 : Fr NoM W2 W3 := f3.trans (show Fr NoM w3 W3 by rw [hW3]; exact (Fr.refl NoM w3).alloc _) (fun _ _ q => q)
    have B1 := Lib.hid (B1.out.fr0 g3)
    have B2 := Lib.hid (B2.out.fr0 g3)
    have B3 := Lib.hid (BoxI.made q3 hW3)
    have G3 := Lib.hid (G2.out.trans g3 (fun _ _ q => q))
    clear q3 f3 g3 zz
    clear k1 k2
    go_upto_region 5 with fail
    rw [← hW3]
    clear hW3
    have k1 := B1.out.cell
    have k2 := B2.out.cell
    go_wp2_with fail
    (with_reducible refine (minusFR B1.out.node B2.out.node HP.out HOk.out HFU.out).mono ?_)
    rintro e w4 ⟨v4, rfl, q4, f4⟩
    obtain ⟨a4, c4, rfl, zz⟩ := id q4
    obtain ⟨W4, hW4⟩ : ∃ W4, W4 = w4.alloc (.cells #[.slice a4 FU.length c4] 28) := ⟨_, rfl⟩
    have g4 : Fr NoM W3 W4 := f4.trans (show Fr NoM w4 W4 by rw [hW4]; exact (Fr.refl NoM w4).alloc _) (fun _ _ q => q)
    have B1 := Lib.hid (B1.out.fr0 g4)
    have B2 := Lib.hid (B2.out.fr0 g4)
    have B3 := Lib.hid (B3.out.fr0 g4)
    have B4 := Lib.hid (BoxI.made q4 hW4)
    have G4 := Lib.hid (G3.out.trans g4 (fun _ _ q => q))
    clear q4 f4 g4 zz
    clear k1 k2
    go_upto_region 6 with fail
    rw [← hW4]
    clear hW4
    have k3 := B3.out.cell
    have k4 := B4.out.cell
    go_wp2_with fail
    (with_reducible refine (vSame_true _ _ FU FU W4 B3.out.node B4.out.node rfl).mono ?_)
    rintro e x4 ⟨rfl, f4⟩
    have G4 := Lib.hid (G4.out.trans f4 (fun _ _ q => q))
    have B1 := Lib.hid (B1.out.fr0 f4)
    have B2 := Lib.hid (B2.out.fr0 f4)
    have B3 := Lib.hid (B3.out.fr0 f4)
    clear f4 k3 k4 B4
    obtain ⟨W4, rfl⟩ : ∃ W, W = x4 := ⟨_, rfl⟩
    cases ok with
    | false =>
      go_wp2_with fail
      go_ret
      exact ⟨rfl, G4.out⟩
    | true =>
      have hfit : fitsB (minusN As Bs) = true := by
        have h := HOk.out
        rw [natF_i2, natF_i2] at h
        exact (Bool.and_eq_true_iff.1 h.symm).2
      have hfu : FU = i2 (minusN As Bs) := by rw [HFU.out, natF_i2, natF_i2]; rfl
      have HD := Lib.hid (show NodeL _ encI W4 _ (i2 (minusN As Bs)) from by rw [← hfu]; exact B3.out.node)
      obtain ⟨y, hy⟩ : ∃ y, y = geC (codeF As) (codeF Bs) := ⟨_, rfl⟩
      have hal := atLeastP_any _ _ As Bs W4 B1.out.node B2.out.node HGa.out HGb.out
      rw [← hy] at hal
      have hwm := fun (W : World) (f : Fr NoM W4 W) => winsRP_any _ (minusN As Bs) W (HD.out.fr0 f) (minus_good hfit)
      rw [minus_ge, ← hy] at hwm
      have HAl := Lib.hid hal; have HWm := Lib.hid hwm
      clear hfit hfu hy hal hwm
      have k1 := B1.out.cell
      have k2 := B2.out.cell
      go_wp2_with fail
      (with_reducible refine HAl.out.mono ?_)
      rintro e w5 ⟨rfl, f5⟩
      have G5 := Lib.hid (G4.out.trans f5 (fun _ _ q => q))
      have hwm := HWm.out w5 f5
      have HWm := Lib.hid hwm
      have B3 := Lib.hid (B3.out.fr0 f5)
      clear k1 k2 f5 hwm
      have k3 := B3.out.cell
      go_wp2_with fail
      (with_reducible refine HWm.out.mono ?_)
      rintro e w6 ⟨rfl, f6⟩
      have G6 := Lib.hid (G5.out.trans f6 (fun _ _ q => q))
      clear f6 k3
      cases y with
      | true =>
        go_wp2_with fail
        go_ret
        exact ⟨rfl, G6.out⟩
      | false =>
        go_wp2_with fail
        go_ret
        exact ⟨rfl, G6.out⟩
end Go.Proofs.YtioiljboihehcaaGreatDoor
