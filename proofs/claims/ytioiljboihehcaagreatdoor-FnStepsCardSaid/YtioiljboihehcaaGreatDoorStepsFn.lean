/- The walk of laws.FnSteps: it returns true for every code. -/
import Derived.Test.YtioiljboihehcaaGreatDoorFnForm
import Derived.Test.YtioiljboihehcaaGreatDoorBypassP
import Derived.Test.YtioiljboihehcaaGreatDoorRefBypass
import Derived.Test.YtioiljboihehcaaGreatDoorCompareP
import Derived.Test.YtioiljboihehcaaGreatDoorListsIn
import Derived.Test.YtioiljboihehcaaGreatDoorStepsLaw
namespace Go.Proofs.YtioiljboihehcaaGreatDoor
set_option linter.unusedVariables false
set_option linter.unusedSimpArgs false
open Go.RowKit

theorem dropFP {R : Nat → Prop} {nv : Value} {Fi F : List (List Int × List Int)} {w : World} {g : Bool} (h : NodeL R encI w nv Fi) (hg : g = true ↔ goodI Fi) (hF : F = i2 (if g = true then dropF (natF Fi) else [])) :
    Calls Tryz.prog 41 #[.agg #[nv]] w fun e w' => FormPost g F w e w' :=
  (dropFormP_any nv Fi w h g hg).mono fun e w' h => FormPost.ofP hF h
theorem dropFR {R : Nat → Prop} {nv : Value} {Fi F : List (List Int × List Int)} {w : World} {g : Bool} (h : NodeL R encI w nv Fi) (hg : g = true ↔ goodI Fi) (hF : F = i2 (if g = true then dropF (natF Fi) else [])) :
    Calls Tryz.prog 43 #[.agg #[nv]] w fun e w' => FormPost g F w e w' :=
  (dropFormR_any nv Fi w h g hg).mono fun e w' h => FormPost.ofR hF h
theorem bypFP {R : Nat → Prop} {nv : Value} {Fi F : List (List Int × List Int)} {w : World} {g ok : Bool} (h : NodeL R encI w nv Fi) (hg : g = true ↔ goodI Fi) (hok : ok = (g && fitsB (bypF (natF Fi)))) (hF : F = i2 (if ok = true then bypF (natF Fi) else [])) :
    Calls Tryz.prog 42 #[.agg #[nv]] w fun e w' => FormPost ok F w e w' :=
  (bypassFormP_any nv Fi w h g hg ok hok).mono fun e w' h => FormPost.ofP hF h
theorem bypFR {R : Nat → Prop} {nv : Value} {Fi F : List (List Int × List Int)} {w : World} {g ok : Bool} (h : NodeL R encI w nv Fi) (hg : g = true ↔ goodI Fi) (hok : ok = (g && fitsB (bypF (natF Fi)))) (hF : F = i2 (if ok = true then bypF (natF Fi) else [])) :
    Calls Tryz.prog 44 #[.agg #[nv]] w fun e w' => FormPost ok F w e w' :=
  (bypassFormR_any nv Fi w h g hg ok hok).mono fun e w' h => FormPost.ofR hF h
theorem good_bool (Fi : List (List Int × List Int)) : ∃ g : Bool, (g = true ↔ goodI Fi) := by
  by_cases h : goodI Fi
  · exact ⟨true, fun _ => h, fun _ => rfl⟩
  · exact ⟨false, fun e => by simp at e, fun e => absurd e h⟩
theorem revB_len (g : Nat → Nat → Bool) (opt : Nat → List Nat) (r : Nat) (L : List Nat) : (revB g opt r L).length ≤ L.length := by
  have h := List.length_filter_le (fun k => ((opt (L.getD k 0)).find? (g r)).isSome) (List.range L.length)
  rw [List.length_range] at h
  exact h
theorem equal_true {R S : Nat → Prop} (v1 v2 : Value) (Fs Gs : List PL) (w : World) (h1 : NodeL R encI w v1 (i2 Fs)) (h2 : NodeL S encI w v2 (i2 Gs)) (hg1 : goodI (i2 Fs)) (hg2 : goodI (i2 Gs)) (he : geC (codeF Fs) (codeF Gs) = true ∧ geC (codeF Gs) (codeF Fs) = true) :
    Calls Tryz.prog 45 #[.agg #[v1], .agg #[v2]] w fun e w' => e = .returned (.tuple #[.bool true, .bool true]) ∧ Fr NoM w w' := by
  have h := equalP_any v1 v2 Fs Gs w h1 h2 hg1 hg2
  rw [he.1, he.2] at h
  exact h
set_option maxRecDepth 8000 in
set_option maxHeartbeats 16000000 in
theorem fnSteps_any (cv : Value) (L : List Int) (W0 : World) (h : CodeOK W0 cv L) : Calls Tryz.prog 7 #[cv] W0 fun e W' => e = .returned (.bool true) ∧ Fr NoM W0 W' := by
  obtain ⟨big, hbig⟩ : ∃ big, big = decide (65536 < L.length) := ⟨_, rfl⟩
  have hv := vBig_any cv L W0 h
  rw [← hbig] at hv
  have HV := Lib.hid hv; have HDr := Lib.hid (drawDom_any cv L W0 h)
  have G0 := Lib.hid (Fr.refl NoM W0)
  obtain ⟨ca, cc, rfl, zz⟩ := id h.1
  clear zz h hbig hv
  go_enter Tryz.func7, Tryz.ntmps7
  go_wp2_with fail
  (with_reducible refine HV.out.mono ?_)
  rintro e x0 ⟨rfl, hx⟩
  have hx := hx.symm
  subst hx
  cases big with
  | true =>
    go_wp2_with fail
    go_ret
    exact ⟨rfl, G0.out⟩
  | false =>
    go_wp2_with fail
    (with_reducible refine HDr.out.mono ?_)
    rintro e w1 ⟨v1, Fi, rfl, q1, f1⟩
    obtain ⟨a1, c1, rfl, zz⟩ := id q1
    obtain ⟨W1, hW1⟩ : ∃ W1, W1 = w1.alloc (.cells #[.slice a1 Fi.length c1] 28) := ⟨_, rfl⟩
    have g1 : Fr NoM W0 W1 := f1.trans (show Fr NoM w1 W1 by rw [hW1]; exact (Fr.refl NoM w1).alloc _) (fun _ _ q => q)
    have B1 := Lib.hid (BoxI.made q1 hW1)
    have G1 := Lib.hid (G0.out.trans g1 (fun _ _ q => q))
    clear q1 f1 g1 zz
    go_upto_region 4 with fail
    rw [← hW1]
    clear hW1
    have k1 := B1.out.cell
    obtain ⟨g, hg⟩ := good_bool Fi
    obtain ⟨ok, hok⟩ : ∃ ok, ok = (g && fitsB (bypF (natF Fi))) := ⟨_, rfl⟩
    obtain ⟨FA, hFA⟩ : ∃ FA, FA = i2 (if g = true then dropF (natF Fi) else []) := ⟨_, rfl⟩
    obtain ⟨FB, hFB⟩ : ∃ FB, FB = i2 (if ok = true then bypF (natF Fi) else []) := ⟨_, rfl⟩
    have HG := Lib.hid hg; have HOk := Lib.hid hok; have HFA := Lib.hid hFA; have HFB := Lib.hid hFB
    clear hg hok hFA hFB
    go_wp2_with fail
    (with_reducible refine (dropFP B1.out.node HG.out HFA.out).mono ?_)
    rintro e w2 ⟨v2, rfl, q2, f2⟩
    obtain ⟨a2, c2, rfl, zz⟩ := id q2
    obtain ⟨W2, hW2⟩ : ∃ W2, W2 = w2.alloc (.cells #[.slice a2 FA.length c2] 28) := ⟨_, rfl⟩
    have g2 : Fr NoM W1 W2 := f2.trans (show Fr NoM w2 W2 by rw [hW2]; exact (Fr.refl NoM w2).alloc _) (fun _ _ q => q)
    have B1 := Lib.hid (B1.out.fr0 g2)
    have B2 := Lib.hid (BoxI.made q2 hW2)
    have G2 := Lib.hid (G1.out.trans g2 (fun _ _ q => q))
    clear q2 f2 g2 zz
    clear k1
    go_upto_region 5 with fail
    rw [← hW2]
    clear hW2
    have k1 := B1.out.cell
    go_wp2_with fail
    (with_reducible refine (bypFP B1.out.node HG.out HOk.out HFB.out).mono ?_)
    rintro e w3 ⟨v3, rfl, q3, f3⟩
    obtain ⟨a3, c3, rfl, zz⟩ := id q3
    obtain ⟨W3, hW3⟩ : ∃ W3, W3 = w3.alloc (.cells #[.slice a3 FB.length c3] 28) := ⟨_, rfl⟩
    have g3 : Fr NoM W2 W3 := f3.trans (show Fr NoM w3 W3 by rw [hW3]; exact (Fr.refl NoM w3).alloc _) (fun _ _ q => q)
    have B1 := Lib.hid (B1.out.fr0 g3)
    have B2 := Lib.hid (B2.out.fr0 g3)
    have B3 := Lib.hid (BoxI.made q3 hW3)
    have G3 := Lib.hid (G2.out.trans g3 (fun _ _ q => q))
    clear q3 f3 g3 zz
    clear k1
    go_upto_region 6 with fail
    rw [← hW3]
    clear hW3
    have k1 := B1.out.cell
    go_wp2_with fail
    (with_reducible refine (dropFR B1.out.node HG.out HFA.out).mono ?_)
    rintro e w4 ⟨v4, rfl, q4, f4⟩
    obtain ⟨a4, c4, rfl, zz⟩ := id q4
    obtain ⟨W4, hW4⟩ : ∃ W4, W4 = w4.alloc (.cells #[.slice a4 FA.length c4] 28) := ⟨_, rfl⟩
    have g4 : Fr NoM W3 W4 := f4.trans (show Fr NoM w4 W4 by rw [hW4]; exact (Fr.refl NoM w4).alloc _) (fun _ _ q => q)
    have B1 := Lib.hid (B1.out.fr0 g4)
    have B2 := Lib.hid (B2.out.fr0 g4)
    have B3 := Lib.hid (B3.out.fr0 g4)
    have B4 := Lib.hid (BoxI.made q4 hW4)
    have G4 := Lib.hid (G3.out.trans g4 (fun _ _ q => q))
    clear q4 f4 g4 zz
    clear k1
    go_upto_region 7 with fail
    rw [← hW4]
    clear hW4
    have k1 := B1.out.cell
    go_wp2_with fail
    (with_reducible refine (bypFR B1.out.node HG.out HOk.out HFB.out).mono ?_)
    rintro e w5 ⟨v5, rfl, q5, f5⟩
    obtain ⟨a5, c5, rfl, zz⟩ := id q5
    obtain ⟨W5, hW5⟩ : ∃ W5, W5 = w5.alloc (.cells #[.slice a5 FB.length c5] 28) := ⟨_, rfl⟩
    have g5 : Fr NoM W4 W5 := f5.trans (show Fr NoM w5 W5 by rw [hW5]; exact (Fr.refl NoM w5).alloc _) (fun _ _ q => q)
    have B1 := Lib.hid (B1.out.fr0 g5)
    have B2 := Lib.hid (B2.out.fr0 g5)
    have B3 := Lib.hid (B3.out.fr0 g5)
    have B4 := Lib.hid (B4.out.fr0 g5)
    have B5 := Lib.hid (BoxI.made q5 hW5)
    have G5 := Lib.hid (G4.out.trans g5 (fun _ _ q => q))
    clear q5 f5 g5 zz
    clear k1
    go_upto_region 8 with fail
    rw [← hW5]
    clear hW5
    have k2 := B2.out.cell
    have k4 := B4.out.cell
    go_wp2_with fail
    (with_reducible refine (vSame_true _ _ FA FA W5 B2.out.node B4.out.node rfl).mono ?_)
    rintro e x5 ⟨rfl, f5⟩
    have G5 := Lib.hid (G5.out.trans f5 (fun _ _ q => q))
    have B1 := Lib.hid (B1.out.fr0 f5)
    have B2 := Lib.hid (B2.out.fr0 f5)
    have B3 := Lib.hid (B3.out.fr0 f5)
    have B5 := Lib.hid (B5.out.fr0 f5)
    clear f5 k2 k4 B4
    obtain ⟨W5, rfl⟩ : ∃ W, W = x5 := ⟨_, rfl⟩
    have k3 := B3.out.cell
    have k5 := B5.out.cell
    go_wp2_with fail
    (with_reducible refine (vSame_true _ _ FB FB W5 B3.out.node B5.out.node rfl).mono ?_)
    rintro e x6 ⟨rfl, f5⟩
    have G5 := Lib.hid (G5.out.trans f5 (fun _ _ q => q))
    have B1 := Lib.hid (B1.out.fr0 f5)
    have B2 := Lib.hid (B2.out.fr0 f5)
    have B3 := Lib.hid (B3.out.fr0 f5)
    clear f5 k3 k5 B5
    obtain ⟨W5, rfl⟩ : ∃ W, W = x6 := ⟨_, rfl⟩
    cases g with
    | false =>
      have hk : ok = false := by rw [HOk.out]; rfl
      subst hk
      go_wp2_with fail
      go_ret
      exact ⟨rfl, G5.out⟩
    | true =>
      have hgd := HG.out.1 rfl
      obtain ⟨Fs, rfl⟩ := goodI_nat hgd
      have hfa : FA = i2 (dropF Fs) := by rw [HFA.out, natF_i2]; rfl
      obtain ⟨_, _, q3, _, _⟩ := goodI_parts hgd
      have hrt := q3 _ (nodeV_mem (show Fs.length - 1 < Fs.length by have := (goodI_parts hgd).1; omega))
      obtain ⟨L1, hL1⟩ : ∃ L1, L1 = revB (gR (codesOf Fs)) (optS Fs true) (Fs.length - 1) (nodeV Fs (Fs.length - 1)).1 := ⟨_, rfl⟩
      obtain ⟨L2, hL2⟩ : ∃ L2, L2 = revB (gL (codesOf Fs)) (optS Fs false) (Fs.length - 1) (nodeV Fs (Fs.length - 1)).2 := ⟨_, rfl⟩
      have hl1 : L1.length ≤ 24 := by rw [hL1]; exact Nat.le_trans (revB_len _ _ _ _) hrt.1
      have hl2 : L2.length ≤ 24 := by rw [hL2]; exact Nat.le_trans (revB_len _ _ _ _) hrt.2
      have hrv := fun (W : World) (f : Fr NoM W5 W) => revIn_any _ Fs W (B1.out.node.fr0 f) hgd
      rw [← hL1, ← hL2] at hrv
      have hbyp : ok = true → FB = i2 (bypF Fs) ∧ goodI (i2 (bypF Fs)) ∧ (geC (codeF (bypF Fs)) (codeF Fs) = true ∧ geC (codeF Fs) (codeF (bypF Fs)) = true) ∧ 0 < L1.length + L2.length := fun e => by
        have hf : fitsB (bypF Fs) = true := by
          have h := HOk.out
          rw [natF_i2, e] at h
          exact (Bool.and_eq_true_iff.1 h.symm).2
        cases hq : bypQ Fs with
        | none =>
          have : bypF Fs = [] := by unfold bypF; rw [hq]
          rw [this, fits_nil] at hf
          cases hf
        | some x =>
          refine ⟨by rw [HFB.out, e, natF_i2]; rfl, byp_good hgd hq hf, byp_equal hgd hq, ?_⟩
          rw [hL1, hL2]
          exact byp_rev hq
      have HN2 := Lib.hid (show NodeL _ encI W5 _ (i2 (dropF Fs)) from by rw [← hfa]; exact B2.out.node)
      have hdm := fun (W : World) (f : Fr NoM W5 W) => domIn_any _ (dropF Fs) W (HN2.out.fr0 f) (drop_good hgd)
      obtain ⟨z1, z2⟩ := drop_free hgd
      rw [z1, z2] at hdm
      have HEq := Lib.hid (equal_true _ _ (dropF Fs) Fs W5 HN2.out B1.out.node (drop_good hgd) hgd (drop_equal hgd))
      have HRv := Lib.hid hrv; have HDm := Lib.hid hdm; have HByp := Lib.hid hbyp; have HGd := Lib.hid hgd
      clear hgd hfa q3 hrt hrv hbyp hdm z1 z2 hL1 hL2
      have k1 := B1.out.cell
      have k2 := B2.out.cell
      go_wp2_with fail
      (with_reducible refine HEq.out.mono ?_)
      rintro e w6 ⟨rfl, f6⟩
      have F6 := Lib.hid f6
      have HRv := Lib.hid (HRv.out w6 f6)
      clear k1 k2 f6
      have k1 := (B1.out.fr0 F6.out).cell
      go_wp2_with fail
      (with_reducible refine HRv.out.mono ?_)
      rintro e w7 ⟨v7, v8, rfl, n7, n8, f7⟩
      obtain ⟨a7, c7, rfl, zz⟩ := id n7
      obtain ⟨a8, c8, rfl, zz2⟩ := id n8
      have F7 := Lib.hid (F6.out.trans f7 (fun _ _ q => q))
      clear zz zz2 n7 n8 f7 k1
      have B1 := Lib.hid (B1.out.fr0 F7.out)
      have B2 := Lib.hid (B2.out.fr0 F7.out)
      have B3 := Lib.hid (B3.out.fr0 F7.out)
      have G7 := Lib.hid (G5.out.trans F7.out (fun _ _ q => q))
      have HDm := Lib.hid (fun (W : World) (f : Fr NoM w7 W) => HDm.out W (F7.out.trans f (fun _ _ q => q)))
      cases ok with
      | false =>
        have HD := Lib.hid (HDm.out w7 (Fr.refl _ _))
        have k2 := B2.out.cell
        go_wp2_with fail
        (with_reducible refine HD.out.mono ?_)
        rintro e w9 ⟨v9, v10, rfl, n9, n10, f9⟩
        obtain ⟨a9, c9, rfl, zz⟩ := id n9
        obtain ⟨a10, c10, rfl, zz2⟩ := id n10
        have G9 := Lib.hid (G7.out.trans f9 (fun _ _ q => q))
        clear zz zz2 n9 n10 f9 k2
        go_wp2_with fail
        go_ret
        exact ⟨rfl, G9.out⟩
      | true =>
        obtain ⟨b1, b2, b3, b4⟩ := HByp.out (by simp)
        have hEq2 := equal_true _ _ (bypF Fs) Fs w7 (show NodeL _ encI w7 _ (i2 (bypF Fs)) from by rw [← b1]; exact B3.out.node) B1.out.node b2 HGd.out b3
        have HEq2 := Lib.hid hEq2
        have hpos : (0 : Int) < (L1.length : Int) + (L2.length : Int) := by omega
        have HPos := Lib.hid hpos
        clear b1 b2 b3 b4 hEq2 hpos
        have k1 := B1.out.cell
        have k3 := B3.out.cell
        go_wp2_with fail
        (with_reducible refine HEq2.out.mono ?_)
        rintro e w8 ⟨rfl, f8⟩
        have HD := Lib.hid (HDm.out w8 f8)
        have B2 := Lib.hid (B2.out.fr0 f8)
        have G8 := Lib.hid (G7.out.trans f8 (fun _ _ q => q))
        clear k1 k3 f8
        have k2 := B2.out.cell
        go_wp2_with fail
        (with_reducible refine HD.out.mono ?_)
        rintro e w9 ⟨v9, v10, rfl, n9, n10, f9⟩
        obtain ⟨a9, c9, rfl, zz⟩ := id n9
        obtain ⟨a10, c10, rfl, zz2⟩ := id n10
        have G9 := Lib.hid (G8.out.trans f9 (fun _ _ q => q))
        clear zz zz2 n9 n10 f9 k2
        have hpos := HPos.out
        go_wp2_with fail
        go_ret
        exact ⟨rfl, G9.out⟩
end Go.Proofs.YtioiljboihehcaaGreatDoor
