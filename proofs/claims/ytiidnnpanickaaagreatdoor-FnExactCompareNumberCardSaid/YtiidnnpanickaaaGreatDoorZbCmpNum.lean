import Derived.Test.YtiidnnpanickaaaGreatDoorZbRefNumD
import Derived.Test.YtiidnnpanickaaaGreatDoorZbNumR
import Derived.Test.YtiidnnpanickaaaGreatDoorZbRefCmp
/- What the claim of FnExactCompareNumberCard needs of: CmpNum. -/
namespace Go.Proofs.YtiidnnpanickaaaGreatDoor
set_option linter.unusedVariables false
set_option linter.unusedSimpArgs false
open Go.RowKit
set_option maxRecDepth 4000 in
set_option maxHeartbeats 4000000 in
theorem compareP_g {R S : Nat → Prop} (v1 v2 : Value) (Fi : List (List Int × List Int)) (Gs : List PL) (w : World) (h1 : NodeL R encI w v1 Fi) (h2 : NodeL S encI w v2 (i2 Gs)) (g1 : Bool) (hg1 : g1 = true ↔ goodI Fi) (hg2 : goodI (i2 Gs)) :
    Calls Tryz.prog 28 #[.agg #[v1], .agg #[v2]] w fun e w' => e = .returned (.tuple #[.int .i64 (cmpV g1 true Fi (i2 Gs)), .bool g1]) ∧ Fr NoM w w' := by
  cases g1 with
  | true =>
    have q1 : goodI Fi := hg1.1 rfl
    obtain ⟨Fs, rfl⟩ := goodI_nat q1
    have h := compareP_any v1 v2 Fs Gs w h1 h2 q1 hg2
    have e : cmpV true true (i2 Fs) (i2 Gs) = outM (geC (codeF Fs) (codeF Gs)) (geC (codeF Gs) (codeF Fs)) := by unfold cmpV; rw [natF_i2, natF_i2]; rfl
    rw [e]; exact h
  | false =>
    have hcv : cmpV false true Fi (i2 Gs) = 0 := rfl
    rw [hcv]
    obtain ⟨w1, hw1⟩ : ∃ w1, w1 = (w.alloc (.cells #[v1] 31)).alloc (.cells #[v2] 31) := ⟨_, rfl⟩
    have f1 : Fr NoM w w1 := by rw [hw1]; exact ((Fr.refl NoM w).alloc _).alloc _
    have HG1 := Lib.hid (goodFormP_any v1 Fi w1 (h1.fr0 f1) false hg1)
    have F1 := Lib.hid f1
    obtain ⟨a1, c1, rfl, z⟩ := id h1
    clear z
    obtain ⟨a2, c2, rfl, z⟩ := id h2
    clear z h1 h2 f1 hg1 hg2 hcv
    go_enter Tryz.func28, Tryz.ntmps28
    go_wp2_with fail
    rw [← hw1]
    clear hw1
    (with_reducible refine HG1.out.mono ?_)
    rintro e w2 ⟨rfl, f2⟩
    have F2 := Lib.hid f2
    clear f2
    go_wp2
    go_ret2
    exact ⟨rfl, F1.out.trans F2.out (fun _ _ q => q)⟩
theorem numN_good {T : Int} {p : Nat} (h : fitsB (numN T p) = true) : goodI (i2 (numN T p)) := (form_good (formOf_is _) h).1
noncomputable def cnV (g1 okN : Bool) (Fi : List (List Int × List Int)) (N : List PL) : Int := if okN = true then cmpV g1 true Fi (i2 N) else 0
set_option maxRecDepth 4000 in
set_option maxHeartbeats 4000000 in
theorem cmpNumR_any {R : Nat → Prop} (v1 : Value) (Fi : List (List Int × List Int)) (T P : Int) (w : World) (h1 : NodeL R encI w v1 Fi) (g1 : Bool) (hg1 : g1 = true ↔ goodI Fi) (g : Bool) (hg : g = true ↔ GoodD T P) (ok : Bool) (hok : ok = (g && fitsB (numN T P.toNat))) (cv : Int) (hcv : cv = cnV g1 ok Fi (numN T P.toNat)) (cb : Bool) (hcb : cb = (ok && g1)) :
    Calls Tryz.prog 32 #[.agg #[v1], .agg #[.int .i64 T, .int .i64 P]] w fun e w' => e = .returned (.tuple #[.int .i64 cv, .bool cb]) ∧ Fr NoM w w' := by
  obtain ⟨w1, hw1⟩ : ∃ w1, w1 = (w.alloc (.cells #[v1] 31)).alloc (.cells #[.int .i64 T, .int .i64 P] 45) := ⟨_, rfl⟩
  have f1 : Fr NoM w w1 := by rw [hw1]; exact ((Fr.refl NoM w).alloc _).alloc _
  have hs1 : w1.heap.size = w.heap.size + 2 := by rw [hw1]; simp
  have e0 : w1.heap[w.heap.size]? = some (.cells #[v1] 31 (0, 0)) := by rw [hw1]; exact ((Fr.refl NoM _).alloc _).heap (heap_alloc_new w _) (fun q => q)
  have HK := Lib.hid (fun (W : World) (f : Fr NoM w1 W) => (by
    have h0 := f.heap e0 (fun q => q)
    rw [cell_of_row W _ 0 _ _ _ h0]; rfl : W.cell? ⟨w.heap.size, 0, none⟩ = some v1))
  have HN1 := Lib.hid (fun (W : World) (f : Fr NoM w1 W) => ((h1.fr0 f1).fr0 f : NodeL R encI W v1 Fi))
  obtain ⟨RN, hRN⟩ : ∃ RN, RN = (if ok = true then numN T P.toNat else []) := ⟨_, rfl⟩
  have hnf := fun (W : World) => numberFormR_any T P W g hg ok hok
  rw [← hRN] at hnf
  have HNf := Lib.hid hnf
  have HRN := Lib.hid hRN; have F1 := Lib.hid f1; have HS1 := Lib.hid hs1; have Hg1 := Lib.hid hg1; have HCv := Lib.hid hcv; have HCb := Lib.hid hcb; have HOk := Lib.hid hok
  obtain ⟨a1, c1, rfl, z⟩ := id h1
  clear z h1 f1 hs1 e0 hnf hRN hg1 hcv hcb hok hg
  go_enter Tryz.func32, Tryz.ntmps32
  go_wp2_with fail
  rw [← hw1]
  clear hw1
  (with_reducible refine (HNf.out w1).mono ?_)
  rintro e w2 ⟨v2, rfl, n2, f2⟩
  obtain ⟨a2, c2, rfl, z⟩ := id n2
  obtain ⟨w3, hw3⟩ : ∃ w3, w3 = w2.alloc (.cells #[.slice a2 RN.length c2] 31) := ⟨_, rfl⟩
  have f3 : Fr NoM w2 w3 := by rw [hw3]; exact (Fr.refl NoM w2).alloc _
  have F3 := Lib.hid (f2.trans f3 (fun _ _ q => q)); have HN2 := Lib.hid (n2.fr0 f3)
  have e3 : w3.heap[w2.heap.size]? = some (.cells #[.slice a2 RN.length c2] 31 (0, 0)) := by rw [hw3]; exact heap_alloc_new w2 _
  have k2 : w3.cell? ⟨w2.heap.size, 0, none⟩ = some (.slice a2 RN.length c2) := by rw [cell_of_row w3 _ 0 _ _ _ e3]; rfl
  have K2 := Lib.hid k2
  clear z n2 f2 f3 e3 k2
  cases ok with
  | false =>
    have h1 : cv = 0 := by rw [HCv.out]; rfl
    have h2 : cb = false := by rw [HCb.out]; rfl
    subst h1
    subst h2
    go_wp2
    go_ret2
    rw [← hw3]
    exact ⟨rfl, F1.out.trans F3.out (fun _ _ q => q)⟩
  | true =>
    have hf : g = true ∧ fitsB (numN T P.toNat) = true := by
      have h := HOk.out
      simp at h
      exact h
    have hrn : RN = numN T P.toNat := by rw [HRN.out]; rfl
    have hgd : goodI (i2 RN) := by rw [hrn]; exact numN_good hf.2
    have hc := fun (W : World) (f : Fr NoM w3 W) => compareR_any (.slice a1 Fi.length c1) (.slice a2 RN.length c2) Fi (i2 RN) W (HN1.out W (F3.out.trans f (fun _ _ q => q))) ((HN2.out.fr0 f).toI) g1 true Hg1.out (by simp [hgd])
    have hcv2 : cmpV g1 true Fi (i2 RN) = cv := by rw [HCv.out, hrn]; rfl
    have hcb2 : (g1 && true) = cb := by rw [HCb.out]; cases g1 <;> rfl
    rw [hcv2, hcb2] at hc
    have HC := Lib.hid hc
    clear hf hrn hgd hc hcv2 hcb2
    go_upto_region 4 with fail
    rw [← hw3]
    clear hw3
    have k0 := HK.out w3 F3.out
    have k2 := K2.out
    go_wp2_with fail
    (with_reducible refine (HC.out w3 (Fr.refl _ _)).mono ?_)
    rintro e w4 ⟨rfl, f4⟩
    have F4 := Lib.hid (F1.out.trans (F3.out.trans f4 (fun _ _ q => q)) (fun _ _ q => q))
    clear f4 k0 k2
    go_wp2
    go_ret2
    exact ⟨rfl, F4.out⟩
set_option maxRecDepth 4000 in
set_option maxHeartbeats 4000000 in
theorem cmpNumP_any {R : Nat → Prop} (v1 : Value) (Fi : List (List Int × List Int)) (T P : Int) (w : World) (h1 : NodeL R encI w v1 Fi) (g1 : Bool) (hg1 : g1 = true ↔ goodI Fi) (g : Bool) (hg : g = true ↔ GoodD T P) (ok : Bool) (hok : ok = (g && fitsB (numN T P.toNat))) (cv : Int) (hcv : cv = cnV g1 ok Fi (numN T P.toNat)) (cb : Bool) (hcb : cb = (ok && g1)) :
    Calls Tryz.prog 34 #[.agg #[v1], .agg #[.int .i64 T, .int .i64 P]] w fun e w' => e = .returned (.tuple #[.int .i64 cv, .bool cb]) ∧ Fr NoM w w' := by
  obtain ⟨w1, hw1⟩ : ∃ w1, w1 = (w.alloc (.cells #[v1] 31)).alloc (.cells #[.int .i64 T, .int .i64 P] 45) := ⟨_, rfl⟩
  have f1 : Fr NoM w w1 := by rw [hw1]; exact ((Fr.refl NoM w).alloc _).alloc _
  have hs1 : w1.heap.size = w.heap.size + 2 := by rw [hw1]; simp
  have e0 : w1.heap[w.heap.size]? = some (.cells #[v1] 31 (0, 0)) := by rw [hw1]; exact ((Fr.refl NoM _).alloc _).heap (heap_alloc_new w _) (fun q => q)
  have HK := Lib.hid (fun (W : World) (f : Fr NoM w1 W) => (by
    have h0 := f.heap e0 (fun q => q)
    rw [cell_of_row W _ 0 _ _ _ h0]; rfl : W.cell? ⟨w.heap.size, 0, none⟩ = some v1))
  have HN1 := Lib.hid (fun (W : World) (f : Fr NoM w1 W) => ((h1.fr0 f1).fr0 f : NodeL R encI W v1 Fi))
  obtain ⟨RN, hRN⟩ : ∃ RN, RN = (if ok = true then numN T P.toNat else []) := ⟨_, rfl⟩
  have hnf := fun (W : World) => numberFormP_any T P W g hg ok hok
  rw [← hRN] at hnf
  have HNf := Lib.hid hnf
  have HRN := Lib.hid hRN; have F1 := Lib.hid f1; have HS1 := Lib.hid hs1; have Hg1 := Lib.hid hg1; have HCv := Lib.hid hcv; have HCb := Lib.hid hcb; have HOk := Lib.hid hok
  obtain ⟨a1, c1, rfl, z⟩ := id h1
  clear z h1 f1 hs1 e0 hnf hRN hg1 hcv hcb hok hg
  go_enter Tryz.func34, Tryz.ntmps34
  go_wp2_with fail
  rw [← hw1]
  clear hw1
  (with_reducible refine (HNf.out w1).mono ?_)
  rintro e w2 ⟨v2, rfl, n2', f2⟩
  have n2 := n2'.nodeL
  clear n2'
  obtain ⟨a2, c2, rfl, z⟩ := id n2
  obtain ⟨w3, hw3⟩ : ∃ w3, w3 = w2.alloc (.cells #[.slice a2 RN.length c2] 31) := ⟨_, rfl⟩
  have f3 : Fr NoM w2 w3 := by rw [hw3]; exact (Fr.refl NoM w2).alloc _
  have F3 := Lib.hid (f2.trans f3 (fun _ _ q => q)); have HN2 := Lib.hid (n2.fr0 f3)
  have e3 : w3.heap[w2.heap.size]? = some (.cells #[.slice a2 RN.length c2] 31 (0, 0)) := by rw [hw3]; exact heap_alloc_new w2 _
  have k2 : w3.cell? ⟨w2.heap.size, 0, none⟩ = some (.slice a2 RN.length c2) := by rw [cell_of_row w3 _ 0 _ _ _ e3]; rfl
  have K2 := Lib.hid k2
  clear z n2 f2 f3 e3 k2
  cases ok with
  | false =>
    have h1 : cv = 0 := by rw [HCv.out]; rfl
    have h2 : cb = false := by rw [HCb.out]; rfl
    subst h1
    subst h2
    go_wp2
    go_ret2
    rw [← hw3]
    exact ⟨rfl, F1.out.trans F3.out (fun _ _ q => q)⟩
  | true =>
    have hf : g = true ∧ fitsB (numN T P.toNat) = true := by
      have h := HOk.out
      simp at h
      exact h
    have hrn : RN = numN T P.toNat := by rw [HRN.out]; rfl
    have hgd : goodI (i2 RN) := by rw [hrn]; exact numN_good hf.2
    have hc := fun (W : World) (f : Fr NoM w3 W) => compareP_g (.slice a1 Fi.length c1) (.slice a2 RN.length c2) Fi RN W (HN1.out W (F3.out.trans f (fun _ _ q => q))) ((HN2.out.fr0 f).toI) g1 Hg1.out hgd
    have hcv2 : cmpV g1 true Fi (i2 RN) = cv := by rw [HCv.out, hrn]; rfl
    have hcb2 : g1 = cb := by rw [HCb.out]; rfl
    rw [hcv2, hcb2] at hc
    have HC := Lib.hid hc
    clear hf hrn hgd hc hcv2 hcb2
    go_upto_region 4 with fail
    rw [← hw3]
    clear hw3
    have k0 := HK.out w3 F3.out
    have k2 := K2.out
    go_wp2_with fail
    (with_reducible refine (HC.out w3 (Fr.refl _ _)).mono ?_)
    rintro e w4 ⟨rfl, f4⟩
    have F4 := Lib.hid (F1.out.trans (F3.out.trans f4 (fun _ _ q => q)) (fun _ _ q => q))
    clear f4 k0 k2
    go_wp2
    go_ret2
    exact ⟨rfl, F4.out⟩
end Go.Proofs.YtiidnnpanickaaaGreatDoor
