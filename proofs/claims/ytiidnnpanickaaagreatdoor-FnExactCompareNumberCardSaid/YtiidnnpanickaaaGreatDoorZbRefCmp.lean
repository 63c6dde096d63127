import Derived.Test.YtiidnnpanickaaaGreatDoorZbRefRoot
import Derived.Test.YtiidnnpanickaaaGreatDoorZbRefSumForms
import Derived.Test.YtiidnnpanickaaaGreatDoorZbCompareP
/- What the claim of FnExactCompareNumberCard needs of: RefCmp. -/
namespace Go.Proofs.YtiidnnpanickaaaGreatDoor
set_option linter.unusedVariables false
set_option linter.unusedSimpArgs false
open Go.RowKit
set_option maxRecDepth 4000 in
set_option maxHeartbeats 8000000 in
theorem l4Geq_any {R S : Nat → Prop} (v1 v2 : Value) (Fs Gs : List PL) (w : World) (h1 : NodeL R encN w v1 Fs) (h2 : NodeL S encN w v2 Gs) (hg1 : goodI (i2 Fs)) (hg2 : goodI (i2 Gs)) :
    Calls Tryz.prog 141 #[.agg #[v1], .agg #[v2]] w fun e w' => e = .returned (.bool (geC (codeF Fs) (codeF Gs))) ∧ Fr NoM w w' := by
  obtain ⟨res, hres⟩ : ∃ res, res = geC (codeF Fs) (codeF Gs) := ⟨_, rfl⟩
  rw [← hres]
  have HRes := Lib.hid hres
  clear hres
  obtain ⟨w1, hw1⟩ : ∃ w1, w1 = ((w.alloc (.cells #[v1] 31)).alloc (.cells #[v2] 31)).alloc (.cells #[.slice none 0 0, .slice none 0 0] 132) := ⟨_, rfl⟩
  have f1 : Fr NoM w w1 := by rw [hw1]; exact (((Fr.refl NoM w).alloc _).alloc _).alloc _
  have hs1 : w1.heap.size = w.heap.size + 3 := by rw [hw1]; simp
  have e0 : w1.heap[w.heap.size]? = some (.cells #[v1] 31 (0, 0)) := by rw [hw1]; exact (((Fr.refl NoM _).alloc _).alloc _).heap (heap_alloc_new w _) (fun q => q)
  have e1 : w1.heap[w.heap.size + 1]? = some (.cells #[v2] 31 (0, 0)) := by
    have h := heap_alloc_new (w.alloc (.cells #[v1] 31)) (.cells #[v2] 31)
    rw [World.size_alloc] at h
    rw [hw1]; exact ((Fr.refl NoM _).alloc _).heap h (fun q => q)
  obtain ⟨bb, hbb⟩ : ∃ bb, bb = w.heap.size + 1 + 1 := ⟨_, rfl⟩
  have e2 : w1.heap[bb]? = some (.cells #[.slice none 0 0, .slice none 0 0] 132 (0, 0)) := by
    have h := heap_alloc_new ((w.alloc (.cells #[v1] 31)).alloc (.cells #[v2] 31)) (.cells #[.slice none 0 0, .slice none 0 0] 132)
    rw [World.size_alloc, World.size_alloc] at h
    rw [hw1, hbb]; exact h
  have HK := Lib.hid (fun (W : World) (f : Fr (fun q => bb ≤ q) w1 W) => show W.cell? ⟨w.heap.size, 0, none⟩ = some v1 ∧ W.cell? ⟨w.heap.size + 1, 0, none⟩ = some v2 from by
    have h0 := f.heap e0 (fun q => by omega)
    have h1 := f.heap e1 (fun q => by omega)
    exact ⟨by rw [cell_of_row W _ 0 _ _ _ h0]; rfl, by rw [cell_of_row W _ 0 _ _ _ h1]; rfl⟩)
  have hFl : Fs.length ≤ 120 := by have h := hg1.1; unfold fitsB at h; rw [decide_eq_true_eq, i2_length] at h; exact h.1
  have hGl : Gs.length ≤ 120 := by have h := hg2.1; unfold fitsB at h; rw [decide_eq_true_eq, i2_length] at h; exact h.1
  obtain ⟨U, hU⟩ : ∃ U, U = codesOf Fs ++ codesOf Gs := ⟨_, rfl⟩
  have hUl : U.length ≤ 240 := by rw [hU, List.length_append, codesOf_length, codesOf_length]; omega
  have HR1 := Lib.hid (rootR_any (U := U) v1 Fs (BkN.start e2) (h1.low.fr0 f1) (fun k hk e => by have hk : k < w.heap.size := hk; have e : k = bb := e; omega) hg1 (fun x hx => by rw [hU]; exact List.mem_append_left _ hx) (by omega))
  have HR2 := Lib.hid (fun (W : World) (S' : Nat → Prop) (V : List PL) (BV : List Nat) (hf : Fr (fun q => bb ≤ q) w1 W) (hb : BkN U S' W bb V BV) (hS : ∀ q, S' q → bb ≤ q) => rootR_any (U := U) v2 Gs hb ((h2.low.fr0 f1).fr hf (fun k hk e => by have hk : k < w.heap.size := hk; have e : bb ≤ k := e; omega)) (fun k hk e => by have hk : k < w.heap.size := hk; have := hS k e; omega) hg2 (fun x hx => by rw [hU]; exact List.mem_append_right _ hx) (by omega))
  have F1 := Lib.hid f1; have HS1 := Lib.hid hs1; have HUl := Lib.hid hUl; have HBb := Lib.hid hbb
  obtain ⟨a1, c1, rfl, z⟩ := id h1
  clear z
  obtain ⟨a2, c2, rfl, z⟩ := id h2
  clear z h1 h2 f1 hs1 e0 e1 e2 hg1 hg2 hFl hGl hU hUl
  obtain ⟨k0, k1⟩ := HK.out w1 (Fr.refl _ _)
  go_enter Tryz.func141, Tryz.ntmps141
  go_wp2_with fail
  rw [← hw1, ← hbb]
  clear hw1 hbb
  (with_reducible refine HR1.out.mono ?_)
  rintro e w2 ⟨r1, V1, B1, S1, rfl, b1, p1, s1, f2, i1, q1⟩
  have hS1 : ∀ q, S1 q → bb ≤ q := fun q hq => (s1 q hq).elim (fun e => by have e : q = bb := e; omega) (fun e => by have := HS1.out; have := HBb.out; omega)
  have F2 := Lib.hid (f2.mono (fun q _ e => by have e : q = bb := e; omega) : Fr (fun q => bb ≤ q) w1 w2)
  have HR2' := Lib.hid (HR2.out w2 S1 V1 B1 F2.out b1 hS1)
  have HS1' := Lib.hid hS1; have HI1 := Lib.hid i1; have HQ1 := Lib.hid q1
  clear b1 p1 s1 f2 i1 q1 hS1 k0 k1
  obtain ⟨k0, k1⟩ := HK.out w2 F2.out
  go_wp2_with fail
  (with_reducible refine HR2'.out.mono ?_)
  rintro e w3 ⟨r2, V2, B2, S2, rfl, b2, p2, s2, f3, i2', q2⟩
  have hl2 := b2.len
  have hl3 := p2.length_le
  have hq1 : (codesOf V2).getD r1 0 = codeF Fs := by rw [code_mono p2 HI1.out]; exact HQ1.out
  have F3 := Lib.hid (F2.out.trans f3 (fun q hq e => by have := HS1'.out q e; omega) : Fr (fun q => bb ≤ q) w1 w3)
  obtain ⟨bnv, bv, NV, hBA, _⟩ := id b2.book
  have hbv : w3.cell? ⟨bb, 0, none⟩ = some bnv := by rw [cell_of_row _ _ 0 _ _ _ hBA.blk]; rfl
  have HO := Lib.hid (l4Of_any bb bnv V2 w3 hbv hBA.nodeL (by have := HUl.out; omega))
  have HB := Lib.hid b2.ok.book; have HI := Lib.hid (And.intro (show r1 < V2.length from by have := HI1.out; omega) i2')
  have hval : geV (codesOf V2) r1 r2 = res := by unfold geV; rw [hq1, q2, HRes.out]
  have HVal := Lib.hid hval; have HL := Lib.hid (show V2.length < 1000 from by have := HUl.out; omega)
  clear hBA hbv b2 p2 s2 f3 i2' q2 hl2 hl3 hq1 hval k0 k1
  go_wp2_with fail
  (with_reducible refine HO.out.mono ?_)
  rintro e w4 ⟨ob, kb, rfl, hob, hkb, hO, f4⟩
  have HG := Lib.hid (geq_full HB.out ob bb kb r1 r2 HL.out HI.out.1 HI.out.2 _ w4 hO (KOK.start _ _ _ _))
  have F4 := Lib.hid (F3.out.trans f4 (fun _ _ q => q.elim)); have HKb := Lib.hid (show w.heap.size ≤ kb from by have := F3.out.size; have := HS1.out; omega)
  clear hob hkb hO f4
  go_wp2_with fail
  (with_reducible refine HG.out.mono ?_)
  rintro e w5 ⟨rfl, K', _, _, f5⟩
  rw [HVal.out]
  have F5 := Lib.hid ((F1.out.trans F4.out (fun q hq e => by have := HBb.out; have e : bb ≤ q := e; omega)).trans f5 (fun q hq e => by have := HKb.out; have e : q = kb := e; omega))
  clear f5
  go_wp2
  go_ret
  exact ⟨rfl, F5.out⟩
theorem l4Code_any (more less : Bool) (w : World) : Calls Tryz.prog 140 #[.bool more, .bool less] w fun e w' => e = .returned (.int .i64 (outM more less)) ∧ w' = w := by
  cases more <;> cases less
  all_goals
    go_enter Tryz.func140, Tryz.ntmps140
    go_wp2
    go_ret
    exact ⟨rfl, rfl⟩
def cmpV (g1 g2 : Bool) (Fi Gi : List (List Int × List Int)) : Int := if (g1 && g2) = true then outM (geC (codeF (natF Fi)) (codeF (natF Gi))) (geC (codeF (natF Gi)) (codeF (natF Fi))) else 0
set_option maxRecDepth 4000 in
set_option maxHeartbeats 8000000 in
theorem compareR_any {R S : Nat → Prop} (v1 v2 : Value) (Fi Gi : List (List Int × List Int)) (w : World) (h1 : NodeL R encI w v1 Fi) (h2 : NodeL S encI w v2 Gi) (g1 g2 : Bool) (hg1 : g1 = true ↔ goodI Fi) (hg2 : g2 = true ↔ goodI Gi) :
    Calls Tryz.prog 79 #[.agg #[v1], .agg #[v2]] w fun e w' => e = .returned (.tuple #[.int .i64 (cmpV g1 g2 Fi Gi), .bool (g1 && g2)]) ∧ Fr NoM w w' := by
  obtain ⟨cv, hcv⟩ : ∃ cv, cv = cmpV g1 g2 Fi Gi := ⟨_, rfl⟩
  rw [← hcv]
  have HCv := Lib.hid hcv
  clear hcv
  obtain ⟨w1, hw1⟩ : ∃ w1, w1 = (w.alloc (.cells #[v1] 31)).alloc (.cells #[v2] 31) := ⟨_, rfl⟩
  have f1 : Fr NoM w w1 := by rw [hw1]; exact ((Fr.refl NoM w).alloc _).alloc _
  have e0 : w1.heap[w.heap.size]? = some (.cells #[v1] 31 (0, 0)) := by rw [hw1]; exact ((Fr.refl NoM _).alloc _).heap (heap_alloc_new w _) (fun q => q)
  have e1 : w1.heap[w.heap.size + 1]? = some (.cells #[v2] 31 (0, 0)) := by
    have h := heap_alloc_new (w.alloc (.cells #[v1] 31)) (.cells #[v2] 31)
    rw [World.size_alloc] at h
    rw [hw1]; exact h
  have HK := Lib.hid (fun (W : World) (f : Fr NoM w1 W) => show W.cell? ⟨w.heap.size, 0, none⟩ = some v1 ∧ W.cell? ⟨w.heap.size + 1, 0, none⟩ = some v2 from by
    have h0 := f.heap e0 (fun q => q)
    have h1 := f.heap e1 (fun q => q)
    exact ⟨by rw [cell_of_row W _ 0 _ _ _ h0]; rfl, by rw [cell_of_row W _ 0 _ _ _ h1]; rfl⟩)
  have HG1 := Lib.hid (l3Good_g v1 Fi w1 (h1.fr0 f1) g1 hg1)
  have HG2 := Lib.hid (fun (W : World) (f : Fr NoM w1 W) => l3Good_g v2 Gi W ((h2.fr0 f1).fr0 f) g2 hg2)
  have HN1 := Lib.hid (fun (W : World) (f : Fr NoM w1 W) => ((h1.fr0 f1).fr0 f : NodeL R encI W v1 Fi))
  have HN2 := Lib.hid (fun (W : World) (f : Fr NoM w1 W) => ((h2.fr0 f1).fr0 f : NodeL S encI W v2 Gi))
  have F1 := Lib.hid f1; have Hg1 := Lib.hid hg1; have Hg2 := Lib.hid hg2
  obtain ⟨a1, c1, rfl, z⟩ := id h1
  clear z
  obtain ⟨a2, c2, rfl, z⟩ := id h2
  clear z h1 h2 f1 e0 e1 hg1 hg2
  obtain ⟨k0, k1⟩ := HK.out w1 (Fr.refl _ _)
  go_enter Tryz.func79, Tryz.ntmps79
  go_wp2_with fail
  rw [← hw1]
  clear hw1
  (with_reducible refine HG1.out.mono ?_)
  rintro e w2 ⟨rfl, f2⟩
  have F2 := Lib.hid f2
  clear k0 k1 f2
  obtain ⟨k0, k1⟩ := HK.out w2 F2.out
  cases g1 with
  | false =>
    have hcv : cv = 0 := by rw [HCv.out]; rfl
    subst hcv
    go_wp2
    go_ret2
    exact ⟨rfl, F1.out.trans F2.out (fun _ _ q => q)⟩
  | true =>
    go_wp2_with fail
    (with_reducible refine (HG2.out w2 F2.out).mono ?_)
    rintro e w3 ⟨rfl, f3⟩
    have F3 := Lib.hid (F2.out.trans f3 (fun _ _ q => q))
    clear k0 k1 f3
    obtain ⟨k0, k1⟩ := HK.out w3 F3.out
    cases g2 with
    | false =>
      have hcv : cv = 0 := by rw [HCv.out]; rfl
      subst hcv
      go_wp2
      go_ret2
      exact ⟨rfl, F1.out.trans F3.out (fun _ _ q => q)⟩
    | true =>
      have q1 : goodI Fi := by have h := Hg1.out; simpa using h
      have q2 : goodI Gi := by have h := Hg2.out; simpa using h
      obtain ⟨Fs, rfl⟩ := goodI_nat q1
      obtain ⟨Gs, rfl⟩ := goodI_nat q2
      have HGe1 := fun (W : World) (f : Fr NoM w1 W) => l4Geq_any (.slice a1 (i2 Fs).length c1) (.slice a2 (i2 Gs).length c2) Fs Gs W (HN1.out W f).ofI (HN2.out W f).ofI q1 q2
      have HGe2 := fun (W : World) (f : Fr NoM w1 W) => l4Geq_any (.slice a2 (i2 Gs).length c2) (.slice a1 (i2 Fs).length c1) Gs Fs W (HN2.out W f).ofI (HN1.out W f).ofI q2 q1
      obtain ⟨x, hx⟩ : ∃ x, x = geC (codeF Fs) (codeF Gs) := ⟨_, rfl⟩
      obtain ⟨y, hy⟩ : ∃ y, y = geC (codeF Gs) (codeF Fs) := ⟨_, rfl⟩
      have hr : cv = outM x y := by rw [HCv.out]; unfold cmpV; rw [natF_i2, natF_i2, hx, hy]; rfl
      rw [← hx] at HGe1
      rw [← hy] at HGe2
      have HGe1 := Lib.hid HGe1; have HGe2 := Lib.hid HGe2
      have HCd := Lib.hid (fun (W : World) => show Calls Tryz.prog 140 #[.bool x, .bool y] W fun e w' => e = .returned (.int .i64 cv) ∧ w' = W from by rw [hr]; exact l4Code_any x y W)
      clear hx hy hr q1 q2
      have K0 : Fr NoM w3 w3.drew := (Fr.refl NoM w3).drew
      clear k0 k1
      obtain ⟨k0, k1⟩ := HK.out w3.drew (F3.out.trans K0 (fun _ _ q => q))
      go_upto_region 3 with fail
      go_region_law (first
        | (go_simp; first
          | (go_at_call 141; (with_reducible refine (HGe1.out _ (F3.out.trans K0 (fun _ _ q => q))).mono ?_); rintro e wa ⟨rfl, fa⟩; have ka : Fr NoM w3 wa := K0.trans fa (fun _ _ q => q); obtain ⟨i0, i1⟩ := HK.out wa (F3.out.trans ka (fun _ _ q => q)))
          | (go_at_call 141; (with_reducible refine (HGe2.out _ (F3.out.trans ka (fun _ _ q => q))).mono ?_); rintro e wb ⟨rfl, fb⟩; have kb : Fr NoM w3 wb := ka.trans fb (fun _ _ q => q))
          | (go_at_call 140; (with_reducible refine (HCd.out _).mono ?_); rintro e wc ⟨rfl, hwc⟩; subst hwc)
          | fail)
        | fail)
      all_goals
        have HKb := Lib.hid kb
        go_wp2
        go_ret2
        exact ⟨rfl, (F1.out.trans F3.out (fun _ _ q => q)).trans HKb.out (fun _ _ q => q)⟩
end Go.Proofs.YtiidnnpanickaaaGreatDoor
