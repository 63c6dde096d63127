import Derived.Test.YtiidnnpanickaaaGreatDoorZbCmpNum
import Derived.Test.YtiidnnpanickaaaGreatDoorZbToDy
import Derived.Test.YtiidnnpanickaaaGreatDoorZbLawMark
/- What the claim of FnExactCompareNumberCard needs of: CmpNumWalk. -/
namespace Go.Proofs.YtiidnnpanickaaaGreatDoor
set_option linter.unusedVariables false
set_option linter.unusedSimpArgs false
open Go.RowKit
set_option maxRecDepth 8000 in
set_option maxHeartbeats 8000000 in
theorem cmpNumLaw_any {R : Nat → Prop} (T P : Int) (v : Value) (Fi : List IL) (W : World) (hN : NodeL R encI W v Fi) (hT : -9223372036854775808 ≤ T ∧ T ≤ 9223372036854775807) (hP : -9223372036854775808 ≤ P ∧ P ≤ 9223372036854775807) :
    Calls Tryz.prog 6 #[.agg #[v], .agg #[.int .i64 T, .int .i64 P]] W fun e W' => e = .returned (.bool true) ∧ Fr NoM W W' := by
  clear hT hP
  obtain ⟨W1, hW1⟩ : ∃ W1, W1 = (W.alloc (.cells #[v] 24)).alloc (.cells #[.int .i64 T, .int .i64 P] 54) := ⟨_, rfl⟩
  have f1 : Fr NoM W W1 := by rw [hW1]; exact ((Fr.refl NoM W).alloc _).alloc _
  have hs1 : W1.heap.size = W.heap.size + 2 := by rw [hW1]; simp
  have e1 : W1.heap[W.heap.size]? = some (.cells #[v] 24 (0, 0)) := by rw [hW1]; exact ((Fr.refl NoM _).alloc _).heap (heap_alloc_new W _) (fun q => q)
  have e2 : W1.heap[W.heap.size + 1]? = some (.cells #[.int .i64 T, .int .i64 P] 54 (0, 0)) := by
    have h := heap_alloc_new (W.alloc (.cells #[v] 24)) (.cells #[.int .i64 T, .int .i64 P] 54)
    rw [World.size_alloc] at h
    rw [hW1]; exact h
  obtain ⟨va, vc, rfl, z⟩ := id hN
  clear z
  have HIn := Lib.hid (fun (w : World) (f : Fr NoM W1 w) => (⟨by rw [cell_of_row w _ 0 _ _ _ (f.heap e1 (fun q => q))]; rfl, by rw [cell_of_row w _ 0 _ _ _ (f.heap e2 (fun q => q))]; rfl, by rw [cell_of_row w _ 1 _ _ _ (f.heap e2 (fun q => q))]; rfl⟩ : w.cell? ⟨W.heap.size, 0, none⟩ = some (.slice va Fi.length vc) ∧ w.cell? ⟨W.heap.size + 1, 0, none⟩ = some (.int .i64 T) ∧ w.cell? ⟨W.heap.size + 1, 1, none⟩ = some (.int .i64 P)))
  have HNd := Lib.hid (fun (w : World) (f : Fr NoM W1 w) => (hN.fr0 (f1.trans f (fun _ _ q => q)) : NodeL R encI w (.slice va Fi.length vc) Fi))
  have HSz := Lib.hid (szForm_any (.slice va Fi.length vc) Fi 1048576 W1 (hN.fr0 f1) (Nat.le_refl _))
  have F1 := Lib.hid f1; have HS1 := Lib.hid hs1
  obtain ⟨c0, c1, c2⟩ := HIn.out W1 (Fr.refl _ _)
  clear hN f1 hs1 e1 e2
  by_cases hbig : 1048576 < Fi.length + cntI Fi
  · have hsz := HSz.out
    rw [if_pos hbig] at hsz
    have HZ := Lib.hid hsz
    clear hsz HSz
    go_enter Tryz.func6, Tryz.ntmps6
    go_wp2_with fail
    rw [← hW1]
    refine HZ.out.mono ?_
    rintro e w2 ⟨rfl, f2⟩
    go_wp2_with fail
    go_ret
    exact ⟨rfl, F1.out.trans f2 (fun _ _ q => q)⟩
  · obtain ⟨k0, hk0⟩ : ∃ k0 : Nat, k0 = 1048576 - (Fi.length + cntI Fi) := ⟨_, rfl⟩
    have hsz := HSz.out
    rw [if_neg hbig, ← hk0] at hsz
    obtain ⟨g1, hg1⟩ := good_dec Fi
    obtain ⟨g, hg⟩ := good_dyadic T P
    obtain ⟨ok, hok⟩ : ∃ ok, ok = (g && fitsB (numN T P.toNat)) := ⟨_, rfl⟩
    obtain ⟨cv, hcv⟩ : ∃ cv, cv = cnV g1 ok Fi (numN T P.toNat) := ⟨_, rfl⟩
    obtain ⟨cb, hcb⟩ : ∃ cb, cb = (ok && g1) := ⟨_, rfl⟩
    have HR := Lib.hid (fun (w : World) (S : Nat → Prop) (nv : Value) (h : NodeL S encI w nv Fi) => cmpNumR_any nv Fi T P w h g1 hg1 g hg ok hok cv hcv cb hcb)
    have HP := Lib.hid (fun (w : World) (S : Nat → Prop) (nv : Value) (h : NodeL S encI w nv Fi) => cmpNumP_any nv Fi T P w h g1 hg1 g hg ok hok cv hcv cb hcb)
    have HTo := Lib.hid (fun (w : World) (f : Fr NoM W1 w) => toForm_any (.slice va Fi.length vc) Fi w (HNd.out w f) (by omega) (fun y hy => by
      obtain ⟨j, hj, rfl⟩ := List.getElem_of_mem hy
      have := cntI_mem (List.getElem?_eq_getElem hj)
      omega))
    have HDy := Lib.hid (fun (w : World) => toDyadic_any T P w)
    have HZ := Lib.hid hsz
    have HEqI := Lib.hid (fun (av bv : Value) (w : World) (R S : Nat → Prop) (hA : NodeL R encI w av Fi) (hB : NodeL S encI w bv Fi) => show Calls Tryz.prog 16 #[.agg #[av], .agg #[bv]] w fun e w' => e = .returned (.bool true) ∧ Fr NoM w w' from by
      have h := eqFormI_any av bv Fi Fi w hA hB
      rw [decide_eq_true (rfl : Fi = Fi)] at h
      exact h)
    clear hg1 hg hok hcv hcb HSz hsz hbig hk0
    go_enter Tryz.func6, Tryz.ntmps6
    go_wp2_with fail
    rw [← hW1]
    clear hW1
    refine HZ.out.mono ?_
    rintro e w2 ⟨rfl, f2⟩
    have F2 := Lib.hid f2
    clear f2 c0 c1 c2
    have K2 : Fr NoM w2 w2.drew := (Fr.refl NoM w2).drew
    go_upto_region 5 with fail
    go_cut [6, 7] from 16 to 23 (fun v6 v7 W' => v6 = .int .i64 cv ∧ v7 = .bool cb ∧ Fr NoM W1 W')
    case first =>
      go_region_held3 (fun (w : World) => w.cell? ⟨W.heap.size, 0, none⟩ = some (.slice va Fi.length vc) ∧ w.cell? ⟨W.heap.size + 1, 0, none⟩ = some (.int .i64 T) ∧ w.cell? ⟨W.heap.size + 1, 1, none⟩ = some (.int .i64 P))
        (first | exact HIn.out _ (F2.out.trans (by assumption) (fun _ _ q => q)))
        (first
          | (go_at_call 13; (with_reducible refine (HTo.out _ (F2.out.trans (by assumption) (fun _ _ q => q))).mono ?_); rintro e wa ⟨va', na', rfl, hna, fa⟩; have ka : Fr NoM w2 wa := Fr.trans (by assumption) fa (fun _ _ q => q))
          | (go_at_call 33; (with_reducible refine (HDy.out _).mono ?_); rintro e wb ⟨rfl, fb⟩; have kb : Fr NoM w2 wb := Fr.trans (by assumption) fb (fun _ _ q => q); have hnb := hna.nodeL.fr0 fb)
          | (go_at_call 32; (with_reducible refine (HR.out _ _ _ hnb).mono ?_); rintro e wc ⟨rfl, fc⟩; have kc : Fr NoM w2 wc := Fr.trans (by assumption) fc (fun _ _ q => q))
          | fail)
      all_goals
        go_wp2_with fail
        go_meet
        case rel => exact ⟨rfl, rfl, F2.out.trans kc (fun _ _ q => q)⟩
    case rest =>
    obtain ⟨rfl, rfl, f5⟩ := hcut
    have F5 := Lib.hid f5
    clear f5 K2
    obtain ⟨c0, c1, c2⟩ := HIn.out wc F5.out
    go_wp2_with fail
    refine (HTo.out wc F5.out).mono ?_
    rintro e w6 ⟨x0, NX, rfl, n6, f6⟩
    obtain ⟨ax, cx, rfl, z⟩ := id n6.nodeL
    have HN6 := Lib.hid n6
    obtain ⟨w7, hw7⟩ : ∃ w7, w7 = w6.alloc (.cells #[.slice ax Fi.length cx] 31) := ⟨_, rfl⟩
    have f7 : Fr NoM w6 w7 := by rw [hw7]; exact (Fr.refl NoM w6).alloc _
    have e7 : w7.heap[w6.heap.size]? = some (.cells #[.slice ax Fi.length cx] 31 (0, 0)) := by rw [hw7]; exact heap_alloc_new w6 _
    have HX := Lib.hid (fun (w : World) (f : Fr NoM w7 w) => (by rw [cell_of_row w _ 0 _ _ _ (f.heap e7 (fun q => q))]; rfl : w.cell? ⟨w6.heap.size, 0, none⟩ = some (.slice ax Fi.length cx)))
    have HXn := Lib.hid (fun (w : World) (f : Fr NoM w7 w) => (HN6.out.nodeL.fr0 f7).fr0 f)
    have F7 := Lib.hid ((F5.out.trans f6 (fun _ _ q => q)).trans f7 (fun _ _ q => q))
    clear z n6 f6 f7 e7 c0 c1 c2
    go_upto_region 7 with fail
    rw [← hw7]
    clear hw7
    have K7 : Fr NoM w7 w7.drew := (Fr.refl NoM w7).drew
    go_cut [9, 10] from 26 to 32 (fun v9 v10 W' => v9 = .int .i64 cv ∧ v10 = .bool cb ∧ Fr NoM w7 W')
    case first =>
      go_region_held3 (fun (w : World) => w.cell? ⟨w6.heap.size, 0, none⟩ = some (.slice ax Fi.length cx) ∧ w.cell? ⟨W.heap.size + 1, 0, none⟩ = some (.int .i64 T) ∧ w.cell? ⟨W.heap.size + 1, 1, none⟩ = some (.int .i64 P))
        (first | exact ⟨HX.out _ (by assumption), (HIn.out _ (F7.out.trans (by assumption) (fun _ _ q => q))).2⟩)
        (first
          | (go_at_call 33; (with_reducible refine (HDy.out _).mono ?_); rintro e wb ⟨rfl, fb⟩; have kb : Fr NoM w7 wb := Fr.trans (by assumption) fb (fun _ _ q => q))
          | (go_at_call 34; (with_reducible refine (HP.out _ _ _ (HXn.out _ kb)).mono ?_); rintro e wd ⟨rfl, fd⟩; have kd : Fr NoM w7 wd := Fr.trans (by assumption) fd (fun _ _ q => q))
          | fail)
      all_goals
        go_wp2_with fail
        go_meet
        case rel => exact ⟨rfl, rfl, kd⟩
    case rest =>
    obtain ⟨rfl, rfl, f8⟩ := hcut
    have F8 := Lib.hid f8
    clear f8 K7
    go_upto_region 10 with fail
    have K8 : Fr NoM wc wc.drew := (Fr.refl NoM wc).drew
    have HF := Lib.hid (fun (w : World) (f : Fr NoM wc w) => (F8.out.trans f (fun _ _ q => q) : Fr NoM w7 w))
    have HC := Lib.hid (fun (w : World) (f : Fr NoM wc w) => (⟨HX.out _ (HF.out w f), (HIn.out _ (F7.out.trans (HF.out w f) (fun _ _ q => q))).1⟩ : w.cell? ⟨w6.heap.size, 0, none⟩ = some (.slice ax Fi.length cx) ∧ w.cell? ⟨W.heap.size, 0, none⟩ = some (.slice va Fi.length vc)))
    go_region_held3 (fun (w : World) => w.cell? ⟨w6.heap.size, 0, none⟩ = some (.slice ax Fi.length cx) ∧ w.cell? ⟨W.heap.size, 0, none⟩ = some (.slice va Fi.length vc))
      (first | exact HC.out _ (by assumption))
      (first
        | (go_at_call 13; (with_reducible refine (HTo.out _ (F7.out.trans (HF.out _ (by assumption)) (fun _ _ q => q))).mono ?_); rintro e wd ⟨va', na', rfl, hna, fa⟩; have ka : Fr NoM wc wd := Fr.trans (by assumption) fa (fun _ _ q => q))
        | (go_at_call 16; (with_reducible refine (HEqI.out _ _ _ _ _ (HXn.out _ (HF.out _ (by assumption))) hna.nodeL).mono ?_); rintro e we ⟨rfl, fb⟩; have kb : Fr NoM wc we := Fr.trans (by assumption) fb (fun _ _ q => q))
        | fail)
    all_goals
      have KB := Lib.hid kb
      go_wp2
      go_ret
      exact ⟨rfl, (F1.out.trans F7.out (fun _ _ q => q)).trans (HF.out _ KB.out) (fun _ _ q => q)⟩
end Go.Proofs.YtiidnnpanickaaaGreatDoor
