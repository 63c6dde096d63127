/- The walks of TimesForm, the program's and the reference's. -/
import Derived.Test.YtioiljboihehcaaGreatDoorTimesP
namespace Go.Proofs.YtioiljboihehcaaGreatDoor
set_option linter.unusedVariables false
set_option linter.unusedSimpArgs false
open Go.RowKit

theorem many_copies {m : Nat} (hm : m ≤ 12) (Gi : List (List Int × List Int)) : manyR (List.replicate m Gi) = manyF (List.replicate m Gi) := by
  unfold manyR
  rw [List.length_replicate, if_pos hm]
theorem times_neg {m : Nat} (hm : m ≤ 12) (h0 : 0 < m) {Fs : List PL} (hg : goodI (i2 Fs)) : timesF (-(m : Int)) (i2 Fs) = manyR (List.replicate m (i2 (negN Fs))) := by
  rw [timesF_of ⟨by omega, by omega, hg⟩, if_pos (by omega), many_copies hm, natF_i2]
  congr 2
  omega
theorem times_pos {m : Nat} (hm : m ≤ 12) {Fi : List (List Int × List Int)} (hg : goodI Fi) : timesF (m : Int) Fi = manyR (List.replicate m Fi) := by
  rw [timesF_of ⟨by omega, by omega, hg⟩, if_neg (by omega), many_copies hm]
  congr 2
set_option maxRecDepth 4000 in
set_option maxHeartbeats 8000000 in
theorem timesFormP_any {R : Nat → Prop} (n : Int) (nv : Value) (Fi : List (List Int × List Int)) (w : World) (h : NodeL R encI w nv Fi) (mr : Option (List PL)) (hmr : mr = timesF n Fi) :
    Calls Tryz.prog 24 #[.int .i64 n, .agg #[nv]] w fun e w' => ∃ v', e = .returned (.tuple #[.agg #[v'], .bool mr.isSome]) ∧ NodesS w.heap.size w' v' (mr.getD []) ∧ Fr NoM w w' := by
  obtain ⟨g, hg⟩ := good_dec Fi
  obtain ⟨w1, hw1⟩ : ∃ w1, w1 = (w.alloc (.cells #[nv] 28)).alloc (.cells #[.slice none 0 0] 28) := ⟨_, rfl⟩
  have f1 : Fr NoM w w1 := by rw [hw1]; exact ((Fr.refl NoM w).alloc _).alloc _
  have hs1 : w1.heap.size = w.heap.size + 2 := by rw [hw1]; simp
  have e0 : w1.heap[w.heap.size]? = some (.cells #[nv] 28 (0, 0)) := by rw [hw1]; exact ((Fr.refl NoM _).alloc _).heap (heap_alloc_new w _) (fun q => q)
  have e1 : w1.heap[w.heap.size + 1]? = some (.cells #[.slice none 0 0] 28 (0, 0)) := by
    have h := heap_alloc_new (w.alloc (.cells #[nv] 28)) (.cells #[.slice none 0 0] 28)
    rw [World.size_alloc] at h
    rw [hw1]; exact h
  have HK := Lib.hid (fun (W : World) (f : Fr NoM w1 W) => show W.cell? ⟨w.heap.size, 0, none⟩ = some nv ∧ W.cell? ⟨w.heap.size + 1, 0, none⟩ = some (.slice none 0 0) ∧ W.frozen? ⟨w.heap.size + 1, 0, none⟩ = false from by
    have h0 := f.heap e0 (fun q => q)
    have h1 := f.heap e1 (fun q => q)
    exact ⟨by rw [cell_of_row W _ 0 _ _ _ h0]; rfl, by rw [cell_of_row W _ 0 _ _ _ h1]; rfl, by simp [World.frozen?, h1]⟩)
  have HF1 := Lib.hid f1; have HS1 := Lib.hid hs1; have HG := Lib.hid hg; have HN := Lib.hid (fun (W : World) (f : Fr NoM w1 W) => (h.fr0 f1).fr0 f); have HM := Lib.hid hmr
  have HSig := Lib.hid (goodFormP_any nv Fi w1 (h.fr0 f1) g hg)
  obtain ⟨na, nc, rfl, z⟩ := id h
  clear z h f1 hs1 e0 e1 hg hmr
  obtain ⟨k0, k1, z1⟩ := HK.out w1 (Fr.refl _ _)
  by_cases hlo : n < -12
  · have hn : mr = none := by rw [HM.out]; exact timesF_no (fun h => by omega)
    subst hn
    go_enter Tryz.func24, Tryz.ntmps24
    go_wp2_with fail
    rw [← hw1]
    refine bodyPost_ret (v := .tuple #[.agg #[.slice none 0 0], .bool false]) (by simp [results, Tryz.results24, go_sem, k1]) rfl ?_
    exact ⟨_, rfl, NodesS.nil _ _, HF1.out⟩
  by_cases hhi : 12 < n
  · have hn : mr = none := by rw [HM.out]; exact timesF_no (fun h => by omega)
    subst hn
    go_enter Tryz.func24, Tryz.ntmps24
    go_wp2_with fail
    rw [← hw1]
    refine bodyPost_ret (v := .tuple #[.agg #[.slice none 0 0], .bool false]) (by simp [results, Tryz.results24, go_sem, k1]) rfl ?_
    exact ⟨_, rfl, NodesS.nil _ _, HF1.out⟩
  go_enter Tryz.func24, Tryz.ntmps24
  go_wp2_with fail
  rw [← hw1]
  clear hw1
  refine HSig.out.mono ?_
  rintro e w2 ⟨rfl, f2⟩
  have HF2 := Lib.hid f2
  clear f2 k0 k1 z1
  cases g with
  | false =>
    have hn : mr = none := by rw [HM.out]; exact timesF_no (fun h => by have := HG.out.2 h.2.2; cases this)
    subst hn
    obtain ⟨k0, k1, z1⟩ := HK.out w2 HF2.out
    go_wp2
    refine bodyPost_ret (v := .tuple #[.agg #[.slice none 0 0], .bool false]) (by simp [results, Tryz.results24, go_sem, k1]) rfl ?_
    exact ⟨_, rfl, NodesS.nil _ _, (HF1.out.trans HF2.out (fun _ _ q => q)).setCell _ _ (fun h => by have h : w.heap.size + 1 < w.heap.size := h; omega)⟩
  | true =>
    have hgd := HG.out.1 rfl
    obtain ⟨Fs, rfl⟩ := goodI_nat hgd
    obtain ⟨k0, k1, z1⟩ := HK.out w2 HF2.out
    by_cases hneg : n < 0
    · obtain ⟨m, rfl⟩ : ∃ m : Nat, n = -(m : Int) := ⟨n.natAbs, by omega⟩
      have hm12 : m ≤ 12 := by omega
      have hm0 : 0 < m := by omega
      have hmr := HM.out
      rw [times_neg hm12 hm0 hgd] at hmr
      have HMr := Lib.hid hmr; have HM12 := Lib.hid hm12
      have hnf := negFormP_any (.slice na (i2 Fs).length nc) (i2 Fs) w2 (HN.out w2 HF2.out) true (by simp [hgd])
      rw [if_pos rfl, natF_i2] at hnf
      have HNf := Lib.hid hnf
      have hmm : -(-(m : Int)) = (m : Int) := by omega
      clear hmr hnf hgd hlo hhi
      go_wp2_with fail
      refine HNf.out.mono ?_
      rintro e w3 ⟨v3, rfl, n3, f3⟩
      obtain ⟨xa, xc, rfl, zz⟩ := id n3.nodeL
      have f4 : ∀ o, Fr NoM w2 (w3.alloc o) := fun o => f3.alloc o
      have HN3 := Lib.hid (fun o => (n3.nodeL.fr0 ((Fr.refl NoM w3).alloc o)).toI)
      have HF3 := Lib.hid (fun o => (HF2.out.trans (f3.alloc o) (fun _ _ q => q) : Fr NoM w1 (w3.alloc o)))
      clear zz n3 f3 f4 k0 k1 z1
      go_wp2_with fail
      refine (copies_any _ _ m _ (HN3.out _) HM12.out).mono ?_
      rintro e w5 ⟨cv, rfl, hcv, f5⟩
      obtain ⟨ca, cc, hcve, _⟩ := hcv.shape
      rw [List.length_replicate] at hcve
      subst hcve
      have HSm := Lib.hid (sumManyP_any _ _ w5 hcv mr HMr.out)
      have HF5 := Lib.hid ((HF3.out _).trans f5 (fun _ _ q => q))
      clear hcv f5
      go_wp2_with fail
      with_reducible refine HSm.out.mono ?_
      rintro e w6 ⟨v6, rfl, n6, f6⟩
      have HF6 := Lib.hid (HF5.out.trans f6 (fun _ _ q => q))
      obtain ⟨k0, k1, z1⟩ := HK.out w6 HF6.out
      have HSz := Lib.hid (show w.heap.size + 2 ≤ w5.heap.size from by have := HF5.out.size; have := HS1.out; omega)
      obtain ⟨FN, hFN⟩ : ∃ FN, FN = mr.getD [] := ⟨_, rfl⟩
      obtain ⟨bo, hbo⟩ : ∃ bo, bo = mr.isSome := ⟨_, rfl⟩
      rw [← hFN] at n6
      have HFN := Lib.hid hFN; have HBo := Lib.hid hbo
      rw [← hbo]
      obtain ⟨ya, yc, rfl, zz⟩ := id n6.nodeL
      have HN6 := Lib.hid n6
      clear zz n6 f6 hFN hbo k0
      go_wp2
      refine bodyPost_ret (v := .tuple #[.agg #[.slice ya FN.length yc], .bool bo]) (by simp [results, Tryz.results24, go_sem, k1]) rfl ?_
      refine ⟨.slice ya FN.length yc, by rw [HBo.out], ?_, (HF1.out.trans HF6.out (fun _ _ q => q)).setCell _ _ (fun h => by have h : w.heap.size + 1 < w.heap.size := h; omega)⟩
      rw [← HFN.out]
      exact (HN6.out.fr (Fr.set w6 ⟨w.heap.size + 1, 0, none⟩ _) (fun q hq _ e => by have e : q = w.heap.size + 1 := e; have := HSz.out; omega)).base (by have := HSz.out; omega)
    · obtain ⟨m, rfl⟩ : ∃ m : Nat, n = (m : Int) := ⟨n.natAbs, by omega⟩
      have hm12 : m ≤ 12 := by omega
      have hmr := HM.out
      rw [times_pos hm12 hgd] at hmr
      have HMr := Lib.hid hmr; have HM12 := Lib.hid hm12
      have HN2 := Lib.hid (HN.out w2 HF2.out)
      clear hmr hgd hlo hhi
      go_wp2_with fail
      refine (copies_any _ _ m _ HN2.out HM12.out).mono ?_
      rintro e w5 ⟨cv, rfl, hcv, f5⟩
      obtain ⟨ca, cc, hcve, _⟩ := hcv.shape
      rw [List.length_replicate] at hcve
      subst hcve
      have HSm := Lib.hid (sumManyP_any _ _ w5 hcv mr HMr.out)
      have HF5 := Lib.hid (HF2.out.trans f5 (fun _ _ q => q))
      clear hcv f5 k0 k1 z1
      go_wp2_with fail
      with_reducible refine HSm.out.mono ?_
      rintro e w6 ⟨v6, rfl, n6, f6⟩
      have HF6 := Lib.hid (HF5.out.trans f6 (fun _ _ q => q))
      obtain ⟨k0, k1, z1⟩ := HK.out w6 HF6.out
      have HSz := Lib.hid (show w.heap.size + 2 ≤ w5.heap.size from by have := HF5.out.size; have := HS1.out; omega)
      obtain ⟨FN, hFN⟩ : ∃ FN, FN = mr.getD [] := ⟨_, rfl⟩
      obtain ⟨bo, hbo⟩ : ∃ bo, bo = mr.isSome := ⟨_, rfl⟩
      rw [← hFN] at n6
      have HFN := Lib.hid hFN; have HBo := Lib.hid hbo
      rw [← hbo]
      obtain ⟨ya, yc, rfl, zz⟩ := id n6.nodeL
      have HN6 := Lib.hid n6
      clear zz n6 f6 hFN hbo k0
      go_wp2
      refine bodyPost_ret (v := .tuple #[.agg #[.slice ya FN.length yc], .bool bo]) (by simp [results, Tryz.results24, go_sem, k1]) rfl ?_
      refine ⟨.slice ya FN.length yc, by rw [HBo.out], ?_, (HF1.out.trans HF6.out (fun _ _ q => q)).setCell _ _ (fun h => by have h : w.heap.size + 1 < w.heap.size := h; omega)⟩
      rw [← HFN.out]
      exact (HN6.out.fr (Fr.set w6 ⟨w.heap.size + 1, 0, none⟩ _) (fun q hq _ e => by have e : q = w.heap.size + 1 := e; have := HSz.out; omega)).base (by have := HSz.out; omega)
end Go.Proofs.YtioiljboihehcaaGreatDoor
