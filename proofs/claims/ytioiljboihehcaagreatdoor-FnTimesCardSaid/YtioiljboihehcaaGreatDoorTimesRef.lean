/- The walk of the reference's TimesForm. -/
import Derived.Test.YtioiljboihehcaaGreatDoorTimesForm
import Derived.Deep.CutRange
namespace Go.Proofs.YtioiljboihehcaaGreatDoor
set_option linter.unusedVariables false
set_option linter.unusedSimpArgs false
open Go.RowKit

theorem l1In12_any (n : Int) (w : World) (b : Bool) (hb : b = true ↔ -12 ≤ n ∧ n ≤ 12) : Calls Tryz.prog 92 #[.int .i64 n, .int .i64 (-12), .int .i64 12] w fun e w' => e = .returned (.bool b) ∧ Fr NoM w w' := by
  have HB := Lib.hid hb
  clear hb
  by_cases h1 : -12 ≤ n
  · by_cases h2 : n ≤ 12
    · have hb : b = true := HB.out.2 ⟨h1, h2⟩
      subst hb
      go_enter Tryz.func92, Tryz.ntmps92
      go_wp2
      go_ret
      exact ⟨by simp [h1, h2], Fr.refl _ _⟩
    · have hb : b = false := by
        cases b with
        | false => rfl
        | true => exact absurd (HB.out.1 rfl).2 h2
      subst hb
      go_enter Tryz.func92, Tryz.ntmps92
      go_wp2
      go_ret
      exact ⟨by simp [h2], Fr.refl _ _⟩
  · have hb : b = false := by
      cases b with
      | false => rfl
      | true => exact absurd (HB.out.1 rfl).1 h1
    subst hb
    go_enter Tryz.func92, Tryz.ntmps92
    go_wp2
    go_ret
    exact ⟨by simp [h1], Fr.refl _ _⟩
set_option maxRecDepth 4000 in
set_option maxHeartbeats 8000000 in
theorem timesFormR_any {R : Nat → Prop} (n : Int) (nv : Value) (Fi : List (List Int × List Int)) (w : World) (h : NodeL R encI w nv Fi) (mr : Option (List PL)) (hmr : mr = timesF n Fi) :
    Calls Tryz.prog 25 #[.int .i64 n, .agg #[nv]] w fun e w' => ∃ v', e = .returned (.tuple #[.agg #[v'], .bool mr.isSome]) ∧ NodeL (fun b => w.heap.size ≤ b) encN w' v' (mr.getD []) ∧ Fr NoM w w' := by
  obtain ⟨g, hg⟩ := good_dec Fi
  obtain ⟨b, hb⟩ : ∃ b : Bool, (b = true ↔ -12 ≤ n ∧ n ≤ 12) := by
    by_cases h : -12 ≤ n ∧ n ≤ 12
    · exact ⟨true, by simp [h]⟩
    · exact ⟨false, by simp [h]⟩
  obtain ⟨w1, hw1⟩ : ∃ w1, w1 = (w.alloc (.cells #[nv] 28)).alloc (.cells #[.slice none 0 0] 28) := ⟨_, rfl⟩
  have f1 : Fr NoM w w1 := by rw [hw1]; exact ((Fr.refl NoM w).alloc _).alloc _
  have hs1 : w1.heap.size = w.heap.size + 2 := by rw [hw1]; simp
  have e0 : w1.heap[w.heap.size]? = some (.cells #[nv] 28 (0, 0)) := by rw [hw1]; exact ((Fr.refl NoM _).alloc _).heap (heap_alloc_new w _) (fun q => q)
  have e1 : w1.heap[w.heap.size + 1]? = some (.cells #[.slice none 0 0] 28 (0, 0)) := by
    have h := heap_alloc_new (w.alloc (.cells #[nv] 28)) (.cells #[.slice none 0 0] 28)
    rw [World.size_alloc] at h
    rw [hw1]; exact h
  have HK := Lib.hid (fun (W : World) (f : Fr (fun q => q = w.heap.size) w1 W) => show W.cell? ⟨w.heap.size + 1, 0, none⟩ = some (.slice none 0 0) ∧ W.frozen? ⟨w.heap.size + 1, 0, none⟩ = false from by
    have h1 := f.heap e1 (fun q => by omega)
    exact ⟨by rw [cell_of_row W _ 0 _ _ _ h1]; rfl, by simp [World.frozen?, h1]⟩)
  have HE0 := Lib.hid (fun (W : World) (f : Fr NoM w1 W) => f.heap e0 (fun q => q))
  have HF1 := Lib.hid f1; have HS1 := Lib.hid hs1; have HG := Lib.hid hg; have HB := Lib.hid hb
  have HN := Lib.hid (fun (W : World) (f : Fr NoM w1 W) => ((h.low.fr0 f1).fr0 f : NodeL (· < w.heap.size) encI W nv Fi)); have HM := Lib.hid hmr
  have HIn := Lib.hid (l1In12_any n w1 b hb)
  have HSig := Lib.hid (fun (W : World) (f : Fr NoM w1 W) => l3Good_g nv Fi W ((h.fr0 f1).fr0 f) g hg)
  obtain ⟨na, nc, rfl, z⟩ := id h
  clear z h f1 hs1 e0 e1 hg hmr hb
  go_enter Tryz.func25, Tryz.ntmps25
  go_wp2_with fail
  rw [← hw1]
  clear hw1
  refine HIn.out.mono ?_
  rintro e w2 ⟨rfl, f2⟩
  have HF2 := Lib.hid f2
  clear f2
  cases b with
  | false =>
    have hn : mr = none := by rw [HM.out]; exact timesF_no (fun h => by have := HB.out.2 ⟨h.1, h.2.1⟩; cases this)
    subst hn
    obtain ⟨k1, z1⟩ := HK.out w2 HF2.out.any
    go_wp2_with fail
    refine bodyPost_ret (v := .tuple #[.agg #[.slice none 0 0], .bool false]) (by simp [results, Tryz.results25, go_sem, k1]) rfl ?_
    exact ⟨_, rfl, ⟨none, 0, rfl, Nat.le_refl _, by decide, by simp⟩, (HF1.out.trans HF2.out (fun _ _ q => q)).setCell _ _ (fun h => by have h : w.heap.size + 1 < w.heap.size := h; omega)⟩
  | true =>
    have hrange := HB.out.1 rfl
    have k0 : w2.cell? ⟨w.heap.size, 0, none⟩ = some (.slice na Fi.length nc) := by rw [cell_of_row _ _ 0 _ _ _ (HE0.out w2 HF2.out)]; rfl
    go_wp2_with fail
    refine (HSig.out w2 HF2.out).mono ?_
    rintro e w3 ⟨rfl, f3⟩
    have HF3 := Lib.hid (HF2.out.trans f3 (fun _ _ q => q))
    clear f3 k0
    cases g with
    | false =>
      have hn : mr = none := by rw [HM.out]; exact timesF_no (fun h => by have := HG.out.2 h.2.2; cases this)
      subst hn
      obtain ⟨k1, z1⟩ := HK.out w3 HF3.out.any
      go_wp2_with fail
      refine bodyPost_ret (v := .tuple #[.agg #[.slice none 0 0], .bool false]) (by simp [results, Tryz.results25, go_sem, k1]) rfl ?_
      exact ⟨_, rfl, ⟨none, 0, rfl, Nat.le_refl _, by decide, by simp⟩, (HF1.out.trans HF3.out (fun _ _ q => q)).setCell _ _ (fun h => by have h : w.heap.size + 1 < w.heap.size := h; omega)⟩
    | true =>
      have hgd := HG.out.1 rfl
      obtain ⟨Fs, rfl⟩ := goodI_nat hgd
      have HGd := Lib.hid hgd
      have hh0 := HE0.out w3 HF3.out
      have k0 : w3.cell? ⟨w.heap.size, 0, none⟩ = some (.slice na (i2 Fs).length nc) := by rw [cell_of_row _ _ 0 _ _ _ hh0]; rfl
      have HH0 := Lib.hid hh0
      clear hgd hh0
      go_upto_if 18 with fail
      go_cut [0] from 18 to 22 (fun x W => ∃ (m : Nat) (gv : Value) (Gi : List (List Int × List Int)), x = .int .i64 (m : Int) ∧ m ≤ 12 ∧ mr = manyR (List.replicate m Gi) ∧ W.heap[w.heap.size]? = some (.cells #[gv] 28 (0, 0)) ∧ NodeL (fun q => q ≠ w.heap.size) encI W gv Gi ∧ Fr (fun q => q = w.heap.size) w1 W)
      case first =>
        by_cases hneg : n < 0
        · obtain ⟨m, rfl⟩ : ∃ m : Nat, n = -(m : Int) := ⟨n.natAbs, by omega⟩
          have hm12 : m ≤ 12 := by omega
          have hmr := HM.out
          rw [times_neg hm12 (by omega) HGd.out] at hmr
          have HMr := Lib.hid hmr; have HM12 := Lib.hid hm12
          obtain ⟨q1, q2, q3, q4, _⟩ := goodI_parts HGd.out
          have HNg := Lib.hid (l5Neg_any (.slice na (i2 Fs).length nc) Fs w3 ((HN.out w3 HF3.out).ofI) q4.opts q3 q1 q2)
          have hmm : -(-(m : Int)) = (m : Int) := by omega
          clear hmr q1 q2 q3 q4 hrange
          go_wp2_with fail
          refine HNg.out.mono ?_
          rintro e w4 ⟨v4, rfl, n4, f4⟩
          obtain ⟨xa, xc, rfl, zz⟩ := id n4
          have hh4 := f4.heap HH0.out (fun q => q)
          have k4 : w4.cell? ⟨w.heap.size, 0, none⟩ = some (.slice na (i2 Fs).length nc) := by rw [cell_of_row _ _ 0 _ _ _ hh4]; rfl
          have z4 : w4.frozen? ⟨w.heap.size, 0, none⟩ = false := by simp [World.frozen?, hh4]
          have HH4 := Lib.hid hh4; have HN4 := Lib.hid n4; have HF4 := Lib.hid (HF3.out.trans f4 (fun _ _ q => q))
          have HSz := Lib.hid (show w.heap.size + 2 ≤ w3.heap.size from by have := HF3.out.size; have := HS1.out; omega)
          have HH5 := Lib.hid (show (w4.setCell ⟨w.heap.size, 0, none⟩ (.slice xa (formOf (negC (codeF Fs))).length xc)).heap[w.heap.size]? = some (.cells #[.slice xa (formOf (negC (codeF Fs))).length xc] 28 (0, 0)) from heap_set hh4 _)
          clear zz hh4 n4 f4 k0
          go_wp2_with fail
          go_meet
          case rel =>
            refine ⟨m, .slice xa (formOf (negC (codeF Fs))).length xc, i2 (negN Fs), by rfl, HM12.out, HMr.out, HH5.out, ?_, HF4.out.any.setCell _ _ (fun _ => rfl)⟩
            exact ((HN4.out.fr (Fr.set w4 ⟨w.heap.size, 0, none⟩ _) (fun q hq e => by have e : q = w.heap.size := e; have hq : w3.heap.size ≤ q := hq; have := HSz.out; omega)).mono (fun q hq => by have hq : w3.heap.size ≤ q := hq; have := HSz.out; omega)).toI
        · obtain ⟨m, rfl⟩ : ∃ m : Nat, n = (m : Int) := ⟨n.natAbs, by omega⟩
          have hm12 : m ≤ 12 := by omega
          have hmr := HM.out
          rw [times_pos hm12 HGd.out] at hmr
          have HMr := Lib.hid hmr; have HM12 := Lib.hid hm12
          clear hmr hrange
          go_wp2_with fail
          go_meet
          case rel => exact ⟨m, _, i2 Fs, by rfl, HM12.out, HMr.out, HH0.out, (HN.out w3 HF3.out).mono (fun q hq => by have hq : q < w.heap.size := hq; omega), HF3.out.any⟩
      case rest =>
      obtain ⟨m, gv, Gi, rfl, hm12, hmr, hh, hn, hf⟩ := hcut
      obtain ⟨w5, rfl⟩ : ∃ w5, w5 = wc := ⟨_, rfl⟩
      have HM12 := Lib.hid hm12; have HMr := Lib.hid hmr; have HH5 := Lib.hid hh; have HN5 := Lib.hid hn; have HF5 := Lib.hid hf
      obtain ⟨ga, gc, rfl, zz⟩ := id hn
      obtain ⟨w6, hw6⟩ : ∃ w6, w6 = w5.alloc (.cells #[] 28) := ⟨_, rfl⟩
      obtain ⟨q0, hq0⟩ : ∃ q0, q0 = Value.slice (some ⟨w5.heap.size, 0, none⟩) 0 0 := ⟨_, rfl⟩
      have f6 : Fr NoM w5 w6 := by rw [hw6]; exact (Fr.refl NoM w5).alloc _
      have m6 : w6.ownsRow w5.heap.size 28 1 q0 0 [] := by
        rw [hw6, hq0]
        exact World.ownsRow_made w5 #[] 0 (Nat.le_refl _) (by decide) (by simp)
      have HF6 := Lib.hid f6; have HM6 := Lib.hid m6
      clear zz hm12 hmr hh hn hf f6 m6 k0
      go_upto_region 7 with fail
      rw [← hw6, ← hq0]
      clear hw6 hq0
      go_wp2_with fail
      go_loopw [6, 7] (fun v5 t W => ∃ (k : Nat) (v : Value), v = v5 ∧ t = .int .i64 k ∧ k ≤ m ∧ W.ownsRow w5.heap.size 28 1 v k (List.replicate k (.slice ga Gi.length gc)) ∧ Fr NoM w5 W) (fun _ t _ => m - (intOf t).toNat)
      case atStart => exact ⟨0, _, rfl, rfl, Nat.zero_le _, HM6.out, HF6.out⟩
      case round =>
        obtain ⟨k, v, rfl, rfl, hk, ho, hfr⟩ := hrel
        obtain ⟨w7, rfl⟩ : ∃ w7, w7 = wr := ⟨_, rfl⟩
        have HO := Lib.hid ho; have HF := Lib.hid hfr
        have hm12 := HM12.out
        by_cases hkm : k < m
        · have k0 : w7.cell? ⟨w.heap.size, 0, none⟩ = some (.slice ga Gi.length gc) := by rw [cell_of_row _ _ 0 _ _ _ (hfr.heap HH5.out (fun q => q))]; rfl
          clear ho hfr
          go_wp2_with (at_builtin; refine wpList_appC rfl (.tmp 29) (.tmp 31) 74 rfl w5.heap.size 28 _ 1 24 Tryz.underlying74 infoForm rfl (by decide) v k (List.replicate k (.slice ga Gi.length gc)) rfl (owns_fr HO.out ((Fr.refl NoM w7).alloc _) (fun _ _ q => q)) w7.heap.size rfl [.slice ga Gi.length gc] 28 (heap_alloc_new w7 _) rfl (by intro u hu; simp at hu; subst hu; rfl) (by omega) (by decide) (by have := HF.out.size; rw [World.size_alloc]; omega) ?_)
          intro v9 w9 h9 f9 q9
          have HF9 := Lib.hid ((HF.out.alloc (.cells #[.slice ga Gi.length gc] 28)).trans f9 (fun q hq e => by have := (HO.out.lt q e).1; omega))
          have HO9 := Lib.hid (show w9.ownsRow w5.heap.size 28 1 v9 (k + 1) (List.replicate (k + 1) (.slice ga Gi.length gc)) from by rw [List.replicate_succ']; exact h9)
          clear h9 f9 q9
          go_wp2
          go_roundw
          case rel => exact ⟨k + 1, v9, rfl, by go_num, by omega, HO9.out, HF9.out⟩
          case measure => simp [intOf]; omega
        · obtain rfl : k = m := by omega
          have hcv := forms_copies HO.out (HN5.out.fr0 HF.out)
          obtain ⟨ca, cc, hcve, _⟩ := hcv.shape
          rw [List.length_replicate] at hcve
          subst hcve
          have HSm := Lib.hid (sumManyR_any _ _ w7 hcv mr HMr.out)
          have HF7 := Lib.hid (HF5.out.trans HF.out (fun _ _ q => q.elim))
          clear hcv ho hfr hk hkm hm12
          go_wp2_with fail
          with_reducible refine HSm.out.mono ?_
          rintro e w8 ⟨v8, rfl, n8, f8⟩
          have HF8 := Lib.hid (HF7.out.trans f8 (fun _ _ q => q.elim))
          obtain ⟨k1, z1⟩ := HK.out w8 HF8.out
          have HSz := Lib.hid (show w.heap.size + 2 ≤ w7.heap.size from by have := HF7.out.size; have := HS1.out; omega)
          have HFw := Lib.hid (HF1.out.trans HF8.out (fun q hq e => by have e : q = w.heap.size := e; omega))
          obtain ⟨FN, hFN⟩ : ∃ FN, FN = mr.getD [] := ⟨_, rfl⟩
          obtain ⟨bo, hbo⟩ : ∃ bo, bo = mr.isSome := ⟨_, rfl⟩
          rw [← hFN] at n8
          have HFN := Lib.hid hFN; have HBo := Lib.hid hbo
          rw [← hbo]
          obtain ⟨ya, yc, rfl, zz⟩ := id n8
          have HN8 := Lib.hid n8
          clear zz n8 f8 hFN hbo
          go_wp2
          refine bodyPost_ret (v := .tuple #[.agg #[.slice ya FN.length yc], .bool bo]) (by simp [results, Tryz.results25, go_sem, k1]) rfl ?_
          refine ⟨.slice ya FN.length yc, by rw [HBo.out], ?_, HFw.out.setCell _ _ (fun h => by have h : w.heap.size + 1 < w.heap.size := h; omega)⟩
          rw [← HFN.out]
          exact (HN8.out.fr (Fr.set w8 ⟨w.heap.size + 1, 0, none⟩ _) (fun q hq e => by have e : q = w.heap.size + 1 := e; have hq : w7.heap.size ≤ q := hq; have := HSz.out; omega)).mono (fun q hq => by have hq : w7.heap.size ≤ q := hq; have := HSz.out; omega)
end Go.Proofs.YtioiljboihehcaaGreatDoor
