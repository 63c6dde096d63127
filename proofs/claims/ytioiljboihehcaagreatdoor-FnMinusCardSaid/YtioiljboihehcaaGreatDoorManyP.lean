/- The walks of the program's zeroForm, SumOfMany and copies. -/
import Derived.Test.YtioiljboihehcaaGreatDoorSumMany
namespace Go.Proofs.YtioiljboihehcaaGreatDoor
set_option linter.unusedVariables false
set_option linter.unusedSimpArgs false
open Go.RowKit

set_option maxHeartbeats 1000000 in
theorem zeroForm_any (w : World) : Calls Tryz.prog 160 #[] w fun e w' => ∃ v', e = .returned (.agg #[v']) ∧ NodesS w.heap.size w' v' [([], [])] ∧ Fr NoM w w' := by
  obtain ⟨w2, hw2⟩ : ∃ w2, w2 = (w.alloc (.cells #[.slice (some ⟨w.heap.size + 1, 0, none⟩) 1 1] 28)).alloc (.cells #[.slice none 0 0, .slice none 0 0] 100) := ⟨_, rfl⟩
  have hf2 : Fr NoM w w2 := by rw [hw2]; exact ((Fr.refl NoM w).alloc _).alloc _
  have hb0 : w2.heap[w.heap.size]? = some (.cells #[.slice (some ⟨w.heap.size + 1, 0, none⟩) 1 1] 28 (0, 0)) := by
    rw [hw2]; exact ((Fr.refl NoM _).alloc _).heap (heap_alloc_new w _) (fun q => q)
  have hb1 : w2.heap[w.heap.size + 1]? = some (.cells #[.slice none 0 0, .slice none 0 0] 100 (0, 0)) := by
    have h := heap_alloc_new (w.alloc (.cells #[.slice (some ⟨w.heap.size + 1, 0, none⟩) 1 1] 28)) (.cells #[.slice none 0 0, .slice none 0 0] 100)
    rw [World.size_alloc] at h
    rw [hw2]; exact h
  have k0 : w2.cell? ⟨w.heap.size, 0, none⟩ = some (.slice (some ⟨w.heap.size + 1, 0, none⟩) 1 1) := by rw [cell_of_row w2 _ 0 _ _ _ hb0]; rfl
  have HF2 := Lib.hid hf2; have HB1 := Lib.hid hb1; have HK := Lib.hid k0
  clear hf2 hb0 hb1 k0
  go_enter Tryz.func160, Tryz.ntmps160
  go_upto_region 1 with fail
  go_wp2_with fail
  rw [← hw2]
  clear hw2
  refine bodyPost_ret (v := .agg #[.slice (some ⟨w.heap.size + 1, 0, none⟩) 1 1]) (by simp [results, Tryz.results160, go_sem, HK.out]) rfl ?_
  refine ⟨_, rfl, ⟨[(.slice none 0 0, .slice none 0 0)], ⟨rfl, .inr ⟨w.heap.size + 1, 1, _, rfl, Nat.le_succ _, HB1.out, by simp, by decide, by simp, by simp [flat2]⟩⟩, rfl, fun j x y hx hy => ?_, fun q hq => (List.not_mem_nil (a := q) hq).elim, List.nodup_nil, fun q hq => (List.not_mem_nil (a := q) hq).elim⟩, HF2.out⟩
  cases j with
  | zero =>
    have e : ([], []) = y := by simpa using hy
    have e' : (Value.slice none 0 0, Value.slice none 0 0) = x := by simpa using hx
    subst e; subst e'
    exact ⟨SliceOf.nil _ _, SliceOf.nil _ _⟩
  | succ j => simp at hy
set_option maxRecDepth 4000 in
set_option maxHeartbeats 8000000 in
theorem sumManyP_any {R : Nat → Prop} (v : Value) (FL : List (List (List Int × List Int))) (w : World) (h : FormsI R w v FL) (mr : Option (List PL)) (hmr : mr = manyR FL) :
    Calls Tryz.prog 90 #[v] w fun e w' => ∃ v', e = .returned (.tuple #[.agg #[v'], .bool mr.isSome]) ∧ NodesS w.heap.size w' v' (mr.getD []) ∧ Fr NoM w w' := by
  obtain ⟨w1, hw1⟩ : ∃ w1, w1 = w.alloc (.cells #[.slice none 0 0] 28) := ⟨_, rfl⟩
  have f1 : Fr NoM w w1 := by rw [hw1]; exact (Fr.refl NoM w).alloc _
  have hs1 : w1.heap.size = w.heap.size + 1 := by rw [hw1]; simp
  have e0 : w1.heap[w.heap.size]? = some (.cells #[.slice none 0 0] 28 (0, 0)) := by rw [hw1]; exact heap_alloc_new w _
  have HK := Lib.hid (fun (W : World) (f : Fr NoM w1 W) => show W.cell? ⟨w.heap.size, 0, none⟩ = some (.slice none 0 0) ∧ W.frozen? ⟨w.heap.size, 0, none⟩ = false from by
    have h0 := f.heap e0 (fun q => q)
    exact ⟨by rw [cell_of_row W _ 0 _ _ _ h0]; rfl, by simp [World.frozen?, h0]⟩)
  have HN := Lib.hid (fun (W : World) (f : Fr NoM w1 W) => ((h.low.fr0 f1).fr0 f : FormsI (· < w.heap.size) W v FL))
  obtain ⟨a, c, rfl, hl9⟩ := h.shape
  have HM := Lib.hid hmr; have F1 := Lib.hid f1; have HS1 := Lib.hid hs1
  clear h hmr f1 hs1 e0
  obtain ⟨k0, k1⟩ := HK.out w1 (Fr.refl _ _)
  by_cases hlen : FL.length ≤ 12
  · have hmm : mr = manyF FL := by rw [HM.out]; unfold manyR; rw [if_pos hlen]
    have HMm := Lib.hid hmm
    have hli : ¬ (12 < FL.length) := by omega
    clear hmm
    go_enter Tryz.func90, Tryz.ntmps90
    go_wp2_with fail
    rw [← hw1]
    clear hw1 k0 k1
    refine (zeroForm_any w1).mono ?_
    rintro e w3 ⟨v0, rfl, n0, f3⟩
    obtain ⟨w4, hw4⟩ : ∃ w4, w4 = w3.alloc (.cells #[v0] 28) := ⟨_, rfl⟩
    obtain ⟨ob, hob⟩ : ∃ ob, ob = w3.heap.size := ⟨_, rfl⟩
    have f4 : Fr NoM w3 w4 := by rw [hw4]; exact (Fr.refl NoM w3).alloc _
    have e4 : w4.heap[ob]? = some (.cells #[v0] 28 (0, 0)) := by rw [hw4, hob]; exact heap_alloc_new w3 _
    have hbl : w1.heap.size ≤ ob := by have := f3.size; omega
    have HF4 := Lib.hid (f3.trans f4 (fun _ _ q => q))
    have HC4 := Lib.hid e4; have HN4 := Lib.hid (n0.fr0 f4); have HBl := Lib.hid hbl; have HOb := Lib.hid hob
    obtain ⟨az, cz, rfl, zz⟩ := id n0.nodeL
    clear zz n0 f3 f4 e4 hbl hli
    go_upto_region 4 with fail
    have hw4' : w4 = w3.alloc (.cells #[.slice az 1 cz] 28) := hw4
    rw [← hob, ← hw4']
    clear hw4 hw4' hob
    go_wp2_with fail
    go_loopw [16] (fun t W => ∃ (k : Nat) (Fm : List PL) (ov : Value), t = .int .i64 k ∧ k ≤ FL.length ∧ manyF (FL.take k) = some Fm ∧ W.heap[ob]? = some (.cells #[ov] 28 (0, 0)) ∧ NodesS w1.heap.size W ov Fm ∧ Fr (fun q => q = ob) w4 W) (fun t _ => FL.length - (intOf t).toNat)
    case atStart => exact ⟨0, [([], [])], _, rfl, Nat.zero_le _, rfl, HC4.out, HN4.out, Fr.refl _ _⟩
    case round =>
      obtain ⟨k, Fm, ov, rfl, hk, hm, hh, hn, hfr⟩ := hrel
      obtain ⟨w7, rfl⟩ : ∃ w7, w7 = wr := ⟨_, rfl⟩
      have hobw : ob < w7.heap.size := (Array.getElem?_eq_some_iff.1 hh).1
      have F17 := Lib.hid (HF4.out.trans hfr (fun q hq e => by have h1 := HBl.out; omega))
      have HM7 := Lib.hid hm; have HFr := Lib.hid hfr; have HOw := Lib.hid hobw; have HH := Lib.hid hh; have HN7 := Lib.hid hn
      obtain ⟨va, vc, rfl, zz⟩ := id hn.nodeL
      clear zz hfr hm hn hh
      by_cases hkl : k < FL.length
      · obtain ⟨Fi, hFi⟩ : ∃ Fi, FL[k]? = some Fi := ⟨_, List.getElem?_eq_getElem hkl⟩
        obtain ⟨b1, o1, nv, rfl, c1, n1⟩ := (HN.out w7 F17.out).get hFi
        have ix := ixForms (some ⟨b1, o1, none⟩) FL.length c k b1 o1 hkl rfl
        obtain ⟨ok, hok⟩ : ∃ ok, ok = sumOk (i2 Fm) Fi := ⟨_, rfl⟩
        obtain ⟨FN, hFN⟩ : ∃ FN, FN = if ok = true then sumN (natF (i2 Fm)) (natF Fi) else [] := ⟨_, rfl⟩
        have HSm := Lib.hid (fun (W : World) (f : Fr NoM w7 W) => (by
          have h := sumFormsP_any (.slice va Fm.length vc) nv (i2 Fm) Fi W ((HN7.out.nodeL.fr0 f).toI) (n1.fr0 f) ok hok
          rw [← hFN] at h
          exact h : Calls Tryz.prog 28 #[.agg #[.slice va Fm.length vc], .agg #[nv]] W fun e w' => ∃ v', e = .returned (.tuple #[.agg #[v'], .bool ok]) ∧ NodesS W.heap.size w' v' FN ∧ Fr NoM W w'))
        have HOk := Lib.hid hok; have HFN := Lib.hid hFN; have HFi := Lib.hid hFi
        obtain ⟨na, nc, rfl, zz⟩ := id n1
        have hc : w7.cell? ⟨ob, 0, none⟩ = some (.slice va Fm.length vc) := by rw [cell_of_row _ _ 0 _ _ _ HH.out]; rfl
        have hca : ∀ o, (w7.alloc o).cell? ⟨ob, 0, none⟩ = some (.slice va Fm.length vc) := fun o => ((Fr.refl NoM w7).alloc o).cell hc (fun q => q)
        clear zz n1 hok hFN hFi hc
        go_wp2_with fail
        refine (HSm.out _ ((Fr.refl NoM w7).alloc _)).mono ?_
        rintro e w9 ⟨v', rfl, hv', fc⟩
        obtain ⟨xa, xc, rfl, zz⟩ := id hv'.nodeL
        have hv' := hv'.base (D' := w7.heap.size + 1) (by simp)
        have fc := ((Fr.refl NoM w7).alloc (.cells #[.slice na Fi.length nc] 28)).trans fc (fun _ _ q => q)
        obtain ⟨wx, hwx⟩ : ∃ wx, wx = w9.alloc (.cells #[.slice xa FN.length xc] 28) := ⟨_, rfl⟩
        have f9 : Fr NoM w9 wx := by rw [hwx]; exact (Fr.refl NoM w9).alloc _
        have F79 := Lib.hid (fc.trans f9 (fun _ _ q => q)); have HV9 := Lib.hid (hv'.fr0 f9)
        have hoh := F79.out.heap HH.out (fun q => q)
        have hoc : wx.cell? ⟨ob, 0, none⟩ = some (.slice va Fm.length vc) := by rw [cell_of_row _ _ 0 _ _ _ hoh]; rfl
        have hoz : wx.frozen? ⟨ob, 0, none⟩ = false := by simp [World.frozen?, hoh]
        have hnc : wx.cell? ⟨w9.heap.size, 0, none⟩ = some (.slice xa FN.length xc) := by rw [hwx, cell_of_row _ _ 0 _ _ _ (heap_alloc_new w9 _)]; rfl
        have HOh := Lib.hid hoh
        clear zz hv' fc f9 hoh hca c1 ix
        have hnx : manyF (FL.take (k + 1)) = if ok = true then some FN else none := by
          rw [many_next hkl, HM7.out]
          have e : FL[k] = Fi := by have h := HFi.out; rw [List.getElem?_eq_getElem hkl] at h; exact Option.some.inj h
          rw [e]
          show (if sumOk (i2 Fm) Fi = true then some (sumN Fm (natF Fi)) else none) = _
          rw [← HOk.out]
          by_cases ht : ok = true
          · rw [if_pos ht, if_pos ht, HFN.out, if_pos ht, natF_i2]
          · rw [if_neg ht, if_neg ht]
        have HNx := Lib.hid hnx
        clear hnx
        go_upto_region 8 with fail
        rw [← hwx]
        clear hwx
        cases ok with
        | false =>
          have hn0 : mr = none := by
            rw [HMm.out]
            exact many_stop (k := k + 1) (by rw [HNx.out]; rfl)
          subst hn0
          obtain ⟨k0, k1⟩ := HK.out wx (F17.out.trans F79.out (fun _ _ q => q))
          clear hnc hoc hoz
          go_wp2_with fail
          refine bodyPost_ret (v := .tuple #[.agg #[.slice none 0 0], .bool false]) (by simp [results, Tryz.results90, go_sem, k0]) rfl ?_
          exact ⟨_, rfl, NodesS.nil _ _, (F1.out.trans (F17.out.trans F79.out (fun _ _ q => q)) (fun _ _ q => q)).setCell _ _ (fun h => by have h : w.heap.size < w.heap.size := h; omega)⟩
        | true =>
          have HNx' := Lib.hid (show manyF (FL.take (k + 1)) = some FN from by rw [HNx.out]; rfl)
          have HSc := Lib.hid (show (wx.setCell ⟨ob, 0, none⟩ (.slice xa FN.length xc)).heap[ob]? = some (.cells #[.slice xa FN.length xc] 28 (0, 0)) from heap_set HOh.out _)
          clear HNx
          go_wp2_with fail
          go_roundw
          case rel =>
            refine ⟨k + 1, FN, _, by go_num, by omega, HNx'.out, HSc.out, ?_, ?_⟩
            · exact (HV9.out.fr (Fr.set wx ⟨ob, 0, none⟩ _) (fun q hq _ e => by have e : q = ob := e; have := HOw.out; omega)).base (by have h1 := HOw.out; have h2 := HBl.out; omega)
            · exact (HFr.out.trans F79.out (fun _ _ q => q.elim)).setCell _ _ (fun _ => rfl)
          case measure => simp [intOf]; omega
      · obtain rfl : k = FL.length := by omega
        have hmr' : mr = some Fm := by
          have h := HM7.out
          rw [List.take_length] at h
          rw [HMm.out]; exact h
        subst hmr'
        obtain ⟨k0, k1⟩ := HK.out w7 F17.out
        have hc : w7.cell? ⟨ob, 0, none⟩ = some (.slice va Fm.length vc) := by rw [cell_of_row _ _ 0 _ _ _ HH.out]; rfl
        clear hk hkl
        go_wp2_with fail
        refine bodyPost_ret (v := .tuple #[.agg #[.slice va Fm.length vc], .bool true]) (by simp [results, Tryz.results90, go_sem, k0]) rfl ?_
        refine ⟨_, rfl, ?_, (F1.out.trans F17.out (fun _ _ q => q)).setCell _ _ (fun h => by have h : w.heap.size < w.heap.size := h; omega)⟩
        exact (HN7.out.fr (Fr.set w7 ⟨w.heap.size, 0, none⟩ _) (fun q hq _ e => by have e : q = w.heap.size := e; have := HS1.out; omega)).base (by have := HS1.out; omega)
  · have hn : mr = none := by rw [HM.out]; unfold manyR; rw [if_neg hlen]
    subst hn
    have hli : 12 < FL.length := by omega
    clear hlen
    go_enter Tryz.func90, Tryz.ntmps90
    go_wp2_with fail
    rw [← hw1]
    refine bodyPost_ret (v := .tuple #[.agg #[.slice none 0 0], .bool false]) (by simp [results, Tryz.results90, go_sem, k0]) rfl ?_
    exact ⟨_, rfl, NodesS.nil _ _, F1.out⟩
end Go.Proofs.YtioiljboihehcaaGreatDoor
