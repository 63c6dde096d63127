/- The walks of SumOfMany: the reference's (with l3All), and the program's (with zeroForm). -/
import Derived.Test.YtioiljboihehcaaGreatDoorSumFormsP
namespace Go.Proofs.YtioiljboihehcaaGreatDoor
set_option linter.unusedVariables false
set_option linter.unusedSimpArgs false
open Go.RowKit

set_option maxHeartbeats 1000000 in
theorem l5ZeroR_any (w : World) : Calls Tryz.prog 128 #[] w fun e w' => ∃ v', e = .returned (.agg #[v']) ∧ NodeL (fun b => w.heap.size ≤ b) encN w' v' [([], [])] ∧ Fr NoM w w' := by
  obtain ⟨w2, hw2⟩ : ∃ w2, w2 = (w.alloc (.cells #[.slice (some ⟨w.heap.size + 1, 0, none⟩) 1 1] 28)).alloc (.cells #[.slice none 0 0, .slice none 0 0] 100) := ⟨_, rfl⟩
  have hf2 : Fr NoM w w2 := by rw [hw2]; exact ((Fr.refl NoM w).alloc _).alloc _
  have hb0 : w2.heap[w.heap.size]? = some (.cells #[.slice (some ⟨w.heap.size + 1, 0, none⟩) 1 1] 28 (0, 0)) := by
    rw [hw2]; exact ((Fr.refl NoM _).alloc _).heap (heap_alloc_new w _) (fun q => q)
  have hb1 : w2.heap[w.heap.size + 1]? = some (.cells #[.slice none 0 0, .slice none 0 0] 100 (0, 0)) := by
    have h := heap_alloc_new (w.alloc (.cells #[.slice (some ⟨w.heap.size + 1, 0, none⟩) 1 1] 28)) (.cells #[.slice none 0 0, .slice none 0 0] 100)
    rw [World.size_alloc] at h
    rw [hw2]; exact h
  have k0 : w2.cell? ⟨w.heap.size, 0, none⟩ = some (.slice (some ⟨w.heap.size + 1, 0, none⟩) 1 1) := by rw [cell_of_row w2 _ 0 _ _ _ hb0]; rfl
  have HF2 := Lib.hid hf2; have HB1 := Lib.hid hb1; have HK := Lib.hid k0
  clear hf2 hb0 hb1 k0
  go_enter Tryz.func128, Tryz.ntmps128
  go_upto_region 1 with fail
  go_wp2_with fail
  rw [← hw2]
  clear hw2
  refine bodyPost_ret (v := .agg #[.slice (some ⟨w.heap.size + 1, 0, none⟩) 1 1]) (by simp [results, Tryz.results128, go_sem, HK.out]) rfl ?_
  refine ⟨_, rfl, ?_, HF2.out⟩
  refine ⟨_, 1, rfl, by simp, by decide, fun j y hy => ?_⟩
  cases j with
  | zero =>
    have e : ([], []) = y := by simpa using hy
    subst e
    exact ⟨w.heap.size + 1, 0, .slice none 0 0, .slice none 0 0, rfl, Nat.le_succ _, by rw [cell_of_row w2 _ _ _ _ _ HB1.out]; rfl, by rw [cell_of_row w2 _ _ _ _ _ HB1.out]; rfl, SliceOf.nil _ _, SliceOf.nil _ _, fun h => absurd rfl h, fun h => absurd rfl h⟩
  | succ j => simp at hy
/-- A slice value that reads as a list of forms. -/
def FormsI (R : Nat → Prop) (w : World) (v : Value) (FL : List (List (List Int × List Int))) : Prop :=
  ∃ VS : List Value, SliceOf encV w v VS ∧ VS.length = FL.length ∧ ∀ (j : Nat) (nv : Value) (Fi : List (List Int × List Int)), VS[j]? = some nv → FL[j]? = some Fi → NodeL R encI w nv Fi
theorem FormsI.fr0 {R : Nat → Prop} {w w' : World} {v : Value} {FL : List (List (List Int × List Int))} (h : FormsI R w v FL) (hf : Fr NoM w w') : FormsI R w' v FL := by
  obtain ⟨VS, h1, h2, h3⟩ := h
  exact ⟨VS, h1.fr0 hf, h2, fun j nv Fi e1 e2 => (h3 j nv Fi e1 e2).fr0 hf⟩
theorem FormsI.low {R : Nat → Prop} {w : World} {v : Value} {FL : List (List (List Int × List Int))} (h : FormsI R w v FL) : FormsI (· < w.heap.size) w v FL := by
  obtain ⟨VS, h1, h2, h3⟩ := h
  exact ⟨VS, h1, h2, fun j nv Fi e1 e2 => (h3 j nv Fi e1 e2).low⟩
theorem FormsI.shape {R : Nat → Prop} {w : World} {v : Value} {FL : List (List (List Int × List Int))} (h : FormsI R w v FL) : ∃ a c, v = .slice a FL.length c ∧ FL.length ≤ 9223372036854775807 := by
  obtain ⟨VS, ⟨a, c, e, h1, h4, _⟩, h2, _⟩ := h
  exact ⟨a, c, by rw [e, h2], by omega⟩
theorem FormsI.get {R : Nat → Prop} {w : World} {a : Option Addr} {c : Nat} {FL : List (List (List Int × List Int))} (h : FormsI R w (.slice a FL.length c) FL) {k : Nat} {Fi : List (List Int × List Int)} (hk : FL[k]? = some Fi) :
    ∃ b off nv, a = some ⟨b, off, none⟩ ∧ w.cell? ⟨b, off + k, none⟩ = some nv ∧ NodeL R encI w nv Fi := by
  obtain ⟨VS, ⟨a', c', e, _, _, h4⟩, h2, h3⟩ := h
  obtain ⟨rfl, hz, rfl⟩ := Value.slice.inj e
  have hl := (List.getElem?_eq_some_iff.1 hk).1
  have ev := List.getElem?_eq_getElem (show k < VS.length by omega)
  obtain ⟨b, off, ea, ec⟩ := h4 k _ ev
  exact ⟨b, off, _, ea, ec, h3 k _ _ ev hk⟩
def allGood (FL : List (List (List Int × List Int))) (m : Nat) : Prop := FL.length ≤ m ∧ ∀ Fi ∈ FL, goodI Fi
set_option maxRecDepth 4000 in
set_option maxHeartbeats 4000000 in
theorem l3All_any {R : Nat → Prop} (v : Value) (FL : List (List (List Int × List Int))) (w : World) (h : FormsI R w v FL) (b : Bool) (hb : b = true ↔ allGood FL 12) :
    Calls Tryz.prog 161 #[v, .int .i64 12] w fun e w' => e = .returned (.bool b) ∧ Fr NoM w w' := by
  obtain ⟨a, c, rfl, hl9⟩ := h.shape
  have HN := Lib.hid (fun (W : World) (f : Fr NoM w W) => h.fr0 f)
  have HB := Lib.hid hb
  clear h hb
  go_enter Tryz.func161, Tryz.ntmps161
  go_wp2_with fail
  go_loopw [5] (fun t W => ∃ k : Nat, t = .int .i64 k ∧ k ≤ FL.length ∧ k ≤ 13 ∧ (∀ (j : Nat) Fi, j < k → FL[j]? = some Fi → goodI Fi) ∧ Fr NoM w W) (fun t _ => FL.length - (intOf t).toNat)
  case atStart => exact ⟨0, rfl, Nat.zero_le _, by omega, fun j Fi hj => by omega, Fr.refl _ _⟩
  case round =>
    obtain ⟨k, rfl, hk, hk13, hall, hfr⟩ := hrel
    obtain ⟨w7, rfl⟩ : ∃ w7, w7 = wr := ⟨_, rfl⟩
    have HA := Lib.hid hall; have HF := Lib.hid hfr
    clear hall hfr
    by_cases hkl : k < FL.length
    · by_cases hk12 : k ≤ 12
      · obtain ⟨Fi, hFi⟩ : ∃ Fi, FL[k]? = some Fi := ⟨_, List.getElem?_eq_getElem hkl⟩
        obtain ⟨b1, o1, nv, rfl, c1, n1⟩ := (HN.out w7 HF.out).get hFi
        have ix := ixForms (some ⟨b1, o1, none⟩) FL.length c k b1 o1 hkl rfl
        obtain ⟨g, hg⟩ := good_dec Fi
        have HG := Lib.hid (l3Good_g nv Fi w7 n1 g hg)
        have Hg := Lib.hid hg; have HFi := Lib.hid hFi
        obtain ⟨na, nc, rfl, z⟩ := id n1
        clear z n1 hg hFi
        go_wp2_with fail
        refine HG.out.mono ?_
        rintro e w8 ⟨rfl, f8⟩
        have F8 := Lib.hid (HF.out.trans f8 (fun _ _ q => q))
        clear f8 c1 ix
        cases g with
        | false =>
          have hbf : b = false := by
            cases b with
            | false => rfl
            | true => exact absurd (Hg.out.2 ((HB.out.1 rfl).2 Fi (List.mem_of_getElem? HFi.out))) (by simp)
          subst hbf
          go_wp2
          go_ret
          exact ⟨rfl, F8.out⟩
        | true =>
          have HNx := Lib.hid (fun (j : Nat) Fi' (hj : j < k + 1) (hFj : FL[j]? = some Fi') => (by
            by_cases e : j = k
            · rw [e, HFi.out] at hFj
              cases hFj; exact Hg.out.1 rfl
            · exact HA.out j Fi' (by omega) hFj : goodI Fi'))
          go_wp2_with fail
          go_roundw
          case rel => exact ⟨k + 1, by go_num, by omega, by omega, HNx.out, F8.out⟩
          case measure => simp [intOf]; omega
      · have hbf : b = false := by
          cases b with
          | false => rfl
          | true => have h := (HB.out.1 rfl).1; omega
        subst hbf
        have hbig : ¬ (FL.length : Int) ≤ 12 := by omega
        go_wp2
        go_ret
        exact ⟨by simp [hbig], HF.out⟩
    · have hbe : b = decide ((FL.length : Int) ≤ 12) := by
        have hiff : b = true ↔ (FL.length : Int) ≤ 12 := by
          rw [HB.out]
          exact ⟨fun h => by have := h.1; omega, fun h => ⟨by omega, fun Fi hFi => by
            obtain ⟨j, hj, rfl⟩ := List.getElem_of_mem hFi
            exact HA.out j _ (by omega) (List.getElem?_eq_getElem hj)⟩⟩
        cases b with
        | true => exact (decide_eq_true (hiff.1 rfl)).symm
        | false => exact (decide_eq_false (fun q => by cases hiff.2 q)).symm
      have HBe := Lib.hid hbe
      clear hbe
      go_wp2
      go_ret
      exact ⟨by rw [HBe.out]; rfl, HF.out⟩

theorem NodeL.lowR {R : Nat → Prop} {w : World} {v : Value} {FN : List PL} (h : NodeL R encN w v FN) : NodeL (fun q => R q ∧ q < w.heap.size) encN w v FN := by
  obtain ⟨a, c, rfl, h1, h2, h3⟩ := h
  refine ⟨a, c, rfl, h1, h2, fun j y hy => ?_⟩
  obtain ⟨b, off, lv, rv, ha, hb, c1, c2, s1, s2, r1, r2⟩ := h3 j y hy
  refine ⟨b, off, lv, rv, ha, ⟨hb, World.block_lt_of_cell? w _ c1⟩, c1, c2, s1, s2, fun hne q hq => ⟨r1 hne q hq, ?_⟩, fun hne q hq => ⟨r2 hne q hq, ?_⟩⟩
  · obtain ⟨b', hb', hl⟩ := s1.block hne; rw [hq] at hb'; cases hb'; exact hl
  · obtain ⟨b', hb', hl⟩ := s2.block hne; rw [hq] at hb'; cases hb'; exact hl
noncomputable def manyR (FL : List (List (List Int × List Int))) : Option (List PL) := if FL.length ≤ 12 then manyF FL else none
theorem nat_zero_i2 : natF (i2 [([], [])]) = [([], [])] := natF_i2 _
set_option maxRecDepth 4000 in
set_option maxHeartbeats 8000000 in
theorem sumManyR_any {R : Nat → Prop} (v : Value) (FL : List (List (List Int × List Int))) (w : World) (h : FormsI R w v FL) (mr : Option (List PL)) (hmr : mr = manyR FL) :
    Calls Tryz.prog 94 #[v] w fun e w' => ∃ v', e = .returned (.tuple #[.agg #[v'], .bool mr.isSome]) ∧ NodeL (fun b => w.heap.size ≤ b) encN w' v' (mr.getD []) ∧ Fr NoM w w' := by
  obtain ⟨b, hb⟩ : ∃ b : Bool, (b = true ↔ allGood FL 12) := by
    by_cases h : allGood FL 12
    · exact ⟨true, by simp [h]⟩
    · exact ⟨false, by simp [h]⟩
  obtain ⟨w1, hw1⟩ : ∃ w1, w1 = w.alloc (.cells #[.slice none 0 0] 28) := ⟨_, rfl⟩
  have f1 : Fr NoM w w1 := by rw [hw1]; exact (Fr.refl NoM w).alloc _
  have hs1 : w1.heap.size = w.heap.size + 1 := by rw [hw1]; simp
  have e0 : w1.heap[w.heap.size]? = some (.cells #[.slice none 0 0] 28 (0, 0)) := by rw [hw1]; exact heap_alloc_new w _
  have HK := Lib.hid (fun (W : World) (f : Fr NoM w1 W) => show W.cell? ⟨w.heap.size, 0, none⟩ = some (.slice none 0 0) ∧ W.frozen? ⟨w.heap.size, 0, none⟩ = false from by
    have h0 := f.heap e0 (fun q => q)
    exact ⟨by rw [cell_of_row W _ 0 _ _ _ h0]; rfl, by simp [World.frozen?, h0]⟩)
  have HAl := Lib.hid (l3All_any v FL w1 (h.fr0 f1) b hb)
  have HN := Lib.hid (fun (W : World) (f : Fr NoM w1 W) => ((h.low.fr0 f1).fr0 f : FormsI (· < w.heap.size) W v FL))
  obtain ⟨a, c, rfl, hl9⟩ := h.shape
  have HB := Lib.hid hb; have HM := Lib.hid hmr; have F1 := Lib.hid f1; have HS1 := Lib.hid hs1
  clear h hb hmr f1 hs1 e0
  obtain ⟨k0, k1⟩ := HK.out w1 (Fr.refl _ _)
  go_enter Tryz.func94, Tryz.ntmps94
  go_wp2_with fail
  rw [← hw1]
  clear hw1
  refine HAl.out.mono ?_
  rintro e w2 ⟨rfl, f2⟩
  have F2 := Lib.hid f2
  clear f2 k0 k1
  obtain ⟨k0, k1⟩ := HK.out w2 F2.out
  cases b with
  | false =>
    have hn : mr = none := by
      rw [HM.out]
      unfold manyR
      by_cases hl : FL.length ≤ 12
      · rw [if_pos hl]
        have hex : ∃ Fi ∈ FL, ¬ goodI Fi := by
          refine Classical.byContradiction fun q => ?_
          have := HB.out.2 ⟨hl, fun Fi hFi => Classical.byContradiction fun z => q ⟨Fi, hFi, z⟩⟩
          cases this
        obtain ⟨Fi, hFi, hbad⟩ := hex
        exact many_bad hbad hFi
      · rw [if_neg hl]
    subst hn
    go_wp2
    refine bodyPost_ret (v := .tuple #[.agg #[.slice none 0 0], .bool false]) (by simp [results, Tryz.results94, go_sem, k0]) rfl ?_
    exact ⟨_, rfl, ⟨none, 0, rfl, Nat.le_refl _, by decide, by simp⟩, (F1.out.trans F2.out (fun _ _ q => q)).setCell _ _ (fun h => by have h : w.heap.size < w.heap.size := h; omega)⟩
  | true =>
    obtain ⟨hlen, hgood⟩ := HB.out.1 rfl
    have hmm : mr = manyF FL := by rw [HM.out]; unfold manyR; rw [if_pos hlen]
    have HLen := Lib.hid hlen; have HMm := Lib.hid hmm
    clear hgood hmm hlen
    go_wp2_with fail
    refine (l5ZeroR_any w2).mono ?_
    rintro e w3 ⟨v0, rfl, n0, f3⟩
    obtain ⟨w4, hw4⟩ : ∃ w4, w4 = w3.alloc (.cells #[v0] 28) := ⟨_, rfl⟩
    obtain ⟨ob, hob⟩ : ∃ ob, ob = w3.heap.size := ⟨_, rfl⟩
    have f4 : Fr NoM w3 w4 := by rw [hw4]; exact (Fr.refl NoM w3).alloc _
    have hs4 : w4.heap.size = ob + 1 := by rw [hw4, hob]; simp
    have e4 : w4.heap[ob]? = some (.cells #[v0] 28 (0, 0)) := by rw [hw4, hob]; exact heap_alloc_new w3 _
    have hbl : w1.heap.size ≤ ob := by have := F2.out.size; have := f3.size; omega
    have c4 := e4
    have hn4 : NodeL (fun q => w1.heap.size ≤ q ∧ q ≠ ob) encN w4 v0 [([], [])] := ((n0.lowR).fr0 f4).mono (fun q hq => by
      have h1 : w2.heap.size ≤ q ∧ q < w3.heap.size := hq
      have h2 := F2.out.size
      exact ⟨by omega, by omega⟩)
    have HF4 := Lib.hid (F2.out.trans (f3.trans f4 (fun _ _ q => q)) (fun _ _ q => q))
    have HC4 := Lib.hid c4; have HN4 := Lib.hid hn4; have HBl := Lib.hid hbl; have HOb := Lib.hid hob; have HS4 := Lib.hid hs4
    obtain ⟨az, cz, rfl, zz⟩ := id n0
    clear zz n0 f3 f4 hs4 e4 hbl c4 hn4 k0 k1
    go_upto_region 4 with fail
    have hw4' : w4 = w3.alloc (.cells #[.slice az 1 cz] 28) := hw4
    rw [← hob, ← hw4']
    clear hw4 hw4' hob
    go_wp2_with fail
    go_loopw [5] (fun t W => ∃ (k : Nat) (Fm : List PL) (ov : Value), t = .int .i64 k ∧ k ≤ FL.length ∧ manyF (FL.take k) = some Fm ∧ W.heap[ob]? = some (.cells #[ov] 28 (0, 0)) ∧ NodeL (fun q => w1.heap.size ≤ q ∧ q ≠ ob) encN W ov Fm ∧ Fr (fun q => q = ob) w4 W) (fun t _ => FL.length - (intOf t).toNat)
    case atStart => exact ⟨0, [([], [])], _, rfl, Nat.zero_le _, rfl, HC4.out, HN4.out, Fr.refl _ _⟩
    case round =>
      obtain ⟨k, Fm, ov, rfl, hk, hm, hh, hn, hfr⟩ := hrel
      obtain ⟨w7, rfl⟩ : ∃ w7, w7 = wr := ⟨_, rfl⟩
      have hc : w7.cell? ⟨ob, 0, none⟩ = some ov := by rw [cell_of_row _ _ 0 _ _ _ hh]; rfl
      have HH := Lib.hid hh
      clear hh
      have hobw : ob < w7.heap.size := World.block_lt_of_cell? w7 _ hc
      have F17 := Lib.hid (HF4.out.trans hfr (fun q hq e => by have h1 := HBl.out; omega))
      have HM7 := Lib.hid hm; have HN7 := Lib.hid hn; have HFr := Lib.hid hfr; have HOw := Lib.hid hobw
      clear hfr
      by_cases hkl : k < FL.length
      · obtain ⟨Fi, hFi⟩ : ∃ Fi, FL[k]? = some Fi := ⟨_, List.getElem?_eq_getElem hkl⟩
        obtain ⟨b1, o1, nv, rfl, c1, n1⟩ := (HN.out w7 F17.out).get hFi
        have ix := ixForms (some ⟨b1, o1, none⟩) FL.length c k b1 o1 hkl rfl
        obtain ⟨ok, hok⟩ : ∃ ok, ok = sumOk (i2 Fm) Fi := ⟨_, rfl⟩
        obtain ⟨FN, hFN⟩ : ∃ FN, FN = if ok = true then sumN (natF (i2 Fm)) (natF Fi) else [] := ⟨_, rfl⟩
        have HSm := Lib.hid (fun (W : World) (f : Fr NoM w7 W) => (by
          have h := sumFormsR_any ov nv (i2 Fm) Fi W ((hn.fr0 f).toI) (n1.fr0 f) ok hok
          rw [← hFN] at h
          exact h : Calls Tryz.prog 105 #[.agg #[ov], .agg #[nv]] W fun e w' => ∃ v', e = .returned (.tuple #[.agg #[v'], .bool ok]) ∧ NodeL (fun b => W.heap.size ≤ b) encN w' v' FN ∧ Fr NoM W w'))
        have HOk := Lib.hid hok; have HFN := Lib.hid hFN; have HFi := Lib.hid hFi
        have hC := fun (W : World) (f : Fr NoM w7 W) => (⟨f.cell hc (fun q => q), f.cell c1 (fun q => q)⟩ : W.cell? ⟨ob, 0, none⟩ = some ov ∧ W.cell? ⟨b1, o1 + k, none⟩ = some nv)
        have HC := Lib.hid hC
        obtain ⟨va, vc, rfl, zz⟩ := id hn
        clear zz
        obtain ⟨na, nc, rfl, zz⟩ := id n1
        clear zz hn n1 hok hFN hFi hC hm
        go_upto_region 7 with fail
        have K0 : Fr NoM w7 w7.drew := (Fr.refl NoM w7).drew
        have G0 : Fr NoM w7 (w7.alloc (.cells #[.slice none 0 0] 28)).drew := ((Fr.refl NoM w7).alloc _).drew
        have hs := HC.out w7 (Fr.refl _ _)
        clear hc c1
        go_cut [6, 7] from 20 to 27 (fun x y W => ∃ (nb : Nat) (v' : Value), x = .pointer (some ⟨nb, 0, none⟩) ∧ y = .bool ok ∧ W.cell? ⟨nb, 0, none⟩ = some v' ∧ NodeL (fun q => w7.heap.size ≤ q) encN W v' FN ∧ Fr NoM w7 W)
        case first =>
          go_region_held3 (fun (W : World) => W.cell? ⟨ob, 0, none⟩ = some (.slice va Fm.length vc) ∧ W.cell? ⟨b1, o1 + k, none⟩ = some (.slice na Fi.length nc))
            (first | exact HC.out _ (by assumption) | exact HC.out _ (Fr.alloc (by assumption) _) | exact HC.out _ (Fr.setCell ka _ _ (fun h => absurd h (Nat.lt_irrefl _))) | exact HC.out _ (Fr.setCell (Fr.alloc ka _) _ _ (fun h => absurd h (Nat.not_lt.2 ka.size))))
            (first
              | (go_at_call 105; (with_reducible refine (HSm.out _ (by assumption)).mono ?_); rintro e wa ⟨v', rfl, n', fa⟩; obtain ⟨xa, xc, rfl, zz⟩ := id n'; clear zz; have ka : Fr NoM w7 wa := Fr.trans (by assumption) fa (fun _ _ q => q); (try (have hx : wa.heap[w7.heap.size]? = some (.cells #[.slice none 0 0] 28 (0, 0)) := fa.heap (heap_alloc_new w7 _) (fun q => q); have hx1 : wa.cell? ⟨w7.heap.size, 0, none⟩ = some (.slice none 0 0) := (by rw [cell_of_row wa _ 0 _ _ _ hx]; rfl); have hx2 : wa.frozen? ⟨w7.heap.size, 0, none⟩ = false := (by simp [World.frozen?, hx]))))
              | fail)
          all_goals
            go_wp2_with fail
            go_meet
            case rel => first
              | exact ⟨_, _, rfl, rfl, by rw [cell_of_row _ _ 0 _ _ _ (heap_alloc_new wa _)]; rfl, (n'.fr0 ((Fr.refl NoM wa).alloc _)).mono (fun q hq => by simpa using hq), ka.alloc _⟩
              | exact ⟨_, _, rfl, rfl, by rw [cell_of_row _ _ 0 _ _ _ (heap_set hx _)]; rfl, (n'.fr (Fr.set wa ⟨w7.heap.size, 0, none⟩ _) (fun q hq e => by have e : q = w7.heap.size := e; simp only [World.size_drew, World.size_alloc] at hq; omega)).mono (fun q hq => by simp only [World.size_drew, World.size_alloc] at hq; omega), Fr.setCell ka _ _ (fun h => absurd h (Nat.lt_irrefl _))⟩
        case rest =>
        obtain ⟨nb, v', rfl, rfl, hnb, hv', fc⟩ := hcut
        obtain ⟨w9, rfl⟩ : ∃ w9, w9 = wc := ⟨_, rfl⟩
        obtain ⟨xa, xc, rfl, zz⟩ := id hv'
        have HV9 := Lib.hid hv'; have F79 := Lib.hid fc
        have hoh := fc.heap HH.out (fun q => q)
        have hoc : w9.cell? ⟨ob, 0, none⟩ = some (.slice va Fm.length vc) := by rw [cell_of_row _ _ 0 _ _ _ hoh]; rfl
        have hoz : w9.frozen? ⟨ob, 0, none⟩ = false := by simp [World.frozen?, hoh]
        have HOh := Lib.hid hoh
        clear zz hv' fc hs K0 G0 hoh
        have hnx : manyF (FL.take (k + 1)) = if ok = true then some FN else none := by
          rw [many_next hkl, HM7.out]
          have e : FL[k] = Fi := by have h := HFi.out; rw [List.getElem?_eq_getElem hkl] at h; exact Option.some.inj h
          rw [e]
          show (if sumOk (i2 Fm) Fi = true then some (sumN Fm (natF Fi)) else none) = _
          rw [← HOk.out]
          by_cases ht : ok = true
          · rw [if_pos ht, if_pos ht, HFN.out, if_pos ht, natF_i2]
          · rw [if_neg ht, if_neg ht]
        have HNx := Lib.hid hnx
        clear hnx
        cases ok with
        | false =>
          have hn0 : mr = none := by
            rw [HMm.out]
            exact many_stop (k := k + 1) (by rw [HNx.out]; rfl)
          subst hn0
          obtain ⟨k0, k1⟩ := HK.out w9 (F17.out.trans F79.out (fun _ _ q => q))
          clear hnb hoc hoz
          go_wp2_with fail
          refine bodyPost_ret (v := .tuple #[.agg #[.slice none 0 0], .bool false]) (by simp [results, Tryz.results94, go_sem, k0]) rfl ?_
          exact ⟨_, rfl, ⟨none, 0, rfl, Nat.le_refl _, by decide, by simp⟩, (F1.out.trans (F17.out.trans F79.out (fun _ _ q => q)) (fun _ _ q => q)).setCell _ _ (fun h => by have h : w.heap.size < w.heap.size := h; omega)⟩
        | true =>
          have HNx' := Lib.hid (show manyF (FL.take (k + 1)) = some FN from by rw [HNx.out]; rfl)
          have HSc := Lib.hid (show (w9.setCell ⟨ob, 0, none⟩ (.slice xa FN.length xc)).heap[ob]? = some (.cells #[.slice xa FN.length xc] 28 (0, 0)) from heap_set HOh.out _)
          clear HNx
          go_wp2_with fail
          go_roundw
          case rel =>
            refine ⟨k + 1, FN, _, by go_num, by omega, HNx'.out, HSc.out, ?_, ?_⟩
            · exact (HV9.out.fr (Fr.set w9 ⟨ob, 0, none⟩ _) (fun q hq e => by have e : q = ob := e; have hq : w7.heap.size ≤ q := hq; have := HOw.out; omega)).mono (fun q hq => by have hq : w7.heap.size ≤ q := hq; have h1 := HOw.out; have h2 := HBl.out; exact ⟨by omega, by omega⟩)
            · exact (HFr.out.trans F79.out (fun _ _ q => q.elim)).setCell _ _ (fun _ => rfl)
          case measure => simp [intOf]; omega
      · obtain rfl : k = FL.length := by omega
        have hmr' : mr = some Fm := by
          have h := HM7.out
          rw [List.take_length] at h
          rw [HMm.out]; exact h
        subst hmr'
        obtain ⟨k0, k1⟩ := HK.out w7 F17.out
        obtain ⟨va, vc, rfl, zz⟩ := id hn
        have HNn := Lib.hid hn
        clear zz hn hk hkl hm
        go_wp2_with fail
        refine bodyPost_ret (v := .tuple #[.agg #[.slice va Fm.length vc], .bool true]) (by simp [results, Tryz.results94, go_sem, k0]) rfl ?_
        refine ⟨_, rfl, ?_, (F1.out.trans F17.out (fun _ _ q => q)).setCell _ _ (fun h => by have h : w.heap.size < w.heap.size := h; omega)⟩
        exact (HNn.out.fr (Fr.set w7 ⟨w.heap.size, 0, none⟩ _) (fun q hq e => by have e : q = w.heap.size := e; have := HS1.out; have := hq.1; omega)).mono (fun q hq => by have := HS1.out; have := hq.1; omega)
end Go.Proofs.YtioiljboihehcaaGreatDoor
