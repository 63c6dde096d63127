/- The laws' drawn forms: vForm, vTwo, and what they are drawn from. | The laws' vCut, vTwo: another code out of a code, and the form that is drawn from it. | What DropForm's and BypassForm's laws are drawn from. -/
import Derived.Test.YtioiljboihehcaaGreatDoorFnKit
import Derived.Test.YtioiljboihehcaaGreatDoorSumFn
import Derived.Test.YtioiljboihehcaaGreatDoorDigits
namespace Go.Proofs.YtioiljboihehcaaGreatDoor
set_option linter.unusedVariables false
set_option linter.unusedSimpArgs false
open Go.RowKit

def DrawFPost (w : World) (e : Ending) (w' : World) : Prop := ∃ (v : Value) (Fi : List (List Int × List Int)), e = .returned (.agg #[v]) ∧ NodeL (fun b => w.heap.size ≤ b) encI w' v Fi ∧ Fr NoM w w'
set_option maxRecDepth 8000 in
set_option maxHeartbeats 8000000 in
theorem drawText_any (cv : Value) (L : List Int) (w : World) (h : CodeOK w cv L) : Calls Tryz.prog 98 #[cv] w fun e w' => DrawFPost w e w' := by
  obtain ⟨w1, hw1⟩ : ∃ w1, w1 = w.alloc (.cells #[.slice none 0 0] 28) := ⟨_, rfl⟩
  have f1 : Fr NoM w w1 := by rw [hw1]; exact (Fr.refl NoM w).alloc _
  have hs1 : w1.heap.size = w.heap.size + 1 := by rw [hw1]; simp
  have e1 : w1.heap[w.heap.size]? = some (.cells #[.slice none 0 0] 28 (0, 0)) := by rw [hw1]; exact heap_alloc_new w _
  obtain ⟨w2, hw2⟩ : ∃ w2, w2 = w1.alloc (.cells #[cv, .int .i64 0, .int .u64 0] 91) := ⟨_, rfl⟩
  have f2 : Fr NoM w1 w2 := by rw [hw2]; exact (Fr.refl NoM w1).alloc _
  have hc2 : CurS w2 w1.heap.size 0 := by rw [hw2]; exact CurS.start (h.fr0 f1)
  have hs2 : w2.heap.size = w.heap.size + 2 := by rw [hw2]; simp [hs1]
  obtain ⟨cb, hcb⟩ : ∃ cb, cb = w.heap.size + 1 := ⟨_, rfl⟩
  rw [hs1, ← hcb] at hc2
  have HK := Lib.hid (fun (W : World) (f : Fr (fun q => q = cb) w2 W) => (by
    have h4 := f.heap (f2.heap e1 (fun q => q)) (fun e => by omega)
    exact ⟨by rw [cell_of_row W _ 0 _ _ _ h4]; rfl, by simp [World.frozen?, h4]⟩ : W.cell? ⟨w.heap.size, 0, none⟩ = some (.slice none 0 0) ∧ W.frozen? ⟨w.heap.size, 0, none⟩ = false))
  have HF := Lib.hid (fun (W : World) (f : Fr (fun q => q = cb) w2 W) => ((f1.trans f2 (fun _ _ q => q)).trans f (fun q hq e => by omega) : Fr NoM w W))
  have HOne := Lib.hid (one_any cb 0 8 w2 hc2 (by omega) ⟨by omega, by omega⟩)
  have HS1 := Lib.hid hs1; have HCb := Lib.hid hcb; have HS2 := Lib.hid hs2
  obtain ⟨ca, cc, rfl, zz⟩ := id h.1
  clear zz h f1 hs1 e1 f2 hc2 hs2
  go_enter Tryz.func98, Tryz.ntmps98
  go_upto_region 2 with fail
  rw [← hw1, ← hw2, ← hcb]
  clear hw1 hw2 hcb
  go_wp2_with fail
  (with_reducible refine HOne.out.mono ?_)
  rintro e w3 ⟨b, rfl, c3, f3⟩
  cases b with
  | false =>
    have hany := anyForm_any cb (0 + 2) 4 w3 c3 (by omega) (by omega)
    rw [show ((4 : Nat) : Int) = 4 from rfl] at hany
    have HAny := Lib.hid hany
    have F3 := Lib.hid f3
    clear c3 f3 HOne hany
    go_wp2_with fail
    (with_reducible refine HAny.out.mono ?_)
    rintro e w5 ⟨v, Fi, rfl, n5, _, f5⟩
    have F5 := Lib.hid (F3.out.trans f5 (fun _ _ q => q))
    obtain ⟨k1, k2⟩ := HK.out w5 F5.out
    have HN := Lib.hid n5; have HSz := Lib.hid (show w.heap.size < w3.heap.size from by have h3 := F3.out.size; have h4 := HS2.out; omega)
    obtain ⟨va, vc, rfl, zz⟩ := id n5
    clear zz n5 f5 HAny
    go_wp2
    refine bodyPost_ret (v := .agg #[.slice va Fi.length vc]) (by simp [results, Tryz.results98, go_sem, k1]) rfl ?_
    refine ⟨_, Fi, rfl, ?_, (HF.out w5 F5.out).setCell _ _ (fun h => by have h : w.heap.size < w.heap.size := h; omega)⟩
    exact (HN.out.fr (Fr.set w5 ⟨w.heap.size, 0, none⟩ _) (fun q hq e => by have e : q = w.heap.size := e; have := HSz.out; omega)).mono (fun q hq => by have := HSz.out; omega)
  | true =>
    have hf5 := formD_any cb (0 + 2) 5 w3 c3 (by omega) (by omega)
    rw [show ((5 : Nat) : Int) = 5 from rfl] at hf5
    have HF5 := Lib.hid hf5
    have F3 := Lib.hid f3
    have HCl := Lib.hid (show cb < w3.heap.size from c3.lt)
    clear c3 f3 HOne hf5
    go_wp2_with fail
    (with_reducible refine HF5.out.mono ?_)
    rintro e w4 ⟨v4, F4, U4, rfl, n4, d4, u4, c4, f4⟩
    have hf6 := formD_any cb (0 + 2 + 12 * 5 + 4) 6 w4 c4 (by omega) (by omega)
    rw [show ((6 : Nat) : Int) = 6 from rfl] at hf6
    have HF6 := Lib.hid hf6
    obtain ⟨a4, x4, rfl⟩ := n4.val
    have HN4 := Lib.hid n4; have HD4 := Lib.hid d4; have HU4 := Lib.hid u4; have FF4 := Lib.hid f4
    clear n4 d4 u4 c4 f4 HF5 hf6
    go_wp2_with fail
    (with_reducible refine HF6.out.mono ?_)
    rintro e w5 ⟨v5, F5, U5, rfl, n5, d5, u5, c5, f5⟩
    obtain ⟨a5, x5, rfl⟩ := n5.val
    obtain ⟨W5, hW5⟩ : ∃ W5, W5 = w5.alloc (.cells #[.slice a4 F4.length x4, .slice a5 F5.length x5] 28) := ⟨_, rfl⟩
    have g5 : Fr NoM w5 W5 := by rw [hW5]; exact (Fr.refl NoM w5).alloc _
    have hs5 : W5.heap.size = w5.heap.size + 1 := by rw [hW5]; simp
    have hnn4 := (HN4.out.nodeL.mono (R' := fun q => w3.heap.size ≤ q) (fun q hq => hq.1)).fr f5 (fun q hq e => by have e : q = cb := e; have := HCl.out; omega)
    have hrow := forms2 (R := fun q => w3.heap.size ≤ q) (a := w5.heap.size) rfl hnn4 (n5.nodeL.mono (fun q hq => by have := FF4.out.size; omega))
    rw [← hW5] at hrow
    have hf7 := formD_any cb (0 + 2 + 12 * 5 + 4 + 12 * 6 + 4) 6 W5 (c5.fr0 g5) (by omega) (by omega)
    rw [show ((6 : Nat) : Int) = 6 from rfl] at hf7
    have HF7 := Lib.hid hf7; have HRow := Lib.hid hrow; have HD5 := Lib.hid d5; have HU5 := Lib.hid u5
    have FF5 := Lib.hid ((FF4.out.trans f5 (fun _ _ q => q)).trans g5 (fun _ _ q => q.elim)); have HS5 := Lib.hid hs5
    have HWeq := Lib.hid hW5
    have HZ5 := Lib.hid (show w3.heap.size ≤ w5.heap.size from by have h1 := FF4.out.size; have h2 := f5.size; omega)
    clear n5 d5 u5 c5 f5 g5 hs5 hnn4 hrow hf7 hW5 HF6
    go_wp2_with fail
    rw [← HWeq.out]
    (with_reducible refine HF7.out.mono ?_)
    rintro e w6 ⟨v6, F6, U6, rfl, n6, d6, u6, c6, f6⟩
    obtain ⟨a6, x6, rfl⟩ := n6.val
    obtain ⟨W6, hW6⟩ : ∃ W6, W6 = w6.alloc (.cells #[.slice a6 F6.length x6] 28) := ⟨_, rfl⟩
    have g6 : Fr NoM w6 W6 := by rw [hW6]; exact (Fr.refl NoM w6).alloc _
    have hL : FormsL (fun q => w3.heap.size ≤ q) W6 (.slice (some ⟨w5.heap.size, 0, none⟩) 2 2) [F4, F5] := ((HRow.out.fr f6 (fun q hq e => by have e2 := own4 hq; have e : q = cb := e; have := HCl.out; have := HZ5.out; omega) (fun q hq e => by have e : q = cb := e; have := HCl.out; omega))).fr0 g6
    have hR : FormsL (fun q => w3.heap.size ≤ q) W6 (.slice (some ⟨w6.heap.size, 0, none⟩) 1 1) [F6] := by
      have h := forms1 (R := fun q => w3.heap.size ≤ q) (a := w6.heap.size) rfl (n6.nodeL.mono (fun q hq => by have := HS5.out; have := HZ5.out; omega))
      rw [← hW6] at h
      exact h
    have HMk := Lib.hid (make_any (U4 ++ U5 ++ U6) _ _ [F4, F5] [F6] W6 hL hR (fun G hG => by
      rcases List.mem_cons.1 hG with e | e
      · rw [e]; exact HD4.out.mono (fun x hx => List.mem_append_left _ (List.mem_append_left _ hx))
      · rw [List.mem_singleton.1 e]; exact HD5.out.mono (fun x hx => List.mem_append_left _ (List.mem_append_right _ hx))) (fun G hG => by rw [List.mem_singleton.1 hG]; exact d6.mono (fun x hx => List.mem_append_right _ hx)) (by have := HU4.out; have := HU5.out; simp; omega) (by simp) (by simp))
    have FF6 := Lib.hid ((FF5.out.trans f6 (fun _ _ q => q)).trans g6 (fun _ _ q => q.elim))
    have HW6 := Lib.hid hW6
    clear n6 d6 u6 c6 f6 g6 hL hR hW6 HF7
    go_wp2_with fail
    rw [← HW6.out]
    (with_reducible refine HMk.out.mono ?_)
    rintro e w7 ⟨v7, F7, c7, rfl, n7, _, f7⟩
    have HN := Lib.hid (n7.nodeL.toI)
    obtain ⟨a7, x7, rfl, zz⟩ := id n7.nodeL
    have FF7 := Lib.hid (F3.out.trans (FF6.out.trans f7 (fun _ _ q => q.elim)) (fun _ _ q => q))
    obtain ⟨k1, k2⟩ := HK.out w7 FF7.out
    have HSz := Lib.hid (show w.heap.size < W6.heap.size from by have h3 := F3.out.size; have h4 := HS2.out; have h5 := FF6.out.size; omega)
    clear zz n7 f7 HMk
    go_wp2
    refine bodyPost_ret (v := .agg #[.slice a7 F7.length x7]) (by simp [results, Tryz.results98, go_sem, k1]) rfl ?_
    have hl : (i2 F7).length = F7.length := by simp [i2]
    refine ⟨_, i2 F7, rfl, ?_, (HF.out w7 FF7.out).setCell _ _ (fun h => by have h : w.heap.size < w.heap.size := h; omega)⟩
    exact (HN.out.fr (Fr.set w7 ⟨w.heap.size, 0, none⟩ _) (fun q hq e => by have e : q = w.heap.size := e; have := HSz.out; omega)).mono (fun q hq => by have := HSz.out; omega)
set_option maxRecDepth 8000 in
set_option maxHeartbeats 8000000 in
theorem drawNeg_any (cv : Value) (L : List Int) (w : World) (h : CodeOK w cv L) : Calls Tryz.prog 35 #[cv] w fun e w' => DrawFPost w e w' := by
  obtain ⟨w1, hw1⟩ : ∃ w1, w1 = w.alloc (.cells #[.slice none 0 0] 28) := ⟨_, rfl⟩
  have f1 : Fr NoM w w1 := by rw [hw1]; exact (Fr.refl NoM w).alloc _
  have hs1 : w1.heap.size = w.heap.size + 1 := by rw [hw1]; simp
  have e1 : w1.heap[w.heap.size]? = some (.cells #[.slice none 0 0] 28 (0, 0)) := by rw [hw1]; exact heap_alloc_new w _
  obtain ⟨w2, hw2⟩ : ∃ w2, w2 = w1.alloc (.cells #[cv, .int .i64 0, .int .u64 0] 91) := ⟨_, rfl⟩
  have f2 : Fr NoM w1 w2 := by rw [hw2]; exact (Fr.refl NoM w1).alloc _
  have hc2 : CurS w2 w1.heap.size 0 := by rw [hw2]; exact CurS.start (h.fr0 f1)
  have hs2 : w2.heap.size = w.heap.size + 2 := by rw [hw2]; simp [hs1]
  obtain ⟨cb, hcb⟩ : ∃ cb, cb = w.heap.size + 1 := ⟨_, rfl⟩
  rw [hs1, ← hcb] at hc2
  have HK := Lib.hid (fun (W : World) (f : Fr (fun q => q = cb) w2 W) => (by
    have h4 := f.heap (f2.heap e1 (fun q => q)) (fun e => by omega)
    exact ⟨by rw [cell_of_row W _ 0 _ _ _ h4]; rfl, by simp [World.frozen?, h4]⟩ : W.cell? ⟨w.heap.size, 0, none⟩ = some (.slice none 0 0) ∧ W.frozen? ⟨w.heap.size, 0, none⟩ = false))
  have HF := Lib.hid (fun (W : World) (f : Fr (fun q => q = cb) w2 W) => ((f1.trans f2 (fun _ _ q => q)).trans f (fun q hq e => by omega) : Fr NoM w W))
  have hany := anyForm_any cb 0 4 w2 hc2 (by omega) (by omega)
  rw [show ((4 : Nat) : Int) = 4 from rfl] at hany
  have HAny := Lib.hid hany; have HS2 := Lib.hid hs2
  obtain ⟨ca, cc, rfl, zz⟩ := id h.1
  clear zz h f1 hs1 e1 f2 hc2 hs2 hany
  go_enter Tryz.func35, Tryz.ntmps35
  go_upto_region 2 with fail
  rw [← hw1, ← hw2, ← hcb]
  clear hw1 hw2 hcb
  go_wp2_with fail
  (with_reducible refine HAny.out.mono ?_)
  rintro e w5 ⟨v, Fi, rfl, n5, _, f5⟩
  have F5 := Lib.hid f5
  obtain ⟨k1, k2⟩ := HK.out w5 F5.out
  have HN := Lib.hid n5; have HSz := Lib.hid (show w.heap.size < w2.heap.size from by have h4 := HS2.out; omega)
  obtain ⟨va, vc, rfl, zz⟩ := id n5
  clear zz n5 f5 HAny
  go_wp2
  refine bodyPost_ret (v := .agg #[.slice va Fi.length vc]) (by simp [results, Tryz.results35, go_sem, k1]) rfl ?_
  refine ⟨_, Fi, rfl, ?_, (HF.out w5 F5.out).setCell _ _ (fun h => by have h : w.heap.size < w.heap.size := h; omega)⟩
  exact (HN.out.fr (Fr.set w5 ⟨w.heap.size, 0, none⟩ _) (fun q hq e => by have e : q = w.heap.size := e; have := HSz.out; omega)).mono (fun q hq => by have := HSz.out; omega)
theorem goodFormR_any {R : Nat → Prop} (nv : Value) (Fi : List (List Int × List Int)) (w : World) (h : NodeL R encI w nv Fi) :
    Calls Tryz.prog 99 #[.agg #[nv]] w fun e w' => ∃ b, e = .returned (.bool b) ∧ (b = true ↔ goodI Fi) ∧ Fr NoM w w' := by
  obtain ⟨w1, hw1⟩ : ∃ w1, w1 = w.alloc (.cells #[nv] 28) := ⟨_, rfl⟩
  have f1 : Fr NoM w w1 := by rw [hw1]; exact (Fr.refl NoM w).alloc _
  have k1 : w1.cell? ⟨w.heap.size, 0, none⟩ = some nv := by rw [hw1, cell_of_row _ _ 0 _ _ _ (heap_alloc_new w _)]; rfl
  have HG := Lib.hid (l3Good_any nv Fi w1 (h.fr0 f1)); have F1 := Lib.hid f1
  obtain ⟨a, c, rfl, zz⟩ := id h
  clear zz h f1
  go_enter Tryz.func99, Tryz.ntmps99
  go_wp2_with fail
  rw [← hw1]
  (with_reducible refine HG.out.mono ?_)
  rintro e w2 ⟨b, rfl, hb, f2⟩
  have HB := Lib.hid (And.intro hb (F1.out.trans f2 (fun _ _ q => q)))
  clear hb f2
  go_wp2_with fail
  go_ret
  exact ⟨b, rfl, HB.out.1, HB.out.2⟩
def VFormPost (w : World) (e : Ending) (w' : World) : Prop := ∃ (v : Value) (Fs : List PL), e = .returned (.agg #[v]) ∧ NodeL (fun b => w.heap.size ≤ b) encI w' v (i2 Fs) ∧ goodI (i2 Fs) ∧ Fs.length ≤ 30 ∧ Fr NoM w w'
theorem vZero_any (w : World) : Calls Tryz.prog 100 #[] w fun e w' => ∃ v, e = .returned (.agg #[v]) ∧ NodeL (fun b => w.heap.size ≤ b) encI w' v (i2 [([], [])]) ∧ Fr NoM w w' := by
  obtain ⟨w2, hw2⟩ : ∃ w2, w2 = (w.alloc (.cells #[.slice (some ⟨w.heap.size + 1, 0, none⟩) 1 1] 28)).alloc (.cells #[.slice none 0 0, .slice none 0 0] 100) := ⟨_, rfl⟩
  have f2 : Fr NoM w w2 := by rw [hw2]; exact ((Fr.refl NoM w).alloc _).alloc _
  have e1 : w2.heap[w.heap.size]? = some (.cells #[.slice (some ⟨w.heap.size + 1, 0, none⟩) 1 1] 28 (0, 0)) := by rw [hw2]; exact ((Fr.refl NoM _).alloc _).heap (heap_alloc_new w _) (fun q => q)
  have e2 : w2.heap[w.heap.size + 1]? = some (.cells #[.slice none 0 0, .slice none 0 0] 100 (0, 0)) := by
    have h := heap_alloc_new (w.alloc (.cells #[.slice (some ⟨w.heap.size + 1, 0, none⟩) 1 1] 28)) (.cells #[.slice none 0 0, .slice none 0 0] 100)
    rw [World.size_alloc] at h
    rw [hw2]; exact h
  have k1 : w2.cell? ⟨w.heap.size, 0, none⟩ = some (.slice (some ⟨w.heap.size + 1, 0, none⟩) 1 1) := by rw [cell_of_row _ _ 0 _ _ _ e1]; rfl
  have HE := Lib.hid e2; have F2 := Lib.hid f2; have K1 := Lib.hid k1
  clear e1 e2 f2 k1
  go_enter Tryz.func100, Tryz.ntmps100
  go_wp2
  rw [← hw2]
  clear hw2
  have k1 := K1.out
  refine bodyPost_ret (v := .agg #[.slice (some ⟨w.heap.size + 1, 0, none⟩) 1 1]) (by simp [results, Tryz.results100, go_sem, k1]) rfl ?_
  refine ⟨_, rfl, ⟨some ⟨w.heap.size + 1, 0, none⟩, 1, rfl, by simp [i2], by decide, fun j y hy => ?_⟩, F2.out⟩
  have hj : j = 0 := by
    have h := (List.getElem?_eq_some_iff.1 hy).1
    simp [i2] at h; exact h
  subst hj
  have hy2 : y = ([], []) := by simpa [i2, ints] using hy.symm
  subst hy2
  have g := HE.out
  exact ⟨w.heap.size + 1, 0, .slice none 0 0, .slice none 0 0, rfl, by omega, by rw [cell_of_row _ _ _ _ _ _ g]; rfl, by rw [cell_of_row _ _ _ _ _ _ g]; rfl, SliceOf.nil _ _, SliceOf.nil _ _, fun h => absurd rfl h, fun h => absurd rfl h⟩
set_option maxRecDepth 4000 in
set_option maxHeartbeats 4000000 in
theorem vForm_any (cv : Value) (L : List Int) (w : World) (h : CodeOK w cv L) : Calls Tryz.prog 29 #[cv] w fun e w' => VFormPost w e w' := by
  obtain ⟨w1, hw1⟩ : ∃ w1, w1 = w.alloc (.cells #[.slice none 0 0] 28) := ⟨_, rfl⟩
  have f1 : Fr NoM w w1 := by rw [hw1]; exact (Fr.refl NoM w).alloc _
  have hs1 : w1.heap.size = w.heap.size + 1 := by rw [hw1]; simp
  have e1 : w1.heap[w.heap.size]? = some (.cells #[.slice none 0 0] 28 (0, 0)) := by rw [hw1]; exact heap_alloc_new w _
  have HK := Lib.hid (fun (W : World) (f : Fr NoM w1 W) => (by
    have h4 := f.heap e1 (fun q => q)
    exact ⟨by rw [cell_of_row W _ 0 _ _ _ h4]; rfl, by simp [World.frozen?, h4]⟩ : W.cell? ⟨w.heap.size, 0, none⟩ = some (.slice none 0 0) ∧ W.frozen? ⟨w.heap.size, 0, none⟩ = false))
  have HDr := Lib.hid (drawText_any cv L w1 (h.fr0 f1)); have F1 := Lib.hid f1; have HS1 := Lib.hid hs1
  have HEnd := Lib.hid (fun (W : World) (v : Value) (Fs : List PL) (f : Fr NoM w1 W) (n : NodeL (fun b => w1.heap.size ≤ b) encI W v (i2 Fs)) (hg : goodI (i2 Fs)) (hl : Fs.length ≤ 30) => (⟨v, Fs, rfl, (n.fr (Fr.set W ⟨w.heap.size, 0, none⟩ v) (fun q hq e => by have e : q = w.heap.size := e; omega)).mono (fun q hq => by omega), hg, hl, (f1.trans f (fun _ _ q => q)).setCell _ _ (fun h => by have h : w.heap.size < w.heap.size := h; omega)⟩ : VFormPost w (.returned (.agg #[v])) (W.setCell ⟨w.heap.size, 0, none⟩ v)))
  obtain ⟨ca, cc, rfl, zz⟩ := id h.1
  clear zz h f1 hs1 e1
  go_enter Tryz.func29, Tryz.ntmps29
  go_wp2_with fail
  rw [← hw1]
  clear hw1
  (with_reducible refine HDr.out.mono ?_)
  rintro e w2 ⟨v, Fi, rfl, n2, f2⟩
  obtain ⟨va, vc, rfl, zz⟩ := id n2
  obtain ⟨W2, hW2⟩ : ∃ W2, W2 = w2.alloc (.cells #[.slice va Fi.length vc] 28) := ⟨_, rfl⟩
  have g2 : Fr NoM w2 W2 := by rw [hW2]; exact (Fr.refl NoM w2).alloc _
  have B2 := Lib.hid (BoxI.made n2 hW2)
  have F2 := Lib.hid (f2.trans g2 (fun _ _ q => q))
  have HG := Lib.hid (goodFormR_any _ Fi W2 B2.out.node)
  clear zz n2 f2 g2
  go_upto_region 2 with fail
  rw [← hW2]
  clear hW2
  have k2 := B2.out.cell
  go_wp2_with fail
  (with_reducible refine HG.out.mono ?_)
  rintro e w3 ⟨b, rfl, hb, f3⟩
  have B3 := Lib.hid (B2.out.fr0 f3)
  have F3 := Lib.hid (F2.out.trans f3 (fun _ _ q => q))
  have HB := Lib.hid hb
  have k3 := B3.out.cell
  clear k2 hb f3
  by_cases hc : b = true ∧ Fi.length ≤ 30
  · obtain ⟨hbt, hl⟩ := hc
    obtain ⟨Fs, rfl⟩ := goodI_nat (HB.out.1 hbt)
    have HGd := Lib.hid (HB.out.1 hbt)
    subst hbt
    have hl2 : Fs.length ≤ 30 := by simpa [i2] using hl
    have hl3 : ¬ (30 : Int) < ((i2 Fs).length : Int) := by omega
    obtain ⟨j1, j2⟩ := HK.out w3 F3.out
    have HE := Lib.hid (HEnd.out w3 _ Fs F3.out B3.out.node HGd.out hl2)
    go_wp2
    refine bodyPost_ret (v := .agg #[.slice va (i2 Fs).length vc]) (by simp [results, Tryz.results29, go_sem, j1]) rfl ?_
    exact HE.out
  · have HZ := Lib.hid (vZero_any w3)
    have hfin := fun (w4 : World) (v4 : Value) (n4 : NodeL (fun b => w3.heap.size ≤ b) encI w4 v4 (i2 [([], [])])) (f4 : Fr NoM w3 w4) => HEnd.out w4 v4 [([], [])] (F3.out.trans f4 (fun _ _ q => q)) (n4.mono (fun q hq => by have := F3.out.size; omega)) good_zero (by decide)
    have HFin := Lib.hid hfin
    clear hfin
    cases b with
    | false =>
      clear hc
      go_wp2_with fail
      (with_reducible refine HZ.out.mono ?_)
      rintro e w4 ⟨v4, rfl, n4, f4⟩
      obtain ⟨j1, j2⟩ := HK.out w4 (F3.out.trans f4 (fun _ _ q => q))
      have HE := Lib.hid (HFin.out w4 v4 n4 f4)
      obtain ⟨v4a, v4c, rfl, zz⟩ := id n4
      clear zz n4 f4
      go_wp2
      refine bodyPost_ret (v := .agg #[.slice v4a (i2 [([], [])]).length v4c]) (by simp [results, Tryz.results29, go_sem, j1]) rfl ?_
      exact HE.out
    | true =>
      have hl : 30 < Fi.length := by
        rcases Nat.lt_or_ge 30 Fi.length with h | h
        · exact h
        · exact absurd ⟨rfl, h⟩ hc
      have hl3 : (30 : Int) < (Fi.length : Int) := by omega
      clear hc hl
      go_wp2_with fail
      (with_reducible refine HZ.out.mono ?_)
      rintro e w4 ⟨v4, rfl, n4, f4⟩
      obtain ⟨j1, j2⟩ := HK.out w4 (F3.out.trans f4 (fun _ _ q => q))
      have HE := Lib.hid (HFin.out w4 v4 n4 f4)
      obtain ⟨v4a, v4c, rfl, zz⟩ := id n4
      clear zz n4 f4
      go_wp2
      refine bodyPost_ret (v := .agg #[.slice v4a (i2 [([], [])]).length v4c]) (by simp [results, Tryz.results29, go_sem, j1]) rfl ?_
      exact HE.out
end Go.Proofs.YtioiljboihehcaaGreatDoor
namespace Go.Proofs.YtioiljboihehcaaGreatDoor
set_option linter.unusedVariables false
set_option linter.unusedSimpArgs false
open Go.RowKit

theorem CodeOK.drop {w : World} {a : Option Addr} {n c k b off : Nat} {L : List Int} (h : CodeOK w (.slice a n c) L) (ha : a = some ⟨b, off, none⟩) (hk : k ≤ n) : CodeOK w (.slice (some ⟨b, off + k, none⟩) (n - k) (c - k)) (L.drop k) := by
  obtain ⟨⟨a', c', e, h1, h2, h3⟩, h4⟩ := h
  obtain ⟨rfl, rfl, rfl⟩ := Value.slice.inj e
  refine ⟨⟨_, _, by rw [List.length_drop], by rw [List.length_drop]; omega, by omega, fun j x hx => ?_⟩, fun x hx => h4 x (List.mem_of_mem_drop hx)⟩
  rw [List.getElem?_drop] at hx
  obtain ⟨b', o', e2, hc⟩ := h3 (k + j) x hx
  rw [ha] at e2
  cases e2
  exact ⟨b, off + k, rfl, by rw [Nat.add_assoc]; exact hc⟩
theorem CodeOK.empty (w : World) (a : Option Addr) (c : Nat) (hc : c ≤ 9223372036854775807) : CodeOK w (.slice a 0 c) [] := ⟨⟨a, c, rfl, Nat.zero_le _, hc, by simp⟩, by simp⟩
theorem u8_bounds (x : Int) : 0 ≤ IntKind.u8.wrap x ∧ IntKind.u8.wrap x ≤ 255 := by
  have h := wf_wrap .u8 x
  simp [Lit.wf, IntKind.min, IntKind.max, IntKind.signed, IntKind.bits] at h
  omega
theorem code_snoc {W : World} {base : Nat} {v : Value} {L : List Int} {X : Int} (h : W.ownsRow base 5 1 v (L.length + 1) (L.map encC ++ [encC X])) (hL : ∀ x ∈ L, 0 ≤ x ∧ x ≤ 255) (hX : 0 ≤ X ∧ X ≤ 255) : CodeOK W v (L ++ [X]) := by
  refine ⟨SliceOf.of_owns (enc := encC) h (by simp), fun x hx => ?_⟩
  rcases List.mem_append.1 hx with h1 | h1
  · exact hL x h1
  · rw [List.mem_singleton.1 h1]; exact hX
def CutPost (w : World) (e : Ending) (w' : World) : Prop := ∃ v' L', e = .returned v' ∧ CodeOK w' v' L' ∧ Fr NoM w w'
set_option maxRecDepth 4000 in
set_option maxHeartbeats 8000000 in
theorem vCut_any (n : Nat) (hn : 0 < n ∧ n ≤ 10) (cv : Value) (L : List Int) (w : World) (h : CodeOK w cv L) (hl : L.length ≤ 65536) :
    Calls Tryz.prog 36 #[cv, .int .i64 (n : Int)] w fun e w' => CutPost w e w' := by
  obtain ⟨a, c, rfl, hlc, hcm, hcell⟩ := id h.1
  have HC := Lib.hid h
  obtain ⟨n0, n1⟩ := hn
  by_cases h0 : L.length = 0
  · obtain rfl : L = [] := List.length_eq_zero_iff.1 h0
    simp only [List.length_nil] at h ⊢
    cases a with
    | none =>
      have HD := Lib.hid (CodeOK.empty w none c hcm)
      have HLb := Lib.hid (show (([] : List Int)).length ≤ 65536 from by simp <;> omega)
      have HDb := Lib.hid HD.out.2
      have HX := Lib.hid (show 0 ≤ (0 : Int) ∧ (0 : Int) ≤ 255 from by omega)
      clear h hcell
      go_enter Tryz.func36, Tryz.ntmps36
      go_wp2_with (at_builtin; refine wpList_appS (enc := encC) _ rfl (.tmp 11) (.tmp 14) 35 rfl w.heap.size 5 (.int .u8 0) 1 Tryz.underlying35 infoU8 rfl (.slice (some ⟨w.heap.size, 0, none⟩) 0 0) 0 [] rfl (World.ownsRow_made w #[] 0 (Nat.le_refl _) (by decide) (by simp)) (.slice none 0 c) rfl (([] : List Int)) (HD.out.1.fr0 ((Fr.refl NoM w).alloc _)) (fun _ => rfl) (by have := HLb.out; omega) (by decide) (by rw [World.size_alloc]; omega) ?_)
      intro v1 w1 h1 f1 q1
      have g1 : Fr NoM w w1 := ((Fr.refl NoM w).alloc _).trans f1 (fun q hq e => by have e : w.heap.size = q := Option.some.inj e; omega)
      have h1' : w1.ownsRow w.heap.size 5 1 v1 (([] : List Int)).length ((([] : List Int)).map encC) := by simpa using h1
      have HO := Lib.hid h1'; have G1 := Lib.hid g1
      clear h1 h1' f1 q1 g1
      go_wp2_with (at_builtin; go_loud (refine wpList_appS (enc := encC) _ rfl (.tmp 15) (.tmp 18) 35 rfl w.heap.size 5 (.int .u8 0) 1 Tryz.underlying35 infoU8 rfl v1 (([] : List Int)).length ((([] : List Int)).map encC) rfl (owns_fr HO.out ((Fr.refl NoM w1).alloc _) (fun _ _ q => q)) (.slice (some ⟨w1.heap.size, 0, none⟩) 1 1) rfl [(0 : Int)] (SliceOf.one encC w1 _ 5) (fun _ => rfl) (by have := HLb.out; simp only [List.length_singleton]; omega) (by decide) (by have := G1.out.size; rw [World.size_alloc]; omega) ?_))
      intro v2 w2 h2 f2 q2
      have h2' : w2.ownsRow w.heap.size 5 1 v2 ((([] : List Int)).length + 1) ((([] : List Int)).map encC ++ [encC ((0 : Int))]) := by simpa using h2
      have HEnd := Lib.hid (show CutPost w (.returned v2) w2 from ⟨v2, _, rfl, code_snoc h2' HDb.out HX.out, (G1.out.trans ((Fr.refl NoM w1).alloc _) (fun _ _ q => q)).trans f2 (fun q hq e => by have := (HO.out.lt q e).1; omega)⟩)
      clear h2 h2' f2 q2
      go_wp2
      go_ret
      exact HEnd.out
    | some a =>
      have HD := Lib.hid (CodeOK.empty w (some a) c hcm)
      have HLb := Lib.hid (show (([] : List Int)).length ≤ 65536 from by simp <;> omega)
      have HDb := Lib.hid HD.out.2
      have HX := Lib.hid (show 0 ≤ (0 : Int) ∧ (0 : Int) ≤ 255 from by omega)
      clear h hcell
      go_enter Tryz.func36, Tryz.ntmps36
      go_wp2_with (at_builtin; refine wpList_appS (enc := encC) _ rfl (.tmp 11) (.tmp 14) 35 rfl w.heap.size 5 (.int .u8 0) 1 Tryz.underlying35 infoU8 rfl (.slice (some ⟨w.heap.size, 0, none⟩) 0 0) 0 [] rfl (World.ownsRow_made w #[] 0 (Nat.le_refl _) (by decide) (by simp)) (.slice (some a) 0 c) rfl (([] : List Int)) (HD.out.1.fr0 ((Fr.refl NoM w).alloc _)) (fun _ => rfl) (by have := HLb.out; omega) (by decide) (by rw [World.size_alloc]; omega) ?_)
      intro v1 w1 h1 f1 q1
      have g1 : Fr NoM w w1 := ((Fr.refl NoM w).alloc _).trans f1 (fun q hq e => by have e : w.heap.size = q := Option.some.inj e; omega)
      have h1' : w1.ownsRow w.heap.size 5 1 v1 (([] : List Int)).length ((([] : List Int)).map encC) := by simpa using h1
      have HO := Lib.hid h1'; have G1 := Lib.hid g1
      clear h1 h1' f1 q1 g1
      go_wp2_with (at_builtin; go_loud (refine wpList_appS (enc := encC) _ rfl (.tmp 15) (.tmp 18) 35 rfl w.heap.size 5 (.int .u8 0) 1 Tryz.underlying35 infoU8 rfl v1 (([] : List Int)).length ((([] : List Int)).map encC) rfl (owns_fr HO.out ((Fr.refl NoM w1).alloc _) (fun _ _ q => q)) (.slice (some ⟨w1.heap.size, 0, none⟩) 1 1) rfl [(0 : Int)] (SliceOf.one encC w1 _ 5) (fun _ => rfl) (by have := HLb.out; simp only [List.length_singleton]; omega) (by decide) (by have := G1.out.size; rw [World.size_alloc]; omega) ?_))
      intro v2 w2 h2 f2 q2
      have h2' : w2.ownsRow w.heap.size 5 1 v2 ((([] : List Int)).length + 1) ((([] : List Int)).map encC ++ [encC ((0 : Int))]) := by simpa using h2
      have HEnd := Lib.hid (show CutPost w (.returned v2) w2 from ⟨v2, _, rfl, code_snoc h2' HDb.out HX.out, (G1.out.trans ((Fr.refl NoM w1).alloc _) (fun _ _ q => q)).trans f2 (fun q hq e => by have := (HO.out.lt q e).1; omega)⟩)
      clear h2 h2' f2 q2
      go_wp2
      go_ret
      exact HEnd.out
  · obtain ⟨b, off, ha, _⟩ := hcell 0 (L[0]'(by omega)) (List.getElem?_eq_getElem (by omega))
    by_cases hgt : L.length < n
    · by_cases hcn : c = L.length
      · have HD := Lib.hid (CodeOK.empty w (some ⟨b, off, none⟩) 0 (by omega))
        subst ha
        subst hcn
        have HLb := Lib.hid (show (([] : List Int)).length ≤ 65536 from by simp <;> omega)
        have HDb := Lib.hid HD.out.2
        have HX := Lib.hid (show 0 ≤ (L.length : Int) ∧ (L.length : Int) ≤ 255 from by omega)
        clear h hcell
        go_enter Tryz.func36, Tryz.ntmps36
        go_wp2_with (at_builtin; refine wpList_appS (enc := encC) _ rfl (.tmp 11) (.tmp 14) 35 rfl w.heap.size 5 (.int .u8 0) 1 Tryz.underlying35 infoU8 rfl (.slice (some ⟨w.heap.size, 0, none⟩) 0 0) 0 [] rfl (World.ownsRow_made w #[] 0 (Nat.le_refl _) (by decide) (by simp)) (.slice (some ⟨b, off, none⟩) 0 0) rfl (([] : List Int)) (HD.out.1.fr0 ((Fr.refl NoM w).alloc _)) (fun _ => rfl) (by have := HLb.out; omega) (by decide) (by rw [World.size_alloc]; omega) ?_)
        intro v1 w1 h1 f1 q1
        have g1 : Fr NoM w w1 := ((Fr.refl NoM w).alloc _).trans f1 (fun q hq e => by have e : w.heap.size = q := Option.some.inj e; omega)
        have h1' : w1.ownsRow w.heap.size 5 1 v1 (([] : List Int)).length ((([] : List Int)).map encC) := by simpa using h1
        have HO := Lib.hid h1'; have G1 := Lib.hid g1
        clear h1 h1' f1 q1 g1
        go_wp2_with (at_builtin; go_loud (refine wpList_appS (enc := encC) _ rfl (.tmp 15) (.tmp 18) 35 rfl w.heap.size 5 (.int .u8 0) 1 Tryz.underlying35 infoU8 rfl v1 (([] : List Int)).length ((([] : List Int)).map encC) rfl (owns_fr HO.out ((Fr.refl NoM w1).alloc _) (fun _ _ q => q)) (.slice (some ⟨w1.heap.size, 0, none⟩) 1 1) rfl [(L.length : Int)] (SliceOf.one encC w1 _ 5) (fun _ => rfl) (by have := HLb.out; simp only [List.length_singleton]; omega) (by decide) (by have := G1.out.size; rw [World.size_alloc]; omega) ?_))
        intro v2 w2 h2 f2 q2
        have h2' : w2.ownsRow w.heap.size 5 1 v2 ((([] : List Int)).length + 1) ((([] : List Int)).map encC ++ [encC ((L.length : Int))]) := by simpa using h2
        have HEnd := Lib.hid (show CutPost w (.returned v2) w2 from ⟨v2, _, rfl, code_snoc h2' HDb.out HX.out, (G1.out.trans ((Fr.refl NoM w1).alloc _) (fun _ _ q => q)).trans f2 (fun q hq e => by have := (HO.out.lt q e).1; omega)⟩)
        clear h2 h2' f2 q2
        go_wp2
        go_ret
        exact HEnd.out
      · have HD := Lib.hid (CodeOK.empty w (some ⟨b, off + L.length, none⟩) (c - L.length) (by omega))
        subst ha
        have HLb := Lib.hid (show (([] : List Int)).length ≤ 65536 from by simp <;> omega)
        have HDb := Lib.hid HD.out.2
        have HX := Lib.hid (show 0 ≤ (L.length : Int) ∧ (L.length : Int) ≤ 255 from by omega)
        clear h hcell
        go_enter Tryz.func36, Tryz.ntmps36
        go_wp2_with (at_builtin; refine wpList_appS (enc := encC) _ rfl (.tmp 11) (.tmp 14) 35 rfl w.heap.size 5 (.int .u8 0) 1 Tryz.underlying35 infoU8 rfl (.slice (some ⟨w.heap.size, 0, none⟩) 0 0) 0 [] rfl (World.ownsRow_made w #[] 0 (Nat.le_refl _) (by decide) (by simp)) (.slice (some ⟨b, off + L.length, none⟩) 0 (c - L.length)) rfl (([] : List Int)) (HD.out.1.fr0 ((Fr.refl NoM w).alloc _)) (fun _ => rfl) (by have := HLb.out; omega) (by decide) (by rw [World.size_alloc]; omega) ?_)
        intro v1 w1 h1 f1 q1
        have g1 : Fr NoM w w1 := ((Fr.refl NoM w).alloc _).trans f1 (fun q hq e => by have e : w.heap.size = q := Option.some.inj e; omega)
        have h1' : w1.ownsRow w.heap.size 5 1 v1 (([] : List Int)).length ((([] : List Int)).map encC) := by simpa using h1
        have HO := Lib.hid h1'; have G1 := Lib.hid g1
        clear h1 h1' f1 q1 g1
        go_wp2_with (at_builtin; go_loud (refine wpList_appS (enc := encC) _ rfl (.tmp 15) (.tmp 18) 35 rfl w.heap.size 5 (.int .u8 0) 1 Tryz.underlying35 infoU8 rfl v1 (([] : List Int)).length ((([] : List Int)).map encC) rfl (owns_fr HO.out ((Fr.refl NoM w1).alloc _) (fun _ _ q => q)) (.slice (some ⟨w1.heap.size, 0, none⟩) 1 1) rfl [(L.length : Int)] (SliceOf.one encC w1 _ 5) (fun _ => rfl) (by have := HLb.out; simp only [List.length_singleton]; omega) (by decide) (by have := G1.out.size; rw [World.size_alloc]; omega) ?_))
        intro v2 w2 h2 f2 q2
        have h2' : w2.ownsRow w.heap.size 5 1 v2 ((([] : List Int)).length + 1) ((([] : List Int)).map encC ++ [encC ((L.length : Int))]) := by simpa using h2
        have HEnd := Lib.hid (show CutPost w (.returned v2) w2 from ⟨v2, _, rfl, code_snoc h2' HDb.out HX.out, (G1.out.trans ((Fr.refl NoM w1).alloc _) (fun _ _ q => q)).trans f2 (fun q hq e => by have := (HO.out.lt q e).1; omega)⟩)
        clear h2 h2' f2 q2
        go_wp2
        go_ret
        exact HEnd.out
    · have hle : n ≤ L.length := by omega
      by_cases hcn : c = n
      · have HD := Lib.hid (CodeOK.empty w (some ⟨b, off, none⟩) 0 (by omega))
        subst ha
        subst hcn
        have hln : L.length = c := by omega
        have HLn := Lib.hid hln
        have hz : L.length - c = 0 := by omega
        clear hln
        have HLb := Lib.hid (show (([] : List Int)).length ≤ 65536 from by simp <;> omega)
        have HDb := Lib.hid HD.out.2
        have HX := Lib.hid (show 0 ≤ (c : Int) ∧ (c : Int) ≤ 255 from by omega)
        clear h hcell
        go_enter Tryz.func36, Tryz.ntmps36
        go_wp2_with (at_builtin; refine wpList_appS (enc := encC) _ rfl (.tmp 11) (.tmp 14) 35 rfl w.heap.size 5 (.int .u8 0) 1 Tryz.underlying35 infoU8 rfl (.slice (some ⟨w.heap.size, 0, none⟩) 0 0) 0 [] rfl (World.ownsRow_made w #[] 0 (Nat.le_refl _) (by decide) (by simp)) (.slice (some ⟨b, off, none⟩) 0 0) rfl (([] : List Int)) (HD.out.1.fr0 ((Fr.refl NoM w).alloc _)) (fun _ => rfl) (by have := HLb.out; omega) (by decide) (by rw [World.size_alloc]; omega) ?_)
        intro v1 w1 h1 f1 q1
        have g1 : Fr NoM w w1 := ((Fr.refl NoM w).alloc _).trans f1 (fun q hq e => by have e : w.heap.size = q := Option.some.inj e; omega)
        have h1' : w1.ownsRow w.heap.size 5 1 v1 (([] : List Int)).length ((([] : List Int)).map encC) := by simpa using h1
        have HO := Lib.hid h1'; have G1 := Lib.hid g1
        clear h1 h1' f1 q1 g1
        go_wp2_with (at_builtin; go_loud (refine wpList_appS (enc := encC) _ rfl (.tmp 15) (.tmp 18) 35 rfl w.heap.size 5 (.int .u8 0) 1 Tryz.underlying35 infoU8 rfl v1 (([] : List Int)).length ((([] : List Int)).map encC) rfl (owns_fr HO.out ((Fr.refl NoM w1).alloc _) (fun _ _ q => q)) (.slice (some ⟨w1.heap.size, 0, none⟩) 1 1) rfl [(c : Int)] (SliceOf.one encC w1 _ 5) (fun _ => rfl) (by have := HLb.out; simp only [List.length_singleton]; omega) (by decide) (by have := G1.out.size; rw [World.size_alloc]; omega) ?_))
        intro v2 w2 h2 f2 q2
        have h2' : w2.ownsRow w.heap.size 5 1 v2 ((([] : List Int)).length + 1) ((([] : List Int)).map encC ++ [encC ((c : Int))]) := by simpa using h2
        have HEnd := Lib.hid (show CutPost w (.returned v2) w2 from ⟨v2, _, rfl, code_snoc h2' HDb.out HX.out, (G1.out.trans ((Fr.refl NoM w1).alloc _) (fun _ _ q => q)).trans f2 (fun q hq e => by have := (HO.out.lt q e).1; omega)⟩)
        clear h2 h2' f2 q2
        go_wp2
        go_ret
        exact HEnd.out
      · have HD := Lib.hid (HC.out.drop ha hle)
        subst ha
        have HLb := Lib.hid (show (L.drop n).length ≤ 65536 from by simp <;> omega)
        have HDb := Lib.hid HD.out.2
        have HX := Lib.hid (show 0 ≤ (n : Int) ∧ (n : Int) ≤ 255 from by omega)
        clear h hcell
        go_enter Tryz.func36, Tryz.ntmps36
        go_wp2_with (at_builtin; refine wpList_appS (enc := encC) _ rfl (.tmp 11) (.tmp 14) 35 rfl w.heap.size 5 (.int .u8 0) 1 Tryz.underlying35 infoU8 rfl (.slice (some ⟨w.heap.size, 0, none⟩) 0 0) 0 [] rfl (World.ownsRow_made w #[] 0 (Nat.le_refl _) (by decide) (by simp)) (.slice (some ⟨b, off + n, none⟩) (L.length - n) (c - n)) rfl (L.drop n) (HD.out.1.fr0 ((Fr.refl NoM w).alloc _)) (fun _ => rfl) (by have := HLb.out; omega) (by decide) (by rw [World.size_alloc]; omega) ?_)
        intro v1 w1 h1 f1 q1
        have g1 : Fr NoM w w1 := ((Fr.refl NoM w).alloc _).trans f1 (fun q hq e => by have e : w.heap.size = q := Option.some.inj e; omega)
        have h1' : w1.ownsRow w.heap.size 5 1 v1 (L.drop n).length ((L.drop n).map encC) := by simpa using h1
        have HO := Lib.hid h1'; have G1 := Lib.hid g1
        clear h1 h1' f1 q1 g1
        go_wp2_with (at_builtin; go_loud (refine wpList_appS (enc := encC) _ rfl (.tmp 15) (.tmp 18) 35 rfl w.heap.size 5 (.int .u8 0) 1 Tryz.underlying35 infoU8 rfl v1 (L.drop n).length ((L.drop n).map encC) rfl (owns_fr HO.out ((Fr.refl NoM w1).alloc _) (fun _ _ q => q)) (.slice (some ⟨w1.heap.size, 0, none⟩) 1 1) rfl [(n : Int)] (SliceOf.one encC w1 _ 5) (fun _ => rfl) (by have := HLb.out; simp only [List.length_singleton]; omega) (by decide) (by have := G1.out.size; rw [World.size_alloc]; omega) ?_))
        intro v2 w2 h2 f2 q2
        have h2' : w2.ownsRow w.heap.size 5 1 v2 ((L.drop n).length + 1) ((L.drop n).map encC ++ [encC ((n : Int))]) := by simpa using h2
        have HEnd := Lib.hid (show CutPost w (.returned v2) w2 from ⟨v2, _, rfl, code_snoc h2' HDb.out HX.out, (G1.out.trans ((Fr.refl NoM w1).alloc _) (fun _ _ q => q)).trans f2 (fun q hq e => by have := (HO.out.lt q e).1; omega)⟩)
        clear h2 h2' f2 q2
        go_wp2
        go_ret
        exact HEnd.out
set_option maxRecDepth 4000 in
theorem vTwo_any (cv : Value) (L : List Int) (w : World) (h : CodeOK w cv L) (hl : L.length ≤ 65536) : Calls Tryz.prog 30 #[cv] w fun e w' => VFormPost w e w' := by
  obtain ⟨w1, hw1⟩ : ∃ w1, w1 = w.alloc (.cells #[.slice none 0 0] 28) := ⟨_, rfl⟩
  have f1 : Fr NoM w w1 := by rw [hw1]; exact (Fr.refl NoM w).alloc _
  have hs1 : w1.heap.size = w.heap.size + 1 := by rw [hw1]; simp
  have e1 : w1.heap[w.heap.size]? = some (.cells #[.slice none 0 0] 28 (0, 0)) := by rw [hw1]; exact heap_alloc_new w _
  have HK := Lib.hid (fun (W : World) (f : Fr NoM w1 W) => (by
    have h4 := f.heap e1 (fun q => q)
    exact ⟨by rw [cell_of_row W _ 0 _ _ _ h4]; rfl, by simp [World.frozen?, h4]⟩ : W.cell? ⟨w.heap.size, 0, none⟩ = some (.slice none 0 0) ∧ W.frozen? ⟨w.heap.size, 0, none⟩ = false))
  have hcut := vCut_any 2 ⟨by omega, by omega⟩ cv L w1 (h.fr0 f1) hl
  rw [show ((2 : Nat) : Int) = 2 from rfl] at hcut
  have HCut := Lib.hid hcut; have F1 := Lib.hid f1; have HS1 := Lib.hid hs1
  have HEnd := Lib.hid (fun (W : World) (v : Value) (Fs : List PL) (f : Fr NoM w1 W) (n : NodeL (fun b => w1.heap.size ≤ b) encI W v (i2 Fs)) (hg : goodI (i2 Fs)) (hl : Fs.length ≤ 30) => (⟨v, Fs, rfl, (n.fr (Fr.set W ⟨w.heap.size, 0, none⟩ v) (fun q hq e => by have e : q = w.heap.size := e; omega)).mono (fun q hq => by omega), hg, hl, (f1.trans f (fun _ _ q => q)).setCell _ _ (fun h => by have h : w.heap.size < w.heap.size := h; omega)⟩ : VFormPost w (.returned (.agg #[v])) (W.setCell ⟨w.heap.size, 0, none⟩ v)))
  obtain ⟨ca, cc, rfl, zz⟩ := id h.1
  clear zz h f1 hs1 e1 hcut
  go_enter Tryz.func30, Tryz.ntmps30
  go_wp2_with fail
  rw [← hw1]
  clear hw1
  (with_reducible refine HCut.out.mono ?_)
  rintro e w2 ⟨v2, L2, rfl, c2, f2⟩
  have HF := Lib.hid (vForm_any v2 L2 w2 c2)
  have F2 := Lib.hid f2
  obtain ⟨c2a, c2c, rfl, zz⟩ := id c2.1
  clear zz c2 f2
  go_wp2_with fail
  (with_reducible refine HF.out.mono ?_)
  rintro e w3 ⟨v3, Fs, rfl, n3, hg, hl3, f3⟩
  obtain ⟨j1, j2⟩ := HK.out w3 (F2.out.trans f3 (fun _ _ q => q))
  have HE := Lib.hid (HEnd.out w3 v3 Fs (F2.out.trans f3 (fun _ _ q => q)) (n3.mono (fun q hq => by have := F2.out.size; omega)) hg hl3)
  obtain ⟨va, vc, rfl, zz⟩ := id n3
  clear zz n3 hg hl3 f3
  go_wp2
  refine bodyPost_ret (v := .agg #[.slice va (i2 Fs).length vc]) (by simp [results, Tryz.results30, go_sem, j1]) rfl ?_
  exact HE.out
end Go.Proofs.YtioiljboihehcaaGreatDoor
namespace Go.Proofs.YtioiljboihehcaaGreatDoor
set_option linter.unusedVariables false
set_option linter.unusedSimpArgs false
open Go.RowKit

set_option maxRecDepth 8000 in
set_option maxHeartbeats 8000000 in
theorem drawDom_any (cv : Value) (L : List Int) (w : World) (h : CodeOK w cv L) : Calls Tryz.prog 40 #[cv] w fun e w' => DrawFPost w e w' := by
  obtain ⟨w1, hw1⟩ : ∃ w1, w1 = w.alloc (.cells #[.slice none 0 0] 28) := ⟨_, rfl⟩
  have f1 : Fr NoM w w1 := by rw [hw1]; exact (Fr.refl NoM w).alloc _
  have hs1 : w1.heap.size = w.heap.size + 1 := by rw [hw1]; simp
  have e1 : w1.heap[w.heap.size]? = some (.cells #[.slice none 0 0] 28 (0, 0)) := by rw [hw1]; exact heap_alloc_new w _
  obtain ⟨w2, hw2⟩ : ∃ w2, w2 = w1.alloc (.cells #[cv, .int .i64 0, .int .u64 0] 91) := ⟨_, rfl⟩
  have f2 : Fr NoM w1 w2 := by rw [hw2]; exact (Fr.refl NoM w1).alloc _
  have hc2 : CurS w2 w1.heap.size 0 := by rw [hw2]; exact CurS.start (h.fr0 f1)
  have hs2 : w2.heap.size = w.heap.size + 2 := by rw [hw2]; simp [hs1]
  obtain ⟨cb, hcb⟩ : ∃ cb, cb = w.heap.size + 1 := ⟨_, rfl⟩
  rw [hs1, ← hcb] at hc2
  have HK := Lib.hid (fun (W : World) (f : Fr (fun q => q = cb) w2 W) => (by
    have h4 := f.heap (f2.heap e1 (fun q => q)) (fun e => by omega)
    exact ⟨by rw [cell_of_row W _ 0 _ _ _ h4]; rfl, by simp [World.frozen?, h4]⟩ : W.cell? ⟨w.heap.size, 0, none⟩ = some (.slice none 0 0) ∧ W.frozen? ⟨w.heap.size, 0, none⟩ = false))
  have HF := Lib.hid (fun (W : World) (f : Fr (fun q => q = cb) w2 W) => ((f1.trans f2 (fun _ _ q => q)).trans f (fun q hq e => by omega) : Fr NoM w W))
  have HOne := Lib.hid (one_any cb 0 2 w2 hc2 (by omega) ⟨by omega, by omega⟩)
  have HS1 := Lib.hid hs1; have HCb := Lib.hid hcb; have HS2 := Lib.hid hs2
  obtain ⟨ca, cc, rfl, zz⟩ := id h.1
  clear zz h f1 hs1 e1 f2 hc2 hs2
  go_enter Tryz.func40, Tryz.ntmps40
  go_upto_region 2 with fail
  rw [← hw1, ← hw2, ← hcb]
  clear hw1 hw2 hcb
  go_wp2_with fail
  (with_reducible refine HOne.out.mono ?_)
  rintro e w3 ⟨b, rfl, c3, f3⟩
  cases b with
  | false =>
    have hany := anyForm_any cb (0 + 2) 4 w3 c3 (by omega) (by omega)
    rw [show ((4 : Nat) : Int) = 4 from rfl] at hany
    have HAny := Lib.hid hany
    have F3 := Lib.hid f3
    clear c3 f3 HOne hany
    go_wp2_with fail
    (with_reducible refine HAny.out.mono ?_)
    rintro e w5 ⟨v, Fi, rfl, n5, _, f5⟩
    have F5 := Lib.hid (F3.out.trans f5 (fun _ _ q => q))
    obtain ⟨k1, k2⟩ := HK.out w5 F5.out
    have HN := Lib.hid n5; have HSz := Lib.hid (show w.heap.size < w3.heap.size from by have h3 := F3.out.size; have h4 := HS2.out; omega)
    obtain ⟨va, vc, rfl, zz⟩ := id n5
    clear zz n5 f5 HAny
    go_wp2
    refine bodyPost_ret (v := .agg #[.slice va Fi.length vc]) (by simp [results, Tryz.results40, go_sem, k1]) rfl ?_
    refine ⟨_, Fi, rfl, ?_, (HF.out w5 F5.out).setCell _ _ (fun h => by have h : w.heap.size < w.heap.size := h; omega)⟩
    exact (HN.out.fr (Fr.set w5 ⟨w.heap.size, 0, none⟩ _) (fun q hq e => by have e : q = w.heap.size := e; have := HSz.out; omega)).mono (fun q hq => by have := HSz.out; omega)
  | true =>
    have F3 := Lib.hid f3; have HC3 := Lib.hid c3
    have HCl := Lib.hid (show cb < w3.heap.size from c3.lt)
    clear c3 f3 HOne
    go_wp2_with fail
    (with_reducible refine (l3Small_any w3).mono ?_)
    rintro e w4 ⟨v4, VS, FSs, U, Tb, rfl, g4, d4, l4, m4, f4⟩
    have hT := fun (q : Nat) (hq : Tb q) => (by have h1 := g4.sep q hq; have h2 := HCl.out; exact ⟨by omega, h1.2.1, h1.1⟩ : q ≠ cb ∧ q < w4.heap.size ∧ w3.heap.size ≤ q)
    have hV := fun (q : Nat) (hq : v4.ownBlock = some q) => (by have h1 := (g4.row.lt q hq).1; have h2 := HCl.out; omega : q ≠ cb)
    have hso := some_any (R := Tb) cb (0 + 2) 4 v4 FSs w4 (HC3.out.fr0 f4) g4.forms hV (fun q hq => ⟨(hT q hq).1, (hT q hq).2.1⟩) (by omega) (by omega) (by omega) (by omega)
    rw [show ((4 : Nat) : Int) = 4 from rfl] at hso
    have HSo := Lib.hid hso
    have HG4 := Lib.hid g4; have HD4 := Lib.hid d4; have HU := Lib.hid (And.intro l4 m4); have HT := Lib.hid hT; have HV := Lib.hid hV; have FF4 := Lib.hid f4
    clear hso g4 d4 l4 m4 hT hV f4
    go_wp2_with fail
    (with_reducible refine HSo.out.mono ?_)
    rintro e w5 ⟨v5, FL5, rfl, s5, n5, m5, q5, c5, f5⟩
    have g5 := HG4.out.fr f5 (fun q hq => HV.out q hq) (fun q hq => (HT.out q hq).1)
    have hso := some_any (R := Tb) cb (0 + 2 + 2 + 2 * 4) 4 v4 FSs w5 c5 g5.forms HV.out (fun q hq => ⟨(HT.out q hq).1, by have := (HT.out q hq).2.1; have := f5.size; omega⟩) (by have := HU.out; omega) (by have := HU.out; omega) (by omega) (by omega)
    rw [show ((4 : Nat) : Int) = 4 from rfl] at hso
    have HSo2 := Lib.hid hso
    have HS5 := Lib.hid s5; have HM5 := Lib.hid (And.intro n5 (And.intro m5 q5)); have FF5 := Lib.hid f5
    obtain ⟨v5a, v5c, rfl⟩ : ∃ a c, v5 = .slice a FL5.length c := by
      obtain ⟨VS8, hv8, hl8, _⟩ := s5
      obtain ⟨a, c, e, _⟩ := hv8
      exact ⟨a, c, by rw [e, hl8]⟩
    clear hso s5 n5 m5 q5 c5 f5 g5 HSo
    go_wp2_with fail
    (with_reducible refine HSo2.out.mono ?_)
    rintro e w6 ⟨v6, FL6, rfl, s6, n6, m6, q6, c6, f6⟩
    have s5 : FormsL Tb w6 (.slice v5a FL5.length v5c) FL5 := HS5.out.fr f6 (fun q hq e => by have h1 := HM5.out.2.2 q hq; have h2 := HCl.out; have h3 := FF4.out.size; have e : q = cb := e; omega) (fun q hq => (HT.out q hq).1)
    have HMk := Lib.hid (make_any (R := Tb) U (.slice v5a FL5.length v5c) v6 FL5 FL6 w6 s5 s6 (fun Fm hm => HD4.out Fm (HM5.out.2.1 Fm hm)) (fun Fm hm => HD4.out Fm (m6 Fm hm)) (by have := HU.out.1; omega) (by have := HM5.out.1; omega) (by omega))
    have FF6 := Lib.hid (F3.out.trans ((FF4.out.any.trans FF5.out (fun _ _ q => q)).trans f6 (fun _ _ q => q)) (fun _ _ q => q))
    clear s5 s6 n6 m6 q6 c6 f6 HSo2
    go_wp2_with fail
    (with_reducible refine HMk.out.mono ?_)
    rintro e w7 ⟨v7, F7, c7, rfl, n7, _, f7⟩
    have HN := Lib.hid (n7.nodeL.toI)
    obtain ⟨a7, x7, rfl, zz⟩ := id n7.nodeL
    have FF7 := Lib.hid (FF6.out.trans f7 (fun _ _ q => q.elim))
    obtain ⟨k1, k2⟩ := HK.out w7 FF7.out
    have HSz := Lib.hid (show w.heap.size < w6.heap.size from by have h4 := HS2.out; have h5 := FF6.out.size; omega)
    clear zz n7 f7 HMk
    go_wp2
    refine bodyPost_ret (v := .agg #[.slice a7 F7.length x7]) (by simp [results, Tryz.results40, go_sem, k1]) rfl ?_
    have hl : (i2 F7).length = F7.length := by simp [i2]
    refine ⟨_, i2 F7, rfl, ?_, (HF.out w7 FF7.out).setCell _ _ (fun h => by have h : w.heap.size < w.heap.size := h; omega)⟩
    exact (HN.out.fr (Fr.set w7 ⟨w.heap.size, 0, none⟩ _) (fun q hq e => by have e : q = w.heap.size := e; have := HSz.out; omega)).mono (fun q hq => by have := HSz.out; omega)
end Go.Proofs.YtioiljboihehcaaGreatDoor
