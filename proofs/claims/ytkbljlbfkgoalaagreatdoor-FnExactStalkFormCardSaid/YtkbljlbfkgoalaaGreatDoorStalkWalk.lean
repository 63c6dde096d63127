/- The walk of laws.FnExactStalkForm: it returns true for every text. -/
import Derived.Test.YtkbljlbfkgoalaaGreatDoorRefStalkForm
import Derived.Test.YtkbljlbfkgoalaaGreatDoorStalkP
import Derived.Test.YtkbljlbfkgoalaaGreatDoorLawKit
namespace Go.Proofs.YtkbljlbfkgoalaaGreatDoor
set_option linter.unusedVariables false
set_option linter.unusedSimpArgs false
open Go.RowKit

theorem cntF_le (FN : List PL) (h : ∀ y ∈ FN, y.1.length ≤ 24 ∧ y.2.length ≤ 24) : cntF FN ≤ 48 * FN.length := by
  induction FN with
  | nil => simp [cntF]
  | cons y l ih =>
    have h1 := h y List.mem_cons_self
    have h2 := ih fun z hz => h z (List.mem_cons_of_mem _ hz)
    rw [cntF_cons, List.length_cons]
    omega
set_option maxHeartbeats 4000000 in
theorem stalkLaw_any (s : ByteArray) (W : World) : Calls Tryz.prog 3 #[.string s] W fun e W' => e = .returned (.bool true) ∧ Fr NoM W W' := by
  by_cases hbig : 1048576 < s.size
  · go_enter Tryz.func3, Tryz.ntmps3
    go_wp2
    go_ret
    exact ⟨rfl, Fr.refl _ _⟩
  · obtain ⟨g, hg⟩ : ∃ g : Bool, (g = true ↔ marksOK s ∧ s.size ≤ 16) := by
      by_cases h : marksOK s ∧ s.size ≤ 16
      · exact ⟨true, by simp [h]⟩
      · exact ⟨false, by simp [h]⟩
    have hs : s.size < 1000000000 := by omega
    obtain ⟨FN, hFN⟩ : ∃ FN, FN = (if g then stF (bitsS s) (s.size + 1) else []) := ⟨_, rfl⟩
    have hlen : FN.length ≤ 120 ∧ cntF FN ≤ 10000 := by
      rw [hFN]
      cases g with
      | false => exact ⟨by simp, by simp [cntF]⟩
      | true =>
        have h16 := (hg.1 rfl).2
        have hf := fits_st (bitsS s) s.size (by omega)
        unfold fitsB at hf
        rw [decide_eq_true_eq] at hf
        have := cntF_le _ hf.2.2
        exact ⟨hf.1, by have := hf.1; simp only [if_true]; omega⟩
    have HR := Lib.hid (fun (w : World) => show Calls Tryz.prog 15 #[.string s] w fun e w' => ∃ v', e = .returned (.tuple #[.agg #[v'], .bool g]) ∧ NodeL (fun b => w.heap.size ≤ b) encN w' v' FN ∧ Fr NoM w w' from by rw [hFN]; exact stalkFormR_any s w hs g hg)
    have HP := Lib.hid (fun (w : World) => show Calls Tryz.prog 16 #[.string s] w fun e w' => ∃ v', e = .returned (.tuple #[.agg #[v'], .bool g]) ∧ NodesS w.heap.size w' v' FN ∧ Fr NoM w w' from by rw [hFN]; exact stalkFormP_any s w hs g hg)
    have HLen := Lib.hid hlen
    clear hFN hg hlen hs
    go_enter Tryz.func3, Tryz.ntmps3
    go_wp2_with fail
    refine (HR.out W).mono ?_
    rintro e w1 ⟨wv, rfl, nw, f1⟩
    have nw1 := nw.low
    obtain ⟨aw, cw, rfl, z⟩ := id nw
    have HNw := Lib.hid nw1; have F1 := Lib.hid f1
    clear z nw nw1 f1
    go_wp2_with fail
    obtain ⟨w2, hw2⟩ : ∃ w2, w2 = w1.alloc (.cells #[.slice aw FN.length cw] 24) := ⟨_, rfl⟩
    have f2 : Fr NoM w1 w2 := by rw [hw2]; exact (Fr.refl NoM w1).alloc _
    have hb2 : w2.heap[w1.heap.size]? = some (.cells #[.slice aw FN.length cw] 24 (0, 0)) := by rw [hw2]; exact heap_alloc_new w1 _
    rw [← hw2]
    have HW := Lib.hid (fun (w : World) (f : Fr NoM w2 w) => show w.cell? ⟨w1.heap.size, 0, none⟩ = some (.slice aw FN.length cw) from by rw [cell_of_row w _ 0 _ _ _ (f.heap hb2 (fun q => q))]; rfl)
    have F2 := Lib.hid f2; have Hb2 := Lib.hid hb2
    clear f2 hb2 hw2
    refine (HP.out w2).mono ?_
    rintro e w3 ⟨gv, rfl, ⟨NV, ng⟩, f3⟩
    obtain ⟨ag, cg, rfl, z⟩ := id (NodesS.nodeL ⟨NV, ng⟩)
    have HNg := Lib.hid ng; have F3 := Lib.hid f3
    clear z ng f3
    have d1 : ∀ o, (w3.alloc o).cell? ⟨w1.heap.size, 0, none⟩ = some (.slice aw FN.length cw) := fun o => HW.out _ (F3.out.alloc o)
    go_wp2_with fail
    clear d1
    obtain ⟨w4, hw4⟩ : ∃ w4, w4 = w3.alloc (.cells #[.slice ag FN.length cg] 24) := ⟨_, rfl⟩
    have f4 : Fr NoM w3 w4 := by rw [hw4]; exact (Fr.refl NoM w3).alloc _
    have hb4 : w4.heap[w3.heap.size]? = some (.cells #[.slice ag FN.length cg] 24 (0, 0)) := by rw [hw4]; exact heap_alloc_new w3 _
    rw [← hw4]
    have F4 := Lib.hid f4; have Hb4 := Lib.hid hb4
    clear f4 hb4 hw4
    obtain ⟨m, hm⟩ : ∃ m : Nat, m = 1 + cntF FN := ⟨_, rfl⟩
    have hm1 : 1 ≤ m := by omega
    have HM := Lib.hid hm
    have HEq := Lib.hid (fun (av bv : Value) (w : World) (R S : Nat → Prop) (hA : NodeL R encN w av FN) (hB : NodeL S encN w bv FN) => show Calls Tryz.prog 17 #[.agg #[av], .agg #[bv]] w fun e w' => e = .returned (.bool true) ∧ Fr NoM w w' from by
      have h := eqForm_any av bv FN FN w hA hB
      rw [decide_eq_true (rfl : FN = FN)] at h
      exact h)
    have HMk := Lib.hid (fun (w : World) (h : NodesN w2.heap.size w (.slice ag FN.length cg) FN NV) => show Calls Tryz.prog 18 #[.agg #[.slice ag FN.length cg], .int .i64 1] w fun e w' => e = .returned (.int .i64 (m : Int)) ∧ NodesN w2.heap.size w' (.slice ag FN.length cg) (markF 1 FN) NV ∧ Fr (fun q => q ∈ blocksOf NV) w w' from by
      rw [hm]
      exact markForm_any w2.heap.size (.slice ag FN.length cg) FN NV 1 w h (by have := HLen.out; omega) (by have := HLen.out; omega))
    have HHd := Lib.hid (fun (w : World) (h : NodesN w2.heap.size w (.slice ag FN.length cg) (markF 1 FN) NV) => show Calls Tryz.prog 19 #[.agg #[.slice ag FN.length cg], .int .i64 1] w fun e w' => e = .returned (.int .i64 (m : Int)) ∧ Fr NoM w w' from by
      rw [hm]
      exact heldForm_any w2.heap.size (.slice ag FN.length cg) FN NV 1 w h (by have := HLen.out; omega) (by have := HLen.out; omega))
    have c1 : w4.cell? ⟨w1.heap.size, 0, none⟩ = some (.slice aw FN.length cw) := HW.out w4 (F3.out.trans F4.out (fun _ _ q => q))
    have c2 : w4.cell? ⟨w3.heap.size, 0, none⟩ = some (.slice ag FN.length cg) := by rw [cell_of_row w4 _ 0 _ _ _ Hb4.out]; rfl
    clear hm
    refine (HEq.out _ _ w4 _ _ ((NodesS.nodeL ⟨NV, HNg.out⟩).fr0 F4.out) (((HNw.out.fr0 F2.out).fr0 F3.out).fr0 F4.out)).mono ?_
    rintro e w5 ⟨rfl, f5⟩
    have k1 := f5.cell c1 (fun q => q)
    have k2 := f5.cell c2 (fun q => q)
    have F5 := Lib.hid f5
    clear f5 c1 c2
    go_wp2_with fail
    refine (HMk.out w5 ((HNg.out.fr F4.out (fun _ _ _ q => q)).fr F5.out (fun _ _ _ q => q))).mono ?_
    rintro e w6 ⟨rfl, n6, f6⟩
    have hlo : ∀ q, q ∈ blocksOf NV → w2.heap.size ≤ q ∧ q < w3.heap.size := fun q hq => ⟨(HNg.out.blk q hq).1, (HNg.out.blk q hq).2.1⟩
    have l1 := f6.cell k1 (fun q => by have h1 : w2.heap.size ≤ w1.heap.size := (hlo _ q).1; have := (Array.getElem?_eq_some_iff.1 Hb2.out).1; omega)
    have l2 := f6.cell k2 (fun q => by have h1 : w3.heap.size < w3.heap.size := (hlo _ q).2; omega)
    have HLo := Lib.hid hlo; have N6 := Lib.hid n6; have F6 := Lib.hid f6
    clear hlo n6 f6 k1 k2
    go_wp2_with fail
    refine (HHd.out w6 N6.out).mono ?_
    rintro e w7 ⟨rfl, f7⟩
    have j1 := f7.cell l1 (fun q => q)
    have j2 := f7.cell l2 (fun q => q)
    have F7 := Lib.hid f7
    clear f7 l1 l2
    go_wp2_with fail
    refine (HP.out w7).mono ?_
    rintro e w8 ⟨hv, rfl, hS, f8⟩
    obtain ⟨ah, ch, rfl, z⟩ := id hS.nodeL
    have i1 := f8.cell j1 (fun q => q)
    have i2 := f8.cell j2 (fun q => q)
    have HS8 := Lib.hid hS; have F8 := Lib.hid f8
    clear z hS f8 j1 j2
    have d1 : ∀ o, (w8.alloc o).cell? ⟨w1.heap.size, 0, none⟩ = some (.slice aw FN.length cw) := fun o => ((Fr.refl NoM w8).alloc o).cell i1 (fun q => q)
    go_wp2_with fail
    clear d1
    obtain ⟨w9, hw9⟩ : ∃ w9, w9 = w8.alloc (.cells #[.slice ah FN.length ch] 24) := ⟨_, rfl⟩
    have f9 : Fr NoM w8 w9 := by rw [hw9]; exact (Fr.refl NoM w8).alloc _
    have hb9 : w9.cell? ⟨w8.heap.size, 0, none⟩ = some (.slice ah FN.length ch) := by rw [hw9, cell_of_row _ _ 0 _ _ _ (heap_alloc_new w8 _)]; rfl
    have g1 := f9.cell i1 (fun q => q)
    have g2 := f9.cell i2 (fun q => q)
    rw [← hw9]
    have F9 := Lib.hid f9
    clear f9 hw9 i1 i2
    refine (HEq.out _ _ w9 _ _ (HS8.out.nodeL.fr0 F9.out) ((((((((HNw.out.fr0 F2.out).fr0 F3.out).fr0 F4.out).fr0 F5.out).fr F6.out (fun q hq e => by
      have := (HLo.out q e).1
      have := F2.out.size
      omega)).fr0 F7.out).fr0 F8.out).fr0 F9.out)).mono ?_
    rintro e w10 ⟨rfl, f10⟩
    have d2 := f10.cell g2 (fun q => q)
    have F10 := Lib.hid f10
    clear f10 g1 g2 hb9
    go_wp2_with fail
    refine (HHd.out w10 ((((N6.out.fr F7.out (fun _ _ _ q => q)).fr F8.out (fun _ _ _ q => q)).fr F9.out (fun _ _ _ q => q)).fr F10.out (fun _ _ _ q => q))).mono ?_
    rintro e w11 ⟨rfl, f11⟩
    have F11 := Lib.hid f11
    clear f11 d2
    go_wp2
    go_ret
    refine ⟨rfl, ?_⟩
    have h5 : Fr NoM W w5 := (((F1.out.trans F2.out (fun _ _ q => q)).trans F3.out (fun _ _ q => q)).trans F4.out (fun _ _ q => q)).trans F5.out (fun _ _ q => q)
    have h6 : Fr NoM W w6 := h5.trans F6.out (fun q hq e => by
      have := (HLo.out q e).1
      have := F1.out.size
      have := F2.out.size
      omega)
    exact ((((h6.trans F7.out (fun _ _ q => q)).trans F8.out (fun _ _ q => q)).trans F9.out (fun _ _ q => q)).trans F10.out (fun _ _ q => q)).trans F11.out (fun _ _ q => q)
end Go.Proofs.YtkbljlbfkgoalaaGreatDoor
