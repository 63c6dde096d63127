/- The walk of laws.FnExactCanonOf: it returns true for every form. -/
import Derived.Test.YtioiljboihehcaaGreatDoorCanFormP
import Derived.Test.YtioiljboihehcaaGreatDoorRefCan
import Derived.Test.YtioiljboihehcaaGreatDoorLawMark
import Derived.Test.YtioiljboihehcaaGreatDoorLawKit
import Derived.Deep.RegionHeld3
namespace Go.Proofs.YtioiljboihehcaaGreatDoor
set_option linter.unusedVariables false
set_option linter.unusedSimpArgs false
open Go.RowKit

theorem cntF_le4 (FN : List PL) (h : ∀ y ∈ FN, y.1.length ≤ 24 ∧ y.2.length ≤ 24) : cntF FN ≤ 48 * FN.length := by
  induction FN with
  | nil => simp [cntF]
  | cons y l ih =>
    have h1 := h y List.mem_cons_self
    have h2 := ih fun z hz => h z (List.mem_cons_of_mem _ hz)
    rw [cntF_cons, List.length_cons]
    omega
set_option maxRecDepth 8000 in
set_option maxHeartbeats 8000000 in
theorem canLaw_any {R : Nat → Prop} (v : Value) (Fi : List IL) (W : World) (hN : NodeL R encI W v Fi) : Calls Tryz.prog 3 #[.agg #[v]] W fun e W' => e = .returned (.bool true) ∧ Fr NoM W W' := by
  obtain ⟨W1, hW1⟩ : ∃ W1, W1 = W.alloc (.cells #[v] 24) := ⟨_, rfl⟩
  have f1 : Fr NoM W W1 := by rw [hW1]; exact (Fr.refl NoM W).alloc _
  have hs1 : W1.heap.size = W.heap.size + 1 := by rw [hW1]; simp
  have e1 : W1.heap[W.heap.size]? = some (.cells #[v] 24 (0, 0)) := by rw [hW1]; exact heap_alloc_new W _
  obtain ⟨va, vc, rfl, z⟩ := id hN
  clear z
  have HIn := Lib.hid (fun (w : World) (f : Fr NoM W1 w) => (⟨by rw [cell_of_row w _ 0 _ _ _ (f.heap e1 (fun q => q))]; rfl, hN.fr0 (f1.trans f (fun _ _ q => q))⟩ : w.cell? ⟨W.heap.size, 0, none⟩ = some (.slice va Fi.length vc) ∧ NodeL R encI w (.slice va Fi.length vc) Fi))
  have HSz := Lib.hid (szForm_any (.slice va Fi.length vc) Fi 1048576 W1 (hN.fr0 f1) (Nat.le_refl _))
  have F1 := Lib.hid f1; have HS1 := Lib.hid hs1
  have c0 := (HIn.out W1 (Fr.refl _ _)).1
  clear hN f1 hs1 e1
  by_cases hbig : 1048576 < Fi.length + cntI Fi
  · have hsz := HSz.out
    rw [if_pos hbig] at hsz
    have HZ := Lib.hid hsz
    clear hsz HSz
    go_enter Tryz.func3, Tryz.ntmps3
    go_wp2_with fail
    rw [← hW1]
    refine HZ.out.mono ?_
    rintro e w2 ⟨rfl, f2⟩
    go_wp2_with fail
    go_ret
    exact ⟨rfl, F1.out.trans f2 (fun _ _ q => q)⟩
  · obtain ⟨g, hg⟩ : ∃ g : Bool, (g = true ↔ goodI Fi) := by
      by_cases h : goodI Fi
      · exact ⟨true, by simp [h]⟩
      · exact ⟨false, by simp [h]⟩
    obtain ⟨k0, hk0⟩ : ∃ k0 : Nat, k0 = 1048576 - (Fi.length + cntI Fi) := ⟨_, rfl⟩
    have hsz := HSz.out
    rw [if_neg hbig, ← hk0] at hsz
    obtain ⟨ok, hok⟩ : ∃ ok : Bool, ok = (g && fitsB (canN (natF Fi))) := ⟨_, rfl⟩
    obtain ⟨FN, hFN⟩ : ∃ FN, FN = (if ok = true then canN (natF Fi) else []) := ⟨_, rfl⟩
    have hlen : FN.length ≤ 120 ∧ cntF FN ≤ 10000 := by
      rw [hFN]
      by_cases ht : ok = true
      · have hf : fitsB (canN (natF Fi)) = true := by
          rw [hok] at ht
          exact (Bool.and_eq_true _ _ ▸ ht).2
        unfold fitsB at hf
        rw [decide_eq_true_eq] at hf
        have := cntF_le4 _ hf.2.2
        rw [if_pos ht]
        exact ⟨hf.1, by have := hf.1; omega⟩
      · rw [if_neg ht]
        exact ⟨by simp, by simp [cntF]⟩
    have HR := Lib.hid (fun (w : World) (S : Nat → Prop) (nv : Value) (h : NodeL S encI w nv Fi) => show Calls Tryz.prog 16 #[.agg #[nv]] w fun e w' => ∃ v', e = .returned (.tuple #[.agg #[v'], .bool ok]) ∧ NodeL (fun b => w.heap.size ≤ b) encN w' v' FN ∧ Fr NoM w w' from by rw [hFN]; exact canFormR_any nv Fi w h g hg ok hok)
    have HP := Lib.hid (fun (w : World) (S : Nat → Prop) (nv : Value) (h : NodeL S encI w nv Fi) => show Calls Tryz.prog 18 #[.agg #[nv]] w fun e w' => ∃ v', e = .returned (.tuple #[.agg #[v'], .bool ok]) ∧ NodesS w.heap.size w' v' FN ∧ Fr NoM w w' from by rw [hFN]; exact canFormP_any nv Fi w h g hg ok hok)
    have HTo := Lib.hid (fun (w : World) (f : Fr NoM W1 w) => toForm_any (.slice va Fi.length vc) Fi w (HIn.out w f).2 (by omega) (fun y hy => by
      obtain ⟨j, hj, rfl⟩ := List.getElem_of_mem hy
      have := cntI_mem (List.getElem?_eq_getElem hj)
      omega))
    have HLen := Lib.hid hlen
    have HZ := Lib.hid hsz
    have HBig := Lib.hid (show Fi.length + cntI Fi ≤ 1048576 from by omega)
    obtain ⟨m, hm⟩ : ∃ m : Nat, m = 1 + cntF FN := ⟨_, rfl⟩
    have HM := Lib.hid hm
    have hm1 : 1 ≤ m := by omega
    have HEq := Lib.hid (fun (av bv : Value) (w : World) (R S : Nat → Prop) (hA : NodeL R encN w av FN) (hB : NodeL S encN w bv FN) => show Calls Tryz.prog 19 #[.agg #[av], .agg #[bv]] w fun e w' => e = .returned (.bool true) ∧ Fr NoM w w' from by
      have h := eqForm_any av bv FN FN w hA hB
      rw [decide_eq_true (rfl : FN = FN)] at h
      exact h)
    have HEqI := Lib.hid (fun (av bv : Value) (w : World) (R S : Nat → Prop) (hA : NodeL R encI w av Fi) (hB : NodeL S encI w bv Fi) => show Calls Tryz.prog 19 #[.agg #[av], .agg #[bv]] w fun e w' => e = .returned (.bool true) ∧ Fr NoM w w' from by
      have h := eqFormI_any av bv Fi Fi w hA hB
      rw [decide_eq_true (rfl : Fi = Fi)] at h
      exact h)
    clear hFN hg hok hlen HSz hsz hbig hk0 hm
    go_enter Tryz.func3, Tryz.ntmps3
    go_wp2_with fail
    rw [← hW1]
    clear hW1
    refine HZ.out.mono ?_
    rintro e w2 ⟨rfl, f2⟩
    have c2 := (HIn.out w2 f2).1
    have F2 := Lib.hid f2
    clear f2 c0
    go_wp2_with fail
    refine (HTo.out w2 F2.out).mono ?_
    rintro e w3 ⟨v3, N3, rfl, n3, f3⟩
    have F3 := Lib.hid (F2.out.trans f3 (fun _ _ q => q))
    have h3 := HR.out w3 _ v3 n3.nodeL
    obtain ⟨a3, c3, rfl, z⟩ := id n3.nodeL
    have H3 := Lib.hid h3
    clear z n3 f3 h3 c2
    go_wp2_with fail
    refine H3.out.mono ?_
    rintro e w4 ⟨wv, rfl, nw, f4⟩
    have nw1 := nw.low
    obtain ⟨aw, cw, rfl, z⟩ := id nw
    have HNw := Lib.hid nw1; have F4 := Lib.hid (F3.out.trans f4 (fun _ _ q => q))
    have F34 := Lib.hid f4
    clear z nw nw1 f4 H3
    go_upto_region 6 with fail
    obtain ⟨w5, hw5⟩ : ∃ w5, w5 = w4.alloc (.cells #[.slice aw FN.length cw] 28) := ⟨_, rfl⟩
    have f5 : Fr NoM w4 w5 := by rw [hw5]; exact (Fr.refl NoM w4).alloc _
    have hs5 : w5.heap.size = w4.heap.size + 1 := by rw [hw5]; simp
    have hb5 : w5.heap[w4.heap.size]? = some (.cells #[.slice aw FN.length cw] 28 (0, 0)) := by rw [hw5]; exact heap_alloc_new w4 _
    rw [← hw5]
    have H0 := Lib.hid (fun (w : World) (f : Fr NoM w5 w) => (⟨by rw [cell_of_row w _ 0 _ _ _ (f.heap hb5 (fun q => q))]; rfl, (HNw.out.fr0 f5).fr0 f⟩ : w.cell? ⟨w4.heap.size, 0, none⟩ = some (.slice aw FN.length cw) ∧ NodeL (· < w4.heap.size) encN w (.slice aw FN.length cw) FN))
    have F5 := Lib.hid (F4.out.trans f5 (fun _ _ q => q)); have HS5 := Lib.hid hs5
    clear hw5 f5 hs5 hb5
    have c5 := (HIn.out w5 F5.out).1
    go_wp2_with fail
    refine (HTo.out w5 F5.out).mono ?_
    rintro e w6 ⟨x0, NX, rfl, n6, f6⟩
    obtain ⟨ax, cx, rfl, z⟩ := id n6.nodeL
    have HN6 := Lib.hid n6
    have F56 := Lib.hid f6
    clear z n6 f6 c5
    go_upto_region 7 with fail
    obtain ⟨w7, hw7⟩ : ∃ w7, w7 = w6.alloc (.cells #[.slice ax Fi.length cx] 28) := ⟨_, rfl⟩
    have f7 : Fr NoM w6 w7 := by rw [hw7]; exact (Fr.refl NoM w6).alloc _
    have hs7 : w7.heap.size = w6.heap.size + 1 := by rw [hw7]; simp
    have hb7 : w7.heap[w6.heap.size]? = some (.cells #[.slice ax Fi.length cx] 28 (0, 0)) := by rw [hw7]; exact heap_alloc_new w6 _
    rw [← hw7]
    have HX := Lib.hid (fun (w : World) (f : Fr NoM w7 w) => (⟨by rw [cell_of_row w _ 0 _ _ _ (f.heap hb7 (fun q => q))]; rfl, (HN6.out.fr0 f7).fr0 f⟩ : w.cell? ⟨w6.heap.size, 0, none⟩ = some (.slice ax Fi.length cx) ∧ NodesI w5.heap.size w (.slice ax Fi.length cx) Fi NX))
    have F57 := Lib.hid (F56.out.trans f7 (fun _ _ q => q)); have HS7 := Lib.hid hs7
    have HXb := Lib.hid HN6.out.blk
    clear hw7 f7 hs7 hb7
    have c7 := (HX.out w7 (Fr.refl _ _)).1
    go_wp2_with fail
    refine (HP.out w7 _ _ (HX.out w7 (Fr.refl _ _)).2.nodeL).mono ?_
    rintro e w8 ⟨g0, rfl, ⟨NG, n8⟩, f8⟩
    obtain ⟨ag, cg, rfl, z⟩ := id (NodesS.nodeL ⟨NG, n8⟩)
    have HN8 := Lib.hid n8
    have F78 := Lib.hid f8
    clear z n8 f8 c7
    go_upto_region 8 with fail
    obtain ⟨w9, hw9⟩ : ∃ w9, w9 = w8.alloc (.cells #[.slice ag FN.length cg] 28) := ⟨_, rfl⟩
    have f9 : Fr NoM w8 w9 := by rw [hw9]; exact (Fr.refl NoM w8).alloc _
    have hs9 : w9.heap.size = w8.heap.size + 1 := by rw [hw9]; simp
    have hb9 : w9.heap[w8.heap.size]? = some (.cells #[.slice ag FN.length cg] 28 (0, 0)) := by rw [hw9]; exact heap_alloc_new w8 _
    rw [← hw9]
    obtain ⟨P, hP⟩ : ∃ P : Nat → Prop, P = fun q => q ∈ blocksOf NX ∨ q ∈ blocksOf NG := ⟨_, rfl⟩
    have hlo : ∀ q, P q → w5.heap.size ≤ q ∧ q < w8.heap.size := fun q hq => by
      have h1 := HS7.out
      have h2 := F78.out.size
      have h3 := F56.out.size
      rw [hP] at hq
      rcases hq with h | h
      · have := HXb.out q h
        exact ⟨this.1, by omega⟩
      · have := HN8.out.blk q h
        exact ⟨by omega, this.2.1⟩
    have f79 : Fr NoM w7 w9 := F78.out.trans f9 (fun _ _ q => q)
    have f59 : Fr NoM w5 w9 := F57.out.trans f79 (fun _ _ q => q)
    have HK := Lib.hid (fun (w : World) (f : Fr P w9 w) => (by
      have g5 : Fr NoM w5 w := f59.trans f (fun q hq h => by have := (hlo q h).1; omega)
      have g1 : Fr NoM W1 w := F5.out.trans g5 (fun _ _ q => q)
      exact ⟨(HIn.out w g1).1, (H0.out w g5).1, by rw [cell_of_row w _ 0 _ _ _ (f.heap hb9 (fun h => by have := (hlo _ h).2; omega))]; rfl, (H0.out w g5).2, g1⟩ : w.cell? ⟨W.heap.size, 0, none⟩ = some (.slice va Fi.length vc) ∧ w.cell? ⟨w4.heap.size, 0, none⟩ = some (.slice aw FN.length cw) ∧ w.cell? ⟨w8.heap.size, 0, none⟩ = some (.slice ag FN.length cg) ∧ NodeL (· < w4.heap.size) encN w (.slice aw FN.length cw) FN ∧ Fr NoM W1 w))
    have HX9 := Lib.hid (fun (w : World) (f : Fr NoM w9 w) => HX.out w (f79.trans f (fun _ _ q => q)))
    have HG9 := Lib.hid (fun (w : World) (f : Fr (fun q => q ∈ blocksOf NX) w9 w) => (HN8.out.fr f9 (fun _ _ _ q => q)).fr f (fun q hq _ e => by have h1 := (HXb.out q e).2.1; have h2 := HS7.out; omega))
    have HPq := Lib.hid hP
    clear hw9 f9 hs9 hb9 hlo f79 f59 H0 HX HN8 HN6 HXb
    obtain ⟨d1, d2, d3, nw9, _⟩ := HK.out w9 (Fr.refl _ _)
    go_wp2_with fail
    refine (HEq.out _ _ w9 _ _ (NodesS.nodeL ⟨NG, HG9.out w9 (Fr.refl _ _)⟩) nw9).mono ?_
    rintro e w10 ⟨rfl, f10⟩
    have F10 := Lib.hid f10
    clear f10 d1 d2 d3 nw9
    obtain ⟨d1, d2, d3, nw10, z⟩ := HK.out w10 F10.out.any
    have dx := (HX9.out w10 F10.out).1
    clear z nw10
    go_upto_region 10 with fail
    have K0 : Fr NoM w10 w10.drew := (Fr.refl NoM w10).drew
    clear d2 d3
    go_cut [45] from 41 to 45 (fun c W => c = .bool false ∧ Fr NoM w10 W)
    case first =>
      go_region_held3 (fun (w : World) => w.cell? ⟨W.heap.size, 0, none⟩ = some (.slice va Fi.length vc) ∧ w.cell? ⟨w6.heap.size, 0, none⟩ = some (.slice ax Fi.length cx))
        (first | exact ⟨(HK.out _ (F10.out.trans (by assumption) (fun _ _ q => q)).any).1, (HX9.out _ (F10.out.trans (by assumption) (fun _ _ q => q))).1⟩)
        (first
          | (go_at_call 17; (with_reducible refine (HTo.out _ (HK.out _ (F10.out.trans (by assumption) (fun _ _ q => q)).any).2.2.2.2).mono ?_); rintro e wa ⟨va', na', rfl, hna, fa⟩; have ka : Fr NoM w10 wa := Fr.trans (by assumption) fa (fun _ _ q => q))
          | (go_at_call 19; (with_reducible refine (HEqI.out _ _ _ _ _ (HX9.out _ (F10.out.trans (by assumption) (fun _ _ q => q))).2.nodeL hna.nodeL).mono ?_); rintro e wb ⟨rfl, fb⟩; have kb : Fr NoM w10 wb := Fr.trans (by assumption) fb (fun _ _ q => q))
          | fail)
      all_goals
        go_wp2_with fail
        go_meet
        case rel => exact ⟨rfl, by assumption⟩
    case rest =>
    obtain ⟨rfl, fc⟩ := hcut
    have F12 := Lib.hid (F10.out.trans fc (fun _ _ q => q))
    clear fc K0 d1 dx
    have dx := (HX9.out wc F12.out).1
    have HMk := Lib.hid (markFormI_any w5.heap.size (.slice ax Fi.length cx) Fi NX 1 wc (HX9.out wc F12.out).2 (by have := HBig.out; omega) (by have := HBig.out; omega))
    have hk1 : ¬ (((1 + cntI Fi : Nat) : Int) < 0) := by omega
    obtain ⟨m1, hm1'⟩ : ∃ m1, m1 = 1 + cntI Fi := ⟨_, rfl⟩
    rw [← hm1'] at HMk hk1
    clear hm1'
    go_wp2_with fail
    refine HMk.out.mono ?_
    rintro e w13 ⟨rfl, f13⟩
    have F13 := Lib.hid (F12.out.any.trans f13 (fun _ _ q => q))
    clear f13 dx HMk
    have hsub : ∀ q, q ∈ blocksOf NX → P q := fun q hq => by rw [HPq.out]; exact .inl hq
    have F13P := Lib.hid (F13.out.mono (fun q _ h => hsub q h))
    obtain ⟨d1, d2, d3, nw, z⟩ := HK.out w13 F13P.out
    go_wp2_with fail
    refine (HEq.out _ _ w13 _ _ (NodesS.nodeL ⟨NG, HG9.out w13 F13.out⟩) nw).mono ?_
    rintro e w14 ⟨rfl, f14⟩
    have F14 := Lib.hid (F13.out.trans f14 (fun _ _ q => q.elim))
    have F14P := Lib.hid (F13P.out.trans f14 (fun _ _ q => q.elim))
    clear f14 d1 d2 d3 nw z
    obtain ⟨d1, d2, d3, _, _⟩ := HK.out w14 F14P.out
    have HMk := Lib.hid (show Calls Tryz.prog 20 #[.agg #[.slice ag FN.length cg], .int .i64 1] w14 fun e w' => e = .returned (.int .i64 (m : Int)) ∧ NodesN w7.heap.size w' (.slice ag FN.length cg) (markF 1 FN) NG ∧ Fr (fun q => q ∈ blocksOf NG) w14 w' from by
      rw [HM.out]
      exact markForm_any w7.heap.size (.slice ag FN.length cg) FN NG 1 w14 (HG9.out w14 F14.out) (by have := HLen.out; omega) (by have := HLen.out; omega))
    have HHd := Lib.hid (fun (w : World) (h : NodesN w7.heap.size w (.slice ag FN.length cg) (markF 1 FN) NG) => show Calls Tryz.prog 21 #[.agg #[.slice ag FN.length cg], .int .i64 1] w fun e w' => e = .returned (.int .i64 (m : Int)) ∧ Fr NoM w w' from by
      rw [HM.out]
      exact heldForm_any w7.heap.size (.slice ag FN.length cg) FN NG 1 w h (by have := HLen.out; omega) (by have := HLen.out; omega))
    go_wp2_with fail
    refine HMk.out.mono ?_
    rintro e w15 ⟨rfl, n15, f15⟩
    have F15P := Lib.hid (F14P.out.trans f15 (fun q _ h => by rw [HPq.out]; exact .inr h))
    have N15 := Lib.hid n15
    clear f15 n15 d1 d2 d3 F14 F13 HMk
    obtain ⟨d1, d2, d3, _, _⟩ := HK.out w15 F15P.out
    go_wp2_with fail
    refine (HHd.out w15 N15.out).mono ?_
    rintro e w16 ⟨rfl, f16⟩
    have F16P := Lib.hid (F15P.out.trans f16 (fun _ _ q => q.elim))
    have N16 := Lib.hid (N15.out.fr f16 (fun _ _ _ q => q))
    clear f16 d1 d2 d3
    obtain ⟨d1, d2, d3, _, z⟩ := HK.out w16 F16P.out
    go_wp2_with fail
    refine (HTo.out w16 z).mono ?_
    rintro e w17 ⟨v17, N17, rfl, n17, f17⟩
    have F17P := Lib.hid (F16P.out.trans f17 (fun _ _ q => q.elim))
    have NG17 := Lib.hid (N16.out.fr f17 (fun _ _ _ q => q))
    have h17 := HP.out w17 _ v17 n17.nodeL
    obtain ⟨a17, c17, rfl, z'⟩ := id n17.nodeL
    have H17 := Lib.hid h17
    clear z z' n17 f17 h17 d1 d2 d3
    go_wp2_with fail
    refine H17.out.mono ?_
    rintro e w18 ⟨hv, rfl, hS, f18⟩
    obtain ⟨ah, ch, rfl, z⟩ := id hS.nodeL
    have F18P := Lib.hid (F17P.out.trans f18 (fun _ _ q => q.elim))
    have NG18 := Lib.hid (NG17.out.fr f18 (fun _ _ _ q => q))
    have HS18 := Lib.hid hS
    clear z hS f18 H17
    have d2 : ∀ o, (w18.alloc o).cell? ⟨w4.heap.size, 0, none⟩ = some (.slice aw FN.length cw) := fun o => (HK.out _ (F18P.out.alloc o)).2.1
    go_wp2_with fail
    obtain ⟨w19, hw19⟩ : ∃ w19, w19 = w18.alloc (.cells #[.slice ah FN.length ch] 28) := ⟨_, rfl⟩
    have f19 : Fr NoM w18 w19 := by rw [hw19]; exact (Fr.refl NoM w18).alloc _
    rw [← hw19]
    have F19P := Lib.hid (F18P.out.trans f19 (fun _ _ q => q.elim))
    have NG19 := Lib.hid (NG18.out.fr f19 (fun _ _ _ q => q))
    have HS19 := Lib.hid (HS18.out.nodeL.fr0 f19)
    clear d2 f19 hw19
    obtain ⟨d1, d2, d3, nw, _⟩ := HK.out w19 F19P.out
    refine (HEq.out _ _ w19 _ _ HS19.out nw).mono ?_
    rintro e w20 ⟨rfl, f20⟩
    have F20P := Lib.hid (F19P.out.trans f20 (fun _ _ q => q.elim))
    have NG20 := Lib.hid (NG19.out.fr f20 (fun _ _ _ q => q))
    clear f20 d1 d2 d3 nw
    obtain ⟨d1, d2, d3, _, _⟩ := HK.out w20 F20P.out
    go_wp2_with fail
    refine (HHd.out w20 NG20.out).mono ?_
    rintro e w21 ⟨rfl, f21⟩
    have F21P := Lib.hid (F20P.out.trans f21 (fun _ _ q => q.elim))
    clear f21 d1 d2 d3
    obtain ⟨_, _, _, _, z⟩ := HK.out w21 F21P.out
    go_wp2
    go_ret
    exact ⟨rfl, F1.out.trans z (fun _ _ q => q)⟩
end Go.Proofs.YtioiljboihehcaaGreatDoor
