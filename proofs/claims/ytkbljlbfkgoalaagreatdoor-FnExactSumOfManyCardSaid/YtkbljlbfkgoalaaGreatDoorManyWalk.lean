/- The walk of laws.FnExactSumOfMany: it returns true for every list of forms. -/
import Derived.Test.YtkbljlbfkgoalaaGreatDoorLawMany
namespace Go.Proofs.YtkbljlbfkgoalaaGreatDoor
set_option linter.unusedVariables false
set_option linter.unusedSimpArgs false
open Go.RowKit

theorem cntF_le5 (FN : List PL) (h : ∀ y ∈ FN, y.1.length ≤ 24 ∧ y.2.length ≤ 24) : cntF FN ≤ 48 * FN.length := by
  induction FN with
  | nil => simp [cntF]
  | cons y l ih =>
    have h1 := h y List.mem_cons_self
    have h2 := ih fun z hz => h z (List.mem_cons_of_mem _ hz)
    rw [cntF_cons, List.length_cons]
    omega
theorem manyR_good {FL : List (List IL)} {Fs : List PL} (h : manyR FL = some Fs) : goodI (i2 Fs) := by
  unfold manyR at h
  split at h
  · exact many_good h
  · cases h
set_option maxRecDepth 8000 in
set_option maxHeartbeats 8000000 in
theorem manyLaw_any {R : Nat → Prop} (v : Value) (FL : List (List IL)) (W : World) (hN : FormsI R W v FL) : Calls Tryz.prog 4 #[v] W fun e W' => e = .returned (.bool true) ∧ Fr NoM W W' := by
  obtain ⟨va, vc, rfl, hl9⟩ := hN.shape
  have HIn := Lib.hid (fun (w : World) (f : Fr NoM W w) => hN.fr0 f)
  have HSz := Lib.hid (szFormS_any (.slice va FL.length vc) FL 1048576 W hN (Nat.le_refl _))
  clear hN
  by_cases hbig : 1048576 < FL.length + cntS FL
  · have hsz := HSz.out
    rw [if_pos hbig] at hsz
    have HZ := Lib.hid hsz
    clear hsz HSz
    go_enter Tryz.func4, Tryz.ntmps4
    go_wp2_with fail
    refine HZ.out.mono ?_
    rintro e w2 ⟨rfl, f2⟩
    go_wp2_with fail
    go_ret
    exact ⟨rfl, f2⟩
  · obtain ⟨k0, hk0⟩ : ∃ k0 : Nat, k0 = 1048576 - (FL.length + cntS FL) := ⟨_, rfl⟩
    have hsz := HSz.out
    rw [if_neg hbig, ← hk0] at hsz
    obtain ⟨mr, hmr⟩ : ∃ mr, mr = manyR FL := ⟨_, rfl⟩
    obtain ⟨ok, hok⟩ : ∃ ok : Bool, ok = mr.isSome := ⟨_, rfl⟩
    obtain ⟨FN, hFN⟩ : ∃ FN, FN = mr.getD [] := ⟨_, rfl⟩
    have hlen : FN.length ≤ 120 ∧ cntF FN ≤ 10000 := by
      rw [hFN]
      cases hc : mr with
      | none => exact ⟨by simp, by simp [cntF]⟩
      | some Fs =>
        have hgd := manyR_good (FL := FL) (Fs := Fs) (by rw [← hmr, hc])
        have hf := hgd.1
        rw [fits_i2] at hf
        unfold fitsB at hf
        rw [decide_eq_true_eq] at hf
        have := cntF_le5 _ hf.2.2
        exact ⟨hf.1, by have := hf.1; show cntF Fs ≤ 10000; omega⟩
    have HR := Lib.hid (fun (w : World) (S : Nat → Prop) (nv : Value) (h : FormsI S w nv FL) => show Calls Tryz.prog 21 #[nv] w fun e w' => ∃ v', e = .returned (.tuple #[.agg #[v'], .bool ok]) ∧ NodeL (fun b => w.heap.size ≤ b) encN w' v' FN ∧ Fr NoM w w' from by rw [hFN, hok]; exact sumManyR_any nv FL w h mr hmr)
    have HP := Lib.hid (fun (w : World) (S : Nat → Prop) (nv : Value) (h : FormsI S w nv FL) => show Calls Tryz.prog 23 #[nv] w fun e w' => ∃ v', e = .returned (.tuple #[.agg #[v'], .bool ok]) ∧ NodesS w.heap.size w' v' FN ∧ Fr NoM w w' from by rw [hFN, hok]; exact sumManyP_any nv FL w h mr hmr)
    have HTo := Lib.hid (fun (w : World) (f : Fr NoM W w) => toFormS_any (.slice va FL.length vc) FL w (HIn.out w f) (by omega) (fun Fi hFi => by
      obtain ⟨j, hj, rfl⟩ := List.getElem_of_mem hFi
      have h1 := cntS_mem (List.getElem?_eq_getElem hj)
      refine ⟨by omega, fun y hy => ?_⟩
      obtain ⟨i, hi, rfl⟩ := List.getElem_of_mem hy
      have h2 := cntI_mem (List.getElem?_eq_getElem hi)
      omega))
    have HLen := Lib.hid hlen
    have HZ := Lib.hid hsz
    have HBig := Lib.hid (show FL.length + cntS FL ≤ 1048576 from by omega)
    obtain ⟨m, hm⟩ : ∃ m : Nat, m = 1 + cntF FN := ⟨_, rfl⟩
    have HM := Lib.hid hm
    have hm1 : 1 ≤ m := by omega
    have HEq := Lib.hid (fun (av bv : Value) (w : World) (R S : Nat → Prop) (hA : NodeL R encN w av FN) (hB : NodeL S encN w bv FN) => show Calls Tryz.prog 17 #[.agg #[av], .agg #[bv]] w fun e w' => e = .returned (.bool true) ∧ Fr NoM w w' from by
      have h := eqForm_any av bv FN FN w hA hB
      rw [decide_eq_true (rfl : FN = FN)] at h
      exact h)
    clear hFN hmr hok hlen HSz hsz hbig hk0 hm
    go_enter Tryz.func4, Tryz.ntmps4
    go_wp2_with fail
    refine HZ.out.mono ?_
    rintro e w2 ⟨rfl, f2⟩
    have F2 := Lib.hid f2
    clear f2
    go_wp2_with fail
    refine (HTo.out w2 F2.out).mono ?_
    rintro e w3 ⟨VS3, NVS3, rfl, n3, r3, f3⟩
    have F3 := Lib.hid (F2.out.trans f3 (fun _ _ q => q))
    have H3 := Lib.hid (HR.out w3 _ _ (n3.forms r3 (by have := HBig.out; omega)))
    clear n3 f3 r3
    go_wp2_with fail
    refine H3.out.mono ?_
    rintro e w4 ⟨wv, rfl, nw, f4⟩
    have nw1 := nw.low
    obtain ⟨aw, cw, rfl, z⟩ := id nw
    have HNw := Lib.hid nw1; have F4 := Lib.hid (F3.out.trans f4 (fun _ _ q => q))
    clear z nw nw1 f4 H3
    go_upto_region 6 with fail
    obtain ⟨w5, hw5⟩ : ∃ w5, w5 = w4.alloc (.cells #[.slice aw FN.length cw] 24) := ⟨_, rfl⟩
    have f5 : Fr NoM w4 w5 := by rw [hw5]; exact (Fr.refl NoM w4).alloc _
    have hs5 : w5.heap.size = w4.heap.size + 1 := by rw [hw5]; simp
    have hb5 : w5.heap[w4.heap.size]? = some (.cells #[.slice aw FN.length cw] 24 (0, 0)) := by rw [hw5]; exact heap_alloc_new w4 _
    rw [← hw5]
    have H0 := Lib.hid (fun (w : World) (f : Fr NoM w5 w) => (⟨by rw [cell_of_row w _ 0 _ _ _ (f.heap hb5 (fun q => q))]; rfl, (HNw.out.fr0 f5).fr0 f⟩ : w.cell? ⟨w4.heap.size, 0, none⟩ = some (.slice aw FN.length cw) ∧ NodeL (· < w4.heap.size) encN w (.slice aw FN.length cw) FN))
    have F5 := Lib.hid (F4.out.trans f5 (fun _ _ q => q)); have HS5 := Lib.hid hs5
    clear hw5 f5 hs5 hb5
    go_wp2_with fail
    refine (HTo.out w5 F5.out).mono ?_
    rintro e w6 ⟨VX, NX, rfl, n6, r6, f6⟩
    obtain ⟨gx, hgx⟩ : ∃ gx, gx = w5.heap.size := ⟨_, rfl⟩
    have HX := Lib.hid (fun (w : World) (f : Fr NoM w6 w) => (⟨n6.fr f (fun _ _ _ q => q), by rw [hgx]; exact r6.fr f (fun q => q)⟩ : FormsW (w5.heap.size + 1) w FL VX NX ∧ RowIs 24 encV w gx VX))
    have HGx := Lib.hid hgx
    have HXb := Lib.hid (fun q (hq : ∃ NV ∈ NX, q ∈ blocksOf NV) => (by
      obtain ⟨NV, hm', hq⟩ := hq
      obtain ⟨i, hi, rfl⟩ := List.getElem_of_mem hm'
      have e1 := n6.len; have e2 := n6.nlen
      exact (n6.nodes i _ _ _ (List.getElem?_eq_getElem (by omega)) (List.getElem?_eq_getElem (by omega)) (List.getElem?_eq_getElem hi)).blk q hq |>.imp id (fun z => z.1) : w5.heap.size + 1 ≤ q ∧ q < w6.heap.size))
    have F56 := Lib.hid f6
    rw [← hgx]
    clear n6 f6 r6 hgx
    have HXf := Lib.hid (fun (w : World) (f : Fr NoM w6 w) => (HX.out w f).1.forms (HX.out w f).2 (by have := HBig.out; omega))
    have hp8 := HP.out w6 _ _ (HXf.out w6 (Fr.refl _ _))
    have HP8 := Lib.hid hp8
    clear hp8
    go_wp2_with fail
    refine HP8.out.mono ?_
    rintro e w8 ⟨g0, rfl, ⟨NG, n8⟩, f8⟩
    obtain ⟨ag, cg, rfl, z⟩ := id (NodesS.nodeL ⟨NG, n8⟩)
    have HN8 := Lib.hid n8
    have F68 := Lib.hid f8
    clear z n8 f8
    go_upto_region 8 with fail
    obtain ⟨w9, hw9⟩ : ∃ w9, w9 = w8.alloc (.cells #[.slice ag FN.length cg] 24) := ⟨_, rfl⟩
    have f9 : Fr NoM w8 w9 := by rw [hw9]; exact (Fr.refl NoM w8).alloc _
    have hs9 : w9.heap.size = w8.heap.size + 1 := by rw [hw9]; simp
    have hb9 : w9.heap[w8.heap.size]? = some (.cells #[.slice ag FN.length cg] 24 (0, 0)) := by rw [hw9]; exact heap_alloc_new w8 _
    rw [← hw9]
    obtain ⟨P, hP⟩ : ∃ P : Nat → Prop, P = fun q => (∃ NV ∈ NX, q ∈ blocksOf NV) ∨ q ∈ blocksOf NG := ⟨_, rfl⟩
    have hlo : ∀ q, P q → w5.heap.size ≤ q ∧ q < w8.heap.size := fun q hq => by
      have h2 := F68.out.size
      have h3 := F56.out.size
      rw [hP] at hq
      rcases hq with h | h
      · have := HXb.out q h
        exact ⟨by omega, by omega⟩
      · have := HN8.out.blk q h
        exact ⟨by omega, this.2.1⟩
    have f69 : Fr NoM w6 w9 := F68.out.trans f9 (fun _ _ q => q)
    have f59 : Fr NoM w5 w9 := F56.out.trans f69 (fun _ _ q => q)
    have HK := Lib.hid (fun (w : World) (f : Fr P w9 w) => (by
      have g5 : Fr NoM w5 w := f59.trans f (fun q hq h => by have := (hlo q h).1; omega)
      have g1 : Fr NoM W w := F5.out.trans g5 (fun _ _ q => q)
      exact ⟨(H0.out w g5).1, by rw [cell_of_row w _ 0 _ _ _ (f.heap hb9 (fun h => by have := (hlo _ h).2; omega))]; rfl, (H0.out w g5).2, g1⟩ : w.cell? ⟨w4.heap.size, 0, none⟩ = some (.slice aw FN.length cw) ∧ w.cell? ⟨w8.heap.size, 0, none⟩ = some (.slice ag FN.length cg) ∧ NodeL (· < w4.heap.size) encN w (.slice aw FN.length cw) FN ∧ Fr NoM W w))
    have HX9 := Lib.hid (fun (w : World) (f : Fr NoM w9 w) => HX.out w (f69.trans f (fun _ _ q => q)))
    have HXf9 := Lib.hid (fun (w : World) (f : Fr NoM w9 w) => HXf.out w (f69.trans f (fun _ _ q => q)))
    have HG9 := Lib.hid (fun (w : World) (f : Fr (fun q => ∃ NV ∈ NX, q ∈ blocksOf NV) w9 w) => (HN8.out.fr f9 (fun _ _ _ q => q)).fr f (fun q hq _ e => by have h1 := (HXb.out q e).2; omega))
    have HPq := Lib.hid hP
    clear hw9 f9 hs9 hb9 hlo f69 f59 H0 HX HXf HN8
    obtain ⟨d2, d3, nw9, _⟩ := HK.out w9 (Fr.refl _ _)
    go_wp2_with fail
    refine (HEq.out _ _ w9 _ _ (NodesS.nodeL ⟨NG, HG9.out w9 (Fr.refl _ _)⟩) nw9).mono ?_
    rintro e w10 ⟨rfl, f10⟩
    have F10 := Lib.hid f10
    clear f10 d2 d3 nw9
    obtain ⟨_, _, _, z⟩ := HK.out w10 F10.out.any
    go_wp2_with fail
    refine (HTo.out w10 z).mono ?_
    rintro e w11 ⟨VY, NY, rfl, n11, r11, f11⟩
    have HE := Lib.hid (eqFormS_same _ _ FL w11 (HXf9.out w11 (F10.out.trans f11 (fun _ _ q => q))) (n11.forms r11 (by have := HBig.out; omega)))
    have F11 := Lib.hid (F10.out.trans f11 (fun _ _ q => q))
    clear n11 r11 f11 z
    go_wp2_with fail
    refine HE.out.mono ?_
    rintro e w12 ⟨rfl, f12⟩
    have F12 := Lib.hid (F11.out.trans f12 (fun _ _ q => q))
    clear f12 HE
    have HMk := Lib.hid (markFormS_any (w5.heap.size + 1) gx FL VX NX 1 w12 (HX9.out w12 F12.out).1 (HX9.out w12 F12.out).2 (by have := HGx.out; omega) (by have h1 := HBig.out; have h2 := cntT_le FL; omega) (by have := HBig.out; omega) (fun Fi hFi => by
      obtain ⟨j, hj, rfl⟩ := List.getElem_of_mem hFi
      have h1 := cntS_mem (List.getElem?_eq_getElem hj)
      have := HBig.out; omega))
    have hk1 : ¬ (((1 + cntT FL : Nat) : Int) < 0) := by omega
    obtain ⟨m1, hm1'⟩ : ∃ m1, m1 = 1 + cntT FL := ⟨_, rfl⟩
    rw [← hm1'] at HMk hk1
    clear hm1'
    go_wp2_with fail
    refine HMk.out.mono ?_
    rintro e w13 ⟨rfl, f13⟩
    have F13 := Lib.hid (F12.out.any.trans f13 (fun _ _ q => q))
    clear f13 HMk
    have hsub : ∀ q, (∃ NV ∈ NX, q ∈ blocksOf NV) → P q := fun q hq => by rw [HPq.out]; exact .inl hq
    have F13P := Lib.hid (F13.out.mono (fun q _ h => hsub q h))
    obtain ⟨d2, d3, nw, z⟩ := HK.out w13 F13P.out
    go_wp2_with fail
    refine (HEq.out _ _ w13 _ _ (NodesS.nodeL ⟨NG, HG9.out w13 F13.out⟩) nw).mono ?_
    rintro e w14 ⟨rfl, f14⟩
    have F14 := Lib.hid (F13.out.trans f14 (fun _ _ q => q.elim))
    have F14P := Lib.hid (F13P.out.trans f14 (fun _ _ q => q.elim))
    clear f14 d2 d3 nw z
    obtain ⟨d2, d3, _, _⟩ := HK.out w14 F14P.out
    have HMk := Lib.hid (show Calls Tryz.prog 18 #[.agg #[.slice ag FN.length cg], .int .i64 1] w14 fun e w' => e = .returned (.int .i64 (m : Int)) ∧ NodesN w6.heap.size w' (.slice ag FN.length cg) (markF 1 FN) NG ∧ Fr (fun q => q ∈ blocksOf NG) w14 w' from by
      rw [HM.out]
      exact markForm_any w6.heap.size (.slice ag FN.length cg) FN NG 1 w14 (HG9.out w14 F14.out) (by have := HLen.out; omega) (by have := HLen.out; omega))
    have HHd := Lib.hid (fun (w : World) (h : NodesN w6.heap.size w (.slice ag FN.length cg) (markF 1 FN) NG) => show Calls Tryz.prog 19 #[.agg #[.slice ag FN.length cg], .int .i64 1] w fun e w' => e = .returned (.int .i64 (m : Int)) ∧ Fr NoM w w' from by
      rw [HM.out]
      exact heldForm_any w6.heap.size (.slice ag FN.length cg) FN NG 1 w h (by have := HLen.out; omega) (by have := HLen.out; omega))
    go_wp2_with fail
    refine HMk.out.mono ?_
    rintro e w15 ⟨rfl, n15, f15⟩
    have F15P := Lib.hid (F14P.out.trans f15 (fun q _ h => by rw [HPq.out]; exact .inr h))
    have N15 := Lib.hid n15
    clear f15 n15 d2 d3 F14 F13 HMk
    obtain ⟨d2, d3, _, _⟩ := HK.out w15 F15P.out
    go_wp2_with fail
    refine (HHd.out w15 N15.out).mono ?_
    rintro e w16 ⟨rfl, f16⟩
    have F16P := Lib.hid (F15P.out.trans f16 (fun _ _ q => q.elim))
    have N16 := Lib.hid (N15.out.fr f16 (fun _ _ _ q => q))
    clear f16 d2 d3
    obtain ⟨_, _, _, z⟩ := HK.out w16 F16P.out
    go_wp2_with fail
    refine (HTo.out w16 z).mono ?_
    rintro e w17 ⟨VZ, NZ, rfl, n17, r17, f17⟩
    have F17P := Lib.hid (F16P.out.trans f17 (fun _ _ q => q.elim))
    have NG17 := Lib.hid (N16.out.fr f17 (fun _ _ _ q => q))
    have H17 := Lib.hid (HP.out w17 _ _ (n17.forms r17 (by have := HBig.out; omega)))
    clear z n17 f17 r17
    go_wp2_with fail
    refine H17.out.mono ?_
    rintro e w18 ⟨hv, rfl, hS, f18⟩
    obtain ⟨ah, ch, rfl, z⟩ := id hS.nodeL
    have F18P := Lib.hid (F17P.out.trans f18 (fun _ _ q => q.elim))
    have NG18 := Lib.hid (NG17.out.fr f18 (fun _ _ _ q => q))
    have HS18 := Lib.hid hS
    clear z hS f18 H17
    have d2 : ∀ o, (w18.alloc o).cell? ⟨w4.heap.size, 0, none⟩ = some (.slice aw FN.length cw) := fun o => (HK.out _ (F18P.out.alloc o)).1
    go_wp2_with fail
    obtain ⟨w19, hw19⟩ : ∃ w19, w19 = w18.alloc (.cells #[.slice ah FN.length ch] 24) := ⟨_, rfl⟩
    have f19 : Fr NoM w18 w19 := by rw [hw19]; exact (Fr.refl NoM w18).alloc _
    rw [← hw19]
    have F19P := Lib.hid (F18P.out.trans f19 (fun _ _ q => q.elim))
    have NG19 := Lib.hid (NG18.out.fr f19 (fun _ _ _ q => q))
    have HS19 := Lib.hid (HS18.out.nodeL.fr0 f19)
    clear d2 f19 hw19
    obtain ⟨d2, d3, nw, _⟩ := HK.out w19 F19P.out
    refine (HEq.out _ _ w19 _ _ HS19.out nw).mono ?_
    rintro e w20 ⟨rfl, f20⟩
    have F20P := Lib.hid (F19P.out.trans f20 (fun _ _ q => q.elim))
    have NG20 := Lib.hid (NG19.out.fr f20 (fun _ _ _ q => q))
    clear f20 d2 d3 nw
    obtain ⟨d2, d3, _, _⟩ := HK.out w20 F20P.out
    go_wp2_with fail
    refine (HHd.out w20 NG20.out).mono ?_
    rintro e w21 ⟨rfl, f21⟩
    have F21P := Lib.hid (F20P.out.trans f21 (fun _ _ q => q.elim))
    clear f21 d2 d3
    obtain ⟨_, _, _, z⟩ := HK.out w21 F21P.out
    go_wp2
    go_ret
    exact ⟨rfl, z⟩
end Go.Proofs.YtkbljlbfkgoalaaGreatDoor
