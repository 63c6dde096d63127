import Derived.Test.YtiidnnpanickaaaGreatDoorZaFnForm
import Derived.Test.YtiidnnpanickaaaGreatDoorZaCanFits
/- What the claim of FnTopCard needs of: FnFormX. -/
namespace Go.Proofs.YtiidnnpanickaaaGreatDoor
set_option linter.unusedVariables false
set_option linter.unusedSimpArgs false
open Go.RowKit
theorem draw_fits {Fs : List PL} (hg : goodI (i2 Fs)) (hx : (i2 Fs).length ≤ 25 ∨ ∃ (Fm : List PL) (E : List Nat), i2 Fs = i2 Fm ∧ DF (nineC ++ E) Fm ∧ E.length ≤ 18) : fitsB (canN Fs) = true := by
  have hl : Fs.length ≤ 120 := (goodI_parts hg).2.1
  rcases hx with hx | ⟨Fm, E, e, hd, he⟩
  · exact can_fits_few (good_form hg) (by simpa [i2] using hx)
  · have hF : Fs = Fm := by rw [← natF_i2 Fs, e, natF_i2]
    subst hF
    exact can_fits hd.code.2 (fun i hi => List.mem_append_left _ (by
      simp only [List.mem_cons, List.not_mem_nil, or_false] at hi
      rcases hi with rfl | rfl | rfl | rfl | rfl | rfl <;> simp [nineC])) (by rw [List.length_append]; show 9 + E.length ≤ 27; omega) (good_form hg) hl
def VFormXPost (w : World) (e : Ending) (w' : World) : Prop := ∃ (v : Value) (Fs : List PL), e = .returned (.agg #[v]) ∧ NodeL (fun b => w.heap.size ≤ b) encI w' v (i2 Fs) ∧ goodI (i2 Fs) ∧ Fs.length ≤ 30 ∧ fitsB (canN Fs) = true ∧ Fr NoM w w'
set_option maxRecDepth 4000 in
set_option maxHeartbeats 4000000 in
theorem vFormX_any (cv : Value) (L : List Int) (w : World) (h : CodeOK w cv L) : Calls Tryz.prog 35 #[cv] w fun e w' => VFormXPost w e w' := by
  obtain ⟨w1, hw1⟩ : ∃ w1, w1 = w.alloc (.cells #[.slice none 0 0] 31) := ⟨_, rfl⟩
  have f1 : Fr NoM w w1 := by rw [hw1]; exact (Fr.refl NoM w).alloc _
  have hs1 : w1.heap.size = w.heap.size + 1 := by rw [hw1]; simp
  have e1 : w1.heap[w.heap.size]? = some (.cells #[.slice none 0 0] 31 (0, 0)) := by rw [hw1]; exact heap_alloc_new w _
  have HK := Lib.hid (fun (W : World) (f : Fr NoM w1 W) => (by
    have h4 := f.heap e1 (fun q => q)
    exact ⟨by rw [cell_of_row W _ 0 _ _ _ h4]; rfl, by simp [World.frozen?, h4]⟩ : W.cell? ⟨w.heap.size, 0, none⟩ = some (.slice none 0 0) ∧ W.frozen? ⟨w.heap.size, 0, none⟩ = false))
  have HDr := Lib.hid (drawTextX_any cv L w1 (h.fr0 f1)); have F1 := Lib.hid f1; have HS1 := Lib.hid hs1
  have HEnd := Lib.hid (fun (W : World) (v : Value) (Fs : List PL) (f : Fr NoM w1 W) (n : NodeL (fun b => w1.heap.size ≤ b) encI W v (i2 Fs)) (hg : goodI (i2 Fs)) (hl : Fs.length ≤ 30) (hfit : fitsB (canN Fs) = true) => (⟨v, Fs, rfl, (n.fr (Fr.set W ⟨w.heap.size, 0, none⟩ v) (fun q hq e => by have e : q = w.heap.size := e; omega)).mono (fun q hq => by omega), hg, hl, hfit, (f1.trans f (fun _ _ q => q)).setCell _ _ (fun h => by have h : w.heap.size < w.heap.size := h; omega)⟩ : VFormXPost w (.returned (.agg #[v])) (W.setCell ⟨w.heap.size, 0, none⟩ v)))
  obtain ⟨ca, cc, rfl, zz⟩ := id h.1
  clear zz h f1 hs1 e1
  go_enter Tryz.func35, Tryz.ntmps35
  go_wp2_with fail
  rw [← hw1]
  clear hw1
  (with_reducible refine HDr.out.mono ?_)
  rintro e w2 ⟨v, Fi, rfl, n2, f2, hx⟩
  have HX := Lib.hid hx
  clear hx
  obtain ⟨va, vc, rfl, zz⟩ := id n2
  obtain ⟨W2, hW2⟩ : ∃ W2, W2 = w2.alloc (.cells #[.slice va Fi.length vc] 31) := ⟨_, rfl⟩
  have g2 : Fr NoM w2 W2 := by rw [hW2]; exact (Fr.refl NoM w2).alloc _
  have B2 := Lib.hid (BoxI.made n2 hW2)
  have F2 := Lib.hid (f2.trans g2 (fun _ _ q => q))
  have HG := Lib.hid (goodFormR_any _ Fi W2 B2.out.node)
  clear zz n2 f2 g2
  go_upto_region 2 with fail
  rw [← hW2]
  clear hW2
  have k2 := B2.out.cell
  go_wp2_with fail
  (with_reducible refine HG.out.mono ?_)
  rintro e w3 ⟨b, rfl, hb, f3⟩
  have B3 := Lib.hid (B2.out.fr0 f3)
  have F3 := Lib.hid (F2.out.trans f3 (fun _ _ q => q))
  have HB := Lib.hid hb
  have k3 := B3.out.cell
  clear k2 hb f3
  by_cases hc : b = true ∧ Fi.length ≤ 30
  · obtain ⟨hbt, hl⟩ := hc
    obtain ⟨Fs, rfl⟩ := goodI_nat (HB.out.1 hbt)
    have HGd := Lib.hid (HB.out.1 hbt)
    subst hbt
    have hl2 : Fs.length ≤ 30 := by simpa [i2] using hl
    have hl3 : ¬ (30 : Int) < ((i2 Fs).length : Int) := by omega
    obtain ⟨j1, j2⟩ := HK.out w3 F3.out
    have HE := Lib.hid (HEnd.out w3 _ Fs F3.out B3.out.node HGd.out hl2 (draw_fits HGd.out HX.out))
    go_wp2
    refine bodyPost_ret (v := .agg #[.slice va (i2 Fs).length vc]) (by simp [results, Tryz.results35, go_sem, j1]) rfl ?_
    exact HE.out
  · have HZ := Lib.hid (vZero_any w3)
    have hfin := fun (w4 : World) (v4 : Value) (n4 : NodeL (fun b => w3.heap.size ≤ b) encI w4 v4 (i2 [([], [])])) (f4 : Fr NoM w3 w4) => HEnd.out w4 v4 [([], [])] (F3.out.trans f4 (fun _ _ q => q)) (n4.mono (fun q hq => by have := F3.out.size; omega)) good_zero (by decide) (can_fits_few (good_form good_zero) (by decide))
    have HFin := Lib.hid hfin
    clear hfin
    cases b with
    | false =>
      clear hc
      go_wp2_with fail
      (with_reducible refine HZ.out.mono ?_)
      rintro e w4 ⟨v4, rfl, n4, f4⟩
      obtain ⟨j1, j2⟩ := HK.out w4 (F3.out.trans f4 (fun _ _ q => q))
      have HE := Lib.hid (HFin.out w4 v4 n4 f4)
      obtain ⟨v4a, v4c, rfl, zz⟩ := id n4
      clear zz n4 f4
      go_wp2
      refine bodyPost_ret (v := .agg #[.slice v4a (i2 [([], [])]).length v4c]) (by simp [results, Tryz.results35, go_sem, j1]) rfl ?_
      exact HE.out
    | true =>
      have hl : 30 < Fi.length := by
        rcases Nat.lt_or_ge 30 Fi.length with h | h
        · exact h
        · exact absurd ⟨rfl, h⟩ hc
      have hl3 : (30 : Int) < (Fi.length : Int) := by omega
      clear hc hl
      go_wp2_with fail
      (with_reducible refine HZ.out.mono ?_)
      rintro e w4 ⟨v4, rfl, n4, f4⟩
      obtain ⟨j1, j2⟩ := HK.out w4 (F3.out.trans f4 (fun _ _ q => q))
      have HE := Lib.hid (HFin.out w4 v4 n4 f4)
      obtain ⟨v4a, v4c, rfl, zz⟩ := id n4
      clear zz n4 f4
      go_wp2
      refine bodyPost_ret (v := .agg #[.slice v4a (i2 [([], [])]).length v4c]) (by simp [results, Tryz.results35, go_sem, j1]) rfl ?_
      exact HE.out
set_option maxRecDepth 4000 in
theorem vTwoX_any (cv : Value) (L : List Int) (w : World) (h : CodeOK w cv L) (hl : L.length ≤ 65536) : Calls Tryz.prog 36 #[cv] w fun e w' => VFormXPost w e w' := by
  obtain ⟨w1, hw1⟩ : ∃ w1, w1 = w.alloc (.cells #[.slice none 0 0] 31) := ⟨_, rfl⟩
  have f1 : Fr NoM w w1 := by rw [hw1]; exact (Fr.refl NoM w).alloc _
  have hs1 : w1.heap.size = w.heap.size + 1 := by rw [hw1]; simp
  have e1 : w1.heap[w.heap.size]? = some (.cells #[.slice none 0 0] 31 (0, 0)) := by rw [hw1]; exact heap_alloc_new w _
  have HK := Lib.hid (fun (W : World) (f : Fr NoM w1 W) => (by
    have h4 := f.heap e1 (fun q => q)
    exact ⟨by rw [cell_of_row W _ 0 _ _ _ h4]; rfl, by simp [World.frozen?, h4]⟩ : W.cell? ⟨w.heap.size, 0, none⟩ = some (.slice none 0 0) ∧ W.frozen? ⟨w.heap.size, 0, none⟩ = false))
  have hcut := vCut_any 2 ⟨by omega, by omega⟩ cv L w1 (h.fr0 f1) hl
  rw [show ((2 : Nat) : Int) = 2 from rfl] at hcut
  have HCut := Lib.hid hcut; have F1 := Lib.hid f1; have HS1 := Lib.hid hs1
  have HEnd := Lib.hid (fun (W : World) (v : Value) (Fs : List PL) (f : Fr NoM w1 W) (n : NodeL (fun b => w1.heap.size ≤ b) encI W v (i2 Fs)) (hg : goodI (i2 Fs)) (hl : Fs.length ≤ 30) (hfit : fitsB (canN Fs) = true) => (⟨v, Fs, rfl, (n.fr (Fr.set W ⟨w.heap.size, 0, none⟩ v) (fun q hq e => by have e : q = w.heap.size := e; omega)).mono (fun q hq => by omega), hg, hl, hfit, (f1.trans f (fun _ _ q => q)).setCell _ _ (fun h => by have h : w.heap.size < w.heap.size := h; omega)⟩ : VFormXPost w (.returned (.agg #[v])) (W.setCell ⟨w.heap.size, 0, none⟩ v)))
  obtain ⟨ca, cc, rfl, zz⟩ := id h.1
  clear zz h f1 hs1 e1 hcut
  go_enter Tryz.func36, Tryz.ntmps36
  go_wp2_with fail
  rw [← hw1]
  clear hw1
  (with_reducible refine HCut.out.mono ?_)
  rintro e w2 ⟨v2, L2, rfl, c2, f2⟩
  have HF := Lib.hid (vFormX_any v2 L2 w2 c2)
  have F2 := Lib.hid f2
  obtain ⟨c2a, c2c, rfl, zz⟩ := id c2.1
  clear zz c2 f2
  go_wp2_with fail
  (with_reducible refine HF.out.mono ?_)
  rintro e w3 ⟨v3, Fs, rfl, n3, hg, hl3, hfit, f3⟩
  obtain ⟨j1, j2⟩ := HK.out w3 (F2.out.trans f3 (fun _ _ q => q))
  have HE := Lib.hid (HEnd.out w3 v3 Fs (F2.out.trans f3 (fun _ _ q => q)) (n3.mono (fun q hq => by have := F2.out.size; omega)) hg hl3 hfit)
  obtain ⟨va, vc, rfl, zz⟩ := id n3
  clear zz n3 hg hl3 hfit f3
  go_wp2
  refine bodyPost_ret (v := .agg #[.slice va (i2 Fs).length vc]) (by simp [results, Tryz.results36, go_sem, j1]) rfl ?_
  exact HE.out
end Go.Proofs.YtiidnnpanickaaaGreatDoor
