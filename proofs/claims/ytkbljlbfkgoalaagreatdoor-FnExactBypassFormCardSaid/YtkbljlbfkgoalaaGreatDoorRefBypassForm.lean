/- The walk of the reference's BypassForm. -/
import Derived.Test.YtkbljlbfkgoalaaGreatDoorRefDropForm
import Derived.Test.YtkbljlbfkgoalaaGreatDoorRefBypass
namespace Go.Proofs.YtkbljlbfkgoalaaGreatDoor
set_option linter.unusedVariables false
set_option linter.unusedSimpArgs false
open Go.RowKit

set_option maxHeartbeats 2000000 in
theorem l3If_any {R : Nat → Prop} (nv : Value) (NL : List PL) (w : World) (h : NodeL R encN w nv NL) :
    Calls Tryz.prog 85 #[.agg #[nv]] w fun e w' => ∃ v', e = .returned (.tuple #[.agg #[v'], .bool (fitsB NL)]) ∧ NodeL R encN w' v' (if fitsB NL = true then NL else []) ∧ Fr NoM w w' := by
  obtain ⟨w1, hw1⟩ : ∃ w1, w1 = (w.alloc (.cells #[nv] 24)).alloc (.cells #[.slice none 0 0] 24) := ⟨_, rfl⟩
  have f1 : Fr NoM w w1 := by rw [hw1]; exact ((Fr.refl NoM w).alloc _).alloc _
  have e0 : w1.heap[w.heap.size]? = some (.cells #[nv] 24 (0, 0)) := by rw [hw1]; exact ((Fr.refl NoM _).alloc _).heap (heap_alloc_new w _) (fun q => q)
  have e1 : w1.heap[w.heap.size + 1]? = some (.cells #[.slice none 0 0] 24 (0, 0)) := by
    have h := heap_alloc_new (w.alloc (.cells #[nv] 24)) (.cells #[.slice none 0 0] 24)
    rw [World.size_alloc] at h
    rw [hw1]; exact h
  have HFit := Lib.hid (l3Fits_any nv NL w1 (h.fr0 f1))
  have HK := Lib.hid (fun (W : World) (f : Fr NoM w1 W) => show W.cell? ⟨w.heap.size, 0, none⟩ = some nv ∧ W.cell? ⟨w.heap.size + 1, 0, none⟩ = some (.slice none 0 0) ∧ W.frozen? ⟨w.heap.size + 1, 0, none⟩ = false from by
    have h0 := f.heap e0 (fun q => q)
    have h1 := f.heap e1 (fun q => q)
    exact ⟨by rw [cell_of_row W _ 0 _ _ _ h0]; rfl, by rw [cell_of_row W _ 0 _ _ _ h1]; rfl, by simp [World.frozen?, h1]⟩)
  have HN := Lib.hid h
  obtain ⟨a, c, rfl, z⟩ := h
  clear z
  obtain ⟨fb, hfb⟩ : ∃ fb, fb = fitsB NL := ⟨_, rfl⟩
  rw [← hfb] at HFit ⊢
  clear hfb
  obtain ⟨k0, k1, z1⟩ := HK.out w1 (Fr.refl _ _)
  have HW := Lib.hid hw1; have F1 := Lib.hid f1
  clear hw1 f1 e0 e1
  go_enter Tryz.func85, Tryz.ntmps85
  go_wp2_with fail
  rw [← HW.out]
  refine HFit.out.mono ?_
  rintro e w2 ⟨rfl, f2⟩
  clear k0 k1 z1
  obtain ⟨k0, k1, z1⟩ := HK.out w2 f2
  have F2 := Lib.hid f2
  clear f2
  have hset : ∀ u, Fr NoM w (w2.setCell ⟨w.heap.size + 1, 0, none⟩ u) := fun u => (F1.out.trans F2.out (fun _ _ q => q)).setCell ⟨w.heap.size + 1, 0, none⟩ u (fun h => by have h : w.heap.size + 1 < w.heap.size := h; omega)
  have HSet := Lib.hid hset
  clear hset
  cases fb with
  | false =>
    go_wp2_with fail
    refine bodyPost_ret (v := .tuple #[.agg #[.slice none 0 0], .bool false]) (by simp [results, Tryz.results85, go_sem, k1]) rfl ?_
    exact ⟨_, rfl, ⟨none, 0, rfl, Nat.le_refl _, by decide, by simp⟩, HSet.out _⟩
  | true =>
    go_wp2_with fail
    refine bodyPost_ret (v := .tuple #[.agg #[.slice a NL.length c], .bool true]) (by simp [results, Tryz.results85, go_sem, k1]) rfl ?_
    exact ⟨_, rfl, HN.out.fr0 (HSet.out _), HSet.out _⟩

set_option maxRecDepth 4000 in
set_option maxHeartbeats 8000000 in
theorem bypassFormR_any {R : Nat → Prop} (nv : Value) (Fi : List (List Int × List Int)) (w : World) (h : NodeL R encI w nv Fi) (g : Bool) (hg : g = true ↔ goodI Fi) (ok : Bool) (hok : ok = (g && fitsB (bypF (natF Fi)))) :
    Calls Tryz.prog 32 #[.agg #[nv]] w fun e w' => ∃ v', e = .returned (.tuple #[.agg #[v'], .bool ok]) ∧ NodeL (fun b => w.heap.size ≤ b) encN w' v' (if ok = true then bypF (natF Fi) else []) ∧ Fr NoM w w' := by
  have HOk := Lib.hid hok
  clear hok
  obtain ⟨w1, hw1⟩ : ∃ w1, w1 = (w.alloc (.cells #[nv] 24)).alloc (.cells #[.slice none 0 0] 24) := ⟨_, rfl⟩
  have f1 : Fr NoM w w1 := by rw [hw1]; exact ((Fr.refl NoM w).alloc _).alloc _
  have hs1 : w1.heap.size = w.heap.size + 2 := by rw [hw1]; simp
  have e0 : w1.heap[w.heap.size]? = some (.cells #[nv] 24 (0, 0)) := by rw [hw1]; exact ((Fr.refl NoM _).alloc _).heap (heap_alloc_new w _) (fun q => q)
  have e1 : w1.heap[w.heap.size + 1]? = some (.cells #[.slice none 0 0] 24 (0, 0)) := by
    have h := heap_alloc_new (w.alloc (.cells #[nv] 24)) (.cells #[.slice none 0 0] 24)
    rw [World.size_alloc] at h
    rw [hw1]; exact h
  have hgood := l3Good_any nv Fi w1 (h.fr0 f1)
  have HN := Lib.hid h.low
  have c0 : w1.cell? ⟨w.heap.size, 0, none⟩ = some nv := by rw [cell_of_row _ _ 0 _ _ _ e0]; rfl
  have HK := Lib.hid (fun (W : World) (f : Fr NoM w1 W) => show W.cell? ⟨w.heap.size, 0, none⟩ = some nv ∧ W.cell? ⟨w.heap.size + 1, 0, none⟩ = some (.slice none 0 0) ∧ W.frozen? ⟨w.heap.size + 1, 0, none⟩ = false from by
    have h0 := f.heap e0 (fun q => q)
    have h1 := f.heap e1 (fun q => q)
    exact ⟨by rw [cell_of_row _ _ 0 _ _ _ h0]; rfl, by rw [cell_of_row _ _ 0 _ _ _ h1]; rfl, by simp [World.frozen?, h1]⟩)
  obtain ⟨a, c, rfl, _⟩ := h
  have HW := Lib.hid hw1; have F1 := Lib.hid f1; have HS1 := Lib.hid hs1; have HG := Lib.hid hg; have HGood := Lib.hid hgood
  clear hw1 f1 hs1 e0 e1 hg hgood
  go_enter Tryz.func32, Tryz.ntmps32
  go_wp2_with fail
  rw [← HW.out]
  refine HGood.out.mono ?_
  rintro e w2 ⟨b, rfl, hb, f2⟩
  obtain rfl : b = g := by
    have h := HG.out
    cases b <;> cases g <;> simp_all
  obtain ⟨k0, k1, z1⟩ := HK.out w2 f2
  have F2 := Lib.hid f2; have HB := Lib.hid hb
  clear f2 hb c0
  cases b with
  | false =>
    have hk : ok = false := by rw [HOk.out]; rfl
    subst hk
    go_wp2_with fail
    refine bodyPost_ret (v := .tuple #[.agg #[.slice none 0 0], .bool false]) (by simp [results, Tryz.results32, go_sem, k1]) rfl ?_
    exact ⟨_, rfl, ⟨none, 0, rfl, Nat.le_refl _, by decide, by simp⟩, (F1.out.trans F2.out (fun _ _ q => q)).setCell ⟨w.heap.size + 1, 0, none⟩ _ (fun h => by have h : w.heap.size + 1 < w.heap.size := h; omega)⟩
  | true =>
    obtain ⟨hFi, hgd⟩ := goodI_natF (HB.out.1 rfl)
    obtain ⟨Fs, hFs⟩ : ∃ Fs, Fs = natF Fi := ⟨_, rfl⟩
    rw [← hFs] at hFi hgd
    have hlF : Fi.length = Fs.length := by rw [hFi, i2_length]
    have hNf : NodeL (· < w.heap.size) encN w (.slice a Fi.length c) Fs := by
      have h := HN.out
      rw [hFi] at h ⊢
      exact h.ofI
    obtain ⟨hp, hle, hlen, hP, hadd, hroot⟩ := goodI_parts hgd
    have hbook := l6Book_any _ Fs w2 (hNf.fr0 (F1.out.trans F2.out (fun _ _ q => q))) hgd
    have HBook := Lib.hid hbook; have HFs := Lib.hid hFs; have HGd := Lib.hid hgd; have HP := Lib.hid hP; have Hle := Lib.hid hle; have HLen := Lib.hid hlen; have Hp := Lib.hid hp
    clear hFs hFi hgd hlF hNf hp hle hlen hP hadd hroot hbook k1 z1
    go_wp2_with fail
    refine HBook.out.mono ?_
    rintro e w3 ⟨ob, bb, kb, S, rfl, hBk, hSk, hobs, hkbs, hO, f3⟩
    have hlt : Fs.length - 1 < Fs.length := by have := Hp.out; omega
    have HByp := Lib.hid (l6Bypass_any HP.out.book ob bb kb (Fs.length - 1) (by have := Hle.out; omega) hlt (fun y hy => by have := HLen.out y hy; omega) _ w3 hO (KOK.start _ _ _ _))
    have HBk := Lib.hid hBk; have HSk := Lib.hid hSk; have HObs := Lib.hid hobs; have HKbs := Lib.hid hkbs; have F3 := Lib.hid f3
    have HKb := Lib.hid (show kb < w3.heap.size from (Array.getElem?_eq_some_iff.1 hO.row).1)
    clear hBk hSk hobs hkbs hO f3 HBook hlt
    go_wp2_with fail
    refine HByp.out.mono ?_
    rintro e w4 ⟨v4, v5, fnd, K4, rfl, hR, hO4, _, f4⟩
    have f14 : Fr NoM w1 w4 := (F2.out.trans F3.out (fun _ _ q => q)).trans f4 (fun q hq e => by have h1 := HKbs.out; have h2 := F2.out.size; omega)
    have hRq : BypR w4 kb v4 v5 fnd (bypQ Fs) := hR
    clear hR HByp
    cases hq : bypQ Fs with
    | none =>
      rw [hq] at hRq
      have e : fnd = false := hRq
      subst e
      have hk : ok = false := by
        have h := HOk.out
        rw [← HFs.out] at h
        rw [h]
        unfold bypF
        rw [hq]
        exact fits_nil
      subst hk
      obtain ⟨k0, k1, z1⟩ := HK.out w4 f14
      have F14 := Lib.hid f14
      clear hq hRq hO4 f4 f14
      go_wp2_with fail
      refine bodyPost_ret (v := .tuple #[.agg #[.slice none 0 0], .bool false]) (by simp [results, Tryz.results32, go_sem, k1]) rfl ?_
      exact ⟨_, rfl, ⟨none, 0, rfl, Nat.le_refl _, by decide, by simp⟩, (F1.out.trans F14.out (fun _ _ q => q)).setCell ⟨w.heap.size + 1, 0, none⟩ _ (fun h => by have h : w.heap.size + 1 < w.heap.size := h; omega)⟩
    | some p =>
      rw [hq] at hRq
      obtain ⟨rfl, n4, n5, b4, b5⟩ : fnd = true ∧ Nats w4 v4 p.1 ∧ Nats w4 v5 p.2 ∧ (p.1 ≠ [] → ∀ q, v4.ownBlock = some q → q ≠ kb) ∧ (p.2 ≠ [] → ∀ q, v5.ownBlock = some q → q ≠ kb) := hRq
      obtain ⟨x1, x2, x3, x4⟩ := bypQ_lt HGd.out hq
      obtain ⟨l', r'⟩ := p
      dsimp only at n4 n5 b4 b5 x1 x2 x3 x4
      obtain ⟨xa, xc, rfl, z⟩ := id n4
      clear z
      obtain ⟨ya, yc, rfl, z⟩ := id n5
      clear z
      have hBk4 := HBk.out.fr f4 (fun q hq e => (HSk.out q hq).2.1 e)
      have HSb := Lib.hid (fun (W : World) (f : Fr NoM w4 W) => show W.cell? ⟨ob, 0, none⟩ = some (.pointer (some ⟨bb, 0, none⟩)) from (hO4.fr0 f).o0)
      have hPut := fun (W : World) (f : Fr NoM w4 W) => put_any bb (.slice xa l'.length xc) (.slice ya r'.length yc) Fs (bornsF Fs) l' r' W (hBk4.fr0 f) (n4.fr0 f) (n5.fr0 f) (fun j x hx => x1 x (List.mem_of_getElem? hx)) (fun j x hx => x2 x (List.mem_of_getElem? hx)) (by omega) (by omega) (by have := Hle.out; omega) (fun x hx => by have := bornsF_lt HP.out.opts hx; have := Hle.out; omega)
      rw [putB_pool HP.out] at hPut
      obtain ⟨p1, p2⟩ := poolPut_ok HP.out (L := l') (R := r') x1 x2
      obtain ⟨q1, q2, _⟩ := poolPut_lt Fs (bornsF Fs) l' r'
      have hdF : bypF Fs = formB (poolPut Fs (bornsF Fs) l' r').1 (poolPut Fs (bornsF Fs) l' r').2.1 (poolPut Fs (bornsF Fs) l' r').2.2 := by unfold bypF; rw [hq]
      obtain ⟨V', hV'⟩ : ∃ V', V' = (poolPut Fs (bornsF Fs) l' r').1 := ⟨_, rfl⟩
      obtain ⟨B', hB'⟩ : ∃ B', B' = (poolPut Fs (bornsF Fs) l' r').2.1 := ⟨_, rfl⟩
      obtain ⟨r0, hr0⟩ : ∃ r0, r0 = (poolPut Fs (bornsF Fs) l' r').2.2 := ⟨_, rfl⟩
      rw [← hV', ← hB', ← hr0] at hPut hdF
      rw [← hV', ← hB'] at p1
      rw [← hV', ← hr0] at q1
      rw [← hV'] at q2
      have hok' : fitsB (formB V' B' r0) = ok := by
        have h := HOk.out
        rw [← HFs.out, hdF] at h
        rw [h]; rfl
      have hIf := fun (R : Nat → Prop) (W : World) (v : Value) (h : NodeL R encN W v (formB V' B' r0)) => l3If_any v (formB V' B' r0) W h
      rw [hok'] at hIf
      obtain ⟨FN, hFN⟩ : ∃ FN, FN = (if ok = true then formB V' B' r0 else []) := ⟨_, rfl⟩
      rw [← hFN] at hIf
      have HFN := Lib.hid hFN
      have HIf := Lib.hid hIf
      have HPut := Lib.hid hPut; have HP1 := Lib.hid p1; have HQ1' := Lib.hid q1; have HQ2' := Lib.hid q2; have HDf := Lib.hid hdF
      have HSb8 := Lib.hid (show ¬ S ob from fun q => (HSk.out ob q).2.2 rfl)
      have F14 := Lib.hid f14
      have HF4 := Lib.hid f4.size
      have F0 : Fr NoM w4 w4.drew := (Fr.refl NoM w4).drew
      have hs := HSb.out w4 (Fr.refl _ _)
      have HBm := Lib.hid (fun (W : World) (f : Fr NoM w4 W) => (hBk4.fr0 f).m)
      have hw12 : w.heap.size + 2 ≤ w2.heap.size := by have h1 := HS1.out; have h2 := F2.out.size; omega
      have hno : ob ≠ w.heap.size + 1 := by have h1 := HObs.out; omega
      have HRs := Lib.hid (show ¬ S (w.heap.size + 1) from fun q => by have h1 := (HSk.out _ q).1; omega)
      have HKr := Lib.hid (fun (W : World) (f : Fr NoM w4 W) => (HK.out W (F14.out.trans f (fun _ _ q => q))).2)
      clear hFN hIf hok' hPut p1 p2 q1 q2 hdF hV' hB' hr0 hq x1 x2 x3 x4 b4 b5 n4 n5 hO4 f4 f14 hBk4
      go_upto_region 7 with fail
      go_region_held3 (fun (W : World) => W.cell? ⟨ob, 0, none⟩ = some (.pointer (some ⟨bb, 0, none⟩)))
        (first | exact HSb.out _ (by assumption) | assumption | exact cell_set_ne k13 hno)
        (first
          | (go_at_call 80; (with_reducible refine (HPut.out _ (by assumption)).mono ?_); rintro e w11 ⟨rfl, hB11, f11⟩; have k11 : w11.cell? ⟨ob, 0, none⟩ = some (.pointer (some ⟨bb, 0, none⟩)) := f11.cell (by first | assumption | exact HSb.out _ (by assumption)) (fun e => HSb8.out (HBm.out _ (by assumption) _ e)); have r11 := keep_res f11 (HKr.out _ (by assumption)) (fun e => HRs.out (HBm.out _ (by assumption) _ e)))
          | (go_at_call 79; (with_reducible refine (form_any bb r0 V' B' w11 hB11 (bookOK_pool HP1.out) HQ1'.out (by have := HQ2'.out; have := Hle.out; omega) (fun y hy => by have := HP1.out.lens (n := 1000) (by have := HQ2'.out; have := Hle.out; omega) y hy; omega)).mono ?_); rintro e w12 ⟨v12, rfl, hn12, f12⟩; obtain ⟨va, vc, rfl, zz⟩ := id hn12; clear zz; have k12 : w12.cell? ⟨ob, 0, none⟩ = some (.pointer (some ⟨bb, 0, none⟩)) := f12.cell k11 (fun q => q); have r12 := keep_res f12 r11 (fun q => q))
          | (go_at_call 85; (with_reducible refine (HIf.out _ w12 _ hn12).mono ?_); rintro e w13 ⟨v13, rfl, hn13, f13⟩; obtain ⟨va3, vc3, rfl, zz⟩ := id hn13; clear zz; have k13 : w13.cell? ⟨ob, 0, none⟩ = some (.pointer (some ⟨bb, 0, none⟩)) := f13.cell k12 (fun q => q); have r13 := keep_res f13 r12 (fun q => q); have r13a := r13.1; have r13b := r13.2)
          | fail)
      all_goals
        have hsz := HSk.out
        have z2 := F2.out.size
        have z14 := F14.out.size
        have z3 := F3.out.size
        have hw4 : w2.heap.size ≤ w4.heap.size := by have h1 := HF4.out; omega
        have hfa : Fr NoM w w4 := F1.out.trans F14.out (fun _ _ q => q)
        have zb := F1.out.size
        have hfb : Fr NoM w w11 := (hfa.trans F0 (fun _ _ q => q)).trans f11 (fun q hq e => by have h1 := (hsz q (HBm.out _ F0 q e)).1; omega)
        have hs12 := f11.size
        have hs13 := F0.size
        have HFin := Lib.hid ((hfb.trans f12 (fun _ _ q => q)).trans f13 (fun _ _ q => q)); have HN13 := Lib.hid hn13
        have HSz := Lib.hid (show w.heap.size + 2 ≤ w11.heap.size from by omega)
        have R13 := Lib.hid r13a
        clear hsz z2 z14 z3 hw4 hfa zb hfb hn13 hn12 f12 f13 hs12 hs13 f11
        cases ok with
        | true =>
          go_wp2_with fail
          refine bodyPost_ret (v := .tuple #[.agg #[.slice va3 FN.length vc3], .bool true]) (by simp [results, Tryz.results32, go_sem, r13a]) rfl ?_
          refine ⟨_, rfl, ?_, HFin.out.setCell ⟨w.heap.size + 1, 0, none⟩ _ (fun h => by have h : w.heap.size + 1 < w.heap.size := h; omega)⟩
          have hn := (HN13.out.fr (Fr.set w13 ⟨w.heap.size + 1, 0, none⟩ (.slice va3 FN.length vc3)) (fun k hk e => by have e : k = w.heap.size + 1 := e; have := HSz.out; omega)).mono (R' := fun b => w.heap.size ≤ b) (fun k hk => by have := HSz.out; omega)
          have hF := HFN.out
          replace hF : FN = formB V' B' r0 := by simpa using hF
          rw [← HDf.out, HFs.out] at hF
          rw [← hF]
          exact hn
        | false =>
          go_wp2_with fail
          refine bodyPost_ret (v := .tuple #[.agg #[.slice va3 FN.length vc3], .bool false]) (by simp [results, Tryz.results32, go_sem, r13a]) rfl ?_
          refine ⟨_, rfl, ?_, HFin.out.setCell ⟨w.heap.size + 1, 0, none⟩ _ (fun h => by have h : w.heap.size + 1 < w.heap.size := h; omega)⟩
          have hn := (HN13.out.fr (Fr.set w13 ⟨w.heap.size + 1, 0, none⟩ (.slice va3 FN.length vc3)) (fun k hk e => by have e : k = w.heap.size + 1 := e; have := HSz.out; omega)).mono (R' := fun b => w.heap.size ≤ b) (fun k hk => by have := HSz.out; omega)
          have hF := HFN.out
          replace hF : FN = [] := by simpa using hF
          rw [← hF]
          exact hn
end Go.Proofs.YtkbljlbfkgoalaaGreatDoor
