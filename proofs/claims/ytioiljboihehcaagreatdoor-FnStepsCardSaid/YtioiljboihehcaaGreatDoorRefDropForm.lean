/- The walk of the reference's DropForm. -/
import Derived.Test.YtioiljboihehcaaGreatDoorRefBook
import Derived.Deep.CutRange
namespace Go.Proofs.YtioiljboihehcaaGreatDoor
set_option linter.unusedVariables false
set_option linter.unusedSimpArgs false
open Go.RowKit

/-- A form that came in, in numbers that are not negative. -/
def natF (Fi : List (List Int × List Int)) : List PL := Fi.map fun y => (y.1.map Int.toNat, y.2.map Int.toNat)
theorem nat_ints (L : List Nat) : (ints L).map Int.toNat = L := by
  unfold ints
  rw [List.map_map]
  exact (List.map_congr_left fun x _ => Int.toNat_natCast x).trans (List.map_id _)
theorem natF_i2 (Fs : List PL) : natF (i2 Fs) = Fs := by
  unfold natF i2
  rw [List.map_map]
  refine (List.map_congr_left fun y _ => ?_).trans (List.map_id _)
  exact Prod.ext (nat_ints _) (nat_ints _)
theorem goodI_natF {Fi : List (List Int × List Int)} (h : goodI Fi) : Fi = i2 (natF Fi) ∧ goodI (i2 (natF Fi)) := by
  obtain ⟨Fs, rfl⟩ := goodI_nat h
  rw [natF_i2]
  exact ⟨rfl, h⟩

theorem bookOK_pool {V : List PL} {BV : List Nat} (h : PoolOK V BV) : BookOK V BV := by
  have hle : ∀ j, j < V.length → BV.getD j 0 ≤ j := by
    intro j
    induction j using Nat.strongRecOn with
    | _ j ih =>
      intro hj
      have e := node_at hj
      obtain ⟨o1, o2⟩ := h.opts j _ e
      rw [h.born j _ e, bornL_iff, bornL_iff]
      exact ⟨⟨Nat.zero_le _, fun x hx => by have := o1 x hx; have := ih x this (by omega); omega⟩, fun x hx => by have := o2 x hx; have := ih x this (by omega); omega⟩
  exact ⟨h.len, h.opts, fun j x hx => by
    have hj := (List.getElem?_eq_some_iff.1 hx).1
    have := hle j (by rw [← h.len]; exact hj)
    rw [List.getD_eq_getElem?_getD, hx] at this
    exact this⟩
theorem cell_set_ne {w : World} {a b : Addr} {v u : Value} (h : w.cell? a = some v) (hne : a.block ≠ b.block) : (w.setCell b u).cell? a = some v := (Fr.set w b u).cell h hne
theorem keep_res {M : Nat → Prop} {w w' : World} {p : Addr} {v : Value} (f : Fr M w w') (h : w.cell? p = some v ∧ w.frozen? p = false) (hm : ¬ M p.block) : w'.cell? p = some v ∧ w'.frozen? p = false := by
  have hh := f.block p.block (World.block_lt_of_cell? w _ h.1) hm
  refine ⟨f.cell h.1 hm, ?_⟩
  have h2 := h.2
  unfold World.frozen? at h2 ⊢
  rw [hh]; exact h2
set_option maxHeartbeats 2000000 in
theorem l3If_any {R : Nat → Prop} (nv : Value) (NL : List PL) (w : World) (h : NodeL R encN w nv NL) :
    Calls Tryz.prog 74 #[.agg #[nv]] w fun e w' => ∃ v', e = .returned (.tuple #[.agg #[v'], .bool (fitsB NL)]) ∧ NodeL R encN w' v' (if fitsB NL = true then NL else []) ∧ Fr NoM w w' := by
  obtain ⟨w1, hw1⟩ : ∃ w1, w1 = (w.alloc (.cells #[nv] 28)).alloc (.cells #[.slice none 0 0] 28) := ⟨_, rfl⟩
  have f1 : Fr NoM w w1 := by rw [hw1]; exact ((Fr.refl NoM w).alloc _).alloc _
  have e0 : w1.heap[w.heap.size]? = some (.cells #[nv] 28 (0, 0)) := by rw [hw1]; exact ((Fr.refl NoM _).alloc _).heap (heap_alloc_new w _) (fun q => q)
  have e1 : w1.heap[w.heap.size + 1]? = some (.cells #[.slice none 0 0] 28 (0, 0)) := by
    have h := heap_alloc_new (w.alloc (.cells #[nv] 28)) (.cells #[.slice none 0 0] 28)
    rw [World.size_alloc] at h
    rw [hw1]; exact h
  have HFit := Lib.hid (l3Fits_any nv NL w1 (h.fr0 f1))
  have HK := Lib.hid (fun (W : World) (f : Fr NoM w1 W) => show W.cell? ⟨w.heap.size, 0, none⟩ = some nv ∧ W.cell? ⟨w.heap.size + 1, 0, none⟩ = some (.slice none 0 0) ∧ W.frozen? ⟨w.heap.size + 1, 0, none⟩ = false from by
    have h0 := f.heap e0 (fun q => q)
    have h1 := f.heap e1 (fun q => q)
    exact ⟨by rw [cell_of_row W _ 0 _ _ _ h0]; rfl, by rw [cell_of_row W _ 0 _ _ _ h1]; rfl, by simp [World.frozen?, h1]⟩)
  have HN := Lib.hid h
  obtain ⟨a, c, rfl, z⟩ := h
  clear z
  obtain ⟨fb, hfb⟩ : ∃ fb, fb = fitsB NL := ⟨_, rfl⟩
  rw [← hfb] at HFit ⊢
  clear hfb
  obtain ⟨k0, k1, z1⟩ := HK.out w1 (Fr.refl _ _)
  have HW := Lib.hid hw1; have F1 := Lib.hid f1
  clear hw1 f1 e0 e1
  go_enter Tryz.func74, Tryz.ntmps74
  go_wp2_with fail
  rw [← HW.out]
  refine HFit.out.mono ?_
  rintro e w2 ⟨rfl, f2⟩
  clear k0 k1 z1
  obtain ⟨k0, k1, z1⟩ := HK.out w2 f2
  have F2 := Lib.hid f2
  clear f2
  have hset : ∀ u, Fr NoM w (w2.setCell ⟨w.heap.size + 1, 0, none⟩ u) := fun u => (F1.out.trans F2.out (fun _ _ q => q)).setCell ⟨w.heap.size + 1, 0, none⟩ u (fun h => by have h : w.heap.size + 1 < w.heap.size := h; omega)
  have HSet := Lib.hid hset
  clear hset
  cases fb with
  | false =>
    go_wp2_with fail
    refine bodyPost_ret (v := .tuple #[.agg #[.slice none 0 0], .bool false]) (by simp [results, Tryz.results74, go_sem, k1]) rfl ?_
    exact ⟨_, rfl, ⟨none, 0, rfl, Nat.le_refl _, by decide, by simp⟩, HSet.out _⟩
  | true =>
    go_wp2_with fail
    refine bodyPost_ret (v := .tuple #[.agg #[.slice a NL.length c], .bool true]) (by simp [results, Tryz.results74, go_sem, k1]) rfl ?_
    exact ⟨_, rfl, HN.out.fr0 (HSet.out _), HSet.out _⟩

set_option maxRecDepth 4000 in
set_option maxHeartbeats 8000000 in
theorem dropFormR_any {R : Nat → Prop} (nv : Value) (Fi : List (List Int × List Int)) (w : World) (h : NodeL R encI w nv Fi) (g : Bool) (hg : g = true ↔ goodI Fi) :
    Calls Tryz.prog 43 #[.agg #[nv]] w fun e w' => ∃ v', e = .returned (.tuple #[.agg #[v'], .bool g]) ∧ NodeL (fun b => w.heap.size ≤ b) encN w' v' (if g then dropF (natF Fi) else []) ∧ Fr NoM w w' := by
  obtain ⟨w1, hw1⟩ : ∃ w1, w1 = (w.alloc (.cells #[nv] 28)).alloc (.cells #[.slice none 0 0] 28) := ⟨_, rfl⟩
  have f1 : Fr NoM w w1 := by rw [hw1]; exact ((Fr.refl NoM w).alloc _).alloc _
  have hs1 : w1.heap.size = w.heap.size + 2 := by rw [hw1]; simp
  have e0 : w1.heap[w.heap.size]? = some (.cells #[nv] 28 (0, 0)) := by rw [hw1]; exact ((Fr.refl NoM _).alloc _).heap (heap_alloc_new w _) (fun q => q)
  have e1 : w1.heap[w.heap.size + 1]? = some (.cells #[.slice none 0 0] 28 (0, 0)) := by
    have h := heap_alloc_new (w.alloc (.cells #[nv] 28)) (.cells #[.slice none 0 0] 28)
    rw [World.size_alloc] at h
    rw [hw1]; exact h
  have hgood := l3Good_any nv Fi w1 (h.fr0 f1)
  have HN := Lib.hid h.low
  have c0 : w1.cell? ⟨w.heap.size, 0, none⟩ = some nv := by rw [cell_of_row _ _ 0 _ _ _ e0]; rfl
  have HK := Lib.hid (fun (W : World) (f : Fr NoM w1 W) => show W.cell? ⟨w.heap.size, 0, none⟩ = some nv ∧ W.cell? ⟨w.heap.size + 1, 0, none⟩ = some (.slice none 0 0) ∧ W.frozen? ⟨w.heap.size + 1, 0, none⟩ = false from by
    have h0 := f.heap e0 (fun q => q)
    have h1 := f.heap e1 (fun q => q)
    exact ⟨by rw [cell_of_row _ _ 0 _ _ _ h0]; rfl, by rw [cell_of_row _ _ 0 _ _ _ h1]; rfl, by simp [World.frozen?, h1]⟩)
  obtain ⟨a, c, rfl, _⟩ := h
  have HW := Lib.hid hw1; have F1 := Lib.hid f1; have HS1 := Lib.hid hs1; have HG := Lib.hid hg; have HGood := Lib.hid hgood
  clear hw1 f1 hs1 e0 e1 hg hgood
  go_enter Tryz.func43, Tryz.ntmps43
  go_wp2_with fail
  rw [← HW.out]
  refine HGood.out.mono ?_
  rintro e w2 ⟨b, rfl, hb, f2⟩
  obtain rfl : b = g := by
    have h := HG.out
    cases b <;> cases g <;> simp_all
  obtain ⟨k0, k1, z1⟩ := HK.out w2 f2
  have F2 := Lib.hid f2; have HB := Lib.hid hb
  clear f2 hb c0
  cases b with
  | false =>
    go_wp2_with fail
    refine bodyPost_ret (v := .tuple #[.agg #[.slice none 0 0], .bool false]) (by simp [results, Tryz.results43, go_sem, k1]) rfl ?_
    exact ⟨_, rfl, ⟨none, 0, rfl, Nat.le_refl _, by decide, by simp⟩, (F1.out.trans F2.out (fun _ _ q => q)).setCell ⟨w.heap.size + 1, 0, none⟩ _ (fun h => by have h : w.heap.size + 1 < w.heap.size := h; omega)⟩
  | true =>
    obtain ⟨hFi, hgd⟩ := goodI_natF (HB.out.1 rfl)
    obtain ⟨Fs, hFs⟩ : ∃ Fs, Fs = natF Fi := ⟨_, rfl⟩
    rw [← hFs] at hFi hgd
    have hlF : Fi.length = Fs.length := by rw [hFi, i2_length]
    have hNf : NodeL (· < w.heap.size) encN w (.slice a Fi.length c) Fs := by
      have h := HN.out
      rw [hFi] at h ⊢
      exact h.ofI
    obtain ⟨hp, hle, hlen, hP, hadd, hroot⟩ := goodI_parts hgd
    have hbook := l6Book_any _ Fs w2 (hNf.fr0 (F1.out.trans F2.out (fun _ _ q => q))) hgd
    have HBook := Lib.hid hbook; have HFs := Lib.hid hFs; have HGd := Lib.hid hgd; have HP := Lib.hid hP; have Hle := Lib.hid hle; have HLen := Lib.hid hlen; have Hp := Lib.hid hp
    clear hFs hFi hgd hlF hNf hp hle hlen hP hadd hroot hbook k1 z1
    go_wp2_with fail
    refine HBook.out.mono ?_
    rintro e w3 ⟨ob, bb, kb, S, rfl, hBk, hSk, hobs, hkbs, hO, f3⟩
    have hlt : Fs.length - 1 < Fs.length := by have := Hp.out; omega
    obtain ⟨bv, hbv, hNb⟩ := hO.nv
    obtain ⟨na, nc, rfl, _, _, hnn⟩ := hNb
    obtain ⟨b1, o1, l, r, hna, hb1, c1, c2, s1, s2, q1, q2⟩ := hnn _ _ (node_at hlt)
    have ix := ixNode na Fs.length nc (Fs.length - 1) b1 o1 hlt hna
    have o0 := hO.o0
    obtain ⟨L, hL⟩ : ∃ L, L = (nodeV Fs (Fs.length - 1)).1 := ⟨_, rfl⟩
    obtain ⟨Rr, hRr⟩ : ∃ Rr, Rr = (nodeV Fs (Fs.length - 1)).2 := ⟨_, rfl⟩
    obtain ⟨u1, u2⟩ := HP.out.opts _ _ (node_at hlt)
    obtain ⟨n1, n2⟩ := HLen.out _ (nodeV_mem hlt)
    rw [← hL] at s1 q1 u1 n1
    rw [← hRr] at s2 q2 u2 n2
    obtain ⟨la, lc, rfl, z⟩ := id s1
    clear z
    obtain ⟨ra, rc, rfl, z⟩ := id s2
    clear z
    obtain ⟨w4, hw4⟩ : ∃ w4, w4 = w3.alloc (.cells #[.slice la L.length lc, .slice ra Rr.length rc] 100) := ⟨_, rfl⟩
    have f4 : Fr NoM w3 w4 := by rw [hw4]; exact (Fr.refl NoM w3).alloc _
    have hx4 : w4.heap[w3.heap.size]? = some (.cells #[.slice la L.length lc, .slice ra Rr.length rc] 100 (0, 0)) := by rw [hw4]; exact heap_alloc_new w3 _
    have hkb3 : kb < w3.heap.size := (Array.getElem?_eq_some_iff.1 hO.row).1
    have HX := Lib.hid (fun (W : World) (f : Fr (fun q => q = kb) w4 W) => show W.cell? ⟨w3.heap.size, 0, none⟩ = some (.slice la L.length lc) ∧ W.cell? ⟨w3.heap.size, 1, none⟩ = some (.slice ra Rr.length rc) ∧ Nats W (.slice la L.length lc) L ∧ Nats W (.slice ra Rr.length rc) Rr from
      have h := f.heap hx4 (fun e => by omega)
      ⟨by rw [cell_of_row _ _ 0 _ _ _ h]; rfl, by rw [cell_of_row _ _ 1 _ _ _ h]; rfl, (s1.fr0 f4).fr f q1, (s2.fr0 f4).fr f q2⟩)
    have HO4 := Lib.hid (fun (W : World) (f : Fr NoM w4 W) => (hO.fr0 f4).fr0 f)
    have HBk := Lib.hid (fun (W : World) (f : Fr (fun q => q = kb) w4 W) => show BookS S W bb Fs (bornsF Fs) from (hBk.fr0 f4).fr f (fun q hq e => (hSk q hq).2.1 e))
    have HQ1 := Lib.hid q1; have HQ2 := Lib.hid q2; have HU1 := Lib.hid u1; have HU2 := Lib.hid u2; have HN1 := Lib.hid n1; have HN2 := Lib.hid n2; have HL := Lib.hid hL; have HRr := Lib.hid hRr
    have HW4 := Lib.hid hw4; have F4 := Lib.hid (f3.trans f4 (fun _ _ q => q)); have HSk := Lib.hid hSk; have HKb := Lib.hid hkb3; have HObs := Lib.hid hobs; have HKbs := Lib.hid hkbs
    have hK4 : KOK (codesOf Fs) Fs.length (2 * Fs.length) (List.replicate (Fs.length * Fs.length) 0) := KOK.start _ _ _ _
    have HK4 := Lib.hid hK4
    have HBC := Lib.hid HP.out.book
    clear hBk hSk hobs hkbs hO f3 hnn hna hb1 s1 s2 q1 q2 u1 u2 n1 n2 hL hRr f4 hx4 hkb3 hw4 hK4
    go_upto_region 5 with fail
    rw [← HW4.out]
    go_cut [7] from 28 to 34 (fun x W => ∃ K' : List Nat, Nats W x (withoutL L (domB (gL (codesOf Fs)) L)) ∧ (∀ q, x.ownBlock = some q → q ≠ kb) ∧ OrdR W ob bb kb Fs K' ∧ KOK (codesOf Fs) Fs.length (2 * Fs.length) K' ∧ Fr (fun q => q = kb) w4 W)
    case first =>
      have F0 : Fr NoM w4 w4.drew := (Fr.refl NoM w4).drew
      have G0 : Fr (fun q => q = kb) w4 w4.drew := F0.any
      have hs := (HX.out w4 (Fr.refl _ w4))
      have hx := hs.1
      clear hs
      have HS := Lib.hid (fun (W : World) (f : Fr (fun q => q = kb) w4 W) => show W.cell? ⟨w3.heap.size, 0, none⟩ = some (.slice la L.length lc) from (HX.out W f).1)
      go_region_held3 (fun (W : World) => W.cell? ⟨w3.heap.size, 0, none⟩ = some (.slice la L.length lc))
        (first | exact HS.out _ (by assumption))
        (first
          | (go_at_call 118; (with_reducible refine (l6DomL_any HBC.out ob bb kb (by have := Hle.out; omega) (.slice la L.length lc) L (List.replicate (Fs.length * Fs.length) 0) _ (HO4.out _ (by assumption)) HK4.out ((HX.out _ (by assumption)).2.2.1) HQ1.out (fun x hx => by have := HU1.out x hx; omega) (by have := HN1.out; omega)).mono ?_); rintro e w5 ⟨v5, K5, rfl, hn5, hb5, hO5, hK5, hf5⟩; have G5 : Fr (fun q => q = kb) w4 w5 := Fr.trans (by assumption) hf5 (fun _ _ q => q))
          | (go_at_call 117; (with_reducible refine (l6Without_any (.slice la L.length lc) v5 L (domB (gL (codesOf Fs)) L) w5 ((HX.out _ (by assumption)).2.2.1) (by assumption) (by have := HN1.out; omega)).mono ?_); rintro e w6 ⟨v6, rfl, ho6, f6⟩; have G6 : Fr (fun q => q = kb) w4 w6 := Fr.trans (by assumption) f6 (fun _ _ q => q.elim))
          | fail)
      all_goals
        have hkk : kb < w5.heap.size := (Array.getElem?_eq_some_iff.1 hO5.row).1
        have HR := Lib.hid (show Nats w6 v6 (withoutL L (domB (gL (codesOf Fs)) L)) ∧ (∀ q, v6.ownBlock = some q → q ≠ kb) ∧ OrdR w6 ob bb kb Fs K5 ∧ KOK (codesOf Fs) Fs.length (2 * Fs.length) K5 ∧ Fr (fun q => q = kb) w4 w6 from
          ⟨SliceOf.of_owns ho6 rfl, fun q hq e => by have := (ho6.lt q hq).1; omega, hO5.fr0 f6, hK5, G6⟩)
        clear hkk hn5 hb5 hO5 hK5 hf5 ho6 f6 G5 G6
        go_wp2_with fail
        go_meet
        case rel => exact ⟨K5, HR.out⟩
    case rest =>
      obtain ⟨K5, hl7, hl7b, hO7, hK7, hf7⟩ := hcut
      obtain ⟨w7, rfl⟩ : ∃ w7, w7 = wc := ⟨_, rfl⟩
      obtain ⟨xa, xc, rfl, z⟩ := id hl7
      clear z
      have HX7 := Lib.hid (fun (W : World) (f : Fr (fun q => q = kb) w7 W) => HX.out W (hf7.trans f (fun _ _ q => q)))
      have HO7 := Lib.hid (fun (W : World) (f : Fr NoM w7 W) => hO7.fr0 f)
      have HK7 := Lib.hid hK7; have HF7 := Lib.hid hf7
      have HL7 := Lib.hid (fun (W : World) (f : Fr (fun q => q = kb) w7 W) => hl7.fr f (fun _ q hq e => hl7b q hq e))
      clear hl7 hl7b hO7 hK7 hf7
      go_upto_region 6 with fail
      go_cut [8] from 35 to 41 (fun x W => ∃ K' : List Nat, Nats W x (withoutL Rr (domB (gR (codesOf Fs)) Rr)) ∧ (∀ q, x.ownBlock = some q → q ≠ kb) ∧ OrdR W ob bb kb Fs K' ∧ KOK (codesOf Fs) Fs.length (2 * Fs.length) K' ∧ Fr (fun q => q = kb) w7 W)
      case first =>
        have F0 : Fr NoM w7 w7.drew := (Fr.refl NoM w7).drew
        have G0 : Fr (fun q => q = kb) w7 w7.drew := F0.any
        have hs := (HX7.out w7 (Fr.refl _ w7))
        have hx := hs.2.1
        clear hs
        have HS := Lib.hid (fun (W : World) (f : Fr (fun q => q = kb) w7 W) => show W.cell? ⟨w3.heap.size, 1, none⟩ = some (.slice ra Rr.length rc) from (HX7.out W f).2.1)
        go_region_held3 (fun (W : World) => W.cell? ⟨w3.heap.size, 1, none⟩ = some (.slice ra Rr.length rc))
          (first | exact HS.out _ (by assumption))
          (first
            | (go_at_call 118; (with_reducible refine (l6DomR_any HBC.out ob bb kb (by have := Hle.out; omega) (.slice ra Rr.length rc) Rr K5 _ (HO7.out _ (by assumption)) HK7.out ((HX7.out _ (by assumption)).2.2.2) HQ2.out (fun x hx => by have := HU2.out x hx; omega) (by have := HN2.out; omega)).mono ?_); rintro e w8 ⟨v8, K8, rfl, hn5, hb5, hO5, hK8, hf5⟩; have G5 : Fr (fun q => q = kb) w7 w8 := Fr.trans (by assumption) hf5 (fun _ _ q => q))
            | (go_at_call 117; (with_reducible refine (l6Without_any (.slice ra Rr.length rc) v8 Rr (domB (gR (codesOf Fs)) Rr) w8 ((HX7.out _ (by assumption)).2.2.2) (by assumption) (by have := HN2.out; omega)).mono ?_); rintro e w9 ⟨v9, rfl, ho6, f6⟩; have G6 : Fr (fun q => q = kb) w7 w9 := Fr.trans (by assumption) f6 (fun _ _ q => q.elim))
            | fail)
        all_goals
          have hkk : kb < w8.heap.size := (Array.getElem?_eq_some_iff.1 hO5.row).1
          have HR := Lib.hid (show Nats w9 v9 (withoutL Rr (domB (gR (codesOf Fs)) Rr)) ∧ (∀ q, v9.ownBlock = some q → q ≠ kb) ∧ OrdR w9 ob bb kb Fs K8 ∧ KOK (codesOf Fs) Fs.length (2 * Fs.length) K8 ∧ Fr (fun q => q = kb) w7 w9 from
            ⟨SliceOf.of_owns ho6 rfl, fun q hq e => by have := (ho6.lt q hq).1; omega, hO5.fr0 f6, hK8, G6⟩)
          clear hkk hn5 hb5 hO5 hK8 hf5 ho6 f6 G5 G6
          go_wp2_with fail
          go_meet
          case rel => exact ⟨K8, HR.out⟩
      case rest =>
        obtain ⟨K8, hl8, hl8b, hO8, hK8, hf8⟩ := hcut
        obtain ⟨w10, rfl⟩ : ∃ w10, w10 = wc := ⟨_, rfl⟩
        obtain ⟨ya, yc, rfl, z⟩ := id hl8
        clear z
        have hd := dropP_lt HGd.out
        have hl7 := HL7.out w10 hf8
        obtain ⟨l', hl'⟩ : ∃ l', l' = withoutL L (domB (gL (codesOf Fs)) L) := ⟨_, rfl⟩
        obtain ⟨r', hr'⟩ : ∃ r', r' = withoutL Rr (domB (gR (codesOf Fs)) Rr) := ⟨_, rfl⟩
        have hdp : dropP (codesOf Fs) (nodeV Fs (Fs.length - 1)) = (l', r') := by unfold dropP; rw [hl', hr', HL.out, HRr.out]
        rw [hdp] at hd
        obtain ⟨d1, d2, d3, d4⟩ := hd
        replace d3 : l'.length ≤ 24 := d3
        replace d4 : r'.length ≤ 24 := d4
        rw [← hl'] at hl7 ⊢
        rw [← hr'] at hl8 ⊢
        have hBk := HBk.out w10 (HF7.out.trans hf8 (fun _ _ q => q))
        have HSb := Lib.hid (fun (W : World) (f : Fr NoM w10 W) => show W.cell? ⟨ob, 0, none⟩ = some (.pointer (some ⟨bb, 0, none⟩)) from (hO8.fr0 f).o0)
        have hPut := fun (W : World) (f : Fr NoM w10 W) => put_any bb (.slice xa l'.length xc) (.slice ya r'.length yc) Fs (bornsF Fs) l' r' W (hBk.fr0 f) (hl7.fr0 f) (hl8.fr0 f) (fun j x hx => by have := d1 x (List.mem_of_getElem? hx); omega) (fun j x hx => by have := d2 x (List.mem_of_getElem? hx); omega) (by omega) (by omega) (by have := Hle.out; omega) (fun x hx => by have := bornsF_lt HP.out.opts hx; have := Hle.out; omega)
        rw [putB_pool HP.out] at hPut
        obtain ⟨p1, p2⟩ := poolPut_ok HP.out (L := l') (R := r') (fun x hx => by have := d1 x hx; omega) (fun x hx => by have := d2 x hx; omega)
        obtain ⟨q1, q2, _⟩ := poolPut_lt Fs (bornsF Fs) l' r'
        have hdF : dropF Fs = formB (poolPut Fs (bornsF Fs) l' r').1 (poolPut Fs (bornsF Fs) l' r').2.1 (poolPut Fs (bornsF Fs) l' r').2.2 := by unfold dropF; rw [hdp]
        obtain ⟨V', hV'⟩ : ∃ V', V' = (poolPut Fs (bornsF Fs) l' r').1 := ⟨_, rfl⟩
        obtain ⟨B', hB'⟩ : ∃ B', B' = (poolPut Fs (bornsF Fs) l' r').2.1 := ⟨_, rfl⟩
        obtain ⟨r0, hr0⟩ : ∃ r0, r0 = (poolPut Fs (bornsF Fs) l' r').2.2 := ⟨_, rfl⟩
        rw [← hV', ← hB', ← hr0] at hPut hdF
        rw [← hV', ← hB'] at p1
        rw [← hV', ← hr0] at q1
        rw [← hV'] at q2
        have HPut := Lib.hid hPut; have HP1 := Lib.hid p1; have HQ1' := Lib.hid q1; have HQ2' := Lib.hid q2; have HDf := Lib.hid hdF
        have HSb8 := Lib.hid (show ¬ S ob from fun q => (HSk.out ob q).2.2 rfl)
        have HF10 := Lib.hid ((F4.out.any (M := fun q => q = kb)).trans (HF7.out.trans hf8 (fun _ _ q => q)) (fun _ _ q => q))
        have F0 : Fr NoM w10 w10.drew := (Fr.refl NoM w10).drew
        have hs := HSb.out w10 (Fr.refl _ _)
        have HBm := Lib.hid (fun (W : World) (f : Fr NoM w10 W) => (hBk.fr0 f).m)
        clear hPut p1 p2 q1 q2 hdF hV' hB' hr0 d1 d2 d3 d4 hdp hl' hr' hl7 hl8 hl8b hO8 hK8 hf8 hBk
        have hw12 : w.heap.size + 2 ≤ w2.heap.size := by have h1 := HS1.out; have h2 := F2.out.size; omega
        have hno : ob ≠ w.heap.size + 1 := by have h1 := HObs.out; omega
        have HRs := Lib.hid (show ¬ S (w.heap.size + 1) from fun q => by have h1 := (HSk.out _ q).1; omega)
        have HKr := Lib.hid (fun (W : World) (f : Fr NoM w10 W) => show W.cell? ⟨w.heap.size + 1, 0, none⟩ = some (.slice none 0 0) ∧ W.frozen? ⟨w.heap.size + 1, 0, none⟩ = false from by
          have h3 : w.heap.size + 1 < w3.heap.size := by have h1 := HKb.out; have h2 := HKbs.out; omega
          obtain ⟨_, h1, h2⟩ := HK.out w2 F2.out
          have hbk : ∀ W', Fr (fun q => q = kb) w2 W' → W'.heap[w.heap.size + 1]? = w2.heap[w.heap.size + 1]? := fun W' f => f.block _ (by omega) (fun e => by have := HKbs.out; omega)
          have hh := hbk W (HF10.out.trans f (fun _ _ q => q.elim))
          exact ⟨(World.cell?_of_block hh).trans h1, by unfold World.frozen? at h2 ⊢; rw [hh]; exact h2⟩)
        go_upto_region 7 with fail
        go_region_held3 (fun (W : World) => W.cell? ⟨ob, 0, none⟩ = some (.pointer (some ⟨bb, 0, none⟩)))
          (first | exact HSb.out _ (by assumption) | assumption | exact cell_set_ne k12 hno)
          (first
            | (go_at_call 120; (with_reducible refine (HPut.out _ (by assumption)).mono ?_); rintro e w11 ⟨rfl, hB11, f11⟩; have k11 : w11.cell? ⟨ob, 0, none⟩ = some (.pointer (some ⟨bb, 0, none⟩)) := f11.cell (by first | assumption | exact HSb.out _ (by assumption)) (fun e => HSb8.out (HBm.out _ (by assumption) _ e)); have r11 := keep_res f11 (HKr.out _ (by assumption)) (fun e => HRs.out (HBm.out _ (by assumption) _ e)))
            | (go_at_call 119; (with_reducible refine (form_any bb r0 V' B' w11 hB11 (bookOK_pool HP1.out) HQ1'.out (by have := HQ2'.out; have := Hle.out; omega) (fun y hy => by have := HP1.out.lens (n := 1000) (by have := HQ2'.out; have := Hle.out; omega) y hy; omega)).mono ?_); rintro e w12 ⟨v12, rfl, hn12, f12⟩; obtain ⟨va, vc, rfl, zz⟩ := id hn12; clear zz; have k12 : w12.cell? ⟨ob, 0, none⟩ = some (.pointer (some ⟨bb, 0, none⟩)) := f12.cell k11 (fun q => q); have r12 := keep_res f12 r11 (fun q => q); have r12a := r12.1; have r12b := r12.2)
            | fail)
        all_goals
          have hfa : Fr NoM w w10 := (F1.out.trans F2.out (fun _ _ q => q)).trans HF10.out (fun q hq e => by have h1 := HKbs.out; omega)
          have hfb : Fr NoM w w11 := (hfa.trans F0 (fun _ _ q => q)).trans f11 (fun q hq e => by have h1 := (HSk.out q (HBm.out _ F0 q e)).1; omega)
          have hs11 := hfa.size
          have hs12 := f11.size
          have hs13 := F0.size
          have hs14 := HF10.out.size
          have HFin := Lib.hid (hfb.trans f12 (fun _ _ q => q)); have HN12 := Lib.hid hn12
          have HSz := Lib.hid (show w.heap.size + 2 ≤ w11.heap.size from by omega)
          have R12 := Lib.hid r12a
          clear hfa hfb hn12 f12 hs11 hs12 hs13 hs14
          go_wp2_with fail
          refine bodyPost_ret (v := .tuple #[.agg #[.slice va (formB V' B' r0).length vc], .bool true]) (by simp [results, Tryz.results43, go_sem, r12a]) rfl ?_
          refine ⟨_, rfl, ?_, HFin.out.setCell ⟨w.heap.size + 1, 0, none⟩ _ (fun h => by have h : w.heap.size + 1 < w.heap.size := h; omega)⟩
          rw [← HFs.out, HDf.out]
          exact (HN12.out.fr (Fr.set w12 ⟨w.heap.size + 1, 0, none⟩ _) (fun k hk e => by have e : k = w.heap.size + 1 := e; have := HSz.out; omega)).mono (fun k hk => by have := HSz.out; omega)
end Go.Proofs.YtioiljboihehcaaGreatDoor
