/- The walk of the program's DropForm: it gives dropF, for every good form. -/
import Derived.Test.YtioiljboihehcaaGreatDoorLoadedP
import Derived.Test.YtioiljboihehcaaGreatDoorWithoutP
import Derived.Test.YtioiljboihehcaaGreatDoorDropLaw
import Derived.Test.YtioiljboihehcaaGreatDoorGoodFormP
import Derived.Test.YtioiljboihehcaaGreatDoorRefDropForm
namespace Go.Proofs.YtioiljboihehcaaGreatDoor
set_option linter.unusedVariables false
set_option linter.unusedSimpArgs false
open Go.RowKit

theorem domB_up (g : Nat → Nat → Bool) (L : List Nat) : (domB g L).Pairwise (· < ·) := List.pairwise_lt_range.filter _
theorem atAll_range' {n : Nat} {L : List Nat} (h : ∀ x ∈ L, x < n) : atAll (List.range n) L = L := by
  unfold atAll
  have : L.map (fun i => (List.range n).getD i 0) = L.map id := List.map_congr_left fun x hx => by
    rw [range_getD, if_pos (h x hx)]; rfl
  rw [this, List.map_id]
theorem RowIs.any {α : Type} {e : TypeId} {enc : α → Value} {w w' : World} {g : Nat} {L : List α} {M : Nat → Prop} (h : RowIs e enc w g L) (f : Fr M w w') (hm : ¬ M g) : RowIs e enc w' g L := h.fr f hm

set_option maxRecDepth 4000 in
set_option maxHeartbeats 8000000 in
theorem dropFormP_any {R : Nat → Prop} (nv : Value) (Fi : List (List Int × List Int)) (w : World) (h : NodeL R encI w nv Fi) (g : Bool) (hg : g = true ↔ goodI Fi) :
    Calls Tryz.prog 41 #[.agg #[nv]] w fun e w' => ∃ v', e = .returned (.tuple #[.agg #[v'], .bool g]) ∧ NodesS w.heap.size w' v' (if g then dropF (natF Fi) else []) ∧ Fr NoM w w' := by
  obtain ⟨w1, hw1⟩ : ∃ w1, w1 = (w.alloc (.cells #[nv] 28)).alloc (.cells #[.slice none 0 0] 28) := ⟨_, rfl⟩
  have f1 : Fr NoM w w1 := by rw [hw1]; exact ((Fr.refl NoM w).alloc _).alloc _
  have hs1 : w1.heap.size = w.heap.size + 2 := by rw [hw1]; simp
  have e0 : w1.heap[w.heap.size]? = some (.cells #[nv] 28 (0, 0)) := by rw [hw1]; exact ((Fr.refl NoM _).alloc _).heap (heap_alloc_new w _) (fun q => q)
  have e1 : w1.heap[w.heap.size + 1]? = some (.cells #[.slice none 0 0] 28 (0, 0)) := by
    have h := heap_alloc_new (w.alloc (.cells #[nv] 28)) (.cells #[.slice none 0 0] 28)
    rw [World.size_alloc] at h
    rw [hw1]; exact h
  have HK := Lib.hid (fun (W : World) (f : Fr NoM w1 W) => show W.cell? ⟨w.heap.size, 0, none⟩ = some nv ∧ W.cell? ⟨w.heap.size + 1, 0, none⟩ = some (.slice none 0 0) ∧ W.frozen? ⟨w.heap.size + 1, 0, none⟩ = false from by
    have h0 := f.heap e0 (fun q => q)
    have h1 := f.heap e1 (fun q => q)
    exact ⟨by rw [cell_of_row W _ 0 _ _ _ h0]; rfl, by rw [cell_of_row W _ 0 _ _ _ h1]; rfl, by simp [World.frozen?, h1]⟩)
  have HF1 := Lib.hid f1; have HS1 := Lib.hid hs1; have HG := Lib.hid hg; have HN := Lib.hid h.low
  have HSig := Lib.hid (goodFormP_any nv Fi w1 (h.fr0 f1) g hg)
  obtain ⟨na, nc, rfl, z⟩ := id h
  clear z h f1 hs1 e0 e1 hg
  obtain ⟨k0, k1, z1⟩ := HK.out w1 (Fr.refl _ _)
  go_enter Tryz.func41, Tryz.ntmps41
  go_wp2_with fail
  rw [← hw1]
  clear hw1
  refine HSig.out.mono ?_
  rintro e w2 ⟨rfl, f2⟩
  have HF2 := Lib.hid f2
  clear f2 k0 k1 z1
  cases g with
  | false =>
    obtain ⟨k0, k1, z1⟩ := HK.out w2 HF2.out
    go_wp2
    refine bodyPost_ret (v := .tuple #[.agg #[.slice none 0 0], .bool false]) (by simp [results, Tryz.results41, go_sem, k1]) rfl ?_
    exact ⟨_, rfl, NodesS.nil _ _, (HF1.out.trans HF2.out (fun _ _ q => q)).setCell _ _ (fun h => by have h : w.heap.size + 1 < w.heap.size := h; omega)⟩
  | true =>
    obtain ⟨Fs, rfl⟩ := goodI_nat (HG.out.1 rfl)
    have hgd := HG.out.1 rfl
    obtain ⟨q1, q2, q3, q4, q5, _⟩ := goodI_parts hgd
    have hlt : Fs.length - 1 < Fs.length := by omega
    obtain ⟨y, hy⟩ : ∃ y, Fs[Fs.length - 1]? = some y := ⟨_, List.getElem?_eq_getElem hlt⟩
    have hyv : nodeV Fs (Fs.length - 1) = y := by
      have := node_at hlt
      rw [hy] at this
      exact (Option.some.inj this).symm
    have hyo := q4.opts _ _ hy
    obtain ⟨k0, k1, z1⟩ := HK.out w2 HF2.out
    go_wp2_with fail
    refine (newPool_any w2).mono ?_
    rintro e w3 ⟨rfl, hp3, hmaps, f3⟩
    obtain ⟨pb, hpb⟩ : ∃ pb, pb = w2.heap.size + 5 := ⟨_, rfl⟩
    obtain ⟨ob, hob⟩ : ∃ ob, ob = w2.heap.size + 1 := ⟨_, rfl⟩
    have hmap := hmaps 1 (by omega)
    rw [← hob] at hmap hp3
    rw [← hpb] at hp3 ⊢
    obtain ⟨mc, hmc⟩ : ∃ v, v = Value.map (some (w2.heap.size + 2)) := ⟨_, rfl⟩
    obtain ⟨ms, hms⟩ : ∃ v, v = Value.map (some (w2.heap.size + 3)) := ⟨_, rfl⟩
    obtain ⟨mn, hmn⟩ : ∃ v, v = Value.map (some (w2.heap.size + 4)) := ⟨_, rfl⟩
    rw [← hmc, ← hms, ← hmn] at hp3
    clear hmaps hmc hms hmn
    have hobl : ob < w3.heap.size := (Array.getElem?_eq_some_iff.1 hmap).1
    have hf3 := (HF1.out.trans HF2.out (fun _ _ q => q)).trans f3 (fun _ _ q => q)
    have HMp := Lib.hid (show MapF encP encB w3 ob (fun _ => none) from ⟨#[], 0, hmap, by simp, by simp, by simp⟩)
    have hld := loaded_any pb (.slice na (i2 Fs).length nc) [] Fs [] (.map (some ob)) mc ms mn w3 hp3.low (fun q hq => hq.2) (fun q hq => hq.2) PoolOK.nil (HN.out.ofI.fr0 hf3) (fun k hk hm => by
        have h1 := HF1.out.size
        have h2 := HF2.out.size
        have h3 : k < w.heap.size := hk
        rcases hm.1 with e | e <;> omega) q4.opts (by simp; omega) (fun y hy => by have := q3 y hy; omega) y hy (Fs.length - 1) (by rw [q5]; exact List.getElem?_range hlt)
    rw [q5] at hld
    dsimp only at hld
    rw [atAll_range' (fun x hx => by have := hyo.1 x hx; omega), atAll_range' (fun x hx => by have := hyo.2 x hx; omega)] at hld
    have HLd := Lib.hid hld
    have HF3 := Lib.hid hf3
    obtain ⟨k0, k1, z1⟩ := HK.out w3 (HF2.out.trans f3 (fun _ _ q => q))
    have HW3 := Lib.hid (show w.heap.size + 2 ≤ w2.heap.size from by have := HF2.out.size; have := HS1.out; omega)
    have HOb := Lib.hid hob; have HObl := Lib.hid hobl; have HPb := Lib.hid hpb; have HF23 := Lib.hid f3
    have HGd := Lib.hid hgd; have HYv := Lib.hid hyv; have HYo := Lib.hid hyo; have HQ1 := Lib.hid q1; have HQ2 := Lib.hid q2; have HQ4 := Lib.hid q4
    have HY3 := Lib.hid (q3 y (List.mem_of_getElem? hy))
    clear hmap hob hobl hpb hp3 f3 hf3 hld q1 q2 q3 q4 q5 hlt hy hyv hyo hgd HSig HG
    go_wp2_with fail
    refine HLd.out.mono ?_
    rintro e w4 ⟨r1, r2, M, I, rfl, hr1, hr2, hP4, hM, hI, hz1, hz2, f4⟩
    have HR1 := Lib.hid hr1; have HR2 := Lib.hid hr2; have HP4 := Lib.hid hP4; have HM := Lib.hid hM; have HI := Lib.hid hI; have HZ1 := Lib.hid hz1; have HZ2 := Lib.hid hz2; have F4 := Lib.hid f4
    clear hr1 hr2 hP4 hM hI hz1 hz2 f4 k0 k1 z1 HLd
    go_wp2_with fail
    obtain ⟨C, hC⟩ : ∃ C, C = codesOf Fs := ⟨_, rfl⟩
    have HB := Lib.hid (show BookC Fs C from by rw [hC]; exact HQ4.out.book)
    have HC := Lib.hid hC
    clear hC
    have hMo : ¬ M ob := fun h => by
      have h1 := HOb.out
      have h0 := HPb.out
      have h2 := HObl.out
      rcases (HM.out _ h).1 with h | h
      · rcases h.1 with e | e <;> omega
      · omega
    have hIo : ¬ I ob := fun h => by
      have h2 := HObl.out
      rcases (HI.out _ h).1 with h | h
      · exact h.1
      · omega
    have hmp4 := HMp.out.fr F4.out (fun h => by
      have h1 := HOb.out
      have h0 := HPb.out
      rcases h.1 with e | e <;> omega)
    have hl4 : w4.heap.size ≤ 9223372036854775807 ∨ True := .inr trivial
    have hs1 := HR1.out.slice (by have := HY3.out; omega)
    have hs2 := HR2.out.slice (by have := HY3.out; omega)
    have HD1 := Lib.hid (dominated_any HB.out pb ob mc ms mn hMo hIo true (gL C) rfl _ y.1 _ w4 HP4.out hmp4 (OrdF.none C) hs1 (fun _ q hq e => by cases hq; have e : r1 = ob := e; have h1 := HObl.out; have h2 := HZ1.out; omega) (fun x hx => by have := HYo.out.1 x hx; omega) (by have := HY3.out; omega))
    have HS1r := Lib.hid hs1; have HS2r := Lib.hid hs2
    have HMo := Lib.hid hMo; have HIo := Lib.hid hIo
    clear hMo hIo hmp4 hl4 hs1 hs2
    go_wp2_with fail
    refine HD1.out.mono ?_
    rintro e w5 ⟨v5, rfl, hn5, f', hmp5, ho5, f5⟩
    have HN5 := Lib.hid hn5; have HMp5 := Lib.hid hmp5; have HO5 := Lib.hid ho5; have F5 := Lib.hid f5
    clear hn5 hmp5 ho5 f5 HD1
    have hs15 := HS1r.out.fr F5.out (fun _ q hq e => by cases hq; have e : r1 = ob := e; have h1 := HObl.out; have h2 := HZ1.out; omega)
    have hs25 := HS2r.out.fr F5.out (fun _ q hq e => by cases hq; have e : r2 = ob := e; have h1 := HObl.out; have h2 := HZ2.out; omega)
    have HW1 := Lib.hid (without_any _ v5 y.1 (domB (gL C) y.1) w5 hs15 HN5.out.nats (domB_up _ _) (by have := HY3.out; omega))
    have HS25 := Lib.hid hs25
    clear hs15 hs25
    go_wp2_with fail
    refine HW1.out.mono ?_
    rintro e w6 ⟨v6, rfl, hn6, f6⟩
    have HN6 := Lib.hid hn6; have F6 := Lib.hid f6
    clear hn6 f6 HW1
    have hs26 := HS25.out.fr0 F6.out
    have hmp6 := HMp5.out.fr F6.out (fun q => q)
    have f46 := F5.out.trans F6.out (fun _ _ q => q.elim)
    have hp6 := HP4.out.fr f46 (fun q hq e => HMo.out (e ▸ hq)) (fun q hq e => HIo.out (e ▸ hq))
    have HD2 := Lib.hid (dominated_any HB.out pb ob mc ms mn HMo.out HIo.out false (gR C) rfl _ y.2 _ w6 hp6 hmp6 HO5.out hs26 (fun _ q hq e => by cases hq; have e : r2 = ob := e; have h1 := HObl.out; have h2 := HZ2.out; omega) (fun x hx => by have := HYo.out.2 x hx; omega) (by have := HY3.out; omega))
    have HS26 := Lib.hid hs26; have F46 := Lib.hid f46
    clear hs26 hmp6 f46 hp6
    go_wp2_with fail
    refine HD2.out.mono ?_
    rintro e w7 ⟨v7, rfl, hn7, f'', hmp7, ho7, f7⟩
    have HN7 := Lib.hid hn7; have F7 := Lib.hid f7
    clear hn7 hmp7 ho7 f7 HD2
    have hs27 := HS26.out.fr F7.out (fun _ q hq e => by cases hq; have e : r2 = ob := e; have h1 := HObl.out; have h2 := HZ2.out; omega)
    have HW2 := Lib.hid (without_any _ v7 y.2 (domB (gR C) y.2) w7 hs27 HN7.out.nats (domB_up _ _) (by have := HY3.out; omega))
    clear hs27
    go_wp2_with fail
    refine HW2.out.mono ?_
    rintro e w8 ⟨v8, rfl, hn8, f8⟩
    have HN8 := Lib.hid hn8; have F8 := Lib.hid f8
    clear hn8 f8 HW2
    obtain ⟨b6, c6, rfl⟩ := HN6.out.shape
    obtain ⟨b8, c8, rfl⟩ := HN8.out.shape
    have f68 := F7.out.trans F8.out (fun _ _ q => q.elim)
    have hn68 := HN6.out.fr f68 (fun q hq e => by have h1 := (HN6.out.own.lt q hq).1; have h2 := HObl.out; have h3 := F4.out.size; have h4 := F5.out.size; omega)
    have f48 := F46.out.trans f68 (fun _ _ q => q)
    have hp8 := HP4.out.fr f48 (fun q hq e => HMo.out (e ▸ hq)) (fun q hq e => HIo.out (e ▸ hq))
    have hdl := dropP_lt HGd.out
    rw [HYv.out, ← HC.out] at hdl
    have hdf : dropF Fs = formB (poolPut Fs (bornsF Fs) (dropP C y).1 (dropP C y).2).1 (poolPut Fs (bornsF Fs) (dropP C y).1 (dropP C y).2).2.1 (poolPut Fs (bornsF Fs) (dropP C y).1 (dropP C y).2).2.2 := by
      unfold dropF
      rw [HYv.out, ← HC.out]
    have hfit := dropF_fits HGd.out
    obtain ⟨l, hl⟩ : ∃ l, l = withoutL y.1 (domB (gL C) y.1) := ⟨_, rfl⟩
    obtain ⟨r, hr⟩ : ∃ r, r = withoutL y.2 (domB (gR C) y.2) := ⟨_, rfl⟩
    have hdp : dropP C y = (l, r) := by unfold dropP; rw [hl, hr]
    rw [hdp] at hdl hdf
    dsimp only at hdl hdf
    rw [hdf] at hfit
    have hn8 := HN8.out
    rw [← hl] at hn68 ⊢
    rw [← hr] at hn8 ⊢
    obtain ⟨x1, x2, x3, x4⟩ := hdl
    have hle := (bookOK_of HQ4.out).lt Fs.length (Nat.le_refl _)
    have hpo := poolPut_ok HQ4.out (L := l) (R := r) (fun x hx => by have := x1 x hx; omega) (fun x hx => by have := x2 x hx; omega)
    obtain ⟨p1, p2, _⟩ := poolPut_lt Fs (bornsF Fs) l r
    have HNode := Lib.hid (node_any pb Fs (bornsF Fs) l r (.map (some ob)) mc ms mn b6 0 c6 b8 0 c8 w8 hp8 hn68.nats hn8.nats (fun x hx => by have := x1 x hx; omega) (fun x hx => by have := x2 x hx; omega) (by omega) (by omega) (by have := HQ2.out; omega) (fun x hx => by have := hle x hx; have := HQ2.out; omega))
    obtain ⟨⟨V', BV', r0⟩, hput⟩ : ∃ t, poolPut Fs (bornsF Fs) l r = t := ⟨_, rfl⟩
    rw [hput] at HNode hfit hdf hpo p1 p2
    dsimp only at HNode hfit hdf hpo p1 p2
    have HPo := Lib.hid hpo.1; have HP1 := Lib.hid p1; have HP2 := Lib.hid p2; have HFit := Lib.hid hfit; have HDf := Lib.hid hdf; have F48 := Lib.hid f48
    clear hput hpo p1 p2 hle hn8 hn68 hp8 f48 f68 x1 x2 x3 x4 hdp hl hr hfit hdf
    go_wp2_with fail
    refine HNode.out.mono ?_
    rintro e w9 ⟨rfl, M9, I9, hp9, _, _, f9⟩
    have HForm := Lib.hid (pform_any pb r0 V' BV' (.map (some ob)) mc ms mn w9 hp9 HPo.out HP1.out (by have := HP2.out; have := HQ2.out; omega))
    have F9 := Lib.hid f9
    clear f9 hp9 HNode
    go_wp2_with fail
    refine HForm.out.mono ?_
    rintro e w10 ⟨nv, ok, FN, rfl, hres, hns, f10⟩
    obtain ⟨h1, h2⟩ := FormRes.is HPo.out HP1.out hres
    rw [HFit.out] at h1
    subst h1
    rw [if_pos rfl] at h2
    subst h2
    have hnl := hns.nodeL
    obtain ⟨an, cn, rfl, z⟩ := id hnl
    clear z hnl hres
    have f3w : Fr NoM w1 w3 := HF2.out.trans HF23.out (fun _ _ q => q)
    have z0 := HW3.out
    have z3 := HF23.out.size
    have z4 := F4.out.size
    have z8 := F48.out.size
    have z9 := F9.out.size
    have z1 := HF1.out.size
    have z2 := HF2.out.size
    have f14 : Fr NoM w1 w4 := f3w.trans F4.out (fun q hq h => by
      have h1 := HPb.out
      rcases h.1 with e | e <;> omega)
    have f18 : Fr NoM w1 w8 := f14.trans F48.out (fun q hq e => by have h1 := HOb.out; omega)
    have f19 : Fr NoM w1 w9 := f18.trans F9.out (fun q hq h => by
      have h1 := HPb.out
      rcases (HM.out q h).1 with h | h
      · rcases h.1 with e | e <;> omega
      · omega)
    have f110 : Fr NoM w1 w10 := f19.trans f10 (fun _ _ q => q)
    obtain ⟨k0, k1, z1'⟩ := HK.out w10 f110
    have HF := Lib.hid f110; have HNs := Lib.hid hns
    have HZ := Lib.hid (show w.heap.size + 2 ≤ w9.heap.size from by omega)
    clear f3w f14 f18 f19 f110 f10 hns z0 z3 z4 z8 z9 z1 z2
    go_wp2
    refine bodyPost_ret (v := .tuple #[.agg #[.slice an (formB V' BV' r0).length cn], .bool true]) (by simp [results, Tryz.results41, go_sem, k1]) rfl ?_
    refine ⟨_, rfl, ?_, (HF1.out.trans HF.out (fun _ _ q => q)).setCell _ _ (fun h => by have h : w.heap.size + 1 < w.heap.size := h; omega)⟩
    rw [natF_i2, HDf.out]
    exact (HNs.out.fr (Fr.set w10 ⟨w.heap.size + 1, 0, none⟩ (.slice an (formB V' BV' r0).length cn)) (fun q hq _ e => by have e : q = w.heap.size + 1 := e; have := HZ.out; omega)).base (by have := HZ.out; omega)
end Go.Proofs.YtioiljboihehcaaGreatDoor
