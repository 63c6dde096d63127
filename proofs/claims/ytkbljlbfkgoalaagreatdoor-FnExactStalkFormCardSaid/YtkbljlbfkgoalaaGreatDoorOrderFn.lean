/- The walks of the two function literals in the program's order. -/
import Derived.Test.YtkbljlbfkgoalaaGreatDoorOrderCmp
import Derived.Deep.RegionHeld3
namespace Go.Proofs.YtkbljlbfkgoalaaGreatDoor
set_option linter.unusedVariables false
set_option linter.unusedSimpArgs false
open Go.RowKit

set_option maxHeartbeats 4000000 in
theorem ord1_any (B pb a b : Nat) (BV : List Nat) (bv : Value) (W : World) (h0 : W.cell? ⟨B, 0, none⟩ = some (.pointer (some ⟨pb, 0, none⟩))) (h1 : W.cell? ⟨pb, 2, none⟩ = some bv) (hbv : Nats W bv BV) (ha : a < BV.length) (hb : b < BV.length) :
    Calls Tryz.prog 164 #[.int .i64 (a : Int), .int .i64 (b : Int), .pointer (some ⟨B, 0, none⟩)] W fun e w' => e = .returned (.int .i64 (Lib.compareInt (BV[a] : Int) (BV[b] : Int))) ∧ ∃ q, w' = W.drewN q := by
  obtain ⟨va, vc, rfl, hc, hcm, hcell⟩ := hbv
  obtain ⟨b1, o1, e1, c1⟩ := hcell a BV[a] (List.getElem?_eq_getElem _)
  obtain ⟨b2, o2, e2, c2⟩ := hcell b BV[b] (List.getElem?_eq_getElem _)
  have ix1 := ixInts va BV.length vc a b1 o1 ha e1
  have ix2 := ixInts va BV.length vc b b2 o2 hb e2
  have c1 : W.cell? ⟨b1, o1 + a, none⟩ = some (.int .i64 (BV[a] : Int)) := c1
  have c2 : W.cell? ⟨b2, o2 + b, none⟩ = some (.int .i64 (BV[b] : Int)) := c2
  obtain ⟨r, hr⟩ : ∃ r, r = Lib.compareInt (BV[a] : Int) (BV[b] : Int) := ⟨_, rfl⟩
  have hcall : ∀ n, Calls Tryz.prog 128 #[encN BV[a], encN BV[b]] (W.drewN n) fun e w' => e = .returned (.int .i64 r) ∧ ∃ q, w' = (W.drewN n).drewN q := fun n => by rw [hr]; exact (cmpI_any _ _ _).mono fun _ _ h => ⟨h.1, 0, h.2⟩
  have HCall := Lib.hid hcall
  rw [← hr]
  clear hcell e1 e2 hcall hr
  go_enter Tryz.func164, Tryz.ntmps164
  go_wp2
  go_quiet ((go_at_call 128; with_reducible exact Calls.quiet_of (HCall.out _)))
  go_wp2
  go_ret
  exact ⟨rfl, _, rfl⟩

/-- Worlds that hold more blocks, and have drawn. -/
def Gr (w w' : World) : Prop := ∃ (q : Nat) (os : Array Obj), w' = Go.Sort.grow (w.drewN q) os
theorem drewN_add (w : World) (a b : Nat) : (w.drewN a).drewN b = w.drewN (a + b) := World.drewN_drewN w a b
theorem drewN_grow (w : World) (os : Array Obj) (n : Nat) : (Go.Sort.grow w os).drewN n = Go.Sort.grow (w.drewN n) os := rfl
theorem Gr.refl (w : World) : Gr w w := ⟨0, #[], by simp [World.drewN]⟩
theorem Gr.drew {w w' : World} (h : Gr w w') : Gr w w'.drew := by
  obtain ⟨q, os, rfl⟩ := h
  exact ⟨q + 1, os, by rw [Go.Sort.drew_grow]; congr 1⟩
theorem Gr.drewN {w w' : World} (h : Gr w w') (n : Nat) : Gr w (w'.drewN n) := by
  obtain ⟨q, os, rfl⟩ := h
  exact ⟨q + n, os, by rw [drewN_grow, drewN_add]⟩
theorem Gr.alloc {w w' : World} (h : Gr w w') (o : Obj) : Gr w (w'.alloc o) := by
  obtain ⟨q, os, rfl⟩ := h
  exact ⟨q, os ++ #[o], by rw [Go.Sort.alloc_eq_grow, Go.Sort.grow_grow]⟩
theorem two_cells (w : World) (a b : Value) (e : TypeId) : (w.alloc (.cells #[a, b] e)).cell? ⟨w.heap.size, 0, none⟩ = some a ∧ (w.alloc (.cells #[a, b] e)).cell? ⟨w.heap.size, 1, none⟩ = some b := by
  have h := heap_alloc_new w (.cells #[a, b] e)
  exact ⟨by rw [cell_of_row _ _ 0 _ _ _ h]; rfl, by rw [cell_of_row _ _ 1 _ _ _ h]; rfl⟩
theorem three_cells (w : World) (a b c : Value) (e : TypeId) : (w.alloc (.cells #[a, b, c] e)).cell? ⟨w.heap.size, 1, none⟩ = some b ∧ (w.alloc (.cells #[a, b, c] e)).cell? ⟨w.heap.size, 2, none⟩ = some c := by
  have h := heap_alloc_new w (.cells #[a, b, c] e)
  exact ⟨by rw [cell_of_row _ _ 1 _ _ _ h]; rfl, by rw [cell_of_row _ _ 2 _ _ _ h]; rfl⟩

set_option maxRecDepth 4000 in
set_option maxHeartbeats 4000000 in
theorem ord2_any (i j : Nat) (l1 r1 l2 r2 : Value) (L1 R1 L2 R2 : List Nat) (W : World) (h1 : Nats W l1 L1) (h2 : Nats W r1 R1) (h3 : Nats W l2 L2) (h4 : Nats W r2 R2) :
    Calls Tryz.prog 167 #[.agg #[encN i, l1, r1], .agg #[encN j, l2, r2]] W fun e w' => e = .returned (.int .i64 (orI (cmpL L1 L2) (cmpL R1 R2))) ∧ Gr W w' := by
  have H1 := Lib.hid (fun (w : World) (f : Fr NoM W w) => h1.fr0 f); have H2 := Lib.hid (fun (w : World) (f : Fr NoM W w) => h2.fr0 f)
  have H3 := Lib.hid (fun (w : World) (f : Fr NoM W w) => h3.fr0 f); have H4 := Lib.hid (fun (w : World) (f : Fr NoM W w) => h4.fr0 f)
  obtain ⟨la, lc, rfl, z1⟩ := h1
  obtain ⟨ra, rc, rfl, z2⟩ := h2
  obtain ⟨ua, uc, rfl, z3⟩ := h3
  obtain ⟨va, vc, rfl, z4⟩ := h4
  obtain ⟨c1, hc1⟩ : ∃ c, c = cmpL L1 L2 := ⟨_, rfl⟩
  obtain ⟨c2, hc2⟩ : ∃ c, c = cmpL R1 R2 := ⟨_, rfl⟩
  rw [← hc1, ← hc2]
  have HC1 := Lib.hid hc1; have HC2 := Lib.hid hc2
  clear hc1 hc2 z1 z2 z3 z4
  go_enter Tryz.func167, Tryz.ntmps167
  go_wp2
  obtain ⟨w2, hw2⟩ : ∃ w2, w2 = ((W.alloc (.cells #[encN i, .slice la L1.length lc, .slice ra R1.length rc] 174)).alloc (.cells #[encN j, .slice ua L2.length uc, .slice va R2.length vc] 174)) := ⟨_, rfl⟩
  have hg : Gr W w2 := by rw [hw2]; exact ((Gr.refl W).alloc _).alloc _
  have hf : Fr NoM W w2 := by rw [hw2]; exact ((Fr.refl NoM W).alloc _).alloc _
  have hcell : w2.cell? ⟨W.heap.size, 1, none⟩ = some (.slice la L1.length lc) ∧ w2.cell? ⟨W.heap.size, 2, none⟩ = some (.slice ra R1.length rc) ∧ w2.cell? ⟨W.heap.size + 1, 1, none⟩ = some (.slice ua L2.length uc) ∧ w2.cell? ⟨W.heap.size + 1, 2, none⟩ = some (.slice va R2.length vc) := by
    have k1 := three_cells W (encN i) (.slice la L1.length lc) (.slice ra R1.length rc) 174
    have k2 := three_cells (W.alloc (.cells #[encN i, .slice la L1.length lc, .slice ra R1.length rc] 174)) (encN j) (.slice ua L2.length uc) (.slice va R2.length vc) 174
    rw [World.size_alloc] at k2
    rw [hw2]
    have hf := (Fr.refl NoM (W.alloc (.cells #[encN i, .slice la L1.length lc, .slice ra R1.length rc] 174))).alloc (.cells #[encN j, .slice ua L2.length uc, .slice va R2.length vc] 174)
    exact ⟨hf.cell k1.1 (fun q => q), hf.cell k1.2 (fun q => q), k2.1, k2.2⟩
  rw [← hw2]
  have HS := Lib.hid (fun (w : World) (f : Fr NoM w2 w) => show w.cell? ⟨W.heap.size, 1, none⟩ = some (.slice la L1.length lc) ∧ w.cell? ⟨W.heap.size, 2, none⟩ = some (.slice ra R1.length rc) ∧ w.cell? ⟨W.heap.size + 1, 1, none⟩ = some (.slice ua L2.length uc) ∧ w.cell? ⟨W.heap.size + 1, 2, none⟩ = some (.slice va R2.length vc) from
    ⟨f.cell hcell.1 (fun q => q), f.cell hcell.2.1 (fun q => q), f.cell hcell.2.2.1 (fun q => q), f.cell hcell.2.2.2 (fun q => q)⟩)
  have H1 := Lib.hid (fun w (f : Fr NoM w2 w) => H1.out w (hf.trans f (fun _ _ q => q))); have H2 := Lib.hid (fun w (f : Fr NoM w2 w) => H2.out w (hf.trans f (fun _ _ q => q)))
  have H3 := Lib.hid (fun w (f : Fr NoM w2 w) => H3.out w (hf.trans f (fun _ _ q => q))); have H4 := Lib.hid (fun w (f : Fr NoM w2 w) => H4.out w (hf.trans f (fun _ _ q => q)))
  clear hf hcell hw2
  have HG := Lib.hid hg
  clear hg
  have F0 : Fr NoM w2 w2.drew := (Fr.refl NoM w2).drew
  go_region_held3 (fun (w : World) => w.cell? ⟨W.heap.size, 1, none⟩ = some (.slice la L1.length lc) ∧ w.cell? ⟨W.heap.size, 2, none⟩ = some (.slice ra R1.length rc) ∧ w.cell? ⟨W.heap.size + 1, 1, none⟩ = some (.slice ua L2.length uc) ∧ w.cell? ⟨W.heap.size + 1, 2, none⟩ = some (.slice va R2.length vc))
    (first | exact HS.out _ (by assumption) | exact HS.out _ (Fr.alloc (by assumption) _))
    (first
      | (go_at_call 129; (with_reducible refine (cmpS_any (.slice la L1.length lc) (.slice ua L2.length uc) L1 L2 _ (H1.out _ (by assumption)) (H3.out _ (by assumption))).mono ?_); rw [← HC1.out]; rintro e w5 ⟨rfl, rfl⟩)
      | (go_at_call 129; (with_reducible refine (cmpS_any (.slice ra R1.length rc) (.slice va R2.length vc) R1 R2 _ (H2.out _ (by assumption)) (H4.out _ (by assumption))).mono ?_); rw [← HC2.out]; rintro e w6 ⟨rfl, rfl⟩)
      | (go_at_call 127; (refine (or_any c1 c2 w2.heap.size _ (two_cells w2.drew _ _ _).1 (two_cells w2.drew _ _ _).2).mono ?_); rintro e w7 ⟨rfl, rfl⟩)
      | fail)
  all_goals
    go_wp2
    go_ret
    exact ⟨rfl, ((HG.out.drew).alloc _)⟩
end Go.Proofs.YtkbljlbfkgoalaaGreatDoor
