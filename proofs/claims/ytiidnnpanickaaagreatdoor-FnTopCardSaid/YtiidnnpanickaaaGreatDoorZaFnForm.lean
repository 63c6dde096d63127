import Derived.Test.YtiidnnpanickaaaGreatDoorZaFnKit
import Derived.Test.YtiidnnpanickaaaGreatDoorZaSumFn
/- What the claim of FnTopCard needs of: FnForm. -/
namespace Go.Proofs.YtiidnnpanickaaaGreatDoor
set_option linter.unusedVariables false
set_option linter.unusedSimpArgs false
open Go.RowKit
def DrawXPost (w : World) (e : Ending) (w' : World) : Prop := ∃ (v : Value) (Fi : List (List Int × List Int)), e = .returned (.agg #[v]) ∧ NodeL (fun b => w.heap.size ≤ b) encI w' v Fi ∧ Fr NoM w w' ∧ (Fi.length ≤ 25 ∨ ∃ (Fm : List PL) (E : List Nat), Fi = i2 Fm ∧ DF (nineC ++ E) Fm ∧ E.length ≤ 18)
set_option maxRecDepth 8000 in
set_option maxHeartbeats 8000000 in
theorem drawTextX_any (cv : Value) (L : List Int) (w : World) (h : CodeOK w cv L) : Calls Tryz.prog 80 #[cv] w fun e w' => DrawXPost w e w' := by
  obtain ⟨w1, hw1⟩ : ∃ w1, w1 = w.alloc (.cells #[.slice none 0 0] 31) := ⟨_, rfl⟩
  have f1 : Fr NoM w w1 := by rw [hw1]; exact (Fr.refl NoM w).alloc _
  have hs1 : w1.heap.size = w.heap.size + 1 := by rw [hw1]; simp
  have e1 : w1.heap[w.heap.size]? = some (.cells #[.slice none 0 0] 31 (0, 0)) := by rw [hw1]; exact heap_alloc_new w _
  obtain ⟨w2, hw2⟩ : ∃ w2, w2 = w1.alloc (.cells #[cv, .int .i64 0, .int .u64 0] 109) := ⟨_, rfl⟩
  have f2 : Fr NoM w1 w2 := by rw [hw2]; exact (Fr.refl NoM w1).alloc _
  have hc2 : CurS w2 w1.heap.size 0 := by rw [hw2]; exact CurS.start (h.fr0 f1)
  have hs2 : w2.heap.size = w.heap.size + 2 := by rw [hw2]; simp [hs1]
  obtain ⟨cb, hcb⟩ : ∃ cb, cb = w.heap.size + 1 := ⟨_, rfl⟩
  rw [hs1, ← hcb] at hc2
  have HK := Lib.hid (fun (W : World) (f : Fr (fun q => q = cb) w2 W) => (by
    have h4 := f.heap (f2.heap e1 (fun q => q)) (fun e => by omega)
    exact ⟨by rw [cell_of_row W _ 0 _ _ _ h4]; rfl, by simp [World.frozen?, h4]⟩ : W.cell? ⟨w.heap.size, 0, none⟩ = some (.slice none 0 0) ∧ W.frozen? ⟨w.heap.size, 0, none⟩ = false))
  have HF := Lib.hid (fun (W : World) (f : Fr (fun q => q = cb) w2 W) => ((f1.trans f2 (fun _ _ q => q)).trans f (fun q hq e => by omega) : Fr NoM w W))
  have HOne := Lib.hid (one_any cb 0 8 w2 hc2 (by omega) ⟨by omega, by omega⟩)
  have HS1 := Lib.hid hs1; have HCb := Lib.hid hcb; have HS2 := Lib.hid hs2
  obtain ⟨ca, cc, rfl, zz⟩ := id h.1
  clear zz h f1 hs1 e1 f2 hc2 hs2
  go_enter Tryz.func80, Tryz.ntmps80
  go_upto_region 2 with fail
  rw [← hw1, ← hw2, ← hcb]
  clear hw1 hw2 hcb
  go_wp2_with fail
  (with_reducible refine HOne.out.mono ?_)
  rintro e w3 ⟨b, rfl, c3, f3⟩
  cases b with
  | false =>
    have hany := anyForm_any cb (0 + 2) 4 w3 c3 (by omega) (by omega)
    rw [show ((4 : Nat) : Int) = 4 from rfl] at hany
    have HAny := Lib.hid hany
    have F3 := Lib.hid f3
    clear c3 f3 HOne hany
    go_wp2_with fail
    (with_reducible refine HAny.out.mono ?_)
    rintro e w5 ⟨v, Fi, rfl, n5, _, f5, hl5⟩
    have F5 := Lib.hid (F3.out.trans f5 (fun _ _ q => q))
    obtain ⟨k1, k2⟩ := HK.out w5 F5.out
    have HN := Lib.hid n5; have HSz := Lib.hid (show w.heap.size < w3.heap.size from by have h3 := F3.out.size; have h4 := HS2.out; omega)
    obtain ⟨va, vc, rfl, zz⟩ := id n5
    clear zz n5 f5 HAny
    go_wp2
    refine bodyPost_ret (v := .agg #[.slice va Fi.length vc]) (by simp [results, Tryz.results80, go_sem, k1]) rfl ?_
    refine ⟨_, Fi, rfl, ?_, (HF.out w5 F5.out).setCell _ _ (fun h => by have h : w.heap.size < w.heap.size := h; omega), .inl (by omega)⟩
    exact (HN.out.fr (Fr.set w5 ⟨w.heap.size, 0, none⟩ _) (fun q hq e => by have e : q = w.heap.size := e; have := HSz.out; omega)).mono (fun q hq => by have := HSz.out; omega)
  | true =>
    have hf5 := formD_any cb (0 + 2) 5 w3 c3 (by omega) (by omega)
    rw [show ((5 : Nat) : Int) = 5 from rfl] at hf5
    have HF5 := Lib.hid hf5
    have F3 := Lib.hid f3
    have HCl := Lib.hid (show cb < w3.heap.size from c3.lt)
    clear c3 f3 HOne hf5
    go_wp2_with fail
    (with_reducible refine HF5.out.mono ?_)
    rintro e w4 ⟨v4, F4, U4, rfl, n4, d4, u4, c4, f4⟩
    have hf6 := formD_any cb (0 + 2 + 12 * 5 + 4) 6 w4 c4 (by omega) (by omega)
    rw [show ((6 : Nat) : Int) = 6 from rfl] at hf6
    have HF6 := Lib.hid hf6
    obtain ⟨a4, x4, rfl⟩ := n4.val
    have HN4 := Lib.hid n4; have HD4 := Lib.hid d4; have HU4 := Lib.hid u4; have FF4 := Lib.hid f4
    clear n4 d4 u4 c4 f4 HF5 hf6
    go_wp2_with fail
    (with_reducible refine HF6.out.mono ?_)
    rintro e w5 ⟨v5, F5, U5, rfl, n5, d5, u5, c5, f5⟩
    obtain ⟨a5, x5, rfl⟩ := n5.val
    obtain ⟨W5, hW5⟩ : ∃ W5, W5 = w5.alloc (.cells #[.slice a4 F4.length x4, .slice a5 F5.length x5] 31) := ⟨_, rfl⟩
    have g5 : Fr NoM w5 W5 := by rw [hW5]; exact (Fr.refl NoM w5).alloc _
    have hs5 : W5.heap.size = w5.heap.size + 1 := by rw [hW5]; simp
    have hnn4 := (HN4.out.nodeL.mono (R' := fun q => w3.heap.size ≤ q) (fun q hq => hq.1)).fr f5 (fun q hq e => by have e : q = cb := e; have := HCl.out; omega)
    have hrow := forms2 (R := fun q => w3.heap.size ≤ q) (a := w5.heap.size) rfl hnn4 (n5.nodeL.mono (fun q hq => by have := FF4.out.size; omega))
    rw [← hW5] at hrow
    have hf7 := formD_any cb (0 + 2 + 12 * 5 + 4 + 12 * 6 + 4) 6 W5 (c5.fr0 g5) (by omega) (by omega)
    rw [show ((6 : Nat) : Int) = 6 from rfl] at hf7
    have HF7 := Lib.hid hf7; have HRow := Lib.hid hrow; have HD5 := Lib.hid d5; have HU5 := Lib.hid u5
    have FF5 := Lib.hid ((FF4.out.trans f5 (fun _ _ q => q)).trans g5 (fun _ _ q => q.elim)); have HS5 := Lib.hid hs5
    have HWeq := Lib.hid hW5
    have HZ5 := Lib.hid (show w3.heap.size ≤ w5.heap.size from by have h1 := FF4.out.size; have h2 := f5.size; omega)
    clear n5 d5 u5 c5 f5 g5 hs5 hnn4 hrow hf7 hW5 HF6
    go_wp2_with fail
    rw [← HWeq.out]
    (with_reducible refine HF7.out.mono ?_)
    rintro e w6 ⟨v6, F6, U6, rfl, n6, d6, u6, c6, f6⟩
    obtain ⟨a6, x6, rfl⟩ := n6.val
    obtain ⟨W6, hW6⟩ : ∃ W6, W6 = w6.alloc (.cells #[.slice a6 F6.length x6] 31) := ⟨_, rfl⟩
    have g6 : Fr NoM w6 W6 := by rw [hW6]; exact (Fr.refl NoM w6).alloc _
    have hL : FormsL (fun q => w3.heap.size ≤ q) W6 (.slice (some ⟨w5.heap.size, 0, none⟩) 2 2) [F4, F5] := ((HRow.out.fr f6 (fun q hq e => by have e2 := own4 hq; have e : q = cb := e; have := HCl.out; have := HZ5.out; omega) (fun q hq e => by have e : q = cb := e; have := HCl.out; omega))).fr0 g6
    have hR : FormsL (fun q => w3.heap.size ≤ q) W6 (.slice (some ⟨w6.heap.size, 0, none⟩) 1 1) [F6] := by
      have h := forms1 (R := fun q => w3.heap.size ≤ q) (a := w6.heap.size) rfl (n6.nodeL.mono (fun q hq => by have := HS5.out; have := HZ5.out; omega))
      rw [← hW6] at h
      exact h
    have HMk := Lib.hid (make_any (U4 ++ U5 ++ U6) _ _ [F4, F5] [F6] W6 hL hR (fun G hG => by
      rcases List.mem_cons.1 hG with e | e
      · rw [e]; exact HD4.out.mono (fun x hx => List.mem_append_left _ (List.mem_append_left _ hx))
      · rw [List.mem_singleton.1 e]; exact HD5.out.mono (fun x hx => List.mem_append_left _ (List.mem_append_right _ hx))) (fun G hG => by rw [List.mem_singleton.1 hG]; exact d6.mono (fun x hx => List.mem_append_right _ hx)) (by have h1 := HU4.out.len; have h2 := HU5.out.len; have h3 := u6.len; simp only [List.length_append]; omega) (by simp) (by simp))
    have FF6 := Lib.hid ((FF5.out.trans f6 (fun _ _ q => q)).trans g6 (fun _ _ q => q.elim))
    have HW6 := Lib.hid hW6; have HU6 := Lib.hid u6
    clear n6 d6 u6 c6 f6 g6 hL hR hW6 HF7
    go_wp2_with fail
    rw [← HW6.out]
    (with_reducible refine HMk.out.mono ?_)
    rintro e w7 ⟨v7, F7, rfl, n7, d7, _, f7⟩
    have HN := Lib.hid (n7.nodeL.toI)
    obtain ⟨a7, x7, rfl, zz⟩ := id n7.nodeL
    have FF7 := Lib.hid (F3.out.trans (FF6.out.trans f7 (fun _ _ q => q.elim)) (fun _ _ q => q))
    obtain ⟨k1, k2⟩ := HK.out w7 FF7.out
    have HSz := Lib.hid (show w.heap.size < W6.heap.size from by have h3 := F3.out.size; have h4 := HS2.out; have h5 := FF6.out.size; omega)
    obtain ⟨c7, hc7⟩ : ∃ c7, c7 = mkC (List.map codeF [F4, F5]) (List.map codeF [F6]) := ⟨_, rfl⟩
    rw [← hc7] at d7
    have HX := Lib.hid (show ∃ E, DF (nineC ++ E) F7 ∧ E.length ≤ 18 from by
      obtain ⟨E4, y4, z4⟩ := HU4.out
      obtain ⟨E5, y5, z5⟩ := HU5.out
      obtain ⟨E6, y6, z6⟩ := HU6.out
      refine ⟨E4 ++ (E5 ++ (E6 ++ [c7])), d7.mono fun q hq => ?_, by simp only [List.length_append, List.length_singleton]; omega⟩
      rw [y4, y5, y6] at hq
      simp only [List.mem_append] at hq ⊢
      rcases hq with (((h | h) | (h | h)) | (h | h)) | h
      · exact .inl h
      · exact .inr (.inl h)
      · exact .inl h
      · exact .inr (.inr (.inl h))
      · exact .inl h
      · exact .inr (.inr (.inr (.inl h)))
      · exact .inr (.inr (.inr (.inr h))))
    clear zz n7 f7 HMk d7 hc7
    go_wp2
    refine bodyPost_ret (v := .agg #[.slice a7 F7.length x7]) (by simp [results, Tryz.results80, go_sem, k1]) rfl ?_
    have hl : (i2 F7).length = F7.length := by simp [i2]
    refine ⟨_, i2 F7, rfl, ?_, (HF.out w7 FF7.out).setCell _ _ (fun h => by have h : w.heap.size < w.heap.size := h; omega), .inr (by obtain ⟨E, x1, x2⟩ := HX.out; exact ⟨F7, E, rfl, x1, x2⟩)⟩
    exact (HN.out.fr (Fr.set w7 ⟨w.heap.size, 0, none⟩ _) (fun q hq e => by have e : q = w.heap.size := e; have := HSz.out; omega)).mono (fun q hq => by have := HSz.out; omega)
theorem goodFormR_any {R : Nat → Prop} (nv : Value) (Fi : List (List Int × List Int)) (w : World) (h : NodeL R encI w nv Fi) :
    Calls Tryz.prog 81 #[.agg #[nv]] w fun e w' => ∃ b, e = .returned (.bool b) ∧ (b = true ↔ goodI Fi) ∧ Fr NoM w w' := by
  obtain ⟨w1, hw1⟩ : ∃ w1, w1 = w.alloc (.cells #[nv] 31) := ⟨_, rfl⟩
  have f1 : Fr NoM w w1 := by rw [hw1]; exact (Fr.refl NoM w).alloc _
  have k1 : w1.cell? ⟨w.heap.size, 0, none⟩ = some nv := by rw [hw1, cell_of_row _ _ 0 _ _ _ (heap_alloc_new w _)]; rfl
  have HG := Lib.hid (l3Good_any nv Fi w1 (h.fr0 f1)); have F1 := Lib.hid f1
  obtain ⟨a, c, rfl, zz⟩ := id h
  clear zz h f1
  go_enter Tryz.func81, Tryz.ntmps81
  go_wp2_with fail
  rw [← hw1]
  (with_reducible refine HG.out.mono ?_)
  rintro e w2 ⟨b, rfl, hb, f2⟩
  have HB := Lib.hid (And.intro hb (F1.out.trans f2 (fun _ _ q => q)))
  clear hb f2
  go_wp2_with fail
  go_ret
  exact ⟨b, rfl, HB.out.1, HB.out.2⟩
theorem vZero_any (w : World) : Calls Tryz.prog 82 #[] w fun e w' => ∃ v, e = .returned (.agg #[v]) ∧ NodeL (fun b => w.heap.size ≤ b) encI w' v (i2 [([], [])]) ∧ Fr NoM w w' := by
  obtain ⟨w2, hw2⟩ : ∃ w2, w2 = (w.alloc (.cells #[.slice (some ⟨w.heap.size + 1, 0, none⟩) 1 1] 31)).alloc (.cells #[.slice none 0 0, .slice none 0 0] 82) := ⟨_, rfl⟩
  have f2 : Fr NoM w w2 := by rw [hw2]; exact ((Fr.refl NoM w).alloc _).alloc _
  have e1 : w2.heap[w.heap.size]? = some (.cells #[.slice (some ⟨w.heap.size + 1, 0, none⟩) 1 1] 31 (0, 0)) := by rw [hw2]; exact ((Fr.refl NoM _).alloc _).heap (heap_alloc_new w _) (fun q => q)
  have e2 : w2.heap[w.heap.size + 1]? = some (.cells #[.slice none 0 0, .slice none 0 0] 82 (0, 0)) := by
    have h := heap_alloc_new (w.alloc (.cells #[.slice (some ⟨w.heap.size + 1, 0, none⟩) 1 1] 31)) (.cells #[.slice none 0 0, .slice none 0 0] 82)
    rw [World.size_alloc] at h
    rw [hw2]; exact h
  have k1 : w2.cell? ⟨w.heap.size, 0, none⟩ = some (.slice (some ⟨w.heap.size + 1, 0, none⟩) 1 1) := by rw [cell_of_row _ _ 0 _ _ _ e1]; rfl
  have HE := Lib.hid e2; have F2 := Lib.hid f2; have K1 := Lib.hid k1
  clear e1 e2 f2 k1
  go_enter Tryz.func82, Tryz.ntmps82
  go_wp2
  rw [← hw2]
  clear hw2
  have k1 := K1.out
  refine bodyPost_ret (v := .agg #[.slice (some ⟨w.heap.size + 1, 0, none⟩) 1 1]) (by simp [results, Tryz.results82, go_sem, k1]) rfl ?_
  refine ⟨_, rfl, ⟨some ⟨w.heap.size + 1, 0, none⟩, 1, rfl, by simp [i2], by decide, fun j y hy => ?_⟩, F2.out⟩
  have hj : j = 0 := by
    have h := (List.getElem?_eq_some_iff.1 hy).1
    simp [i2] at h; exact h
  subst hj
  have hy2 : y = ([], []) := by simpa [i2, ints] using hy.symm
  subst hy2
  have g := HE.out
  exact ⟨w.heap.size + 1, 0, .slice none 0 0, .slice none 0 0, rfl, by omega, by rw [cell_of_row _ _ _ _ _ _ g]; rfl, by rw [cell_of_row _ _ _ _ _ _ g]; rfl, SliceOf.nil _ _, SliceOf.nil _ _, fun h => absurd rfl h, fun h => absurd rfl h⟩
theorem CodeOK.drop {w : World} {a : Option Addr} {n c k b off : Nat} {L : List Int} (h : CodeOK w (.slice a n c) L) (ha : a = some ⟨b, off, none⟩) (hk : k ≤ n) : CodeOK w (.slice (some ⟨b, off + k, none⟩) (n - k) (c - k)) (L.drop k) := by
  obtain ⟨⟨a', c', e, h1, h2, h3⟩, h4⟩ := h
  obtain ⟨rfl, rfl, rfl⟩ := Value.slice.inj e
  refine ⟨⟨_, _, by rw [List.length_drop], by rw [List.length_drop]; omega, by omega, fun j x hx => ?_⟩, fun x hx => h4 x (List.mem_of_mem_drop hx)⟩
  rw [List.getElem?_drop] at hx
  obtain ⟨b', o', e2, hc⟩ := h3 (k + j) x hx
  rw [ha] at e2
  cases e2
  exact ⟨b, off + k, rfl, by rw [Nat.add_assoc]; exact hc⟩
theorem CodeOK.empty (w : World) (a : Option Addr) (c : Nat) (hc : c ≤ 9223372036854775807) : CodeOK w (.slice a 0 c) [] := ⟨⟨a, c, rfl, Nat.zero_le _, hc, by simp⟩, by simp⟩
theorem code_snoc {W : World} {base : Nat} {v : Value} {L : List Int} {X : Int} (h : W.ownsRow base 5 1 v (L.length + 1) (L.map encC ++ [encC X])) (hL : ∀ x ∈ L, 0 ≤ x ∧ x ≤ 255) (hX : 0 ≤ X ∧ X ≤ 255) : CodeOK W v (L ++ [X]) := by
  refine ⟨SliceOf.of_owns (enc := encC) h (by simp), fun x hx => ?_⟩
  rcases List.mem_append.1 hx with h1 | h1
  · exact hL x h1
  · rw [List.mem_singleton.1 h1]; exact hX
def CutPost (w : World) (e : Ending) (w' : World) : Prop := ∃ v' L', e = .returned v' ∧ CodeOK w' v' L' ∧ Fr NoM w w'
set_option maxRecDepth 4000 in
set_option maxHeartbeats 8000000 in
theorem vCut_any (n : Nat) (hn : 0 < n ∧ n ≤ 10) (cv : Value) (L : List Int) (w : World) (h : CodeOK w cv L) (hl : L.length ≤ 65536) :
    Calls Tryz.prog 83 #[cv, .int .i64 (n : Int)] w fun e w' => CutPost w e w' := by
  obtain ⟨a, c, rfl, hlc, hcm, hcell⟩ := id h.1
  have HC := Lib.hid h
  obtain ⟨n0, n1⟩ := hn
  by_cases h0 : L.length = 0
  · obtain rfl : L = [] := List.length_eq_zero_iff.1 h0
    simp only [List.length_nil] at h ⊢
    cases a with
    | none =>
      have HD := Lib.hid (CodeOK.empty w none c hcm)
      have HLb := Lib.hid (show (([] : List Int)).length ≤ 65536 from by simp <;> omega)
      have HDb := Lib.hid HD.out.2
      have HX := Lib.hid (show 0 ≤ (0 : Int) ∧ (0 : Int) ≤ 255 from by omega)
      clear h hcell
      go_enter Tryz.func83, Tryz.ntmps83
      go_wp2_with (at_builtin; refine wpList_appS (enc := encC) _ rfl (.tmp 11) (.tmp 14) 41 rfl w.heap.size 5 (.int .u8 0) 1 Tryz.underlying41 infoU8 rfl (.slice (some ⟨w.heap.size, 0, none⟩) 0 0) 0 [] rfl (World.ownsRow_made w #[] 0 (Nat.le_refl _) (by decide) (by simp)) (.slice none 0 c) rfl (([] : List Int)) (HD.out.1.fr0 ((Fr.refl NoM w).alloc _)) (fun _ => rfl) (by have := HLb.out; omega) (by decide) (by rw [World.size_alloc]; omega) ?_)
      intro v1 w1 h1 f1 q1
      have g1 : Fr NoM w w1 := ((Fr.refl NoM w).alloc _).trans f1 (fun q hq e => by have e : w.heap.size = q := Option.some.inj e; omega)
      have h1' : w1.ownsRow w.heap.size 5 1 v1 (([] : List Int)).length ((([] : List Int)).map encC) := by simpa using h1
      have HO := Lib.hid h1'; have G1 := Lib.hid g1
      clear h1 h1' f1 q1 g1
      go_wp2_with (at_builtin; go_loud (refine wpList_appS (enc := encC) _ rfl (.tmp 15) (.tmp 18) 41 rfl w.heap.size 5 (.int .u8 0) 1 Tryz.underlying41 infoU8 rfl v1 (([] : List Int)).length ((([] : List Int)).map encC) rfl (owns_fr HO.out ((Fr.refl NoM w1).alloc _) (fun _ _ q => q)) (.slice (some ⟨w1.heap.size, 0, none⟩) 1 1) rfl [(0 : Int)] (SliceOf.one encC w1 _ 5) (fun _ => rfl) (by have := HLb.out; simp only [List.length_singleton]; omega) (by decide) (by have := G1.out.size; rw [World.size_alloc]; omega) ?_))
      intro v2 w2 h2 f2 q2
      have h2' : w2.ownsRow w.heap.size 5 1 v2 ((([] : List Int)).length + 1) ((([] : List Int)).map encC ++ [encC ((0 : Int))]) := by simpa using h2
      have HEnd := Lib.hid (show CutPost w (.returned v2) w2 from ⟨v2, _, rfl, code_snoc h2' HDb.out HX.out, (G1.out.trans ((Fr.refl NoM w1).alloc _) (fun _ _ q => q)).trans f2 (fun q hq e => by have := (HO.out.lt q e).1; omega)⟩)
      clear h2 h2' f2 q2
      go_wp2
      go_ret
      exact HEnd.out
    | some a =>
      have HD := Lib.hid (CodeOK.empty w (some a) c hcm)
      have HLb := Lib.hid (show (([] : List Int)).length ≤ 65536 from by simp <;> omega)
      have HDb := Lib.hid HD.out.2
      have HX := Lib.hid (show 0 ≤ (0 : Int) ∧ (0 : Int) ≤ 255 from by omega)
      clear h hcell
      go_enter Tryz.func83, Tryz.ntmps83
      go_wp2_with (at_builtin; refine wpList_appS (enc := encC) _ rfl (.tmp 11) (.tmp 14) 41 rfl w.heap.size 5 (.int .u8 0) 1 Tryz.underlying41 infoU8 rfl (.slice (some ⟨w.heap.size, 0, none⟩) 0 0) 0 [] rfl (World.ownsRow_made w #[] 0 (Nat.le_refl _) (by decide) (by simp)) (.slice (some a) 0 c) rfl (([] : List Int)) (HD.out.1.fr0 ((Fr.refl NoM w).alloc _)) (fun _ => rfl) (by have := HLb.out; omega) (by decide) (by rw [World.size_alloc]; omega) ?_)
      intro v1 w1 h1 f1 q1
      have g1 : Fr NoM w w1 := ((Fr.refl NoM w).alloc _).trans f1 (fun q hq e => by have e : w.heap.size = q := Option.some.inj e; omega)
      have h1' : w1.ownsRow w.heap.size 5 1 v1 (([] : List Int)).length ((([] : List Int)).map encC) := by simpa using h1
      have HO := Lib.hid h1'; have G1 := Lib.hid g1
      clear h1 h1' f1 q1 g1
      go_wp2_with (at_builtin; go_loud (refine wpList_appS (enc := encC) _ rfl (.tmp 15) (.tmp 18) 41 rfl w.heap.size 5 (.int .u8 0) 1 Tryz.underlying41 infoU8 rfl v1 (([] : List Int)).length ((([] : List Int)).map encC) rfl (owns_fr HO.out ((Fr.refl NoM w1).alloc _) (fun _ _ q => q)) (.slice (some ⟨w1.heap.size, 0, none⟩) 1 1) rfl [(0 : Int)] (SliceOf.one encC w1 _ 5) (fun _ => rfl) (by have := HLb.out; simp only [List.length_singleton]; omega) (by decide) (by have := G1.out.size; rw [World.size_alloc]; omega) ?_))
      intro v2 w2 h2 f2 q2
      have h2' : w2.ownsRow w.heap.size 5 1 v2 ((([] : List Int)).length + 1) ((([] : List Int)).map encC ++ [encC ((0 : Int))]) := by simpa using h2
      have HEnd := Lib.hid (show CutPost w (.returned v2) w2 from ⟨v2, _, rfl, code_snoc h2' HDb.out HX.out, (G1.out.trans ((Fr.refl NoM w1).alloc _) (fun _ _ q => q)).trans f2 (fun q hq e => by have := (HO.out.lt q e).1; omega)⟩)
      clear h2 h2' f2 q2
      go_wp2
      go_ret
      exact HEnd.out
  · obtain ⟨b, off, ha, _⟩ := hcell 0 (L[0]'(by omega)) (List.getElem?_eq_getElem (by omega))
    by_cases hgt : L.length < n
    · by_cases hcn : c = L.length
      · have HD := Lib.hid (CodeOK.empty w (some ⟨b, off, none⟩) 0 (by omega))
        subst ha
        subst hcn
        have HLb := Lib.hid (show (([] : List Int)).length ≤ 65536 from by simp <;> omega)
        have HDb := Lib.hid HD.out.2
        have HX := Lib.hid (show 0 ≤ (L.length : Int) ∧ (L.length : Int) ≤ 255 from by omega)
        clear h hcell
        go_enter Tryz.func83, Tryz.ntmps83
        go_wp2_with (at_builtin; refine wpList_appS (enc := encC) _ rfl (.tmp 11) (.tmp 14) 41 rfl w.heap.size 5 (.int .u8 0) 1 Tryz.underlying41 infoU8 rfl (.slice (some ⟨w.heap.size, 0, none⟩) 0 0) 0 [] rfl (World.ownsRow_made w #[] 0 (Nat.le_refl _) (by decide) (by simp)) (.slice (some ⟨b, off, none⟩) 0 0) rfl (([] : List Int)) (HD.out.1.fr0 ((Fr.refl NoM w).alloc _)) (fun _ => rfl) (by have := HLb.out; omega) (by decide) (by rw [World.size_alloc]; omega) ?_)
        intro v1 w1 h1 f1 q1
        have g1 : Fr NoM w w1 := ((Fr.refl NoM w).alloc _).trans f1 (fun q hq e => by have e : w.heap.size = q := Option.some.inj e; omega)
        have h1' : w1.ownsRow w.heap.size 5 1 v1 (([] : List Int)).length ((([] : List Int)).map encC) := by simpa using h1
        have HO := Lib.hid h1'; have G1 := Lib.hid g1
        clear h1 h1' f1 q1 g1
        go_wp2_with (at_builtin; go_loud (refine wpList_appS (enc := encC) _ rfl (.tmp 15) (.tmp 18) 41 rfl w.heap.size 5 (.int .u8 0) 1 Tryz.underlying41 infoU8 rfl v1 (([] : List Int)).length ((([] : List Int)).map encC) rfl (owns_fr HO.out ((Fr.refl NoM w1).alloc _) (fun _ _ q => q)) (.slice (some ⟨w1.heap.size, 0, none⟩) 1 1) rfl [(L.length : Int)] (SliceOf.one encC w1 _ 5) (fun _ => rfl) (by have := HLb.out; simp only [List.length_singleton]; omega) (by decide) (by have := G1.out.size; rw [World.size_alloc]; omega) ?_))
        intro v2 w2 h2 f2 q2
        have h2' : w2.ownsRow w.heap.size 5 1 v2 ((([] : List Int)).length + 1) ((([] : List Int)).map encC ++ [encC ((L.length : Int))]) := by simpa using h2
        have HEnd := Lib.hid (show CutPost w (.returned v2) w2 from ⟨v2, _, rfl, code_snoc h2' HDb.out HX.out, (G1.out.trans ((Fr.refl NoM w1).alloc _) (fun _ _ q => q)).trans f2 (fun q hq e => by have := (HO.out.lt q e).1; omega)⟩)
        clear h2 h2' f2 q2
        go_wp2
        go_ret
        exact HEnd.out
      · have HD := Lib.hid (CodeOK.empty w (some ⟨b, off + L.length, none⟩) (c - L.length) (by omega))
        subst ha
        have HLb := Lib.hid (show (([] : List Int)).length ≤ 65536 from by simp <;> omega)
        have HDb := Lib.hid HD.out.2
        have HX := Lib.hid (show 0 ≤ (L.length : Int) ∧ (L.length : Int) ≤ 255 from by omega)
        clear h hcell
        go_enter Tryz.func83, Tryz.ntmps83
        go_wp2_with (at_builtin; refine wpList_appS (enc := encC) _ rfl (.tmp 11) (.tmp 14) 41 rfl w.heap.size 5 (.int .u8 0) 1 Tryz.underlying41 infoU8 rfl (.slice (some ⟨w.heap.size, 0, none⟩) 0 0) 0 [] rfl (World.ownsRow_made w #[] 0 (Nat.le_refl _) (by decide) (by simp)) (.slice (some ⟨b, off + L.length, none⟩) 0 (c - L.length)) rfl (([] : List Int)) (HD.out.1.fr0 ((Fr.refl NoM w).alloc _)) (fun _ => rfl) (by have := HLb.out; omega) (by decide) (by rw [World.size_alloc]; omega) ?_)
        intro v1 w1 h1 f1 q1
        have g1 : Fr NoM w w1 := ((Fr.refl NoM w).alloc _).trans f1 (fun q hq e => by have e : w.heap.size = q := Option.some.inj e; omega)
        have h1' : w1.ownsRow w.heap.size 5 1 v1 (([] : List Int)).length ((([] : List Int)).map encC) := by simpa using h1
        have HO := Lib.hid h1'; have G1 := Lib.hid g1
        clear h1 h1' f1 q1 g1
        go_wp2_with (at_builtin; go_loud (refine wpList_appS (enc := encC) _ rfl (.tmp 15) (.tmp 18) 41 rfl w.heap.size 5 (.int .u8 0) 1 Tryz.underlying41 infoU8 rfl v1 (([] : List Int)).length ((([] : List Int)).map encC) rfl (owns_fr HO.out ((Fr.refl NoM w1).alloc _) (fun _ _ q => q)) (.slice (some ⟨w1.heap.size, 0, none⟩) 1 1) rfl [(L.length : Int)] (SliceOf.one encC w1 _ 5) (fun _ => rfl) (by have := HLb.out; simp only [List.length_singleton]; omega) (by decide) (by have := G1.out.size; rw [World.size_alloc]; omega) ?_))
        intro v2 w2 h2 f2 q2
        have h2' : w2.ownsRow w.heap.size 5 1 v2 ((([] : List Int)).length + 1) ((([] : List Int)).map encC ++ [encC ((L.length : Int))]) := by simpa using h2
        have HEnd := Lib.hid (show CutPost w (.returned v2) w2 from ⟨v2, _, rfl, code_snoc h2' HDb.out HX.out, (G1.out.trans ((Fr.refl NoM w1).alloc _) (fun _ _ q => q)).trans f2 (fun q hq e => by have := (HO.out.lt q e).1; omega)⟩)
        clear h2 h2' f2 q2
        go_wp2
        go_ret
        exact HEnd.out
    · have hle : n ≤ L.length := by omega
      by_cases hcn : c = n
      · have HD := Lib.hid (CodeOK.empty w (some ⟨b, off, none⟩) 0 (by omega))
        subst ha
        subst hcn
        have hln : L.length = c := by omega
        have HLn := Lib.hid hln
        have hz : L.length - c = 0 := by omega
        clear hln
        have HLb := Lib.hid (show (([] : List Int)).length ≤ 65536 from by simp <;> omega)
        have HDb := Lib.hid HD.out.2
        have HX := Lib.hid (show 0 ≤ (c : Int) ∧ (c : Int) ≤ 255 from by omega)
        clear h hcell
        go_enter Tryz.func83, Tryz.ntmps83
        go_wp2_with (at_builtin; refine wpList_appS (enc := encC) _ rfl (.tmp 11) (.tmp 14) 41 rfl w.heap.size 5 (.int .u8 0) 1 Tryz.underlying41 infoU8 rfl (.slice (some ⟨w.heap.size, 0, none⟩) 0 0) 0 [] rfl (World.ownsRow_made w #[] 0 (Nat.le_refl _) (by decide) (by simp)) (.slice (some ⟨b, off, none⟩) 0 0) rfl (([] : List Int)) (HD.out.1.fr0 ((Fr.refl NoM w).alloc _)) (fun _ => rfl) (by have := HLb.out; omega) (by decide) (by rw [World.size_alloc]; omega) ?_)
        intro v1 w1 h1 f1 q1
        have g1 : Fr NoM w w1 := ((Fr.refl NoM w).alloc _).trans f1 (fun q hq e => by have e : w.heap.size = q := Option.some.inj e; omega)
        have h1' : w1.ownsRow w.heap.size 5 1 v1 (([] : List Int)).length ((([] : List Int)).map encC) := by simpa using h1
        have HO := Lib.hid h1'; have G1 := Lib.hid g1
        clear h1 h1' f1 q1 g1
        go_wp2_with (at_builtin; go_loud (refine wpList_appS (enc := encC) _ rfl (.tmp 15) (.tmp 18) 41 rfl w.heap.size 5 (.int .u8 0) 1 Tryz.underlying41 infoU8 rfl v1 (([] : List Int)).length ((([] : List Int)).map encC) rfl (owns_fr HO.out ((Fr.refl NoM w1).alloc _) (fun _ _ q => q)) (.slice (some ⟨w1.heap.size, 0, none⟩) 1 1) rfl [(c : Int)] (SliceOf.one encC w1 _ 5) (fun _ => rfl) (by have := HLb.out; simp only [List.length_singleton]; omega) (by decide) (by have := G1.out.size; rw [World.size_alloc]; omega) ?_))
        intro v2 w2 h2 f2 q2
        have h2' : w2.ownsRow w.heap.size 5 1 v2 ((([] : List Int)).length + 1) ((([] : List Int)).map encC ++ [encC ((c : Int))]) := by simpa using h2
        have HEnd := Lib.hid (show CutPost w (.returned v2) w2 from ⟨v2, _, rfl, code_snoc h2' HDb.out HX.out, (G1.out.trans ((Fr.refl NoM w1).alloc _) (fun _ _ q => q)).trans f2 (fun q hq e => by have := (HO.out.lt q e).1; omega)⟩)
        clear h2 h2' f2 q2
        go_wp2
        go_ret
        exact HEnd.out
      · have HD := Lib.hid (HC.out.drop ha hle)
        subst ha
        have HLb := Lib.hid (show (L.drop n).length ≤ 65536 from by simp <;> omega)
        have HDb := Lib.hid HD.out.2
        have HX := Lib.hid (show 0 ≤ (n : Int) ∧ (n : Int) ≤ 255 from by omega)
        clear h hcell
        go_enter Tryz.func83, Tryz.ntmps83
        go_wp2_with (at_builtin; refine wpList_appS (enc := encC) _ rfl (.tmp 11) (.tmp 14) 41 rfl w.heap.size 5 (.int .u8 0) 1 Tryz.underlying41 infoU8 rfl (.slice (some ⟨w.heap.size, 0, none⟩) 0 0) 0 [] rfl (World.ownsRow_made w #[] 0 (Nat.le_refl _) (by decide) (by simp)) (.slice (some ⟨b, off + n, none⟩) (L.length - n) (c - n)) rfl (L.drop n) (HD.out.1.fr0 ((Fr.refl NoM w).alloc _)) (fun _ => rfl) (by have := HLb.out; omega) (by decide) (by rw [World.size_alloc]; omega) ?_)
        intro v1 w1 h1 f1 q1
        have g1 : Fr NoM w w1 := ((Fr.refl NoM w).alloc _).trans f1 (fun q hq e => by have e : w.heap.size = q := Option.some.inj e; omega)
        have h1' : w1.ownsRow w.heap.size 5 1 v1 (L.drop n).length ((L.drop n).map encC) := by simpa using h1
        have HO := Lib.hid h1'; have G1 := Lib.hid g1
        clear h1 h1' f1 q1 g1
        go_wp2_with (at_builtin; go_loud (refine wpList_appS (enc := encC) _ rfl (.tmp 15) (.tmp 18) 41 rfl w.heap.size 5 (.int .u8 0) 1 Tryz.underlying41 infoU8 rfl v1 (L.drop n).length ((L.drop n).map encC) rfl (owns_fr HO.out ((Fr.refl NoM w1).alloc _) (fun _ _ q => q)) (.slice (some ⟨w1.heap.size, 0, none⟩) 1 1) rfl [(n : Int)] (SliceOf.one encC w1 _ 5) (fun _ => rfl) (by have := HLb.out; simp only [List.length_singleton]; omega) (by decide) (by have := G1.out.size; rw [World.size_alloc]; omega) ?_))
        intro v2 w2 h2 f2 q2
        have h2' : w2.ownsRow w.heap.size 5 1 v2 ((L.drop n).length + 1) ((L.drop n).map encC ++ [encC ((n : Int))]) := by simpa using h2
        have HEnd := Lib.hid (show CutPost w (.returned v2) w2 from ⟨v2, _, rfl, code_snoc h2' HDb.out HX.out, (G1.out.trans ((Fr.refl NoM w1).alloc _) (fun _ _ q => q)).trans f2 (fun q hq e => by have := (HO.out.lt q e).1; omega)⟩)
        clear h2 h2' f2 q2
        go_wp2
        go_ret
        exact HEnd.out
end Go.Proofs.YtiidnnpanickaaaGreatDoor
