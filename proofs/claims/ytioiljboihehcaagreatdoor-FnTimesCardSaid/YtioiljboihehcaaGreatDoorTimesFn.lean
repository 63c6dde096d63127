/- The walk of laws.FnTimes: it returns true for every code. -/
import Derived.Test.YtioiljboihehcaaGreatDoorFnKit
import Derived.Test.YtioiljboihehcaaGreatDoorTimesRef
import Derived.Test.YtioiljboihehcaaGreatDoorGroupLaw
namespace Go.Proofs.YtioiljboihehcaaGreatDoor
set_option linter.unusedVariables false
set_option linter.unusedSimpArgs false
open Go.RowKit

def DrawTPost (w : World) (e : Ending) (w' : World) : Prop := ∃ (n : Int) (v : Value) (Fi : List (List Int × List Int)), e = .returned (.tuple #[.int .i64 n, .agg #[v]]) ∧ -13 ≤ n ∧ n ≤ 13 ∧ NodeL (fun b => w.heap.size ≤ b) encI w' v Fi ∧ Fr NoM w w'
set_option maxRecDepth 8000 in
set_option maxHeartbeats 8000000 in
theorem drawTimes_any (cv : Value) (L : List Int) (w : World) (h : CodeOK w cv L) : Calls Tryz.prog 23 #[cv] w fun e w' => DrawTPost w e w' := by
  obtain ⟨w1, hw1⟩ : ∃ w1, w1 = w.alloc (.cells #[.slice none 0 0] 28) := ⟨_, rfl⟩
  have f1 : Fr NoM w w1 := by rw [hw1]; exact (Fr.refl NoM w).alloc _
  have hs1 : w1.heap.size = w.heap.size + 1 := by rw [hw1]; simp
  have e1 : w1.heap[w.heap.size]? = some (.cells #[.slice none 0 0] 28 (0, 0)) := by rw [hw1]; exact heap_alloc_new w _
  obtain ⟨w2, hw2⟩ : ∃ w2, w2 = w1.alloc (.cells #[cv, .int .i64 0, .int .u64 0] 91) := ⟨_, rfl⟩
  have f2 : Fr NoM w1 w2 := by rw [hw2]; exact (Fr.refl NoM w1).alloc _
  have hc2 : CurS w2 w1.heap.size 0 := by rw [hw2]; exact CurS.start (h.fr0 f1)
  have hs2 : w2.heap.size = w.heap.size + 2 := by rw [hw2]; simp [hs1]
  obtain ⟨cb, hcb⟩ : ∃ cb, cb = w.heap.size + 1 := ⟨_, rfl⟩
  rw [hs1, ← hcb] at hc2
  have HK := Lib.hid (fun (W : World) (f : Fr (fun q => q = cb) w2 W) => (by
    have h4 := f.heap (f2.heap e1 (fun q => q)) (fun e => by omega)
    exact ⟨by rw [cell_of_row W _ 0 _ _ _ h4]; rfl, by simp [World.frozen?, h4]⟩ : W.cell? ⟨w.heap.size, 0, none⟩ = some (.slice none 0 0) ∧ W.frozen? ⟨w.heap.size, 0, none⟩ = false))
  have HF := Lib.hid (fun (W : World) (f : Fr (fun q => q = cb) w2 W) => ((f1.trans f2 (fun _ _ q => q)).trans f (fun q hq e => by omega) : Fr NoM w W))
  have HOne := Lib.hid (one_any cb 0 8 w2 hc2 (by omega) ⟨by omega, by omega⟩)
  have HS1 := Lib.hid hs1; have HCb := Lib.hid hcb; have HS2 := Lib.hid hs2
  obtain ⟨ca, cc, rfl, zz⟩ := id h.1
  clear zz h f1 hs1 e1 f2 hc2 hs2
  go_enter Tryz.func23, Tryz.ntmps23
  go_upto_region 2 with fail
  rw [← hw1, ← hw2, ← hcb]
  clear hw1 hw2 hcb
  go_wp2_with fail
  (with_reducible refine HOne.out.mono ?_)
  rintro e w3 ⟨b, rfl, c3, f3⟩
  cases b with
  | false =>
    have HPk := Lib.hid (pick_any cb (0 + 2) 7 w3 c3 (by omega) ⟨by omega, by omega⟩)
    have F3 := Lib.hid f3
    clear c3 f3 HOne
    go_wp2_with fail
    (with_reducible refine HPk.out.mono ?_)
    rintro e w4 ⟨y, rfl, y0, y1, c4, f4⟩
    have y7 : y < 7 := by omega
    have HAny := Lib.hid (anyForm_any cb (0 + 2 + 2) 1 w4 c4 (by omega) (by omega))
    have hany := HAny.out
    rw [show ((1 : Nat) : Int) = 1 from rfl] at hany
    have HAny := Lib.hid hany
    have F4 := Lib.hid (F3.out.trans f4 (fun _ _ q => q))
    clear y1 c4 f4 hany HPk
    go_wp2_with fail
    (with_reducible refine HAny.out.mono ?_)
    rintro e w5 ⟨v, Fi, rfl, n5, _, f5⟩
    have F5 := Lib.hid (F4.out.trans f5 (fun _ _ q => q))
    obtain ⟨k1, k2⟩ := HK.out w5 F5.out
    have HN := Lib.hid n5; have HSz := Lib.hid (show w.heap.size < w4.heap.size from by have h3 := F4.out.size; have h4 := HS2.out; omega)
    obtain ⟨va, vc, rfl, zz⟩ := id n5
    clear zz n5 f5 HAny
    go_wp2
    refine bodyPost_ret (v := .tuple #[.int .i64 (y - 3), .agg #[.slice va Fi.length vc]]) (by simp [results, Tryz.results23, go_sem, k1]) rfl ?_
    refine ⟨y - 3, _, Fi, rfl, by omega, by omega, ?_, (HF.out w5 F5.out).setCell _ _ (fun h => by have h : w.heap.size < w.heap.size := h; omega)⟩
    exact (HN.out.fr (Fr.set w5 ⟨w.heap.size, 0, none⟩ _) (fun q hq e => by have e : q = w.heap.size := e; have := HSz.out; omega)).mono (fun q hq => by have := HSz.out; omega)
  | true =>
    have HC3 := Lib.hid c3; have F3 := Lib.hid f3
    have HCl := Lib.hid (show cb < w3.heap.size from c3.lt)
    have HSz := Lib.hid (show w.heap.size + 2 ≤ w3.heap.size from by have h3 := f3.size; have h4 := HS2.out; omega)
    clear c3 f3 HOne
    have G0 : Fr NoM w3 w3.drew := (Fr.refl NoM w3).drew
    go_upto_region 3 with fail
    go_region_law (first
      | (go_simp; first
        | (go_at_call 86; (with_reducible refine (among_any cb (0 + 2) _ [12, -12, 13, -13] _ (by first | exact HC3.out.fr0 (Fr.alloc G0 _) | exact HC3.out.fr0 ((Fr.alloc (Fr.refl NoM w3) _).drew)) (by first | exact ints4g w3.drew 12 (-12) 13 (-13) (by simp) | exact (ints4g w3 12 (-12) 13 (-13) rfl).fr0 (Fr.refl NoM _).drew) (fun q hq => by have e := own4 hq; have h1 := HCl.out; omega) (by simp) (by simp) (by omega)).mono ?_); rintro e w4 ⟨y, rfl, ym, c4, f4⟩; have g4 : Fr (fun q => q = cb) w3 w4 := Fr.trans (by first | exact (Fr.alloc G0 _).any | exact ((Fr.alloc (Fr.refl NoM w3) _).drew).any) f4 (fun _ _ q => q))
        | (go_at_call 87; (with_reducible refine (l3Small_any _).mono ?_); rintro e w5 ⟨v5, VS, FSs, U, T5, rfl, g5, d5, l5, m5, f5⟩; have g35 : Fr (fun q => q = cb) w3 w5 := g4.trans f5 (fun _ _ q => q.elim))
        | (go_at_call 88; (with_reducible refine (pick_any cb (0 + 2 + 2) 4 w5 (c4.fr0 f5) (by omega) ⟨by omega, by omega⟩).mono ?_); rintro e w6 ⟨z, rfl, z0, z1, c6, f6⟩; obtain ⟨x, rfl⟩ : ∃ x : Nat, z = (x : Int) := ⟨z.toNat, by omega⟩; have g36 : Fr (fun q => q = cb) w3 w6 := g35.trans f6 (fun _ _ q => q); have hx : x < VS.length := (by have h1 := g5.len; omega); obtain ⟨a7, c7, na, nc, Fm, b7, o7, rfl, ha7, hc7, hn7, hm7⟩ := g5.pick (x := x) f6 (by have h1 := HCl.out; have h2 := g4.size; omega) hx; have ix := ixForms a7 VS.length c7 x b7 o7 hx ha7; obtain ⟨k1, k2⟩ := HK.out w6 (F3.out.trans g36 (fun _ _ q => q)))
        | fail)
      | fail)
    all_goals
      have HN := Lib.hid (hn7.nodeL.toI)
      have HGs := Lib.hid g5.sep
      have F6 := Lib.hid (F3.out.trans g36 (fun _ _ q => q))
      have HYm := Lib.hid ym
      have HG4 := Lib.hid g4.size
      clear hn7 g5 d5 f5 g35 f6 c6 c4 f4 g4 g36 ym z0 z1 ha7 hm7
      go_wp2
      refine bodyPost_ret (v := .tuple #[.int .i64 y, .agg #[.slice na Fm.length nc]]) (by simp [results, Tryz.results23, go_sem, k1]) rfl ?_
      have hl : (i2 Fm).length = Fm.length := by simp [i2]
      have hy : -13 ≤ y ∧ y ≤ 13 := by
        have h := HYm.out
        simp only [List.mem_cons, List.not_mem_nil, or_false] at h
        omega
      refine ⟨y, _, i2 Fm, rfl, hy.1, hy.2, ?_, (HF.out w6 F6.out).setCell _ _ (fun h => by have h : w.heap.size < w.heap.size := h; omega)⟩
      exact (HN.out.fr (Fr.set w6 ⟨w.heap.size, 0, none⟩ _) (fun q hq e => by have e : q = w.heap.size := e; have := (HGs.out q hq).1; have := HSz.out; have := HG4.out; omega)).mono (fun q hq => by have := (HGs.out q hq).1; have := HSz.out; have := HG4.out; omega)
theorem timesP_post {R : Nat → Prop} {n : Int} {nv : Value} {Fi F : List (List Int × List Int)} {w : World} {ok : Bool} (h : NodeL R encI w nv Fi) (hok : ok = (timesF n Fi).isSome) (hF : F = i2 ((timesF n Fi).getD [])) :
    Calls Tryz.prog 24 #[.int .i64 n, .agg #[nv]] w fun e w' => FormPost ok F w e w' := by
  rw [hok]
  exact (timesFormP_any n nv Fi w h _ rfl).mono fun e w' h => FormPost.ofP hF h
theorem timesR_post {R : Nat → Prop} {n : Int} {nv : Value} {Fi F : List (List Int × List Int)} {w : World} {ok : Bool} (h : NodeL R encI w nv Fi) (hok : ok = (timesF n Fi).isSome) (hF : F = i2 ((timesF n Fi).getD [])) :
    Calls Tryz.prog 25 #[.int .i64 n, .agg #[nv]] w fun e w' => FormPost ok F w e w' := by
  rw [hok]
  exact (timesFormR_any n nv Fi w h _ rfl).mono fun e w' h => FormPost.ofR hF h
theorem negP_post {R : Nat → Prop} {nv : Value} {Fi F : List (List Int × List Int)} {w : World} {g : Bool} (h : NodeL R encI w nv Fi) (hg : g = true ↔ goodI Fi) (hF : F = i2 (if g = true then negN (natF Fi) else [])) :
    Calls Tryz.prog 27 #[.agg #[nv]] w fun e w' => FormPost g F w e w' :=
  (negFormP_any nv Fi w h g hg).mono fun e w' h => FormPost.ofP hF h
theorem sumP_post {R S : Nat → Prop} {v1 v2 : Value} {Fi Gi F : List (List Int × List Int)} {w : World} {ok : Bool} (h1 : NodeL R encI w v1 Fi) (h2 : NodeL S encI w v2 Gi) (hok : ok = sumOk Fi Gi) (hF : F = i2 (if ok = true then sumN (natF Fi) (natF Gi) else [])) :
    Calls Tryz.prog 28 #[.agg #[v1], .agg #[v2]] w fun e w' => FormPost ok F w e w' :=
  (sumFormsP_any v1 v2 Fi Gi w h1 h2 ok hok).mono fun e w' h => FormPost.ofP hF h
/-- How often so many of a game, and their negatives, fit together. -/
theorem times_turn {n : Int} {Fi : List (List Int × List Int)} (hn : n < 0) (h1 : (timesF n Fi).isSome = true) (h2 : (timesF (-n) Fi).isSome = true) : goodI (i2 ((timesF (-n) Fi).getD [])) ∧ (timesF n Fi).getD [] = negN ((timesF (-n) Fi).getD []) := by
  obtain ⟨X, hX⟩ := Option.isSome_iff_exists.1 h1
  obtain ⟨Y, hY⟩ := Option.isSome_iff_exists.1 h2
  rw [hX, hY]
  exact ⟨times_good hY, times_opp hn hX hY⟩
theorem times_more {n : Int} {Fi : List (List Int × List Int)} (hn : 0 < n) (h : (timesF n Fi).isSome = true) : (timesF (n - 1) Fi).isSome = true ∧ sumOk (i2 ((timesF (n - 1) Fi).getD [])) Fi = true ∧ (timesF n Fi).getD [] = sumN ((timesF (n - 1) Fi).getD []) (natF Fi) := by
  obtain ⟨X, hX⟩ := Option.isSome_iff_exists.1 h
  obtain ⟨Y, h1, h2, h3⟩ := times_next hn hX
  rw [hX, h1]
  exact ⟨rfl, h2, h3⟩
set_option maxRecDepth 8000 in
set_option maxHeartbeats 16000000 in
theorem fnTimes_any (cv : Value) (L : List Int) (W0 : World) (h : CodeOK W0 cv L) : Calls Tryz.prog 4 #[cv] W0 fun e W' => e = .returned (.bool true) ∧ Fr NoM W0 W' := by
  obtain ⟨big, hbig⟩ : ∃ big, big = decide (65536 < L.length) := ⟨_, rfl⟩
  have hv := vBig_any cv L W0 h
  rw [← hbig] at hv
  have HV := Lib.hid hv; have HDr := Lib.hid (drawTimes_any cv L W0 h)
  have G0 := Lib.hid (Fr.refl NoM W0)
  obtain ⟨ca, cc, rfl, zz⟩ := id h.1
  clear zz h hbig hv
  go_enter Tryz.func4, Tryz.ntmps4
  go_wp2_with fail
  (with_reducible refine HV.out.mono ?_)
  rintro e x0 ⟨rfl, hx⟩
  have hx := hx.symm
  subst hx
  cases big with
  | true =>
    go_wp2_with fail
    go_ret
    exact ⟨rfl, G0.out⟩
  | false =>
    go_wp2_with fail
    (with_reducible refine HDr.out.mono ?_)
    rintro e w1 ⟨n, v, Fi, rfl, n1, n2, q1, f1⟩
    obtain ⟨a1, c1, rfl, zz⟩ := id q1
    obtain ⟨W1, hW1⟩ : ∃ W1, W1 = w1.alloc (.cells #[.slice a1 Fi.length c1] 28) := ⟨_, rfl⟩
    have g1 : Fr NoM W0 W1 := f1.trans (show Fr NoM w1 W1 by rw [hW1]; exact (Fr.refl NoM w1).alloc _) (fun _ _ q => q)
    have B1 := Lib.hid (BoxI.made q1 hW1)
    have G1 := Lib.hid (G0.out.trans g1 (fun _ _ q => q))
    clear q1 f1 g1 zz
    go_upto_region 4 with fail
    rw [← hW1]
    clear hW1
    have k1 := B1.out.cell
    obtain ⟨ok, hok⟩ : ∃ ok, ok = (timesF n Fi).isSome := ⟨_, rfl⟩
    obtain ⟨FN, hFN⟩ : ∃ FN, FN = i2 ((timesF n Fi).getD []) := ⟨_, rfl⟩
    have HOk := Lib.hid hok; have HFN := Lib.hid hFN
    clear hok hFN
    go_wp2_with fail
    (with_reducible refine (timesP_post B1.out.node HOk.out HFN.out).mono ?_)
    rintro e w2 ⟨v2, rfl, q2, f2⟩
    obtain ⟨a2, c2, rfl, zz⟩ := id q2
    obtain ⟨W2, hW2⟩ : ∃ W2, W2 = w2.alloc (.cells #[.slice a2 FN.length c2] 28) := ⟨_, rfl⟩
    have g2 : Fr NoM W1 W2 := f2.trans (show Fr NoM w2 W2 by rw [hW2]; exact (Fr.refl NoM w2).alloc _) (fun _ _ q => q)
    have B1 := Lib.hid (B1.out.fr0 g2)
    have B2 := Lib.hid (BoxI.made q2 hW2)
    have G2 := Lib.hid (G1.out.trans g2 (fun _ _ q => q))
    clear q2 f2 g2 zz
    clear k1
    go_upto_region 5 with fail
    rw [← hW2]
    clear hW2
    have k1 := B1.out.cell
    go_wp2_with fail
    (with_reducible refine (timesR_post B1.out.node HOk.out HFN.out).mono ?_)
    rintro e w3 ⟨v3, rfl, q3, f3⟩
    obtain ⟨a3, c3, rfl, zz⟩ := id q3
    obtain ⟨W3, hW3⟩ : ∃ W3, W3 = w3.alloc (.cells #[.slice a3 FN.length c3] 28) := ⟨_, rfl⟩
    have g3 : Fr NoM W2 W3 := f3.trans (show Fr NoM w3 W3 by rw [hW3]; exact (Fr.refl NoM w3).alloc _) (fun _ _ q => q)
    have B1 := Lib.hid (B1.out.fr0 g3)
    have B2 := Lib.hid (B2.out.fr0 g3)
    have B3 := Lib.hid (BoxI.made q3 hW3)
    have G3 := Lib.hid (G2.out.trans g3 (fun _ _ q => q))
    clear q3 f3 g3 zz
    clear k1
    go_upto_region 6 with fail
    rw [← hW3]
    clear hW3
    have k2 := B2.out.cell
    have k3 := B3.out.cell
    go_wp2_with fail
    (with_reducible refine (vSame_true _ _ FN FN W3 B2.out.node B3.out.node rfl).mono ?_)
    rintro e x3 ⟨rfl, f3⟩
    have G3 := Lib.hid (G3.out.trans f3 (fun _ _ q => q))
    have B1 := Lib.hid (B1.out.fr0 f3)
    have B2 := Lib.hid (B2.out.fr0 f3)
    clear f3 k2 k3 B3
    obtain ⟨W3, rfl⟩ : ∃ W, W = x3 := ⟨_, rfl⟩
    have k1 := B1.out.cell
    by_cases hc : ok = true ∧ 0 < n
    · obtain ⟨hok, hn⟩ := hc
      have HN := Lib.hid hn
      subst hok
      obtain ⟨t1, t2, t3⟩ := times_more (Fi := Fi) hn HOk.out.symm
      obtain ⟨FL, hFL⟩ : ∃ FL, FL = i2 ((timesF (n - 1) Fi).getD []) := ⟨_, rfl⟩
      obtain ⟨FSu, hFSu⟩ : ∃ FSu, FSu = i2 (if true = true then sumN (natF FL) (natF Fi) else []) := ⟨_, rfl⟩
      have hsame : FN = FSu := by rw [HFN.out, hFSu, hFL, natF_i2, t3]; rfl
      rw [← hFL] at t2
      have HT1 := Lib.hid t1.symm; have HT2 := Lib.hid t2.symm; have HFL := Lib.hid hFL; have HFSu := Lib.hid hFSu; have HSame := Lib.hid hsame
      have hn0 : ¬ n ≤ 0 := by omega
      clear t1 t2 t3 hFL hFSu hsame
      go_wp2_with fail
      (with_reducible refine (timesP_post B1.out.node HT1.out HFL.out).mono ?_)
      rintro e w4 ⟨v4, rfl, q4, f4⟩
      obtain ⟨a4, c4, rfl, zz⟩ := id q4
      obtain ⟨W4, hW4⟩ : ∃ W4, W4 = w4.alloc (.cells #[.slice a4 FL.length c4] 28) := ⟨_, rfl⟩
      have g4 : Fr NoM W3 W4 := f4.trans (show Fr NoM w4 W4 by rw [hW4]; exact (Fr.refl NoM w4).alloc _) (fun _ _ q => q)
      have B1 := Lib.hid (B1.out.fr0 g4)
      have B2 := Lib.hid (B2.out.fr0 g4)
      have B4 := Lib.hid (BoxI.made q4 hW4)
      have G4 := Lib.hid (G3.out.trans g4 (fun _ _ q => q))
      clear q4 f4 g4 zz
      clear k1
      go_upto_region 13 with fail
      rw [← hW4]
      clear hW4
      have k1 := B1.out.cell
      have k4 := B4.out.cell
      go_wp2_with fail
      (with_reducible refine (sumP_post B4.out.node B1.out.node HT2.out HFSu.out).mono ?_)
      rintro e w5 ⟨v5, rfl, q5, f5⟩
      obtain ⟨a5, c5, rfl, zz⟩ := id q5
      obtain ⟨W5, hW5⟩ : ∃ W5, W5 = w5.alloc (.cells #[.slice a5 FSu.length c5] 28) := ⟨_, rfl⟩
      have g5 : Fr NoM W4 W5 := f5.trans (show Fr NoM w5 W5 by rw [hW5]; exact (Fr.refl NoM w5).alloc _) (fun _ _ q => q)
      have B2 := Lib.hid (B2.out.fr0 g5)
      have B5 := Lib.hid (BoxI.made q5 hW5)
      have G5 := Lib.hid (G4.out.trans g5 (fun _ _ q => q))
      clear q5 f5 g5 zz
      clear k1 k4
      go_upto_region 14 with fail
      rw [← hW5]
      clear hW5
      have k2 := B2.out.cell
      have k5 := B5.out.cell
      go_wp2_with fail
      (with_reducible refine (vSame_true _ _ FN FSu W5 B2.out.node B5.out.node HSame.out).mono ?_)
      rintro e w6 ⟨rfl, f6⟩
      go_wp2_with fail
      go_ret
      exact ⟨rfl, G5.out.trans f6 (fun _ _ q => q)⟩
    · obtain ⟨ok2, hok2⟩ : ∃ ok, ok = (timesF (-n) Fi).isSome := ⟨_, rfl⟩
      obtain ⟨FY, hFY⟩ : ∃ FY, FY = i2 ((timesF (-n) Fi).getD []) := ⟨_, rfl⟩
      obtain ⟨g, hg⟩ := good_dec FY
      obtain ⟨FZ, hFZ⟩ : ∃ FZ, FZ = i2 (if g = true then negN (natF FY) else []) := ⟨_, rfl⟩
      have hlast : ok = true → n < 0 → ok2 = true → g = true ∧ FZ = FN := fun e1 e2 e3 => by
        obtain ⟨t1, t2⟩ := times_turn (Fi := Fi) e2 (by rw [← HOk.out]; exact e1) (by rw [← hok2]; exact e3)
        rw [← hFY] at t1
        have hgt := hg.2 t1
        refine ⟨hgt, ?_⟩
        rw [hFZ, HFN.out, t2, hgt, hFY, natF_i2]; rfl
      have HO2 := Lib.hid hok2; have HFY := Lib.hid hFY; have HG := Lib.hid hg; have HFZ := Lib.hid hFZ; have HLast := Lib.hid hlast
      clear hok2 hFY hg hFZ hlast
      cases ok with
      | false =>
        go_wp2_with fail
        (with_reducible refine (timesP_post B1.out.node HO2.out HFY.out).mono ?_)
        rintro e w4 ⟨v4, rfl, q4, f4⟩
        obtain ⟨a4, c4, rfl, zz⟩ := id q4
        obtain ⟨W4, hW4⟩ : ∃ W4, W4 = w4.alloc (.cells #[.slice a4 FY.length c4] 28) := ⟨_, rfl⟩
        have g4 : Fr NoM W3 W4 := f4.trans (show Fr NoM w4 W4 by rw [hW4]; exact (Fr.refl NoM w4).alloc _) (fun _ _ q => q)
        have B2 := Lib.hid (B2.out.fr0 g4)
        have B4 := Lib.hid (BoxI.made q4 hW4)
        have G4 := Lib.hid (G3.out.trans g4 (fun _ _ q => q))
        clear q4 f4 g4 zz
        clear k1
        go_upto_region 10 with fail
        rw [← hW4]
        clear hW4
        have k4 := B4.out.cell
        go_wp2_with fail
        (with_reducible refine (negP_post B4.out.node HG.out HFZ.out).mono ?_)
        rintro e w5 ⟨v5, rfl, q5, f5⟩
        obtain ⟨a5, c5, rfl, zz⟩ := id q5
        obtain ⟨W5, hW5⟩ : ∃ W5, W5 = w5.alloc (.cells #[.slice a5 FZ.length c5] 28) := ⟨_, rfl⟩
        have g5 : Fr NoM W4 W5 := f5.trans (show Fr NoM w5 W5 by rw [hW5]; exact (Fr.refl NoM w5).alloc _) (fun _ _ q => q)
        have B2 := Lib.hid (B2.out.fr0 g5)
        have B5 := Lib.hid (BoxI.made q5 hW5)
        have G5 := Lib.hid (G4.out.trans g5 (fun _ _ q => q))
        clear q5 f5 g5 zz
        clear k4
        go_upto_region 11 with fail
        rw [← hW5]
        clear hW5
        have k2 := B2.out.cell
        have k5 := B5.out.cell
        go_wp2_with fail
        go_ret
        exact ⟨rfl, G5.out⟩
      | true =>
        have hn : n ≤ 0 := by
          rcases Int.lt_or_le 0 n with h | h
          · exact absurd ⟨rfl, h⟩ hc
          · exact h
        clear hc
        go_wp2_with fail
        (with_reducible refine (timesP_post B1.out.node HO2.out HFY.out).mono ?_)
        rintro e w4 ⟨v4, rfl, q4, f4⟩
        obtain ⟨a4, c4, rfl, zz⟩ := id q4
        obtain ⟨W4, hW4⟩ : ∃ W4, W4 = w4.alloc (.cells #[.slice a4 FY.length c4] 28) := ⟨_, rfl⟩
        have g4 : Fr NoM W3 W4 := f4.trans (show Fr NoM w4 W4 by rw [hW4]; exact (Fr.refl NoM w4).alloc _) (fun _ _ q => q)
        have B2 := Lib.hid (B2.out.fr0 g4)
        have B4 := Lib.hid (BoxI.made q4 hW4)
        have G4 := Lib.hid (G3.out.trans g4 (fun _ _ q => q))
        clear q4 f4 g4 zz
        clear k1
        go_upto_region 10 with fail
        rw [← hW4]
        clear hW4
        have k4 := B4.out.cell
        go_wp2_with fail
        (with_reducible refine (negP_post B4.out.node HG.out HFZ.out).mono ?_)
        rintro e w5 ⟨v5, rfl, q5, f5⟩
        obtain ⟨a5, c5, rfl, zz⟩ := id q5
        obtain ⟨W5, hW5⟩ : ∃ W5, W5 = w5.alloc (.cells #[.slice a5 FZ.length c5] 28) := ⟨_, rfl⟩
        have g5 : Fr NoM W4 W5 := f5.trans (show Fr NoM w5 W5 by rw [hW5]; exact (Fr.refl NoM w5).alloc _) (fun _ _ q => q)
        have B2 := Lib.hid (B2.out.fr0 g5)
        have B5 := Lib.hid (BoxI.made q5 hW5)
        have G5 := Lib.hid (G4.out.trans g5 (fun _ _ q => q))
        clear q5 f5 g5 zz
        clear k4
        go_upto_region 11 with fail
        rw [← hW5]
        clear hW5
        have k2 := B2.out.cell
        have k5 := B5.out.cell
        by_cases h0 : n = 0
        · subst h0
          go_wp2_with fail
          go_ret
          exact ⟨rfl, G5.out⟩
        · have hneg : n < 0 := by omega
          cases ok2 with
          | false =>
            go_wp2_with fail
            go_ret
            exact ⟨rfl, G5.out⟩
          | true =>
            obtain ⟨hgt, hFZe⟩ := HLast.out (by simp) hneg (by simp)
            have HE := Lib.hid hFZe
            subst hgt
            clear hFZe
            go_wp2_with fail
            (with_reducible refine (vSame_true _ _ FZ FN W5 B5.out.node B2.out.node HE.out).mono ?_)
            rintro e w6 ⟨rfl, f6⟩
            go_wp2_with fail
            go_ret
            exact ⟨rfl, G5.out.trans f6 (fun _ _ q => q)⟩
end Go.Proofs.YtioiljboihehcaaGreatDoor
