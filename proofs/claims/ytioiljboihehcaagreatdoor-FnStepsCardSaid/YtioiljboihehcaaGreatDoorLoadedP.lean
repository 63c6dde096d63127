/- The walks of the program's top and loaded: a form's last game's options, and its games put into a pool. -/
import Derived.Test.YtioiljboihehcaaGreatDoorPoolLoad
namespace Go.Proofs.YtioiljboihehcaaGreatDoor
set_option linter.unusedVariables false
set_option linter.unusedSimpArgs false
open Go.RowKit

set_option maxRecDepth 4000 in
set_option maxHeartbeats 4000000 in
theorem top_any {R : Nat → Prop} (nv : Value) (Fs : List PL) (y : PL) (w : World) (hF : NodeL R encN w nv Fs) (hy : Fs[Fs.length - 1]? = some y) :
    Calls Tryz.prog 114 #[.agg #[nv]] w fun e w' => ∃ lv rv, e = .returned (.agg #[lv, rv]) ∧ Nats w lv y.1 ∧ Nats w rv y.2 ∧ (y.1 ≠ [] → ∀ q, lv.ownBlock = some q → R q) ∧ (y.2 ≠ [] → ∀ q, rv.ownBlock = some q → R q) ∧ Fr NoM w w' := by
  obtain ⟨na, nc, rfl, _, _, hnn⟩ := hF
  have hlt : Fs.length - 1 < Fs.length := (List.getElem?_eq_some_iff.1 hy).1
  obtain ⟨b1, o1, lv, rv, ha1, hR1, d1, d2, n1, n2, m1, m2⟩ := hnn _ y hy
  have ix := ixNode na Fs.length nc (Fs.length - 1) b1 o1 hlt ha1
  have hcast : ((Fs.length : Int) - 1) = ((Fs.length - 1 : Nat) : Int) := by omega
  have hl : Fs.length < 9223372036854775808 := by omega
  have hwr : IntKind.i64.wrap ((Fs.length - 1 : Nat) : Int) = ((Fs.length - 1 : Nat) : Int) := by rw [IntKind.wrap_i64]; omega
  obtain ⟨la, lcc, rfl, z⟩ := id n1
  clear z
  obtain ⟨ra, rcc, rfl, z⟩ := id n2
  clear z
  obtain ⟨k, hk⟩ : ∃ k, k = Fs.length - 1 := ⟨_, rfl⟩
  rw [← hk] at ix hcast hwr d1 d2
  have hd1 := World.block_lt_of_cell? w _ d1
  have HN1 := Lib.hid n1; have HN2 := Lib.hid n2; have HM1 := Lib.hid m1; have HM2 := Lib.hid m2
  clear n1 n2 m1 m2 hnn hk
  go_enter Tryz.func114, Tryz.ntmps114
  go_wp2_with fail
  refine bodyPost_ret (v := .agg #[.slice la y.1.length lcc, .slice ra y.2.length rcc]) (by simp [results, Tryz.results114, go_sem]) rfl ?_
  exact ⟨_, _, rfl, HN1.out, HN2.out, HM1.out, HM2.out, ((Fr.refl NoM w).alloc _).alloc _⟩

set_option maxRecDepth 4000 in
set_option maxHeartbeats 8000000 in
theorem loaded_any {R M I : Nat → Prop} (pb : Nat) (nv : Value) (V Fs : List PL) (BV : List Nat) (mo mc ms mn : Value) (w : World) (hP : PoolS M I w pb V BV mo mc ms mn) (hMl : ∀ q, M q → q < w.heap.size) (hIl : ∀ q, I q → q < w.heap.size) (hOK : PoolOK V BV) (hF : NodeL R encN w nv Fs) (hR : ∀ k, R k → ¬ M k)
    (ho : OptsOK Fs) (hn : V.length + Fs.length < 100000000) (hlen : ∀ y ∈ Fs, y.1.length < 100000000 ∧ y.2.length < 100000000) (y : PL) (hy : Fs[Fs.length - 1]? = some y) (r : Nat) (hr : (addB V BV Fs).2.2[Fs.length - 1]? = some r) :
    Calls Tryz.prog 108 #[.pointer (some ⟨pb, 0, none⟩), .agg #[nv]] w fun e w' => ∃ (r1 r2 : Nat) (M' I' : Nat → Prop), e = .returned (.tuple #[.int .i64 (r : Int), .slice (some ⟨r1, 0, none⟩) y.1.length y.1.length, .slice (some ⟨r2, 0, none⟩) y.2.length y.2.length]) ∧
      RowIs 3 encN w' r1 (atAll (addB V BV Fs).2.2 y.1) ∧ RowIs 3 encN w' r2 (atAll (addB V BV Fs).2.2 y.2) ∧ PoolS M' I' w' pb (addB V BV Fs).1 (addB V BV Fs).2.1 mo mc ms mn ∧
      (∀ q, M' q → (M q ∨ w.heap.size ≤ q) ∧ q < r1 ∧ q < r2) ∧ (∀ q, I' q → (I q ∨ w.heap.size ≤ q) ∧ q < r1 ∧ q < r2) ∧ w.heap.size ≤ r1 ∧ w.heap.size ≤ r2 ∧ Fr M w w' := by
  obtain ⟨w1, hw1⟩ : ∃ w1, w1 = w.alloc (.cells #[nv] 28) := ⟨_, rfl⟩
  have f1 : Fr NoM w w1 := by rw [hw1]; exact (Fr.refl NoM w).alloc _
  have hs1 : w1.heap.size = w.heap.size + 1 := by rw [hw1]; simp
  have e1 : w1.heap[w.heap.size]? = some (.cells #[nv] 28 (0, 0)) := by rw [hw1]; exact heap_alloc_new w _
  have hlt : Fs.length - 1 < Fs.length := (List.getElem?_eq_some_iff.1 hy).1
  have hyo := ho _ _ hy
  obtain ⟨ok1, ok2, ok3, ok4, ok5⟩ := addB_ok (bookOK_of hOK) Fs ho
  obtain ⟨na, nc, rfl, z⟩ := id hF
  clear z
  have c1 : w1.cell? ⟨w.heap.size, 0, none⟩ = some (.slice na Fs.length nc) := by rw [cell_of_row _ _ 0 _ _ _ e1]; rfl
  have HLd := Lib.hid (load_any pb (.slice na Fs.length nc) V Fs BV mo mc ms mn w1 (hP.fr0 f1) (fun q hq => by have := hMl q hq; omega) (fun q hq => by have := hIl q hq; omega) hOK (hF.fr0 f1) hR ho hn hlen)
  have HTop := Lib.hid (fun (W : World) (f : Fr M w W) => top_any (.slice na Fs.length nc) Fs y W (hF.fr f (fun k hk => hR k hk)) hy)
  obtain ⟨⟨V', BV', A⟩, hA⟩ : ∃ s, addB V BV Fs = s := ⟨_, rfl⟩
  rw [hA] at HLd ok2 hr ⊢
  dsimp only at HLd ok2 hr ⊢
  have hAl : A.length = Fs.length := ok2
  have hA0 : ∀ x ∈ y.1, x < A.length := fun x hx => by have := hyo.1 x hx; omega
  have hA1 : ∀ x ∈ y.2, x < A.length := fun x hx => by have := hyo.2 x hx; omega
  obtain ⟨hy1, hy2⟩ := hlen y (List.mem_of_getElem? hy)
  have HF1 := Lib.hid f1; have HS1 := Lib.hid hs1; have HA0 := Lib.hid hA0; have HA1 := Lib.hid hA1; have HAl := Lib.hid hAl; have HY1 := Lib.hid hy1; have HY2 := Lib.hid hy2; have HR := Lib.hid hr; have HMl := Lib.hid hMl; have HW1 := Lib.hid hw1
  have HFl := Lib.hid (show Fs.length < 100000000 from by omega)
  have HLt := Lib.hid hlt
  have HN : NodeL R encN w (.slice na Fs.length nc) Fs := hF
  clear hP hMl hIl hOK hF hR ho hn hlen hy hr f1 hs1 e1 hyo ok1 ok2 ok3 ok4 ok5 hA hAl hA0 hA1 hy1 hy2 hlt HN
  go_enter Tryz.func108, Tryz.ntmps108
  go_wp2_with fail
  rw [← HW1.out]
  clear hw1
  refine HLd.out.mono ?_
  rintro e w2 ⟨v2, M2, I2, rfl, hrow, hp2, hM2, hI2, hf2⟩
  obtain ⟨lb, lc, rfl⟩ := hrow.shape
  have HF2 := Lib.hid (HF1.out.any.trans hf2 (fun _ _ q => q))
  have c2 : w2.cell? ⟨w.heap.size, 0, none⟩ = some (.slice na Fs.length nc) := hf2.cell c1 (fun h => by have h0 := HMl.out _ h; simp only at h0; omega)
  have HRow := Lib.hid hrow; have HP2 := Lib.hid hp2; have HM2 := Lib.hid hM2; have HI2 := Lib.hid hI2; have HFs2 := Lib.hid hf2.size
  clear hrow hp2 hM2 hI2 hf2 c1
  go_wp2_with fail
  refine (HTop.out w2 HF2.out).mono ?_
  rintro e w3 ⟨lv, rv, rfl, hn1, hn2, _, _, hf3⟩
  obtain ⟨la, lcc, rfl, z⟩ := id hn1
  clear z
  obtain ⟨ra, rcc, rfl, z⟩ := id hn2
  clear z
  obtain ⟨w4, hw4⟩ : ∃ w4, w4 = w3.alloc (.cells #[.slice la y.1.length lcc, .slice ra y.2.length rcc] 100) := ⟨_, rfl⟩
  have f4 : Fr NoM w3 w4 := by rw [hw4]; exact (Fr.refl NoM w3).alloc _
  have hs4 : w4.heap.size = w3.heap.size + 1 := by rw [hw4]; simp
  have e4 : w4.heap[w3.heap.size]? = some (.cells #[.slice la y.1.length lcc, .slice ra y.2.length rcc] 100 (0, 0)) := by rw [hw4]; exact heap_alloc_new w3 _
  have f24 : Fr NoM w2 w4 := hf3.trans f4 (fun _ _ q => q)
  have hrow4 := HRow.out.fr f24 (fun _ _ q => q)
  obtain ⟨_, _, ee, _, _, hrc⟩ := id hrow4.nats
  cases ee
  obtain ⟨rb, ro, ra1, rcell⟩ := hrc _ r HR.out
  cases ra1
  obtain ⟨n, hn⟩ : ∃ n, A.length = n + 1 := ⟨Fs.length - 1, by have := HAl.out; have := HLt.out; omega⟩
  have hnf : Fs.length - 1 = n := by have := HAl.out; omega
  rw [hnf, Nat.zero_add] at rcell
  have ix := ixInts (some ⟨lb, 0, none⟩) A.length lc n lb 0 (by omega) rfl
  rw [Nat.zero_add] at ix
  have HC := Lib.hid (fun (W : World) (f : Fr NoM w4 W) => show W.cell? ⟨w3.heap.size, 0, none⟩ = some (.slice la y.1.length lcc) ∧ W.cell? ⟨w3.heap.size, 1, none⟩ = some (.slice ra y.2.length rcc) ∧ W.cell? ⟨lb, n, none⟩ = some (.int .i64 (r : Int)) from by
    have h := f.heap e4 (fun q => q)
    exact ⟨by rw [cell_of_row _ _ 0 _ _ _ h]; rfl, by rw [cell_of_row _ _ 1 _ _ _ h]; rfl, f.cell rcell (fun q => q)⟩)
  have hcast : ((A.length : Int) - 1) = (n : Int) := by omega
  have hwr : IntKind.i64.wrap ((n : Nat) : Int) = (n : Int) := by rw [IntKind.wrap_i64]; have := HFl.out; have := HAl.out; omega
  have hv4 := hrow4.nats
  have HT1 := Lib.hid (fun (W : World) (f : Fr NoM w4 W) => ((hn1.fr0 hf3).fr0 f4).fr0 f)
  have HT2 := Lib.hid (fun (W : World) (f : Fr NoM w4 W) => ((hn2.fr0 hf3).fr0 f4).fr0 f)
  have HV := Lib.hid (fun (W : World) (f : Fr NoM w4 W) => hv4.fr0 f)
  have HW4 := Lib.hid hw4; have F24 := Lib.hid f24; have HS4 := Lib.hid hs4; have HRow4 := Lib.hid hrow4; have F34 := Lib.hid hf3
  clear hn1 hn2 hf3 f4 hs4 e4 f24 hrow4 hrc rcell hnf hv4 hn
  go_upto_region 3 with fail
  rw [← HW4.out]
  clear hw4
  have F0 : Fr NoM w4 w4.drew := (Fr.refl NoM w4).drew
  have hs := HC.out w4 (Fr.refl _ _)
  go_region_held3 (fun (W : World) => W.cell? ⟨w3.heap.size, 0, none⟩ = some (.slice la y.1.length lcc) ∧ W.cell? ⟨w3.heap.size, 1, none⟩ = some (.slice ra y.2.length rcc) ∧ W.cell? ⟨lb, n, none⟩ = some (.int .i64 (r : Int)))
    (first | exact HC.out _ (by assumption))
    (first
      | (go_at_call 113; (with_reducible refine (renamed_any (.slice la y.1.length lcc) _ y.1 A _ (HT1.out _ (by assumption)) (HV.out _ (by assumption)) HA0.out (by have := HY1.out; omega)).mono ?_); rintro e wa ⟨rfl, r1, fa⟩; (try simp only [World.size_drew] at r1); have ga : Fr NoM w4 wa := Fr.trans (by assumption) fa (fun _ _ q => q); try (have r2 := RowIs.fr (L := atAll A y.2) (by assumption) fa (fun q => q)))
      | (go_at_call 113; (with_reducible refine (renamed_any (.slice ra y.2.length rcc) _ y.2 A _ (HT2.out _ (by assumption)) (HV.out _ (by assumption)) HA1.out (by have := HY2.out; omega)).mono ?_); rintro e wb ⟨rfl, r2, fb⟩; (try simp only [World.size_drew] at r2); have gb : Fr NoM w4 wb := Fr.trans (by assumption) fb (fun _ _ q => q); try (have r1 := RowIs.fr (L := atAll A y.1) (by assumption) fb (fun q => q)))
      | fail)
  all_goals
    have z1 := ga.size
    have z2 := gb.size
    have z3 := F24.out.size
    have z4 := HFs2.out
    have z5 := HS1.out
    have HZ := Lib.hid (And.intro z1 (And.intro z2 (And.intro z3 (And.intro z4 z5))))
    have R1 := Lib.hid r1; have R2 := Lib.hid r2
    have HG := Lib.hid (fun (W : World) (f : Fr NoM w4 W) => (⟨HP2.out.fr0 (F24.out.trans f (fun _ _ q => q)), HF2.out.trans (F24.out.trans f (fun _ _ q => q)) (fun _ _ q => q.elim)⟩ : PoolS M2 I2 W pb V' BV' mo mc ms mn ∧ Fr M w W))
    clear z1 z2 z3 z4 z5 hs r1 r2
    go_wp2_with fail
    first
      | refine bodyPost_ret (v := .tuple #[.int .i64 (r : Int), .slice (some ⟨w4.heap.size, 0, none⟩) y.1.length y.1.length, .slice (some ⟨wa.heap.size, 0, none⟩) y.2.length y.2.length]) (by simp [results, Tryz.results108, go_sem]; done) rfl ?_
      | refine bodyPost_ret (v := .tuple #[.int .i64 (r : Int), .slice (some ⟨wb.heap.size, 0, none⟩) y.1.length y.1.length, .slice (some ⟨w4.heap.size, 0, none⟩) y.2.length y.2.length]) (by simp [results, Tryz.results108, go_sem]; done) rfl ?_
    refine ⟨_, _, M2, I2, rfl, R1.out, R2.out, (HG.out _ (by assumption)).1, fun q hq => ?_, fun q hq => ?_, ?_, ?_, (HG.out _ (by assumption)).2⟩
    · have h1 := HM2.out q hq
      have h2 := HZ.out
      exact ⟨h1.1.imp_right (by omega), by omega, by omega⟩
    · have h1 := HI2.out q hq
      have h2 := HZ.out
      exact ⟨h1.1.imp_right (by omega), by omega, by omega⟩
    · have h2 := HZ.out; omega
    · have h2 := HZ.out; omega
end Go.Proofs.YtioiljboihehcaaGreatDoor
