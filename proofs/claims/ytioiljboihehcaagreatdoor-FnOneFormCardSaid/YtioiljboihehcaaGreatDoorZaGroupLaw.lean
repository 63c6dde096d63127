import Derived.Test.YtioiljboihehcaaGreatDoorZaRefDrop
import Derived.Test.YtioiljboihehcaaGreatDoorZaThroughP
import Derived.Test.YtioiljboihehcaaGreatDoorZaRefGood
import Derived.RegionTactic
import Derived.Deep.CutRange
import Derived.Test.YtioiljboihehcaaGreatDoorZaCanLaw
/- What the claim of FnOneFormCard needs of: RefBook RefDropForm SumFn GroupLaw. -/
namespace Go.Proofs.YtioiljboihehcaaGreatDoor

set_option linter.unusedVariables false

set_option linter.unusedSimpArgs false

open Go.RowKit

theorem KOK.start (C : List Nat) (N n m : Nat) : KOK C N n (List.replicate m 0) := fun i j _ _ _ => .inl (by
  rw [List.getD_eq_getElem?_getD, List.getElem?_replicate]
  split <;> rfl)

end Go.Proofs.YtioiljboihehcaaGreatDoor

namespace Go.Proofs.YtioiljboihehcaaGreatDoor

set_option linter.unusedVariables false

set_option linter.unusedSimpArgs false

open Go.RowKit

/-- A form that came in, in numbers that are not negative. -/
def natF (Fi : List (List Int × List Int)) : List PL := Fi.map fun y => (y.1.map Int.toNat, y.2.map Int.toNat)

theorem nat_ints (L : List Nat) : (ints L).map Int.toNat = L := by
  unfold ints
  rw [List.map_map]
  exact (List.map_congr_left fun x _ => Int.toNat_natCast x).trans (List.map_id _)

theorem natF_i2 (Fs : List PL) : natF (i2 Fs) = Fs := by
  unfold natF i2
  rw [List.map_map]
  refine (List.map_congr_left fun y _ => ?_).trans (List.map_id _)
  exact Prod.ext (nat_ints _) (nat_ints _)

set_option maxHeartbeats 2000000 in
theorem l3If_any {R : Nat → Prop} (nv : Value) (NL : List PL) (w : World) (h : NodeL R encN w nv NL) :
    Calls Tryz.prog 74 #[.agg #[nv]] w fun e w' => ∃ v', e = .returned (.tuple #[.agg #[v'], .bool (fitsB NL)]) ∧ NodeL R encN w' v' (if fitsB NL = true then NL else []) ∧ Fr NoM w w' := by
  obtain ⟨w1, hw1⟩ : ∃ w1, w1 = (w.alloc (.cells #[nv] 28)).alloc (.cells #[.slice none 0 0] 28) := ⟨_, rfl⟩
  have f1 : Fr NoM w w1 := by rw [hw1]; exact ((Fr.refl NoM w).alloc _).alloc _
  have e0 : w1.heap[w.heap.size]? = some (.cells #[nv] 28 (0, 0)) := by rw [hw1]; exact ((Fr.refl NoM _).alloc _).heap (heap_alloc_new w _) (fun q => q)
  have e1 : w1.heap[w.heap.size + 1]? = some (.cells #[.slice none 0 0] 28 (0, 0)) := by
    have h := heap_alloc_new (w.alloc (.cells #[nv] 28)) (.cells #[.slice none 0 0] 28)
    rw [World.size_alloc] at h
    rw [hw1]; exact h
  have HFit := Lib.hid (l3Fits_any nv NL w1 (h.fr0 f1))
  have HK := Lib.hid (fun (W : World) (f : Fr NoM w1 W) => show W.cell? ⟨w.heap.size, 0, none⟩ = some nv ∧ W.cell? ⟨w.heap.size + 1, 0, none⟩ = some (.slice none 0 0) ∧ W.frozen? ⟨w.heap.size + 1, 0, none⟩ = false from by
    have h0 := f.heap e0 (fun q => q)
    have h1 := f.heap e1 (fun q => q)
    exact ⟨by rw [cell_of_row W _ 0 _ _ _ h0]; rfl, by rw [cell_of_row W _ 0 _ _ _ h1]; rfl, by simp [World.frozen?, h1]⟩)
  have HN := Lib.hid h
  obtain ⟨a, c, rfl, z⟩ := h
  clear z
  obtain ⟨fb, hfb⟩ : ∃ fb, fb = fitsB NL := ⟨_, rfl⟩
  rw [← hfb] at HFit ⊢
  clear hfb
  obtain ⟨k0, k1, z1⟩ := HK.out w1 (Fr.refl _ _)
  have HW := Lib.hid hw1; have F1 := Lib.hid f1
  clear hw1 f1 e0 e1
  go_enter Tryz.func74, Tryz.ntmps74
  go_wp2_with fail
  rw [← HW.out]
  refine HFit.out.mono ?_
  rintro e w2 ⟨rfl, f2⟩
  clear k0 k1 z1
  obtain ⟨k0, k1, z1⟩ := HK.out w2 f2
  have F2 := Lib.hid f2
  clear f2
  have hset : ∀ u, Fr NoM w (w2.setCell ⟨w.heap.size + 1, 0, none⟩ u) := fun u => (F1.out.trans F2.out (fun _ _ q => q)).setCell ⟨w.heap.size + 1, 0, none⟩ u (fun h => by have h : w.heap.size + 1 < w.heap.size := h; omega)
  have HSet := Lib.hid hset
  clear hset
  cases fb with
  | false =>
    go_wp2_with fail
    refine bodyPost_ret (v := .tuple #[.agg #[.slice none 0 0], .bool false]) (by simp [results, Tryz.results74, go_sem, k1]) rfl ?_
    exact ⟨_, rfl, ⟨none, 0, rfl, Nat.le_refl _, by decide, by simp⟩, HSet.out _⟩
  | true =>
    go_wp2_with fail
    refine bodyPost_ret (v := .tuple #[.agg #[.slice a NL.length c], .bool true]) (by simp [results, Tryz.results74, go_sem, k1]) rfl ?_
    exact ⟨_, rfl, HN.out.fr0 (HSet.out _), HSet.out _⟩

end Go.Proofs.YtioiljboihehcaaGreatDoor

namespace Go.Proofs.YtioiljboihehcaaGreatDoor

set_option linter.unusedVariables false

set_option linter.unusedSimpArgs false

open Go.RowKit

noncomputable def sumN (Fs Gs : List PL) : List PL := formOf (sumC (codeF Fs) (codeF Gs))

open Classical in
/-- Whether two forms have a sum that is told. -/
noncomputable def sumOk (Fi Gi : List (List Int × List Int)) : Bool := decide (goodI Fi ∧ goodI Gi ∧ Fi.length * Gi.length ≤ 1600 ∧ fitsB (sumN (natF Fi) (natF Gi)) = true)

open Classical in
theorem sumOk_iff {Fi Gi : List (List Int × List Int)} : sumOk Fi Gi = true ↔ goodI Fi ∧ goodI Gi ∧ Fi.length * Gi.length ≤ 1600 ∧ fitsB (sumN (natF Fi) (natF Gi)) = true := by
  unfold sumOk; exact ⟨fun h => of_decide_eq_true h, fun h => decide_eq_true h⟩

theorem sumOk_good {Fi Gi : List (List Int × List Int)} (h : sumOk Fi Gi = true) : goodI (i2 (sumN (natF Fi) (natF Gi))) := (form_good (formOf_is _) (sumOk_iff.1 h).2.2.2).1

theorem good_zero : goodI (i2 [([], [])]) := good_st [] 0 (by decide)

noncomputable def negN (Fs : List PL) : List PL := formOf (negC (codeF Fs))

theorem negN_good {Fs : List PL} (h : goodI (i2 Fs)) : fitsB (negN Fs) = true ∧ goodI (i2 (negN Fs)) := by
  have hf := neg_fits (good_form h) (formOf_is _) (by rw [← fits_i2]; exact h.1)
  exact ⟨hf, (form_good (formOf_is _) hf).1⟩

end Go.Proofs.YtioiljboihehcaaGreatDoor

namespace Go.Proofs.YtioiljboihehcaaGreatDoor

set_option linter.unusedVariables false

set_option linter.unusedSimpArgs false

open Go.RowKit

/-- The game without options. -/
def zeroC : Nat := mkC [] []

theorem zeroL (i : Nat) : ¬ hasL zeroC i := fun h => by
  have := (hasL_mk [] [] i).1 h
  simp at this

theorem zeroR (i : Nat) : ¬ hasR zeroC i := fun h => by
  have := (hasR_mk [] [] i).1 h
  simp at this

theorem ge_zero (x : Nat) : geC x zeroC = true ↔ ∀ r, hasR x r → geC zeroC r = false := by
  rw [geC_iff]
  exact ⟨fun h => h.1, fun h => ⟨h, fun l hl => absurd hl (zeroL l)⟩⟩

theorem zero_ge (x : Nat) : geC zeroC x = true ↔ ∀ l, hasL x l → geC l zeroC = false := by
  rw [geC_iff]
  exact ⟨fun h => h.2, fun h => ⟨fun r hr => absurd hr (zeroR r), h⟩⟩

theorem ge_diff' (n : Nat) : ∀ a b, a + b < n → geC (sumC a (negC b)) zeroC = geC a b ∧ geC zeroC (sumC a (negC b)) = geC b a := by
  induction n with
  | zero => intro a b h; omega
  | succ n ih =>
    intro a b hn
    have k1 : ∀ x, x < a → geC (sumC x (negC b)) zeroC = geC x b ∧ geC zeroC (sumC x (negC b)) = geC b x := fun x hx => ih x b (by omega)
    have k2 : ∀ x, x < b → geC (sumC a (negC x)) zeroC = geC a x ∧ geC zeroC (sumC a (negC x)) = geC x a := fun x hx => ih a x (by omega)
    constructor
    · refine Bool.eq_iff_iff.2 ?_
      rw [ge_zero, geC_iff]
      constructor
      · intro h
        exact ⟨fun r hr => by rw [← (k1 r (optC_lt (.inr hr))).2]; exact h _ ((hasR_sum a (negC b) _).2 (.inl ⟨r, hr, rfl⟩)), fun l hl => by rw [← (k2 l (optC_lt (.inl hl))).2]; exact h _ ((hasR_sum a (negC b) _).2 (.inr ⟨negC l, (hasR_neg b _).2 ⟨l, hl, rfl⟩, rfl⟩))⟩
      · rintro ⟨h1, h2⟩ r hr
        rcases (hasR_sum a (negC b) r).1 hr with ⟨l, hl, rfl⟩ | ⟨l, hl, rfl⟩
        · rw [(k1 l (optC_lt (.inr hl))).2]; exact h1 l hl
        · obtain ⟨y, hy, rfl⟩ := (hasR_neg b l).1 hl
          rw [(k2 y (optC_lt (.inl hy))).2]; exact h2 y hy
    · refine Bool.eq_iff_iff.2 ?_
      rw [zero_ge, geC_iff]
      constructor
      · intro h
        exact ⟨fun r hr => by rw [← (k2 r (optC_lt (.inr hr))).1]; exact h _ ((hasL_sum a (negC b) _).2 (.inr ⟨negC r, (hasL_neg b _).2 ⟨r, hr, rfl⟩, rfl⟩)), fun l hl => by rw [← (k1 l (optC_lt (.inl hl))).1]; exact h _ ((hasL_sum a (negC b) _).2 (.inl ⟨l, hl, rfl⟩))⟩
      · rintro ⟨h1, h2⟩ r hr
        rcases (hasL_sum a (negC b) r).1 hr with ⟨l, hl, rfl⟩ | ⟨l, hl, rfl⟩
        · rw [(k1 l (optC_lt (.inl hl))).1]; exact h2 l hl
        · obtain ⟨y, hy, rfl⟩ := (hasL_neg b l).1 hl
          rw [(k2 y (optC_lt (.inr hy))).1]; exact h1 y hy

/-- One game is at least another one just where Right, moving first, does not win the difference. -/
theorem ge_diff (a b : Nat) : geC (sumC a (negC b)) zeroC = geC a b ∧ geC zeroC (sumC a (negC b)) = geC b a := ge_diff' _ a b (Nat.lt_succ_self _)

theorem codeF_formOf (c : Nat) : codeF (formOf c) = c := (of_form (formOf_is c)).2.2.2.2.2

end Go.Proofs.YtioiljboihehcaaGreatDoor

namespace Go.Proofs.YtioiljboihehcaaGreatDoor

set_option linter.unusedVariables false

set_option linter.unusedSimpArgs false

open Go.RowKit

/-- The negative of a form is no longer than the form. -/
theorem negN_len {Fs : List PL} (h : goodI (i2 Fs)) : (negN Fs).length ≤ Fs.length := by
  obtain ⟨P, hA⟩ := good_form h
  obtain ⟨P', hA'⟩ := formOf_is (negC (codeF Fs))
  have hPl := hA.book.len
  have hPl' := hA'.book.len
  have sub : ∀ x ∈ P', x ∈ P.map negC := fun x hx => by
    obtain ⟨y, hy, rfl⟩ := ((hA'.sub x).1 hx).neg
    exact List.mem_map.2 ⟨y, (hA.sub y).2 hy, rfl⟩
  have hlen : P'.length ≤ P.length := by
    have := hA'.book.nodup.length_le_of_subset sub
    rwa [List.length_map] at this
  show (formOf (negC (codeF Fs))).length ≤ _
  omega

/-- The form of a difference. -/
noncomputable def minusN (Fs Gs : List PL) : List PL := formOf (sumC (codeF Fs) (negC (codeF Gs)))

theorem minusN_sum (Fs Gs : List PL) : minusN Fs Gs = sumN Fs (negN Gs) := by
  unfold minusN sumN negN
  rw [codeF_formOf]

end Go.Proofs.YtioiljboihehcaaGreatDoor
