/- The walks of the reference's l4Of and l6Book: a good form's own book, and its order. -/
import Derived.Test.YtioiljboihehcaaGreatDoorRefDrop
import Derived.Test.YtioiljboihehcaaGreatDoorDropLaw
import Derived.Test.YtioiljboihehcaaGreatDoorRefGood
import Derived.RegionTactic
namespace Go.Proofs.YtioiljboihehcaaGreatDoor
set_option linter.unusedVariables false
set_option linter.unusedSimpArgs false
open Go.RowKit

set_option maxRecDepth 4000 in
set_option maxHeartbeats 2000000 in
theorem l4Of_any {R : Nat → Prop} (bb : Nat) (v : Value) (NL : List PL) (w : World) (hv : w.cell? ⟨bb, 0, none⟩ = some v) (hN : NodeL R encN w v NL) (hn : NL.length < 1000) :
    Calls Tryz.prog 164 #[.pointer (some ⟨bb, 0, none⟩)] w fun e w' => ∃ ob kb : Nat, e = .returned (.pointer (some ⟨ob, 0, none⟩)) ∧ w.heap.size ≤ ob ∧ w.heap.size ≤ kb ∧ OrdR w' ob bb kb NL (List.replicate (NL.length * NL.length) 0) ∧ Fr NoM w w' := by
  have hlow := hN.low
  obtain ⟨a, c, rfl, _, _, _⟩ := hN
  have hNN : NL.length * NL.length < 1000000 := by
    have h1 := Nat.mul_le_mul (show NL.length ≤ 999 by omega) (show NL.length ≤ 999 by omega)
    omega
  obtain ⟨N2, hN2⟩ : ∃ N2, N2 = NL.length * NL.length := ⟨_, rfl⟩
  have hm : (NL.length : Int) * (NL.length : Int) = (N2 : Int) := by rw [hN2]; exact (Int.natCast_mul _ _).symm
  have hb2 : N2 < 1000000 := by omega
  have mk := fun W => mk_ints N2 W (by omega)
  have HLow := Lib.hid hlow; have HV := Lib.hid hv; have HN2 := Lib.hid hN2
  have hbb : bb < w.heap.size := World.block_lt_of_cell? w _ hv
  clear hlow hNN hN2
  go_enter Tryz.func164, Tryz.ntmps164
  go_wp2_with fail
  go_region
  all_goals
    go_wp2_with fail
    go_ret
    have f2 : Fr NoM w ((w.alloc (.cells (fillC encN 0 N2) 3)).alloc (.cells #[.pointer (some ⟨bb, 0, none⟩), .slice (some ⟨w.heap.size, 0, none⟩) N2 N2] 132)).drew := (((Fr.refl NoM w).alloc _).alloc _).drew
    have e2 := heap_alloc_new (w.alloc (.cells (fillC encN 0 N2) 3)) (.cells #[.pointer (some ⟨bb, 0, none⟩), .slice (some ⟨w.heap.size, 0, none⟩) N2 N2] 132)
    rw [World.size_alloc] at e2
    have e3 := ((Fr.refl NoM _).drew).heap e2 (fun q => q)
    have er : RowIs 3 encN (w.alloc (.cells (fillC encN 0 N2) 3)) w.heap.size (List.replicate N2 0) := RowIs.made 3 encN w 0 N2
    refine ⟨w.heap.size + 1, w.heap.size, rfl, by omega, Nat.le_refl _, ⟨?_, ?_, ⟨_, f2.cell HV.out (fun q => q), (HLow.out.fr0 f2).mono (fun k hk e => ?_)⟩, by omega, by omega, ?_, by rw [List.length_replicate]⟩, f2⟩
    · rw [cell_of_row _ _ 0 _ _ _ e3]; rfl
    · rw [cell_of_row _ _ 1 _ _ _ e3, ← HN2.out]; rfl
    · have hk : k < w.heap.size := hk
      omega
    · rw [← HN2.out]
      exact er.fr (((Fr.refl NoM _).alloc _).drew) (fun q => q)
theorem KOK.start (C : List Nat) (N n m : Nat) : KOK C N n (List.replicate m 0) := fun i j _ _ _ => .inl (by
  rw [List.getD_eq_getElem?_getD, List.getElem?_replicate]
  split <;> rfl)

set_option maxRecDepth 4000 in
set_option maxHeartbeats 2000000 in
theorem l6Book_any {R : Nat → Prop} (nv : Value) (Fs : List PL) (w : World) (h : NodeL R encN w nv Fs) (hg : goodI (i2 Fs)) :
    Calls Tryz.prog 116 #[.agg #[nv]] w fun e w' => ∃ (ob bb kb : Nat) (S : Nat → Prop), e = .returned (.tuple #[.pointer (some ⟨ob, 0, none⟩), .int .i64 ((Fs.length - 1 : Nat) : Int)]) ∧ BookS S w' bb Fs (bornsF Fs) ∧ (∀ q, S q → w.heap.size ≤ q ∧ q ≠ kb ∧ q ≠ ob) ∧ w.heap.size ≤ ob ∧ w.heap.size ≤ kb ∧ OrdR w' ob bb kb Fs (List.replicate (Fs.length * Fs.length) 0) ∧ Fr NoM w w' := by
  obtain ⟨hp, hle, hlen, hP, hadd, hroot⟩ := goodI_parts hg
  have hlow := h.low
  obtain ⟨a, c, rfl, _⟩ := h
  obtain ⟨w2, hw2⟩ : ∃ w2, w2 = (w.alloc (.cells #[.slice a Fs.length c] 28)).alloc (.cells #[.slice none 0 0, .slice none 0 0] 129) := ⟨_, rfl⟩
  have f2 : Fr NoM w w2 := by rw [hw2]; exact ((Fr.refl NoM w).alloc _).alloc _
  have hs2 : w2.heap.size = w.heap.size + 2 := by rw [hw2]; simp
  have e1 : w2.heap[w.heap.size]? = some (.cells #[.slice a Fs.length c] 28 (0, 0)) := by rw [hw2]; exact ((Fr.refl NoM _).alloc _).heap (heap_alloc_new w _) (fun q => q)
  have e2 : w2.heap[w.heap.size + 1]? = some (.cells #[.slice none 0 0, .slice none 0 0] 129 (0, 0)) := by
    have h := heap_alloc_new (w.alloc (.cells #[.slice a Fs.length c] 28)) (.cells #[.slice none 0 0, .slice none 0 0] 129)
    rw [World.size_alloc] at h
    rw [hw2]; exact h
  have c1 : w2.cell? ⟨w.heap.size, 0, none⟩ = some (.slice a Fs.length c) := by rw [cell_of_row _ _ 0 _ _ _ e1]; rfl
  have hroot' := root_any (w.heap.size + 1) (.slice a Fs.length c) [] Fs [] w2 (BookS.made e2) BookOK.nil (hlow.fr0 f2) (fun k hk e => by have hk : k < w.heap.size := hk; have e : k = w.heap.size + 1 := e; omega) hP.opts (by simp; omega) (fun y hy => by have := hlen y hy; omega) hp
  rw [hadd, hroot] at hroot'
  have HR := Lib.hid hroot'; have HW := Lib.hid hw2; have F2 := Lib.hid f2; have HS2 := Lib.hid hs2
  have HLe := Lib.hid hle
  clear hroot' hw2 f2 hs2 e1 e2 hlow hlen hP hadd hroot hp hle
  go_enter Tryz.func116, Tryz.ntmps116
  go_wp2_with fail
  rw [← HW.out]
  refine HR.out.mono ?_
  rintro e w3 ⟨S, rfl, hB, hS, f3⟩
  have f23 : Fr NoM w w3 := F2.out.trans f3 (fun q hq e => by have e : q = w.heap.size + 1 := e; omega)
  have hBc := hB.cut
  obtain ⟨bnv, bv, NV, hBA, _⟩ := id hB
  have hbv : w3.cell? ⟨w.heap.size + 1, 0, none⟩ = some bnv := by rw [cell_of_row _ _ 0 _ _ _ hBA.blk]; rfl
  have HO := Lib.hid (l4Of_any (w.heap.size + 1) bnv Fs w3 hbv hBA.nodeL (by have := HLe.out; omega))
  have HB := Lib.hid hBc; have HS := Lib.hid hS; have F23 := Lib.hid f23
  clear hB hBc hBA hS f3 f23 hbv c1
  go_wp2_with fail
  refine HO.out.mono ?_
  rintro e w4 ⟨ob, kb, rfl, hob, hkb, hO, f4⟩
  have HOr := Lib.hid hO; have F4 := Lib.hid f4
  have hsz := F23.out.size
  clear hO f4
  go_wp2_with fail
  go_ret2
  exact ⟨ob, _, kb, _, rfl, HB.out.fr0 F4.out, fun q hq => ⟨by
    rcases HS.out q hq.1 with e | e
    · have e : q = w.heap.size + 1 := e; omega
    · have := HS2.out; omega, by have := hq.2; omega, by have := hq.2; omega⟩, by omega, by omega, HOr.out, F23.out.trans F4.out (fun _ _ q => q)⟩
end Go.Proofs.YtioiljboihehcaaGreatDoor
