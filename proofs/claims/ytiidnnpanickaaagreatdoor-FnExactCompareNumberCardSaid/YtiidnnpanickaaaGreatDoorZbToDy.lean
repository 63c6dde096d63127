import Derived.Test.YtiidnnpanickaaaGreatDoorZbNodes
/- What the claim of FnExactCompareNumberCard needs of: ToDy. -/
namespace Go.Proofs.YtiidnnpanickaaaGreatDoor
set_option linter.unusedVariables false
set_option linter.unusedSimpArgs false
open Go.RowKit
set_option maxHeartbeats 2000000 in
theorem toDyadic_any (T P : Int) (w : World) : Calls Tryz.prog 33 #[.agg #[.int .i64 T, .int .i64 P]] w fun e w' => e = .returned (.agg #[.int .i64 T, .int .i64 P]) ∧ Fr NoM w w' := by
  obtain ⟨w2, hw2⟩ : ∃ w2, w2 = ((w.alloc (.cells #[.int .i64 T, .int .i64 P] 54)).alloc (.cells #[.int .i64 T, .int .i64 P] 45)).alloc (.cells #[.int .i64 T, .int .i64 P] 45) := ⟨_, rfl⟩
  have f2 : Fr NoM w w2 := by rw [hw2]; exact (((Fr.refl NoM w).alloc _).alloc _).alloc _
  have e2 : w2.heap[w.heap.size + 1]? = some (.cells #[.int .i64 T, .int .i64 P] 45 (0, 0)) := by
    have h := heap_alloc_new (w.alloc (.cells #[.int .i64 T, .int .i64 P] 54)) (.cells #[.int .i64 T, .int .i64 P] 45)
    rw [World.size_alloc] at h
    rw [hw2]; exact ((Fr.refl NoM _).alloc _).heap h (fun q => q)
  have k0 : w2.cell? ⟨w.heap.size + 1, 0, none⟩ = some (.int .i64 T) := by rw [cell_of_row w2 _ 0 _ _ _ e2]; rfl
  have k1 : w2.cell? ⟨w.heap.size + 1, 1, none⟩ = some (.int .i64 P) := by rw [cell_of_row w2 _ 1 _ _ _ e2]; rfl
  have F2 := Lib.hid f2; have K0 := Lib.hid k0; have K1 := Lib.hid k1
  clear f2 e2 k0 k1
  go_enter Tryz.func33, Tryz.ntmps33
  go_wp2
  rw [← hw2]
  refine bodyPost_ret (v := .agg #[.int .i64 T, .int .i64 P]) (by simp [results, Tryz.results33, go_sem, K0.out, K1.out]) rfl ?_
  exact ⟨rfl, F2.out⟩
end Go.Proofs.YtiidnnpanickaaaGreatDoor
