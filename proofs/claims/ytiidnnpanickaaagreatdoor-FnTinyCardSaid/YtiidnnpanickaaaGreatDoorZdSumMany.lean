import Derived.Test.YtiidnnpanickaaaGreatDoorZdRefSumForms
import Derived.Test.YtiidnnpanickaaaGreatDoorZdCompareP
/- What the claim of FnTinyCard needs of: SumFormsP SumMany. -/
namespace Go.Proofs.YtiidnnpanickaaaGreatDoor
set_option linter.unusedVariables false
set_option linter.unusedSimpArgs false
open Go.RowKit
set_option maxHeartbeats 1000000 in
theorem l5ZeroR_any (w:World):Calls Tryz.prog 74 #[] w fun e w'=>∃ v',e=.returned (.agg #[v'])∧NodeL (fun b=>w.heap.size≤b) encN w' v' [([],[])]∧Fr NoM w w':=by
  obtain ⟨w2,hw2⟩:∃ w2,w2=(w.alloc (.cells #[.slice (some ⟨w.heap.size + 1,0,none⟩) 1 1] 31)).alloc (.cells #[.slice none 0 0,.slice none 0 0] 82):=⟨_,rfl⟩
  have hf2:Fr NoM w w2:=by rw [hw2];exact ((Fr.refl NoM w).alloc _).alloc _
  have hb0:w2.heap[w.heap.size]?=some (.cells #[.slice (some ⟨w.heap.size + 1,0,none⟩) 1 1] 31 (0,0)):=by
    rw [hw2];exact ((Fr.refl NoM _).alloc _).heap (heap_alloc_new w _) (fun q=>q)
  have hb1:w2.heap[w.heap.size + 1]?=some (.cells #[.slice none 0 0,.slice none 0 0] 82 (0,0)):=by
    have h:=heap_alloc_new (w.alloc (.cells #[.slice (some ⟨w.heap.size + 1,0,none⟩) 1 1] 31)) (.cells #[.slice none 0 0,.slice none 0 0] 82)
    rw [World.size_alloc] at h
    rw [hw2];exact h
  have k0:w2.cell? ⟨w.heap.size,0,none⟩=some (.slice (some ⟨w.heap.size + 1,0,none⟩) 1 1):=by rw [cell_of_row w2 _ 0 _ _ _ hb0];rfl
  have HF2:=Lib.hid hf2;have HB1:=Lib.hid hb1;have HK:=Lib.hid k0
  clear hf2 hb0 hb1 k0
  go_enter Tryz.func74,Tryz.ntmps74
  go_upto_region 1 with fail
  go_wp2_with fail
  rw [← hw2]
  clear hw2
  refine bodyPost_ret (v:=.agg #[.slice (some ⟨w.heap.size + 1,0,none⟩) 1 1]) (by simp [results,Tryz.results74,go_sem,HK.out]) rfl ?_
  refine ⟨_,rfl,?_,HF2.out⟩
  refine ⟨_,1,rfl,by simp,by decide,fun j y hy=>?_⟩
  cases j with
  | zero =>
    have e:([],[])=y:=by simpa using hy
    subst e
    exact ⟨w.heap.size + 1,0,.slice none 0 0,.slice none 0 0,rfl,Nat.le_succ _,by rw [cell_of_row w2 _ _ _ _ _ HB1.out];rfl,by rw [cell_of_row w2 _ _ _ _ _ HB1.out];rfl,SliceOf.nil _ _,SliceOf.nil _ _,fun h=>absurd rfl h,fun h=>absurd rfl h⟩
  | succ j=>simp at hy
end Go.Proofs.YtiidnnpanickaaaGreatDoor
