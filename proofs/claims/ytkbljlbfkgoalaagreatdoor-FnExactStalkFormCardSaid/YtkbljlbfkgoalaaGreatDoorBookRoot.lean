/- The walks of the reference's (*l3Book).root and reached: they return what their texts say. -/
import Derived.Test.YtkbljlbfkgoalaaGreatDoorBookAdd
namespace Go.Proofs.YtkbljlbfkgoalaaGreatDoor
set_option linter.unusedVariables false
set_option linter.unusedSimpArgs false
open Go.RowKit

def rootB (NL : List (List Nat × List Nat)) (BL : List Nat) (FL : List (List Nat × List Nat)) : Nat := (addB NL BL FL).2.2.getD (FL.length - 1) 0

set_option maxRecDepth 4000 in
set_option maxHeartbeats 4000000 in
theorem root_any {R S : Nat → Prop} (bb : Nat) (nv : Value) (NL FL : List (List Nat × List Nat)) (BL : List Nat) (w : World) (hB : BookS S w bb NL BL) (hOK : BookOK NL BL) (hF : NodeL R encN w nv FL) (hR : ∀ k, R k → ¬ S k)
    (hopt : ∀ (j : Nat) (y : List Nat × List Nat), FL[j]? = some y → (∀ x ∈ y.1, x < j) ∧ ∀ x ∈ y.2, x < j) (hn : NL.length + FL.length < 100000000) (hlen : ∀ y ∈ FL, y.1.length < 100000000 ∧ y.2.length < 100000000) (hne : 0 < FL.length) :
    Calls Tryz.prog 106 #[.pointer (some ⟨bb, 0, none⟩), .agg #[nv]] w fun e w' => ∃ S', e = .returned (.int .i64 (rootB NL BL FL : Nat)) ∧
      BookS S' w' bb (addB NL BL FL).1 (addB NL BL FL).2.1 ∧ (∀ k, S' k → S k ∨ w.heap.size ≤ k) ∧ Fr S w w' := by
  have hlenA : (addB NL BL FL).2.2.length = FL.length := (addB_ok hOK FL hopt).2.1
  have hS0 := hB.cut
  obtain ⟨na, nc, rfl, hnc, hncm, hnn⟩ := id hF
  have HF := Lib.hid hF; have HB := Lib.hid hS0; have HOK := Lib.hid hOK; have HR := Lib.hid hR; have Hopt := Lib.hid hopt; have Hn := Lib.hid hn; have HLen := Lib.hid hlen; have HLA := Lib.hid hlenA
  clear hnn hB hS0 hOK hF hR hopt hn hlen hlenA
  go_enter Tryz.func106, Tryz.ntmps106
  obtain ⟨w0, hw0⟩ : ∃ w0 : World, w0 = w.alloc (.cells #[.slice na FL.length nc] 24) := ⟨_, rfl⟩
  go_wp2_with fail
  rw [← hw0]
  have F0 : Fr NoM w w0 := by rw [hw0]; exact (Fr.refl NoM w).alloc _
  refine (add_any bb (.slice na FL.length nc) NL FL BL w0 (HB.out.fr0 F0) HOK.out (HF.out.fr F0 (fun _ _ q => q)) (fun k h h' => HR.out k h h'.1) Hopt.out Hn.out HLen.out).mono ?_
  rintro e w1 ⟨v, S1, rfl, h1, h2, h3, h4, h5⟩
  have hsz : w0.heap.size = w.heap.size + 1 := by rw [hw0]; simp
  have hlt : FL.length - 1 < (addB NL BL FL).2.2.length := by rw [HLA.out]; omega
  obtain ⟨x, hx⟩ : ∃ x, (addB NL BL FL).2.2[FL.length - 1]? = some x := ⟨_, List.getElem?_eq_getElem hlt⟩
  have hN : Nats w1 v (addB NL BL FL).2.2 := SliceOf.of_owns (n := (addB NL BL FL).2.2.length) (by rw [HLA.out]; exact h1) rfl
  obtain ⟨a1, c1, rfl, _, _, hc⟩ := hN
  obtain ⟨b1, o1, ha, d1⟩ := hc _ x hx
  have ix1 := ixInts a1 (addB NL BL FL).2.2.length c1 (FL.length - 1) b1 o1 hlt ha
  rw [HLA.out] at ix1
  have hxe : rootB NL BL FL = x := by unfold rootB; rw [List.getD_eq_getElem?_getD, hx]; rfl
  have HX := Lib.hid hxe; have H2 := Lib.hid h3; have H3 := Lib.hid h4; have H4 := Lib.hid h5; have HW := Lib.hid hw0; have H0 := Lib.hid F0; have HSZ := Lib.hid hsz
  have hl9 : FL.length < 100000000 := by have := Hn.out; omega
  have hcast : ((FL.length : Int) - 1) = ((FL.length - 1 : Nat) : Int) := by omega
  unfold encN at d1
  rw [HLA.out]
  clear hx hxe h1 h2 h3 h4 h5 hw0 F0 hc ha hsz
  go_wp2
  go_ret
  refine ⟨S1, by rw [HX.out]; rfl, H2.out, fun k hk => ?_, (H0.out.any (M := S)).trans H4.out (fun k _ h => h.1)⟩
  rcases H3.out k hk with h | h
  · exact .inl h.1
  · have := HSZ.out; exact .inr (by omega)

/-- A block that holds a list, one cell an element. -/
def RowIs {α : Type} (e : TypeId) (enc : α → Value) (w : World) (g : Nat) (L : List α) : Prop := w.heap[g]? = some (.cells (L.map enc).toArray e (0, 0))
section
variable {α : Type} {e : TypeId} {enc : α → Value} {w w' : World} {g : Nat} {L : List α}
theorem RowIs.fr {M : Nat → Prop} (h : RowIs e enc w g L) (hf : Fr M w w') (hm : ¬ M g) : RowIs e enc w' g L := hf.heap h hm
theorem RowIs.cell (h : RowIs e enc w g L) (i : Nat) (hi : i < L.length) : w.cell? ⟨g, i, none⟩ = some (enc L[i]) := by
  rw [cell_of_row w g i _ _ _ h]; simp [hi]
theorem RowIs.set (h : RowIs e enc w g L) (i : Nat) (x : α) : RowIs e enc (w.setCell ⟨g, i, none⟩ (enc x)) g (L.set i x) := by
  unfold RowIs; rw [heap_set h]; simp [List.map_set]
theorem RowIs.frozen (h : RowIs e enc w g L) (i : Nat) : w.frozen? ⟨g, i, none⟩ = false := by unfold RowIs at h; simp [World.frozen?, h]
theorem RowIs.slice (h : RowIs e enc w g L) (hl : L.length ≤ 9223372036854775807) : SliceOf enc w (.slice (some ⟨g, 0, none⟩) L.length L.length) L :=
  ⟨_, _, rfl, Nat.le_refl _, hl, fun j x hx => ⟨g, 0, rfl, by
    have hj := (List.getElem?_eq_some_iff.1 hx).1
    rw [Nat.zero_add, h.cell j hj]
    rw [List.getElem?_eq_getElem hj] at hx; cases hx; rfl⟩⟩
end

/-- The cells of a new slice. -/
def fillC {α : Type} (enc : α → Value) (x : α) (n : Nat) : Array Value := ((List.replicate n x).map enc).toArray
theorem RowIs.made {α : Type} (e : TypeId) (enc : α → Value) (w : World) (x : α) (n : Nat) : RowIs e enc (w.alloc (.cells (fillC enc x n) e)) w.heap.size (List.replicate n x) := heap_alloc_new w _
theorem RowIs.made1 {α : Type} (e : TypeId) (enc : α → Value) (w : World) (x y : α) (n i : Nat) : RowIs e enc (w.alloc (.cells ((fillC enc x n).setIfInBounds i (enc y)) e)) w.heap.size ((List.replicate n x).set i y) := by
  unfold RowIs; rw [heap_alloc_new w _]; unfold fillC; rw [List.setIfInBounds_toArray, List.map_set]
theorem infoBool : (Tryz.prog.info? 4).map (fun i => (i.zero, i.size, i.bytes)) = some (some (.bool false), 1, 1) := by kernel_rfl
theorem ixBools (g n c k : Nat) (hk : k < n) (w : World) :
    (Instr.indexAt 145 (.slice (some ⟨g, 0, none⟩) n c) (.int .i64 (k : Int))).run Tryz.prog w = .ok (.pointer (some ⟨g, k, none⟩)) w := by
  go_simp
theorem ixInt0 (g n c k : Nat) (hk : k < n) (w : World) :
    (Instr.indexAt 75 (.slice (some ⟨g, 0, none⟩) n c) (.int .i64 (k : Int))).run Tryz.prog w = .ok (.pointer (some ⟨g, k, none⟩)) w := by
  go_simp

def markL (m : List Bool) (L : List Nat) : List Bool := L.foldl (fun m x => m.set x true) m
def reachStep (NL : List (List Nat × List Nat)) (m : List Bool) (k : Nat) : List Bool :=
  if m.getD k false = true then markL (markL m (NL.getD k ([], [])).1) (NL.getD k ([], [])).2 else m
def reachFrom (NL : List (List Nat × List Nat)) : Nat → List Bool → List Bool
  | 0, m => m
  | n + 1, m => reachFrom NL n (reachStep NL m n)
def reachB (NL : List (List Nat × List Nat)) (root : Nat) : List Bool := reachFrom NL (root + 1) ((List.replicate (root + 1) false).set root true)
theorem markL_length (m : List Bool) (L : List Nat) : (markL m L).length = m.length := by
  unfold markL
  induction L generalizing m with
  | nil => rfl
  | cons x l ih => rw [List.foldl_cons, ih, List.length_set]
theorem markL_snoc (m : List Bool) (L : List Nat) (x : Nat) : markL m (L ++ [x]) = (markL m L).set x true := by simp [markL]

set_option maxRecDepth 4000 in
set_option maxHeartbeats 4000000 in
theorem reached_any (bb root : Nat) (NL : List (List Nat × List Nat)) (BL : List Nat) (w : World) (hB : Book w bb NL BL) (hr : root < NL.length) (hopt : ∀ (j : Nat) (y : List Nat × List Nat), NL[j]? = some y → (∀ x ∈ y.1, x < j) ∧ ∀ x ∈ y.2, x < j)
    (hn : NL.length < 1000000000) : Calls Tryz.prog 137 #[.pointer (some ⟨bb, 0, none⟩), .int .i64 (root : Int)] w fun e w' => e = .returned (.slice (some ⟨w.heap.size, 0, none⟩) ((root : Nat) + 1 : Nat) ((root : Nat) + 1 : Nat)) ∧
      RowIs 4 encB w' w.heap.size (reachB NL root) ∧ Fr NoM w w' := by
  obtain ⟨nv, bv, NV, hB⟩ := hB
  have hbl := hB.blk
  have c0 : w.cell? ⟨bb, 0, none⟩ = some nv := by rw [cell_of_row w bb 0 _ _ _ hbl]; rfl
  obtain ⟨na, nc, rfl, hnc, hncm, hnn⟩ := hB.nodeL
  have hmk : ∀ W : World, (Instr.makeSlice 145 (.int .i64 ((root : Int) + 1)) (.int .i64 ((root : Int) + 1))).run Tryz.prog W = .ok (.slice (some ⟨W.heap.size, 0, none⟩) (root + 1 : Nat) (root + 1 : Nat)) (W.alloc (.cells (fillC encB false (root + 1)) 4)) := by
    intro W
    obtain ⟨i0, hi, hz0, hz1, hz2⟩ := info_parts infoBool
    have h := run_make (P := Tryz.prog) W 145 4 i0 (.bool false) Tryz.underlying145 hi hz0 .i64 .i64 ((root : Int) + 1) ((root : Int) + 1) (by omega) (by omega) (by rw [hz2]; omega) (by omega)
    rw [h, hz1, show ((root : Int) + 1).toNat = root + 1 from by omega, Nat.mul_one]
    have : madeCells (Value.cells (.bool false)) (root + 1) = (fillC encB false (root + 1)) := by
      apply Array.ext'
      unfold fillC
      rw [List.toList_toArray, madeCells, Array.toList_map, Array.toList_range]
      refine (List.eq_replicate_iff.2 ⟨by simp, fun b hb => ?_⟩ : _ = List.replicate (root + 1) (Value.bool false)).trans (by simp [encB])
      obtain ⟨y, _, rfl⟩ := List.mem_map.1 hb
      simp [Value.cells, Nat.mod_one]
    rw [this]
  have ix0 := fun W => ixBools w.heap.size (root + 1) (root + 1) root (by omega) W
  have HNn := Lib.hid hnn; have C0 := Lib.hid c0; have Hopt := Lib.hid hopt
  have r0 := RowIs.made 4 encB w false (root + 1)
  have z0 := r0.frozen root
  have k0 := r0.cell root (by simp)
  have R0 := Lib.hid r0
  clear hnn c0 hopt hB hbl r0
  go_enter Tryz.func137, Tryz.ntmps137
  go_wp2
  go_loopw [6] (fun i wr => ∃ (n : Nat) (m : List Bool), i = .int .i64 ((n : Int) - 1) ∧ n ≤ root + 1 ∧ m.length = root + 1 ∧ RowIs 4 encB wr w.heap.size m ∧ reachFrom NL n m = reachB NL root ∧ Fr NoM w wr) (fun i _ => (intOf i + 1).toNat)
  case atStart => exact ⟨root + 1, (List.replicate (root + 1) false).set root true, by go_num, Nat.le_refl _, by simp, RowIs.made1 4 encB w false true (root + 1) root, rfl, (Fr.refl NoM w).alloc _⟩
  case round =>
    obtain ⟨n, m, rfl, hn', hm, hrow, hre, hfr⟩ := hrel
    cases n with
    | zero =>
      have HRow := Lib.hid hrow; have HRe := Lib.hid hre; have HFr := Lib.hid hfr
      clear hrow hre hfr
      go_wp2
      go_ret
      refine ⟨by simp, ?_, HFr.out⟩
      rw [← HRe.out]; exact HRow.out
    | succ k =>
      rw [show (((k + 1 : Nat) : Int) - 1) = (k : Int) from by omega]
      have hkm : k < m.length := by omega
      have hkN : k < NL.length := by omega
      have ixm := fun (j : Nat) (hj : j < root + 1) W => ixBools w.heap.size (root + 1) (root + 1) j hj W
      have ixk := ixm k (by omega)
      have d0 := hrow.cell k hkm
      have hstep : reachStep NL m k = if m[k] = true then markL (markL m NL[k].1) NL[k].2 else m := by
        simp only [reachStep, List.getD_eq_getElem?_getD, List.getElem?_eq_getElem hkm, List.getElem?_eq_getElem hkN, Option.getD_some]
      unfold reachFrom at hre
      rw [hstep] at hre
      have HIx := Lib.hid ixm; have HRow := Lib.hid hrow; have HRe := Lib.hid hre; have HFr := Lib.hid hfr; have HM := Lib.hid hm
      clear ixm hrow hre hfr hm hstep
      by_cases hmk : m[k] = true
      · have hre := HRe.out
        rw [if_pos hmk] at hre
        rw [hmk] at d0
        unfold encB at d0
        have HRe1 := Lib.hid hre
        clear HRe hre hmk
        obtain ⟨b1, o1, lv, rv, ha1, _, e1, e2, n1, n2, _, _⟩ := HNn.out k NL[k] (List.getElem?_eq_getElem _)
        obtain ⟨x1, x2⟩ := Hopt.out k NL[k] (List.getElem?_eq_getElem _)
        have ix := ixNode na NL.length nc k b1 o1 hkN ha1
        have hL9 : NL[k].1.length ≤ 9223372036854775807 := by obtain ⟨a, c, _, h1, h2, _⟩ := n1; omega
        have hR9 : NL[k].2.length ≤ 9223372036854775807 := by obtain ⟨a, c, _, h1, h2, _⟩ := n2; omega
        obtain ⟨la, lc, rfl, hlc⟩ := cellNats n1
        obtain ⟨ra, rc, rfl, hrc⟩ := cellNats n2
        have HE1 := Lib.hid e1; have HE2 := Lib.hid e2; have HLc := Lib.hid hlc; have HRc := Lib.hid hrc; have HX1 := Lib.hid x1; have HX2 := Lib.hid x2
        clear e1 e2 hlc hrc x1 x2 n1 n2 ha1
        go_wp2
        go_loopw [7] (fun i wq => ∃ j : Nat, i = .int .i64 j ∧ j ≤ NL[k].1.length ∧ RowIs 4 encB wq w.heap.size (markL m (NL[k].1.take j)) ∧ Fr NoM w wq) (fun i _ => NL[k].1.length - (intOf i).toNat)
        case atStart => exact ⟨0, rfl, Nat.zero_le _, HRow.out, HFr.out⟩
        case round =>
          obtain ⟨j, rfl, hj, hrow, hfr⟩ := hrel
          have c0 := hfr.cell C0.out (fun q => q)
          have e1 := hfr.cell HE1.out (fun q => q)
          by_cases hlt : j < NL[k].1.length
          · have hx := HX1.out NL[k].1[j] (List.getElem_mem _)
            obtain ⟨b2, o2, ha2, d2⟩ := HLc.out j NL[k].1[j] (by simp)
            have d2' := hfr.cell d2 (fun q => q)
            unfold encN at d2'
            have ix2 := ixInts la NL[k].1.length lc j b2 o2 hlt ha2
            have ix3 := HIx.out NL[k].1[j] (by omega)
            have hml : (markL m (NL[k].1.take j)).length = root + 1 := by rw [markL_length]; exact HM.out
            have k1 := hrow.cell NL[k].1[j] (by omega)
            have z1 := hrow.frozen NL[k].1[j]
            have hset : (markL m (NL[k].1.take j)).set NL[k].1[j] true = markL m (NL[k].1.take (j + 1)) := by rw [List.take_succ_eq_append_getElem hlt, markL_snoc]
            have hnew := hrow.set NL[k].1[j] true
            rw [hset] at hnew
            have hfr2 := hfr.setCell ⟨w.heap.size, NL[k].1[j], none⟩ (encB true) (fun h => absurd h (Nat.lt_irrefl _))
            have HNew := Lib.hid hnew; have HF2 := Lib.hid hfr2
            clear hset hnew hfr2 hrow hfr d2 ha2
            go_wp2
            go_roundw
            case rel => exact ⟨j + 1, by go_num, by omega, HNew.out, HF2.out⟩
            case measure => simp [intOf]; omega
          · have hj' : j = NL[k].1.length := by omega
            subst hj'
            rw [List.take_length] at hrow
            have HRow1 := Lib.hid hrow; have HFr1 := Lib.hid hfr
            clear hrow hfr HRow HFr
            go_wp2
            go_loopw [8] (fun i wq => ∃ j : Nat, i = .int .i64 j ∧ j ≤ NL[k].2.length ∧ RowIs 4 encB wq w.heap.size (markL (markL m NL[k].1) (NL[k].2.take j)) ∧ Fr NoM w wq) (fun i _ => NL[k].2.length - (intOf i).toNat)
            case atStart => exact ⟨0, rfl, Nat.zero_le _, HRow1.out, HFr1.out⟩
            case round =>
              clear HRow1 HFr1
              obtain ⟨j, rfl, hj, hrow, hfr⟩ := hrel
              have c0 := hfr.cell C0.out (fun q => q)
              have e2 := hfr.cell HE2.out (fun q => q)
              by_cases hlt : j < NL[k].2.length
              · have hx := HX2.out NL[k].2[j] (List.getElem_mem _)
                obtain ⟨b2, o2, ha2, d2⟩ := HRc.out j NL[k].2[j] (by simp)
                have d2' := hfr.cell d2 (fun q => q)
                unfold encN at d2'
                have ix2 := ixInts ra NL[k].2.length rc j b2 o2 hlt ha2
                have ix3 := HIx.out NL[k].2[j] (by omega)
                have hml : (markL (markL m NL[k].1) (NL[k].2.take j)).length = root + 1 := by rw [markL_length, markL_length]; exact HM.out
                have k1 := hrow.cell NL[k].2[j] (by omega)
                have z1 := hrow.frozen NL[k].2[j]
                have hset : (markL (markL m NL[k].1) (NL[k].2.take j)).set NL[k].2[j] true = markL (markL m NL[k].1) (NL[k].2.take (j + 1)) := by rw [List.take_succ_eq_append_getElem hlt, markL_snoc]
                have hnew := hrow.set NL[k].2[j] true
                rw [hset] at hnew
                have hfr2 := hfr.setCell ⟨w.heap.size, NL[k].2[j], none⟩ (encB true) (fun h => absurd h (Nat.lt_irrefl _))
                have HNew := Lib.hid hnew; have HF2 := Lib.hid hfr2
                clear hset hnew hfr2 hrow hfr d2 ha2
                go_wp2
                go_roundw
                case rel => exact ⟨j + 1, by go_num, by omega, HNew.out, HF2.out⟩
                case measure => simp [intOf]; omega
              · have hj' : j = NL[k].2.length := by omega
                subst hj'
                rw [List.take_length] at hrow
                have HRow2 := Lib.hid hrow; have HFr2 := Lib.hid hfr
                have HM2 := Lib.hid (show (markL (markL m NL[k].1) NL[k].2).length = root + 1 by rw [markL_length, markL_length]; exact HM.out)
                clear hrow hfr
                go_wp2
                go_roundw
                case rel => exact ⟨k, _, by go_num, by omega, HM2.out, HRow2.out, HRe1.out, HFr2.out⟩
                case measure => simp [intOf]
      · have hre := HRe.out
        rw [if_neg hmk] at hre
        have hmk' : m[k] = false := by simpa using hmk
        rw [hmk'] at d0
        unfold encB at d0
        have HRe1 := Lib.hid hre
        clear HRe hre hmk hmk'
        go_wp2
        go_roundw
        case rel => exact ⟨k, m, by go_num, by omega, HM.out, HRow.out, HRe1.out, HFr.out⟩
        case measure => simp [intOf]

end Go.Proofs.YtkbljlbfkgoalaaGreatDoor
