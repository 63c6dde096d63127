/- What the laws' marks do to a list of nodes, in plain words. | The laws' own helpers: two forms alike, marks laid, marks held. -/
import Derived.Test.YtioiljboihehcaaGreatDoorOrderKit
import Derived.Deep.CutRange
namespace Go.Proofs.YtioiljboihehcaaGreatDoor
set_option linter.unusedVariables false
set_option linter.unusedSimpArgs false
open Go.RowKit

def cntF (FN : List PL) : Nat := (FN.map fun y => y.1.length + y.2.length).sum
def markF : Nat → List PL → List PL
  | _, [] => []
  | k, y :: l => (List.range' k y.1.length, List.range' (k + y.1.length) y.2.length) :: markF (k + (y.1.length + y.2.length)) l
theorem cntF_nil : cntF [] = 0 := rfl
theorem cntF_cons (y : PL) (l : List PL) : cntF (y :: l) = y.1.length + y.2.length + cntF l := by simp [cntF]
theorem cntF_append (A B : List PL) : cntF (A ++ B) = cntF A + cntF B := by simp [cntF]
theorem markF_length (k : Nat) (Fs : List PL) : (markF k Fs).length = Fs.length := by
  induction Fs generalizing k with
  | nil => rfl
  | cons y l ih => simp [markF, ih]
theorem markF_append (k : Nat) (A B : List PL) : markF k (A ++ B) = markF k A ++ markF (k + cntF A) B := by
  induction A generalizing k with
  | nil => simp [markF, cntF_nil]
  | cons y l ih =>
    rw [List.cons_append, markF, markF, ih, cntF_cons, List.cons_append]
    rw [show k + (y.1.length + y.2.length) + cntF l = k + (y.1.length + y.2.length + cntF l) from by omega]
theorem cntF_take_succ {Fs : List PL} {i : Nat} {y : PL} (h : Fs[i]? = some y) : cntF (Fs.take (i + 1)) = cntF (Fs.take i) + (y.1.length + y.2.length) := by
  have hi := (List.getElem?_eq_some_iff.1 h).1
  have e : Fs[i] = y := (List.getElem?_eq_some_iff.1 h).2
  rw [List.take_succ_eq_append_getElem hi, cntF_append, e]
  simp [cntF]
theorem cntF_take_le (Fs : List PL) (i : Nat) : cntF (Fs.take i) ≤ cntF Fs := by
  have h := cntF_append (Fs.take i) (Fs.drop i)
  rw [List.take_append_drop] at h
  omega
theorem markF_take_succ {k : Nat} {Fs : List PL} {i : Nat} {y : PL} (h : Fs[i]? = some y) : markF k (Fs.take (i + 1)) = markF k (Fs.take i) ++ [(List.range' (k + cntF (Fs.take i)) y.1.length, List.range' (k + cntF (Fs.take i) + y.1.length) y.2.length)] := by
  have hi := (List.getElem?_eq_some_iff.1 h).1
  have e : Fs[i] = y := (List.getElem?_eq_some_iff.1 h).2
  rw [List.take_succ_eq_append_getElem hi, markF_append, e]
  rfl
theorem markF_get {k : Nat} {Fs : List PL} {i : Nat} {y : PL} (h : Fs[i]? = some y) : (markF k Fs)[i]? = some (List.range' (k + cntF (Fs.take i)) y.1.length, List.range' (k + cntF (Fs.take i) + y.1.length) y.2.length) := by
  have hi := (List.getElem?_eq_some_iff.1 h).1
  have e := markF_append k (Fs.take (i + 1)) (Fs.drop (i + 1))
  rw [List.take_append_drop, markF_take_succ h, List.append_assoc] at e
  rw [e, List.getElem?_append_right (by rw [markF_length]; simp; omega), markF_length, List.length_take, Nat.min_eq_left (by omega), Nat.sub_self]
  rfl
/-- The list of nodes when the first i have been marked. -/
def midF (k i : Nat) (Fs : List PL) : List PL := markF k (Fs.take i) ++ Fs.drop i
theorem midF_zero (k : Nat) (Fs : List PL) : midF k 0 Fs = Fs := by simp [midF, markF]
theorem midF_all (k : Nat) (Fs : List PL) : midF k Fs.length Fs = markF k Fs := by simp [midF]
theorem midF_length (k i : Nat) (Fs : List PL) (h : i ≤ Fs.length) : (midF k i Fs).length = Fs.length := by simp [midF, markF_length]; omega
theorem midF_get {k i : Nat} {Fs : List PL} {y : PL} (h : Fs[i]? = some y) : (midF k i Fs)[i]? = some y := by
  have hi := (List.getElem?_eq_some_iff.1 h).1
  unfold midF
  rw [List.getElem?_append_right (by rw [markF_length]; simp; omega), markF_length, List.length_take, Nat.min_eq_left (by omega), Nat.sub_self, List.getElem?_drop]
  exact h
theorem midF_next {k i : Nat} {Fs : List PL} {y : PL} (h : Fs[i]? = some y) : ((midF k i Fs).set i (List.range' (k + cntF (Fs.take i)) y.1.length, y.2)).set i (List.range' (k + cntF (Fs.take i)) y.1.length, List.range' (k + cntF (Fs.take i) + y.1.length) y.2.length) = midF k (i + 1) Fs := by
  have hi := (List.getElem?_eq_some_iff.1 h).1
  rw [List.set_set]
  unfold midF
  have hl : (markF k (Fs.take i)).length = i := by rw [markF_length]; simp; omega
  rw [List.set_append_right _ _ (by omega), hl, Nat.sub_self, List.drop_eq_getElem_cons hi, List.set_cons_zero, markF_take_succ h]
  simp

theorem blocksOf_cons (x : Value × Value) (NV : List (Value × Value)) : blocksOf (x :: NV) = [x.1, x.2].filterMap Value.ownBlock ++ blocksOf NV := by
  simp only [blocksOf, flat2, List.flatMap_cons, List.filterMap_append]
theorem pair_mem1 {l r : Value} {q : Nat} (h : l.ownBlock = some q) : q ∈ [l, r].filterMap Value.ownBlock := List.mem_filterMap.2 ⟨l, by simp, h⟩
theorem pair_mem2 {l r : Value} {q : Nat} (h : r.ownBlock = some q) : q ∈ [l, r].filterMap Value.ownBlock := List.mem_filterMap.2 ⟨r, by simp, h⟩
theorem sep_same {NV : List (Value × Value)} (h : (blocksOf NV).Nodup) {i : Nat} {x : Value × Value} (hx : NV[i]? = some x) (q : Nat) (hq : x.1.ownBlock = some q) : x.2.ownBlock ≠ some q := by
  induction NV generalizing i with
  | nil => simp at hx
  | cons y l ih =>
    rw [blocksOf_cons, List.nodup_append] at h
    cases i with
    | zero =>
      have e : y = x := by simpa using hx
      subst e
      intro hq'
      have h1 := h.1
      simp [List.filterMap_cons, hq, hq'] at h1
    | succ i => exact ih h.2.1 (by simpa using hx)
theorem sep_other {NV : List (Value × Value)} (h : (blocksOf NV).Nodup) {i j : Nat} {x z : Value × Value} (hx : NV[i]? = some x) (hz : NV[j]? = some z) (hij : i ≠ j) (q : Nat) (hq : x.1.ownBlock = some q ∨ x.2.ownBlock = some q) : z.1.ownBlock ≠ some q ∧ z.2.ownBlock ≠ some q := by
  induction NV generalizing i j with
  | nil => simp at hx
  | cons y l ih =>
    rw [blocksOf_cons, List.nodup_append] at h
    have hm : ∀ (k : Nat) (u : Value × Value), l[k]? = some u → (u.1.ownBlock = some q ∨ u.2.ownBlock = some q) → q ∈ blocksOf l := fun k u hu hq => by
      rcases hq with hq | hq
      · exact (mem_blocks hu).1 q hq
      · exact (mem_blocks hu).2 q hq
    have hp : ∀ (u : Value × Value), (u.1.ownBlock = some q ∨ u.2.ownBlock = some q) → q ∈ [u.1, u.2].filterMap Value.ownBlock := fun u hq => by
      rcases hq with hq | hq
      · exact pair_mem1 hq
      · exact pair_mem2 hq
    cases i with
    | zero =>
      have e : y = x := by simpa using hx
      subst e
      cases j with
      | zero => exact absurd rfl hij
      | succ j =>
        have hz : l[j]? = some z := by simpa using hz
        refine ⟨fun e => h.2.2 q (hp _ hq) q (hm j z hz (.inl e)) rfl, fun e => h.2.2 q (hp _ hq) q (hm j z hz (.inr e)) rfl⟩
    | succ i =>
      have hx : l[i]? = some x := by simpa using hx
      cases j with
      | zero =>
        have e : y = z := by simpa using hz
        subst e
        refine ⟨fun e => h.2.2 q (hp _ (.inl e)) q (hm i x hx hq) rfl, fun e => h.2.2 q (hp _ (.inr e)) q (hm i x hx hq) rfl⟩
      | succ j => exact ih h.2.1 hx (by simpa using hz) (fun e => hij (by rw [e]))
/-- A row of a node that is written anew. -/
theorem NodesN.upd1 {D : Nat} {w w' : World} {v : Value} {FN : List PL} {NV : List (Value × Value)} (h : NodesN D w v FN NV) {i : Nat} {x : Value × Value} {y : PL} {L : List Nat} (hx : NV[i]? = some x) (hy : FN[i]? = some y) (hf : Fr (Own1 x.1) w w') (hL : Nats w' x.1 L) (hB : ∀ q, x.1.ownBlock = some q → RowB w' q) : NodesN D w' v (FN.set i (L, y.2)) NV := by
  have hvne : ∀ q, v.ownBlock = some q → ¬ Own1 x.1 q := fun q hq e => (h.blk q ((mem_blocks hx).1 q e)).2.2 hq
  refine ⟨owns_fr h.row hf hvne, by rw [List.length_set]; exact h.len, fun j z u hz hu => ?_, fun q hq => ⟨(h.blk q hq).1, Nat.lt_of_lt_of_le (h.blk q hq).2.1 hf.size, (h.blk q hq).2.2⟩, h.sep, fun q hq => ?_⟩
  · rw [List.getElem?_set] at hu
    by_cases e : i = j
    · subst e
      rw [if_pos rfl, if_pos (List.getElem?_eq_some_iff.1 hy).1] at hu
      cases hu
      rw [hx] at hz; cases hz
      exact ⟨hL, (h.nats i x y hx hy).2.fr hf (fun _ q hq e => sep_same h.sep hx q e hq)⟩
    · rw [if_neg e] at hu
      obtain ⟨s1, s2⟩ := h.nats j z u hz hu
      exact ⟨s1.fr hf (fun _ q hq e' => (sep_other h.sep hx hz e q (.inl e')).1 hq), s2.fr hf (fun _ q hq e' => (sep_other h.sep hx hz e q (.inl e')).2 hq)⟩
  · by_cases e : x.1.ownBlock = some q
    · exact hB q e
    · exact (h.thaw q hq).fr hf e
theorem NodesN.upd2 {D : Nat} {w w' : World} {v : Value} {FN : List PL} {NV : List (Value × Value)} (h : NodesN D w v FN NV) {i : Nat} {x : Value × Value} {y : PL} {L : List Nat} (hx : NV[i]? = some x) (hy : FN[i]? = some y) (hf : Fr (Own1 x.2) w w') (hL : Nats w' x.2 L) (hB : ∀ q, x.2.ownBlock = some q → RowB w' q) : NodesN D w' v (FN.set i (y.1, L)) NV := by
  have hvne : ∀ q, v.ownBlock = some q → ¬ Own1 x.2 q := fun q hq e => (h.blk q ((mem_blocks hx).2 q e)).2.2 hq
  refine ⟨owns_fr h.row hf hvne, by rw [List.length_set]; exact h.len, fun j z u hz hu => ?_, fun q hq => ⟨(h.blk q hq).1, Nat.lt_of_lt_of_le (h.blk q hq).2.1 hf.size, (h.blk q hq).2.2⟩, h.sep, fun q hq => ?_⟩
  · rw [List.getElem?_set] at hu
    by_cases e : i = j
    · subst e
      rw [if_pos rfl, if_pos (List.getElem?_eq_some_iff.1 hy).1] at hu
      cases hu
      rw [hx] at hz; cases hz
      exact ⟨(h.nats i x y hx hy).1.fr hf (fun _ q hq e => sep_same h.sep hx q hq e), hL⟩
    · rw [if_neg e] at hu
      obtain ⟨s1, s2⟩ := h.nats j z u hz hu
      exact ⟨s1.fr hf (fun _ q hq e' => (sep_other h.sep hx hz e q (.inr e')).1 hq), s2.fr hf (fun _ q hq e' => (sep_other h.sep hx hz e q (.inr e')).2 hq)⟩
  · by_cases e : x.2.ownBlock = some q
    · exact hB q e
    · exact (h.thaw q hq).fr hf e
/-- A place of a row that is written. -/
theorem nats_set {w : World} {L : List Nat} {b off n c i : Nat} (x : Nat) (h : Nats w (.slice (some ⟨b, off, none⟩) n c) L) (hb : RowB w b) (hi : i < L.length) :
    (∃ u, w.cell? ⟨b, off + i, none⟩ = some u) ∧ w.frozen? ⟨b, off + i, none⟩ = false ∧ Nats (w.setCell ⟨b, off + i, none⟩ (encN x)) (.slice (some ⟨b, off, none⟩) n c) (L.set i x) ∧ RowB (w.setCell ⟨b, off + i, none⟩ (encN x)) b := by
  obtain ⟨cur, hb⟩ := hb
  obtain ⟨a, c', e, h1, h2, h3⟩ := h
  cases e
  obtain ⟨b', off', e, c1⟩ := h3 i L[i] (List.getElem?_eq_getElem hi)
  cases e
  have hs := heap_set (i := off + i) hb (encN x)
  have hsz : off + i < cur.size := by
    rw [cell_of_row w b (off + i) cur _ _ hb] at c1
    exact (Array.getElem?_eq_some_iff.1 c1).1
  refine ⟨⟨_, c1⟩, by simp [World.frozen?, hb], ⟨some ⟨b, off, none⟩, c, by rw [List.length_set], by rw [List.length_set]; exact h1, h2, fun j y hy => ⟨b, off, rfl, ?_⟩⟩, ⟨_, hs⟩⟩
  rw [cell_of_row _ b (off + j) _ _ _ hs]
  rw [List.getElem?_set] at hy
  by_cases e : i = j
  · subst e
    rw [if_pos rfl, if_pos hi] at hy
    cases hy
    rw [Array.getElem?_setIfInBounds_self_of_lt hsz]
  · rw [if_neg e] at hy
    obtain ⟨b2, off2, e2, c2⟩ := h3 j y hy
    cases e2
    rw [cell_of_row w b (off + j) cur _ _ hb] at c2
    rw [Array.getElem?_setIfInBounds_ne (by omega)]
    exact c2
end Go.Proofs.YtioiljboihehcaaGreatDoor
namespace Go.Proofs.YtioiljboihehcaaGreatDoor
set_option linter.unusedVariables false
set_option linter.unusedSimpArgs false
open Go.RowKit

set_option maxHeartbeats 400000 in
theorem eqIntS_any (av bv : Value) (A B : List Int) (w : World) (hA : Ints w av A) (hB : Ints w bv B) :
    Calls Tryz.prog 63 #[av, bv] w fun e w' => e = .returned (.bool (decide (A = B))) ∧ ∃ q, w' = w.drewN q := by
  obtain ⟨aa, ac, rfl, hac, hacm, hA⟩ := hA
  obtain ⟨ba, bc, rfl, hbc, hbcm, hB⟩ := hB
  have HA := Lib.hid hA; clear hA
  have HB := Lib.hid hB; clear hB
  by_cases hn : A.length = B.length
  · have hne : ((A.length : Int) != (B.length : Int)) = false := by simp [hn]
    have hfin : A.take A.length = B.take A.length → decide (A = B) = true := fun h => by
      rw [List.take_length, hn, List.take_length] at h; simp [h]
    have HN := Lib.hid hn; clear hn
    have HF := Lib.hid hfin; clear hfin
    go_enter Tryz.func63, Tryz.ntmps63
    go_wp2
    go_loopw [5] (fun i wr => ∃ k q : Nat, k ≤ A.length ∧ i = .int .i64 k ∧ A.take k = B.take k ∧ wr = w.drewN q) (fun i _ => A.length - (intOf i).toNat)
    case atStart => exact ⟨0, 0, by omega, rfl, rfl, rfl⟩
    case round =>
      obtain ⟨k, q, hk, rfl, ht, rfl⟩ := hrel
      have Ht := Lib.hid ht; clear ht
      by_cases hlt' : k < A.length
      · have hlt2 : k < B.length := by rw [← HN.out]; exact hlt'
        obtain ⟨b1, o1, ha1, hc1⟩ := HA.out k A[k] (by simp)
        obtain ⟨b2, o2, ha2, hc2⟩ := HB.out k B[k] (by simp)
        have ix1 := ixInts aa A.length ac k b1 o1 hlt' ha1
        have ix2 := ixInts ba B.length bc k b2 o2 hlt2 ha2
        unfold encI at hc1 hc2
        clear ha1 ha2
        by_cases hxy : A[k] = B[k]
        · have hxy' : (A[k] != B[k]) = false := by simp [hxy]
          have Hxy := Lib.hid hxy; clear hxy
          go_wp2
          go_quiet (fail)
          go_wp2
          go_roundw
          case rel => exact ⟨k + 1, _, by omega, by go_num, by rw [List.take_succ_eq_append_getElem hlt', List.take_succ_eq_append_getElem hlt2, Ht.out, Hxy.out], rfl⟩
          case measure => simp [intOf]; omega
        · have hxy' : (A[k] != B[k]) = true := by simp [hxy]
          have hfin : decide (A = B) = false := by
            have : A ≠ B := fun e => by subst e; exact hxy rfl
            simp [this]
          have Hxy := Lib.hid hxy; clear hxy
          have Hfin := Lib.hid hfin; clear hfin
          go_wp2
          go_quiet (fail)
          go_wp2
          go_ret
          exact ⟨by rw [Hfin.out]; rfl, _, World.drewN_drewN _ _ _⟩
      · go_wp2
        go_ret
        have hk' : k = A.length := by omega
        subst hk'
        exact ⟨by rw [HF.out Ht.out]; rfl, _, rfl⟩
  · have hne : ((A.length : Int) != (B.length : Int)) = true := by rw [bne_iff_ne]; omega
    have hfin : decide (A = B) = false := by
      have : A ≠ B := fun e => hn (by rw [e])
      simp [this]
    have Hfin := Lib.hid hfin; clear hfin hn
    go_enter Tryz.func63, Tryz.ntmps63
    go_wp2
    go_ret
    exact ⟨by rw [Hfin.out]; rfl, 0, rfl⟩
theorem eqIntSN_any (av bv : Value) (A B : List Nat) (w : World) (hA : Nats w av A) (hB : Nats w bv B) :
    Calls Tryz.prog 63 #[av, bv] w fun e w' => e = .returned (.bool (decide (A = B))) ∧ ∃ q, w' = w.drewN q := by
  refine (eqIntS_any av bv (ints A) (ints B) w hA.ints hB.ints).mono ?_
  rintro e w' ⟨rfl, h⟩
  have e1 : decide (ints A = ints B) = decide (A = B) := by
    by_cases h : A = B
    · subst h; simp
    · rw [decide_eq_false h, decide_eq_false (fun e => h (ints_inj e))]
  rw [e1]
  exact ⟨rfl, h⟩

set_option maxHeartbeats 2000000 in
theorem eqNode_any (l1 r1 l2 r2 : Value) (x y : PL) (w : World) (h1 : Nats w l1 x.1) (h2 : Nats w r1 x.2) (h3 : Nats w l2 y.1) (h4 : Nats w r2 y.2) :
    Calls Tryz.prog 156 #[.agg #[l1, r1], .agg #[l2, r2]] w fun e w' => e = .returned (.bool (decide (x = y))) ∧ Fr NoM w w' := by
  have B1 := Lib.hid (fun (W : World) (f : Fr NoM w W) => h1.fr0 f)
  have B2 := Lib.hid (fun (W : World) (f : Fr NoM w W) => h2.fr0 f)
  have B3 := Lib.hid (fun (W : World) (f : Fr NoM w W) => h3.fr0 f)
  have B4 := Lib.hid (fun (W : World) (f : Fr NoM w W) => h4.fr0 f)
  have O1 : l1.oneCell' = true := by obtain ⟨_, _, rfl, _⟩ := h1; rfl
  have O2 : r1.oneCell' = true := by obtain ⟨_, _, rfl, _⟩ := h2; rfl
  have O3 : l2.oneCell' = true := by obtain ⟨_, _, rfl, _⟩ := h3; rfl
  have O4 : r2.oneCell' = true := by obtain ⟨_, _, rfl, _⟩ := h4; rfl
  clear h1 h2 h3 h4
  have F2 : ∀ n, Fr NoM w ((((w.alloc (.cells #[l1, r1] 100)).alloc (.cells #[l2, r2] 100))).drewN n) := fun n => (((Fr.refl NoM w).alloc _).alloc _).trans (M' := NoM) ⟨rfl, rfl, rfl, Nat.le_refl _, fun _ _ _ => rfl⟩ (fun _ _ q => q)
  have HF2 := Lib.hid F2; clear F2
  by_cases e1 : x.1 = y.1
  · have hc1 : decide (x.1 = y.1) = true := decide_eq_true e1
    have E1 := Lib.hid e1; clear e1
    by_cases e2 : x.2 = y.2
    · have hc2 : decide (x.2 = y.2) = true := decide_eq_true e2
      have hr : decide (x = y) = true := decide_eq_true (Prod.ext E1.out e2)
      have HR := Lib.hid hr; clear hr e2
      go_enter Tryz.func156, Tryz.ntmps156
      go_wp2_with fail
      refine (eqIntSN_any l1 l2 x.1 y.1 _ (B1.out _ (HF2.out 0)) (B3.out _ (HF2.out 0))).mono ?_
      rintro e w' ⟨rfl, q, rfl⟩
      go_wp2_with fail
      refine (eqIntSN_any r1 r2 x.2 y.2 _ (B2.out _ (HF2.out q)) (B4.out _ (HF2.out q))).mono ?_
      rintro e w' ⟨rfl, q2, rfl⟩
      go_wp2
      go_ret
      exact ⟨by rw [HR.out]; rfl, HF2.out (q + q2)⟩
    · have hc2 : decide (x.2 = y.2) = false := decide_eq_false e2
      have hr : decide (x = y) = false := decide_eq_false (fun e => e2 (by rw [e]))
      have HR := Lib.hid hr; clear hr e2
      go_enter Tryz.func156, Tryz.ntmps156
      go_wp2_with fail
      refine (eqIntSN_any l1 l2 x.1 y.1 _ (B1.out _ (HF2.out 0)) (B3.out _ (HF2.out 0))).mono ?_
      rintro e w' ⟨rfl, q, rfl⟩
      go_wp2_with fail
      refine (eqIntSN_any r1 r2 x.2 y.2 _ (B2.out _ (HF2.out q)) (B4.out _ (HF2.out q))).mono ?_
      rintro e w' ⟨rfl, q2, rfl⟩
      go_wp2
      go_ret
      exact ⟨by rw [HR.out]; rfl, HF2.out (q + q2)⟩
  · have hc1 : decide (x.1 = y.1) = false := decide_eq_false e1
    have hr : decide (x = y) = false := decide_eq_false (fun e => e1 (by rw [e]))
    have HR := Lib.hid hr; clear hr e1
    go_enter Tryz.func156, Tryz.ntmps156
    go_wp2_with fail
    refine (eqIntSN_any l1 l2 x.1 y.1 _ (B1.out _ (HF2.out 0)) (B3.out _ (HF2.out 0))).mono ?_
    rintro e w' ⟨rfl, q, rfl⟩
    go_wp2
    go_ret
    exact ⟨by rw [HR.out]; rfl, HF2.out q⟩

set_option maxRecDepth 4000 in
set_option maxHeartbeats 2000000 in
theorem eqNodeS_any {R S : Nat → Prop} (av bv : Value) (A B : List PL) (w : World) (hA : NodeL R encN w av A) (hB : NodeL S encN w bv B) :
    Calls Tryz.prog 82 #[av, bv] w fun e w' => e = .returned (.bool (decide (A = B))) ∧ Fr NoM w w' := by
  obtain ⟨aa, ac, rfl, hac, hacm, hA⟩ := hA
  obtain ⟨ba, bc, rfl, hbc, hbcm, hB⟩ := hB
  have HA := Lib.hid hA; clear hA
  have HB := Lib.hid hB; clear hB
  by_cases hn : A.length = B.length
  · have hne : ((A.length : Int) != (B.length : Int)) = false := by simp [hn]
    have hfin : A.take A.length = B.take A.length → decide (A = B) = true := fun h => by
      rw [List.take_length, hn, List.take_length] at h; simp [h]
    have HN := Lib.hid hn; clear hn
    have HF := Lib.hid hfin; clear hfin
    go_enter Tryz.func82, Tryz.ntmps82
    go_wp2
    go_loopw [5] (fun i wr => ∃ k : Nat, k ≤ A.length ∧ i = .int .i64 k ∧ A.take k = B.take k ∧ Fr NoM w wr) (fun i _ => A.length - (intOf i).toNat)
    case atStart => exact ⟨0, by omega, rfl, rfl, Fr.refl _ _⟩
    case round =>
      obtain ⟨k, hk, rfl, ht, hfr⟩ := hrel
      obtain ⟨w7, rfl⟩ : ∃ w7, w7 = wr := ⟨_, rfl⟩
      have Ht := Lib.hid ht; have HFr := Lib.hid hfr; clear ht hfr
      by_cases hlt' : k < A.length
      · have hlt2 : k < B.length := by rw [← HN.out]; exact hlt'
        obtain ⟨b1, o1, l1, r1, ha1, _, c1, c2, s1, s2, _, _⟩ := HA.out k A[k] (by simp)
        obtain ⟨b2, o2, l2, r2, ha2, _, d1, d2, t1, t2, _, _⟩ := HB.out k B[k] (by simp)
        have ix1 := ixNode aa A.length ac k b1 o1 hlt' ha1
        have ix2 := ixNode ba B.length bc k b2 o2 hlt2 ha2
        have HC := Lib.hid (fun (W : World) (f : Fr NoM w7 W) => show W.cell? ⟨b1, o1 + k * 2, none⟩ = some l1 ∧ W.cell? ⟨b1, o1 + k * 2 + 1, none⟩ = some r1 ∧ W.cell? ⟨b2, o2 + k * 2, none⟩ = some l2 ∧ W.cell? ⟨b2, o2 + k * 2 + 1, none⟩ = some r2 from
          have f0 := HFr.out.trans f (fun _ _ q => q)
          ⟨f0.cell c1 (fun q => q), f0.cell c2 (fun q => q), f0.cell d1 (fun q => q), f0.cell d2 (fun q => q)⟩)
        have HE := Lib.hid (fun (W : World) (f : Fr NoM w7 W) =>
          have f0 := HFr.out.trans f (fun _ _ q => q)
          eqNode_any l1 r1 l2 r2 A[k] B[k] W (s1.fr0 f0) (s2.fr0 f0) (t1.fr0 f0) (t2.fr0 f0))
        obtain ⟨eb, heb⟩ : ∃ eb, eb = decide (A[k] = B[k]) := ⟨_, rfl⟩
        rw [← heb] at HE
        have HEb := Lib.hid heb
        clear ha1 ha2 c1 c2 d1 d2 s1 s2 t1 t2 heb
        go_upto_region 6 with fail
        have F0 : Fr NoM w7 w7.drew := (Fr.refl NoM w7).drew
        cases eb with
        | true =>
          go_region_held3 (fun (W : World) => W.cell? ⟨b1, o1 + k * 2, none⟩ = some l1 ∧ W.cell? ⟨b1, o1 + k * 2 + 1, none⟩ = some r1 ∧ W.cell? ⟨b2, o2 + k * 2, none⟩ = some l2 ∧ W.cell? ⟨b2, o2 + k * 2 + 1, none⟩ = some r2)
            (exact HC.out _ (by assumption))
            (first
              | (go_at_call 156; (with_reducible refine (HE.out _ (by assumption)).mono ?_); rintro e w8 ⟨rfl, f8⟩; have F8 : Fr NoM w7 w8 := Fr.trans (by assumption) f8 (fun _ _ q => q))
              | fail)
          all_goals
            have G8 := Lib.hid F8
            clear f8 F8 F0
            go_wp2
            go_roundw
            case rel => exact ⟨k + 1, by omega, by go_num, by rw [List.take_succ_eq_append_getElem hlt', List.take_succ_eq_append_getElem hlt2, Ht.out, of_decide_eq_true HEb.out.symm], HFr.out.trans G8.out (fun _ _ q => q)⟩
            case measure => simp [intOf]; omega
        | false =>
          have hf : decide (A = B) = false := by
            have h1 : A[k] ≠ B[k] := of_decide_eq_false HEb.out.symm
            have : A ≠ B := fun e => by subst e; exact h1 rfl
            simp [this]
          have HFn := Lib.hid hf; clear hf
          go_region_held3 (fun (W : World) => W.cell? ⟨b1, o1 + k * 2, none⟩ = some l1 ∧ W.cell? ⟨b1, o1 + k * 2 + 1, none⟩ = some r1 ∧ W.cell? ⟨b2, o2 + k * 2, none⟩ = some l2 ∧ W.cell? ⟨b2, o2 + k * 2 + 1, none⟩ = some r2)
            (exact HC.out _ (by assumption))
            (first
              | (go_at_call 156; (with_reducible refine (HE.out _ (by assumption)).mono ?_); rintro e w8 ⟨rfl, f8⟩; have F8 : Fr NoM w7 w8 := Fr.trans (by assumption) f8 (fun _ _ q => q))
              | fail)
          all_goals
            have G8 := Lib.hid F8
            clear f8 F8 F0
            go_wp2
            go_ret
            exact ⟨by rw [HFn.out]; rfl, HFr.out.trans G8.out (fun _ _ q => q)⟩
      · have hk' : k = A.length := by omega
        have hf : decide (A = B) = true := HF.out (by rw [← hk']; exact Ht.out)
        have HFn := Lib.hid hf; have HK := Lib.hid hk'; clear hk' hf
        go_wp2
        go_ret
        exact ⟨by rw [HFn.out]; rfl, HFr.out⟩
  · have hne : ((A.length : Int) != (B.length : Int)) = true := by rw [bne_iff_ne]; omega
    have hfin : decide (A = B) = false := by
      have : A ≠ B := fun e => hn (by rw [e])
      simp [this]
    have Hfin := Lib.hid hfin; clear hfin hn
    go_enter Tryz.func82, Tryz.ntmps82
    go_wp2
    go_ret
    exact ⟨by rw [Hfin.out]; rfl, Fr.refl _ _⟩

set_option maxHeartbeats 1000000 in
theorem eqForm_any {R S : Nat → Prop} (av bv : Value) (A B : List PL) (w : World) (hA : NodeL R encN w av A) (hB : NodeL S encN w bv B) :
    Calls Tryz.prog 19 #[.agg #[av], .agg #[bv]] w fun e w' => e = .returned (.bool (decide (A = B))) ∧ Fr NoM w w' := by
  have O1 : av.oneCell' = true := by obtain ⟨_, _, rfl, _⟩ := hA; rfl
  have O2 : bv.oneCell' = true := by obtain ⟨_, _, rfl, _⟩ := hB; rfl
  have F2 : Fr NoM w ((w.alloc (.cells #[av] 28)).alloc (.cells #[bv] 28)) := ((Fr.refl NoM w).alloc _).alloc _
  have HE := Lib.hid (eqNodeS_any av bv A B _ (hA.fr0 F2) (hB.fr0 F2))
  have HF2 := Lib.hid F2
  clear hA hB F2
  obtain ⟨eb, heb⟩ : ∃ eb, eb = decide (A = B) := ⟨_, rfl⟩
  rw [← heb] at HE ⊢
  clear heb
  go_enter Tryz.func19, Tryz.ntmps19
  go_wp2_with fail
  refine HE.out.mono ?_
  rintro e w' ⟨rfl, f⟩
  have F3 := Lib.hid (HF2.out.trans f (fun _ _ q => q))
  clear f
  cases eb <;>
    (go_wp2
     go_ret
     exact ⟨rfl, F3.out⟩)

set_option maxHeartbeats 1000000 in
theorem markIntS_any (v : Value) (L : List Nat) (k : Nat) (w : World) (hL : Nats w v L) (hB : ∀ q, v.ownBlock = some q → RowB w q) (hk : k + L.length < 1000000000) :
    Calls Tryz.prog 64 #[v, .int .i64 (k : Int)] w fun e w' => e = .returned (.int .i64 ((k + L.length : Nat) : Int)) ∧ Nats w' v (List.range' k L.length) ∧ (∀ q, v.ownBlock = some q → RowB w' q) ∧ Fr (Own1 v) w w' := by
  obtain ⟨a, c, rfl, z⟩ := id hL
  clear z
  have HL := Lib.hid hL; have HB := Lib.hid hB
  clear hL hB
  go_enter Tryz.func64, Tryz.ntmps64
  go_wp2
  go_loopw [5, 1] (fun i kv W => ∃ j m : Nat, i = .int .i64 j ∧ kv = .int .i64 m ∧ m = k + j ∧ j ≤ L.length ∧ Nats W (.slice a L.length c) (List.range' k j ++ L.drop j) ∧ (∀ q, (Value.slice a L.length c).ownBlock = some q → RowB W q) ∧ Fr (Own1 (.slice a L.length c)) w W) (fun i _ _ => L.length - (intOf i).toNat)
  case atStart => exact ⟨0, k, rfl, rfl, rfl, Nat.zero_le _, by simpa using HL.out, HB.out, Fr.refl _ _⟩
  case round =>
    obtain ⟨j, m, rfl, rfl, hm, hj, hn, hb, hf⟩ := hrel
    by_cases hlt : j < L.length
    · have hlen : (List.range' k j ++ L.drop j).length = L.length := by simp; omega
      have hmb : m < 1000000000 := by omega
      obtain ⟨a', c', e, h1, h2, h3⟩ := id hn
      rw [hlen] at e
      cases e
      obtain ⟨b, off, ha, hcc⟩ := h3 j _ (List.getElem?_eq_getElem (by omega))
      clear hcc
      subst ha
      obtain ⟨⟨u, hu⟩, hz, hset, hrow⟩ := nats_set m hn (hb b rfl) (i := j) (by omega)
      have ix := ixInts (some ⟨b, off, none⟩) L.length c j b off hlt rfl
      have hnext : (List.range' k j ++ L.drop j).set j m = List.range' k (j + 1) ++ L.drop (j + 1) := by
        rw [List.set_append_right _ _ (by simp), List.length_range', Nat.sub_self, List.drop_eq_getElem_cons hlt, List.set_cons_zero, hm, List.range'_concat, Nat.one_mul]
        simp
      rw [hnext] at hset
      have hfw := Fr.setCell hf ⟨b, off + j, none⟩ (encN m) (fun _ => rfl)
      have HM := Lib.hid hm; have HSet := Lib.hid hset; have HRow := Lib.hid hrow; have HFw := Lib.hid hfw
      clear hm hn hb hf h1 h2 h3 hset hrow hfw hlen hnext
      go_wp2
      go_roundw
      case rel => exact ⟨j + 1, m + 1, by go_num, by go_num, by rw [HM.out]; rfl, by omega, HSet.out, fun q hq => by
        have e : b = q := Option.some.inj hq
        subst e
        exact HRow.out, HFw.out⟩
      case measure => simp [intOf]; omega
    · have hj' : j = L.length := by omega
      subst hj'
      have hn' : Nats wr (.slice a L.length c) (List.range' k L.length) := by simpa using hn
      have HM := Lib.hid hm; have HN := Lib.hid hn'; have HB2 := Lib.hid hb; have HF := Lib.hid hf
      clear hm hn hn' hb hf
      go_wp2
      go_ret
      exact ⟨by rw [HM.out]; rfl, HN.out, HB2.out, HF.out⟩

set_option maxHeartbeats 2000000 in
theorem markNodeS_any (D : Nat) (v : Value) (FN : List PL) (NV : List (Value × Value)) (k : Nat) (w : World) (h : NodesN D w v FN NV) (hk : k + cntF FN < 1000000000) (hl : FN.length < 1000000000) :
    Calls Tryz.prog 83 #[v, .int .i64 (k : Int)] w fun e w' => e = .returned (.int .i64 ((k + cntF FN : Nat) : Int)) ∧ NodesN D w' v (markF k FN) NV ∧ Fr (fun q => q ∈ blocksOf NV) w w' := by
  obtain ⟨a, c, rfl, z⟩ := Pairs.of_owns h.row
  clear z
  have hnl : NV.length = FN.length := h.len
  rw [hnl] at h ⊢
  have H := Lib.hid h; have HNl := Lib.hid hnl
  clear h hnl
  go_enter Tryz.func83, Tryz.ntmps83
  go_wp2
  go_loopw [5, 1] (fun i kv W => ∃ j m : Nat, i = .int .i64 j ∧ kv = .int .i64 m ∧ m = k + cntF (FN.take j) ∧ j ≤ FN.length ∧ NodesN D W (.slice a FN.length c) (midF k j FN) NV ∧ Fr (fun q => q ∈ blocksOf NV) w W) (fun i _ _ => FN.length - (intOf i).toNat)
  case atStart => exact ⟨0, k, rfl, rfl, by simp [cntF], Nat.zero_le _, by rw [midF_zero]; exact H.out, Fr.refl _ _⟩
  case round =>
    obtain ⟨j, m, rfl, rfl, hm, hj, hn, hf⟩ := hrel
    obtain ⟨w7, rfl⟩ : ∃ w7, w7 = wr := ⟨_, rfl⟩
    by_cases hlt : j < FN.length
    · obtain ⟨y, hy⟩ : ∃ y, FN[j]? = some y := ⟨_, List.getElem?_eq_getElem hlt⟩
      obtain ⟨⟨xl, xr⟩, hx⟩ : ∃ x, NV[j]? = some x := ⟨NV[j]'(by rw [HNl.out]; exact hlt), List.getElem?_eq_getElem _⟩
      have hmy := midF_get (k := k) hy
      obtain ⟨s1, s2⟩ := hn.nats j _ _ hx hmy
      obtain ⟨m1, m2⟩ := mem_blocks hx
      have hsum := cntF_take_succ hy
      have hle := cntF_take_le FN (j + 1)
      have HRd := Lib.hid (fun (W : World) (v : Value) (F : List PL) (h : NodesN D W (.slice a FN.length c) F NV) => show ∃ b off, a = some ⟨b, off, none⟩ ∧ W.cell? ⟨b, off + j * 2, none⟩ = some xl ∧ W.cell? ⟨b, off + j * 2 + 1, none⟩ = some xr from by
        obtain ⟨a', c', e, _, _, h6⟩ := Pairs.of_owns h.row
        obtain ⟨b, off, ha, c1, c2⟩ := h6 j _ hx
        have e1 : a = a' := by injection e
        exact ⟨b, off, by rw [e1, ha], c1, c2⟩)
      obtain ⟨b, off, rfl, d1, _⟩ := HRd.out w7 (.bool true) _ hn
      have ix := ixNode (some ⟨b, off, none⟩) FN.length c j b off hlt rfl
      have hmk := markIntS_any xl y.1 m w7 s1 (fun q hq => hn.thaw q (m1 q hq)) (by omega)
      have HMk := Lib.hid hmk; have HN := Lib.hid hn; have HF := Lib.hid hf; have HM := Lib.hid hm; have HX := Lib.hid hx; have HY := Lib.hid hy; have HMy := Lib.hid hmy; have HM1 := Lib.hid m1; have HM2 := Lib.hid m2; have HSum := Lib.hid hsum; have HLe := Lib.hid hle
      clear hmk hn hf hm hx hy hmy s1 s2 m1 m2 hsum hle
      go_wp2_with fail
      refine HMk.out.mono ?_
      rintro e w8 ⟨rfl, n8, b8, f8⟩
      have hN8 := HN.out.upd1 HX.out HMy.out f8 n8 b8
      have hF8 : Fr (fun q => q ∈ blocksOf NV) w w8 := HF.out.trans f8 (fun q _ e => HM1.out q e)
      obtain ⟨m8, hm8⟩ : ∃ m8, m8 = m + y.1.length := ⟨_, rfl⟩
      rw [← hm8]
      have hjm : j < (midF k j FN).length := by rw [midF_length _ _ _ hj]; exact hlt
      have hy8 : ((midF k j FN).set j (List.range' m y.1.length, y.2))[j]? = some (List.range' m y.1.length, y.2) := by rw [List.getElem?_set_self hjm]
      obtain ⟨t1, t2⟩ := hN8.nats j _ _ HX.out hy8
      obtain ⟨b', off', e, _, d2⟩ := HRd.out w8 (.bool true) _ hN8
      cases e
      have hmk2 := markIntS_any xr y.2 m8 w8 t2 (fun q hq => hN8.thaw q (HM2.out q hq)) (by have := HSum.out; have := HLe.out; have := HM.out; omega)
      have HMk2 := Lib.hid hmk2; have HN8 := Lib.hid hN8; have HF8 := Lib.hid hF8; have HY8 := Lib.hid hy8; have HM8 := Lib.hid hm8
      clear hmk2 hN8 hF8 n8 b8 f8 hy8 t1 t2 hm8 d1 hjm
      go_wp2_with fail
      refine HMk2.out.mono ?_
      rintro e w9 ⟨rfl, n9, b9, f9⟩
      have hN9 := HN8.out.upd2 HX.out HY8.out f9 n9 b9
      have hF9 : Fr (fun q => q ∈ blocksOf NV) w w9 := HF8.out.trans f9 (fun q _ e => HM2.out q e)
      have hnx := midF_next (k := k) HY.out
      rw [← HM.out, ← HM8.out] at hnx
      rw [hnx] at hN9
      obtain ⟨m9, hm9⟩ : ∃ m9, m9 = m8 + y.2.length := ⟨_, rfl⟩
      rw [← hm9]
      have HN9 := Lib.hid hN9; have HF9 := Lib.hid hF9; have HM9 := Lib.hid hm9
      clear hN9 hF9 hnx n9 b9 f9 hm9 d2
      go_wp2
      go_roundw
      case rel => exact ⟨j + 1, m9, by go_num, rfl, by rw [HM9.out, HM8.out, HM.out, HSum.out]; omega, by omega, HN9.out, HF9.out⟩
      case measure => simp [intOf]; omega
    · have hj' : j = FN.length := by omega
      subst hj'
      rw [midF_all] at hn
      rw [List.take_length] at hm
      have HM := Lib.hid hm; have HN := Lib.hid hn; have HF := Lib.hid hf
      clear hm hn hf
      go_wp2
      go_ret
      exact ⟨by rw [HM.out]; rfl, HN.out, HF.out⟩

set_option maxHeartbeats 1000000 in
theorem markForm_any (D : Nat) (v : Value) (FN : List PL) (NV : List (Value × Value)) (k : Nat) (w : World) (h : NodesN D w v FN NV) (hk : k + cntF FN < 1000000000) (hl : FN.length < 1000000000) :
    Calls Tryz.prog 20 #[.agg #[v], .int .i64 (k : Int)] w fun e w' => e = .returned (.int .i64 ((k + cntF FN : Nat) : Int)) ∧ NodesN D w' v (markF k FN) NV ∧ Fr (fun q => q ∈ blocksOf NV) w w' := by
  have O1 : v.oneCell' = true := by obtain ⟨_, _, rfl, _⟩ := Pairs.of_owns h.row; rfl
  have f1 : Fr NoM w (w.alloc (.cells #[v] 28)) := (Fr.refl NoM w).alloc _
  have HK := Lib.hid (markNodeS_any D v FN NV k _ (h.fr f1 (fun _ _ _ q => q)) hk hl)
  have HF1 := Lib.hid f1
  obtain ⟨m, hm⟩ : ∃ m, m = k + cntF FN := ⟨_, rfl⟩
  rw [← hm] at HK ⊢
  clear h f1 hm
  go_enter Tryz.func20, Tryz.ntmps20
  go_wp2_with fail
  refine HK.out.mono ?_
  rintro e w' ⟨rfl, hn, f⟩
  have HN := Lib.hid hn; have F3 := Lib.hid (HF1.out.any.trans f (fun _ _ q => q))
  clear hn f
  go_wp2
  go_ret
  exact ⟨rfl, HN.out, F3.out⟩

set_option maxHeartbeats 1000000 in
theorem heldIntS_any (v : Value) (n k : Nat) (w : World) (hL : Nats w v (List.range' k n)) (hk : k + n < 1000000000) :
    Calls Tryz.prog 65 #[v, .int .i64 (k : Int)] w fun e w' => e = .returned (.int .i64 ((k + n : Nat) : Int)) ∧ w' = w := by
  obtain ⟨a, c, rfl, h1, h2, h3⟩ := hL
  rw [List.length_range'] at h1 ⊢
  have H3 := Lib.hid h3
  clear h3
  go_enter Tryz.func65, Tryz.ntmps65
  go_wp2
  go_loop [5, 1] (fun i kv => ∃ j m : Nat, i = .int .i64 j ∧ kv = .int .i64 m ∧ m = k + j ∧ j ≤ n) (fun i _ => n - (intOf i).toNat)
  case atStart => exact ⟨0, k, rfl, rfl, rfl, Nat.zero_le _⟩
  case round =>
    obtain ⟨j, m, rfl, rfl, hm, hj⟩ := hrel
    by_cases hlt : j < n
    · have hmb : m < 1000000000 := by omega
      obtain ⟨b, off, rfl, c0⟩ := H3.out j m (by rw [List.getElem?_range' hlt, hm, Nat.one_mul])
      have c1 : w.cell? ⟨b, off + j, none⟩ = some (.int .i64 (m : Int)) := c0
      clear c0
      have ix := ixInts (some ⟨b, off, none⟩) n c j b off hlt rfl
      have hne : ((m : Int) != (m : Int)) = false := by simp
      have HM := Lib.hid hm
      clear hm
      go_wp2
      go_round
      case rel => exact ⟨j + 1, m + 1, by go_num, by go_num, by rw [HM.out]; rfl, by omega⟩
      case measure => simp [intOf]; omega
    · have hj' : j = n := by omega
      subst hj'
      have HM := Lib.hid hm
      clear hm
      go_wp2
      go_ret
      exact ⟨by rw [HM.out]; rfl, rfl⟩

set_option maxHeartbeats 2000000 in
theorem heldNodeS_any (D : Nat) (v : Value) (FN : List PL) (NV : List (Value × Value)) (k : Nat) (w : World) (h : NodesN D w v (markF k FN) NV) (hk : k + cntF FN < 1000000000) (hl : FN.length < 1000000000) :
    Calls Tryz.prog 84 #[v, .int .i64 (k : Int)] w fun e w' => e = .returned (.int .i64 ((k + cntF FN : Nat) : Int)) ∧ w' = w := by
  obtain ⟨a, c, rfl, _, _, h6⟩ := Pairs.of_owns h.row
  have hnl : NV.length = FN.length := h.len.trans (markF_length k FN)
  have hnats := h.nats
  rw [hnl]
  have H6 := Lib.hid h6; have HNats := Lib.hid hnats; have HNl := Lib.hid hnl
  clear h h6 hnl hnats
  go_enter Tryz.func84, Tryz.ntmps84
  go_wp2
  go_loop [5, 1] (fun i kv => ∃ j m : Nat, i = .int .i64 j ∧ kv = .int .i64 m ∧ m = k + cntF (FN.take j) ∧ j ≤ FN.length) (fun i _ => FN.length - (intOf i).toNat)
  case atStart => exact ⟨0, k, rfl, rfl, by simp [cntF], Nat.zero_le _⟩
  case round =>
    obtain ⟨j, m, rfl, rfl, hm, hj⟩ := hrel
    by_cases hlt : j < FN.length
    · obtain ⟨y, hy⟩ : ∃ y, FN[j]? = some y := ⟨_, List.getElem?_eq_getElem hlt⟩
      obtain ⟨⟨xl, xr⟩, hx⟩ : ∃ x, NV[j]? = some x := ⟨NV[j]'(by rw [HNl.out]; exact hlt), List.getElem?_eq_getElem _⟩
      obtain ⟨s1, s2⟩ := HNats.out j _ _ hx (markF_get hy)
      obtain ⟨b, off, rfl, d1, d2⟩ := H6.out j _ hx
      have ix := ixNode (some ⟨b, off, none⟩) FN.length c j b off hlt rfl
      have hsum := cntF_take_succ hy
      have hle := cntF_take_le FN (j + 1)
      rw [← hm] at s1 s2
      obtain ⟨m1, hm1⟩ : ∃ m1, m1 = m + y.1.length := ⟨_, rfl⟩
      rw [← hm1] at s2
      obtain ⟨m2, hm2⟩ : ∃ m2, m2 = m1 + y.2.length := ⟨_, rfl⟩
      have g1 := heldIntS_any xl y.1.length m w s1 (by omega)
      have g2 := heldIntS_any xr y.2.length m1 w s2 (by omega)
      rw [← hm1] at g1
      rw [← hm2] at g2
      have n1 : decide ((m1 : Int) < 0) = false := by simp
      have n2 : decide ((m2 : Int) < 0) = false := by simp
      have G1 := Lib.hid g1; have G2 := Lib.hid g2; have HM := Lib.hid hm; have HM1 := Lib.hid hm1; have HM2 := Lib.hid hm2; have HSum := Lib.hid hsum
      clear g1 g2 hm hm1 hm2 hsum hle s1 s2 hx hy
      go_wp2_with fail
      refine G1.out.mono ?_
      rintro e w8 ⟨rfl, rfl⟩
      go_wp2_with fail
      refine G2.out.mono ?_
      rintro e w9 ⟨rfl, rfl⟩
      go_wp2
      go_round
      case rel => exact ⟨j + 1, m2, by go_num, rfl, by rw [HM2.out, HM1.out, HM.out, HSum.out]; omega, by omega⟩
      case measure => simp [intOf]; omega
    · have hj' : j = FN.length := by omega
      subst hj'
      rw [List.take_length] at hm
      have HM := Lib.hid hm
      clear hm
      go_wp2
      go_ret
      exact ⟨by rw [HM.out]; rfl, rfl⟩

set_option maxHeartbeats 1000000 in
theorem heldForm_any (D : Nat) (v : Value) (FN : List PL) (NV : List (Value × Value)) (k : Nat) (w : World) (h : NodesN D w v (markF k FN) NV) (hk : k + cntF FN < 1000000000) (hl : FN.length < 1000000000) :
    Calls Tryz.prog 21 #[.agg #[v], .int .i64 (k : Int)] w fun e w' => e = .returned (.int .i64 ((k + cntF FN : Nat) : Int)) ∧ Fr NoM w w' := by
  have O1 : v.oneCell' = true := by obtain ⟨_, _, rfl, _⟩ := Pairs.of_owns h.row; rfl
  have f1 : Fr NoM w (w.alloc (.cells #[v] 28)) := (Fr.refl NoM w).alloc _
  have HK := Lib.hid (heldNodeS_any D v FN NV k _ (h.fr f1 (fun _ _ _ q => q)) hk hl)
  have HF1 := Lib.hid f1
  obtain ⟨m, hm⟩ : ∃ m, m = k + cntF FN := ⟨_, rfl⟩
  rw [← hm] at HK ⊢
  have n1 : decide ((m : Int) < 0) = false := by simp
  clear h f1 hm
  go_enter Tryz.func21, Tryz.ntmps21
  go_wp2_with fail
  refine HK.out.mono ?_
  rintro e w' ⟨rfl, rfl⟩
  go_wp2
  go_ret
  exact ⟨rfl, HF1.out⟩
end Go.Proofs.YtioiljboihehcaaGreatDoor
