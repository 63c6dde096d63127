/- Slices of nodes in memory, and the reference's small functions on forms: each returns what its text says, for every form. -/
import Derived.Test.YtkbljlbfkgoalaaGreatDoorIntsB
namespace Go.Proofs.YtkbljlbfkgoalaaGreatDoor
set_option linter.unusedVariables false
set_option linter.unusedSimpArgs false
open Go.RowKit

theorem infoNode : (Tryz.prog.info? 91).map (fun i => (i.zero, i.size, i.bytes)) = some (some (.agg #[.slice none 0 0, .slice none 0 0]), 2, 48) := by kernel_rfl

theorem ixNode (a : Option Addr) (n c k b off : Nat) (hk : k < n) (ha : a = some ⟨b, off, none⟩) (w : World) :
    (Instr.indexAt 22 (.slice a n c) (.int .i64 (k : Int))).run Tryz.prog w = .ok (.pointer (some ⟨b, off + k * 2, none⟩)) w := by
  subst ha
  go_simp

/-- A slice of nodes; R holds of every block that it is read from. -/
def NodeL {α : Type} (R : Nat → Prop) (enc : α → Value) (w : World) (v : Value) (NL : List (List α × List α)) : Prop :=
  ∃ a c, v = .slice a NL.length c ∧ NL.length ≤ c ∧ c ≤ 9223372036854775807 ∧
    ∀ (j : Nat) (y : List α × List α), NL[j]? = some y → ∃ b off lv rv, a = some ⟨b, off, none⟩ ∧ R b ∧ w.cell? ⟨b, off + j * 2, none⟩ = some lv ∧ w.cell? ⟨b, off + j * 2 + 1, none⟩ = some rv ∧
      SliceOf enc w lv y.1 ∧ SliceOf enc w rv y.2 ∧ (y.1 ≠ [] → ∀ q, lv.ownBlock = some q → R q) ∧ (y.2 ≠ [] → ∀ q, rv.ownBlock = some q → R q)
def AnyB : Nat → Prop := fun _ => True

section
variable {α : Type} {R : Nat → Prop} {enc : α → Value} {w w' : World} {v : Value} {NL : List (List α × List α)}
theorem NodeL.fr {M : Nat → Prop} (h : NodeL R enc w v NL) (hf : Fr M w w') (hm : ∀ k, R k → ¬ M k) : NodeL R enc w' v NL := by
  obtain ⟨a, c, rfl, h1, h2, h3⟩ := h
  refine ⟨a, c, rfl, h1, h2, fun j y hy => ?_⟩
  obtain ⟨b, off, lv, rv, ha, hb, c1, c2, s1, s2, r1, r2⟩ := h3 j y hy
  exact ⟨b, off, lv, rv, ha, hb, hf.cell c1 (hm b hb), hf.cell c2 (hm b hb), s1.fr hf (fun hne q hq => hm q (r1 hne q hq)), s2.fr hf (fun hne q hq => hm q (r2 hne q hq)), r1, r2⟩
theorem NodeL.fr0 (h : NodeL R enc w v NL) (hf : Fr NoM w w') : NodeL R enc w' v NL := h.fr hf fun _ _ q => q
theorem NodeL.mono {R' : Nat → Prop} (h : NodeL R enc w v NL) (hr : ∀ k, R k → R' k) : NodeL R' enc w v NL := by
  obtain ⟨a, c, rfl, h1, h2, h3⟩ := h
  refine ⟨a, c, rfl, h1, h2, fun j y hy => ?_⟩
  obtain ⟨b, off, lv, rv, ha, hb, c1, c2, s1, s2, r1, r2⟩ := h3 j y hy
  exact ⟨b, off, lv, rv, ha, hr b hb, c1, c2, s1, s2, fun hne q hq => hr q (r1 hne q hq), fun hne q hq => hr q (r2 hne q hq)⟩
theorem SliceOf.conv {β : Type} {enc' : β → Value} {L : List α} {f : α → β} (h : SliceOf enc w v L) (hf : ∀ x, enc' (f x) = enc x) : SliceOf enc' w v (L.map f) := by
  obtain ⟨a, c, rfl, h1, h2, h3⟩ := h
  refine ⟨a, c, by simp, by simpa using h1, h2, fun j x hx => ?_⟩
  rw [List.getElem?_map] at hx
  cases hq : L[j]? with
  | none => rw [hq] at hx; cases hx
  | some y => rw [hq] at hx; cases hx; rw [hf]; exact h3 j y hq
end

def ints (L : List Nat) : List Int := L.map Int.ofNat
theorem Nats.ints {w : World} {v : Value} {L : List Nat} (h : Nats w v L) : Ints w v (ints L) := SliceOf.conv h fun _ => rfl

def fitsB {α : Type} (NL : List (List α × List α)) : Bool := decide (NL.length ≤ 120 ∧ 1 ≤ NL.length ∧ ∀ y ∈ NL, y.1.length ≤ 24 ∧ y.2.length ≤ 24)

set_option maxHeartbeats 2000000 in
theorem l3Fits_any {α : Type} {R : Nat → Prop} {enc : α → Value} (nv : Value) (NL : List (List α × List α)) (w : World) (h : NodeL R enc w nv NL) :
    Calls Tryz.prog 120 #[.agg #[nv]] w fun e w' => e = .returned (.bool (fitsB NL)) ∧ Fr NoM w w' := by
  obtain ⟨a, c, rfl, hac, hcm, hn⟩ := h
  have HN := Lib.hid hn; clear hn
  go_enter Tryz.func120, Tryz.ntmps120
  go_wp2
  go_loop [3] (fun i => ∃ k : Nat, k ≤ NL.length ∧ k ≤ 121 ∧ i = .int .i64 k ∧ ∀ j y, j < k → NL[j]? = some y → y.1.length ≤ 24 ∧ y.2.length ≤ 24) (fun i => NL.length - (intOf i).toNat)
  case atStart => exact ⟨0, by omega, by omega, rfl, by intros; omega⟩
  case round =>
    obtain ⟨k, hk, hk1, rfl, hj⟩ := hrel
    have HJ := Lib.hid hj; clear hj
    by_cases hlt : k < NL.length
    · by_cases hle : k ≤ 120
      · obtain ⟨b, off, lv, rv, ha, _, c1, c2, s1, s2, _, _⟩ := HN.out k NL[k] (by simp)
        have ix := ixNode a NL.length c k b off hlt ha
        obtain ⟨la, lc, rfl, _, _, _⟩ := s1
        obtain ⟨ra, rc, rfl, _, _, _⟩ := s2
        have hb : b < w.heap.size := World.block_lt_of_cell? w _ c1
        have c1' : (w.alloc (.cells #[.slice a NL.length c] 24)).cell? ⟨b, off + k * 2, none⟩ = some (.slice la NL[k].1.length lc) := (World.cell?_alloc_past _ _ _ hb).trans c1
        have c2' : (w.alloc (.cells #[.slice a NL.length c] 24)).cell? ⟨b, off + k * 2 + 1, none⟩ = some (.slice ra NL[k].2.length rc) := (World.cell?_alloc_past _ _ _ hb).trans c2
        clear ha c1 c2
        by_cases h1 : 24 < NL[k].1.length
        · have hf : fitsB NL = false := by
            simp only [fitsB, decide_eq_false_iff_not]
            intro q; have := q.2.2 NL[k] (List.getElem_mem _); omega
          have HF := Lib.hid hf; clear hf
          go_wp2
          go_ret
          exact ⟨by rw [HF.out]; rfl, (Fr.refl _ _).alloc _⟩
        · by_cases h2 : 24 < NL[k].2.length
          · have hf : fitsB NL = false := by
              simp only [fitsB, decide_eq_false_iff_not]
              intro q; have := q.2.2 NL[k] (List.getElem_mem _); omega
            have HF := Lib.hid hf; clear hf
            go_wp2
            go_ret
            exact ⟨by rw [HF.out]; rfl, (Fr.refl _ _).alloc _⟩
          · go_wp2
            go_round
            case rel =>
              refine ⟨k + 1, by omega, by omega, by go_num, fun j y hj hy => ?_⟩
              by_cases e : j = k
              · subst e; rw [List.getElem?_eq_getElem hlt] at hy; cases hy; omega
              · exact HJ.out j y (by omega) hy
            case measure => simp [intOf]; omega
      · have hf : fitsB NL = betw NL.length 1 120 := by
          have : ¬ NL.length ≤ 120 := by omega
          rw [show fitsB NL = false from by simp [fitsB, this], show betw NL.length 1 120 = false from by simp [betw]; omega]
        have HF := Lib.hid hf; clear hf
        go_wp2_with fail
        refine (l1In_any _ _ _ _).mono ?_
        rintro e w' ⟨rfl, rfl⟩
        go_wp2
        go_ret
        exact ⟨by rw [HF.out]; rfl, (Fr.refl _ _).alloc _⟩
    · have hk' : k = NL.length := by omega
      have hf : fitsB NL = betw NL.length 1 120 := by
        have hall : ∀ y ∈ NL, y.1.length ≤ 24 ∧ y.2.length ≤ 24 := fun y hy => by
          obtain ⟨j, hj, rfl⟩ := List.getElem_of_mem hy
          exact HJ.out j _ (by omega) (List.getElem?_eq_getElem hj)
        rw [Bool.eq_iff_iff]
        simp only [fitsB, betw, decide_eq_true_eq]
        constructor
        · rintro ⟨a, b, _⟩; omega
        · rintro ⟨a, b⟩; exact ⟨by omega, by omega, hall⟩
      have HF := Lib.hid hf; clear hf
      have HK := Lib.hid hk'; clear hk'
      go_wp2_with fail
      refine (l1In_any _ _ _ _).mono ?_
      rintro e w' ⟨rfl, rfl⟩
      go_wp2
      go_ret
      exact ⟨by rw [HF.out]; rfl, (Fr.refl _ _).alloc _⟩

set_option maxHeartbeats 2000000 in
theorem l3Same_any {R S : Nat → Prop} (av bv : Value) (A B : List (List Int × List Int)) (w : World) (hA : NodeL R encI w av A) (hB : NodeL S encI w bv B) :
    Calls Tryz.prog 122 #[.agg #[av], .agg #[bv]] w fun e w' => e = .returned (.bool (decide (A = B))) ∧ Fr NoM w w' := by
  obtain ⟨aa, ac, rfl, hac, hacm, hA⟩ := hA
  obtain ⟨ba, bc, rfl, hbc, hbcm, hB⟩ := hB
  have HA := Lib.hid hA; clear hA
  have HB := Lib.hid hB; clear hB
  by_cases hn : A.length = B.length
  · have hne : ((A.length : Int) != (B.length : Int)) = false := by simp [hn]
    have hfin : A.take A.length = B.take A.length → decide (A = B) = true := fun h => by
      rw [List.take_length, hn, List.take_length] at h; simp [h]
    have HN := Lib.hid hn; clear hn
    have HF := Lib.hid hfin; clear hfin
    go_enter Tryz.func122, Tryz.ntmps122
    go_wp2
    obtain ⟨w0, hw0⟩ : ∃ w0 : World, w0 = (w.alloc (.cells #[.slice aa A.length ac] 24)).alloc (.cells #[.slice ba B.length bc] 24) := ⟨_, rfl⟩
    have F0 : Fr NoM w w0 := by rw [hw0]; exact ((Fr.refl NoM w).alloc _).alloc _
    have k1 : w0.cell? ⟨w.heap.size, 0, none⟩ = some (.slice aa A.length ac) := by
      rw [hw0, World.cell?_alloc_past _ _ _ (by simp), World.cell?_alloc_at _ _ _ _ rfl]; rfl
    have k2 : w0.cell? ⟨w.heap.size + 1, 0, none⟩ = some (.slice ba B.length bc) := by
      rw [hw0, World.cell?_alloc_at _ _ _ _ (by simp)]; rfl
    rw [← hw0]
    have HF0 := Lib.hid F0; clear F0 hw0
    have K1 := Lib.hid k1; have K2 := Lib.hid k2; clear k1 k2
    go_loopw [5] (fun i wr => ∃ k q : Nat, k ≤ A.length ∧ i = .int .i64 k ∧ A.take k = B.take k ∧ wr = w0.drewN q) (fun i _ => A.length - (intOf i).toNat)
    case atStart => exact ⟨0, 0, by omega, rfl, rfl, rfl⟩
    case round =>
      obtain ⟨k, q, hk, rfl, ht, hw⟩ := hrel
      have k1 : wr.cell? ⟨w.heap.size, 0, none⟩ = some (.slice aa A.length ac) := by rw [hw]; exact K1.out
      have k2 : wr.cell? ⟨w.heap.size + 1, 0, none⟩ = some (.slice ba B.length bc) := by rw [hw]; exact K2.out
      have Fwr : Fr NoM w wr := by rw [hw]; exact HF0.out.trans (M' := NoM) ⟨rfl, rfl, rfl, Nat.le_refl _, fun _ _ _ => rfl⟩ (fun _ _ q => q)
      have Ht := Lib.hid ht; have HW := Lib.hid hw; have HFw := Lib.hid Fwr; clear ht hw Fwr
      by_cases hlt' : k < A.length
      · have hlt2 : k < B.length := by rw [← HN.out]; exact hlt'
        obtain ⟨b1, o1, l1, r1, ha1, _, c1, c2, s1, s2, _, _⟩ := HA.out k A[k] (by simp)
        obtain ⟨b2, o2, l2, r2, ha2, _, d1, d2, t1, t2, _, _⟩ := HB.out k B[k] (by simp)
        have ix1 := ixNode aa A.length ac k b1 o1 hlt' ha1
        have ix2 := ixNode ba B.length bc k b2 o2 hlt2 ha2
        have c1' := HFw.out.cell c1 (fun q => q)
        have c2' := HFw.out.cell c2 (fun q => q)
        have d1' := HFw.out.cell d1 (fun q => q)
        have d2' := HFw.out.cell d2 (fun q => q)
        have HS1 := Lib.hid (fun (n : Nat) => s1.fr0 (HFw.out.trans (M' := NoM) (c := wr.drewN n) ⟨rfl, rfl, rfl, Nat.le_refl _, fun _ _ _ => rfl⟩ (fun _ _ q => q)))
        have HS2 := Lib.hid (fun (n : Nat) => s2.fr0 (HFw.out.trans (M' := NoM) (c := wr.drewN n) ⟨rfl, rfl, rfl, Nat.le_refl _, fun _ _ _ => rfl⟩ (fun _ _ q => q)))
        have HT1 := Lib.hid (fun (n : Nat) => t1.fr0 (HFw.out.trans (M' := NoM) (c := wr.drewN n) ⟨rfl, rfl, rfl, Nat.le_refl _, fun _ _ _ => rfl⟩ (fun _ _ q => q)))
        have HT2 := Lib.hid (fun (n : Nat) => t2.fr0 (HFw.out.trans (M' := NoM) (c := wr.drewN n) ⟨rfl, rfl, rfl, Nat.le_refl _, fun _ _ _ => rfl⟩ (fun _ _ q => q)))
        clear ha1 ha2 c1 c2 d1 d2 s1 s2 t1 t2
        by_cases e1 : A[k].1 = B[k].1
        · have e1' : decide (A[k].1 = B[k].1) = true := decide_eq_true e1
          have E1 := Lib.hid e1; clear e1
          by_cases e2 : A[k].2 = B[k].2
          · have e2' : decide (A[k].2 = B[k].2) = true := decide_eq_true e2
            have hAB : A.take (k + 1) = B.take (k + 1) := by
              have hab : A[k] = B[k] := Prod.ext E1.out e2
              rw [List.take_succ_eq_append_getElem hlt', List.take_succ_eq_append_getElem hlt2, Ht.out, hab]
            have HAB := Lib.hid hAB; clear e2 hAB
            go_wp2
            go_quiet ((first | (go_at_call 141; with_reducible exact Calls.quiet_of (l1Same_any _ _ A[k].1 B[k].1 _ (HS1.out _) (HT1.out _))) | (go_at_call 141; with_reducible exact Calls.quiet_of (l1Same_any _ _ A[k].2 B[k].2 _ (HS2.out _) (HT2.out _)))))
            go_wp2
            go_roundw
            case rel => exact ⟨k + 1, _, by omega, by go_num, HAB.out, by rw [HW.out]; exact World.drewN_drewN _ _ _⟩
            case measure => simp [intOf]; omega
          · have e2' : decide (A[k].2 = B[k].2) = false := decide_eq_false e2
            have hf : decide (A = B) = false := by
              have : A ≠ B := fun e => by subst e; exact e2 rfl
              simp [this]
            have HFn := Lib.hid hf; clear e2 hf
            go_wp2
            go_quiet ((first | (go_at_call 141; with_reducible exact Calls.quiet_of (l1Same_any _ _ A[k].1 B[k].1 _ (HS1.out _) (HT1.out _))) | (go_at_call 141; with_reducible exact Calls.quiet_of (l1Same_any _ _ A[k].2 B[k].2 _ (HS2.out _) (HT2.out _)))))
            go_wp2
            go_ret
            refine ⟨congrArg (fun b => Ending.returned (.bool b)) HFn.out.symm, ?_⟩
            exact HFw.out.trans (M' := NoM) ⟨rfl, rfl, rfl, Nat.le_refl _, fun _ _ _ => rfl⟩ (fun _ _ q => q)
        · have e1' : decide (A[k].1 = B[k].1) = false := decide_eq_false e1
          have hf : decide (A = B) = false := by
            have : A ≠ B := fun e => by subst e; exact e1 rfl
            simp [this]
          have HFn := Lib.hid hf; clear e1 hf
          go_wp2
          go_quiet ((first | (go_at_call 141; with_reducible exact Calls.quiet_of (l1Same_any _ _ A[k].1 B[k].1 _ (HS1.out _) (HT1.out _))) | (go_at_call 141; with_reducible exact Calls.quiet_of (l1Same_any _ _ A[k].2 B[k].2 _ (HS2.out _) (HT2.out _)))))
          go_wp2
          go_ret
          refine ⟨congrArg (fun b => Ending.returned (.bool b)) HFn.out.symm, ?_⟩
          exact HFw.out.trans (M' := NoM) ⟨rfl, rfl, rfl, Nat.le_refl _, fun _ _ _ => rfl⟩ (fun _ _ q => q)
      · have hk' : k = A.length := by omega
        have hf : decide (A = B) = true := HF.out (by rw [← hk']; exact Ht.out)
        have HFn := Lib.hid hf; have HK := Lib.hid hk'; clear hk' hf
        go_wp2
        go_ret
        exact ⟨by rw [HFn.out]; rfl, HFw.out⟩
  · have hne : ((A.length : Int) != (B.length : Int)) = true := by rw [bne_iff_ne]; omega
    have hfin : decide (A = B) = false := by
      have : A ≠ B := fun e => hn (by rw [e])
      simp [this]
    have Hfin := Lib.hid hfin; clear hfin hn
    go_enter Tryz.func122, Tryz.ntmps122
    go_wp2
    go_ret
    exact ⟨by rw [Hfin.out]; rfl, ((Fr.refl _ _).alloc _).alloc _⟩

/-- What 'l3NodeAhead' says of two nodes. -/
def aheadB (x y : List Nat × List Nat) : Bool := if cmpL x.1 y.1 = 0 then decide (cmpL x.2 y.2 < 0) else decide (cmpL x.1 y.1 < 0)

set_option maxHeartbeats 2000000 in
theorem l3NodeAhead_any (l1 r1 l2 r2 : Value) (x y : List Nat × List Nat) (w : World) (h1 : Nats w l1 x.1) (h2 : Nats w r1 x.2) (h3 : Nats w l2 y.1) (h4 : Nats w r2 y.2) :
    Calls Tryz.prog 139 #[.agg #[l1, r1], .agg #[l2, r2]] w fun e w' => e = .returned (.bool (aheadB x y)) ∧ Fr NoM w w' := by
  have B1 := Lib.hid (fun (W : World) (f : Fr NoM w W) => h1.fr0 f)
  have B2 := Lib.hid (fun (W : World) (f : Fr NoM w W) => h2.fr0 f)
  have B3 := Lib.hid (fun (W : World) (f : Fr NoM w W) => h3.fr0 f)
  have B4 := Lib.hid (fun (W : World) (f : Fr NoM w W) => h4.fr0 f)
  have O1 : l1.oneCell' = true := by obtain ⟨_, _, rfl, _⟩ := h1; rfl
  have O2 : r1.oneCell' = true := by obtain ⟨_, _, rfl, _⟩ := h2; rfl
  have O3 : l2.oneCell' = true := by obtain ⟨_, _, rfl, _⟩ := h3; rfl
  have O4 : r2.oneCell' = true := by obtain ⟨_, _, rfl, _⟩ := h4; rfl
  clear h1 h2 h3 h4
  have F2 : ∀ n, Fr NoM w ((((w.alloc (.cells #[l1, r1] 91)).alloc (.cells #[l2, r2] 91))).drewN n) := fun n => (((Fr.refl NoM w).alloc _).alloc _).trans (M' := NoM) ⟨rfl, rfl, rfl, Nat.le_refl _, fun _ _ _ => rfl⟩ (fun _ _ q => q)
  have HF2 := Lib.hid F2; clear F2
  have hd : ∀ (W : World) (n : Nat), (W.drewN n) = (W.drewN n) := fun _ _ => rfl
  clear hd
  by_cases hc : cmpL x.1 y.1 = 0
  · have hc' : (cmpL x.1 y.1 != 0) = false := by simp [hc]
    have hr : aheadB x y = decide (cmpL x.2 y.2 < 0) := by unfold aheadB; rw [if_pos hc]
    have HR := Lib.hid hr; have HC := Lib.hid hc; clear hr hc
    go_enter Tryz.func139, Tryz.ntmps139
    go_wp2_with fail
    refine (l3List_any l1 l2 x.1 y.1 _ (B1.out _ (HF2.out 0)) (B3.out _ (HF2.out 0))).mono ?_
    rintro e w' ⟨rfl, q, rfl⟩
    go_wp2_with fail
    refine (l3List_any r1 r2 x.2 y.2 _ (B2.out _ (HF2.out q)) (B4.out _ (HF2.out q))).mono ?_
    rintro e w' ⟨rfl, q2, rfl⟩
    go_wp2
    go_ret
    exact ⟨by rw [HR.out]; rfl, HF2.out (q + q2)⟩
  · have hc' : (cmpL x.1 y.1 != 0) = true := by simp [hc]
    have hr : aheadB x y = decide (cmpL x.1 y.1 < 0) := by unfold aheadB; rw [if_neg hc]
    have HR := Lib.hid hr; have HC := Lib.hid hc; clear hr hc
    go_enter Tryz.func139, Tryz.ntmps139
    go_wp2_with fail
    refine (l3List_any l1 l2 x.1 y.1 _ (B1.out _ (HF2.out 0)) (B3.out _ (HF2.out 0))).mono ?_
    rintro e w' ⟨rfl, q, rfl⟩
    go_wp2
    go_ret
    exact ⟨by rw [HR.out]; rfl, HF2.out q⟩
end Go.Proofs.YtkbljlbfkgoalaaGreatDoor
