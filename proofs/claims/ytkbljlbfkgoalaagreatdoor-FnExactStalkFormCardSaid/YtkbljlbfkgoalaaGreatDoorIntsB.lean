/- Walks of more of the reference's small functions on lists of numbers: each returns what its text says, for every list. -/
import Derived.Test.YtkbljlbfkgoalaaGreatDoorInts
namespace Go.Proofs.YtkbljlbfkgoalaaGreatDoor
set_option linter.unusedVariables false
set_option linter.unusedSimpArgs false
open Go.RowKit

theorem l1In_q (x lo hi : Int) (w : World) : Calls Tryz.prog 69 #[.int .i64 x, .int .i64 lo, .int .i64 hi] w fun e w' => e = .returned (.bool (betw x lo hi)) ∧ w' = w :=
  (l1In_any x lo hi w).mono fun _ _ h => ⟨h.1, h.2.symm⟩
theorem l1Most_q (x y : Int) (w : World) : Calls Tryz.prog 140 #[.int .i64 x, .int .i64 y] w fun e w' => e = .returned (.int .i64 (max x y)) ∧ w' = w :=
  (l1Most_any x y w).mono fun _ _ h => ⟨h.1, h.2.symm⟩

def risFrom (lo hi : Int) : Option Int → List Int → Bool
  | _, [] => true
  | none, x :: l => betw x lo hi && risFrom lo hi (some x) l
  | some y, x :: l => betw x lo hi && (decide (y < x) && risFrom lo hi (some x) l)
def pv (L : List Int) (k : Nat) : Option Int := if k = 0 then none else L[k - 1]?

set_option maxHeartbeats 1000000 in
theorem l1Rising_any (lv : Value) (L : List Int) (lo hi : Int) (w : World) (hL : Ints w lv L) :
    Calls Tryz.prog 121 #[lv, .int .i64 lo, .int .i64 hi] w fun e w' => e = .returned (.bool (risFrom lo hi none L)) ∧ ∃ q, w' = w.drewN q := by
  obtain ⟨la, lc, rfl, hlc, hlcm, hL⟩ := hL
  have HL := Lib.hid hL; clear hL
  go_enter Tryz.func121, Tryz.ntmps121
  go_wp2
  go_loopw [7] (fun i wr => ∃ k q : Nat, k ≤ L.length ∧ i = .int .i64 k ∧ risFrom lo hi none L = risFrom lo hi (pv L k) (L.drop k) ∧ wr = w.drewN q) (fun i _ => L.length - (intOf i).toNat)
  case atStart => exact ⟨0, 0, by omega, rfl, rfl, rfl⟩
  case round =>
    obtain ⟨k, q, hk, rfl, hr, hw⟩ := hrel
    have HW := Lib.hid hw
    by_cases hlt' : k < L.length
    · obtain ⟨b1, o1, ha1, hc1⟩ := HL.out k L[k] (by simp)
      have ix1 := ixInts la L.length lc k b1 o1 hlt' ha1
      have hc1 : wr.cell? ⟨b1, o1 + k, none⟩ = some (.int .i64 L[k]) := by rw [hw]; exact hc1
      have hd : L.drop k = L[k] :: L.drop (k + 1) := List.drop_eq_getElem_cons hlt'
      rw [hd] at hr
      have hpv : pv L (k + 1) = some L[k] := by simp [pv]
      have HPV := Lib.hid hpv
      have Ha1 := Lib.hid ha1
      clear hd ha1 hpv hw
      by_cases hb : betw L[k] lo hi = true
      · by_cases h0 : k = 0
        · have hn : risFrom lo hi none L = risFrom lo hi (pv L (k + 1)) (L.drop (k + 1)) := by rw [hr, HPV.out, show pv L k = none from by simp [pv, h0]]; simp only [risFrom, hb, Bool.true_and]
          have HN := Lib.hid hn
          have hgt : decide (0 < k) = false := by simp; omega
          clear hn hr h0
          go_wp2
          go_quiet ((go_at_call 69; exact Calls.quiet_of_same (l1In_q _ _ _ _)))
          go_wp2
          go_roundw
          case rel => exact ⟨k + 1, _, by omega, by go_num, HN.out, by rw [HW.out]; exact World.drewN_drewN _ _ _⟩
          case measure => simp [intOf]; omega
        · obtain ⟨b2, o2, ha2, hc2⟩ := HL.out (k - 1) L[k - 1] (by simp)
          have ix2 : ∀ (W : World), (Instr.indexAt 75 (.slice la L.length lc) (.int .i64 ((k : Int) - 1))).run Tryz.prog W = .ok (.pointer (some ⟨b2, o2 + (k - 1), none⟩)) W := by
            intro W
            have := ixInts la L.length lc (k - 1) b2 o2 (by omega) ha2 W
            rw [show ((k - 1 : Nat) : Int) = (k : Int) - 1 from by omega] at this
            exact this
          have hc2 : wr.cell? ⟨b2, o2 + (k - 1), none⟩ = some (.int .i64 L[k - 1]) := by rw [HW.out]; exact hc2
          have hpk : pv L k = some L[k - 1] := by unfold pv; rw [if_neg h0]; exact List.getElem?_eq_getElem (by omega)
          have hk0 : 0 < k := by omega
          have hgt : decide (0 < (k : Int)) = true := by simp; omega
          clear ha2 h0
          by_cases hy : L[k - 1] < L[k]
          · have hn : risFrom lo hi none L = risFrom lo hi (pv L (k + 1)) (L.drop (k + 1)) := by rw [hr, HPV.out, hpk]; simp [risFrom, hb, hy]
            have HN := Lib.hid hn
            clear hn hr hpk
            go_wp2
            go_quiet ((go_at_call 69; exact Calls.quiet_of_same (l1In_q _ _ _ _)))
            go_wp2
            go_roundw
            case rel => exact ⟨k + 1, _, by omega, by go_num, HN.out, by rw [HW.out]; exact World.drewN_drewN _ _ _⟩
            case measure => simp [intOf]; omega
          · have hn : risFrom lo hi none L = false := by rw [hr, hpk]; simp [risFrom, hb, hy]
            have HN := Lib.hid hn
            clear hn hr hpk
            go_wp2
            go_quiet ((go_at_call 69; exact Calls.quiet_of_same (l1In_q _ _ _ _)))
            go_wp2
            go_ret
            exact ⟨by rw [HN.out]; rfl, _, by rw [HW.out]; exact World.drewN_drewN _ _ _⟩
      · have hb' : betw L[k] lo hi = false := by simpa using hb
        have hn : risFrom lo hi none L = false := by rw [hr]; cases pv L k <;> simp [risFrom, hb']
        have HN := Lib.hid hn
        clear hn hr hb
        go_wp2
        go_quiet ((go_at_call 69; exact Calls.quiet_of_same (l1In_q _ _ _ _)))
        go_wp2
        go_ret
        exact ⟨by rw [HN.out]; rfl, _, by rw [HW.out]; exact World.drewN_drewN _ _ _⟩
    · have hk' : k = L.length := by omega
      have hn : risFrom lo hi none L = true := by rw [hr, hk', List.drop_length]; cases pv L L.length <;> rfl
      have HN := Lib.hid hn
      clear hn hr hk' hw
      go_wp2
      go_ret
      exact ⟨by rw [HN.out]; rfl, _, HW.out⟩

def cmpL : List Nat → List Nat → Int
  | [], [] => 0
  | [], _ :: _ => -1
  | _ :: _, [] => 1
  | a :: x, b :: y => if a = b then cmpL x y else if a < b then -1 else 1

set_option maxHeartbeats 1000000 in
theorem l3List_any (av bv : Value) (A B : List Nat) (w : World) (hA : Nats w av A) (hB : Nats w bv B) :
    Calls Tryz.prog 174 #[av, bv] w fun e w' => e = .returned (.int .i64 (cmpL A B)) ∧ ∃ q, w' = w.drewN q := by
  obtain ⟨aa, ac, rfl, hac, hacm, hA⟩ := hA
  obtain ⟨ba, bc, rfl, hbc, hbcm, hB⟩ := hB
  have HA := Lib.hid hA; clear hA
  have HB := Lib.hid hB; clear hB
  go_enter Tryz.func174, Tryz.ntmps174
  go_wp2
  go_loopw [5] (fun i wr => ∃ k q : Nat, k ≤ A.length ∧ k ≤ B.length ∧ i = .int .i64 k ∧ cmpL A B = cmpL (A.drop k) (B.drop k) ∧ wr = w.drewN q) (fun i _ => A.length - (intOf i).toNat)
  case atStart => exact ⟨0, 0, by omega, by omega, rfl, rfl, rfl⟩
  case round =>
    obtain ⟨k, q, hk, hkb, rfl, hr, rfl⟩ := hrel
    by_cases hlt' : k < A.length
    · by_cases hlt2 : k < B.length
      · obtain ⟨b1, o1, ha1, hc1⟩ := HA.out k A[k] (by simp)
        obtain ⟨b2, o2, ha2, hc2⟩ := HB.out k B[k] (by simp)
        have ix1 := ixInts aa A.length ac k b1 o1 hlt' ha1
        have ix2 := ixInts ba B.length bc k b2 o2 hlt2 ha2
        unfold encN at hc1 hc2
        rw [List.drop_eq_getElem_cons hlt', List.drop_eq_getElem_cons hlt2] at hr
        clear ha1 ha2
        by_cases hxy : A[k] = B[k]
        · have hxy' : ((A[k] : Int) != (B[k] : Int)) = false := by simp [hxy]
          have hn : cmpL A B = cmpL (A.drop (k + 1)) (B.drop (k + 1)) := by rw [hr]; simp [cmpL, hxy]
          have HN := Lib.hid hn
          clear hn hr hxy
          go_wp2
          go_quiet (fail)
          go_wp2
          go_roundw
          case rel => exact ⟨k + 1, _, by omega, by omega, by go_num, HN.out, rfl⟩
          case measure => simp [intOf]; omega
        · have hxy' : ((A[k] : Int) != (B[k] : Int)) = true := by rw [bne_iff_ne]; omega
          by_cases hl : A[k] < B[k]
          · have hn : cmpL A B = -1 := by rw [hr]; simp [cmpL, hxy, hl]
            have HN := Lib.hid hn
            clear hn hr hxy
            go_wp2
            go_quiet (fail)
            go_wp2
            go_quiet (fail)
            go_wp2
            go_ret
            exact ⟨by rw [HN.out]; rfl, _, by simp only [World.drewN_drewN]; rfl⟩
          · have hn : cmpL A B = 1 := by rw [hr]; simp [cmpL, hxy, hl]
            have HN := Lib.hid hn
            clear hn hr hxy
            go_wp2
            go_quiet (fail)
            go_wp2
            go_quiet (fail)
            go_wp2
            go_ret
            exact ⟨by rw [HN.out]; rfl, _, by simp only [World.drewN_drewN]; rfl⟩
      · have hk' : k = B.length := by omega
        have hlt3 : B.length < A.length := by omega
        have hn : cmpL A B = 1 := by rw [hr, hk', List.drop_length, List.drop_eq_getElem_cons hlt3]; rfl
        have HN := Lib.hid hn
        have HK := Lib.hid hk'
        clear hn hr hk'
        go_wp2
        go_ret
        exact ⟨by rw [HN.out]; rfl, _, rfl⟩
    · have hk' : k = A.length := by omega
      by_cases hlt2 : A.length < B.length
      · have hn : cmpL A B = -1 := by rw [hr, hk', List.drop_length, List.drop_eq_getElem_cons hlt2]; rfl
        have HN := Lib.hid hn
        have HK := Lib.hid hk'
        clear hn hr hk'
        go_wp2
        go_ret
        exact ⟨by rw [HN.out]; rfl, _, rfl⟩
      · have hkb' : k = B.length := by omega
        have hn : cmpL A B = 0 := by rw [hr, show A.drop k = [] from by rw [hk', List.drop_length], show B.drop k = [] from by rw [hkb', List.drop_length]]; rfl
        have HN := Lib.hid hn
        have HK := Lib.hid hk'
        clear hn hr hk' hkb'
        go_wp2
        go_ret
        exact ⟨by rw [HN.out]; rfl, _, rfl⟩
end Go.Proofs.YtkbljlbfkgoalaaGreatDoor
