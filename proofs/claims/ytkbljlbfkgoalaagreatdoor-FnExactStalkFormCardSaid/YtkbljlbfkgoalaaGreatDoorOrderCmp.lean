/- The walks of the comparisons that the program's order hands to the sort. -/
import Derived.Test.YtkbljlbfkgoalaaGreatDoorParts
namespace Go.Proofs.YtkbljlbfkgoalaaGreatDoor
set_option linter.unusedVariables false
set_option linter.unusedSimpArgs false
open Go.RowKit

theorem cmpI_any (x y : Int) (w : World) : Calls Tryz.prog 128 #[.int .i64 x, .int .i64 y] w fun e w' => e = .returned (.int .i64 (Lib.compareInt x y)) ∧ w' = w := Any.cmp_Compare_int Tryz.layCmp x y w

set_option maxRecDepth 4000 in
set_option maxHeartbeats 4000000 in
theorem cmpS_any (av bv : Value) (A B : List Nat) (w : World) (hA : Nats w av A) (hB : Nats w bv B) : Calls Tryz.prog 129 #[av, bv] w fun e w' => e = .returned (.int .i64 (cmpL A B)) ∧ w' = w := by
  obtain ⟨aa, ac, rfl, hac, hacm, hA⟩ := hA
  obtain ⟨ba, bc, rfl, hbc, hbcm, hB⟩ := hB
  have HA := Lib.hid hA; have HB := Lib.hid hB; clear hA hB
  go_enter Tryz.func129, Tryz.ntmps129
  go_wp2
  go_loopw [11] (fun i W => ∃ k : Nat, i = .int .i64 k ∧ k ≤ A.length ∧ k ≤ B.length ∧ cmpL A B = cmpL (A.drop k) (B.drop k) ∧ W = w) (fun i _ => A.length - (intOf i).toNat)
  case atStart => exact ⟨0, rfl, Nat.zero_le _, Nat.zero_le _, rfl, rfl⟩
  case round =>
    obtain ⟨k, rfl, hk, hkb, hc, hw⟩ := hrel
    have HC := Lib.hid hc; have HW := Lib.hid hw; clear hc
    by_cases hlt : k < A.length
    · obtain ⟨b1, o1, ha1, c1⟩ := HA.out k A[k] (List.getElem?_eq_getElem _)
      have ix1 := ixInts aa A.length ac k b1 o1 hlt ha1
      have c1 : wr.cell? ⟨b1, o1 + k, none⟩ = some (.int .i64 (A[k] : Int)) := by rw [hw]; exact c1
      by_cases hltb : k < B.length
      · obtain ⟨b2, o2, ha2, c2⟩ := HB.out k B[k] (List.getElem?_eq_getElem _)
        have ix2 := ixInts ba B.length bc k b2 o2 hltb ha2
        have c2 : wr.cell? ⟨b2, o2 + k, none⟩ = some (.int .i64 (B[k] : Int)) := by rw [hw]; exact c2
        have hd : cmpL A B = if A[k] = B[k] then cmpL (A.drop (k + 1)) (B.drop (k + 1)) else if A[k] < B[k] then -1 else 1 := by
          rw [HC.out, List.drop_eq_getElem_cons hlt, List.drop_eq_getElem_cons hltb]; rfl
        clear ha1 ha2 hw
        by_cases he : A[k] = B[k]
        · have hcmp : Lib.compareInt (A[k] : Int) (B[k] : Int) = 0 := by unfold Lib.compareInt; rw [if_neg (by omega), if_neg (by omega)]
          rw [if_pos he] at hd
          have HD := Lib.hid hd; have HE := Lib.hid he; clear hd he
          have hcall := cmpI_any (A[k] : Int) (B[k] : Int) wr
          rw [hcmp] at hcall
          go_wp2_with fail
          refine hcall.mono ?_
          rintro e w' ⟨rfl, rfl⟩
          clear hcall hcmp
          go_wp2
          go_roundw
          case rel => exact ⟨k + 1, by go_num, by omega, by omega, HD.out, HW.out⟩
          case measure => simp [intOf]; omega
        · rw [if_neg he] at hd
          have hcall := cmpI_any (A[k] : Int) (B[k] : Int) wr
          by_cases hl : A[k] < B[k]
          · have hcmp : Lib.compareInt (A[k] : Int) (B[k] : Int) = -1 := by unfold Lib.compareInt; rw [if_pos (by omega)]
            rw [if_pos hl] at hd
            rw [hcmp] at hcall
            have HD := Lib.hid hd; clear hd he hl hcmp
            go_wp2_with fail
            refine hcall.mono ?_
            rintro e w' ⟨rfl, rfl⟩
            clear hcall
            go_wp2
            go_ret
            exact ⟨by rw [HD.out]; rfl, HW.out⟩
          · have hcmp : Lib.compareInt (A[k] : Int) (B[k] : Int) = 1 := by unfold Lib.compareInt; rw [if_neg (by omega), if_pos (by omega)]
            rw [if_neg hl] at hd
            rw [hcmp] at hcall
            have HD := Lib.hid hd; clear hd he hl hcmp
            go_wp2_with fail
            refine hcall.mono ?_
            rintro e w' ⟨rfl, rfl⟩
            clear hcall
            go_wp2
            go_ret
            exact ⟨by rw [HD.out]; rfl, HW.out⟩
      · have hd : cmpL A B = 1 := by
          rw [HC.out, List.drop_eq_getElem_cons hlt, show B.drop k = [] from List.drop_eq_nil_of_le (by omega)]; rfl
        have HD := Lib.hid hd; clear hd ha1 hw
        go_wp2
        go_ret
        exact ⟨by rw [HD.out]; rfl, HW.out⟩
    · have hk' : k = A.length := by omega
      subst hk'
      have hd := HC.out
      rw [List.drop_length] at hd
      clear hw
      by_cases hltb : A.length < B.length
      · rw [List.drop_eq_getElem_cons hltb] at hd
        have HD := Lib.hid hd; clear hd
        go_wp2
        go_ret
        exact ⟨by rw [HD.out]; rfl, HW.out⟩
      · rw [List.drop_eq_nil_of_le (by omega)] at hd
        have HD := Lib.hid hd; clear hd
        go_wp2
        go_ret
        exact ⟨by rw [HD.out]; rfl, HW.out⟩

def orI (x y : Int) : Int := if x = 0 then y else x
set_option maxHeartbeats 4000000 in
/-- cmp.Or at two numbers. -/
theorem or_any (x y : Int) (b : Nat) (w : World) (h0 : w.cell? ⟨b, 0, none⟩ = some (.int .i64 x)) (h1 : w.cell? ⟨b, 1, none⟩ = some (.int .i64 y)) :
    Calls Tryz.prog 127 #[.slice (some ⟨b, 0, none⟩) 2 2] w fun e w' => e = .returned (.int .i64 (orI x y)) ∧ w' = w := by
  have H0 := Lib.hid h0; have H1 := Lib.hid h1; clear h0 h1
  go_enter Tryz.func127, Tryz.ntmps127
  go_wp2
  go_loopw [8] (fun i W => ∃ k : Nat, i = .int .i64 k ∧ k ≤ 2 ∧ (1 ≤ k → x = 0) ∧ (2 ≤ k → y = 0) ∧ W = w) (fun i _ => 2 - (intOf i).toNat)
  case atStart => exact ⟨0, rfl, by omega, fun h => by omega, fun h => by omega, rfl⟩
  case round =>
    obtain ⟨k, rfl, hk, hx, hy, hw⟩ := hrel
    have HX := Lib.hid hx; have HY := Lib.hid hy; have HW := Lib.hid hw; clear hx hy
    have hk3 : k = 0 ∨ k = 1 ∨ k = 2 := by omega
    rcases hk3 with rfl | rfl | rfl
    · have c0 : wr.cell? ⟨b, 0, none⟩ = some (.int .i64 x) := by rw [hw]; exact H0.out
      clear hw hk
      by_cases he : x = 0
      · have hb : (x == 0) = true := by simpa using he
        have HE := Lib.hid he; clear he
        go_wp2
        go_roundw
        case rel => exact ⟨1, rfl, by omega, fun _ => HE.out, fun h => by omega, HW.out⟩
        case measure => simp [intOf]
      · have hb : (x == 0) = false := by simpa using he
        have HE := Lib.hid he; clear he
        go_wp2
        go_ret
        exact ⟨by rw [show orI x y = x from if_neg HE.out]; rfl, HW.out⟩
    · have c1 : wr.cell? ⟨b, 1, none⟩ = some (.int .i64 y) := by rw [hw]; exact H1.out
      clear hw hk
      by_cases he : y = 0
      · have hb : (y == 0) = true := by simpa using he
        have HE := Lib.hid he; clear he
        go_wp2
        go_roundw
        case rel => exact ⟨2, rfl, by omega, fun _ => HX.out (by omega), fun _ => HE.out, HW.out⟩
        case measure => simp [intOf]
      · have hb : (y == 0) = false := by simpa using he
        have HE := Lib.hid he; clear he
        go_wp2
        go_ret
        exact ⟨by rw [show orI x y = y from if_pos (HX.out (by omega))]; rfl, HW.out⟩
    · clear hw hk
      go_wp2
      go_ret
      exact ⟨by rw [show orI x y = 0 from (if_pos (HX.out (by omega))).trans (HY.out (by omega))]; rfl, HW.out⟩
end Go.Proofs.YtkbljlbfkgoalaaGreatDoor
