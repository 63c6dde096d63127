/- Walks of the reference's small functions on lists of numbers: each returns what its text says, for every list. -/
import Derived.Test.YtkbljlbfkgoalaaGreatDoorKit
import Derived.Deep.QuietTactic
import Derived.BigQuiet
import Derived.Deep.RegionLaw
namespace Go.Proofs.YtkbljlbfkgoalaaGreatDoor
set_option linter.unusedVariables false
set_option linter.unusedSimpArgs false
open Go.RowKit

theorem infoInt : (Tryz.prog.info? 3).map (fun i => (i.zero, i.size, i.bytes)) = some (some (.int .i64 0), 1, 8) := by kernel_rfl

theorem ixInts (a : Option Addr) (n c k b off : Nat) (hk : k < n) (ha : a = some ⟨b, off, none⟩) (w : World) :
    (Instr.indexAt 75 (.slice a n c) (.int .i64 (k : Int))).run Tryz.prog w = .ok (.pointer (some ⟨b, off + k, none⟩)) w := by
  subst ha
  go_simp

def betw (x lo hi : Int) : Bool := decide (lo ≤ x ∧ x ≤ hi)
theorem l1In_any (x lo hi : Int) (w : World) : Calls Tryz.prog 69 #[.int .i64 x, .int .i64 lo, .int .i64 hi] w fun e w' => e = .returned (.bool (betw x lo hi)) ∧ w = w' := by
  by_cases h1 : lo ≤ x
  · by_cases h2 : x ≤ hi
    · have hf : betw x lo hi = true := by simp [betw, h1, h2]
      have Hf := Lib.hid hf; clear hf
      go_enter Tryz.func69, Tryz.ntmps69
      go_wp2
      go_ret
      exact ⟨by rw [Hf.out]; rfl, rfl⟩
    · have hf : betw x lo hi = false := by simp [betw, h2]
      have Hf := Lib.hid hf; clear hf
      go_enter Tryz.func69, Tryz.ntmps69
      go_wp2
      go_ret
      exact ⟨by rw [Hf.out]; rfl, rfl⟩
  · have hf : betw x lo hi = false := by simp [betw, h1]
    have Hf := Lib.hid hf; clear hf
    go_enter Tryz.func69, Tryz.ntmps69
    go_wp2
    go_ret
    exact ⟨by rw [Hf.out]; rfl, rfl⟩

theorem l1Most_any (x y : Int) (w : World) : Calls Tryz.prog 140 #[.int .i64 x, .int .i64 y] w fun e w' => e = .returned (.int .i64 (max x y)) ∧ w = w' := by
  by_cases h1 : y < x
  · have Hf := Lib.hid (show max x y = x by omega)
    go_enter Tryz.func140, Tryz.ntmps140
    go_wp2
    go_ret
    exact ⟨by rw [Hf.out]; rfl, rfl⟩
  · have Hf := Lib.hid (show max x y = y by omega)
    go_enter Tryz.func140, Tryz.ntmps140
    go_wp2
    go_ret
    exact ⟨by rw [Hf.out]; rfl, rfl⟩

set_option maxHeartbeats 400000 in
theorem l1Same_any (av bv : Value) (A B : List Int) (w : World) (hA : Ints w av A) (hB : Ints w bv B) :
    Calls Tryz.prog 141 #[av, bv] w fun e w' => e = .returned (.bool (decide (A = B))) ∧ ∃ q, w' = w.drewN q := by
  obtain ⟨aa, ac, rfl, hac, hacm, hA⟩ := hA
  obtain ⟨ba, bc, rfl, hbc, hbcm, hB⟩ := hB
  have HA := Lib.hid hA; clear hA
  have HB := Lib.hid hB; clear hB
  by_cases hn : A.length = B.length
  · have hne : ((A.length : Int) != (B.length : Int)) = false := by simp [hn]
    have hfin : A.take A.length = B.take A.length → decide (A = B) = true := fun h => by
      rw [List.take_length, hn, List.take_length] at h; simp [h]
    have HN := Lib.hid hn; clear hn
    have HF := Lib.hid hfin; clear hfin
    go_enter Tryz.func141, Tryz.ntmps141
    go_wp2
    go_loopw [5] (fun i wr => ∃ k q : Nat, k ≤ A.length ∧ i = .int .i64 k ∧ A.take k = B.take k ∧ wr = w.drewN q) (fun i _ => A.length - (intOf i).toNat)
    case atStart => exact ⟨0, 0, by omega, rfl, rfl, rfl⟩
    case round =>
      obtain ⟨k, q, hk, rfl, ht, rfl⟩ := hrel
      have Ht := Lib.hid ht; clear ht
      by_cases hlt' : k < A.length
      · have hlt2 : k < B.length := by rw [← HN.out]; exact hlt'
        obtain ⟨b1, o1, ha1, hc1⟩ := HA.out k A[k] (by simp)
        obtain ⟨b2, o2, ha2, hc2⟩ := HB.out k B[k] (by simp)
        have ix1 := ixInts aa A.length ac k b1 o1 hlt' ha1
        have ix2 := ixInts ba B.length bc k b2 o2 hlt2 ha2
        unfold encI at hc1 hc2
        clear ha1 ha2
        by_cases hxy : A[k] = B[k]
        · have hxy' : (A[k] != B[k]) = false := by simp [hxy]
          have Hxy := Lib.hid hxy; clear hxy
          go_wp2
          go_quiet (fail)
          go_wp2
          go_roundw
          case rel => exact ⟨k + 1, _, by omega, by go_num, by rw [List.take_succ_eq_append_getElem hlt', List.take_succ_eq_append_getElem hlt2, Ht.out, Hxy.out], rfl⟩
          case measure => simp [intOf]; omega
        · have hxy' : (A[k] != B[k]) = true := by simp [hxy]
          have hfin : decide (A = B) = false := by
            have : A ≠ B := fun e => by subst e; exact hxy rfl
            simp [this]
          have Hxy := Lib.hid hxy; clear hxy
          have Hfin := Lib.hid hfin; clear hfin
          go_wp2
          go_quiet (fail)
          go_wp2
          go_ret
          exact ⟨by rw [Hfin.out]; rfl, _, World.drewN_drewN _ _ _⟩
      · go_wp2
        go_ret
        have hk' : k = A.length := by omega
        subst hk'
        exact ⟨by rw [HF.out Ht.out]; rfl, _, rfl⟩
  · have hne : ((A.length : Int) != (B.length : Int)) = true := by rw [bne_iff_ne]; omega
    have hfin : decide (A = B) = false := by
      have : A ≠ B := fun e => hn (by rw [e])
      simp [this]
    have Hfin := Lib.hid hfin; clear hfin hn
    go_enter Tryz.func141, Tryz.ntmps141
    go_wp2
    go_ret
    exact ⟨by rw [Hfin.out]; rfl, 0, rfl⟩

def posN (L : List Nat) (n : Nat) : Nat := (L.takeWhile (fun x => decide (x < n))).length
def putN (L : List Nat) (n : Nat) : List Nat := if L[posN L n]? = some n then L else L.take (posN L n) ++ n :: L.drop (posN L n)

theorem posN_eq (L : List Nat) (n k : Nat) (hk : k ≤ L.length) (h1 : ∀ j x, j < k → L[j]? = some x → x < n) (h2 : ∀ x, L[k]? = some x → ¬ x < n) : posN L n = k := by
  induction L generalizing k with
  | nil => simp at hk; subst hk; rfl
  | cons y l ih =>
    cases k with
    | zero => have := h2 y rfl; simp [posN, this]
    | succ k =>
      have hy := h1 0 y (by omega) rfl
      have := ih k (by simpa using hk) (fun j x hj hx => h1 (j + 1) x (by omega) (by simpa using hx)) (fun x hx => h2 x (by simpa using hx))
      simp only [posN] at this ⊢
      simp [hy, this]

set_option maxHeartbeats 10000000 in
theorem l1Put_any (lv : Value) (L : List Nat) (n : Nat) (w : World) (hL : Nats w lv L) (hl : L.length < 1000000000000) :
    Calls Tryz.prog 136 #[lv, .int .i64 (n : Int)] w fun e w' => ∃ v', e = .returned v' ∧ Nats w' v' (putN L n) ∧ Fr NoM w w' ∧ ∀ b, v'.ownBlock = some b → lv.ownBlock = some b ∨ w.heap.size ≤ b := by
  have HS := Lib.hid hL
  obtain ⟨a, c, rfl, hac, hcm, hL⟩ := hL
  have HL := Lib.hid hL; clear hL
  have Hl := Lib.hid hl; clear hl
  go_enter Tryz.func136, Tryz.ntmps136
  go_wp2
  go_loop [5] (fun i => ∃ k : Nat, k ≤ L.length ∧ i = .int .i64 k ∧ ∀ j x, j < k → L[j]? = some x → x < n) (fun i => L.length - (intOf i).toNat)
  case atStart => exact ⟨0, by omega, rfl, by intros; omega⟩
  case round =>
    obtain ⟨k, hk, rfl, hj⟩ := hrel
    have HJ := Lib.hid hj; clear hj
    by_cases hlt' : k < L.length
    · obtain ⟨b1, o1, ha1, hc1⟩ := HL.out k L[k] (by simp)
      have ix1 := ixInts a L.length c k b1 o1 hlt' ha1
      unfold encN at hc1
      clear ha1
      by_cases hx : L[k] < n
      · go_wp2
        go_round
        case rel =>
          refine ⟨k + 1, by omega, by go_num, fun j x hj hx' => ?_⟩
          by_cases e : j = k
          · subst e; rw [List.getElem?_eq_getElem hlt'] at hx'; cases hx'; exact hx
          · exact HJ.out j x (by omega) hx'
        case measure => simp [intOf]; omega
      · have hp : posN L n = k := posN_eq L n k hk HJ.out (fun x hx' => by rw [List.getElem?_eq_getElem hlt'] at hx'; cases hx'; exact hx)
        have HP := Lib.hid hp; clear hp
        by_cases he : L[k] = n
        · have hfin : putN L n = L := by unfold putN; rw [HP.out, List.getElem?_eq_getElem hlt', he]; simp
          have HF := Lib.hid hfin; clear hfin
          have he' : ((L[k] : Int) == (n : Int)) = true := by simp [he]
          have He := Lib.hid he; clear he
          go_wp2
          go_ret
          exact ⟨_, rfl, by rw [HF.out]; exact HS.out, Fr.refl _ _, fun b hb => .inl hb⟩
        · have hfin : putN L n = L.take k ++ n :: L.drop k := by unfold putN; rw [HP.out, List.getElem?_eq_getElem hlt']; simp [he]
          have HF := Lib.hid hfin; clear hfin
          have he' : ((L[k] : Int) == (n : Int)) = false := by rw [beq_eq_false_iff_ne]; omega
          have He := Lib.hid he; clear he
          obtain ⟨v1, r1, s1, q1⟩ := sliceTo (P := Tryz.prog) HS.out 75 3 (.int .i64 0) 8 Tryz.underlying75 infoInt k hk
          obtain ⟨v2, r2, s2, q2⟩ := sliceFrom (P := Tryz.prog) HS.out 75 3 (.int .i64 0) 8 Tryz.underlying75 infoInt k hk
          have HS1 := Lib.hid (fun (W : World) (f : Fr NoM w W) => s1.fr0 f)
          have HS2 := Lib.hid (fun (W : World) (f : Fr NoM w W) => s2.fr0 f)
          clear s1 s2 q1 q2
          go_wp2
          go_region_law (first
            | (refine step_appS (enc := encN) rfl (.tmp 33) (.tmp 36) 75 rfl w.heap.size 3 (.int .i64 0) 8 Tryz.underlying75 infoInt rfl (.slice (some ⟨w.heap.size, 0, none⟩) 0 0) 0 [] rfl (by exact World.ownsRow_made w #[] 0 (Nat.le_refl _) (by decide) (by simp)) v1 rfl (L.take k) (by exact HS1.out _ (((Fr.refl NoM w).alloc _).drew)) (fun _ => rfl) (by have := Hl.out; simp; omega) (by decide) ((((Fr.refl NoM w).alloc _).drew).size) ?_; intro v3 w3 h3 f3 q3; have g3 : Fr NoM w w3 := Fr.own (e := 3) (size := 1) (n := 0) (xs := []) (((Fr.refl NoM w).alloc _).drew) (World.ownsRow_made w #[] 0 (Nat.le_refl _) (by decide) (by simp)) f3)
            | (refine step_appS (enc := encN) rfl (.tmp 33) (.tmp 36) 75 rfl w.heap.size 3 (.int .i64 0) 8 Tryz.underlying75 infoInt rfl (.slice (some ⟨w.heap.size, 0, none⟩) 0 0) 0 [] rfl (by exact (World.ownsRow_made w #[] 0 (Nat.le_refl _) (by decide) (by simp)).alloc (.cells #[.int .i64 (n : Int)] 3)) v1 rfl (L.take k) (by exact HS1.out _ ((((Fr.refl NoM w).alloc _).alloc _).drew)) (fun _ => rfl) (by have := Hl.out; simp; omega) (by decide) (((((Fr.refl NoM w).alloc _).alloc _).drew).size) ?_; intro v3 w3 h3 f3 q3; have g3 : Fr NoM w w3 := Fr.own (e := 3) (size := 1) (n := 0) (xs := []) ((((Fr.refl NoM w).alloc _).alloc _).drew) ((World.ownsRow_made w #[] 0 (Nat.le_refl _) (by decide) (by simp)).alloc (.cells #[.int .i64 (n : Int)] 3)) f3)
            | (refine step_appS (enc := encN) rfl (.tmp 33) (.tmp 36) 75 rfl w.heap.size 3 (.int .i64 0) 8 Tryz.underlying75 infoInt rfl (.slice (some ⟨w.heap.size + 1, 0, none⟩) 0 0) 0 [] rfl (by have h := World.ownsRow_made (base := w.heap.size) (e := 3) (size := 1) (w.alloc (.cells #[.int .i64 (n : Int)] 3)) #[] 0 (by simp) (by decide) (by simp); simp only [World.size_alloc] at h; exact h) v1 rfl (L.take k) (by exact HS1.out _ ((((Fr.refl NoM w).alloc _).alloc _).drew)) (fun _ => rfl) (by have := Hl.out; simp; omega) (by decide) (((((Fr.refl NoM w).alloc _).alloc _).drew).size) ?_; intro v3 w3 h3 f3 q3; have g3 : Fr NoM w w3 := Fr.own (e := 3) (size := 1) (n := 0) (xs := []) ((((Fr.refl NoM w).alloc _).alloc _).drew) (by have h := World.ownsRow_made (base := w.heap.size) (e := 3) (size := 1) (w.alloc (.cells #[.int .i64 (n : Int)] 3)) #[] 0 (by simp) (by decide) (by simp); simp only [World.size_alloc] at h; exact h) f3)
            | (refine step_appF (enc := encN) w (by first | exact g3.alloc _ | exact g3) rfl (.tmp 37) (.tmp 39) 75 rfl 3 (.int .i64 0) 8 Tryz.underlying75 infoInt rfl v3 (0 + (L.take k).length) ([] ++ (L.take k).map encN) rfl (by first | exact h3.alloc _ | exact h3) (.slice (some ⟨w3.heap.size, 0, none⟩) 1 1) rfl [n] (by exact SliceOf.one encN w3 n 3) (fun _ => rfl) (by have := Hl.out; simp; omega) (by decide) ?_; intro v4 w4 h4 f4)
            | (refine step_appF (enc := encN) w (by first | exact g3.alloc _ | exact g3) rfl (.tmp 37) (.tmp 39) 75 rfl 3 (.int .i64 0) 8 Tryz.underlying75 infoInt rfl v3 (0 + (L.take k).length) ([] ++ (L.take k).map encN) rfl (by first | exact h3.alloc _ | exact h3) (.slice (some ⟨w.heap.size + 1, 0, none⟩) 1 1) rfl [n] (by have h := (SliceOf.one encN (w.alloc (.cells #[] 3)) n 3).fr (w := ((w.alloc (.cells #[] 3)).alloc (.cells #[encN n] 3)).drew) f3 (by simp [Own1, Value.ownBlock]); simp only [World.size_alloc] at h; exact h) (fun _ => rfl) (by have := Hl.out; simp; omega) (by decide) ?_; intro v4 w4 h4 f4)
            | (refine step_appF (enc := encN) w (by first | exact g3.alloc _ | exact g3) rfl (.tmp 37) (.tmp 39) 75 rfl 3 (.int .i64 0) 8 Tryz.underlying75 infoInt rfl v3 (0 + (L.take k).length) ([] ++ (L.take k).map encN) rfl (by first | exact h3.alloc _ | exact h3) (.slice (some ⟨w.heap.size, 0, none⟩) 1 1) rfl [n] (by exact ((SliceOf.one encN w n 3).fr0 ((Fr.refl NoM _).alloc (.cells #[] 3))).fr (w := ((w.alloc (.cells #[encN n] 3)).alloc (.cells #[] 3)).drew) f3 (by simp [Own1, Value.ownBlock])) (fun _ => rfl) (by have := Hl.out; simp; omega) (by decide) ?_; intro v4 w4 h4 f4)
            | (refine step_appF (enc := encN) w f4 rfl (.tmp 40) (.tmp 43) 75 rfl 3 (.int .i64 0) 8 Tryz.underlying75 infoInt rfl v4 _ _ rfl h4 v2 rfl (L.drop k) (by exact HS2.out _ f4) (fun _ => rfl) (by have := Hl.out; simp; omega) (by decide) ?_; intro v5 w5 h5 f5))
          all_goals
            go_wp2
            go_ret
            exact ⟨v5, rfl, by rw [HF.out]; exact SliceOf.of_owns h5 (by simp), f5, fun b hb => .inr (h5.lt b hb).1⟩
    · have hk' : k = L.length := by omega
      have hp : posN L n = k := posN_eq L n k hk HJ.out (fun x hx' => by rw [hk', List.getElem?_eq_none (Nat.le_refl _)] at hx'; cases hx')
      have HP := Lib.hid hp; clear hp
      have hfin : putN L n = L.take k ++ n :: L.drop k := by unfold putN; rw [HP.out, hk', List.getElem?_eq_none (Nat.le_refl _)]; simp
      have HF := Lib.hid hfin; clear hfin
      have HK := Lib.hid hk'; clear hk'
      obtain ⟨v1, r1, s1, q1⟩ := sliceTo (P := Tryz.prog) HS.out 75 3 (.int .i64 0) 8 Tryz.underlying75 infoInt k hk
      obtain ⟨v2, r2, s2, q2⟩ := sliceFrom (P := Tryz.prog) HS.out 75 3 (.int .i64 0) 8 Tryz.underlying75 infoInt k hk
      have HS1 := Lib.hid (fun (W : World) (f : Fr NoM w W) => s1.fr0 f)
      have HS2 := Lib.hid (fun (W : World) (f : Fr NoM w W) => s2.fr0 f)
      clear s1 s2 q1 q2
      go_wp2
      go_region_law (first
        | (refine step_appS (enc := encN) rfl (.tmp 33) (.tmp 36) 75 rfl w.heap.size 3 (.int .i64 0) 8 Tryz.underlying75 infoInt rfl (.slice (some ⟨w.heap.size, 0, none⟩) 0 0) 0 [] rfl (by exact World.ownsRow_made w #[] 0 (Nat.le_refl _) (by decide) (by simp)) v1 rfl (L.take k) (by exact HS1.out _ (((Fr.refl NoM w).alloc _).drew)) (fun _ => rfl) (by have := Hl.out; simp; omega) (by decide) ((((Fr.refl NoM w).alloc _).drew).size) ?_; intro v3 w3 h3 f3 q3; have g3 : Fr NoM w w3 := Fr.own (e := 3) (size := 1) (n := 0) (xs := []) (((Fr.refl NoM w).alloc _).drew) (World.ownsRow_made w #[] 0 (Nat.le_refl _) (by decide) (by simp)) f3)
        | (refine step_appS (enc := encN) rfl (.tmp 33) (.tmp 36) 75 rfl w.heap.size 3 (.int .i64 0) 8 Tryz.underlying75 infoInt rfl (.slice (some ⟨w.heap.size, 0, none⟩) 0 0) 0 [] rfl (by exact (World.ownsRow_made w #[] 0 (Nat.le_refl _) (by decide) (by simp)).alloc (.cells #[.int .i64 (n : Int)] 3)) v1 rfl (L.take k) (by exact HS1.out _ ((((Fr.refl NoM w).alloc _).alloc _).drew)) (fun _ => rfl) (by have := Hl.out; simp; omega) (by decide) (((((Fr.refl NoM w).alloc _).alloc _).drew).size) ?_; intro v3 w3 h3 f3 q3; have g3 : Fr NoM w w3 := Fr.own (e := 3) (size := 1) (n := 0) (xs := []) ((((Fr.refl NoM w).alloc _).alloc _).drew) ((World.ownsRow_made w #[] 0 (Nat.le_refl _) (by decide) (by simp)).alloc (.cells #[.int .i64 (n : Int)] 3)) f3)
        | (refine step_appS (enc := encN) rfl (.tmp 33) (.tmp 36) 75 rfl w.heap.size 3 (.int .i64 0) 8 Tryz.underlying75 infoInt rfl (.slice (some ⟨w.heap.size + 1, 0, none⟩) 0 0) 0 [] rfl (by have h := World.ownsRow_made (base := w.heap.size) (e := 3) (size := 1) (w.alloc (.cells #[.int .i64 (n : Int)] 3)) #[] 0 (by simp) (by decide) (by simp); simp only [World.size_alloc] at h; exact h) v1 rfl (L.take k) (by exact HS1.out _ ((((Fr.refl NoM w).alloc _).alloc _).drew)) (fun _ => rfl) (by have := Hl.out; simp; omega) (by decide) (((((Fr.refl NoM w).alloc _).alloc _).drew).size) ?_; intro v3 w3 h3 f3 q3; have g3 : Fr NoM w w3 := Fr.own (e := 3) (size := 1) (n := 0) (xs := []) ((((Fr.refl NoM w).alloc _).alloc _).drew) (by have h := World.ownsRow_made (base := w.heap.size) (e := 3) (size := 1) (w.alloc (.cells #[.int .i64 (n : Int)] 3)) #[] 0 (by simp) (by decide) (by simp); simp only [World.size_alloc] at h; exact h) f3)
        | (refine step_appF (enc := encN) w (by first | exact g3.alloc _ | exact g3) rfl (.tmp 37) (.tmp 39) 75 rfl 3 (.int .i64 0) 8 Tryz.underlying75 infoInt rfl v3 (0 + (L.take k).length) ([] ++ (L.take k).map encN) rfl (by first | exact h3.alloc _ | exact h3) (.slice (some ⟨w3.heap.size, 0, none⟩) 1 1) rfl [n] (by exact SliceOf.one encN w3 n 3) (fun _ => rfl) (by have := Hl.out; simp; omega) (by decide) ?_; intro v4 w4 h4 f4)
        | (refine step_appF (enc := encN) w (by first | exact g3.alloc _ | exact g3) rfl (.tmp 37) (.tmp 39) 75 rfl 3 (.int .i64 0) 8 Tryz.underlying75 infoInt rfl v3 (0 + (L.take k).length) ([] ++ (L.take k).map encN) rfl (by first | exact h3.alloc _ | exact h3) (.slice (some ⟨w.heap.size + 1, 0, none⟩) 1 1) rfl [n] (by have h := (SliceOf.one encN (w.alloc (.cells #[] 3)) n 3).fr (w := ((w.alloc (.cells #[] 3)).alloc (.cells #[encN n] 3)).drew) f3 (by simp [Own1, Value.ownBlock]); simp only [World.size_alloc] at h; exact h) (fun _ => rfl) (by have := Hl.out; simp; omega) (by decide) ?_; intro v4 w4 h4 f4)
        | (refine step_appF (enc := encN) w (by first | exact g3.alloc _ | exact g3) rfl (.tmp 37) (.tmp 39) 75 rfl 3 (.int .i64 0) 8 Tryz.underlying75 infoInt rfl v3 (0 + (L.take k).length) ([] ++ (L.take k).map encN) rfl (by first | exact h3.alloc _ | exact h3) (.slice (some ⟨w.heap.size, 0, none⟩) 1 1) rfl [n] (by exact ((SliceOf.one encN w n 3).fr0 ((Fr.refl NoM _).alloc (.cells #[] 3))).fr (w := ((w.alloc (.cells #[encN n] 3)).alloc (.cells #[] 3)).drew) f3 (by simp [Own1, Value.ownBlock])) (fun _ => rfl) (by have := Hl.out; simp; omega) (by decide) ?_; intro v4 w4 h4 f4)
        | (refine step_appF (enc := encN) w f4 rfl (.tmp 40) (.tmp 43) 75 rfl 3 (.int .i64 0) 8 Tryz.underlying75 infoInt rfl v4 _ _ rfl h4 v2 rfl (L.drop k) (by exact HS2.out _ f4) (fun _ => rfl) (by have := Hl.out; simp; omega) (by decide) ?_; intro v5 w5 h5 f5))
      all_goals
        go_wp2
        go_ret
        exact ⟨v5, rfl, by rw [HF.out]; exact SliceOf.of_owns h5 (by simp), f5, fun b hb => .inr (h5.lt b hb).1⟩

theorem putN_length (L : List Nat) (n : Nat) : (putN L n).length ≤ L.length + 1 := by
  unfold putN
  split
  · omega
  · simp; omega

def atAll (A L : List Nat) : List Nat := L.map fun i => A.getD i 0

theorem atAll_snoc (A L : List Nat) (k : Nat) (hk : k < L.length) (hx : L[k] < A.length) : atAll A (L.take (k + 1)) = atAll A (L.take k) ++ [A[L[k]]] := by
  unfold atAll
  rw [List.take_succ_eq_append_getElem hk, List.map_append]
  congr 1
  simp [List.getD_eq_getElem?_getD, List.getElem?_eq_getElem hx]

set_option maxHeartbeats 1000000 in
theorem l3At_any (av lv : Value) (A L : List Nat) (w : World) (hA : Nats w av A) (hL : Nats w lv L) (hlt : ∀ (j x : Nat), L[j]? = some x → x < A.length) (hl : L.length < 1000000000000) :
    Calls Tryz.prog 123 #[av, lv] w fun e w' => ∃ v', e = .returned v' ∧ w'.ownsRow w.heap.size 3 1 v' L.length ((atAll A L).map encN) ∧ Fr NoM w w' := by
  have HSA := Lib.hid (fun (W : World) (f : Fr NoM w W) => hA.fr0 f)
  have HSL := Lib.hid (fun (W : World) (f : Fr NoM w W) => hL.fr0 f)
  obtain ⟨aa, ac, rfl, hac, hacm, hA⟩ := hA
  obtain ⟨la, lc, rfl, hlc, hlcm, hL⟩ := hL
  have HA := Lib.hid hA; clear hA
  have HL := Lib.hid hL; clear hL
  have Hlt := Lib.hid hlt; clear hlt
  have Hl := Lib.hid hl; clear hl
  go_enter Tryz.func123, Tryz.ntmps123
  go_wp2
  go_loopw [5, 6] (fun v i wr => ∃ k : Nat, k ≤ L.length ∧ i = .int .i64 k ∧ wr.ownsRow w.heap.size 3 1 v k ((atAll A (L.take k)).map encN) ∧ Fr NoM w wr) (fun _ i _ => L.length - (intOf i).toNat)
  case atStart => exact ⟨0, by omega, rfl, World.ownsRow_made w #[] 0 (by omega) (by decide) (by simp), (Fr.refl _ _).alloc _⟩
  case round =>
    obtain ⟨k, hk, rfl, hown, hfr⟩ := hrel
    by_cases hlt' : k < L.length
    · obtain ⟨b1, o1, ha1, hc1⟩ := HL.out k L[k] (by simp)
      have hx := Hlt.out k L[k] (by simp)
      obtain ⟨b2, o2, ha2, hc2⟩ := HA.out L[k] A[L[k]] (by simp)
      have hc1' := hfr.cell hc1 (fun q => q)
      have hc2' := hfr.cell hc2 (fun q => q)
      have ix1 := ixInts la L.length lc k b1 o1 hlt' ha1
      have ix2 := ixInts aa A.length ac L[k] b2 o2 hx ha2
      unfold encN at hc1' hc2'
      have hnext : (atAll A (L.take k)).map encN ++ [encN A[L[k]]] = (atAll A (L.take (k + 1))).map encN := by
        rw [atAll_snoc A L k hlt' hx, List.map_append]; rfl
      have HN := Lib.hid hnext
      have HO := Lib.hid hown; have HFr := Lib.hid hfr
      clear hc1 hc2 ha1 ha2 hnext hown hfr
      go_wp2_with (at_builtin; refine wpList_appF (enc := encN) w (HFr.out.alloc _) rfl _ _ 75 rfl 3 (.int .i64 0) 8 Tryz.underlying75 infoInt rfl _ k _ rfl (HO.out.alloc _) _ rfl [A[L[k]]] (SliceOf.one encN wr A[L[k]] 3) (fun _ => rfl) ?c1 (by decide) ?_)
      case c1 => have := Hl.out; simp; omega
      intro v' w' h1 h2
      rw [HN.out] at h1
      have H1 := Lib.hid h1; have H2 := Lib.hid h2; clear h1 h2
      go_wp2
      go_roundw
      case rel => exact ⟨k + 1, by omega, by go_num, H1.out, H2.out⟩
      case measure => simp [intOf]; omega
    · have hk' : k = L.length := by omega
      have HK := Lib.hid hk'; have HO := Lib.hid hown; have HFr := Lib.hid hfr
      clear hk' hown hfr
      go_wp2
      go_ret
      exact ⟨_, rfl, by have h := HO.out; rw [HK.out, List.take_length] at h; exact h, HFr.out⟩

def sortN (L : List Nat) : List Nat := L.foldl putN []
theorem sortN_snoc (L : List Nat) (x : Nat) : sortN (L ++ [x]) = putN (sortN L) x := by simp [sortN]
theorem sortN_length (L : List Nat) : (sortN L).length ≤ L.length := by
  suffices h : ∀ (L A : List Nat), (L.foldl putN A).length ≤ A.length + L.length by have := h L []; simpa [sortN] using this
  intro L
  induction L with
  | nil => intro A; simp
  | cons x l ih => intro A; have := ih (putN A x); have := putN_length A x; simp only [List.foldl_cons, List.length_cons]; omega

set_option maxHeartbeats 1000000 in
theorem l3Sorted_any (lv : Value) (L : List Nat) (w : World) (hL : Nats w lv L) (hl : L.length < 1000000000000) :
    Calls Tryz.prog 138 #[lv] w fun e w' => ∃ v', e = .returned v' ∧ Nats w' v' (sortN L) ∧ Fr NoM w w' ∧ ∀ b, v'.ownBlock = some b → w.heap.size ≤ b := by
  obtain ⟨la, lc, rfl, hlc, hlcm, hL⟩ := hL
  have HL := Lib.hid hL; clear hL
  have Hl := Lib.hid hl; clear hl
  go_enter Tryz.func138, Tryz.ntmps138
  go_wp2
  go_loopw [3, 4] (fun v i wr => ∃ k : Nat, k ≤ L.length ∧ i = .int .i64 k ∧ Nats wr v (sortN (L.take k)) ∧ Fr NoM w wr ∧ ∀ b, v.ownBlock = some b → w.heap.size ≤ b) (fun _ i _ => L.length - (intOf i).toNat)
  case atStart => exact ⟨0, by omega, rfl, SliceOf.of_owns (L := []) (World.ownsRow_made (base := 0) (e := 3) (size := 1) w #[] 0 (by omega) (by decide) (by simp)) rfl, (Fr.refl _ _).alloc _, by simp [Value.ownBlock]⟩
  case round =>
    obtain ⟨k, hk, rfl, hs, hfr, hb⟩ := hrel
    by_cases hlt' : k < L.length
    · obtain ⟨b1, o1, ha1, hc1⟩ := HL.out k L[k] (by simp)
      have hc1' := hfr.cell hc1 (fun q => q)
      have ix1 := ixInts la L.length lc k b1 o1 hlt' ha1
      unfold encN at hc1'
      have hnext : putN (sortN (L.take k)) L[k] = sortN (L.take (k + 1)) := by rw [List.take_succ_eq_append_getElem hlt', sortN_snoc]
      have HN := Lib.hid hnext
      have hlen : (sortN (L.take k)).length < 1000000000000 := by have h1 := sortN_length (L.take k); have := Hl.out; have h3 := List.length_take_le k L; omega
      have HLen := Lib.hid hlen
      have HS := Lib.hid hs; have HFr := Lib.hid hfr; have HB := Lib.hid hb
      clear hc1 ha1 hnext hs hfr hb hlen
      go_wp2_with fail
      refine (l1Put_any _ (sortN (L.take k)) L[k] wr HS.out HLen.out).mono ?_
      rintro e w1 ⟨v1, rfl, h1, h2, h3⟩
      rw [HN.out] at h1
      have H1 := Lib.hid h1; have H2 := Lib.hid h2; have H3 := Lib.hid h3
      clear h1 h2 h3
      go_wp2
      go_roundw
      case rel => exact ⟨k + 1, by omega, by go_num, H1.out, HFr.out.trans H2.out (fun _ _ q => q), fun b hb => by
          rcases H3.out b hb with h | h
          · exact HB.out b h
          · exact Nat.le_trans HFr.out.size h⟩
      case measure => simp [intOf]; omega
    · have hk' : k = L.length := by omega
      have HK := Lib.hid hk'; have HS := Lib.hid hs; have HFr := Lib.hid hfr; have HB := Lib.hid hb
      clear hk' hs hfr hb
      go_wp2
      go_ret
      exact ⟨_, rfl, by have h := HS.out; rw [HK.out, List.take_length] at h; exact h, HFr.out, HB.out⟩
end Go.Proofs.YtkbljlbfkgoalaaGreatDoor
