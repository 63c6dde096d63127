/- The library's AppendInt at base 36: it appends a number's digits. -/
import Derived.Test.YtioiljboihehcaaGreatDoorFormDefs
import Derived.Test.YtioiljboihehcaaGreatDoorBookRoot
namespace Go.Proofs.YtioiljboihehcaaGreatDoor
set_option linter.unusedVariables false
set_option linter.unusedSimpArgs false
open Go.RowKit

def encU (b : UInt8) : Value := .int .u8 (b.toNat : Int)
theorem infoU8 : (Tryz.prog.info? 5).map (fun i => (i.zero, i.size, i.bytes)) = some (some (.int .u8 0), 1, 1) := by kernel_rfl
def digs : ByteArray := ⟨#[48, 49, 50, 51, 52, 53, 54, 55, 56, 57, 97, 98, 99, 100, 101, 102, 103, 104, 105, 106, 107, 108, 109, 110, 111, 112, 113, 114, 115, 116, 117, 118, 119, 120, 121, 122]⟩
theorem digs_at : ∀ k : Fin 36, digs[k.1]? = some (dg k.1) := by decide
theorem run_digs (k : Nat) (hk : k < 36) (ik : IntKind) (W : World) : (Instr.index 9 (.string digs) (.int ik (k : Int))).run Tryz.prog W = .ok (encU (dg k)) W := by
  have h := digs_at ⟨k, hk⟩
  simp only at h
  simp [Instr.index, asIntOf, run_underlying Tryz.underlying9, h, encU]

theorem run_sliceArr (g j : Nat) (hj : j < 65) (W : World) : (Instr.sliceAt 258 (.pointer (some ⟨g, 0, none⟩)) (some (.int .i64 (j : Int))) none none).run Tryz.prog W = .ok (.slice (some ⟨g, j, none⟩) (65 - j) (65 - j)) W := by
  have h1 : ¬ 65 = j := by omega
  have h2 : j ≤ 65 := by omega
  simp [Instr.sliceAt, run_underlying Tryz.underlying258, Instr.sliceBounds, Instr.sliceBound, asIntOf, Instr.sureAddr, Tryz.sizeOf5, h1, h2, Addr.add]
  omega

theorem RowIs.sliceFrom {α : Type} {e : TypeId} {enc : α → Value} {w : World} {g : Nat} {L : List α} (h : RowIs e enc w g L) (k n : Nat) (hn : L.length = n) (hl : n ≤ 9223372036854775807) : SliceOf enc w (.slice (some ⟨g, k, none⟩) (n - k) (n - k)) (L.drop k) :=
  ⟨_, _, by rw [List.length_drop, hn], by rw [List.length_drop]; omega, by omega, fun j x hx => ⟨g, k, rfl, by
    rw [List.getElem?_drop] at hx
    have hj := (List.getElem?_eq_some_iff.1 hx).1
    rw [h.cell (k + j) hj]
    rw [List.getElem?_eq_getElem hj] at hx; cases hx; rfl⟩⟩

theorem d36_len (k n : Nat) (hk : 0 < k) (h : n < 36 ^ k) : (d36 n).length ≤ k := by
  induction k generalizing n with
  | zero => omega
  | succ k ih =>
    unfold d36
    split
    · simp
    · rename_i h36
      have hk0 : 0 < k := by
        rcases Nat.eq_zero_or_pos k with e | e
        · subst e; simp at h; omega
        · exact e
      have := ih (n / 36) hk0 (by rw [Nat.div_lt_iff_lt_mul (by decide)]; rw [Nat.pow_succ] at h; exact h)
      simp; omega

set_option maxRecDepth 4000 in
set_option maxHeartbeats 4000000 in
theorem formatBits_any {base : Nat} (v : Value) (xs : List UInt8) (n : Nat) (w : World) (hown : w.ownsRow base 5 1 v xs.length (xs.map encU)) (hn : n < 1000000000000) (hb : base ≤ w.heap.size) (hx : xs.length ≤ 1000000000000) :
    Calls Tryz.prog 265 #[v, .int .u64 (n : Int), .int .i64 36, .bool false, .bool true] w fun e w' => ∃ v' s, e = .returned (.tuple #[v', .string s]) ∧ w'.ownsRow base 5 1 v' (xs ++ d36 n).length ((xs ++ d36 n).map encU) ∧ Fr (Own1 v) w w' := by
  have HO := Lib.hid hown; have Hn := Lib.hid hn; have Hb := Lib.hid hb; have Hx := Lib.hid hx
  have hbt : bits BinOp.and IntKind.i64 36 35 = 32 := by rfl
  clear hown hb hx
  go_enter Tryz.func265, Tryz.ntmps265
  go_wp2
  generalize hw1 : w.alloc _ = w1
  have F1 : Fr NoM w w1 := by rw [← hw1]; exact (Fr.refl NoM w).alloc _
  have hr1 : RowIs 258 encU w1 w.heap.size (List.replicate 65 0) := by
    rw [← hw1]
    exact (heap_alloc_new w _).trans (congrArg (fun c => some (Obj.cells c 258 (0, 0))) (by kernel_rfl))
  have HF1 := Lib.hid F1; have HR1 := Lib.hid hr1; have HW1 := Lib.hid hw1
  clear F1 hr1 hw1
  have hd12 := d36_len 12 n (by decide) (by omega)
  have Hd := Lib.hid hd12; clear hd12
  go_loopw [1, 13] (fun u i W => ∃ (m j : Nat) (D : List UInt8), u = .int .u64 m ∧ i = .int .i64 j ∧ m ≤ n ∧ j ≤ 65 ∧ D.length = 65 ∧ d36 n = d36 m ++ D.drop j ∧ RowIs 258 encU W w.heap.size D ∧ Fr NoM w W) (fun u _ _ => (intOf u).toNat)
  case atStart => exact ⟨n, 65, _, rfl, rfl, Nat.le_refl _, Nat.le_refl _, by simp, by simp, HR1.out, HF1.out⟩
  case round =>
    obtain ⟨m, j, D, rfl, rfl, hm, hj, hD, hd, hrow, hfr⟩ := hrel
    have hlen := Hd.out
    have hne : (d36 m).length ≠ 0 := by have := d36_ne m; cases h : d36 m with | nil => exact absurd h this | cons _ _ => simp
    have hjl : 65 - j < 12 := by rw [hd] at hlen; simp [hD] at hlen; omega
    have HD := Lib.hid hD; have Hdd := Lib.hid hd; have HRow := Lib.hid hrow; have HFr := Lib.hid hfr
    clear hlen hne hD hd hrow hfr
    by_cases h36 : 36 ≤ m
    · have hmod : m % 36 < 36 := Nat.mod_lt _ (by decide)
      have hdg := run_digs (m % 36) hmod .u64
      unfold digs at hdg
      rw [show ((m % 36 : Nat) : Int) = (m : Int) - (m : Int) / 36 * 36 from by omega] at hdg
      have cj := HRow.out.cell (j - 1) (by rw [HD.out]; omega)
      have zj := HRow.out.frozen (j - 1)
      unfold encU at hdg cj
      have hset := HRow.out.set (j - 1) (dg (m % 36))
      unfold encU at hset
      have hf := Fr.setCell HFr.out ⟨w.heap.size, j - 1, none⟩ (.int .u8 ((dg (m % 36)).toNat : Int)) (fun h => absurd h (Nat.lt_irrefl _))
      have HSet := Lib.hid hset; have HF := Lib.hid hf
      clear hset hf
      go_wp2
      go_roundw
      case rel =>
        refine ⟨m / 36, j - 1, D.set (j - 1) (dg (m % 36)), by go_num, by go_num, by omega, by omega, by simp [HD.out], ?_, HSet.out, HF.out⟩
        have h1 : d36 m = d36 (m / 36) ++ [dg (m % 36)] := by rw [d36, if_neg (by omega)]
        have h2 : (D.set (j - 1) (dg (m % 36))).drop (j - 1) = dg (m % 36) :: D.drop j := by
          rw [List.drop_eq_getElem_cons (by simp [HD.out]; omega), List.getElem_set_self, List.drop_set_of_lt (by omega), show j - 1 + 1 = j from by omega]
        rw [Hdd.out, h1, h2]; simp
      case measure => simp [intOf]; omega
    · have hmod : m < 36 := by omega
      have hdg := run_digs m hmod .u64
      unfold digs at hdg
      have cj := HRow.out.cell (j - 1) (by rw [HD.out]; omega)
      have zj := HRow.out.frozen (j - 1)
      unfold encU at hdg cj
      have hset := HRow.out.set (j - 1) (dg m)
      unfold encU at hset
      have hf := Fr.setCell HFr.out ⟨w.heap.size, j - 1, none⟩ (.int .u8 ((dg m).toNat : Int)) (fun h => absurd h (Nat.lt_irrefl _))
      have HSet := Lib.hid hset; have HF := Lib.hid hf
      clear hset hf
      have hsl := run_sliceArr w.heap.size (j - 1) (by omega)
      rw [show ((j - 1 : Nat) : Int) = (j : Int) - 1 from by omega] at hsl
      have hD2 : d36 n = (D.set (j - 1) (dg m)).drop (j - 1) := by
        have h1 : d36 m = [dg m] := by rw [d36, if_pos hmod]
        rw [Hdd.out, h1, List.drop_eq_getElem_cons (l := D.set (j - 1) (dg m)) (by simp [HD.out]; omega), List.getElem_set_self, List.drop_set_of_lt (by omega), show j - 1 + 1 = j from by omega]; rfl
      have hsrc := RowIs.sliceFrom (show RowIs 258 encU (wr.setCell ⟨w.heap.size, j - 1, none⟩ (.int .u8 ((dg m).toNat : Int))) w.heap.size (D.set (j - 1) (dg m)) from HSet.out) (j - 1) 65 (by simp [HD.out]) (by decide)
      rw [← hD2] at hsrc
      have HSrc := Lib.hid hsrc; have HD2 := Lib.hid hD2
      clear hsrc hD2
      go_wp2_with (at_builtin; refine wpList_appS (enc := encU) _ rfl _ _ 35 rfl base 5 (.int .u8 0) 1 Tryz.underlying35 infoU8 rfl v xs.length (xs.map encU) rfl (owns_fr HO.out HF.out (fun _ _ q => q)) _ rfl (d36 n) HSrc.out (fun _ => rfl) ?c1 (by decide) ?c2 ?_)
      case c1 => have := Hd.out; have := Hx.out; omega
      case c2 => exact Nat.le_trans Hb.out HFr.out.size
      intro v' w' h1 h2 _
      have H1 := Lib.hid h1; have H2 := Lib.hid h2; clear h1 h2
      go_wp2
      go_ret2
      refine ⟨v', _, rfl, ?_, (HF.out.mono (fun _ _ q => q.elim)).trans H2.out (fun _ _ q => q)⟩
      rw [List.length_append, List.map_append]; exact H1.out

set_option maxRecDepth 4000 in
set_option maxHeartbeats 4000000 in
/-- strconv.AppendInt at base 36. -/
theorem appendInt_any {base : Nat} (v : Value) (xs : List UInt8) (n : Nat) (w : World) (hown : w.ownsRow base 5 1 v xs.length (xs.map encU)) (hn : n < 1000000000000) (hb : base ≤ w.heap.size) (hx : xs.length ≤ 1000000000000) :
    Calls Tryz.prog 163 #[v, .int .i64 (n : Int), .int .i64 36] w fun e w' => ∃ v', e = .returned v' ∧ w'.ownsRow base 5 1 v' (xs ++ d36 n).length ((xs ++ d36 n).map encU) ∧ Fr (Own1 v) w w' := by
  have HC := Lib.hid (formatBits_any v xs n w hown hn hb hx)
  clear hown hb hx
  go_enter Tryz.func163, Tryz.ntmps163
  go_wp2_with (first | (go_at_call 265; refine HC.out.mono ?_; rintro e w' ⟨v', s, rfl, h1, h2⟩; have H1 := Lib.hid h1; have H2 := Lib.hid h2; clear h1 h2) | go_in)
  go_ret
  exact ⟨v', rfl, H1.out, H2.out⟩
end Go.Proofs.YtioiljboihehcaaGreatDoor
