/- The laws' helpers on lists of forms: their sizes are counted, they are copied, compared, marked. -/
import Derived.Test.YtkbljlbfkgoalaaGreatDoorLawMark
import Derived.Test.YtkbljlbfkgoalaaGreatDoorLawKit
import Derived.Test.YtkbljlbfkgoalaaGreatDoorManyP
import Derived.Deep.Slices
import Derived.Deep.RegionHeld3
namespace Go.Proofs.YtkbljlbfkgoalaaGreatDoor
set_option linter.unusedVariables false
set_option linter.unusedSimpArgs false
open Go.RowKit

def cntS (FL : List (List IL)) : Nat := (FL.map fun y => y.length + cntI y).sum
theorem cntS_take_succ {FL : List (List IL)} {i : Nat} {y : List IL} (h : FL[i]? = some y) : cntS (FL.take (i + 1)) = cntS (FL.take i) + (y.length + cntI y) := by
  obtain ⟨hi, e⟩ := List.getElem?_eq_some_iff.1 h
  unfold cntS
  rw [List.take_succ_eq_append_getElem hi, e]
  simp
theorem cntS_take_le (FL : List (List IL)) (i : Nat) : cntS (FL.take i) ≤ cntS FL := by
  unfold cntS
  conv => rhs; rw [← List.take_append_drop i FL]
  rw [List.map_append, List.sum_append]
  omega
theorem cntS_mem {FL : List (List IL)} {i : Nat} {y : List IL} (h : FL[i]? = some y) : y.length + cntI y ≤ cntS FL := by
  have h1 := cntS_take_succ h
  have h2 := cntS_take_le FL (i + 1)
  omega
theorem infoLForm : (Tryz.prog.info? 40).map (fun i => (i.zero, i.size, i.bytes)) = some (some (.agg #[.slice none 0 0]), 1, 24) := by kernel_rfl
theorem ixLForms (a : Option Addr) (n c k b off : Nat) (hk : k < n) (ha : a = some ⟨b, off, none⟩) (w : World) :
    (Instr.indexAt 30 (.slice a n c) (.int .i64 (k : Int))).run Tryz.prog w = .ok (.pointer (some ⟨b, off + k, none⟩)) w := by
  subst ha
  go_simp
set_option maxHeartbeats 2000000 in
theorem szFormS_any {R : Nat → Prop} (v : Value) (FL : List (List IL)) (n : Nat) (w : World) (h : FormsI R w v FL) (hn : n ≤ 1048576) :
    Calls Tryz.prog 20 #[v, .int .i64 (n : Int)] w fun e w' => e = .returned (.int .i64 (if n < FL.length + cntS FL then -1 else ((n - (FL.length + cntS FL) : Nat) : Int))) ∧ Fr NoM w w' := by
  obtain ⟨a, c, rfl, hl9⟩ := h.shape
  by_cases hlt : n < FL.length
  · rw [if_pos (show n < FL.length + cntS FL by omega)]
    have hs : ((n : Int) - (FL.length : Int)) < 0 := by omega
    clear h
    go_enter Tryz.func20, Tryz.ntmps20
    go_wp2
    go_ret
    exact ⟨rfl, Fr.refl _ _⟩
  · obtain ⟨m, hm⟩ : ∃ m, m = n - FL.length := ⟨_, rfl⟩
    have hme : (n : Int) - (FL.length : Int) = (m : Int) := by omega
    have hm0 : ¬ (m : Int) < 0 := by omega
    obtain ⟨res, hres⟩ : ∃ res, res = (if n < FL.length + cntS FL then (-1 : Int) else ((n - (FL.length + cntS FL) : Nat) : Int)) := ⟨_, rfl⟩
    rw [← hres]
    have hr2 : res = if m < cntS FL then (-1 : Int) else ((m - cntS FL : Nat) : Int) := by
      rw [hres]
      by_cases hq : m < cntS FL
      · rw [if_pos hq, if_pos (by omega)]
      · rw [if_neg hq, if_neg (by omega)]; omega
    have hmb : m ≤ 1048576 := by omega
    have H3 := Lib.hid (fun (W : World) (f : Fr NoM w W) => h.fr0 f); have HR := Lib.hid hr2
    have HMb := Lib.hid hmb
    clear h hres hr2 hm hlt
    go_enter Tryz.func20, Tryz.ntmps20
    go_wp2_with fail
    go_loopw [5, 1] (fun t l W => ∃ j q : Nat, t = .int .i64 j ∧ l = .int .i64 q ∧ j ≤ FL.length ∧ q + cntS (FL.take j) = m ∧ Fr NoM w W) (fun t _ _ => FL.length - (intOf t).toNat)
    case atStart => exact ⟨0, m, rfl, by first | rfl | rw [hme], Nat.zero_le _, by simp [cntS], Fr.refl _ _⟩
    case round =>
      obtain ⟨j, q, rfl, rfl, hj, hq, hfr⟩ := hrel
      obtain ⟨w7, rfl⟩ : ∃ w7, w7 = wr := ⟨_, rfl⟩
      have HQ := Lib.hid hq; have HFr := Lib.hid hfr
      clear hq hfr
      by_cases hjl : j < FL.length
      · obtain ⟨y, hy⟩ : ∃ y, FL[j]? = some y := ⟨_, List.getElem?_eq_getElem hjl⟩
        obtain ⟨b, off, nv, ha, c1, n1⟩ := (H3.out w7 HFr.out).get hy
        have ix := ixLForms a FL.length c j b off hjl ha
        have hcall := szForm_any nv y q w7 n1 (by have := HQ.out; have := HMb.out; omega)
        obtain ⟨r1, hr1⟩ : ∃ r1, r1 = (if q < y.length + cntI y then (-1 : Int) else ((q - (y.length + cntI y) : Nat) : Int)) := ⟨_, rfl⟩
        rw [← hr1] at hcall
        have HC := Lib.hid hcall; have HR1 := Lib.hid hr1; have HY := Lib.hid hy
        obtain ⟨na, nc, rfl, z⟩ := id n1
        clear z n1 hcall hr1 hy ha
        go_wp2_with fail
        refine HC.out.mono ?_
        rintro e w8 ⟨rfl, f8⟩
        have HF8 := Lib.hid (HFr.out.trans f8 (fun _ _ q => q))
        clear f8
        by_cases hneg : r1 < 0
        · have hrn : res = -1 := by
            have h1 := HR1.out
            have h2 := cntS_take_succ HY.out
            have h3 := cntS_take_le FL (j + 1)
            have h4 := HQ.out
            rw [HR.out, if_pos]
            split at h1
            · omega
            · omega
          have HRn := Lib.hid hrn
          clear hrn
          go_wp2_with fail
          go_ret
          exact ⟨by rw [HRn.out]; rfl, HF8.out⟩
        · obtain ⟨q', hq'⟩ : ∃ q' : Nat, r1 = (q' : Int) := ⟨r1.toNat, by omega⟩
          have hs : q' + (y.length + cntI y) = q := by
            have h1 := HR1.out
            split at h1
            · omega
            · omega
          subst hq'
          have HS := Lib.hid hs
          clear hs
          go_wp2_with fail
          go_roundw
          case rel => exact ⟨j + 1, q', by go_num, rfl, by omega, by
            have h2 := cntS_take_succ HY.out
            have h4 := HQ.out
            have h5 := HS.out
            omega, HF8.out⟩
          case measure => simp [intOf]; omega
      · have hj' : j = FL.length := by omega
        subst hj'
        have hqe : res = (q : Int) := by
          have h4 := HQ.out
          rw [List.take_length] at h4
          rw [HR.out, if_neg (by omega)]
          omega
        have HQe := Lib.hid hqe
        clear hqe
        go_wp2_with fail
        go_ret
        exact ⟨by rw [HQe.out]; rfl, HFr.out⟩

theorem mk_forms (n : Nat) (W : World) (hn : n < 1000000000) : (Instr.makeSlice 33 (.int .i64 (n : Int)) (.int .i64 (n : Int))).run Tryz.prog W = .ok (.slice (some ⟨W.heap.size, 0, none⟩) n n) (W.alloc (.cells (fillC encV (.slice none 0 0) n) 24)) := by
  obtain ⟨i0, hi, hz0, hz1, hz2⟩ := info_parts infoForm
  have h := run_make (P := Tryz.prog) W 33 24 i0 _ Tryz.underlying33 hi hz0 .i64 .i64 (n : Int) (n : Int) (by omega) (by omega) (by rw [hz2]; omega) (by omega)
  rw [h, hz1, show ((n : Int)).toNat = n from by omega]
  have : madeCells (Value.cells (.agg #[.slice none 0 0])) (n * 1) = (fillC encV (.slice none 0 0) n) := by
    apply Array.ext'
    unfold fillC
    rw [List.toList_toArray, madeCells, Array.toList_map, Array.toList_range]
    refine (List.eq_replicate_iff.2 ⟨by simp, fun b hb => ?_⟩ : _ = List.replicate n (Value.slice none 0 0)).trans (by simp [encV])
    obtain ⟨y, _, rfl⟩ := List.mem_map.1 hb
    simp [Value.cells, Nat.mod_one]
  rw [this]
theorem NodesI.base {D D' : Nat} {w : World} {v : Value} {FI : List IL} {NV : List (Value × Value)} (h : NodesI D w v FI NV) (hd : D' ≤ D) : NodesI D' w v FI NV :=
  ⟨owns_base h.row hd, h.len, h.ints, fun q hq => ⟨Nat.le_trans hd (h.blk q hq).1, (h.blk q hq).2⟩, h.sep, h.thaw⟩
theorem NodesI.frX {M : Nat → Prop} {D : Nat} {w w' : World} {v : Value} {FI : List IL} {NV : List (Value × Value)} (h : NodesI D w v FI NV) (hf : Fr M w w') (hv : ∀ q, v.ownBlock = some q → ¬ M q) (hb : ∀ q ∈ blocksOf NV, ¬ M q) : NodesI D w' v FI NV := by
  refine ⟨owns_fr h.row hf hv, h.len, fun j x y hx hy => ?_, fun q hq => ⟨(h.blk q hq).1, Nat.lt_of_lt_of_le (h.blk q hq).2.1 hf.size, (h.blk q hq).2.2⟩, h.sep, fun q hq => (h.thaw q hq).fr hf (hb q hq)⟩
  obtain ⟨s1, s2⟩ := h.ints j x y hx hy
  obtain ⟨m1, m2⟩ := mem_blocks hx
  exact ⟨s1.fr hf (fun _ q hq => hb q (m1 q hq)), s2.fr hf (fun _ q hq => hb q (m2 q hq))⟩
/-- Forms that have been copied: each in blocks of its own. -/
structure FormsW (D : Nat) (w : World) (FL : List (List IL)) (VS : List Value) (NVS : List (List (Value × Value))) : Prop where
  len : VS.length = FL.length
  nlen : NVS.length = FL.length
  nodes : ∀ (j : Nat) (v : Value) (Fi : List IL) (NV : List (Value × Value)), VS[j]? = some v → FL[j]? = some Fi → NVS[j]? = some NV → NodesI D w v Fi NV
  sep : ∀ (i j : Nat) (NVi NVj : List (Value × Value)) (vj : Value), i ≠ j → NVS[i]? = some NVi → NVS[j]? = some NVj → VS[j]? = some vj → ∀ q ∈ blocksOf NVi, q ∉ blocksOf NVj ∧ vj.ownBlock ≠ some q
theorem FormsW.nil (D : Nat) (w : World) : FormsW D w [] [] [] := ⟨rfl, rfl, by simp, by simp⟩
theorem FormsW.fr {M : Nat → Prop} {D : Nat} {w w' : World} {FL : List (List IL)} {VS : List Value} {NVS : List (List (Value × Value))} (h : FormsW D w FL VS NVS) (hf : Fr M w w') (hM : ∀ q, D ≤ q → q < w.heap.size → ¬ M q) : FormsW D w' FL VS NVS :=
  ⟨h.len, h.nlen, fun j v Fi NV h1 h2 h3 => (h.nodes j v Fi NV h1 h2 h3).fr hf hM, h.sep⟩
theorem FormsW.snoc {D : Nat} {w w' : World} {FL : List (List IL)} {VS : List Value} {NVS : List (List (Value × Value))} {v : Value} {Fi : List IL} {NV : List (Value × Value)} (h : FormsW D w FL VS NVS) (hf : Fr NoM w w') (hn : NodesI w.heap.size w' v Fi NV) (hD : D ≤ w.heap.size) :
    FormsW D w' (FL ++ [Fi]) (VS ++ [v]) (NVS ++ [NV]) := by
  have e1 := h.len; have e2 := h.nlen
  refine ⟨by simp [e1], by simp [e2], fun j v' Fi' NV' h1 h2 h3 => ?_, fun i j NVi NVj vj hij h1 h2 h3 q hq => ?_⟩
  · rcases get_snoc h1 with ⟨l1, g1⟩ | ⟨l1, rfl⟩
    · rcases get_snoc h2 with ⟨l2, g2⟩ | ⟨l2, rfl⟩
      · rcases get_snoc h3 with ⟨l3, g3⟩ | ⟨l3, rfl⟩
        · exact (h.nodes j v' Fi' NV' g1 g2 g3).fr0 hf
        · omega
      · omega
    · rcases get_snoc h2 with ⟨l2, g2⟩ | ⟨l2, rfl⟩
      · omega
      · rcases get_snoc h3 with ⟨l3, g3⟩ | ⟨l3, rfl⟩
        · omega
        · exact hn.base hD
  · rcases get_snoc h1 with ⟨l1, g1⟩ | ⟨l1, rfl⟩
    · obtain ⟨vi, hvi⟩ : ∃ vi, VS[i]? = some vi := ⟨_, List.getElem?_eq_getElem (by omega)⟩
      obtain ⟨Fi', hFi⟩ : ∃ Fi', FL[i]? = some Fi' := ⟨_, List.getElem?_eq_getElem (by omega)⟩
      have hb := (h.nodes i vi Fi' NVi hvi hFi g1).blk q hq
      rcases get_snoc h2 with ⟨l2, g2⟩ | ⟨l2, rfl⟩
      · rcases get_snoc h3 with ⟨l3, g3⟩ | ⟨l3, rfl⟩
        · exact h.sep i j NVi NVj vj hij g1 g2 g3 q hq
        · omega
      · rcases get_snoc h3 with ⟨l3, g3⟩ | ⟨l3, rfl⟩
        · omega
        · exact ⟨fun hq' => by have := (hn.blk q hq').1; omega, fun e => by have := (hn.row.lt q e).1; omega⟩
    · have hb := (hn.blk q hq).1
      rcases get_snoc h2 with ⟨l2, g2⟩ | ⟨l2, rfl⟩
      · obtain ⟨Fj, hFj⟩ : ∃ Fj, FL[j]? = some Fj := ⟨_, List.getElem?_eq_getElem (by omega)⟩
        rcases get_snoc h3 with ⟨l3, g3⟩ | ⟨l3, rfl⟩
        · have hN := h.nodes j vj Fj NVj g3 hFj g2
          exact ⟨fun hq' => by have := (hN.blk q hq').2.1; omega, fun e => by have := (hN.row.lt q e).2; omega⟩
        · omega
      · omega
theorem FormsW.forms {D g : Nat} {w : World} {FL : List (List IL)} {VS : List Value} {NVS : List (List (Value × Value))} (h : FormsW D w FL VS NVS) (hr : RowIs 24 encV w g VS) (hn : FL.length < 1000000000) : FormsI (fun _ => True) w (.slice (some ⟨g, 0, none⟩) FL.length FL.length) FL := by
  have hl := h.len; have hn2 := h.nlen
  have hs := hr.slice (by omega)
  rw [hl] at hs
  refine ⟨VS, hs, hl, fun j nv Fi h1 h2 => ?_⟩
  have hj := (List.getElem?_eq_some_iff.1 h2).1
  exact ((h.nodes j nv Fi _ h1 h2 (List.getElem?_eq_getElem (by omega))).nodeL).mono (fun _ _ => trivial)
set_option maxRecDepth 4000 in
set_option maxHeartbeats 4000000 in
theorem toFormS_any {R : Nat → Prop} (v : Value) (FL : List (List IL)) (w : World) (h : FormsI R w v FL) (hn : FL.length < 1000000000) (hlen : ∀ Fi ∈ FL, Fi.length < 1000000000 ∧ ∀ y ∈ Fi, y.1.length < 1000000000 ∧ y.2.length < 1000000000) :
    Calls Tryz.prog 22 #[v] w fun e w' => ∃ (VS : List Value) (NVS : List (List (Value × Value))), e = .returned (.slice (some ⟨w.heap.size, 0, none⟩) FL.length FL.length) ∧ FormsW (w.heap.size + 1) w' FL VS NVS ∧ RowIs 24 encV w' w.heap.size VS ∧ Fr NoM w w' := by
  obtain ⟨a, c, rfl, hl9⟩ := h.shape
  have mk := fun W => mk_forms FL.length W hn
  have H3 := Lib.hid (fun (W : World) (f : Fr NoM w W) => h.fr0 f); have HLen := Lib.hid hlen
  clear h hlen
  go_enter Tryz.func22, Tryz.ntmps22
  go_wp2
  clear mk
  go_loopw [4] (fun t W => ∃ (i : Nat) (VS : List Value) (NVS : List (List (Value × Value))), t = .int .i64 i ∧ i ≤ FL.length ∧ FormsW (w.heap.size + 1) W (FL.take i) VS NVS ∧ RowIs 24 encV W w.heap.size (VS ++ List.replicate (FL.length - i) (.slice none 0 0)) ∧ Fr NoM w W) (fun t _ => FL.length - (intOf t).toNat)
  case atStart => exact ⟨0, [], [], rfl, Nat.zero_le _, FormsW.nil _ _, RowIs.made 24 encV w (.slice none 0 0) FL.length, (Fr.refl NoM w).alloc _⟩
  case round =>
    obtain ⟨i, VS, NVS, rfl, hi, hp, hrow, hfr⟩ := hrel
    obtain ⟨w7, rfl⟩ : ∃ w7, w7 = wr := ⟨_, rfl⟩
    by_cases hil : i < FL.length
    · obtain ⟨Fi, hFi⟩ : ∃ Fi, FL[i]? = some Fi := ⟨_, List.getElem?_eq_getElem hil⟩
      obtain ⟨b, off, nv, ha, c1, n1⟩ := (H3.out w7 hfr).get hFi
      obtain ⟨l1, l2⟩ := HLen.out Fi (List.mem_of_getElem? hFi)
      have ix := ixLForms a FL.length c i b off hil ha
      have ix2 := ixForms (some ⟨w.heap.size, 0, none⟩) FL.length FL.length i w.heap.size 0 hil rfl
      simp only [Nat.zero_add] at ix2
      have hcall := toForm_any nv Fi w7 n1 l1 l2
      have hvl : VS.length = i := by rw [hp.len]; simp; omega
      have hsz : w.heap.size < w7.heap.size := (Array.getElem?_eq_some_iff.1 hrow).1
      have HC := Lib.hid hcall; have HFi := Lib.hid hFi; have HP := Lib.hid hp; have HRow := Lib.hid hrow; have HFr := Lib.hid hfr; have HVl := Lib.hid hvl; have HSz := Lib.hid hsz
      obtain ⟨na, nc, rfl, z⟩ := id n1
      clear z n1 hcall hFi hp hrow hfr hvl hsz ha l1 l2
      go_wp2_with fail
      refine HC.out.mono ?_
      rintro e w8 ⟨v8, NV8, rfl, n8, f8⟩
      have hp8 := HP.out.snoc f8 n8 HSz.out
      have hrow8 := HRow.out.fr f8 (fun q => q)
      obtain ⟨m, hm⟩ : ∃ m, FL.length - i = m + 1 := ⟨FL.length - i - 1, by omega⟩
      have hm2 : FL.length - (i + 1) = m := by omega
      rw [hm] at hrow8
      obtain ⟨u0, k0⟩ : ∃ u0, w8.cell? ⟨w.heap.size, i, none⟩ = some u0 := ⟨_, hrow8.cell i (by simp [HVl.out])⟩
      have z0 := hrow8.frozen i
      have hset := hrow8.set i v8
      have e1 := fill_set VS m v8 (.slice none 0 0)
      rw [HVl.out] at e1
      rw [e1, ← hm2] at hset
      have htk : FL.take i ++ [Fi] = FL.take (i + 1) := by
        obtain ⟨hi', e⟩ := List.getElem?_eq_some_iff.1 HFi.out
        rw [List.take_succ_eq_append_getElem hi', e]
      rw [htk] at hp8
      have f9 : Fr (fun q => q = w.heap.size) w8 (w8.setCell ⟨w.heap.size, i, none⟩ v8) := (Fr.refl (fun q => q = w.heap.size) w8).setCell ⟨w.heap.size, i, none⟩ v8 (fun _ => rfl)
      have hp9 := hp8.fr f9 (fun q h1 _ e => by omega)
      have hfr9 := (HFr.out.trans f8 (fun _ _ q => q)).trans f9 (fun q hq e => by omega)
      have HSet := Lib.hid hset; have HP9 := Lib.hid hp9; have HFr9 := Lib.hid hfr9
      obtain ⟨xa, xc, rfl, zz⟩ := id n8.nodeL
      clear zz hset hp8 hp9 hfr9 f9 f8 n8 hrow8 e1 htk hm hm2
      go_wp2_with fail
      go_roundw
      case rel => exact ⟨i + 1, _, _, by go_num, by omega, HP9.out, HSet.out, HFr9.out⟩
      case measure => simp [intOf]; omega
    · have hi' : i = FL.length := by omega
      subst hi'
      rw [Nat.sub_self, List.replicate_zero, List.append_nil] at hrow
      rw [List.take_length] at hp
      have HP := Lib.hid hp; have HRow := Lib.hid hrow; have HFr := Lib.hid hfr
      clear hp hrow hfr
      go_wp2_with fail
      go_ret
      exact ⟨VS, NVS, rfl, HP.out, HRow.out, HFr.out⟩
set_option maxRecDepth 4000 in
set_option maxHeartbeats 4000000 in
theorem eqFormS_same {R S : Nat → Prop} (av bv : Value) (FL : List (List IL)) (w : World) (hA : FormsI R w av FL) (hB : FormsI S w bv FL) :
    Calls Tryz.prog 24 #[av, bv] w fun e w' => e = .returned (.bool true) ∧ Fr NoM w w' := by
  obtain ⟨aa, ac, rfl, hl9⟩ := hA.shape
  obtain ⟨ba, bc, rfl, _⟩ := hB.shape
  have HA := Lib.hid (fun (W : World) (f : Fr NoM w W) => hA.fr0 f)
  have HB := Lib.hid (fun (W : World) (f : Fr NoM w W) => hB.fr0 f)
  clear hA hB
  go_enter Tryz.func24, Tryz.ntmps24
  go_wp2_with fail
  go_loopw [5] (fun i wr => ∃ k : Nat, k ≤ FL.length ∧ i = .int .i64 k ∧ Fr NoM w wr) (fun i _ => FL.length - (intOf i).toNat)
  case atStart => exact ⟨0, by omega, rfl, Fr.refl _ _⟩
  case round =>
    obtain ⟨k, hk, rfl, hfr⟩ := hrel
    obtain ⟨w7, rfl⟩ : ∃ w7, w7 = wr := ⟨_, rfl⟩
    by_cases hkl : k < FL.length
    · obtain ⟨Fi, hFi⟩ : ∃ Fi, FL[k]? = some Fi := ⟨_, List.getElem?_eq_getElem hkl⟩
      obtain ⟨b1, o1, nv1, ha1, c1, n1⟩ := (HA.out w7 hfr).get hFi
      obtain ⟨b2, o2, nv2, ha2, c2, n2⟩ := (HB.out w7 hfr).get hFi
      have ix1 := ixForms aa FL.length ac k b1 o1 hkl ha1
      have ix2 := ixForms ba FL.length bc k b2 o2 hkl ha2
      have HC := Lib.hid (fun (W : World) (f : Fr NoM w7 W) => show W.cell? ⟨b1, o1 + k, none⟩ = some nv1 ∧ W.cell? ⟨b2, o2 + k, none⟩ = some nv2 from ⟨f.cell c1 (fun q => q), f.cell c2 (fun q => q)⟩)
      have HE := Lib.hid (fun (W : World) (f : Fr NoM w7 W) => (by
        have h := eqFormI_any nv1 nv2 Fi Fi W (n1.fr0 f) (n2.fr0 f)
        rw [decide_eq_true (rfl : Fi = Fi)] at h
        exact h : Calls Tryz.prog 17 #[.agg #[nv1], .agg #[nv2]] W fun e w' => e = .returned (.bool true) ∧ Fr NoM W w'))
      have HFr := Lib.hid hfr
      obtain ⟨na1, nc1, rfl, z⟩ := id n1
      clear z
      obtain ⟨na2, nc2, rfl, z⟩ := id n2
      have hs := HC.out w7 (Fr.refl _ _)
      clear z n1 n2 hFi hfr ha1 ha2 c1 c2
      go_upto_region 6 with fail
      have F0 : Fr NoM w7 w7.drew := (Fr.refl NoM w7).drew
      go_region_held3 (fun (W : World) => W.cell? ⟨b1, o1 + k, none⟩ = some (.slice na1 Fi.length nc1) ∧ W.cell? ⟨b2, o2 + k, none⟩ = some (.slice na2 Fi.length nc2))
        (exact HC.out _ (by assumption))
        (first
          | (go_at_call 17; (with_reducible refine (HE.out _ (by assumption)).mono ?_); rintro e w8 ⟨rfl, f8⟩; have F8 : Fr NoM w7 w8 := Fr.trans (by assumption) f8 (fun _ _ q => q))
          | fail)
      all_goals
        have G8 := Lib.hid F8
        clear f8 F8 F0
        go_wp2
        go_roundw
        case rel => exact ⟨k + 1, by omega, by go_num, HFr.out.trans G8.out (fun _ _ q => q)⟩
        case measure => simp [intOf]; omega
    · have HFr := Lib.hid hfr
      clear hfr
      go_wp2
      go_ret
      exact ⟨rfl, HFr.out⟩
def cntT (FL : List (List IL)) : Nat := (FL.map cntI).sum
theorem cntT_take_succ {FL : List (List IL)} {i : Nat} {y : List IL} (h : FL[i]? = some y) : cntT (FL.take (i + 1)) = cntT (FL.take i) + cntI y := by
  obtain ⟨hi, e⟩ := List.getElem?_eq_some_iff.1 h
  unfold cntT
  rw [List.take_succ_eq_append_getElem hi, e]
  simp
theorem cntT_take_le (FL : List (List IL)) (i : Nat) : cntT (FL.take i) ≤ cntT FL := by
  unfold cntT
  conv => rhs; rw [← List.take_append_drop i FL]
  rw [List.map_append, List.sum_append]
  omega
theorem cntT_le (FL : List (List IL)) : cntT FL ≤ cntS FL := by
  induction FL with
  | nil => simp [cntT, cntS]
  | cons a l ih =>
    unfold cntT cntS at *
    simp only [List.map_cons, List.sum_cons]
    omega
set_option maxRecDepth 4000 in
set_option maxHeartbeats 4000000 in
theorem markFormS_any (D g : Nat) (FL : List (List IL)) (VS : List Value) (NVS : List (List (Value × Value))) (k : Nat) (w : World) (h : FormsW D w FL VS NVS) (hr : RowIs 24 encV w g VS) (hg : g < D) (hk : k + cntT FL < 1000000000) (hl : FL.length < 1000000000) (hll : ∀ Fi ∈ FL, Fi.length < 1000000000) :
    Calls Tryz.prog 25 #[.slice (some ⟨g, 0, none⟩) FL.length FL.length, .int .i64 (k : Int)] w fun e w' => e = .returned (.int .i64 ((k + cntT FL : Nat) : Int)) ∧ Fr (fun q => ∃ NV ∈ NVS, q ∈ blocksOf NV) w w' := by
  obtain ⟨res, hres⟩ : ∃ res, res = k + cntT FL := ⟨_, rfl⟩
  rw [← hres]
  have H := Lib.hid h; have HR := Lib.hid hr; have HRes := Lib.hid hres; have HK := Lib.hid hk; have HLl := Lib.hid hll
  have hvl := h.len; have hnl := h.nlen
  have HVl := Lib.hid hvl; have HNl := Lib.hid hnl
  clear h hr hres hk hll hvl hnl
  go_enter Tryz.func25, Tryz.ntmps25
  go_wp2_with fail
  go_loopw [5, 1] (fun i kv W => ∃ (j m : Nat), i = .int .i64 j ∧ kv = .int .i64 m ∧ m = k + cntT (FL.take j) ∧ j ≤ FL.length ∧ (∀ (i : Nat) (v : Value) (Fi : List IL) (NV : List (Value × Value)), j ≤ i → VS[i]? = some v → FL[i]? = some Fi → NVS[i]? = some NV → NodesI D W v Fi NV) ∧ Fr (fun q => ∃ NV ∈ NVS, q ∈ blocksOf NV) w W) (fun i _ _ => FL.length - (intOf i).toNat)
  case atStart => exact ⟨0, k, rfl, rfl, by simp [cntT], Nat.zero_le _, fun i v Fi NV _ h1 h2 h3 => H.out.nodes i v Fi NV h1 h2 h3, Fr.refl _ _⟩
  case round =>
    obtain ⟨j, m, rfl, rfl, hm, hj, hn, hf⟩ := hrel
    obtain ⟨w7, rfl⟩ : ∃ w7, w7 = wr := ⟨_, rfl⟩
    by_cases hlt : j < FL.length
    · obtain ⟨Fi, hFi⟩ : ∃ Fi, FL[j]? = some Fi := ⟨_, List.getElem?_eq_getElem hlt⟩
      obtain ⟨v, hv⟩ : ∃ v, VS[j]? = some v := ⟨_, List.getElem?_eq_getElem (by rw [HVl.out]; exact hlt)⟩
      obtain ⟨NV, hNV⟩ : ∃ NV, NVS[j]? = some NV := ⟨_, List.getElem?_eq_getElem (by rw [HNl.out]; exact hlt)⟩
      have hN := hn j v Fi NV (Nat.le_refl _) hv hFi hNV
      have hgr : RowIs 24 encV w7 g VS := HR.out.fr hf (fun ⟨NV', hm', hq⟩ => by
        obtain ⟨i, hi, rfl⟩ := List.getElem_of_mem hm'
        have hil : i < FL.length := by rw [← HNl.out]; exact hi
        have h1 := (H.out.nodes i _ _ _ (List.getElem?_eq_getElem (by rw [HVl.out]; exact hil)) (List.getElem?_eq_getElem hil) (List.getElem?_eq_getElem hi)).blk g hq
        omega)
      have c1 : w7.cell? ⟨g, j, none⟩ = some v := by
        have h := hgr.cell j (by rw [HVl.out]; exact hlt)
        rw [List.getElem?_eq_getElem (by rw [HVl.out]; exact hlt)] at hv
        rw [h, ← Option.some.inj hv]; rfl
      have ix := ixForms (some ⟨g, 0, none⟩) FL.length FL.length j g 0 hlt rfl
      rw [Nat.zero_add] at ix
      have hsum := cntT_take_succ hFi
      have hle := cntT_take_le FL (j + 1)
      have hmk := markNodeSI_any D v Fi NV m w7 hN (by have := HK.out; omega) (HLl.out Fi (List.mem_of_getElem? hFi))
      obtain ⟨m8, hm8⟩ : ∃ m8, m8 = m + cntI Fi := ⟨_, rfl⟩
      rw [← hm8] at hmk
      have HMk := Lib.hid hmk; have HF := Lib.hid hf; have HM8 := Lib.hid (show m8 = k + cntT (FL.take (j + 1)) from by omega)
      have HNV := Lib.hid hNV
      have HNx := Lib.hid (fun (W : World) (f : Fr (fun q => q ∈ blocksOf NV) w7 W) (i : Nat) (v' : Value) (Fi' : List IL) (NV' : List (Value × Value)) (hi : j + 1 ≤ i) (h1 : VS[i]? = some v') (h2 : FL[i]? = some Fi') (h3 : NVS[i]? = some NV') =>
        ((hn i v' Fi' NV' (by omega) h1 h2 h3).frX f (fun q e hq => (H.out.sep j i NV NV' v' (by omega) hNV h3 h1 q hq).2 e) (fun q e hq => (H.out.sep j i NV NV' v' (by omega) hNV h3 h1 q hq).1 e) : NodesI D W v' Fi' NV'))
      have O1 : v.oneCell' = true := by obtain ⟨_, _, rfl, _⟩ := Pairs.of_owns hN.row; rfl
      clear hmk hn hf hm hFi hv hNV hN hgr hsum hle hm8
      go_wp2_with fail
      refine HMk.out.mono ?_
      rintro e w8 ⟨rfl, f8⟩
      have HF8 := Lib.hid (HF.out.trans f8 (fun q _ e => ⟨NV, List.mem_of_getElem? HNV.out, e⟩))
      have HN8 := Lib.hid (HNx.out w8 f8)
      clear f8
      go_wp2
      go_roundw
      case rel => exact ⟨j + 1, m8, by go_num, rfl, HM8.out, by omega, HN8.out, HF8.out⟩
      case measure => simp [intOf]; omega
    · have hj' : j = FL.length := by omega
      subst hj'
      rw [List.take_length] at hm
      have HM := Lib.hid (show m = res from by rw [hm, HRes.out]); have HF := Lib.hid hf
      clear hm hn hf
      go_wp2
      go_ret
      exact ⟨by rw [HM.out]; rfl, HF.out⟩
end Go.Proofs.YtkbljlbfkgoalaaGreatDoor
namespace Go.Proofs.YtkbljlbfkgoalaaGreatDoor
set_option linter.unusedVariables false
set_option linter.unusedSimpArgs false
open Go.RowKit Go.ChangeShapes Go.WideShapes Go.Deep

section
variable {H : Type} {enc : TypeId × Value → H} {w : World} {base : Nat} {spare : Nat → Bool} {held : Bool}
set_option maxRecDepth 20000 in
theorem openForms {r : Reach} {b0 : Nat} {v : Value} {d : DataW H} {ps : List MemPlace} (hval : Value.okWide Tryz.prog w r b0 30 v) (h : DataW.Trod enc Tryz.prog w base spare held 30 v d ps) : ∃ FL, FormsI AnyB w v FL := by
  obtain ⟨a0, len0, cap0, rfl⟩ := okWide_slice Tryz.underlying30 hval
  obtain ⟨fuel, hf⟩ := h
  rcases open_slice1 Tryz.underlying30 (by kernel_rfl) hf with ⟨e, _⟩ | ⟨a, len, cap, m, n, V, D, Pl, e, _, hl, hm, hmm, _, hc⟩
  · cases e
    exact ⟨[], [], SliceOf.nil _ _, rfl, fun j nv Fi h1 h2 => by simp at h1⟩
  · cases e
    have hlm : len0 ≤ m := by rw [hmm]; split <;> omega
    have hall : ∀ i, i < len0 → ∃ Fi : List IL, NodeL AnyB encI w (V i) Fi := fun i hi => by
      obtain ⟨_, t0⟩ := hc i (by omega)
      obtain ⟨y0, n', _, _, h1⟩ := trod_struct1 Tryz.underlying40 t0
      exact openNodes (v := V i) (fuel := n') (x := y0) h1
    obtain ⟨Y, hY⟩ := choose_lt hall
    have hlen : ((List.range len0).map Y).length = len0 := by simp
    have hlen2 : ((List.range len0).map V).length = len0 := by simp
    refine ⟨(List.range len0).map Y, (List.range len0).map V, ⟨some a, cap0, by rw [hlen2], by omega, by unfold maxLen at hm; omega, fun i y hy => ?_⟩, by rw [hlen, hlen2], fun j nv Fi h1 h2 => ?_⟩
    · have hi : i < len0 := by rw [← hlen2]; exact (List.getElem?_eq_some_iff.1 hy).1
      rw [List.getElem?_map, List.getElem?_range hi] at hy
      obtain rfl : V i = y := Option.some.inj hy
      have h0 := (hc 0 (by omega)).1
      rw [show a.add 0 = a from rfl] at h0
      have ha := plainA h0
      obtain ⟨c0, _⟩ := hc i (by omega)
      rw [ha, add_plain] at c0
      exact ⟨a.block, a.off, by rw [← ha], c0⟩
    · have hj : j < len0 := by rw [← hlen2]; exact (List.getElem?_eq_some_iff.1 h1).1
      rw [List.getElem?_map, List.getElem?_range hj] at h1 h2
      obtain rfl : V j = nv := Option.some.inj h1
      obtain rfl : Y j = Fi := Option.some.inj h2
      exact hY j hj
end
end Go.Proofs.YtkbljlbfkgoalaaGreatDoor
