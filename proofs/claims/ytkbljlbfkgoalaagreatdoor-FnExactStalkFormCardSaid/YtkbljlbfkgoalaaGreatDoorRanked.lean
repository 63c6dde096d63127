/- The walk of the program's ranked: the ranks of a list of places, in rising order. -/
import Derived.Test.YtkbljlbfkgoalaaGreatDoorPoolNode
namespace Go.Proofs.YtkbljlbfkgoalaaGreatDoor
set_option linter.unusedVariables false
set_option linter.unusedSimpArgs false
open Go.RowKit

theorem mk_row (n : Nat) (W : World) (hn : n < 1000000000) : (Instr.makeSlice 75 (.int .i64 (n : Int)) (.int .i64 (n : Int))).run Tryz.prog W = .ok (.slice (some ⟨W.heap.size, 0, none⟩) n n) (W.alloc (.cells (fillC encN 0 n) 3)) := by
  obtain ⟨i0, hi, hz0, hz1, hz2⟩ := info_parts infoInt
  have h := run_make (P := Tryz.prog) W 75 3 i0 (.int .i64 0) Tryz.underlying75 hi hz0 .i64 .i64 n n (by omega) (by omega) (by rw [hz2]; omega) (by omega)
  rw [h, hz1, Int.toNat_natCast, Nat.mul_one]
  have : madeCells (Value.cells (.int .i64 0)) n = fillC encN 0 n := by
    apply Array.ext'
    unfold fillC
    rw [List.toList_toArray, madeCells, Array.toList_map, Array.toList_range]
    refine (List.eq_replicate_iff.2 ⟨by simp, fun b hb => ?_⟩ : _ = List.replicate n (Value.int .i64 0)).trans (by simp [encN])
    obtain ⟨y, _, rfl⟩ := List.mem_map.1 hb
    simp [Value.cells, Nat.mod_one]
  rw [this]
theorem RowIs.owns {e : TypeId} {w : World} {g base : Nat} {L : List Nat} (h : RowIs e encN w g L) (hb : base ≤ g) (hl : L.length ≤ 9223372036854775807) : w.ownsRow base e 1 (.slice (some ⟨g, 0, none⟩) L.length L.length) L.length (L.map encN) :=
  ⟨by simp, .inr ⟨g, L.length, _, rfl, hb, h, Nat.le_refl _, hl, by simp, by rw [List.toList_toArray, List.take_of_length_le (by simp)]⟩⟩

theorem sortI_nodup (L : List Nat) (h : L.Nodup) : sortI L = ints (sortN L) := by
  have hp := sortI_perm L
  have hnd : (ints L).Nodup := by
    unfold ints
    exact List.nodup_iff_pairwise_ne.2 (List.pairwise_map.2 ((List.nodup_iff_pairwise_ne.1 h).imp fun hne e => hne (Int.ofNat.inj e)))
  have hlt : (sortI L).Pairwise (· < ·) := by
    have h1 := sortI_up L
    have h2 := List.nodup_iff_pairwise_ne.1 ((hp.nodup_iff).2 hnd)
    exact (h1.and h2).imp fun ⟨a, b⟩ => by omega
  have hnn : ∀ x ∈ sortI L, ∃ n : Nat, x = (n : Int) ∧ n ∈ L := fun x hx => by
    have := (hp.mem_iff).1 hx
    unfold ints at this
    obtain ⟨n, hn, rfl⟩ := List.mem_map.1 this
    exact ⟨n, rfl, hn⟩
  have e : sortI L = ints ((sortI L).map Int.toNat) := by
    unfold ints
    rw [List.map_map]
    refine ((List.map_congr_left fun x hx => ?_).trans (List.map_id' _)).symm
    obtain ⟨n, rfl, _⟩ := hnn x hx
    rfl
  rw [e]
  congr 1
  refine up_ext ?_ (sortN_up L) fun x => ?_
  · refine List.pairwise_map.2 (hlt.imp_of_mem fun {a b} ha hb hl => ?_)
    obtain ⟨n, rfl, _⟩ := hnn a ha
    obtain ⟨m, rfl, _⟩ := hnn b hb
    simpa using hl
  · rw [sortN_mem]
    constructor
    · intro hx
      obtain ⟨y, hy, rfl⟩ := List.mem_map.1 hx
      obtain ⟨n, rfl, hn⟩ := hnn y hy
      simpa using hn
    · intro hx
      refine List.mem_map.2 ⟨(x : Int), (hp.mem_iff).2 ?_, by simp⟩
      unfold ints
      exact List.mem_map.2 ⟨x, hx, rfl⟩

/-- What ranked gathers ahead of the sort. -/
def rankM (f : Nat → Option Nat) (L : List Nat) : List Nat := L.map fun x => (f x).getD 0

set_option maxRecDepth 4000 in
set_option maxHeartbeats 4000000 in
theorem ranked_any (v : Value) (L : List Nat) (rb : Nat) (f : Nat → Option Nat) (w : World) (hL : Nats w v L) (hR : MapF encN encN w rb f) (hl : L.length < 1000000000) :
    Calls Tryz.prog 165 #[v, .map (some rb)] w fun e w' => ∃ g, e = .returned (.slice (some ⟨g, 0, none⟩) L.length L.length) ∧ w'.ownsRow w.heap.size 3 1 (.slice (some ⟨g, 0, none⟩) L.length L.length) L.length ((sortI (rankM f L)).map encI) ∧ Fr NoM w w' := by
  obtain ⟨a, c, rfl, hac, hcm, hL⟩ := hL
  have HL := Lib.hid hL; have HR := Lib.hid hR
  clear hL hR
  have mk := mk_row L.length w hl
  go_enter Tryz.func165, Tryz.ntmps165
  go_wp2
  obtain ⟨w1, hw1⟩ : ∃ w1, w1 = w.alloc (.cells (fillC encN 0 L.length) 3) := ⟨_, rfl⟩
  have hf1 : Fr NoM w w1 := by rw [hw1]; exact (Fr.refl NoM w).alloc _
  have hr1 : RowIs 3 encN w1 w.heap.size (List.replicate L.length 0) := by rw [hw1]; exact RowIs.made 3 encN w 0 L.length
  rw [← hw1]
  have HF1 := Lib.hid hf1; have HR1 := Lib.hid hr1
  clear hf1 hr1 hw1 mk
  go_loopw [13] (fun i W => ∃ k : Nat, i = .int .i64 k ∧ k ≤ L.length ∧ RowIs 3 encN W w.heap.size (rankM f (L.take k) ++ List.replicate (L.length - k) 0) ∧ Fr NoM w W) (fun i _ => L.length - (intOf i).toNat)
  case atStart => exact ⟨0, rfl, Nat.zero_le _, by simpa [rankM] using HR1.out, HF1.out⟩
  case round =>
    obtain ⟨k, rfl, hk, hrow, hfr⟩ := hrel
    have HRow := Lib.hid hrow; have HFr := Lib.hid hfr; clear hrow hfr
    by_cases hlt : k < L.length
    · obtain ⟨b1, o1, ha, d1⟩ := HL.out k L[k] (List.getElem?_eq_getElem _)
      have c1 : wr.cell? ⟨b1, o1 + k, none⟩ = some (.int .i64 (L[k] : Int)) := HFr.out.cell d1 (fun q => q)
      have ix := ixInts a L.length c k b1 o1 hlt ha
      have hlen : (rankM f (L.take k) ++ List.replicate (L.length - k) 0).length = L.length := by simp [rankM]; omega
      obtain ⟨vk, ck⟩ : ∃ vk, wr.cell? ⟨w.heap.size, k, none⟩ = some vk := ⟨_, HRow.out.cell k (by omega)⟩
      have zk := HRow.out.frozen k
      have ix2 := ixInt0 w.heap.size L.length L.length k hlt
      have hlook : (Instr.lookup 111 (.map (some rb)) (.int .i64 (L[k] : Int)) false).run Tryz.prog wr = .ok (.int .i64 (((f L[k]).getD 0 : Nat) : Int)) wr := by
        have := MapF.look (P := Tryz.prog) (w := wr) (HR.out.fr HFr.out (fun q => q)) (KeyAt.nat Tryz.underlying3) Tryz.underlying111 (Tryz.zeroValue3 _) L[k] false
        simp only [Bool.false_eq_true, if_false] at this
        rw [show (.int .i64 (L[k] : Int) : Value) = encN L[k] from rfl, this]
        cases f L[k] <;> rfl
      have hset := HRow.out.set k ((f L[k]).getD 0)
      have hnext : (rankM f (L.take k) ++ List.replicate (L.length - k) 0).set k ((f L[k]).getD 0) = rankM f (L.take (k + 1)) ++ List.replicate (L.length - (k + 1)) 0 := by
        have h1 : (rankM f (L.take k)).length = k := by simp [rankM]; omega
        rw [List.set_append_right _ _ (by omega), h1, Nat.sub_self, List.take_succ_eq_append_getElem hlt, show L.length - k = (L.length - (k + 1)) + 1 from by omega, List.replicate_succ]
        simp only [List.set_cons_zero, rankM, List.map_append, List.map_cons, List.map_nil, List.append_assoc, List.cons_append, List.nil_append]
      rw [hnext] at hset
      have hf := Fr.setCell HFr.out ⟨w.heap.size, k, none⟩ (.int .i64 (((f L[k]).getD 0 : Nat) : Int)) (fun h => absurd h (Nat.lt_irrefl _))
      have HSet := Lib.hid hset; have HF := Lib.hid hf
      clear hset hf hnext hlen ha d1
      go_wp2
      go_roundw
      case rel => exact ⟨k + 1, by go_num, by omega, HSet.out, HF.out⟩
      case measure => simp [intOf]; omega
    · have hk' : k = L.length := by omega
      subst hk'
      have hrow := HRow.out
      rw [List.take_length, Nat.sub_self, List.replicate_zero, List.append_nil] at hrow
      have hrl : (rankM f L).length = L.length := by simp [rankM]
      have hown := hrow.owns (base := w.heap.size) (Nat.le_refl _) (by omega)
      rw [hrl] at hown
      have HOwn := Lib.hid hown; have HRl := Lib.hid hrl
      clear hrow hown hrl hk
      go_wp2_with fail
      have hs := sort_any (base := w.heap.size) (g := w.heap.size) (cap := L.length) (rankM f L) wr (by rw [HRl.out]; exact HOwn.out) (by rw [HRl.out]; omega)
      rw [HRl.out] at hs
      refine hs.mono ?_
      rintro e w2 ⟨rfl, h2, f2⟩
      have H2 := Lib.hid h2; have F2 := Lib.hid f2; clear h2 f2 hs
      go_wp2
      go_ret
      exact ⟨_, rfl, H2.out, HFr.out.trans F2.out (fun q hq e => by omega)⟩
end Go.Proofs.YtkbljlbfkgoalaaGreatDoor
