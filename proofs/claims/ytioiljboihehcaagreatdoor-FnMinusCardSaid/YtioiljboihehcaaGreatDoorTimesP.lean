/- The walks of the program's NegForm, copies and TimesForm. -/
import Derived.Test.YtioiljboihehcaaGreatDoorManyP
import Derived.Test.YtioiljboihehcaaGreatDoorNegP
namespace Go.Proofs.YtioiljboihehcaaGreatDoor
set_option linter.unusedVariables false
set_option linter.unusedSimpArgs false
open Go.RowKit

/-- The games that may stand in a pool in which a game is turned round. -/
def negU (C : List Nat) : List Nat := C ++ C.map negC
/-- neg, in a pool that holds nothing but a form's games. -/
theorem neg_call {M I : Nat → Prop} (pb sb : Nat) (mo mc ms : Value) (V : List PL) (BV : List Nat) (r : Nat) (W : World) (hP : PoolS M I W pb V BV mo mc ms (.map (some sb))) (hOK : PoolOK V BV) (hmap : MapF encN encN W sb (fun _ => none)) (hM : ∀ q, M q → q < W.heap.size ∧ q ≠ sb) (hI : ∀ q, I q → q < W.heap.size ∧ q ≠ sb)
    (h1 : r < V.length) (hn : V.length ≤ 240) :
    Calls Tryz.prog 95 #[.pointer (some ⟨pb, 0, none⟩), .int .i64 (r : Int)] W fun e w' => NegPost (negU (codesOf V)) pb sb mo mc ms W V M I (negC ((codesOf V).getD r 0)) e w' :=
  neg_all (U := negU (codesOf V)) (by unfold negU; rw [List.length_append, List.length_map, codesOf_length]; omega) pb sb mo mc ms _ r (Nat.lt_succ_self _) V BV M I _ W
    ⟨hP, hOK, fun x hx => List.mem_append_left _ (getD_mem (by rw [codesOf_length]; exact hx)), hmap, NegMO.none V, hM, hI⟩ h1 (fun a ha => List.mem_append_right _ (List.mem_map.2 ⟨a, sub_codes hOK h1 ha, rfl⟩))
set_option maxRecDepth 4000 in
set_option maxHeartbeats 8000000 in
theorem negFormP_any {R : Nat → Prop} (nv : Value) (Fi : List (List Int × List Int)) (w : World) (h : NodeL R encI w nv Fi) (g : Bool) (hg : g = true ↔ goodI Fi) :
    Calls Tryz.prog 27 #[.agg #[nv]] w fun e w' => ∃ v', e = .returned (.tuple #[.agg #[v'], .bool g]) ∧ NodesS w.heap.size w' v' (if g = true then negN (natF Fi) else []) ∧ Fr NoM w w' := by
  obtain ⟨w1, hw1⟩ : ∃ w1, w1 = (w.alloc (.cells #[nv] 28)).alloc (.cells #[.slice none 0 0] 28) := ⟨_, rfl⟩
  have f1 : Fr NoM w w1 := by rw [hw1]; exact ((Fr.refl NoM w).alloc _).alloc _
  have hs1 : w1.heap.size = w.heap.size + 2 := by rw [hw1]; simp
  have e0 : w1.heap[w.heap.size]? = some (.cells #[nv] 28 (0, 0)) := by rw [hw1]; exact ((Fr.refl NoM _).alloc _).heap (heap_alloc_new w _) (fun q => q)
  have e1 : w1.heap[w.heap.size + 1]? = some (.cells #[.slice none 0 0] 28 (0, 0)) := by
    have h := heap_alloc_new (w.alloc (.cells #[nv] 28)) (.cells #[.slice none 0 0] 28)
    rw [World.size_alloc] at h
    rw [hw1]; exact h
  have HK := Lib.hid (fun (W : World) (f : Fr NoM w1 W) => show W.cell? ⟨w.heap.size, 0, none⟩ = some nv ∧ W.cell? ⟨w.heap.size + 1, 0, none⟩ = some (.slice none 0 0) ∧ W.frozen? ⟨w.heap.size + 1, 0, none⟩ = false from by
    have h0 := f.heap e0 (fun q => q)
    have h1 := f.heap e1 (fun q => q)
    exact ⟨by rw [cell_of_row W _ 0 _ _ _ h0]; rfl, by rw [cell_of_row W _ 0 _ _ _ h1]; rfl, by simp [World.frozen?, h1]⟩)
  have HF1 := Lib.hid f1; have HS1 := Lib.hid hs1; have HG := Lib.hid hg; have HN := Lib.hid (h.low.fr0 f1)
  have HSig := Lib.hid (goodFormP_any nv Fi w1 (h.fr0 f1) g hg)
  obtain ⟨na, nc, rfl, z⟩ := id h
  clear z h f1 hs1 e0 e1 hg
  obtain ⟨k0, k1, z1⟩ := HK.out w1 (Fr.refl _ _)
  go_enter Tryz.func27, Tryz.ntmps27
  go_wp2_with fail
  rw [← hw1]
  clear hw1
  refine HSig.out.mono ?_
  rintro e w2 ⟨rfl, f2⟩
  have HF2 := Lib.hid f2
  clear f2 k0 k1 z1
  cases g with
  | false =>
    obtain ⟨k0, k1, z1⟩ := HK.out w2 HF2.out
    go_wp2
    refine bodyPost_ret (v := .tuple #[.agg #[.slice none 0 0], .bool false]) (by simp [results, Tryz.results27, go_sem, k1]) rfl ?_
    exact ⟨_, rfl, NodesS.nil _ _, (HF1.out.trans HF2.out (fun _ _ q => q)).setCell _ _ (fun h => by have h : w.heap.size + 1 < w.heap.size := h; omega)⟩
  | true =>
    obtain ⟨Fs, rfl⟩ := goodI_nat (HG.out.1 rfl)
    have hgd := HG.out.1 rfl
    obtain ⟨k0, k1, z1⟩ := HK.out w2 HF2.out
    go_wp2_with fail
    refine (newPool_any w2).mono ?_
    rintro e w3 ⟨rfl, hp3, hmaps, f3⟩
    obtain ⟨pb, hpb⟩ : ∃ pb, pb = w2.heap.size + 5 := ⟨_, rfl⟩
    obtain ⟨sb, hsb⟩ : ∃ sb, sb = w2.heap.size + 4 := ⟨_, rfl⟩
    have hmap := hmaps 4 (by omega)
    rw [← hsb] at hmap hp3
    rw [← hpb] at hp3 ⊢
    obtain ⟨mo, hmo⟩ : ∃ v, v = Value.map (some (w2.heap.size + 1)) := ⟨_, rfl⟩
    obtain ⟨mc, hmc⟩ : ∃ v, v = Value.map (some (w2.heap.size + 2)) := ⟨_, rfl⟩
    obtain ⟨ms, hms⟩ : ∃ v, v = Value.map (some (w2.heap.size + 3)) := ⟨_, rfl⟩
    rw [← hmo, ← hmc, ← hms] at hp3
    clear hmaps hmo hmc hms
    have hsbl : sb < w3.heap.size := (Array.getElem?_eq_some_iff.1 hmap).1
    have hw12 : w.heap.size + 2 ≤ w2.heap.size := by have := HF2.out.size; have := HS1.out; omega
    have hf13 := HF2.out.trans f3 (fun _ _ q => q)
    have HMp := Lib.hid (show MapF encN encN w3 sb (fun _ => none) from ⟨#[], 0, hmap, by simp, by simp, by simp⟩)
    have hp0 := hp3.low
    have HMge := Lib.hid (show ∀ q, (fun q => (q = w2.heap.size ∨ q = pb) ∧ q < w3.heap.size) q → w2.heap.size ≤ q ∧ q ≠ sb from fun q hq => by
      rcases hq.1 with e | e <;> omega)
    have hr1 := rootP_any pb (.slice na (i2 Fs).length nc) [] Fs [] mo mc ms (.map (some sb)) w3 hp0 (fun q hq => hq.2) (fun q hq => hq.2) PoolOK.nil (HN.out.fr0 hf13).ofI (fun k hk hm => by have := (HMge.out k hm).1; have hk : k < w.heap.size := hk; omega) hgd (by simp)
    obtain ⟨M3, hM3⟩ : ∃ M3 : Nat → Prop, M3 = fun q => (q = w2.heap.size ∨ q = pb) ∧ q < w3.heap.size := ⟨_, rfl⟩
    obtain ⟨I3, hI3⟩ : ∃ I3 : Nat → Prop, I3 = fun q => NoM q ∧ q < w3.heap.size := ⟨_, rfl⟩
    have HMge := Lib.hid (show ∀ q, M3 q → w2.heap.size ≤ q ∧ q ≠ sb from by rw [hM3]; exact HMge.out)
    have HIno := Lib.hid (show ∀ q, ¬ I3 q from by rw [hI3]; exact fun q h => h.1)
    rw [← hM3, ← hI3] at hr1
    have HRt1 := Lib.hid hr1
    have HIn := Lib.hid (fun (W : World) (f : Fr (fun q => M3 q ∨ q = sb) w3 W) => (hf13.trans f (fun q hq h => by
      have h2 := HF2.out.size
      rcases h with h | h
      · have := (HMge.out q h).1; omega
      · omega) : Fr NoM w1 W))
    have hFl : Fs.length ≤ 120 := by have h := hgd.1; unfold fitsB at h; rw [decide_eq_true_eq, i2_length] at h; exact h.1
    have hng := (negN_good hgd).1
    obtain ⟨FN, hFN⟩ : ∃ FN, FN = negN Fs := ⟨_, rfl⟩
    rw [← hFN] at hng
    have HNg := Lib.hid hng; have HFN := Lib.hid hFN; have HSb := Lib.hid hsbl; have HW12 := Lib.hid hw12; have F23 := Lib.hid f3; have HFl := Lib.hid hFl
    clear k0 k1 z1
    obtain ⟨k0, k1, z1⟩ := HK.out w3 hf13
    clear hp3 hmap hpb hsb hsbl hw12 hf13 hp0 hr1 hM3 hI3 hFl hng hFN f3 hgd k1 z1
    go_wp2_with fail
    refine HRt1.out.mono ?_
    rintro e wa ⟨r1, V1, B1, M1, I1, rfl, pa, oa, va, ra, ca, ua, ma, ia, fa⟩
    have lv1 : V1.length ≤ 120 := by
      have h1 := pool_size oa ua
      have h2 := HFl.out
      rw [List.length_append, codesOf_length, codesOf_length] at h1
      simp at h1; omega
    have HSum := Lib.hid (neg_call pb sb mo mc ms V1 B1 r1 wa pa oa (HMp.out.fr fa (fun h => (HMge.out _ h).2 rfl)) (fun q hq => ⟨(ma q hq).2, fun e => by
      have hs := HSb.out
      rcases (ma q hq).1 with h | h
      · exact (HMge.out q h).2 e
      · omega⟩) (fun q hq => ⟨(ia q hq).2, fun e => by
      have hs := HSb.out
      rcases (ia q hq).1 with h | h
      · exact HIno.out q h
      · omega⟩) ra (by omega))
    have FA := Lib.hid fa; have HMa := Lib.hid ma; have HCa := Lib.hid ca; have HLv := Lib.hid lv1
    clear pa oa va ra ca ua ma ia fa lv1 k0
    go_wp2_with fail
    refine HSum.out.mono ?_
    rintro e wc ⟨i, V3, B3, M4, I4, ff, rfl, st, nx, hi, hci⟩
    have kc : Fr (fun q => M3 q ∨ q = sb) w3 wc := (FA.out.mono (fun _ _ q => .inl q)).trans nx.fr (fun q hq h => h.elim (fun h => by
      rcases (HMa.out q h).1 with h | h
      · exact .inl h
      · omega) .inr)
    rw [HCa.out] at hci
    have hfo := formB_of st.ok hi hci
    have hln := st.len
    unfold negU at hln
    rw [List.length_append, List.length_map, codesOf_length] at hln
    have hlv := HLv.out
    have HPf := Lib.hid (pform_any pb i V3 B3 mo mc ms (.map (some sb)) wc st.pool st.ok hi (by omega))
    have HRes := Lib.hid (fun (okf : Bool) (FR : List PL) (hres : FormRes V3 B3 i okf FR) => FormRes.is st.ok hi hres)
    have HFo := Lib.hid hfo; have KC := Lib.hid kc
    clear st nx hi hci kc hfo hln hlv
    go_wp2_with fail
    refine HPf.out.mono ?_
    rintro e wd ⟨nv, okf, FR, rfl, hres, hns, f8⟩
    obtain ⟨an, cn, rfl, zz⟩ := id hns.nodeL
    clear zz
    have kd : Fr NoM w1 wd := HIn.out wd (KC.out.trans f8 (fun _ _ q => q.elim))
    obtain ⟨_, r13a, r13b⟩ := HK.out wd kd
    obtain ⟨h1, h2⟩ := HRes.out _ _ hres
    rw [HFo.out] at h1 h2
    rw [show formOf (negC (codeF Fs)) = FN from HFN.out.symm] at h1 h2
    rw [HNg.out] at h1
    subst h1
    have eF : FR = FN := by simpa using h2
    have HNs := Lib.hid hns; have KD := Lib.hid kd; have HZf := Lib.hid (show w.heap.size + 2 ≤ wc.heap.size from by have := KC.out.size; have := F23.out.size; have := HW12.out; omega)
    have HFR := Lib.hid eF
    clear hns kd f8 hres h2 eF
    go_wp2_with fail
    refine bodyPost_ret (v := .tuple #[.agg #[.slice an FR.length cn], .bool true]) (by simp [results, Tryz.results27, go_sem, r13a]) rfl ?_
    refine ⟨_, rfl, ?_, (HF1.out.trans KD.out (fun _ _ q => q)).setCell ⟨w.heap.size + 1, 0, none⟩ _ (fun h => by have h : w.heap.size + 1 < w.heap.size := h; omega)⟩
    have hn := (HNs.out.fr (Fr.set wd ⟨w.heap.size + 1, 0, none⟩ (.slice an FR.length cn)) (fun q hq _ e => by have e : q = w.heap.size + 1 := e; have := HZf.out; omega)).base (D' := w.heap.size) (by have := HZf.out; omega)
    rw [natF_i2, ← HFN.out, ← HFR.out]
    exact hn
theorem forms_copies {R : Nat → Prop} {B m : Nat} {w : World} {v nv : Value} {Fi : List (List Int × List Int)} (ho : w.ownsRow B 28 1 v m (List.replicate m nv)) (h : NodeL R encI w nv Fi) : FormsI R w v (List.replicate m Fi) := by
  refine ⟨List.replicate m nv, SliceOf.of_owns (enc := encV) ho (List.map_id'' (fun _ => rfl) _).symm, by simp, fun j nv' Fi' e1 e2 => ?_⟩
  rw [List.getElem?_replicate] at e1 e2
  split at e1
  · rename_i hj
    rw [if_pos hj] at e2
    cases e1; cases e2
    exact h
  · cases e1
set_option maxRecDepth 4000 in
set_option maxHeartbeats 4000000 in
theorem copies_any {R : Nat → Prop} (nv : Value) (Fi : List (List Int × List Int)) (m : Nat) (w : World) (h : NodeL R encI w nv Fi) (hm : m ≤ 12) :
    Calls Tryz.prog 91 #[.int .i64 (m : Int), .agg #[nv]] w fun e w' => ∃ cv, e = .returned cv ∧ FormsI R w' cv (List.replicate m Fi) ∧ Fr NoM w w' := by
  obtain ⟨w1, hw1⟩ : ∃ w1, w1 = w.alloc (.cells #[nv] 28) := ⟨_, rfl⟩
  have f1 : Fr NoM w w1 := by rw [hw1]; exact (Fr.refl NoM w).alloc _
  have hs1 : w1.heap.size = w.heap.size + 1 := by rw [hw1]; simp
  have e0 : w1.heap[w.heap.size]? = some (.cells #[nv] 28 (0, 0)) := by rw [hw1]; exact heap_alloc_new w _
  have HK := Lib.hid (fun (W : World) (f : Fr NoM w1 W) => show W.cell? ⟨w.heap.size, 0, none⟩ = some nv from by
    have h0 := f.heap e0 (fun q => q)
    rw [cell_of_row W _ 0 _ _ _ h0]; rfl)
  have HN := Lib.hid (fun (W : World) (f : Fr NoM w1 W) => (h.fr0 f1).fr0 f)
  obtain ⟨w2, hw2⟩ : ∃ w2, w2 = w1.alloc (.cells #[] 28) := ⟨_, rfl⟩
  have f2 : Fr NoM w1 w2 := by rw [hw2]; exact (Fr.refl NoM w1).alloc _
  have m2 : w2.ownsRow w1.heap.size 28 1 (.slice (some ⟨w.heap.size + 1, 0, none⟩) 0 0) 0 [] := by
    have h : (w1.alloc (.cells #[] 28)).ownsRow w1.heap.size 28 1 (.slice (some ⟨w1.heap.size, 0, none⟩) 0 0) 0 [] := World.ownsRow_made w1 #[] 0 (Nat.le_refl _) (by decide) (by simp)
    rw [hs1, ← hw2] at h
    rw [hs1]; exact h
  obtain ⟨na, nc, rfl, z⟩ := id h
  have HF1 := Lib.hid f1; have HF2 := Lib.hid f2; have HM2 := Lib.hid m2; have HM := Lib.hid hm; have HS1 := Lib.hid hs1
  clear z h f1 f2 e0 m2 hs1
  obtain ⟨q0, hq0⟩ : ∃ q0, q0 = Value.slice (some ⟨w.heap.size + 1, 0, none⟩) 0 0 := ⟨_, rfl⟩
  go_enter Tryz.func91, Tryz.ntmps91
  go_upto_region 2 with fail
  rw [← hw1, ← hw2, ← hq0]
  rw [← hq0] at HM2
  clear hw1 hw2 hq0
  go_wp2_with fail
  go_loopw [5, 8] (fun v5 t W => ∃ (k : Nat) (v : Value), v = v5 ∧ t = .int .i64 k ∧ k ≤ m ∧ W.ownsRow w1.heap.size 28 1 v k (List.replicate k (.slice na Fi.length nc)) ∧ Fr NoM w1 W) (fun _ t _ => m - (intOf t).toNat)
  case atStart => exact ⟨0, _, rfl, rfl, Nat.zero_le _, HM2.out, HF2.out⟩
  case round =>
    obtain ⟨k, v, rfl, rfl, hk, ho, hfr⟩ := hrel
    obtain ⟨w7, rfl⟩ : ∃ w7, w7 = wr := ⟨_, rfl⟩
    have HO := Lib.hid ho; have HF := Lib.hid hfr
    by_cases hkm : k < m
    · have k0 := HK.out w7 hfr
      clear ho hfr
      go_wp2_with (at_builtin; refine wpList_appC rfl (.tmp 10) (.tmp 12) 74 rfl w1.heap.size 28 _ 1 24 Tryz.underlying74 infoForm rfl (by decide) v k (List.replicate k (.slice na Fi.length nc)) rfl (owns_fr HO.out ((Fr.refl NoM w7).alloc _) (fun _ _ q => q)) w7.heap.size rfl [.slice na Fi.length nc] 28 (heap_alloc_new w7 _) rfl (by intro u hu; simp at hu; subst hu; rfl) (by have := HM.out; omega) (by decide) (by have := HF.out.size; rw [World.size_alloc]; omega) ?_)
      intro v9 w9 h9 f9 q9
      have HF9 := Lib.hid ((HF.out.alloc (.cells #[.slice na Fi.length nc] 28)).trans f9 (fun q hq e => by have := (HO.out.lt q e).1; omega))
      have HO9 := Lib.hid (show w9.ownsRow w1.heap.size 28 1 v9 (k + 1) (List.replicate (k + 1) (.slice na Fi.length nc)) from by rw [List.replicate_succ']; exact h9)
      clear h9 f9 q9
      go_wp2
      go_roundw
      case rel => exact ⟨k + 1, v9, rfl, by go_num, by omega, HO9.out, HF9.out⟩
      case measure => simp [intOf]; omega
    · obtain rfl : k = m := by omega
      clear hk hkm
      go_wp2
      go_ret
      exact ⟨_, rfl, forms_copies HO.out (HN.out w7 HF.out), HF1.out.trans HF.out (fun _ _ q => q)⟩
end Go.Proofs.YtioiljboihehcaaGreatDoor
