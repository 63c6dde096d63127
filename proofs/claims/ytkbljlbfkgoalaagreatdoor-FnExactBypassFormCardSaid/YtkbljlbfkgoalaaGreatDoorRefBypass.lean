/- The walk of the reference's l6Bypass: the options with the first one that can be bypassed put aside for those behind it. -/
import Derived.Test.YtkbljlbfkgoalaaGreatDoorRefThrough
namespace Go.Proofs.YtkbljlbfkgoalaaGreatDoor
set_option linter.unusedVariables false
set_option linter.unusedSimpArgs false
open Go.RowKit

/-- What l6Bypass hands back. -/
def BypR (w : World) (kb : Nat) (v4 v5 : Value) (ok : Bool) : Option PL → Prop
  | none => ok = false
  | some p => ok = true ∧ Nats w v4 p.1 ∧ Nats w v5 p.2 ∧ (p.1 ≠ [] → ∀ q, v4.ownBlock = some q → q ≠ kb) ∧ (p.2 ≠ [] → ∀ q, v5.ownBlock = some q → q ≠ kb)

set_option maxRecDepth 8000 in
set_option maxHeartbeats 8000000 in
theorem l6Bypass_any {C : List Nat} {NL : List PL} (B : BookC NL C) (ob bb kb r : Nat) (hN : NL.length < 1000) (hr : r < NL.length) (hlen : ∀ y ∈ NL, y.1.length < 1000 ∧ y.2.length < 1000) (K : List Nat) (w : World) (hO : OrdR w ob bb kb NL K) (hK : KOK C NL.length (2 * NL.length) K) :
    Calls Tryz.prog 84 #[.pointer (some ⟨ob, 0, none⟩), .int .i64 (r : Int)] w fun e w' => ∃ (v4 v5 : Value) (ok : Bool) (K' : List Nat), e = .returned (.tuple #[v4, v5, .bool ok]) ∧ BypR w' kb v4 v5 ok (bypP NL C r (nodeV NL r)) ∧ OrdR w' ob bb kb NL K' ∧ KOK C NL.length (2 * NL.length) K' ∧ Fr (fun q => q = kb) w w' := by
  have hkb : kb < w.heap.size := (Array.getElem?_eq_some_iff.1 hO.row).1
  obtain ⟨bv, hbv, hNb⟩ := hO.nv
  obtain ⟨na, nc, rfl, _, _, hnn⟩ := hNb
  obtain ⟨b1, o1, l, rr, hna, hb1, c1, c2, s1, s2, q1, q2⟩ := hnn _ _ (node_at hr)
  have ix := ixNode na NL.length nc r b1 o1 hr hna
  have o0 := hO.o0
  obtain ⟨u1, u2⟩ := B.opts _ _ (node_at hr)
  obtain ⟨m1, m2⟩ := hlen _ (List.mem_of_getElem? (node_at hr))
  obtain ⟨⟨L, R⟩, hLR⟩ : ∃ t, t = nodeV NL r := ⟨_, rfl⟩
  rw [← hLR] at s1 s2 q1 q2 u1 u2 m1 m2 ⊢
  dsimp only at s1 s2 q1 q2 u1 u2 m1 m2
  obtain ⟨la, lc, rfl, z⟩ := id s1
  clear z
  obtain ⟨ra, rc, rfl, z⟩ := id s2
  clear z
  obtain ⟨w1, hw1⟩ : ∃ w1, w1 = w.alloc (.cells #[.slice la L.length lc, .slice ra R.length rc] 91) := ⟨_, rfl⟩
  have f1 : Fr NoM w w1 := by rw [hw1]; exact (Fr.refl NoM w).alloc _
  have e1 : w1.heap[w.heap.size]? = some (.cells #[.slice la L.length lc, .slice ra R.length rc] 91 (0, 0)) := by rw [hw1]; exact heap_alloc_new w _
  have HX := Lib.hid (fun (W : World) (f : Fr (fun q => q = kb) w1 W) => show W.cell? ⟨w.heap.size, 0, none⟩ = some (.slice la L.length lc) ∧ W.cell? ⟨w.heap.size, 1, none⟩ = some (.slice ra R.length rc) ∧ Nats W (.slice la L.length lc) L ∧ Nats W (.slice ra R.length rc) R from
    have h := f.heap e1 (fun e => by omega)
    ⟨by rw [cell_of_row _ _ 0 _ _ _ h]; rfl, by rw [cell_of_row _ _ 1 _ _ _ h]; rfl, (s1.fr0 f1).fr f q1, (s2.fr0 f1).fr f q2⟩)
  have HTL := Lib.hid (fun y hy K w (hO : OrdR w ob bb kb NL K) hK => l6ThroughL_any B ob bb kb r y hN hr hy (fun z hz => by have := (B.opts _ _ (node_at hy)).2 z hz; omega) K w hO hK)
  have HTR := Lib.hid (fun y hy K w (hO : OrdR w ob bb kb NL K) hK => l6ThroughR_any B ob bb kb r y hN hr hy (fun z hz => by have := (B.opts _ _ (node_at hy)).1 z hz; omega) K w hO hK)
  have HO1 := Lib.hid (hO.fr0 f1)
  have HK1 := Lib.hid hK; have F1 := Lib.hid f1; have HW1 := Lib.hid hw1
  have HU1 := Lib.hid (fun x (hx : x ∈ L) => show x < NL.length from by have := u1 x hx; omega)
  have HU2 := Lib.hid (fun x (hx : x ∈ R) => show x < NL.length from by have := u2 x hx; omega)
  have HM1 := Lib.hid m1; have HM2 := Lib.hid m2; have HQ1 := Lib.hid q1; have HQ2 := Lib.hid q2; have HKb := Lib.hid hkb
  have HLen := Lib.hid hlen
  have HOp1 := Lib.hid (fun y (hy : y < NL.length) => (B.opts _ _ (node_at hy)).1)
  have HOp2 := Lib.hid (fun y (hy : y < NL.length) => (B.opts _ _ (node_at hy)).2)
  clear hO hK hnn s1 s2 q1 q2 u1 u2 m1 m2 hna f1 e1 hLR hkb hlen
  go_enter Tryz.func84, Tryz.ntmps84
  go_wp2_with fail
  rw [← HW1.out]
  clear o0 hbv c1 c2 ix hw1
  go_loopw [8] (fun t W => ∃ (k : Nat) (K1 : List Nat), t = .int .i64 k ∧ k ≤ L.length ∧ (∀ i, i < k → ((nodeV NL (L.getD i 0)).2).find? (gR C r) = none) ∧ OrdR W ob bb kb NL K1 ∧ KOK C NL.length (2 * NL.length) K1 ∧ Fr (fun q => q = kb) w1 W) (fun t _ => L.length - (intOf t).toNat)
  case atStart => exact ⟨0, K, rfl, Nat.zero_le _, fun i hi => by omega, HO1.out, HK1.out, Fr.refl _ _⟩
  case round =>
    obtain ⟨k, K2, rfl, hk, hno, hO2, hK2, hfr⟩ := hrel
    obtain ⟨w6, rfl⟩ : ∃ w6, w6 = wr := ⟨_, rfl⟩
    have HO2 := Lib.hid hO2; have HK2 := Lib.hid hK2; have HFr := Lib.hid hfr; have HNo := Lib.hid hno
    clear hO2 hK2 hfr hno
    obtain ⟨x1, x2, x3, x4⟩ := HX.out w6 HFr.out
    by_cases hkl : k < L.length
    · obtain ⟨y, hy⟩ : ∃ y, L[k]? = some y := ⟨_, List.getElem?_eq_getElem hkl⟩
      have hyl := HU1.out y (List.mem_of_getElem? hy)
      have hyd : L.getD k 0 = y := by rw [List.getD_eq_getElem?_getD, hy]; rfl
      obtain ⟨_, _, ee, _, _, hcc⟩ := id x3
      cases ee
      obtain ⟨b2, o2, ha2, d2⟩ := hcc k y hy
      have ix1 := ixInts la L.length lc k b2 o2 hkl ha2
      unfold encN at d2
      have HT := Lib.hid (HTL.out y hyl K2 w6 HO2.out HK2.out)
      have HY := Lib.hid hyd; have HYl := Lib.hid hyl
      clear hcc ha2 hy hyd hyl x3 x4
      go_wp2_with fail
      refine HT.out.mono ?_
      rintro e w7 ⟨rfl, K3, hO3, hK3, hf3⟩
      have HO3 := Lib.hid hO3; have HK3 := Lib.hid hK3; have HF3 := Lib.hid (HFr.out.trans hf3 (fun _ _ q => q))
      clear hO3 hK3 hf3 HT d2 ix1 x1 x2
      obtain ⟨x1, x2, x3, x4⟩ := HX.out w7 HF3.out
      obtain ⟨an, han⟩ : ∃ an, an = ((nodeV NL y).2).find? (gR C r) := ⟨_, rfl⟩
      rw [← han]
      cases an with
      | none =>
        have hnx : ∀ i, i < k + 1 → ((nodeV NL (L.getD i 0)).2).find? (gR C r) = none := fun i hi => by
          by_cases e : i = k
          · rw [e, HY.out]; exact han.symm
          · exact HNo.out i (by omega)
        have HNx := Lib.hid hnx
        have ht : thrI none = -1 := rfl
        rw [ht]
        clear hnx han ht x3 x4
        go_wp2_with fail
        go_roundw
        case rel => exact ⟨k + 1, K3, by go_num, by omega, HNx.out, HO3.out, HK3.out, HF3.out⟩
        case measure => simp [intOf]; omega
      | some z =>
        have hhit := byp1_hit (g := gR C) (opt := fun y => (nodeV NL y).2) (r := r) hkl HNo.out (by
          show ((nodeV NL (L.getD k 0)).2).find? (gR C r) = some z
          rw [HY.out]; exact han.symm)
        have hzf := HOp2.out y HYl.out z (List.mem_of_find?_eq_some han.symm)
        have hzl : z < NL.length := by have := HYl.out; omega
        have hby := bypP_left (V := NL) (x := (L, R)) hhit
        have HBy := Lib.hid hby
        clear hhit hby hzf
        rw [show thrI (some z) = (z : Int) from rfl]
        obtain ⟨bv, hbv, hNb⟩ := HO3.out.nv
        obtain ⟨na, nc, rfl, _, _, hnn⟩ := hNb
        obtain ⟨b3, o3, l, rr, hna, hb3, c1, c2, s1, s2, q1, q2⟩ := hnn _ _ (node_at hzl)
        have ix := ixNode na NL.length nc z b3 o3 hzl hna
        have o0 := HO3.out.o0
        have hzn := HLen.out _ (List.mem_of_getElem? (node_at hzl))
        obtain ⟨⟨ZL, ZR⟩, hZ⟩ : ∃ t, t = nodeV NL z := ⟨_, rfl⟩
        rw [← hZ] at s1 s2 q1 q2 hzn HBy
        dsimp only at s1 s2 q1 q2 hzn HBy
        obtain ⟨za, zc, rfl, zz⟩ := id s1
        clear zz
        have HC := Lib.hid (fun (W : World) (f : Fr NoM w7 W) => (⟨f.cell x1 (fun q => q), f.cell x2 (fun q => q), f.cell o0 (fun q => q), f.cell hbv (fun q => q), f.cell c1 (fun q => q)⟩ :
          W.cell? ⟨w.heap.size, 0, none⟩ = some (.slice la L.length lc) ∧ W.cell? ⟨w.heap.size, 1, none⟩ = some (.slice ra R.length rc) ∧ W.cell? ⟨ob, 0, none⟩ = some (.pointer (some ⟨bb, 0, none⟩)) ∧ W.cell? ⟨bb, 0, none⟩ = some (.slice na NL.length nc) ∧ W.cell? ⟨b3, o3 + z * 2, none⟩ = some (.slice za ZL.length zc)))
        have HZl := Lib.hid (fun (W : World) (f : Fr NoM w7 W) => s1.fr0 f)
        have HXl := Lib.hid (fun (W : World) (f : Fr NoM w7 W) => x3.fr0 f)
        have HXo := Lib.hid (fun (W : World) (f : Fr NoM w7 W) => x4.fr0 f)
        have HZn := Lib.hid hzn
        have hlw := withoutL_len L [k]
        have HLw := Lib.hid hlw
        have HNn := Lib.hid hnn
        clear hnn s1 s2 q1 q2 hzn hna han hZ x3 x4 hb3 hlw HTL HTR HNn
        go_upto_region 7 with fail
        have F0 : Fr NoM w7 w7.drew := (Fr.refl NoM w7).drew
        have G0 : Fr NoM w7 (w7.alloc (.cells #[.int .i64 (k : Int)] 3)).drew := ((Fr.refl NoM w7).alloc _).drew
        have HPk := Lib.hid (show Nats (w7.alloc (.cells #[.int .i64 (k : Int)] 3)).drew (.slice (some ⟨w7.heap.size, 0, none⟩) 1 1) [k] from (SliceOf.one encN w7 k 3).fr0 ((Fr.refl NoM _).drew))
        go_region_held3 (fun (W : World) => W.cell? ⟨w.heap.size, 0, none⟩ = some (.slice la L.length lc) ∧ W.cell? ⟨w.heap.size, 1, none⟩ = some (.slice ra R.length rc) ∧ W.cell? ⟨ob, 0, none⟩ = some (.pointer (some ⟨bb, 0, none⟩)) ∧ W.cell? ⟨bb, 0, none⟩ = some (.slice na NL.length nc) ∧ W.cell? ⟨b3, o3 + z * 2, none⟩ = some (.slice za ZL.length zc))
          (first | exact HC.out _ (by assumption) | exact HC.out _ (Fr.alloc (by assumption) _))
          (first
            | (go_at_call 77; (with_reducible refine (l6Without_any (.slice la L.length lc) _ L [k] _ (HXl.out _ (by assumption)) HPk.out (by have := HM1.out; omega)).mono ?_); rintro e wa ⟨va, rfl, oa, fa⟩; have ga : Fr NoM w7 wa := Fr.trans (by assumption) fa (fun _ _ q => q); have oa7 := owns_base (base' := w7.heap.size) oa (by simp only [World.size_drew, World.size_alloc]; omega))
            | (refine step_appF (enc := encN) w7 ga rfl (.tmp 43) (.tmp 54) 75 rfl 3 (.int .i64 0) 8 Tryz.underlying75 infoInt rfl va (withoutL L [k]).length _ rfl oa7 (.slice za ZL.length zc) rfl ZL (HZl.out _ ga) (fun _ => rfl) (by have := HLw.out; have := HM1.out; have := HZn.out; omega) (by decide) ?_; intro v4 w8 h4 f8)
            | fail)
        all_goals
          have hsz := HF3.out.size
          have hs1 := F1.out.size
          have HB8 := Lib.hid (show BypR w8 kb v4 (.slice ra R.length rc) true (some (withoutL L [k] ++ ZL, R)) from ⟨rfl, SliceOf.of_owns h4 (by simp), HXo.out w8 f8, fun _ q hq e => by have h0 := (h4.lt q hq).1; have h1 := HKb.out; omega, HQ2.out⟩)
          have HO8 := Lib.hid (HO3.out.fr0 f8)
          have HF8 := Lib.hid (F1.out.any.trans (HF3.out.trans f8 (fun _ _ q => q.elim)) (fun _ _ q => q))
          clear h4 f8 oa oa7 ga fa F0 G0 hsz hs1
          go_wp2_with fail
          refine bodyPost_ret (v := .tuple #[v4, .slice ra R.length rc, .bool true]) (by simp [results, Tryz.results84, go_sem]) rfl ?_
          exact ⟨v4, _, true, K3, rfl, by rw [HBy.out]; exact HB8.out, HO8.out, HK3.out, HF8.out⟩
    · have hk' : k = L.length := by omega
      have h0 := byp1_miss (g := gR C) (opt := fun y => (nodeV NL y).2) (r := r) (L := L) (fun i hi => HNo.out i (by omega))
      have H0 := Lib.hid h0
      clear h0 hk' x3 x4
      go_wp2_with fail
      clear x1 x2
      go_loopw [10] (fun t W => ∃ (k : Nat) (K1 : List Nat), t = .int .i64 k ∧ k ≤ R.length ∧ (∀ i, i < k → ((nodeV NL (R.getD i 0)).1).find? (gL C r) = none) ∧ OrdR W ob bb kb NL K1 ∧ KOK C NL.length (2 * NL.length) K1 ∧ Fr (fun q => q = kb) w1 W) (fun t _ => R.length - (intOf t).toNat)
      case atStart => exact ⟨0, K2, rfl, Nat.zero_le _, fun i hi => by omega, HO2.out, HK2.out, HFr.out⟩
      case round =>
        obtain ⟨k, K2, rfl, hk, hno, hO2, hK2, hfr⟩ := hrel
        obtain ⟨w6, rfl⟩ : ∃ w6, w6 = wr := ⟨_, rfl⟩
        have HO2 := Lib.hid hO2; have HK2 := Lib.hid hK2; have HFr := Lib.hid hfr; have HNo := Lib.hid hno
        clear hO2 hK2 hfr hno
        obtain ⟨x1, x2, x3, x4⟩ := HX.out w6 HFr.out
        by_cases hkl : k < R.length
        · obtain ⟨y, hy⟩ : ∃ y, R[k]? = some y := ⟨_, List.getElem?_eq_getElem hkl⟩
          have hyl := HU2.out y (List.mem_of_getElem? hy)
          have hyd : R.getD k 0 = y := by rw [List.getD_eq_getElem?_getD, hy]; rfl
          obtain ⟨_, _, ee, _, _, hcc⟩ := id x4
          cases ee
          obtain ⟨b2, o2, ha2, d2⟩ := hcc k y hy
          have ix1 := ixInts ra R.length rc k b2 o2 hkl ha2
          unfold encN at d2
          have HT := Lib.hid (HTR.out y hyl K2 w6 HO2.out HK2.out)
          have HY := Lib.hid hyd; have HYl := Lib.hid hyl
          clear hcc ha2 hy hyd hyl x3 x4
          go_wp2_with fail
          refine HT.out.mono ?_
          rintro e w7 ⟨rfl, K3, hO3, hK3, hf3⟩
          have HO3 := Lib.hid hO3; have HK3 := Lib.hid hK3; have HF3 := Lib.hid (HFr.out.trans hf3 (fun _ _ q => q))
          clear hO3 hK3 hf3 HT d2 ix1 x1 x2
          obtain ⟨x1, x2, x3, x4⟩ := HX.out w7 HF3.out
          obtain ⟨an, han⟩ : ∃ an, an = ((nodeV NL y).1).find? (gL C r) := ⟨_, rfl⟩
          rw [← han]
          cases an with
          | none =>
            have hnx : ∀ i, i < k + 1 → ((nodeV NL (R.getD i 0)).1).find? (gL C r) = none := fun i hi => by
              by_cases e : i = k
              · rw [e, HY.out]; exact han.symm
              · exact HNo.out i (by omega)
            have HNx := Lib.hid hnx
            have ht : thrI none = -1 := rfl
            rw [ht]
            clear hnx han ht x3 x4
            go_wp2_with fail
            go_roundw
            case rel => exact ⟨k + 1, K3, by go_num, by omega, HNx.out, HO3.out, HK3.out, HF3.out⟩
            case measure => simp [intOf]; omega
          | some z =>
            have hhit := byp1_hit (g := gL C) (opt := fun y => (nodeV NL y).1) (r := r) hkl HNo.out (by
              show ((nodeV NL (R.getD k 0)).1).find? (gL C r) = some z
              rw [HY.out]; exact han.symm)
            have hzf := HOp1.out y HYl.out z (List.mem_of_find?_eq_some han.symm)
            have hzl : z < NL.length := by have := HYl.out; omega
            have hby := bypP_right (V := NL) (x := (L, R)) H0.out hhit
            have HBy := Lib.hid hby
            clear hhit hby hzf
            rw [show thrI (some z) = (z : Int) from rfl]
            obtain ⟨bv, hbv, hNb⟩ := HO3.out.nv
            obtain ⟨na, nc, rfl, _, _, hnn⟩ := hNb
            obtain ⟨b3, o3, l, rr, hna, hb3, c1, c2, s1, s2, q1, q2⟩ := hnn _ _ (node_at hzl)
            have ix := ixNode na NL.length nc z b3 o3 hzl hna
            have o0 := HO3.out.o0
            have hzn := HLen.out _ (List.mem_of_getElem? (node_at hzl))
            obtain ⟨⟨ZL, ZR⟩, hZ⟩ : ∃ t, t = nodeV NL z := ⟨_, rfl⟩
            rw [← hZ] at s1 s2 q1 q2 hzn HBy
            dsimp only at s1 s2 q1 q2 hzn HBy
            obtain ⟨za, zc, rfl, zz⟩ := id s2
            clear zz
            have HC := Lib.hid (fun (W : World) (f : Fr NoM w7 W) => (⟨f.cell x1 (fun q => q), f.cell x2 (fun q => q), f.cell o0 (fun q => q), f.cell hbv (fun q => q), f.cell c2 (fun q => q)⟩ :
              W.cell? ⟨w.heap.size, 0, none⟩ = some (.slice la L.length lc) ∧ W.cell? ⟨w.heap.size, 1, none⟩ = some (.slice ra R.length rc) ∧ W.cell? ⟨ob, 0, none⟩ = some (.pointer (some ⟨bb, 0, none⟩)) ∧ W.cell? ⟨bb, 0, none⟩ = some (.slice na NL.length nc) ∧ W.cell? ⟨b3, o3 + z * 2 + 1, none⟩ = some (.slice za ZR.length zc)))
            have HZl := Lib.hid (fun (W : World) (f : Fr NoM w7 W) => s2.fr0 f)
            have HXl := Lib.hid (fun (W : World) (f : Fr NoM w7 W) => x4.fr0 f)
            have HXo := Lib.hid (fun (W : World) (f : Fr NoM w7 W) => x3.fr0 f)
            have HZn := Lib.hid hzn
            have hlw := withoutL_len R [k]
            have HLw := Lib.hid hlw
            have HNn := Lib.hid hnn
            clear hnn s1 s2 q1 q2 hzn hna han hZ x3 x4 hb3 hlw HTL HTR HNn
            go_upto_region 13 with fail
            have F0 : Fr NoM w7 w7.drew := (Fr.refl NoM w7).drew
            have G0 : Fr NoM w7 (w7.alloc (.cells #[.int .i64 (k : Int)] 3)).drew := ((Fr.refl NoM w7).alloc _).drew
            have HPk := Lib.hid (show Nats (w7.alloc (.cells #[.int .i64 (k : Int)] 3)).drew (.slice (some ⟨w7.heap.size, 0, none⟩) 1 1) [k] from (SliceOf.one encN w7 k 3).fr0 ((Fr.refl NoM _).drew))
            go_region_held3 (fun (W : World) => W.cell? ⟨w.heap.size, 0, none⟩ = some (.slice la L.length lc) ∧ W.cell? ⟨w.heap.size, 1, none⟩ = some (.slice ra R.length rc) ∧ W.cell? ⟨ob, 0, none⟩ = some (.pointer (some ⟨bb, 0, none⟩)) ∧ W.cell? ⟨bb, 0, none⟩ = some (.slice na NL.length nc) ∧ W.cell? ⟨b3, o3 + z * 2 + 1, none⟩ = some (.slice za ZR.length zc))
              (first | exact HC.out _ (by assumption) | exact HC.out _ (Fr.alloc (by assumption) _))
              (first
                | (go_at_call 77; (with_reducible refine (l6Without_any (.slice ra R.length rc) _ R [k] _ (HXl.out _ (by assumption)) HPk.out (by have := HM2.out; omega)).mono ?_); rintro e wa ⟨va, rfl, oa, fa⟩; have ga : Fr NoM w7 wa := Fr.trans (by assumption) fa (fun _ _ q => q); have oa7 := owns_base (base' := w7.heap.size) oa (by simp only [World.size_drew, World.size_alloc]; omega))
                | (refine step_appF (enc := encN) w7 ga rfl (.tmp 81) (.tmp 92) 75 rfl 3 (.int .i64 0) 8 Tryz.underlying75 infoInt rfl va (withoutL R [k]).length _ rfl oa7 (.slice za ZR.length zc) rfl ZR (HZl.out _ ga) (fun _ => rfl) (by have := HLw.out; have := HM2.out; have := HZn.out; omega) (by decide) ?_; intro v4 w8 h4 f8)
                | fail)
            all_goals
              have hsz := HF3.out.size
              have hs1 := F1.out.size
              have HB8 := Lib.hid (show BypR w8 kb (.slice la L.length lc) v4 true (some (L, withoutL R [k] ++ ZR)) from ⟨rfl, HXo.out w8 f8, SliceOf.of_owns h4 (by simp), HQ1.out, fun _ q hq e => by have h0 := (h4.lt q hq).1; have h1 := HKb.out; omega⟩)
              have HO8 := Lib.hid (HO3.out.fr0 f8)
              have HF8 := Lib.hid (F1.out.any.trans (HF3.out.trans f8 (fun _ _ q => q.elim)) (fun _ _ q => q))
              clear h4 f8 oa oa7 ga fa F0 G0 hsz hs1
              go_wp2_with fail
              refine bodyPost_ret (v := .tuple #[.slice la L.length lc, v4, .bool true]) (by simp [results, Tryz.results84, go_sem]) rfl ?_
              exact ⟨_, v4, true, K3, rfl, by rw [HBy.out]; exact HB8.out, HO8.out, HK3.out, HF8.out⟩
        · have hk' : k = R.length := by omega
          have h1 := byp1_miss (g := gL C) (opt := fun y => (nodeV NL y).1) (r := r) (L := R) (fun i hi => HNo.out i (by omega))
          have H1 := Lib.hid (bypP_none (x := (L, R)) H0.out h1)
          clear h1 hk' x3 x4
          go_wp2_with fail
          refine bodyPost_ret (v := .tuple #[.slice none 0 0, .slice none 0 0, .bool false]) (by simp [results, Tryz.results84, go_sem]) rfl ?_
          exact ⟨_, _, false, K2, rfl, by rw [H1.out]; exact rfl, HO2.out, HK2.out, F1.out.any.trans HFr.out (fun _ _ q => q)⟩
end Go.Proofs.YtkbljlbfkgoalaaGreatDoor
