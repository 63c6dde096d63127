/- The walk of the reference's l6Bypass: the options with the first one that can be bypassed put aside for those behind it. | The walk of the reference's BypassForm. -/
import Derived.Test.YtioiljboihehcaaGreatDoorRefThrough
import Derived.Test.YtioiljboihehcaaGreatDoorRefDropForm
namespace Go.Proofs.YtioiljboihehcaaGreatDoor
set_option linter.unusedVariables false
set_option linter.unusedSimpArgs false
open Go.RowKit

/-- What l6Bypass hands back. -/
def BypR (w : World) (kb : Nat) (v4 v5 : Value) (ok : Bool) : Option PL → Prop
  | none => ok = false
  | some p => ok = true ∧ Nats w v4 p.1 ∧ Nats w v5 p.2 ∧ (p.1 ≠ [] → ∀ q, v4.ownBlock = some q → q ≠ kb) ∧ (p.2 ≠ [] → ∀ q, v5.ownBlock = some q → q ≠ kb)

set_option maxRecDepth 8000 in
set_option maxHeartbeats 8000000 in
theorem l6Bypass_any {C : List Nat} {NL : List PL} (B : BookC NL C) (ob bb kb r : Nat) (hN : NL.length < 1000) (hr : r < NL.length) (hlen : ∀ y ∈ NL, y.1.length < 1000 ∧ y.2.length < 1000) (K : List Nat) (w : World) (hO : OrdR w ob bb kb NL K) (hK : KOK C NL.length (2 * NL.length) K) :
    Calls Tryz.prog 121 #[.pointer (some ⟨ob, 0, none⟩), .int .i64 (r : Int)] w fun e w' => ∃ (v4 v5 : Value) (ok : Bool) (K' : List Nat), e = .returned (.tuple #[v4, v5, .bool ok]) ∧ BypR w' kb v4 v5 ok (bypP NL C r (nodeV NL r)) ∧ OrdR w' ob bb kb NL K' ∧ KOK C NL.length (2 * NL.length) K' ∧ Fr (fun q => q = kb) w w' := by
  have hkb : kb < w.heap.size := (Array.getElem?_eq_some_iff.1 hO.row).1
  obtain ⟨bv, hbv, hNb⟩ := hO.nv
  obtain ⟨na, nc, rfl, _, _, hnn⟩ := hNb
  obtain ⟨b1, o1, l, rr, hna, hb1, c1, c2, s1, s2, q1, q2⟩ := hnn _ _ (node_at hr)
  have ix := ixNode na NL.length nc r b1 o1 hr hna
  have o0 := hO.o0
  obtain ⟨u1, u2⟩ := B.opts _ _ (node_at hr)
  obtain ⟨m1, m2⟩ := hlen _ (List.mem_of_getElem? (node_at hr))
  obtain ⟨⟨L, R⟩, hLR⟩ : ∃ t, t = nodeV NL r := ⟨_, rfl⟩
  rw [← hLR] at s1 s2 q1 q2 u1 u2 m1 m2 ⊢
  dsimp only at s1 s2 q1 q2 u1 u2 m1 m2
  obtain ⟨la, lc, rfl, z⟩ := id s1
  clear z
  obtain ⟨ra, rc, rfl, z⟩ := id s2
  clear z
  obtain ⟨w1, hw1⟩ : ∃ w1, w1 = w.alloc (.cells #[.slice la L.length lc, .slice ra R.length rc] 100) := ⟨_, rfl⟩
  have f1 : Fr NoM w w1 := by rw [hw1]; exact (Fr.refl NoM w).alloc _
  have e1 : w1.heap[w.heap.size]? = some (.cells #[.slice la L.length lc, .slice ra R.length rc] 100 (0, 0)) := by rw [hw1]; exact heap_alloc_new w _
  have HX := Lib.hid (fun (W : World) (f : Fr (fun q => q = kb) w1 W) => show W.cell? ⟨w.heap.size, 0, none⟩ = some (.slice la L.length lc) ∧ W.cell? ⟨w.heap.size, 1, none⟩ = some (.slice ra R.length rc) ∧ Nats W (.slice la L.length lc) L ∧ Nats W (.slice ra R.length rc) R from
    have h := f.heap e1 (fun e => by omega)
    ⟨by rw [cell_of_row _ _ 0 _ _ _ h]; rfl, by rw [cell_of_row _ _ 1 _ _ _ h]; rfl, (s1.fr0 f1).fr f q1, (s2.fr0 f1).fr f q2⟩)
  have HTL := Lib.hid (fun y hy K w (hO : OrdR w ob bb kb NL K) hK => l6ThroughL_any B ob bb kb r y hN hr hy (fun z hz => by have := (B.opts _ _ (node_at hy)).2 z hz; omega) K w hO hK)
  have HTR := Lib.hid (fun y hy K w (hO : OrdR w ob bb kb NL K) hK => l6ThroughR_any B ob bb kb r y hN hr hy (fun z hz => by have := (B.opts _ _ (node_at hy)).1 z hz; omega) K w hO hK)
  have HO1 := Lib.hid (hO.fr0 f1)
  have HK1 := Lib.hid hK; have F1 := Lib.hid f1; have HW1 := Lib.hid hw1
  have HU1 := Lib.hid (fun x (hx : x ∈ L) => show x < NL.length from by have := u1 x hx; omega)
  have HU2 := Lib.hid (fun x (hx : x ∈ R) => show x < NL.length from by have := u2 x hx; omega)
  have HM1 := Lib.hid m1; have HM2 := Lib.hid m2; have HQ1 := Lib.hid q1; have HQ2 := Lib.hid q2; have HKb := Lib.hid hkb
  have HLen := Lib.hid hlen
  have HOp1 := Lib.hid (fun y (hy : y < NL.length) => (B.opts _ _ (node_at hy)).1)
  have HOp2 := Lib.hid (fun y (hy : y < NL.length) => (B.opts _ _ (node_at hy)).2)
  clear hO hK hnn s1 s2 q1 q2 u1 u2 m1 m2 hna f1 e1 hLR hkb hlen
  go_enter Tryz.func121, Tryz.ntmps121
  go_wp2_with fail
  rw [← HW1.out]
  clear o0 hbv c1 c2 ix hw1
  go_loopw [8] (fun t W => ∃ (k : Nat) (K1 : List Nat), t = .int .i64 k ∧ k ≤ L.length ∧ (∀ i, i < k → ((nodeV NL (L.getD i 0)).2).find? (gR C r) = none) ∧ OrdR W ob bb kb NL K1 ∧ KOK C NL.length (2 * NL.length) K1 ∧ Fr (fun q => q = kb) w1 W) (fun t _ => L.length - (intOf t).toNat)
  case atStart => exact ⟨0, K, rfl, Nat.zero_le _, fun i hi => by omega, HO1.out, HK1.out, Fr.refl _ _⟩
  case round =>
    obtain ⟨k, K2, rfl, hk, hno, hO2, hK2, hfr⟩ := hrel
    obtain ⟨w6, rfl⟩ : ∃ w6, w6 = wr := ⟨_, rfl⟩
    have HO2 := Lib.hid hO2; have HK2 := Lib.hid hK2; have HFr := Lib.hid hfr; have HNo := Lib.hid hno
    clear hO2 hK2 hfr hno
    obtain ⟨x1, x2, x3, x4⟩ := HX.out w6 HFr.out
    by_cases hkl : k < L.length
    · obtain ⟨y, hy⟩ : ∃ y, L[k]? = some y := ⟨_, List.getElem?_eq_getElem hkl⟩
      have hyl := HU1.out y (List.mem_of_getElem? hy)
      have hyd : L.getD k 0 = y := by rw [List.getD_eq_getElem?_getD, hy]; rfl
      obtain ⟨_, _, ee, _, _, hcc⟩ := id x3
      cases ee
      obtain ⟨b2, o2, ha2, d2⟩ := hcc k y hy
      have ix1 := ixInts la L.length lc k b2 o2 hkl ha2
      unfold encN at d2
      have HT := Lib.hid (HTL.out y hyl K2 w6 HO2.out HK2.out)
      have HY := Lib.hid hyd; have HYl := Lib.hid hyl
      clear hcc ha2 hy hyd hyl x3 x4
      go_wp2_with fail
      refine HT.out.mono ?_
      rintro e w7 ⟨rfl, K3, hO3, hK3, hf3⟩
      have HO3 := Lib.hid hO3; have HK3 := Lib.hid hK3; have HF3 := Lib.hid (HFr.out.trans hf3 (fun _ _ q => q))
      clear hO3 hK3 hf3 HT d2 ix1 x1 x2
      obtain ⟨x1, x2, x3, x4⟩ := HX.out w7 HF3.out
      obtain ⟨an, han⟩ : ∃ an, an = ((nodeV NL y).2).find? (gR C r) := ⟨_, rfl⟩
      rw [← han]
      cases an with
      | none =>
        have hnx : ∀ i, i < k + 1 → ((nodeV NL (L.getD i 0)).2).find? (gR C r) = none := fun i hi => by
          by_cases e : i = k
          · rw [e, HY.out]; exact han.symm
          · exact HNo.out i (by omega)
        have HNx := Lib.hid hnx
        have ht : thrI none = -1 := rfl
        rw [ht]
        clear hnx han ht x3 x4
        go_wp2_with fail
        go_roundw
        case rel => exact ⟨k + 1, K3, by go_num, by omega, HNx.out, HO3.out, HK3.out, HF3.out⟩
        case measure => simp [intOf]; omega
      | some z =>
        have hhit := byp1_hit (g := gR C) (opt := fun y => (nodeV NL y).2) (r := r) hkl HNo.out (by
          show ((nodeV NL (L.getD k 0)).2).find? (gR C r) = some z
          rw [HY.out]; exact han.symm)
        have hzf := HOp2.out y HYl.out z (List.mem_of_find?_eq_some han.symm)
        have hzl : z < NL.length := by have := HYl.out; omega
        have hby := bypP_left (V := NL) (x := (L, R)) hhit
        have HBy := Lib.hid hby
        clear hhit hby hzf
        rw [show thrI (some z) = (z : Int) from rfl]
        obtain ⟨bv, hbv, hNb⟩ := HO3.out.nv
        obtain ⟨na, nc, rfl, _, _, hnn⟩ := hNb
        obtain ⟨b3, o3, l, rr, hna, hb3, c1, c2, s1, s2, q1, q2⟩ := hnn _ _ (node_at hzl)
        have ix := ixNode na NL.length nc z b3 o3 hzl hna
        have o0 := HO3.out.o0
        have hzn := HLen.out _ (List.mem_of_getElem? (node_at hzl))
        obtain ⟨⟨ZL, ZR⟩, hZ⟩ : ∃ t, t = nodeV NL z := ⟨_, rfl⟩
        rw [← hZ] at s1 s2 q1 q2 hzn HBy
        dsimp only at s1 s2 q1 q2 hzn HBy
        obtain ⟨za, zc, rfl, zz⟩ := id s1
        clear zz
        have HC := Lib.hid (fun (W : World) (f : Fr NoM w7 W) => (⟨f.cell x1 (fun q => q), f.cell x2 (fun q => q), f.cell o0 (fun q => q), f.cell hbv (fun q => q), f.cell c1 (fun q => q)⟩ :
          W.cell? ⟨w.heap.size, 0, none⟩ = some (.slice la L.length lc) ∧ W.cell? ⟨w.heap.size, 1, none⟩ = some (.slice ra R.length rc) ∧ W.cell? ⟨ob, 0, none⟩ = some (.pointer (some ⟨bb, 0, none⟩)) ∧ W.cell? ⟨bb, 0, none⟩ = some (.slice na NL.length nc) ∧ W.cell? ⟨b3, o3 + z * 2, none⟩ = some (.slice za ZL.length zc)))
        have HZl := Lib.hid (fun (W : World) (f : Fr NoM w7 W) => s1.fr0 f)
        have HXl := Lib.hid (fun (W : World) (f : Fr NoM w7 W) => x3.fr0 f)
        have HXo := Lib.hid (fun (W : World) (f : Fr NoM w7 W) => x4.fr0 f)
        have HZn := Lib.hid hzn
        have hlw := withoutL_len L [k]
        have HLw := Lib.hid hlw
        have HNn := Lib.hid hnn
        clear hnn s1 s2 q1 q2 hzn hna han hZ x3 x4 hb3 hlw HTL HTR HNn
        go_upto_region 7 with fail
        have F0 : Fr NoM w7 w7.drew := (Fr.refl NoM w7).drew
        have G0 : Fr NoM w7 (w7.alloc (.cells #[.int .i64 (k : Int)] 3)).drew := ((Fr.refl NoM w7).alloc _).drew
        have HPk := Lib.hid (show Nats (w7.alloc (.cells #[.int .i64 (k : Int)] 3)).drew (.slice (some ⟨w7.heap.size, 0, none⟩) 1 1) [k] from (SliceOf.one encN w7 k 3).fr0 ((Fr.refl NoM _).drew))
        go_region_held3 (fun (W : World) => W.cell? ⟨w.heap.size, 0, none⟩ = some (.slice la L.length lc) ∧ W.cell? ⟨w.heap.size, 1, none⟩ = some (.slice ra R.length rc) ∧ W.cell? ⟨ob, 0, none⟩ = some (.pointer (some ⟨bb, 0, none⟩)) ∧ W.cell? ⟨bb, 0, none⟩ = some (.slice na NL.length nc) ∧ W.cell? ⟨b3, o3 + z * 2, none⟩ = some (.slice za ZL.length zc))
          (first | exact HC.out _ (by assumption) | exact HC.out _ (Fr.alloc (by assumption) _))
          (first
            | (go_at_call 117; (with_reducible refine (l6Without_any (.slice la L.length lc) _ L [k] _ (HXl.out _ (by assumption)) HPk.out (by have := HM1.out; omega)).mono ?_); rintro e wa ⟨va, rfl, oa, fa⟩; have ga : Fr NoM w7 wa := Fr.trans (by assumption) fa (fun _ _ q => q); have oa7 := owns_base (base' := w7.heap.size) oa (by simp only [World.size_drew, World.size_alloc]; omega))
            | (refine step_appF (enc := encN) w7 ga rfl (.tmp 43) (.tmp 54) 50 rfl 3 (.int .i64 0) 8 Tryz.underlying50 infoInt rfl va (withoutL L [k]).length _ rfl oa7 (.slice za ZL.length zc) rfl ZL (HZl.out _ ga) (fun _ => rfl) (by have := HLw.out; have := HM1.out; have := HZn.out; omega) (by decide) ?_; intro v4 w8 h4 f8)
            | fail)
        all_goals
          have hsz := HF3.out.size
          have hs1 := F1.out.size
          have HB8 := Lib.hid (show BypR w8 kb v4 (.slice ra R.length rc) true (some (withoutL L [k] ++ ZL, R)) from ⟨rfl, SliceOf.of_owns h4 (by simp), HXo.out w8 f8, fun _ q hq e => by have h0 := (h4.lt q hq).1; have h1 := HKb.out; omega, HQ2.out⟩)
          have HO8 := Lib.hid (HO3.out.fr0 f8)
          have HF8 := Lib.hid (F1.out.any.trans (HF3.out.trans f8 (fun _ _ q => q.elim)) (fun _ _ q => q))
          clear h4 f8 oa oa7 ga fa F0 G0 hsz hs1
          go_wp2_with fail
          refine bodyPost_ret (v := .tuple #[v4, .slice ra R.length rc, .bool true]) (by simp [results, Tryz.results121, go_sem]) rfl ?_
          exact ⟨v4, _, true, K3, rfl, by rw [HBy.out]; exact HB8.out, HO8.out, HK3.out, HF8.out⟩
    · have hk' : k = L.length := by omega
      have h0 := byp1_miss (g := gR C) (opt := fun y => (nodeV NL y).2) (r := r) (L := L) (fun i hi => HNo.out i (by omega))
      have H0 := Lib.hid h0
      clear h0 hk' x3 x4
      go_wp2_with fail
      clear x1 x2
      go_loopw [10] (fun t W => ∃ (k : Nat) (K1 : List Nat), t = .int .i64 k ∧ k ≤ R.length ∧ (∀ i, i < k → ((nodeV NL (R.getD i 0)).1).find? (gL C r) = none) ∧ OrdR W ob bb kb NL K1 ∧ KOK C NL.length (2 * NL.length) K1 ∧ Fr (fun q => q = kb) w1 W) (fun t _ => R.length - (intOf t).toNat)
      case atStart => exact ⟨0, K2, rfl, Nat.zero_le _, fun i hi => by omega, HO2.out, HK2.out, HFr.out⟩
      case round =>
        obtain ⟨k, K2, rfl, hk, hno, hO2, hK2, hfr⟩ := hrel
        obtain ⟨w6, rfl⟩ : ∃ w6, w6 = wr := ⟨_, rfl⟩
        have HO2 := Lib.hid hO2; have HK2 := Lib.hid hK2; have HFr := Lib.hid hfr; have HNo := Lib.hid hno
        clear hO2 hK2 hfr hno
        obtain ⟨x1, x2, x3, x4⟩ := HX.out w6 HFr.out
        by_cases hkl : k < R.length
        · obtain ⟨y, hy⟩ : ∃ y, R[k]? = some y := ⟨_, List.getElem?_eq_getElem hkl⟩
          have hyl := HU2.out y (List.mem_of_getElem? hy)
          have hyd : R.getD k 0 = y := by rw [List.getD_eq_getElem?_getD, hy]; rfl
          obtain ⟨_, _, ee, _, _, hcc⟩ := id x4
          cases ee
          obtain ⟨b2, o2, ha2, d2⟩ := hcc k y hy
          have ix1 := ixInts ra R.length rc k b2 o2 hkl ha2
          unfold encN at d2
          have HT := Lib.hid (HTR.out y hyl K2 w6 HO2.out HK2.out)
          have HY := Lib.hid hyd; have HYl := Lib.hid hyl
          clear hcc ha2 hy hyd hyl x3 x4
          go_wp2_with fail
          refine HT.out.mono ?_
          rintro e w7 ⟨rfl, K3, hO3, hK3, hf3⟩
          have HO3 := Lib.hid hO3; have HK3 := Lib.hid hK3; have HF3 := Lib.hid (HFr.out.trans hf3 (fun _ _ q => q))
          clear hO3 hK3 hf3 HT d2 ix1 x1 x2
          obtain ⟨x1, x2, x3, x4⟩ := HX.out w7 HF3.out
          obtain ⟨an, han⟩ : ∃ an, an = ((nodeV NL y).1).find? (gL C r) := ⟨_, rfl⟩
          rw [← han]
          cases an with
          | none =>
            have hnx : ∀ i, i < k + 1 → ((nodeV NL (R.getD i 0)).1).find? (gL C r) = none := fun i hi => by
              by_cases e : i = k
              · rw [e, HY.out]; exact han.symm
              · exact HNo.out i (by omega)
            have HNx := Lib.hid hnx
            have ht : thrI none = -1 := rfl
            rw [ht]
            clear hnx han ht x3 x4
            go_wp2_with fail
            go_roundw
            case rel => exact ⟨k + 1, K3, by go_num, by omega, HNx.out, HO3.out, HK3.out, HF3.out⟩
            case measure => simp [intOf]; omega
          | some z =>
            have hhit := byp1_hit (g := gL C) (opt := fun y => (nodeV NL y).1) (r := r) hkl HNo.out (by
              show ((nodeV NL (R.getD k 0)).1).find? (gL C r) = some z
              rw [HY.out]; exact han.symm)
            have hzf := HOp1.out y HYl.out z (List.mem_of_find?_eq_some han.symm)
            have hzl : z < NL.length := by have := HYl.out; omega
            have hby := bypP_right (V := NL) (x := (L, R)) H0.out hhit
            have HBy := Lib.hid hby
            clear hhit hby hzf
            rw [show thrI (some z) = (z : Int) from rfl]
            obtain ⟨bv, hbv, hNb⟩ := HO3.out.nv
            obtain ⟨na, nc, rfl, _, _, hnn⟩ := hNb
            obtain ⟨b3, o3, l, rr, hna, hb3, c1, c2, s1, s2, q1, q2⟩ := hnn _ _ (node_at hzl)
            have ix := ixNode na NL.length nc z b3 o3 hzl hna
            have o0 := HO3.out.o0
            have hzn := HLen.out _ (List.mem_of_getElem? (node_at hzl))
            obtain ⟨⟨ZL, ZR⟩, hZ⟩ : ∃ t, t = nodeV NL z := ⟨_, rfl⟩
            rw [← hZ] at s1 s2 q1 q2 hzn HBy
            dsimp only at s1 s2 q1 q2 hzn HBy
            obtain ⟨za, zc, rfl, zz⟩ := id s2
            clear zz
            have HC := Lib.hid (fun (W : World) (f : Fr NoM w7 W) => (⟨f.cell x1 (fun q => q), f.cell x2 (fun q => q), f.cell o0 (fun q => q), f.cell hbv (fun q => q), f.cell c2 (fun q => q)⟩ :
              W.cell? ⟨w.heap.size, 0, none⟩ = some (.slice la L.length lc) ∧ W.cell? ⟨w.heap.size, 1, none⟩ = some (.slice ra R.length rc) ∧ W.cell? ⟨ob, 0, none⟩ = some (.pointer (some ⟨bb, 0, none⟩)) ∧ W.cell? ⟨bb, 0, none⟩ = some (.slice na NL.length nc) ∧ W.cell? ⟨b3, o3 + z * 2 + 1, none⟩ = some (.slice za ZR.length zc)))
            have HZl := Lib.hid (fun (W : World) (f : Fr NoM w7 W) => s2.fr0 f)
            have HXl := Lib.hid (fun (W : World) (f : Fr NoM w7 W) => x4.fr0 f)
            have HXo := Lib.hid (fun (W : World) (f : Fr NoM w7 W) => x3.fr0 f)
            have HZn := Lib.hid hzn
            have hlw := withoutL_len R [k]
            have HLw := Lib.hid hlw
            have HNn := Lib.hid hnn
            clear hnn s1 s2 q1 q2 hzn hna han hZ x3 x4 hb3 hlw HTL HTR HNn
            go_upto_region 13 with fail
            have F0 : Fr NoM w7 w7.drew := (Fr.refl NoM w7).drew
            have G0 : Fr NoM w7 (w7.alloc (.cells #[.int .i64 (k : Int)] 3)).drew := ((Fr.refl NoM w7).alloc _).drew
            have HPk := Lib.hid (show Nats (w7.alloc (.cells #[.int .i64 (k : Int)] 3)).drew (.slice (some ⟨w7.heap.size, 0, none⟩) 1 1) [k] from (SliceOf.one encN w7 k 3).fr0 ((Fr.refl NoM _).drew))
            go_region_held3 (fun (W : World) => W.cell? ⟨w.heap.size, 0, none⟩ = some (.slice la L.length lc) ∧ W.cell? ⟨w.heap.size, 1, none⟩ = some (.slice ra R.length rc) ∧ W.cell? ⟨ob, 0, none⟩ = some (.pointer (some ⟨bb, 0, none⟩)) ∧ W.cell? ⟨bb, 0, none⟩ = some (.slice na NL.length nc) ∧ W.cell? ⟨b3, o3 + z * 2 + 1, none⟩ = some (.slice za ZR.length zc))
              (first | exact HC.out _ (by assumption) | exact HC.out _ (Fr.alloc (by assumption) _))
              (first
                | (go_at_call 117; (with_reducible refine (l6Without_any (.slice ra R.length rc) _ R [k] _ (HXl.out _ (by assumption)) HPk.out (by have := HM2.out; omega)).mono ?_); rintro e wa ⟨va, rfl, oa, fa⟩; have ga : Fr NoM w7 wa := Fr.trans (by assumption) fa (fun _ _ q => q); have oa7 := owns_base (base' := w7.heap.size) oa (by simp only [World.size_drew, World.size_alloc]; omega))
                | (refine step_appF (enc := encN) w7 ga rfl (.tmp 81) (.tmp 92) 50 rfl 3 (.int .i64 0) 8 Tryz.underlying50 infoInt rfl va (withoutL R [k]).length _ rfl oa7 (.slice za ZR.length zc) rfl ZR (HZl.out _ ga) (fun _ => rfl) (by have := HLw.out; have := HM2.out; have := HZn.out; omega) (by decide) ?_; intro v4 w8 h4 f8)
                | fail)
            all_goals
              have hsz := HF3.out.size
              have hs1 := F1.out.size
              have HB8 := Lib.hid (show BypR w8 kb (.slice la L.length lc) v4 true (some (L, withoutL R [k] ++ ZR)) from ⟨rfl, HXo.out w8 f8, SliceOf.of_owns h4 (by simp), HQ1.out, fun _ q hq e => by have h0 := (h4.lt q hq).1; have h1 := HKb.out; omega⟩)
              have HO8 := Lib.hid (HO3.out.fr0 f8)
              have HF8 := Lib.hid (F1.out.any.trans (HF3.out.trans f8 (fun _ _ q => q.elim)) (fun _ _ q => q))
              clear h4 f8 oa oa7 ga fa F0 G0 hsz hs1
              go_wp2_with fail
              refine bodyPost_ret (v := .tuple #[.slice la L.length lc, v4, .bool true]) (by simp [results, Tryz.results121, go_sem]) rfl ?_
              exact ⟨_, v4, true, K3, rfl, by rw [HBy.out]; exact HB8.out, HO8.out, HK3.out, HF8.out⟩
        · have hk' : k = R.length := by omega
          have h1 := byp1_miss (g := gL C) (opt := fun y => (nodeV NL y).1) (r := r) (L := R) (fun i hi => HNo.out i (by omega))
          have H1 := Lib.hid (bypP_none (x := (L, R)) H0.out h1)
          clear h1 hk' x3 x4
          go_wp2_with fail
          refine bodyPost_ret (v := .tuple #[.slice none 0 0, .slice none 0 0, .bool false]) (by simp [results, Tryz.results121, go_sem]) rfl ?_
          exact ⟨_, _, false, K2, rfl, by rw [H1.out]; exact rfl, HO2.out, HK2.out, F1.out.any.trans HFr.out (fun _ _ q => q)⟩
end Go.Proofs.YtioiljboihehcaaGreatDoor
namespace Go.Proofs.YtioiljboihehcaaGreatDoor
set_option linter.unusedVariables false
set_option linter.unusedSimpArgs false
open Go.RowKit

set_option maxRecDepth 4000 in
set_option maxHeartbeats 8000000 in
theorem bypassFormR_any {R : Nat → Prop} (nv : Value) (Fi : List (List Int × List Int)) (w : World) (h : NodeL R encI w nv Fi) (g : Bool) (hg : g = true ↔ goodI Fi) (ok : Bool) (hok : ok = (g && fitsB (bypF (natF Fi)))) :
    Calls Tryz.prog 44 #[.agg #[nv]] w fun e w' => ∃ v', e = .returned (.tuple #[.agg #[v'], .bool ok]) ∧ NodeL (fun b => w.heap.size ≤ b) encN w' v' (if ok = true then bypF (natF Fi) else []) ∧ Fr NoM w w' := by
  have HOk := Lib.hid hok
  clear hok
  obtain ⟨w1, hw1⟩ : ∃ w1, w1 = (w.alloc (.cells #[nv] 28)).alloc (.cells #[.slice none 0 0] 28) := ⟨_, rfl⟩
  have f1 : Fr NoM w w1 := by rw [hw1]; exact ((Fr.refl NoM w).alloc _).alloc _
  have hs1 : w1.heap.size = w.heap.size + 2 := by rw [hw1]; simp
  have e0 : w1.heap[w.heap.size]? = some (.cells #[nv] 28 (0, 0)) := by rw [hw1]; exact ((Fr.refl NoM _).alloc _).heap (heap_alloc_new w _) (fun q => q)
  have e1 : w1.heap[w.heap.size + 1]? = some (.cells #[.slice none 0 0] 28 (0, 0)) := by
    have h := heap_alloc_new (w.alloc (.cells #[nv] 28)) (.cells #[.slice none 0 0] 28)
    rw [World.size_alloc] at h
    rw [hw1]; exact h
  have hgood := l3Good_any nv Fi w1 (h.fr0 f1)
  have HN := Lib.hid h.low
  have c0 : w1.cell? ⟨w.heap.size, 0, none⟩ = some nv := by rw [cell_of_row _ _ 0 _ _ _ e0]; rfl
  have HK := Lib.hid (fun (W : World) (f : Fr NoM w1 W) => show W.cell? ⟨w.heap.size, 0, none⟩ = some nv ∧ W.cell? ⟨w.heap.size + 1, 0, none⟩ = some (.slice none 0 0) ∧ W.frozen? ⟨w.heap.size + 1, 0, none⟩ = false from by
    have h0 := f.heap e0 (fun q => q)
    have h1 := f.heap e1 (fun q => q)
    exact ⟨by rw [cell_of_row _ _ 0 _ _ _ h0]; rfl, by rw [cell_of_row _ _ 0 _ _ _ h1]; rfl, by simp [World.frozen?, h1]⟩)
  obtain ⟨a, c, rfl, _⟩ := h
  have HW := Lib.hid hw1; have F1 := Lib.hid f1; have HS1 := Lib.hid hs1; have HG := Lib.hid hg; have HGood := Lib.hid hgood
  clear hw1 f1 hs1 e0 e1 hg hgood
  go_enter Tryz.func44, Tryz.ntmps44
  go_wp2_with fail
  rw [← HW.out]
  refine HGood.out.mono ?_
  rintro e w2 ⟨b, rfl, hb, f2⟩
  obtain rfl : b = g := by
    have h := HG.out
    cases b <;> cases g <;> simp_all
  obtain ⟨k0, k1, z1⟩ := HK.out w2 f2
  have F2 := Lib.hid f2; have HB := Lib.hid hb
  clear f2 hb c0
  cases b with
  | false =>
    have hk : ok = false := by rw [HOk.out]; rfl
    subst hk
    go_wp2_with fail
    refine bodyPost_ret (v := .tuple #[.agg #[.slice none 0 0], .bool false]) (by simp [results, Tryz.results44, go_sem, k1]) rfl ?_
    exact ⟨_, rfl, ⟨none, 0, rfl, Nat.le_refl _, by decide, by simp⟩, (F1.out.trans F2.out (fun _ _ q => q)).setCell ⟨w.heap.size + 1, 0, none⟩ _ (fun h => by have h : w.heap.size + 1 < w.heap.size := h; omega)⟩
  | true =>
    obtain ⟨hFi, hgd⟩ := goodI_natF (HB.out.1 rfl)
    obtain ⟨Fs, hFs⟩ : ∃ Fs, Fs = natF Fi := ⟨_, rfl⟩
    rw [← hFs] at hFi hgd
    have hlF : Fi.length = Fs.length := by rw [hFi, i2_length]
    have hNf : NodeL (· < w.heap.size) encN w (.slice a Fi.length c) Fs := by
      have h := HN.out
      rw [hFi] at h ⊢
      exact h.ofI
    obtain ⟨hp, hle, hlen, hP, hadd, hroot⟩ := goodI_parts hgd
    have hbook := l6Book_any _ Fs w2 (hNf.fr0 (F1.out.trans F2.out (fun _ _ q => q))) hgd
    have HBook := Lib.hid hbook; have HFs := Lib.hid hFs; have HGd := Lib.hid hgd; have HP := Lib.hid hP; have Hle := Lib.hid hle; have HLen := Lib.hid hlen; have Hp := Lib.hid hp
    clear hFs hFi hgd hlF hNf hp hle hlen hP hadd hroot hbook k1 z1
    go_wp2_with fail
    refine HBook.out.mono ?_
    rintro e w3 ⟨ob, bb, kb, S, rfl, hBk, hSk, hobs, hkbs, hO, f3⟩
    have hlt : Fs.length - 1 < Fs.length := by have := Hp.out; omega
    have HByp := Lib.hid (l6Bypass_any HP.out.book ob bb kb (Fs.length - 1) (by have := Hle.out; omega) hlt (fun y hy => by have := HLen.out y hy; omega) _ w3 hO (KOK.start _ _ _ _))
    have HBk := Lib.hid hBk; have HSk := Lib.hid hSk; have HObs := Lib.hid hobs; have HKbs := Lib.hid hkbs; have F3 := Lib.hid f3
    have HKb := Lib.hid (show kb < w3.heap.size from (Array.getElem?_eq_some_iff.1 hO.row).1)
    clear hBk hSk hobs hkbs hO f3 HBook hlt
    go_wp2_with fail
    refine HByp.out.mono ?_
    rintro e w4 ⟨v4, v5, fnd, K4, rfl, hR, hO4, _, f4⟩
    have f14 : Fr NoM w1 w4 := (F2.out.trans F3.out (fun _ _ q => q)).trans f4 (fun q hq e => by have h1 := HKbs.out; have h2 := F2.out.size; omega)
    have hRq : BypR w4 kb v4 v5 fnd (bypQ Fs) := hR
    clear hR HByp
    cases hq : bypQ Fs with
    | none =>
      rw [hq] at hRq
      have e : fnd = false := hRq
      subst e
      have hk : ok = false := by
        have h := HOk.out
        rw [← HFs.out] at h
        rw [h]
        unfold bypF
        rw [hq]
        exact fits_nil
      subst hk
      obtain ⟨k0, k1, z1⟩ := HK.out w4 f14
      have F14 := Lib.hid f14
      clear hq hRq hO4 f4 f14
      go_wp2_with fail
      refine bodyPost_ret (v := .tuple #[.agg #[.slice none 0 0], .bool false]) (by simp [results, Tryz.results44, go_sem, k1]) rfl ?_
      exact ⟨_, rfl, ⟨none, 0, rfl, Nat.le_refl _, by decide, by simp⟩, (F1.out.trans F14.out (fun _ _ q => q)).setCell ⟨w.heap.size + 1, 0, none⟩ _ (fun h => by have h : w.heap.size + 1 < w.heap.size := h; omega)⟩
    | some p =>
      rw [hq] at hRq
      obtain ⟨rfl, n4, n5, b4, b5⟩ : fnd = true ∧ Nats w4 v4 p.1 ∧ Nats w4 v5 p.2 ∧ (p.1 ≠ [] → ∀ q, v4.ownBlock = some q → q ≠ kb) ∧ (p.2 ≠ [] → ∀ q, v5.ownBlock = some q → q ≠ kb) := hRq
      obtain ⟨x1, x2, x3, x4⟩ := bypQ_lt HGd.out hq
      obtain ⟨l', r'⟩ := p
      dsimp only at n4 n5 b4 b5 x1 x2 x3 x4
      obtain ⟨xa, xc, rfl, z⟩ := id n4
      clear z
      obtain ⟨ya, yc, rfl, z⟩ := id n5
      clear z
      have hBk4 := HBk.out.fr f4 (fun q hq e => (HSk.out q hq).2.1 e)
      have HSb := Lib.hid (fun (W : World) (f : Fr NoM w4 W) => show W.cell? ⟨ob, 0, none⟩ = some (.pointer (some ⟨bb, 0, none⟩)) from (hO4.fr0 f).o0)
      have hPut := fun (W : World) (f : Fr NoM w4 W) => put_any bb (.slice xa l'.length xc) (.slice ya r'.length yc) Fs (bornsF Fs) l' r' W (hBk4.fr0 f) (n4.fr0 f) (n5.fr0 f) (fun j x hx => x1 x (List.mem_of_getElem? hx)) (fun j x hx => x2 x (List.mem_of_getElem? hx)) (by omega) (by omega) (by have := Hle.out; omega) (fun x hx => by have := bornsF_lt HP.out.opts hx; have := Hle.out; omega)
      rw [putB_pool HP.out] at hPut
      obtain ⟨p1, p2⟩ := poolPut_ok HP.out (L := l') (R := r') x1 x2
      obtain ⟨q1, q2, _⟩ := poolPut_lt Fs (bornsF Fs) l' r'
      have hdF : bypF Fs = formB (poolPut Fs (bornsF Fs) l' r').1 (poolPut Fs (bornsF Fs) l' r').2.1 (poolPut Fs (bornsF Fs) l' r').2.2 := by unfold bypF; rw [hq]
      obtain ⟨V', hV'⟩ : ∃ V', V' = (poolPut Fs (bornsF Fs) l' r').1 := ⟨_, rfl⟩
      obtain ⟨B', hB'⟩ : ∃ B', B' = (poolPut Fs (bornsF Fs) l' r').2.1 := ⟨_, rfl⟩
      obtain ⟨r0, hr0⟩ : ∃ r0, r0 = (poolPut Fs (bornsF Fs) l' r').2.2 := ⟨_, rfl⟩
      rw [← hV', ← hB', ← hr0] at hPut hdF
      rw [← hV', ← hB'] at p1
      rw [← hV', ← hr0] at q1
      rw [← hV'] at q2
      have hok' : fitsB (formB V' B' r0) = ok := by
        have h := HOk.out
        rw [← HFs.out, hdF] at h
        rw [h]; rfl
      have hIf := fun (R : Nat → Prop) (W : World) (v : Value) (h : NodeL R encN W v (formB V' B' r0)) => l3If_any v (formB V' B' r0) W h
      rw [hok'] at hIf
      obtain ⟨FN, hFN⟩ : ∃ FN, FN = (if ok = true then formB V' B' r0 else []) := ⟨_, rfl⟩
      rw [← hFN] at hIf
      have HFN := Lib.hid hFN
      have HIf := Lib.hid hIf
      have HPut := Lib.hid hPut; have HP1 := Lib.hid p1; have HQ1' := Lib.hid q1; have HQ2' := Lib.hid q2; have HDf := Lib.hid hdF
      have HSb8 := Lib.hid (show ¬ S ob from fun q => (HSk.out ob q).2.2 rfl)
      have F14 := Lib.hid f14
      have HF4 := Lib.hid f4.size
      have F0 : Fr NoM w4 w4.drew := (Fr.refl NoM w4).drew
      have hs := HSb.out w4 (Fr.refl _ _)
      have HBm := Lib.hid (fun (W : World) (f : Fr NoM w4 W) => (hBk4.fr0 f).m)
      have hw12 : w.heap.size + 2 ≤ w2.heap.size := by have h1 := HS1.out; have h2 := F2.out.size; omega
      have hno : ob ≠ w.heap.size + 1 := by have h1 := HObs.out; omega
      have HRs := Lib.hid (show ¬ S (w.heap.size + 1) from fun q => by have h1 := (HSk.out _ q).1; omega)
      have HKr := Lib.hid (fun (W : World) (f : Fr NoM w4 W) => (HK.out W (F14.out.trans f (fun _ _ q => q))).2)
      clear hFN hIf hok' hPut p1 p2 q1 q2 hdF hV' hB' hr0 hq x1 x2 x3 x4 b4 b5 n4 n5 hO4 f4 f14 hBk4
      go_upto_region 7 with fail
      go_region_held3 (fun (W : World) => W.cell? ⟨ob, 0, none⟩ = some (.pointer (some ⟨bb, 0, none⟩)))
        (first | exact HSb.out _ (by assumption) | assumption | exact cell_set_ne k13 hno)
        (first
          | (go_at_call 120; (with_reducible refine (HPut.out _ (by assumption)).mono ?_); rintro e w11 ⟨rfl, hB11, f11⟩; have k11 : w11.cell? ⟨ob, 0, none⟩ = some (.pointer (some ⟨bb, 0, none⟩)) := f11.cell (by first | assumption | exact HSb.out _ (by assumption)) (fun e => HSb8.out (HBm.out _ (by assumption) _ e)); have r11 := keep_res f11 (HKr.out _ (by assumption)) (fun e => HRs.out (HBm.out _ (by assumption) _ e)))
          | (go_at_call 119; (with_reducible refine (form_any bb r0 V' B' w11 hB11 (bookOK_pool HP1.out) HQ1'.out (by have := HQ2'.out; have := Hle.out; omega) (fun y hy => by have := HP1.out.lens (n := 1000) (by have := HQ2'.out; have := Hle.out; omega) y hy; omega)).mono ?_); rintro e w12 ⟨v12, rfl, hn12, f12⟩; obtain ⟨va, vc, rfl, zz⟩ := id hn12; clear zz; have k12 : w12.cell? ⟨ob, 0, none⟩ = some (.pointer (some ⟨bb, 0, none⟩)) := f12.cell k11 (fun q => q); have r12 := keep_res f12 r11 (fun q => q))
          | (go_at_call 74; (with_reducible refine (HIf.out _ w12 _ hn12).mono ?_); rintro e w13 ⟨v13, rfl, hn13, f13⟩; obtain ⟨va3, vc3, rfl, zz⟩ := id hn13; clear zz; have k13 : w13.cell? ⟨ob, 0, none⟩ = some (.pointer (some ⟨bb, 0, none⟩)) := f13.cell k12 (fun q => q); have r13 := keep_res f13 r12 (fun q => q); have r13a := r13.1; have r13b := r13.2)
          | fail)
      all_goals
        have hsz := HSk.out
        have z2 := F2.out.size
        have z14 := F14.out.size
        have z3 := F3.out.size
        have hw4 : w2.heap.size ≤ w4.heap.size := by have h1 := HF4.out; omega
        have hfa : Fr NoM w w4 := F1.out.trans F14.out (fun _ _ q => q)
        have zb := F1.out.size
        have hfb : Fr NoM w w11 := (hfa.trans F0 (fun _ _ q => q)).trans f11 (fun q hq e => by have h1 := (hsz q (HBm.out _ F0 q e)).1; omega)
        have hs12 := f11.size
        have hs13 := F0.size
        have HFin := Lib.hid ((hfb.trans f12 (fun _ _ q => q)).trans f13 (fun _ _ q => q)); have HN13 := Lib.hid hn13
        have HSz := Lib.hid (show w.heap.size + 2 ≤ w11.heap.size from by omega)
        have R13 := Lib.hid r13a
        clear hsz z2 z14 z3 hw4 hfa zb hfb hn13 hn12 f12 f13 hs12 hs13 f11
        cases ok with
        | true =>
          go_wp2_with fail
          refine bodyPost_ret (v := .tuple #[.agg #[.slice va3 FN.length vc3], .bool true]) (by simp [results, Tryz.results44, go_sem, r13a]) rfl ?_
          refine ⟨_, rfl, ?_, HFin.out.setCell ⟨w.heap.size + 1, 0, none⟩ _ (fun h => by have h : w.heap.size + 1 < w.heap.size := h; omega)⟩
          have hn := (HN13.out.fr (Fr.set w13 ⟨w.heap.size + 1, 0, none⟩ (.slice va3 FN.length vc3)) (fun k hk e => by have e : k = w.heap.size + 1 := e; have := HSz.out; omega)).mono (R' := fun b => w.heap.size ≤ b) (fun k hk => by have := HSz.out; omega)
          have hF := HFN.out
          replace hF : FN = formB V' B' r0 := by simpa using hF
          rw [← HDf.out, HFs.out] at hF
          rw [← hF]
          exact hn
        | false =>
          go_wp2_with fail
          refine bodyPost_ret (v := .tuple #[.agg #[.slice va3 FN.length vc3], .bool false]) (by simp [results, Tryz.results44, go_sem, r13a]) rfl ?_
          refine ⟨_, rfl, ?_, HFin.out.setCell ⟨w.heap.size + 1, 0, none⟩ _ (fun h => by have h : w.heap.size + 1 < w.heap.size := h; omega)⟩
          have hn := (HN13.out.fr (Fr.set w13 ⟨w.heap.size + 1, 0, none⟩ (.slice va3 FN.length vc3)) (fun k hk e => by have e : k = w.heap.size + 1 := e; have := HSz.out; omega)).mono (R' := fun b => w.heap.size ≤ b) (fun k hk => by have := HSz.out; omega)
          have hF := HFN.out
          replace hF : FN = [] := by simpa using hF
          rw [← hF]
          exact hn
end Go.Proofs.YtioiljboihehcaaGreatDoor
