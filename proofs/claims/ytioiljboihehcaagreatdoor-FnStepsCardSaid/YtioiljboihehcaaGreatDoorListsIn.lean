/- The walk of the program's reversible: the places of the options that may be bypassed. | The walks of the program's ReversibleIn and DominatedIn, at good forms. -/
import Derived.Test.YtioiljboihehcaaGreatDoorThroughP
import Derived.Test.YtioiljboihehcaaGreatDoorWithoutP
import Derived.Test.YtioiljboihehcaaGreatDoorDropFormP
namespace Go.Proofs.YtioiljboihehcaaGreatDoor
set_option linter.unusedVariables false
set_option linter.unusedSimpArgs false
open Go.RowKit

/-- The places of the options that may be bypassed. -/
def revB (g : Nat → Nat → Bool) (opt : Nat → List Nat) (x : Nat) (L : List Nat) : List Nat := (List.range L.length).filter fun k => ((opt (L.getD k 0)).find? (g x)).isSome
theorem revB_take {g : Nat → Nat → Bool} {opt : Nat → List Nat} {x : Nat} {L : List Nat} {k : Nat} : ((List.range (k + 1)).filter fun k => ((opt (L.getD k 0)).find? (g x)).isSome) = ((List.range k).filter fun k => ((opt (L.getD k 0)).find? (g x)).isSome) ++ if ((opt (L.getD k 0)).find? (g x)).isSome = true then [k] else [] := by
  rw [List.range_succ, List.filter_append]
  have key : ∀ (p : Nat → Bool), [k].filter p = if p k = true then [k] else [] := fun p => by
    cases h : p k <;> simp [List.filter_cons, h]
  rw [key]
/-- What the options of an option are, for the side that is asked. -/
def optS (V : List PL) (lf : Bool) (y : Nat) : List Nat := if lf = true then (nodeV V y).2 else (nodeV V y).1
set_option maxRecDepth 4000 in
set_option maxHeartbeats 8000000 in
theorem reversible_any {M I : Nat → Prop} {C : List Nat} {V : List PL} {BV : List Nat} (B : BookC V C) (pb ob : Nat) (mc ms mn : Value) (hMo : ¬ M ob) (hIo : ¬ I ob) (lf : Bool) (g : Nat → Nat → Bool) (hg : g = if lf = true then gR C else gL C) (x : Nat) (hx : x < V.length) (lv : Value) (L : List Nat) (f : Nat × Nat → Option Bool) (w : World)
    (hP : PoolS M I w pb V BV (.map (some ob)) mc ms mn) (hf : MapF encP encB w ob f) (ho : OrdF C f) (hL : Nats w lv L) (hLb : L ≠ [] → ∀ q, lv.ownBlock = some q → q ≠ ob) (hLt : ∀ x ∈ L, x < V.length) (hl : L.length < 1000000) :
    Calls Tryz.prog 122 #[.pointer (some ⟨pb, 0, none⟩), .int .i64 (x : Int), lv, .bool lf] w fun e w' => ∃ v', e = .returned v' ∧ NRow w.heap.size w' v' (revB g (optS V lf) x L) ∧ ∃ f', MapF encP encB w' ob f' ∧ OrdF C f' ∧ Fr (fun q => q = ob) w w' := by
  have hob : ob < w.heap.size := hf.lt
  have HL := Lib.hid (fun (W : World) (f : Fr (fun q => q = ob) w W) => show Nats W lv L from hL.fr f hLb)
  have HP := Lib.hid (fun (W : World) (f : Fr (fun q => q = ob) w W) => hP.fr f (fun q hq e => hMo (e ▸ hq)) (fun q hq e => hIo (e ▸ hq)))
  have HThr := Lib.hid (fun (y : Nat) (zv : Value) (f' : Nat × Nat → Option Bool) (W : World) (fr : Fr (fun q => q = ob) w W) (hf : MapF encP encB W ob f') (ho : OrdF C f') (hZ : Nats W zv (optS V lf y)) (hZb : optS V lf y ≠ [] → ∀ q, zv.ownBlock = some q → q ≠ ob) (hZt : ∀ z ∈ optS V lf y, z < V.length) => through_any B pb ob mc ms mn hMo hIo lf g hg x y zv (optS V lf y) f' W (hP.fr fr (fun q hq e => hMo (e ▸ hq)) (fun q hq e => hIo (e ▸ hq))) hf ho hx hZ hZb hZt)
  have HB := Lib.hid B; have HLt := Lib.hid hLt; have HLl := Lib.hid hl; have HOb := Lib.hid hob; have HIo := Lib.hid hIo
  obtain ⟨la, lc, rfl, zz⟩ := id hL
  obtain ⟨w1, hw1⟩ : ∃ w1, w1 = w.alloc (.cells #[] 3) := ⟨_, rfl⟩
  have f1 : Fr NoM w w1 := by rw [hw1]; exact (Fr.refl NoM w).alloc _
  have r1 : NRow w.heap.size w1 (.slice (some ⟨w.heap.size, 0, none⟩) 0 0) [] := by rw [hw1]; exact NRow.made w
  have HF0 := Lib.hid (hf.fr f1 (fun q => q)); have HO0 := Lib.hid ho; have F1 := Lib.hid f1; have HR1 := Lib.hid r1
  clear hP hf ho hL hLb hLt hl hob zz f1 r1 hMo hIo hg hx B
  go_enter Tryz.func122, Tryz.ntmps122
  go_upto_region 2 with fail
  rw [← hw1]
  clear hw1
  go_wp2_with fail
  go_loopw [9, 16] (fun v9 t W => ∃ (k : Nat) (va : Value) (f' : Nat × Nat → Option Bool), va = v9 ∧ t = .int .i64 k ∧ k ≤ L.length ∧ NRow w.heap.size W va ((List.range k).filter fun k => ((optS V lf (L.getD k 0)).find? (g x)).isSome) ∧ MapF encP encB W ob f' ∧ OrdF C f' ∧ Fr (fun q => q = ob) w W) (fun _ t _ => L.length - (intOf t).toNat)
  case atStart => exact ⟨0, _, _, rfl, rfl, Nat.zero_le _, HR1.out, HF0.out, HO0.out, F1.out.any⟩
  case round =>
    obtain ⟨k, va, f', rfl, rfl, hk, hr, hm, hoo, hfr⟩ := hrel
    obtain ⟨w7, rfl⟩ : ∃ w7, w7 = wr := ⟨_, rfl⟩
    by_cases hlt : k < L.length
    · obtain ⟨y, hy⟩ : ∃ y, L[k]? = some y := ⟨_, List.getElem?_eq_getElem hlt⟩
      have hyd : L.getD k 0 = y := by rw [List.getD_eq_getElem?_getD, hy]; rfl
      have hyl := HLt.out y (List.mem_of_getElem? hy)
      obtain ⟨_, _, ee, _, _, hcc⟩ := HL.out w7 hfr
      obtain ⟨rfl, hz, rfl⟩ := Value.slice.inj ee
      obtain ⟨b2, o2, ha2, d2⟩ := hcc k y hy
      have ix2 := ixInts la L.length lc k b2 o2 hlt ha2
      unfold encN at d2
      obtain ⟨pl, plc, pr, prc, p0, p1, _, _, _, _, hls, hrs⟩ := (HP.out w7 hfr).rd
      obtain ⟨gb1, go1, gv1, e1, c1, n1, i1⟩ := hls y hyl
      obtain ⟨gb2, go2, gv2, e2, c2, n2, i2⟩ := hrs y hyl
      have ixl := ixLists pl V.length plc y gb1 go1 hyl e1
      have ixr := ixLists pr V.length prc y gb2 go2 hyl e2
      obtain ⟨o1, o2'⟩ := HB.out.opts y _ (node_at hyl)
      have HT := Lib.hid (fun (zv : Value) (hZ : Nats w7 zv (optS V lf y)) (hZb : optS V lf y ≠ [] → ∀ q, zv.ownBlock = some q → I q) (hZt : ∀ z ∈ optS V lf y, z < y) => HThr.out y zv f' w7 hfr hm hoo hZ (fun h q hq e => HIo.out (e ▸ hZb h q hq)) (fun z hz => by have := hZt z hz; omega))
      obtain ⟨res, hres⟩ : ∃ res, res = (optS V lf y).find? (g x) := ⟨_, rfl⟩
      have hT := HT.out
      rw [← hres] at hT
      have HT := Lib.hid hT
      have hnext := revB_take (g := g) (opt := optS V lf) (x := x) (L := L) (k := k)
      rw [hyd, ← hres] at hnext
      obtain ⟨Q, hQ⟩ : ∃ Q, Q = (List.range k).filter fun k => ((optS V lf (L.getD k 0)).find? (g x)).isSome := ⟨_, rfl⟩
      rw [← hQ] at hr hnext
      have hQl : Q.length ≤ k := by
        have h := List.length_filter_le (fun k => ((optS V lf (L.getD k 0)).find? (g x)).isSome) (List.range k)
        rw [← hQ, List.length_range] at h
        exact h
      have HNext := Lib.hid hnext; have HR := Lib.hid hr; have HQl := Lib.hid hQl; have HFr := Lib.hid hfr
      obtain ⟨u1a, u1c, ev1, _⟩ := id n1
      obtain ⟨u2a, u2c, ev2, _⟩ := id n2
      subst ev1
      subst ev2
      have HN1 := Lib.hid (And.intro n1 i1); have HN2 := Lib.hid (And.intro n2 i2); have HO1 := Lib.hid o1; have HO2 := Lib.hid o2'
      have hpost : ∀ (zv : Value) (Q2 : World → Ending → Prop), True := fun _ _ => trivial
      clear hpost hT hnext hr hQl hfr hm hoo hcc ee hz ha2 hls hrs e1 e2 n1 i1 n2 i2 o1 o2' hQ hres hyd hy hyl
      cases lf with
      | true =>
        have HC := Lib.hid (HT.out (.slice u2a (nodeV V y).2.length u2c) HN2.out.1 HN2.out.2 HO2.out)
        clear HT
        go_wp2_with fail
        (with_reducible refine HC.out.mono ?_)
        rintro e w8 ⟨rfl, f8, m8, o8, fr8⟩
        have HR8 := Lib.hid (HR.out.fr fr8 (fun q hq e => by have := (HR.out.own.lt q hq).1; have := HOb.out; omega))
        have HM8 := Lib.hid m8; have HO8 := Lib.hid o8; have F8 := Lib.hid (HFr.out.trans fr8 (fun _ _ q => q))
        clear m8 o8 fr8 c1 c2 d2 p0 p1
        cases res with
        | none =>
          rw [show thrI none = -1 from rfl]
          go_wp2
          go_roundw
          case rel => exact ⟨k + 1, va, f8, rfl, by go_num, by omega, by rw [HNext.out]; simpa using HR8.out, HM8.out, HO8.out, F8.out⟩
          case measure => simp [intOf]; omega
        | some z =>
          rw [show thrI (some z) = (z : Int) from rfl]
          go_wp2_with (at_builtin; refine wpList_appS (enc := encN) _ rfl (.tmp 43) (.tmp 45) 50 rfl w.heap.size 3 (.int .i64 0) 8 Tryz.underlying50 infoInt rfl va Q.length (Q.map encN) rfl (owns_fr HR8.out.own ((Fr.refl NoM w8).alloc _) (fun _ _ q => q)) (.slice (some ⟨w8.heap.size, 0, none⟩) 1 1) rfl [k] (SliceOf.one encN w8 k 3) (fun _ => rfl) (by have h1 := HQl.out; have h2 := HLl.out; simp only [List.length_singleton]; omega) (by decide) (by have := F8.out.size; rw [World.size_alloc]; omega) ?_)
          intro v9 w9 h9 f9 q9
          have k9 : Fr (fun q => q = ob) w w9 := (F8.out.trans ((Fr.refl NoM w8).alloc _) (fun _ _ q => q.elim)).trans f9 (fun q hq e => by have := (HR8.out.own.lt q e).1; omega)
          have m9 := (HM8.out.fr ((Fr.refl NoM w8).alloc (.cells #[.int .i64 (k : Int)] 3)) (fun q => q)).fr f9 (fun e => by have := (HR8.out.own.lt ob e).1; have := HOb.out; omega)
          have r9 : NRow w.heap.size w9 v9 (Q ++ [k]) := NRow.snoc (by simpa using h9)
          have H9 := Lib.hid (And.intro r9 (And.intro m9 k9))
          clear h9 f9 q9 k9 m9 r9
          go_wp2
          go_roundw
          case rel => exact ⟨k + 1, v9, f8, rfl, by go_num, by omega, by rw [HNext.out]; simpa using H9.out.1, H9.out.2.1, HO8.out, H9.out.2.2⟩
          case measure => simp [intOf]; omega
      | false =>
        have HC := Lib.hid (HT.out (.slice u1a (nodeV V y).1.length u1c) HN1.out.1 HN1.out.2 HO1.out)
        clear HT
        go_wp2_with fail
        (with_reducible refine HC.out.mono ?_)
        rintro e w8 ⟨rfl, f8, m8, o8, fr8⟩
        have HR8 := Lib.hid (HR.out.fr fr8 (fun q hq e => by have := (HR.out.own.lt q hq).1; have := HOb.out; omega))
        have HM8 := Lib.hid m8; have HO8 := Lib.hid o8; have F8 := Lib.hid (HFr.out.trans fr8 (fun _ _ q => q))
        clear m8 o8 fr8 c1 c2 d2 p0 p1
        cases res with
        | none =>
          rw [show thrI none = -1 from rfl]
          go_wp2
          go_roundw
          case rel => exact ⟨k + 1, va, f8, rfl, by go_num, by omega, by rw [HNext.out]; simpa using HR8.out, HM8.out, HO8.out, F8.out⟩
          case measure => simp [intOf]; omega
        | some z =>
          rw [show thrI (some z) = (z : Int) from rfl]
          go_wp2_with (at_builtin; refine wpList_appS (enc := encN) _ rfl (.tmp 43) (.tmp 45) 50 rfl w.heap.size 3 (.int .i64 0) 8 Tryz.underlying50 infoInt rfl va Q.length (Q.map encN) rfl (owns_fr HR8.out.own ((Fr.refl NoM w8).alloc _) (fun _ _ q => q)) (.slice (some ⟨w8.heap.size, 0, none⟩) 1 1) rfl [k] (SliceOf.one encN w8 k 3) (fun _ => rfl) (by have h1 := HQl.out; have h2 := HLl.out; simp only [List.length_singleton]; omega) (by decide) (by have := F8.out.size; rw [World.size_alloc]; omega) ?_)
          intro v9 w9 h9 f9 q9
          have k9 : Fr (fun q => q = ob) w w9 := (F8.out.trans ((Fr.refl NoM w8).alloc _) (fun _ _ q => q.elim)).trans f9 (fun q hq e => by have := (HR8.out.own.lt q e).1; omega)
          have m9 := (HM8.out.fr ((Fr.refl NoM w8).alloc (.cells #[.int .i64 (k : Int)] 3)) (fun q => q)).fr f9 (fun e => by have := (HR8.out.own.lt ob e).1; have := HOb.out; omega)
          have r9 : NRow w.heap.size w9 v9 (Q ++ [k]) := NRow.snoc (by simpa using h9)
          have H9 := Lib.hid (And.intro r9 (And.intro m9 k9))
          clear h9 f9 q9 k9 m9 r9
          go_wp2
          go_roundw
          case rel => exact ⟨k + 1, v9, f8, rfl, by go_num, by omega, by rw [HNext.out]; simpa using H9.out.1, H9.out.2.1, HO8.out, H9.out.2.2⟩
          case measure => simp [intOf]; omega
    · obtain rfl : k = L.length := by omega
      have HR := Lib.hid hr; have HM := Lib.hid hm; have HO := Lib.hid hoo; have HF := Lib.hid hfr
      clear hr hm hoo hfr
      go_wp2
      go_ret
      exact ⟨va, rfl, HR.out, _, HM.out, HO.out, HF.out⟩
end Go.Proofs.YtioiljboihehcaaGreatDoor
namespace Go.Proofs.YtioiljboihehcaaGreatDoor
set_option linter.unusedVariables false
set_option linter.unusedSimpArgs false
open Go.RowKit

def ListsPost (L1 L2 : List Nat) (w : World) (e : Ending) (w' : World) : Prop := ∃ v1 v2, e = .returned (.tuple #[v1, v2, .bool true]) ∧ Nats w' v1 L1 ∧ Nats w' v2 L2 ∧ Fr NoM w w'
set_option maxRecDepth 4000 in
set_option maxHeartbeats 8000000 in
theorem revIn_any {R : Nat → Prop} (nv : Value) (Fs : List PL) (w : World) (h : NodeL R encI w nv (i2 Fs)) (hg : goodI (i2 Fs)) :
    Calls Tryz.prog 46 #[.agg #[nv]] w fun e w' => ListsPost (revB (gR (codesOf Fs)) (optS Fs true) (Fs.length - 1) (nodeV Fs (Fs.length - 1)).1) (revB (gL (codesOf Fs)) (optS Fs false) (Fs.length - 1) (nodeV Fs (Fs.length - 1)).2) w e w' := by
  obtain ⟨w1, hw1⟩ : ∃ w1, w1 = w.alloc (.cells #[nv] 28) := ⟨_, rfl⟩
  have f1 : Fr NoM w w1 := by rw [hw1]; exact (Fr.refl NoM w).alloc _
  have hs1 : w1.heap.size = w.heap.size + 1 := by rw [hw1]; simp
  have e0 : w1.heap[w.heap.size]? = some (.cells #[nv] 28 (0, 0)) := by rw [hw1]; exact heap_alloc_new w _
  have HK := Lib.hid (fun (W : World) (f : Fr NoM w1 W) => show W.cell? ⟨w.heap.size, 0, none⟩ = some nv from by rw [cell_of_row W _ 0 _ _ _ (f.heap e0 (fun q => q))]; rfl)
  have HF1 := Lib.hid f1; have HS1 := Lib.hid hs1; have HN := Lib.hid h.low
  have HSig := Lib.hid (goodFormP_any nv (i2 Fs) w1 (h.fr0 f1) true (by simp [hg]))
  obtain ⟨na, nc, rfl, z⟩ := id h
  obtain ⟨q1, q2, q3, q4, q5, _⟩ := goodI_parts hg
  have hlt : Fs.length - 1 < Fs.length := by omega
  obtain ⟨y, hy⟩ : ∃ y, Fs[Fs.length - 1]? = some y := ⟨_, List.getElem?_eq_getElem hlt⟩
  have hyv : nodeV Fs (Fs.length - 1) = y := by
    have := node_at hlt
    rw [hy] at this
    exact (Option.some.inj this).symm
  have hyo := q4.opts _ _ hy
  rw [hyv]
  obtain ⟨n, hn⟩ : ∃ n, n = Fs.length - 1 := ⟨_, rfl⟩
  rw [← hn] at hyo hlt hy
  (try rw [← hn])
  obtain ⟨C, hC⟩ : ∃ C, C = codesOf Fs := ⟨_, rfl⟩
  rw [← hC]
  have HB := Lib.hid (show BookC Fs C from by rw [hC]; exact q4.book)
  clear z h f1 hs1 e0 hyv hg hC
  have k0 := HK.out w1 (Fr.refl _ _)
  go_enter Tryz.func46, Tryz.ntmps46
  go_wp2_with fail
  rw [← hw1]
  clear hw1
  (with_reducible refine HSig.out.mono ?_)
  rintro e w2 ⟨rfl, f2⟩
  have HF2 := Lib.hid f2
  clear f2 k0
  have k0 := HK.out w2 HF2.out
  have HQ4 := Lib.hid q4; have HQ3 := Lib.hid q3; have HQ5 := Lib.hid q5; have HQ2 := Lib.hid q2; have HYo := Lib.hid hyo; have HLt := Lib.hid hlt; have HY := Lib.hid hy; have Hn := Lib.hid hn
  clear q1 q2 q3 q4 q5 hyo hlt hy hn
  go_wp2_with fail
  refine (newPool_any w2).mono ?_
  rintro e w3 ⟨rfl, hp3, hmaps, f3⟩
  obtain ⟨pb, hpb⟩ : ∃ pb, pb = w2.heap.size + 5 := ⟨_, rfl⟩
  obtain ⟨ob, hob⟩ : ∃ ob, ob = w2.heap.size + 1 := ⟨_, rfl⟩
  have hmap := hmaps 1 (by omega)
  rw [← hob] at hmap hp3
  rw [← hpb] at hp3 ⊢
  obtain ⟨mc, hmc⟩ : ∃ v, v = Value.map (some (w2.heap.size + 2)) := ⟨_, rfl⟩
  obtain ⟨ms, hms⟩ : ∃ v, v = Value.map (some (w2.heap.size + 3)) := ⟨_, rfl⟩
  obtain ⟨mn, hmn⟩ : ∃ v, v = Value.map (some (w2.heap.size + 4)) := ⟨_, rfl⟩
  rw [← hmc, ← hms, ← hmn] at hp3
  clear hmaps hmc hms hmn
  have hobl : ob < w3.heap.size := (Array.getElem?_eq_some_iff.1 hmap).1
  have hf3 := (HF1.out.trans HF2.out (fun _ _ q => q)).trans f3 (fun _ _ q => q)
  have HMp := Lib.hid (show MapF encP encB w3 ob (fun _ => none) from ⟨#[], 0, hmap, by simp, by simp, by simp⟩)
  have q2 := HQ2.out
  have hyo := HYo.out
  have hlt := HLt.out
  have hld := loaded_any pb (.slice na (i2 Fs).length nc) [] Fs [] (.map (some ob)) mc ms mn w3 hp3.low (fun q hq => hq.2) (fun q hq => hq.2) PoolOK.nil (HN.out.ofI.fr0 hf3) (fun k hk hm => by
      have h1 := HF1.out.size
      have h2 := HF2.out.size
      have h3 : k < w.heap.size := hk
      rcases hm.1 with e | e <;> omega) HQ4.out.opts (by simp; omega) (fun y hy => by have := HQ3.out y hy; omega) y (by rw [← Hn.out]; exact HY.out) n (by rw [HQ5.out, ← Hn.out]; exact List.getElem?_range hlt)
  rw [HQ5.out] at hld
  dsimp only at hld
  rw [atAll_range' (fun x hx => by have := hyo.1 x hx; omega), atAll_range' (fun x hx => by have := hyo.2 x hx; omega)] at hld
  have HLd := Lib.hid hld
  have k3 := HK.out w3 (HF2.out.trans f3 (fun _ _ q => q))
  have HW3 := Lib.hid (show w.heap.size + 1 ≤ w2.heap.size from by have := HF2.out.size; have := HS1.out; omega)
  have HOb := Lib.hid hob; have HObl := Lib.hid hobl; have HPb := Lib.hid hpb; have HF23 := Lib.hid f3; have HF3 := Lib.hid hf3
  have HY3 := Lib.hid (HQ3.out y (List.mem_of_getElem? HY.out))
  clear hmap hob hobl hpb hp3 f3 hf3 hld q2 hyo hlt k0
  go_wp2_with fail
  refine HLd.out.mono ?_
  rintro e w4 ⟨r1, r2, M, I, rfl, hr1, hr2, hP4, hM, hI, hz1, hz2, f4⟩
  have hMo : ¬ M ob := fun h => by
    have h1 := HOb.out
    have h0 := HPb.out
    have h2 := HObl.out
    rcases (hM _ h).1 with h | h
    · rcases h.1 with e | e <;> omega
    · omega
  have hIo : ¬ I ob := fun h => by
    have h2 := HObl.out
    rcases (hI _ h).1 with h | h
    · exact h.1
    · omega
  have hmp4 := HMp.out.fr f4 (fun h => by
    have h1 := HOb.out
    have h0 := HPb.out
    rcases h.1 with e | e <;> omega)
  have hs1 := hr1.slice (by have := HY3.out; omega)
  have hs2 := hr2.slice (by have := HY3.out; omega)
  have HD1 := Lib.hid (reversible_any HB.out pb ob mc ms mn hMo hIo true (gR C) rfl n HLt.out _ y.1 _ w4 hP4 hmp4 (OrdF.none C) hs1 (fun _ q hq e => by cases hq; have e : r1 = ob := e; have h1 := HObl.out; have h2 := hz1; omega) (fun x hx => by have := HYo.out.1 x hx; have := HLt.out; omega) (by have := HY3.out; omega))
  have HD2 := Lib.hid (fun (W : World) (f' : Nat × Nat → Option Bool) (fr : Fr (fun q => q = ob) w4 W) (hm : MapF encP encB W ob f') (hoo : OrdF C f') => reversible_any HB.out pb ob mc ms mn hMo hIo false (gL C) rfl n HLt.out _ y.2 f' W (hP4.fr fr (fun q hq e => hMo (e ▸ hq)) (fun q hq e => hIo (e ▸ hq))) hm hoo (hs2.fr fr (fun _ q hq e => by cases hq; have e : r2 = ob := e; have h1 := HObl.out; have h2 := hz2; omega)) (fun _ q hq e => by cases hq; have e : r2 = ob := e; have h1 := HObl.out; have h2 := hz2; omega) (fun x hx => by have := HYo.out.2 x hx; have := HLt.out; omega) (by have := HY3.out; omega))
  have HZ1 := Lib.hid hz1; have HZ2 := Lib.hid hz2
  have HF4 := Lib.hid (HF3.out.trans f4 (fun q hq h => by
    have h0 := HPb.out; have h1 := HW3.out
    rcases h.1 with e | e <;> omega) : Fr NoM w w4)
  have HObW := Lib.hid (show w.heap.size ≤ ob from by have h1 := HOb.out; have h2 := HW3.out; omega)
  have HOb4 := Lib.hid (show ob < w4.heap.size from by have h1 := HObl.out; have h2 := f4.size; omega)
  clear hr1 hr2 hP4 hM hI hz1 hz2 f4 hMo hIo hmp4 hs1 hs2 k3 HLd
  go_wp2_with fail
  (with_reducible refine HD1.out.mono ?_)
  rintro e w5 ⟨v5, rfl, n5, f5, m5, o5, fr5⟩
  have HD2 := Lib.hid (HD2.out w5 f5 fr5 m5 o5)
  have HN5 := Lib.hid n5; have F5 := Lib.hid fr5
  clear n5 m5 o5 fr5
  go_wp2_with fail
  (with_reducible refine HD2.out.mono ?_)
  rintro e w6 ⟨v6, rfl, n6, f6, m6, o6, fr6⟩
  have HEnd := Lib.hid (show ListsPost _ _ w (.returned (.tuple #[v5, v6, .bool true])) w6 from ⟨v5, v6, rfl, (HN5.out.nats).fr fr6 (fun _ q hq e => by have := (HN5.out.own.lt q hq).1; have := HOb4.out; omega), n6.nats, (HF4.out.trans F5.out (fun q hq e => by have := HObW.out; omega)).trans fr6 (fun q hq e => by have := HObW.out; omega)⟩)
  clear n6 m6 o6 fr6
  go_wp2
  refine bodyPost_ret (v := .tuple #[v5, v6, .bool true]) (by simp [results, Tryz.results46, go_sem]) rfl ?_
  exact HEnd.out
set_option maxRecDepth 4000 in
set_option maxHeartbeats 8000000 in
theorem domIn_any {R : Nat → Prop} (nv : Value) (Fs : List PL) (w : World) (h : NodeL R encI w nv (i2 Fs)) (hg : goodI (i2 Fs)) :
    Calls Tryz.prog 47 #[.agg #[nv]] w fun e w' => ListsPost (domB (gL (codesOf Fs)) (nodeV Fs (Fs.length - 1)).1) (domB (gR (codesOf Fs)) (nodeV Fs (Fs.length - 1)).2) w e w' := by
  obtain ⟨w1, hw1⟩ : ∃ w1, w1 = w.alloc (.cells #[nv] 28) := ⟨_, rfl⟩
  have f1 : Fr NoM w w1 := by rw [hw1]; exact (Fr.refl NoM w).alloc _
  have hs1 : w1.heap.size = w.heap.size + 1 := by rw [hw1]; simp
  have e0 : w1.heap[w.heap.size]? = some (.cells #[nv] 28 (0, 0)) := by rw [hw1]; exact heap_alloc_new w _
  have HK := Lib.hid (fun (W : World) (f : Fr NoM w1 W) => show W.cell? ⟨w.heap.size, 0, none⟩ = some nv from by rw [cell_of_row W _ 0 _ _ _ (f.heap e0 (fun q => q))]; rfl)
  have HF1 := Lib.hid f1; have HS1 := Lib.hid hs1; have HN := Lib.hid h.low
  have HSig := Lib.hid (goodFormP_any nv (i2 Fs) w1 (h.fr0 f1) true (by simp [hg]))
  obtain ⟨na, nc, rfl, z⟩ := id h
  obtain ⟨q1, q2, q3, q4, q5, _⟩ := goodI_parts hg
  have hlt : Fs.length - 1 < Fs.length := by omega
  obtain ⟨y, hy⟩ : ∃ y, Fs[Fs.length - 1]? = some y := ⟨_, List.getElem?_eq_getElem hlt⟩
  have hyv : nodeV Fs (Fs.length - 1) = y := by
    have := node_at hlt
    rw [hy] at this
    exact (Option.some.inj this).symm
  have hyo := q4.opts _ _ hy
  rw [hyv]
  obtain ⟨n, hn⟩ : ∃ n, n = Fs.length - 1 := ⟨_, rfl⟩
  rw [← hn] at hyo hlt hy
  (try rw [← hn])
  obtain ⟨C, hC⟩ : ∃ C, C = codesOf Fs := ⟨_, rfl⟩
  rw [← hC]
  have HB := Lib.hid (show BookC Fs C from by rw [hC]; exact q4.book)
  clear z h f1 hs1 e0 hyv hg hC
  have k0 := HK.out w1 (Fr.refl _ _)
  go_enter Tryz.func47, Tryz.ntmps47
  go_wp2_with fail
  rw [← hw1]
  clear hw1
  (with_reducible refine HSig.out.mono ?_)
  rintro e w2 ⟨rfl, f2⟩
  have HF2 := Lib.hid f2
  clear f2 k0
  have k0 := HK.out w2 HF2.out
  have HQ4 := Lib.hid q4; have HQ3 := Lib.hid q3; have HQ5 := Lib.hid q5; have HQ2 := Lib.hid q2; have HYo := Lib.hid hyo; have HLt := Lib.hid hlt; have HY := Lib.hid hy; have Hn := Lib.hid hn
  clear q1 q2 q3 q4 q5 hyo hlt hy hn
  go_wp2_with fail
  refine (newPool_any w2).mono ?_
  rintro e w3 ⟨rfl, hp3, hmaps, f3⟩
  obtain ⟨pb, hpb⟩ : ∃ pb, pb = w2.heap.size + 5 := ⟨_, rfl⟩
  obtain ⟨ob, hob⟩ : ∃ ob, ob = w2.heap.size + 1 := ⟨_, rfl⟩
  have hmap := hmaps 1 (by omega)
  rw [← hob] at hmap hp3
  rw [← hpb] at hp3 ⊢
  obtain ⟨mc, hmc⟩ : ∃ v, v = Value.map (some (w2.heap.size + 2)) := ⟨_, rfl⟩
  obtain ⟨ms, hms⟩ : ∃ v, v = Value.map (some (w2.heap.size + 3)) := ⟨_, rfl⟩
  obtain ⟨mn, hmn⟩ : ∃ v, v = Value.map (some (w2.heap.size + 4)) := ⟨_, rfl⟩
  rw [← hmc, ← hms, ← hmn] at hp3
  clear hmaps hmc hms hmn
  have hobl : ob < w3.heap.size := (Array.getElem?_eq_some_iff.1 hmap).1
  have hf3 := (HF1.out.trans HF2.out (fun _ _ q => q)).trans f3 (fun _ _ q => q)
  have HMp := Lib.hid (show MapF encP encB w3 ob (fun _ => none) from ⟨#[], 0, hmap, by simp, by simp, by simp⟩)
  have q2 := HQ2.out
  have hyo := HYo.out
  have hlt := HLt.out
  have hld := loaded_any pb (.slice na (i2 Fs).length nc) [] Fs [] (.map (some ob)) mc ms mn w3 hp3.low (fun q hq => hq.2) (fun q hq => hq.2) PoolOK.nil (HN.out.ofI.fr0 hf3) (fun k hk hm => by
      have h1 := HF1.out.size
      have h2 := HF2.out.size
      have h3 : k < w.heap.size := hk
      rcases hm.1 with e | e <;> omega) HQ4.out.opts (by simp; omega) (fun y hy => by have := HQ3.out y hy; omega) y (by rw [← Hn.out]; exact HY.out) n (by rw [HQ5.out, ← Hn.out]; exact List.getElem?_range hlt)
  rw [HQ5.out] at hld
  dsimp only at hld
  rw [atAll_range' (fun x hx => by have := hyo.1 x hx; omega), atAll_range' (fun x hx => by have := hyo.2 x hx; omega)] at hld
  have HLd := Lib.hid hld
  have k3 := HK.out w3 (HF2.out.trans f3 (fun _ _ q => q))
  have HW3 := Lib.hid (show w.heap.size + 1 ≤ w2.heap.size from by have := HF2.out.size; have := HS1.out; omega)
  have HOb := Lib.hid hob; have HObl := Lib.hid hobl; have HPb := Lib.hid hpb; have HF23 := Lib.hid f3; have HF3 := Lib.hid hf3
  have HY3 := Lib.hid (HQ3.out y (List.mem_of_getElem? HY.out))
  clear hmap hob hobl hpb hp3 f3 hf3 hld q2 hyo hlt k0
  go_wp2_with fail
  refine HLd.out.mono ?_
  rintro e w4 ⟨r1, r2, M, I, rfl, hr1, hr2, hP4, hM, hI, hz1, hz2, f4⟩
  have hMo : ¬ M ob := fun h => by
    have h1 := HOb.out
    have h0 := HPb.out
    have h2 := HObl.out
    rcases (hM _ h).1 with h | h
    · rcases h.1 with e | e <;> omega
    · omega
  have hIo : ¬ I ob := fun h => by
    have h2 := HObl.out
    rcases (hI _ h).1 with h | h
    · exact h.1
    · omega
  have hmp4 := HMp.out.fr f4 (fun h => by
    have h1 := HOb.out
    have h0 := HPb.out
    rcases h.1 with e | e <;> omega)
  have hs1 := hr1.slice (by have := HY3.out; omega)
  have hs2 := hr2.slice (by have := HY3.out; omega)
  have HD1 := Lib.hid (dominated_any HB.out pb ob mc ms mn hMo hIo true (gL C) rfl _ y.1 _ w4 hP4 hmp4 (OrdF.none C) hs1 (fun _ q hq e => by cases hq; have e : r1 = ob := e; have h1 := HObl.out; have h2 := hz1; omega) (fun x hx => by have := HYo.out.1 x hx; have := HLt.out; omega) (by have := HY3.out; omega))
  have HD2 := Lib.hid (fun (W : World) (f' : Nat × Nat → Option Bool) (fr : Fr (fun q => q = ob) w4 W) (hm : MapF encP encB W ob f') (hoo : OrdF C f') => dominated_any HB.out pb ob mc ms mn hMo hIo false (gR C) rfl _ y.2 f' W (hP4.fr fr (fun q hq e => hMo (e ▸ hq)) (fun q hq e => hIo (e ▸ hq))) hm hoo (hs2.fr fr (fun _ q hq e => by cases hq; have e : r2 = ob := e; have h1 := HObl.out; have h2 := hz2; omega)) (fun _ q hq e => by cases hq; have e : r2 = ob := e; have h1 := HObl.out; have h2 := hz2; omega) (fun x hx => by have := HYo.out.2 x hx; have := HLt.out; omega) (by have := HY3.out; omega))
  have HZ1 := Lib.hid hz1; have HZ2 := Lib.hid hz2
  have HF4 := Lib.hid (HF3.out.trans f4 (fun q hq h => by
    have h0 := HPb.out; have h1 := HW3.out
    rcases h.1 with e | e <;> omega) : Fr NoM w w4)
  have HObW := Lib.hid (show w.heap.size ≤ ob from by have h1 := HOb.out; have h2 := HW3.out; omega)
  have HOb4 := Lib.hid (show ob < w4.heap.size from by have h1 := HObl.out; have h2 := f4.size; omega)
  clear hr1 hr2 hP4 hM hI hz1 hz2 f4 hMo hIo hmp4 hs1 hs2 k3 HLd
  go_wp2_with fail
  (with_reducible refine HD1.out.mono ?_)
  rintro e w5 ⟨v5, rfl, n5, f5, m5, o5, fr5⟩
  have HD2 := Lib.hid (HD2.out w5 f5 fr5 m5 o5)
  have HN5 := Lib.hid n5; have F5 := Lib.hid fr5
  clear n5 m5 o5 fr5
  go_wp2_with fail
  (with_reducible refine HD2.out.mono ?_)
  rintro e w6 ⟨v6, rfl, n6, f6, m6, o6, fr6⟩
  have HEnd := Lib.hid (show ListsPost _ _ w (.returned (.tuple #[v5, v6, .bool true])) w6 from ⟨v5, v6, rfl, (HN5.out.nats).fr fr6 (fun _ q hq e => by have := (HN5.out.own.lt q hq).1; have := HOb4.out; omega), n6.nats, (HF4.out.trans F5.out (fun q hq e => by have := HObW.out; omega)).trans fr6 (fun q hq e => by have := HObW.out; omega)⟩)
  clear n6 m6 o6 fr6
  go_wp2
  refine bodyPost_ret (v := .tuple #[v5, v6, .bool true]) (by simp [results, Tryz.results47, go_sem]) rfl ?_
  exact HEnd.out
end Go.Proofs.YtioiljboihehcaaGreatDoor
