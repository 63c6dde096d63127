/- The walk of the program's BypassForm. -/
import Derived.Test.YtioiljboihehcaaGreatDoorDropFormP
import Derived.Test.YtioiljboihehcaaGreatDoorThroughP
import Derived.Deep.RegionLaw
import Derived.Deep.RegionHeld3
import Derived.Deep.CutRange
namespace Go.Proofs.YtioiljboihehcaaGreatDoor
set_option linter.unusedVariables false
set_option linter.unusedSimpArgs false
open Go.RowKit

/-- One step of a drawn region: a row is put behind a row of the call's own that lies in a block. -/
theorem step_appN {w : World} {ops : Array Oper} {o : Oper} {a : Act} {K : Act → World → Prop} {Q : Exit → Act → World → Prop} {E : Prop} (w0 : World) (F : Fr NoM w0 w) (hg : o.guard = none) (s x : Operand)
    (hop : o.op = Op.call { callee := Callee.builtin Builtin.append, args := #[s, x], argTypes := #[50, 50] }) (v : Value) (A : List Nat) (hs : a.eval s = v) (hown : NRow w0.heap.size w v A)
    (xv : Value) (hx : a.eval x = xv) (L : List Nat) (hsrc : Nats w xv L) (hn : A.length + L.length < 1000000000)
    (hK : ∀ (b c : Nat) (w' : World), NRow w0.heap.size w' (.slice (some ⟨b, 0, none⟩) (A ++ L).length c) (A ++ L) → Fr NoM w0 w' → K (a.put o.dst (.slice (some ⟨b, 0, none⟩) (A ++ L).length c)) w') :
    if Region.wanted o (yielded ops a.tmps) = true then Oper.wp Tryz.prog o a w K Q else E := by
  have hw : Region.wanted o (yielded ops a.tmps) = true := by simp [Region.wanted, hg]
  rw [if_pos hw]
  obtain ⟨v', w', hr, h2, h3, h4, h5⟩ := run_append_src (P := Tryz.prog) w 50 o.type w0.heap.size 3 (.int .i64 0) 8 Tryz.underlying50 infoInt rfl v A.length _ hown.own xv L hsrc (fun _ => rfl) (by omega) (by decide) F.size
  have hlen : (A ++ L).length = A.length + L.length := List.length_append
  have hrow : w'.ownsRow w0.heap.size 3 1 v' (A ++ L).length ((A ++ L).map encN) := by rw [hlen, List.map_append]; exact h2
  obtain ⟨b, c, rfl⟩ : ∃ b c, v' = .slice (some ⟨b, 0, none⟩) (A ++ L).length c := by
    rcases hrow.2 with ⟨e, _⟩ | ⟨g, cap, cur, e, _⟩
    · obtain ⟨b, c, e1⟩ := hown.shape
      have := (h5.1 e).1
      rw [e1] at this
      cases this
    · exact ⟨g, cap, e⟩
  unfold Oper.wp execOp
  simp only [hop, resolve, invoke, builtin, Sem.run_bind, Sem.run_pure, Result.andThen_ok, List.map_toArray, List.map_cons, List.map_nil, hs, hx, hr]
  exact hK b c w' ⟨hrow, b, c, rfl⟩ (F.own hown.own h3)
set_option maxRecDepth 4000 in
set_option maxHeartbeats 4000000 in
theorem top_is (b1 o1 n k nc : Nat) (la ra : Option Addr) (ll lc rl rc : Nat) (w : World) (hn : n = k + 1) (hn2 : n < 1000000000)
    (d1 : w.cell? ⟨b1, o1 + k * 2, none⟩ = some (.slice la ll lc)) (d2 : w.cell? ⟨b1, o1 + k * 2 + 1, none⟩ = some (.slice ra rl rc)) :
    Calls Tryz.prog 114 #[.agg #[.slice (some ⟨b1, o1, none⟩) n nc]] w fun e w' => e = .returned (.agg #[.slice la ll lc, .slice ra rl rc]) ∧ Fr NoM w w' := by
  have ix := ixNode (some ⟨b1, o1, none⟩) n nc k b1 o1 (by omega) rfl
  have hcast : ((n : Int) - 1) = (k : Int) := by omega
  have hwr : IntKind.i64.wrap (k : Int) = (k : Int) := by rw [IntKind.wrap_i64]; omega
  have hd1 := World.block_lt_of_cell? w _ d1
  clear hn
  go_enter Tryz.func114, Tryz.ntmps114
  go_wp2_with fail
  refine bodyPost_ret (v := .agg #[.slice la ll lc, .slice ra rl rc]) (by simp [results, Tryz.results114, go_sem]) rfl ?_
  exact ⟨rfl, ((Fr.refl NoM w).alloc _).alloc _⟩

set_option maxRecDepth 8000 in
set_option maxHeartbeats 8000000 in
theorem bypassFormP_any {R : Nat → Prop} (nv : Value) (Fi : List (List Int × List Int)) (w : World) (h : NodeL R encI w nv Fi) (g : Bool) (hg : g = true ↔ goodI Fi) (ok : Bool) (hok : ok = (g && fitsB (bypF (natF Fi)))) :
    Calls Tryz.prog 42 #[.agg #[nv]] w fun e w' => ∃ v', e = .returned (.tuple #[.agg #[v'], .bool ok]) ∧ NodesS w.heap.size w' v' (if ok = true then bypF (natF Fi) else []) ∧ Fr NoM w w' := by
  have HOk := Lib.hid hok
  clear hok
  obtain ⟨w1, hw1⟩ : ∃ w1, w1 = (w.alloc (.cells #[nv] 28)).alloc (.cells #[.slice none 0 0] 28) := ⟨_, rfl⟩
  have f1 : Fr NoM w w1 := by rw [hw1]; exact ((Fr.refl NoM w).alloc _).alloc _
  have hs1 : w1.heap.size = w.heap.size + 2 := by rw [hw1]; simp
  have e0 : w1.heap[w.heap.size]? = some (.cells #[nv] 28 (0, 0)) := by rw [hw1]; exact ((Fr.refl NoM _).alloc _).heap (heap_alloc_new w _) (fun q => q)
  have e1 : w1.heap[w.heap.size + 1]? = some (.cells #[.slice none 0 0] 28 (0, 0)) := by
    have h := heap_alloc_new (w.alloc (.cells #[nv] 28)) (.cells #[.slice none 0 0] 28)
    rw [World.size_alloc] at h
    rw [hw1]; exact h
  have HK := Lib.hid (fun (W : World) (f : Fr NoM w1 W) => show W.cell? ⟨w.heap.size, 0, none⟩ = some nv ∧ W.cell? ⟨w.heap.size + 1, 0, none⟩ = some (.slice none 0 0) ∧ W.frozen? ⟨w.heap.size + 1, 0, none⟩ = false from by
    have h0 := f.heap e0 (fun q => q)
    have h1 := f.heap e1 (fun q => q)
    exact ⟨by rw [cell_of_row W _ 0 _ _ _ h0]; rfl, by rw [cell_of_row W _ 0 _ _ _ h1]; rfl, by simp [World.frozen?, h1]⟩)
  have HF1 := Lib.hid f1; have HS1 := Lib.hid hs1; have HG := Lib.hid hg; have HN := Lib.hid h.low
  have HSig := Lib.hid (goodFormP_any nv Fi w1 (h.fr0 f1) g hg)
  obtain ⟨na, nc, rfl, z⟩ := id h
  clear z h f1 hs1 e0 e1 hg
  obtain ⟨k0, k1, z1⟩ := HK.out w1 (Fr.refl _ _)
  go_enter Tryz.func42, Tryz.ntmps42
  go_wp2_with fail
  rw [← hw1]
  clear hw1
  refine HSig.out.mono ?_
  rintro e w2 ⟨rfl, f2⟩
  have HF2 := Lib.hid f2
  clear f2 k0 k1 z1
  cases g with
  | false =>
    have hk : ok = false := by rw [HOk.out]; rfl
    subst hk
    obtain ⟨k0, k1, z1⟩ := HK.out w2 HF2.out
    go_wp2
    refine bodyPost_ret (v := .tuple #[.agg #[.slice none 0 0], .bool false]) (by simp [results, Tryz.results42, go_sem, k1]) rfl ?_
    exact ⟨_, rfl, NodesS.nil _ _, (HF1.out.trans HF2.out (fun _ _ q => q)).setCell _ _ (fun h => by have h : w.heap.size + 1 < w.heap.size := h; omega)⟩
  | true =>
    obtain ⟨Fs, rfl⟩ := goodI_nat (HG.out.1 rfl)
    have hgd := HG.out.1 rfl
    obtain ⟨q1, q2, q3, q4, q5, _⟩ := goodI_parts hgd
    have hlt : Fs.length - 1 < Fs.length := by omega
    obtain ⟨y, hy⟩ : ∃ y, Fs[Fs.length - 1]? = some y := ⟨_, List.getElem?_eq_getElem hlt⟩
    have hyv : nodeV Fs (Fs.length - 1) = y := by
      have := node_at hlt
      rw [hy] at this
      exact (Option.some.inj this).symm
    have hyo := q4.opts _ _ hy
    obtain ⟨k0, k1, z1⟩ := HK.out w2 HF2.out
    go_wp2_with fail
    refine (newPool_any w2).mono ?_
    rintro e w3 ⟨rfl, hp3, hmaps, f3⟩
    obtain ⟨pb, hpb⟩ : ∃ pb, pb = w2.heap.size + 5 := ⟨_, rfl⟩
    obtain ⟨ob, hob⟩ : ∃ ob, ob = w2.heap.size + 1 := ⟨_, rfl⟩
    have hmap := hmaps 1 (by omega)
    rw [← hob] at hmap hp3
    rw [← hpb] at hp3 ⊢
    obtain ⟨mc, hmc⟩ : ∃ v, v = Value.map (some (w2.heap.size + 2)) := ⟨_, rfl⟩
    obtain ⟨ms, hms⟩ : ∃ v, v = Value.map (some (w2.heap.size + 3)) := ⟨_, rfl⟩
    obtain ⟨mn, hmn⟩ : ∃ v, v = Value.map (some (w2.heap.size + 4)) := ⟨_, rfl⟩
    rw [← hmc, ← hms, ← hmn] at hp3
    clear hmaps hmc hms hmn
    have hobl : ob < w3.heap.size := (Array.getElem?_eq_some_iff.1 hmap).1
    have hf3 := (HF1.out.trans HF2.out (fun _ _ q => q)).trans f3 (fun _ _ q => q)
    have HMp := Lib.hid (show MapF encP encB w3 ob (fun _ => none) from ⟨#[], 0, hmap, by simp, by simp, by simp⟩)
    have hld := load_any pb (.slice na (i2 Fs).length nc) [] Fs [] (.map (some ob)) mc ms mn w3 hp3.low (fun q hq => hq.2) (fun q hq => hq.2) PoolOK.nil (HN.out.ofI.fr0 hf3) (fun k hk hm => by
        have h1 := HF1.out.size
        have h2 := HF2.out.size
        have h3 : k < w.heap.size := hk
        rcases hm.1 with e | e <;> omega) q4.opts (by simp; omega) (fun y hy => by have := q3 y hy; omega)
    rw [q5] at hld
    dsimp only at hld
    have HLd := Lib.hid hld
    have HF3 := Lib.hid hf3
    obtain ⟨k0, k1, z1⟩ := HK.out w3 (HF2.out.trans f3 (fun _ _ q => q))
    have HW3 := Lib.hid (show w.heap.size + 2 ≤ w2.heap.size from by have := HF2.out.size; have := HS1.out; omega)
    have HOb := Lib.hid hob; have HObl := Lib.hid hobl; have HPb := Lib.hid hpb; have HF23 := Lib.hid f3
    have HGd := Lib.hid hgd; have HYv := Lib.hid hyv; have HYo := Lib.hid hyo; have HQ1 := Lib.hid q1; have HQ2 := Lib.hid q2; have HQ4 := Lib.hid q4
    have HY3 := Lib.hid q3; have HY := Lib.hid hy
    clear hmap hob hobl hpb hp3 f3 hf3 hld q1 q2 q3 q4 q5 hlt hy hyv hyo hgd HSig HG
    go_wp2_with fail
    refine HLd.out.mono ?_
    rintro e w4 ⟨v4, M, I, rfl, hrow, hP4, hM, hI, f4⟩
    obtain ⟨lb, lc, rfl⟩ := hrow.shape
    obtain ⟨n, hn⟩ : ∃ n, Fs.length = n + 1 := ⟨Fs.length - 1, by have := HQ1.out; omega⟩
    have hnm : Fs.length - 1 = n := by omega
    -- the form's last node, where it lies
    have hN4 : NodeL (· < w.heap.size) encN w4 (.slice na (i2 Fs).length nc) Fs := by
      have hf3 := HF3.out
      exact (HN.out.ofI.fr0 hf3).fr f4 (fun k hk hm => by
        have h1 := HF1.out.size
        have h2 := HF2.out.size
        have h0 := HPb.out
        rcases hm.1 with e | e <;> omega)
    have hMo : ¬ M ob := fun h => by
      have h1 := HOb.out
      have h0 := HPb.out
      have h2 := HObl.out
      rcases (hM _ h).1 with h | h
      · rcases h.1 with e | e <;> omega
      · omega
    have hIo : ¬ I ob := fun h => by
      have h2 := HObl.out
      rcases (hI _ h).1 with h | h
      · exact h.1
      · omega
    have hmp4 := HMp.out.fr f4 (fun h => by
      have h1 := HOb.out
      have h0 := HPb.out
      rcases h.1 with e | e <;> omega)
    have f14 : Fr NoM w1 w4 := (HF2.out.trans HF23.out (fun _ _ q => q)).trans f4 (fun q hq h => by
      have h0 := HPb.out
      have h2 := HF2.out.size
      rcases h.1 with e | e <;> omega)
    have hob4 : ob < w4.heap.size := hmp4.lt
    have hobw : w.heap.size < ob := by have := HOb.out; have := HW3.out; omega
    have hlb := (hrow.own.lt lb rfl).1
    obtain ⟨k0', k1', z1'⟩ := HK.out w4 f14
    simp only [i2_length, List.length_range, hn] at hrow hN4 k0' HK ⊢
    rw [hnm] at *
    obtain ⟨L, R'⟩ := y
    have hyn : Fs[n]? = some (L, R') := by have h := HY.out; simpa [hn] using h
    obtain ⟨na', nc', ee, _, _, hnn⟩ := id hN4
    obtain ⟨rfl, hz, rfl⟩ := Value.slice.inj ee
    clear ee hz
    obtain ⟨b1, o1, lv, rv, ha1, hb1, d1, d2, n1, n2, m1, m2⟩ := hnn n (L, R') hyn
    subst ha1
    dsimp only at n1 n2 m1 m2
    obtain ⟨la, lac, rfl, hll1, hll2, z⟩ := id n1
    clear z
    obtain ⟨ra, rac, rfl, hrl1, hrl2, z⟩ := id n2
    clear z
    obtain ⟨hy1, hy2⟩ := HYo.out
    dsimp only at hy1 hy2
    have hy3 := HY3.out (L, R') (List.mem_of_getElem? hyn)
    dsimp only at hy3
    have hn120 : n < 120 := by have := HQ2.out; omega
    -- rows that the walk reads, in each later world
    have HR := Lib.hid (fun (W : World) (f : Fr (fun q => q = ob) w4 W) => show (W.cell? ⟨b1, o1 + n * 2, none⟩ = some (.slice la L.length lac) ∧ W.cell? ⟨b1, o1 + n * 2 + 1, none⟩ = some (.slice ra R'.length rac)) ∧ Nats W (.slice la L.length lac) L ∧ Nats W (.slice ra R'.length rac) R' ∧ W.cell? ⟨w.heap.size, 0, none⟩ = some (.slice (some ⟨b1, o1, none⟩) (n + 1) nc) ∧ NRow w3.heap.size W (.slice (some ⟨lb, 0, none⟩) (n + 1) lc) (List.range (n + 1)) ∧ NodeL (· < w.heap.size) encN W (.slice (some ⟨b1, o1, none⟩) (n + 1) nc) Fs from by
      have hb1' : b1 < w.heap.size := hb1
      exact ⟨⟨f.cell d1 (fun e => by have e : b1 = ob := e; omega), f.cell d2 (fun e => by have e : b1 = ob := e; omega)⟩, n1.fr f (fun h q hq e => by have h1 := m1 h q hq; omega), n2.fr f (fun h q hq e => by have h1 := m2 h q hq; omega), f.cell k0' (fun e => by have e : w.heap.size = ob := e; omega), hrow.fr f (fun q hq e => by have h1 := (hrow.own.lt q hq).1; have h2 := HObl.out; omega), hN4.fr f (fun k hk e => by have hk : k < w.heap.size := hk; omega)⟩)
    have HP := Lib.hid (fun (W : World) (f : Fr (fun q => q = ob) w4 W) => hP4.fr f (fun q hq e => hMo (e ▸ hq)) (fun q hq e => hIo (e ▸ hq)))
    have HMo := Lib.hid hMo; have HIo := Lib.hid hIo; have HM := Lib.hid hM; have HI := Lib.hid hI; have F4 := Lib.hid f4; have F14 := Lib.hid f14; have HMp4 := Lib.hid hmp4; have HOb4 := Lib.hid hob4; have HObw := Lib.hid hobw; have HN120 := Lib.hid hn120
    have HY1 := Lib.hid hy1; have HY2 := Lib.hid hy2; have HY3' := Lib.hid hy3; have Hn := Lib.hid hn; have HLb := Lib.hid hlb
    have HBc := Lib.hid (HQ4.out.book)
    clear hMo hIo hM hI f4 f14 hmp4 hob4 hobw hrow hN4 hnn n1 n2 m1 m2 k0' k1' z1' k0 k1 z1 d1 d2 hP4 hyn hb1 hnm hlb hy1 hy2 hy3 hn120
    obtain ⟨⟨c1, c2⟩, _, _, c0, crow, _⟩ := HR.out w4 (Fr.refl _ _)
    obtain ⟨_, _, ee, _, _, hrc⟩ := id crow.nats
    obtain ⟨rfl, hz, rfl⟩ := Value.slice.inj ee
    clear ee hz
    obtain ⟨_, _, ra1, rcell⟩ := hrc n n (List.getElem?_range (Nat.lt_succ_self n))
    cases ra1
    rw [Nat.zero_add] at rcell
    unfold encN at rcell
    have ixr := ixInts (some ⟨lb, 0, none⟩) (n + 1) lc n lb 0 (Nat.lt_succ_self n) rfl
    rw [Nat.zero_add] at ixr
    have hwr : IntKind.i64.wrap ((n : Nat) : Int) = (n : Int) := by rw [IntKind.wrap_i64]; have := HN120.out; omega
    clear hn hrc crow
    go_upto_region 7 with fail
    have HTop := Lib.hid (fun (W : World) (f : Fr (fun q => q = ob) w4 W) => top_is b1 o1 (n + 1) n nc la ra L.length lac R'.length rac W rfl (by have := HN120.out; omega) (HR.out W f).1.1 (HR.out W f).1.2)
    have hAtL : atAll (List.range (n + 1)) L = L := atAll_range' (fun x hx => by have := HY1.out x hx; have := Hn.out; omega)
    have hAtR : atAll (List.range (n + 1)) R' = R' := atAll_range' (fun x hx => by have := HY2.out x hx; have := Hn.out; omega)
    have HRenL := Lib.hid (fun (W : World) (f : Fr (fun q => q = ob) w4 W) => by
      have h := renamed_any (.slice la L.length lac) (.slice (some ⟨lb, 0, none⟩) (n + 1) lc) L (List.range (n + 1)) W (HR.out W f).2.1 (HR.out W f).2.2.2.2.1.nats (fun x hx => by rw [List.length_range]; have := HY1.out x hx; have := Hn.out; omega) (by have := HY3'.out; omega)
      rw [hAtL] at h
      exact h)
    have HRenR := Lib.hid (fun (W : World) (f : Fr (fun q => q = ob) w4 W) => by
      have h := renamed_any (.slice ra R'.length rac) (.slice (some ⟨lb, 0, none⟩) (n + 1) lc) R' (List.range (n + 1)) W (HR.out W f).2.2.1 (HR.out W f).2.2.2.2.1.nats (fun x hx => by rw [List.length_range]; have := HY2.out x hx; have := Hn.out; omega) (by have := HY3'.out; omega)
      rw [hAtR] at h
      exact h)
    clear hAtL hAtR
    have fld0 : ∀ w : World, (Instr.field 100 (.agg #[.slice la L.length lac, .slice ra R'.length rac]) 0).run Tryz.prog w = .ok (.slice la L.length lac) w := fun _ => by kernel_rfl
    have fld1 : ∀ w : World, (Instr.field 100 (.agg #[.slice la L.length lac, .slice ra R'.length rac]) 1).run Tryz.prog w = .ok (.slice ra R'.length rac) w := fun _ => by kernel_rfl
    have hs := HR.out w4 (Fr.refl _ _)
    have hs0 := hs.2.2.2.1
    clear hs c0 c1 c2 ixr rcell hwr
    go_cut [8, 9] from 32 to 41 (fun a b W => ∃ g1 g2 : Nat, a = .slice (some ⟨g1, 0, none⟩) L.length L.length ∧ b = .slice (some ⟨g2, 0, none⟩) R'.length R'.length ∧ RowIs 3 encN W g1 L ∧ RowIs 3 encN W g2 R' ∧ w4.heap.size ≤ g1 ∧ w4.heap.size ≤ g2 ∧ Fr NoM w4 W)
    case first =>
      have K0 : Fr NoM w4 w4.drew := (Fr.refl NoM w4).drew
      go_region_held3 (fun (W : World) => W.cell? ⟨w.heap.size, 0, none⟩ = some (.slice (some ⟨b1, o1, none⟩) (n + 1) nc))
        (first | exact (HR.out _ (Fr.any (by assumption))).2.2.2.1)
        (first
          | (go_at_call 114; (with_reducible refine (HTop.out _ (Fr.any (by assumption))).mono ?_); rintro e wt ⟨rfl, ft⟩; have kt : Fr NoM w4 wt := Fr.trans (by assumption) ft (fun _ _ q => q); (try (have r1' := RowIs.fr (L := L) (by assumption) ft (fun q => q))))
          | (go_at_call 113; (with_reducible refine (HRenL.out _ (Fr.any (by assumption))).mono ?_); rintro e wa ⟨rfl, r1, fa⟩; have ga : Fr NoM w4 wa := Fr.trans (by assumption) fa (fun _ _ q => q); have sa := kt.size)
          | (go_at_call 113; (with_reducible refine (HRenR.out _ (Fr.any (by assumption))).mono ?_); rintro e wb ⟨rfl, r2, fb⟩; have gb : Fr NoM w4 wb := Fr.trans (by assumption) fb (fun _ _ q => q); have sb := kt.size; (try (have r1'' := RowIs.fr (L := L) (by assumption) fb (fun q => q))))
          | fail)
      all_goals
        have HE := Lib.hid (And.intro r1'' (And.intro r2 (And.intro sa (And.intro sb gb))))
        clear r1'' r2 sa sb gb
        go_wp2_with fail
        go_meet
        case rel => exact ⟨_, _, rfl, rfl, HE.out.1, HE.out.2.1, HE.out.2.2.1, HE.out.2.2.2.1, HE.out.2.2.2.2⟩
    case rest =>
    obtain ⟨g1, g2, rfl, rfl, hr1, hr2, hg1, hg2, f48⟩ := hcut
    obtain ⟨w8, rfl⟩ : ∃ w8, w8 = wc := ⟨_, rfl⟩
    have HG1 := Lib.hid (fun (W : World) (f : Fr (fun q => q = ob) w8 W) => hr1.fr f (fun e => by have e : g1 = ob := e; have := HOb4.out; omega))
    have HG2 := Lib.hid (fun (W : World) (f : Fr (fun q => q = ob) w8 W) => hr2.fr f (fun e => by have e : g2 = ob := e; have := HOb4.out; omega))
    have HG1l := Lib.hid hg1; have HG2l := Lib.hid hg2; have F48 := Lib.hid f48
    have HMp8 := Lib.hid (HMp4.out.fr f48 (fun q => q))
    clear hr1 hr2 hg1 hg2 f48
    obtain ⟨_, _, _, c0, _, _⟩ := HR.out w8 F48.out.any
    have hy3l := HY3'.out.1
    have hy3r := HY3'.out.2
    go_wp2_with fail
    refine (HTop.out w8 F48.out.any).mono ?_
    rintro e w9 ⟨rfl, f9⟩
    have F9 := Lib.hid (F48.out.trans f9 (fun _ _ q => q))
    have F89 := Lib.hid f9
    clear f9 c0
    go_wp2_with fail
    have hnF : n < Fs.length := by have := Hn.out; omega
    have HnF := Lib.hid hnF
    clear hnF
    go_loopw [46] (fun t W => ∃ (k : Nat) (f1 : Nat × Nat → Option Bool), t = .int .i64 k ∧ k ≤ L.length ∧ (∀ i, i < k → ((nodeV Fs (L.getD i 0)).2).find? (gR (codesOf Fs) n) = none) ∧ MapF encP encB W ob f1 ∧ OrdF (codesOf Fs) f1 ∧ Fr (fun q => q = ob) w8 W) (fun t _ => L.length - (intOf t).toNat)
    case atStart => exact ⟨0, _, rfl, Nat.zero_le _, fun i hi => by omega, HMp8.out.fr F89.out (fun q => q), OrdF.none _, F89.out.any⟩
    case round =>
      obtain ⟨k, f1, rfl, hk, hno, hf1, ho1, hfr⟩ := hrel
      obtain ⟨w10, rfl⟩ : ∃ w10, w10 = wr := ⟨_, rfl⟩
      have F10 := Lib.hid (F48.out.any.trans hfr (fun _ _ q => q))
      have HF1' := Lib.hid hf1; have HO1' := Lib.hid ho1; have HFr := Lib.hid hfr; have HNo := Lib.hid hno
      clear hf1 ho1 hfr hno
      obtain ⟨_, nl, nr, c0, crow, cnode⟩ := HR.out w10 F10.out
      by_cases hkl : k < L.length
      · obtain ⟨x, hx⟩ : ∃ x, L[k]? = some x := ⟨_, List.getElem?_eq_getElem hkl⟩
        have hxn : x < n := by have := HY1.out x (List.mem_of_getElem? hx); have := Hn.out; omega
        have hxd : L.getD k 0 = x := by rw [List.getD_eq_getElem?_getD, hx]; rfl
        obtain ⟨_, _, ee, _, _, hcc⟩ := id nl
        cases ee
        obtain ⟨b2, o2, ha2, d2⟩ := hcc k x hx
        have ix2 := ixInts la L.length lac k b2 o2 hkl ha2
        unfold encN at d2
        obtain ⟨_, _, ee, _, _, hrc⟩ := id crow.nats
        obtain ⟨rfl, hz, rfl⟩ := Value.slice.inj ee
        clear ee hz
        obtain ⟨_, _, ra1, rcell⟩ := hrc x x (List.getElem?_range (by omega))
        cases ra1
        rw [Nat.zero_add] at rcell
        unfold encN at rcell
        have ixr := ixInts (some ⟨lb, 0, none⟩) (n + 1) lc x lb 0 (by omega) rfl
        rw [Nat.zero_add] at ixr
        obtain ⟨_, _, ee, _, _, hnn⟩ := id cnode
        obtain ⟨rfl, hz, rfl⟩ := Value.slice.inj ee
        clear ee hz
        obtain ⟨b3, o3, zl, zr, hba, hb3, e1, e2, s1, s2, q1, q2⟩ := hnn x _ (node_at (show x < Fs.length by have := Hn.out; omega))
        cases hba
        have ixn := ixNode (some ⟨b1, o1, none⟩) (n + 1) nc x b1 o1 (by omega) rfl
        obtain ⟨pz1, pz2⟩ := HQ4.out.opts _ _ (node_at (show x < Fs.length by have := Hn.out; omega))
        have pz3 := HY3.out _ (nodeV_mem (show x < Fs.length by have := Hn.out; omega))
        obtain ⟨⟨ZL, ZR⟩, hZ⟩ : ∃ t, t = nodeV Fs x := ⟨_, rfl⟩
        rw [← hZ] at s1 s2 q1 q2 pz1 pz2 pz3
        dsimp only at s1 s2 q1 q2 pz1 pz2 pz3
        obtain ⟨za, zc, rfl, z⟩ := id s2
        clear z
        have HS := Lib.hid (fun (W : World) (f : Fr (fun q => q = ob) w10 W) => (⟨f.cell rcell (fun e => by have e : lb = ob := e; have h1 := HLb.out; have h2 := HObl.out; omega), f.cell e2 (fun e => by have e : b1 = ob := e; have hb : b1 < w.heap.size := hb3; have h2 := HObw.out; omega)⟩ : W.cell? ⟨lb, x, none⟩ = some (.int .i64 (x : Int)) ∧ W.cell? ⟨b1, o1 + x * 2 + 1, none⟩ = some (.slice za ZR.length zc)))
        have hAt : atAll (List.range (n + 1)) ZR = ZR := atAll_range' (fun x hx => by have := pz2 x hx; omega)
        have HRen := Lib.hid (fun (W : World) (f : Fr (fun q => q = ob) w10 W) => by
          have h := renamed_any (.slice za ZR.length zc) (.slice (some ⟨lb, 0, none⟩) (n + 1) lc) ZR (List.range (n + 1)) W (s2.fr f (fun h q hq e => by have h1 := q2 h q hq; have h2 := HObw.out; omega)) (HR.out W (F10.out.trans f (fun _ _ q => q))).2.2.2.2.1.nats (fun x hx => by rw [List.length_range]; have := pz2 x hx; omega) (by omega)
          rw [hAt] at h
          exact h)
        have HThr := Lib.hid (fun (W : World) (g3 : Nat) (f : Fr NoM w10 W) (hr : RowIs 3 encN W g3 ZR) (hg3 : w10.heap.size ≤ g3) => through_any HBc.out pb ob mc ms mn HMo.out HIo.out true (gR (codesOf Fs)) rfl n x (.slice (some ⟨g3, 0, none⟩) ZR.length ZR.length) ZR f1 W (HP.out W (F10.out.trans f (fun _ _ q => q.elim))) (HF1'.out.fr f (fun q => q)) HO1'.out HnF.out (hr.slice (by omega)) (fun _ q hq e => by cases hq; have e : g3 = ob := e; have h1 := HF1'.out.lt; omega) (fun z hz => by have := pz2 z hz; have := HnF.out; omega))
        have HX := Lib.hid hxd; have HXn := Lib.hid hxn; have HZe := Lib.hid hZ; have HPz := Lib.hid pz2
        have hs := HS.out w10 (Fr.refl _ _)
        clear hAt s1 s2 q1 q2 pz1 pz2 pz3 hZ hx hxd ha2 hb3 e1 e2 hcc hrc hnn nl nr crow cnode rcell hxn c0
        go_upto_region 11 with fail
        have K0 : Fr NoM w10 w10.drew := (Fr.refl NoM w10).drew
        have J0 : Fr (fun q => q = ob) w10 w10.drew := K0.any
        go_region_held3 (fun (W : World) => W.cell? ⟨lb, x, none⟩ = some (.int .i64 (x : Int)) ∧ W.cell? ⟨b1, o1 + x * 2 + 1, none⟩ = some (.slice za ZR.length zc))
          (first | exact HS.out _ (by assumption))
          (first
            | (go_at_call 113; (with_reducible refine (HRen.out _ (by assumption)).mono ?_); rintro e wa ⟨rfl, r1, fa⟩; (try simp only [World.size_drew] at r1); have ka : Fr NoM w10 wa := Fr.trans (by assumption) fa (fun _ _ q => q); have ja : Fr (fun q => q = ob) w10 wa := ka.any)
            | (go_at_call 115; (with_reducible refine (HThr.out wa w10.heap.size ka r1 (Nat.le_refl _)).mono ?_); rintro e wb ⟨rfl, f2, hf2, ho2, fb⟩; have jb : Fr (fun q => q = ob) w10 wb := ja.trans fb (fun _ _ q => q))
            | fail)
        all_goals
          obtain ⟨an, han⟩ : ∃ an, an = ZR.find? (gR (codesOf Fs) n) := ⟨_, rfl⟩
          rw [← han]
          have HF2' := Lib.hid hf2; have HO2' := Lib.hid ho2; have JB := Lib.hid jb
          clear hf2 ho2 jb fb ja ka r1 fa K0 J0 hs HThr HRen d2 ix2 ixr ixn
          cases an with
          | none =>
            have hnx : ∀ i, i < k + 1 → ((nodeV Fs (L.getD i 0)).2).find? (gR (codesOf Fs) n) = none := fun i hi => by
              by_cases e : i = k
              · rw [e, HX.out, ← HZe.out]; exact han.symm
              · exact HNo.out i (by omega)
            have HNx := Lib.hid hnx
            rw [show thrI none = -1 from rfl]
            clear hnx han
            go_wp2_with fail
            go_roundw
            case rel => exact ⟨k + 1, f2, by go_num, by omega, HNx.out, HF2'.out, HO2'.out, HFr.out.trans JB.out (fun _ _ q => q)⟩
            case measure => simp [intOf]; omega
          | some z =>
            have hhit := byp1_hit (g := gR (codesOf Fs)) (opt := fun y => (nodeV Fs y).2) (r := n) hkl HNo.out (by
              show ((nodeV Fs (L.getD k 0)).2).find? (gR (codesOf Fs) n) = some z
              rw [HX.out, ← HZe.out]; exact han.symm)
            have hzx : z < x := HPz.out z (List.mem_of_find?_eq_some han.symm)
            have hzF : z < Fs.length := by have := HXn.out; have := HnF.out; omega
            have hq : bypQ Fs = some (withoutL L [k] ++ (nodeV Fs z).1, R') := by
              unfold bypQ
              rw [show Fs.length - 1 = n from by have := Hn.out; omega]
              have e : nodeV Fs n = (L, R') := by have h := HYv.out; rw [show Fs.length - 1 = n from by have := Hn.out; omega] at h; exact h
              rw [e]
              exact bypP_left hhit
            have HQ := Lib.hid hq
            rw [show thrI (some z) = (z : Int) from rfl]
            clear hhit han hq
            go_upto_region 13 with fail
            have hPb := HP.out wb (F10.out.trans JB.out (fun _ _ q => q))
            obtain ⟨pla, plc, pra, prc, e0, _, _, _, _, _, hls, _⟩ := hPb.rd
            obtain ⟨b4, o4, v4, hpla, e4, n4, _⟩ := hls z hzF
            subst hpla
            obtain ⟨va4, vc4, rfl, zz⟩ := id n4
            clear zz hls
            have ix4 := ixLists (some ⟨b4, o4, none⟩) Fs.length plc z b4 o4 hzF rfl
            have JJ := Lib.hid (show Fr (fun q => q = ob) w8 wb from HFr.out.trans JB.out (fun _ _ q => q))
            have HPw := Lib.hid hPb; have HN4 := Lib.hid n4
            have HZl := Lib.hid (HY3.out _ (nodeV_mem hzF))
            have hHW := fun (W : World) (f : Fr NoM wb W) (pv : Value) (hp : Nats W pv [k]) => without_any (.slice (some ⟨g1, 0, none⟩) L.length L.length) pv L [k] W ((RowIs.fr (HG1.out wb JJ.out) f (fun q => q)).slice (by have := HY3'.out; omega)) hp (List.pairwise_singleton _ _) (by have := HY3'.out; omega)
            have HHW := Lib.hid hHW
            have HPk := Lib.hid (show Nats (wb.alloc (.cells #[.int .i64 (k : Int)] 3)).drew (.slice (some ⟨wb.heap.size, 0, none⟩) 1 1) [k] from (SliceOf.one encN wb k 3).fr0 ((Fr.refl NoM _).drew))
            have C0 : ∀ o, (wb.alloc o).cell? ⟨pb, 0, none⟩ = some (.slice (some ⟨b4, o4, none⟩) Fs.length plc) := fun o => ((Fr.refl NoM wb).alloc o).cell e0 (fun q => q)
            have C4 : ∀ o, (wb.alloc o).cell? ⟨b4, o4 + z, none⟩ = some (.slice va4 (nodeV Fs z).1.length vc4) := fun o => ((Fr.refl NoM wb).alloc o).cell e4 (fun q => q)
            have G0 : Fr NoM wb (wb.alloc (.cells #[.int .i64 (k : Int)] 3)).drew := ((Fr.refl NoM wb).alloc _).drew
            obtain ⟨x1, x2, x3, x4⟩ := bypQ_lt HGd.out HQ.out
            dsimp only at x1 x2 x3 x4
            obtain ⟨l', hl'⟩ : ∃ l', l' = withoutL L [k] ++ (nodeV Fs z).1 := ⟨_, rfl⟩
            rw [← hl'] at x1 x3
            have hbp : bypF Fs = formB (poolPut Fs (bornsF Fs) l' R').1 (poolPut Fs (bornsF Fs) l' R').2.1 (poolPut Fs (bornsF Fs) l' R').2.2 := by
              unfold bypF
              rw [HQ.out, hl']
            obtain ⟨p1, p2⟩ := poolPut_ok HQ4.out (L := l') (R := R') x1 x2
            obtain ⟨q1, q2, _⟩ := poolPut_lt Fs (bornsF Fs) l' R'
            have hNode := fun (b c : Nat) (W : World) (f : Fr NoM wb W) (hn : NRow wb.heap.size W (.slice (some ⟨b, 0, none⟩) l'.length c) l') => node_any pb Fs (bornsF Fs) l' R' (.map (some ob)) mc ms mn b 0 c g2 0 R'.length W (HPw.out.fr0 f) hn.nats ((RowIs.fr (HG2.out wb JJ.out) f (fun q => q)).slice (by omega)) x1 x2 (by omega) (by omega) (by have := HQ2.out; omega) (fun x hx => by have := (bookOK_of HQ4.out).lt Fs.length (Nat.le_refl _) x hx; have := HQ2.out; omega)
            obtain ⟨V', hV'⟩ : ∃ V', V' = (poolPut Fs (bornsF Fs) l' R').1 := ⟨_, rfl⟩
            obtain ⟨B', hB'⟩ : ∃ B', B' = (poolPut Fs (bornsF Fs) l' R').2.1 := ⟨_, rfl⟩
            obtain ⟨r0, hr0⟩ : ∃ r0, r0 = (poolPut Fs (bornsF Fs) l' R').2.2 := ⟨_, rfl⟩
            rw [← hV', ← hB', ← hr0] at hNode hbp
            rw [← hV', ← hB'] at p1
            rw [← hV', ← hr0] at q1
            rw [← hV'] at q2
            have hokE : fitsB (formB V' B' r0) = ok := by
              have h := HOk.out
              rw [natF_i2, hbp] at h
              rw [h]; rfl
            have HOkE := Lib.hid hokE; have HBp := Lib.hid hbp; have HNode := Lib.hid hNode; have HPo := Lib.hid p1; have HPq := Lib.hid q1; have HPl := Lib.hid q2; have HL' := Lib.hid hl'
            have f1b : Fr NoM w1 wb := F14.out.trans (F10.out.trans JB.out (fun _ _ q => q)) (fun q hq e => by have h1 := HOb.out; have h2 := HF2.out.size; omega)
            have HMge := Lib.hid (fun q (hq : M q) => show w1.heap.size ≤ q from by
              have h1 := HPb.out
              have h2 := HF2.out.size
              have h3 := HF23.out.size
              rcases (HM.out q hq).1 with h | h
              · rcases h.1 with e | e
                · exact Nat.le_trans h2 (Nat.le_of_eq e.symm)
                · have e : q = pb := e
                  omega
              · omega)
            have F1b := Lib.hid f1b
            clear hPb n4 hHW hzx x1 x2 x3 x4 hl' hbp p1 p2 q1 q2 hNode hV' hB' hr0 hokE f1b
            go_region_law (first
              | (refine step_appN wb kd rfl (.tmp 72) (.tmp 79) rfl (.slice (some ⟨b5, 0, none⟩) (withoutL L [k]).length c5) (withoutL L [k]) rfl hnd' (.slice va4 (nodeV Fs z).1.length vc4) rfl (nodeV Fs z).1 (HN4.out.fr0 kd) (by have h1 := withoutL_len L [k]; have h2 := HY3'.out; have h3 := HZl.out; omega) ?_; rw [← HL'.out]; intro b6 c6 w11 hn6 f6)
              | (go_simp; first
                | (go_at_call 110; (with_reducible refine (HHW.out _ G0 _ HPk.out).mono ?_); rintro e wd ⟨vd, rfl, hnd, fd⟩; obtain ⟨b5, c5, rfl⟩ := hnd.shape; have kd : Fr NoM wb wd := G0.trans fd (fun _ _ q => q); have e0d := kd.cell e0 (fun q => q); have e4d := kd.cell e4 (fun q => q); have hnd' : NRow wb.heap.size wd (.slice (some ⟨b5, 0, none⟩) (withoutL L [k]).length c5) (withoutL L [k]) := ⟨owns_base hnd.own (by simp only [World.size_drew, World.size_alloc]; omega), hnd.shape⟩)
                | (go_at_call 109; (with_reducible refine (HNode.out b6 c6 w11 f6 hn6).mono ?_); rintro e w12 ⟨rfl, M7, I7, hp7, _, _, f7⟩; have f112 : Fr NoM w1 w12 := (F1b.out.trans f6 (fun _ _ q => q)).trans f7 (fun q hq h => by have := HMge.out q h; omega))
                | (go_at_call 79; (with_reducible refine (pform_any pb r0 V' B' (.map (some ob)) mc ms mn w12 hp7 HPo.out HPq.out (by have := HPl.out; have := HQ2.out; omega)).mono ?_); rintro e w13 ⟨nv, okf, FN, rfl, hres, hns, f8⟩; obtain ⟨an, cn, rfl, zz⟩ := id hns.nodeL; clear zz; have f113 : Fr NoM w1 w13 := f112.trans f8 (fun _ _ q => q); have r13 := (HK.out w13 f113).2; have r13a := r13.1; have r13b := r13.2)
                | fail)
              | fail)
            all_goals
              obtain ⟨h1, h2⟩ := FormRes.is HPo.out HPq.out hres
              rw [HOkE.out] at h1
              have HNs := Lib.hid hns
              have HFe := Lib.hid f113
              have HZf := Lib.hid (show w.heap.size + 2 ≤ w12.heap.size from by have := f112.size; have := HS1.out; omega)
              clear hns f113 f112 f8 f7 f6 hres hp7 hn6 fd kd hnd hnd' e0 e4 e0d e4d C0 C4 G0 ix4
              cases ok with
              | true =>
                have hk : okf = true := h1
                subst hk
                have hF : FN = formB V' B' r0 := by simpa using h2
                have HFN := Lib.hid hF
                clear h1 h2 hF
                go_wp2_with fail
                refine bodyPost_ret (v := .tuple #[.agg #[.slice an FN.length cn], .bool true]) (by simp [results, Tryz.results42, go_sem, r13a]) rfl ?_
                refine ⟨_, rfl, ?_, (HF1.out.trans HFe.out (fun _ _ q => q)).setCell ⟨w.heap.size + 1, 0, none⟩ _ (fun h => by have h : w.heap.size + 1 < w.heap.size := h; omega)⟩
                have hn := (HNs.out.fr (Fr.set w13 ⟨w.heap.size + 1, 0, none⟩ (.slice an FN.length cn)) (fun q hq _ e => by have e : q = w.heap.size + 1 := e; have := HZf.out; omega)).base (D' := w.heap.size) (by have := HZf.out; omega)
                show NodesS _ _ _ (bypF (natF (i2 Fs)))
                rw [natF_i2, HBp.out, ← HFN.out]
                exact hn
              | false =>
                have hk : okf = false := h1
                subst hk
                have hF : FN = [] := by simpa using h2
                have HFN := Lib.hid hF
                clear h1 h2 hF
                go_wp2_with fail
                refine bodyPost_ret (v := .tuple #[.agg #[.slice an FN.length cn], .bool false]) (by simp [results, Tryz.results42, go_sem, r13a]) rfl ?_
                refine ⟨_, rfl, ?_, (HF1.out.trans HFe.out (fun _ _ q => q)).setCell ⟨w.heap.size + 1, 0, none⟩ _ (fun h => by have h : w.heap.size + 1 < w.heap.size := h; omega)⟩
                have hn := (HNs.out.fr (Fr.set w13 ⟨w.heap.size + 1, 0, none⟩ (.slice an FN.length cn)) (fun q hq _ e => by have e : q = w.heap.size + 1 := e; have := HZf.out; omega)).base (D' := w.heap.size) (by have := HZf.out; omega)
                show NodesS _ _ _ []
                rw [← HFN.out]
                exact hn
      · have h0 := byp1_miss (g := gR (codesOf Fs)) (opt := fun y => (nodeV Fs y).2) (r := n) (L := L) (fun i hi => HNo.out i (by omega))
        have H0 := Lib.hid h0
        clear h0 nl nr crow cnode
        go_wp2_with fail
        refine (HTop.out w10 F10.out).mono ?_
        rintro e w11 ⟨rfl, f11⟩
        have F11 := Lib.hid f11
        clear f11 c0
        go_wp2_with fail
        go_loopw [91] (fun t W => ∃ (k2 : Nat) (f1 : Nat × Nat → Option Bool), t = .int .i64 k2 ∧ k2 ≤ R'.length ∧ (∀ i, i < k2 → ((nodeV Fs (R'.getD i 0)).1).find? (gL (codesOf Fs) n) = none) ∧ MapF encP encB W ob f1 ∧ OrdF (codesOf Fs) f1 ∧ Fr (fun q => q = ob) w8 W) (fun t _ => R'.length - (intOf t).toNat)
        case atStart => exact ⟨0, f1, rfl, Nat.zero_le _, fun i hi => by omega, HF1'.out.fr F11.out (fun q => q), HO1'.out, HFr.out.trans F11.out.any (fun _ _ q => q)⟩
        case round =>
          obtain ⟨k2, f2', rfl, hk, hno, hf1, ho1, hfr⟩ := hrel
          clear HF1' HO1' HFr HNo F10 F11
          obtain ⟨w20, rfl⟩ : ∃ w20, w20 = wr := ⟨_, rfl⟩
          have F10 := Lib.hid (F48.out.any.trans hfr (fun _ _ q => q))
          have HF1' := Lib.hid hf1; have HO1' := Lib.hid ho1; have HFr := Lib.hid hfr; have HNo := Lib.hid hno
          clear hf1 ho1 hfr hno
          obtain ⟨_, nl, nr, c0, crow, cnode⟩ := HR.out w20 F10.out
          by_cases hkl : k2 < R'.length
          · obtain ⟨x, hx⟩ : ∃ x, R'[k2]? = some x := ⟨_, List.getElem?_eq_getElem hkl⟩
            have hxn : x < n := by have := HY2.out x (List.mem_of_getElem? hx); have := Hn.out; omega
            have hxd : R'.getD k2 0 = x := by rw [List.getD_eq_getElem?_getD, hx]; rfl
            obtain ⟨_, _, ee, _, _, hcc⟩ := id nr
            cases ee
            obtain ⟨b2, o2, ha2, d2⟩ := hcc k2 x hx
            have ix2 := ixInts ra R'.length rac k2 b2 o2 hkl ha2
            unfold encN at d2
            obtain ⟨_, _, ee, _, _, hrc⟩ := id crow.nats
            obtain ⟨rfl, hz, rfl⟩ := Value.slice.inj ee
            clear ee hz
            obtain ⟨_, _, ra1, rcell⟩ := hrc x x (List.getElem?_range (by omega))
            cases ra1
            rw [Nat.zero_add] at rcell
            unfold encN at rcell
            have ixr := ixInts (some ⟨lb, 0, none⟩) (n + 1) lc x lb 0 (by omega) rfl
            rw [Nat.zero_add] at ixr
            obtain ⟨_, _, ee, _, _, hnn⟩ := id cnode
            obtain ⟨rfl, hz, rfl⟩ := Value.slice.inj ee
            clear ee hz
            obtain ⟨b3, o3, zl, zr, hba, hb3, e1, e2, s1, s2, q1, q2⟩ := hnn x _ (node_at (show x < Fs.length by have := Hn.out; omega))
            cases hba
            have ixn := ixNode (some ⟨b1, o1, none⟩) (n + 1) nc x b1 o1 (by omega) rfl
            obtain ⟨pz1, pz2⟩ := HQ4.out.opts _ _ (node_at (show x < Fs.length by have := Hn.out; omega))
            have pz3 := HY3.out _ (nodeV_mem (show x < Fs.length by have := Hn.out; omega))
            obtain ⟨⟨ZL, ZR⟩, hZ⟩ : ∃ t, t = nodeV Fs x := ⟨_, rfl⟩
            rw [← hZ] at s1 s2 q1 q2 pz1 pz2 pz3
            dsimp only at s1 s2 q1 q2 pz1 pz2 pz3
            obtain ⟨za, zc, rfl, z⟩ := id s1
            clear z
            have HS := Lib.hid (fun (W : World) (f : Fr (fun q => q = ob) w20 W) => (⟨f.cell rcell (fun e => by have e : lb = ob := e; have h1 := HLb.out; have h2 := HObl.out; omega), f.cell e1 (fun e => by have e : b1 = ob := e; have hb : b1 < w.heap.size := hb3; have h2 := HObw.out; omega)⟩ : W.cell? ⟨lb, x, none⟩ = some (.int .i64 (x : Int)) ∧ W.cell? ⟨b1, o1 + x * 2, none⟩ = some (.slice za ZL.length zc)))
            have hAt : atAll (List.range (n + 1)) ZL = ZL := atAll_range' (fun x hx => by have := pz1 x hx; omega)
            have HRen := Lib.hid (fun (W : World) (f : Fr (fun q => q = ob) w20 W) => by
              have h := renamed_any (.slice za ZL.length zc) (.slice (some ⟨lb, 0, none⟩) (n + 1) lc) ZL (List.range (n + 1)) W (s1.fr f (fun h q hq e => by have h1 := q1 h q hq; have h2 := HObw.out; omega)) (HR.out W (F10.out.trans f (fun _ _ q => q))).2.2.2.2.1.nats (fun x hx => by rw [List.length_range]; have := pz1 x hx; omega) (by omega)
              rw [hAt] at h
              exact h)
            have HThr := Lib.hid (fun (W : World) (g3 : Nat) (f : Fr NoM w20 W) (hr : RowIs 3 encN W g3 ZL) (hg3 : w20.heap.size ≤ g3) => through_any HBc.out pb ob mc ms mn HMo.out HIo.out false (gL (codesOf Fs)) rfl n x (.slice (some ⟨g3, 0, none⟩) ZL.length ZL.length) ZL f2' W (HP.out W (F10.out.trans f (fun _ _ q => q.elim))) (HF1'.out.fr f (fun q => q)) HO1'.out HnF.out (hr.slice (by omega)) (fun _ q hq e => by cases hq; have e : g3 = ob := e; have h1 := HF1'.out.lt; omega) (fun z hz => by have := pz1 z hz; have := HnF.out; omega))
            have HX := Lib.hid hxd; have HXn := Lib.hid hxn; have HZe := Lib.hid hZ; have HPz := Lib.hid pz1
            have hs := HS.out w20 (Fr.refl _ _)
            clear hAt s1 s2 q1 q2 pz1 pz2 pz3 hZ hx hxd ha2 hb3 e1 e2 hcc hrc hnn nl nr crow cnode rcell hxn c0
            go_upto_region 18 with fail
            have K0 : Fr NoM w20 w20.drew := (Fr.refl NoM w20).drew
            have J0 : Fr (fun q => q = ob) w20 w20.drew := K0.any
            go_region_held3 (fun (W : World) => W.cell? ⟨lb, x, none⟩ = some (.int .i64 (x : Int)) ∧ W.cell? ⟨b1, o1 + x * 2, none⟩ = some (.slice za ZL.length zc))
              (first | exact HS.out _ (by assumption))
              (first
                | (go_at_call 113; (with_reducible refine (HRen.out _ (by assumption)).mono ?_); rintro e wa ⟨rfl, r1, fa⟩; (try simp only [World.size_drew] at r1); have ka : Fr NoM w20 wa := Fr.trans (by assumption) fa (fun _ _ q => q); have ja : Fr (fun q => q = ob) w20 wa := ka.any)
                | (go_at_call 115; (with_reducible refine (HThr.out wa w20.heap.size ka r1 (Nat.le_refl _)).mono ?_); rintro e wb ⟨rfl, f2, hf2, ho2, fb⟩; have jb : Fr (fun q => q = ob) w20 wb := ja.trans fb (fun _ _ q => q))
                | fail)
            all_goals
              obtain ⟨an, han⟩ : ∃ an, an = ZL.find? (gL (codesOf Fs) n) := ⟨_, rfl⟩
              rw [← han]
              have HF2' := Lib.hid hf2; have HO2' := Lib.hid ho2; have JB := Lib.hid jb
              clear hf2 ho2 jb fb ja ka r1 fa K0 J0 hs HThr HRen d2 ix2 ixr ixn
              cases an with
              | none =>
                have hnx : ∀ i, i < k2 + 1 → ((nodeV Fs (R'.getD i 0)).1).find? (gL (codesOf Fs) n) = none := fun i hi => by
                  by_cases e : i = k2
                  · rw [e, HX.out, ← HZe.out]; exact han.symm
                  · exact HNo.out i (by omega)
                have HNx := Lib.hid hnx
                rw [show thrI none = -1 from rfl]
                clear hnx han
                go_wp2_with fail
                go_roundw
                case rel => exact ⟨k2 + 1, f2, by go_num, by omega, HNx.out, HF2'.out, HO2'.out, HFr.out.trans JB.out (fun _ _ q => q)⟩
                case measure => simp [intOf]; omega
              | some z =>
                have hhit := byp1_hit (g := gL (codesOf Fs)) (opt := fun y => (nodeV Fs y).1) (r := n) hkl HNo.out (by
                  show ((nodeV Fs (R'.getD k2 0)).1).find? (gL (codesOf Fs) n) = some z
                  rw [HX.out, ← HZe.out]; exact han.symm)
                have hzx : z < x := HPz.out z (List.mem_of_find?_eq_some han.symm)
                have hzF : z < Fs.length := by have := HXn.out; have := HnF.out; omega
                have hq : bypQ Fs = some (L, withoutL R' [k2] ++ (nodeV Fs z).2) := by
                  unfold bypQ
                  rw [show Fs.length - 1 = n from by have := Hn.out; omega]
                  have e : nodeV Fs n = (L, R') := by have h := HYv.out; rw [show Fs.length - 1 = n from by have := Hn.out; omega] at h; exact h
                  rw [e]
                  exact bypP_right H0.out hhit
                have HQ := Lib.hid hq
                rw [show thrI (some z) = (z : Int) from rfl]
                clear hhit han hq
                go_upto_region 20 with fail
                have hPb := HP.out wb (F10.out.trans JB.out (fun _ _ q => q))
                obtain ⟨pla, plc, pra, prc, _, e0, _, _, _, _, _, hls⟩ := hPb.rd
                obtain ⟨b4, o4, v4, hpra, e4, n4, _⟩ := hls z hzF
                subst hpra
                obtain ⟨va4, vc4, rfl, zz⟩ := id n4
                clear zz hls
                have ix4 := ixLists (some ⟨b4, o4, none⟩) Fs.length prc z b4 o4 hzF rfl
                have JJ := Lib.hid (show Fr (fun q => q = ob) w8 wb from HFr.out.trans JB.out (fun _ _ q => q))
                have HPw := Lib.hid hPb; have HN4 := Lib.hid n4
                have HZl := Lib.hid (HY3.out _ (nodeV_mem hzF))
                have hHW := fun (W : World) (f : Fr NoM wb W) (pv : Value) (hp : Nats W pv [k2]) => without_any (.slice (some ⟨g2, 0, none⟩) R'.length R'.length) pv R' [k2] W ((RowIs.fr (HG2.out wb JJ.out) f (fun q => q)).slice (by have := HY3'.out; omega)) hp (List.pairwise_singleton _ _) (by have := HY3'.out; omega)
                have HHW := Lib.hid hHW
                have HPk := Lib.hid (show Nats (wb.alloc (.cells #[.int .i64 (k2 : Int)] 3)).drew (.slice (some ⟨wb.heap.size, 0, none⟩) 1 1) [k2] from (SliceOf.one encN wb k2 3).fr0 ((Fr.refl NoM _).drew))
                have C0 : ∀ o, (wb.alloc o).cell? ⟨pb, 1, none⟩ = some (.slice (some ⟨b4, o4, none⟩) Fs.length prc) := fun o => ((Fr.refl NoM wb).alloc o).cell e0 (fun q => q)
                have C4 : ∀ o, (wb.alloc o).cell? ⟨b4, o4 + z, none⟩ = some (.slice va4 (nodeV Fs z).2.length vc4) := fun o => ((Fr.refl NoM wb).alloc o).cell e4 (fun q => q)
                have G0 : Fr NoM wb (wb.alloc (.cells #[.int .i64 (k2 : Int)] 3)).drew := ((Fr.refl NoM wb).alloc _).drew
                obtain ⟨x1, x2, x3, x4⟩ := bypQ_lt HGd.out HQ.out
                dsimp only at x1 x2 x3 x4
                obtain ⟨r', hr'⟩ : ∃ r', r' = withoutL R' [k2] ++ (nodeV Fs z).2 := ⟨_, rfl⟩
                rw [← hr'] at x2 x4
                have hbp : bypF Fs = formB (poolPut Fs (bornsF Fs) L r').1 (poolPut Fs (bornsF Fs) L r').2.1 (poolPut Fs (bornsF Fs) L r').2.2 := by
                  unfold bypF
                  rw [HQ.out, hr']
                obtain ⟨p1, p2⟩ := poolPut_ok HQ4.out (L := L) (R := r') x1 x2
                obtain ⟨q1, q2, _⟩ := poolPut_lt Fs (bornsF Fs) L r'
                have hNode := fun (b c : Nat) (W : World) (f : Fr NoM wb W) (hn : NRow wb.heap.size W (.slice (some ⟨b, 0, none⟩) r'.length c) r') => node_any pb Fs (bornsF Fs) L r' (.map (some ob)) mc ms mn g1 0 L.length b 0 c W (HPw.out.fr0 f) ((RowIs.fr (HG1.out wb JJ.out) f (fun q => q)).slice (by omega)) hn.nats x1 x2 (by omega) (by omega) (by have := HQ2.out; omega) (fun x hx => by have := (bookOK_of HQ4.out).lt Fs.length (Nat.le_refl _) x hx; have := HQ2.out; omega)
                obtain ⟨V', hV'⟩ : ∃ V', V' = (poolPut Fs (bornsF Fs) L r').1 := ⟨_, rfl⟩
                obtain ⟨B', hB'⟩ : ∃ B', B' = (poolPut Fs (bornsF Fs) L r').2.1 := ⟨_, rfl⟩
                obtain ⟨r0, hr0⟩ : ∃ r0, r0 = (poolPut Fs (bornsF Fs) L r').2.2 := ⟨_, rfl⟩
                rw [← hV', ← hB', ← hr0] at hNode hbp
                rw [← hV', ← hB'] at p1
                rw [← hV', ← hr0] at q1
                rw [← hV'] at q2
                have hokE : fitsB (formB V' B' r0) = ok := by
                  have h := HOk.out
                  rw [natF_i2, hbp] at h
                  rw [h]; rfl
                have HOkE := Lib.hid hokE; have HBp := Lib.hid hbp; have HNode := Lib.hid hNode; have HPo := Lib.hid p1; have HPq := Lib.hid q1; have HPl := Lib.hid q2; have HL' := Lib.hid hr'
                have f1b : Fr NoM w1 wb := F14.out.trans (F10.out.trans JB.out (fun _ _ q => q)) (fun q hq e => by have h1 := HOb.out; have h2 := HF2.out.size; omega)
                have HMge := Lib.hid (fun q (hq : M q) => show w1.heap.size ≤ q from by
                  have h1 := HPb.out
                  have h2 := HF2.out.size
                  have h3 := HF23.out.size
                  rcases (HM.out q hq).1 with h | h
                  · rcases h.1 with e | e
                    · exact Nat.le_trans h2 (Nat.le_of_eq e.symm)
                    · have e : q = pb := e
                      omega
                  · omega)
                have F1b := Lib.hid f1b
                clear hPb n4 hHW hzx x1 x2 x3 x4 hr' hbp p1 p2 q1 q2 hNode hV' hB' hr0 hokE f1b
                go_region_law (first
                  | (refine step_appN wb kd rfl (.tmp 118) (.tmp 125) rfl (.slice (some ⟨b5, 0, none⟩) (withoutL R' [k2]).length c5) (withoutL R' [k2]) rfl hnd' (.slice va4 (nodeV Fs z).2.length vc4) rfl (nodeV Fs z).2 (HN4.out.fr0 kd) (by have h1 := withoutL_len R' [k2]; have h2 := HY3'.out; have h3 := HZl.out; omega) ?_; rw [← HL'.out]; intro b6 c6 w11 hn6 f6)
                  | (go_simp; first
                    | (go_at_call 110; (with_reducible refine (HHW.out _ G0 _ HPk.out).mono ?_); rintro e wd ⟨vd, rfl, hnd, fd⟩; obtain ⟨b5, c5, rfl⟩ := hnd.shape; have kd : Fr NoM wb wd := G0.trans fd (fun _ _ q => q); have e0d := kd.cell e0 (fun q => q); have e4d := kd.cell e4 (fun q => q); have hnd' : NRow wb.heap.size wd (.slice (some ⟨b5, 0, none⟩) (withoutL R' [k2]).length c5) (withoutL R' [k2]) := ⟨owns_base hnd.own (by simp only [World.size_drew, World.size_alloc]; omega), hnd.shape⟩)
                    | (go_at_call 109; (with_reducible refine (HNode.out b6 c6 w11 f6 hn6).mono ?_); rintro e w12 ⟨rfl, M7, I7, hp7, _, _, f7⟩; have f112 : Fr NoM w1 w12 := (F1b.out.trans f6 (fun _ _ q => q)).trans f7 (fun q hq h => by have := HMge.out q h; omega))
                    | (go_at_call 79; (with_reducible refine (pform_any pb r0 V' B' (.map (some ob)) mc ms mn w12 hp7 HPo.out HPq.out (by have := HPl.out; have := HQ2.out; omega)).mono ?_); rintro e w13 ⟨nv, okf, FN, rfl, hres, hns, f8⟩; obtain ⟨an, cn, rfl, zz⟩ := id hns.nodeL; clear zz; have f113 : Fr NoM w1 w13 := f112.trans f8 (fun _ _ q => q); have r13 := (HK.out w13 f113).2; have r13a := r13.1; have r13b := r13.2)
                    | fail)
                  | fail)
                all_goals
                  obtain ⟨h1, h2⟩ := FormRes.is HPo.out HPq.out hres
                  rw [HOkE.out] at h1
                  have HNs := Lib.hid hns
                  have HFe := Lib.hid f113
                  have HZf := Lib.hid (show w.heap.size + 2 ≤ w12.heap.size from by have := f112.size; have := HS1.out; omega)
                  clear hns f113 f112 f8 f7 f6 hres hp7 hn6 fd kd hnd hnd' e0 e4 e0d e4d C0 C4 G0 ix4
                  cases ok with
                  | true =>
                    have hk : okf = true := h1
                    subst hk
                    have hF : FN = formB V' B' r0 := by simpa using h2
                    have HFN := Lib.hid hF
                    clear h1 h2 hF
                    go_wp2_with fail
                    refine bodyPost_ret (v := .tuple #[.agg #[.slice an FN.length cn], .bool true]) (by simp [results, Tryz.results42, go_sem, r13a]) rfl ?_
                    refine ⟨_, rfl, ?_, (HF1.out.trans HFe.out (fun _ _ q => q)).setCell ⟨w.heap.size + 1, 0, none⟩ _ (fun h => by have h : w.heap.size + 1 < w.heap.size := h; omega)⟩
                    have hn := (HNs.out.fr (Fr.set w13 ⟨w.heap.size + 1, 0, none⟩ (.slice an FN.length cn)) (fun q hq _ e => by have e : q = w.heap.size + 1 := e; have := HZf.out; omega)).base (D' := w.heap.size) (by have := HZf.out; omega)
                    show NodesS _ _ _ (bypF (natF (i2 Fs)))
                    rw [natF_i2, HBp.out, ← HFN.out]
                    exact hn
                  | false =>
                    have hk : okf = false := h1
                    subst hk
                    have hF : FN = [] := by simpa using h2
                    have HFN := Lib.hid hF
                    clear h1 h2 hF
                    go_wp2_with fail
                    refine bodyPost_ret (v := .tuple #[.agg #[.slice an FN.length cn], .bool false]) (by simp [results, Tryz.results42, go_sem, r13a]) rfl ?_
                    refine ⟨_, rfl, ?_, (HF1.out.trans HFe.out (fun _ _ q => q)).setCell ⟨w.heap.size + 1, 0, none⟩ _ (fun h => by have h : w.heap.size + 1 < w.heap.size := h; omega)⟩
                    have hn := (HNs.out.fr (Fr.set w13 ⟨w.heap.size + 1, 0, none⟩ (.slice an FN.length cn)) (fun q hq _ e => by have e : q = w.heap.size + 1 := e; have := HZf.out; omega)).base (D' := w.heap.size) (by have := HZf.out; omega)
                    show NodesS _ _ _ []
                    rw [← HFN.out]
                    exact hn
          · have hk' : k2 = R'.length := by omega
            have h1 := byp1_miss (g := gL (codesOf Fs)) (opt := fun y => (nodeV Fs y).1) (r := n) (L := R') (fun i hi => HNo.out i (by omega))
            have hq : bypQ Fs = none := by
              unfold bypQ
              rw [show Fs.length - 1 = n from by have := Hn.out; omega]
              have e : nodeV Fs n = (L, R') := by have h := HYv.out; rw [show Fs.length - 1 = n from by have := Hn.out; omega] at h; exact h
              rw [e]
              exact bypP_none H0.out h1
            have hk : ok = false := by
              have h := HOk.out
              rw [natF_i2] at h
              unfold bypF at h
              rw [hq] at h
              exact h
            subst hk
            have f1e : Fr NoM w1 w20 := F14.out.trans F10.out (fun q hq e => by have h1 := HOb.out; have h2 := HF2.out.size; omega)
            obtain ⟨k0, k1, z1⟩ := HK.out w20 f1e
            have HFe := Lib.hid f1e
            clear hq h1 hk' f1e nl nr crow cnode c0 k0
            go_wp2
            refine bodyPost_ret (v := .tuple #[.agg #[.slice none 0 0], .bool false]) (by simp [results, Tryz.results42, go_sem, k1]) rfl ?_
            exact ⟨_, rfl, NodesS.nil _ _, (HF1.out.trans HFe.out (fun _ _ q => q)).setCell _ _ (fun h => by have h : w.heap.size + 1 < w.heap.size := h; omega)⟩
end Go.Proofs.YtioiljboihehcaaGreatDoor
