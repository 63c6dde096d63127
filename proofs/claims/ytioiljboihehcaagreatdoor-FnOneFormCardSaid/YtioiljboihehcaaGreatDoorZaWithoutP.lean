import Derived.Test.YtioiljboihehcaaGreatDoorZaPoolLoad
import Derived.Test.YtioiljboihehcaaGreatDoorZaPoolGe
import Derived.Test.YtioiljboihehcaaGreatDoorZaPlain
/- What the claim of FnOneFormCard needs of: WithoutP. -/
namespace Go.Proofs.YtioiljboihehcaaGreatDoor

set_option linter.unusedVariables false

set_option linter.unusedSimpArgs false

open Go.RowKit

theorem nats_tail {w : World} {a : Option Addr} {c x : Nat} {l : List Nat} (h : Nats w (.slice a (l.length + 1) c) (x :: l)) : Nats w (.slice (if c = 1 then a else Option.map (fun x => { block := x.block, off := x.off + 1 }) a) l.length (c - 1)) l := by
  obtain ⟨a', c', e, h1, h2, hc⟩ := h
  cases e
  simp only [List.length_cons] at h1
  refine ⟨_, _, rfl, by omega, by omega, fun i y hy => ?_⟩
  have hi := (List.getElem?_eq_some_iff.1 hy).1
  obtain ⟨b, off, ha, hcell⟩ := hc (i + 1) y (by simpa using hy)
  rw [if_neg (by omega), ha]
  exact ⟨b, off + 1, rfl, by rw [Nat.add_assoc, Nat.add_comm 1 i]; exact hcell⟩

set_option maxRecDepth 4000 in
set_option maxHeartbeats 4000000 in
theorem without_any (lv pv : Value) (L P : List Nat) (w : World) (hL : Nats w lv L) (hP : Nats w pv P) (hup : P.Pairwise (· < ·)) (hl : L.length < 1000000000) :
    Calls Tryz.prog 110 #[lv, pv] w fun e w' => ∃ v', e = .returned v' ∧ NRow w.heap.size w' v' (withoutL L P) ∧ Fr NoM w w' := by
  obtain ⟨la, lc, rfl, hlc, hlcm, hL⟩ := hL
  have HL := Lib.hid hL; clear hL
  have HP := Lib.hid hP; have HU := Lib.hid hup; clear hP hup
  have Hl := Lib.hid hl; clear hl
  go_enter Tryz.func110, Tryz.ntmps110
  go_wp2_with fail
  go_loopw [1, 5, 11] (fun p v i wr => ∃ (k : Nat) (Q : List Nat), k ≤ L.length ∧ i = .int .i64 k ∧ NRow w.heap.size wr v (withoutL (L.take k) P) ∧ Nats w p Q ∧ Q.Pairwise (· < ·) ∧ (∀ x, x ∈ Q ↔ x ∈ P ∧ k ≤ x) ∧ Fr NoM w wr) (fun _ _ i _ => L.length - (intOf i).toNat)
  case atStart => exact ⟨0, P, by omega, rfl, NRow.made w, HP.out, HU.out, fun x => by simp, (Fr.refl _ _).alloc _⟩
  case round =>
    obtain ⟨k, Q, hk, rfl, hrow, hq, hqu, hqm, hfr⟩ := hrel
    obtain ⟨w7, rfl⟩ : ∃ w7, w7 = wr := ⟨_, rfl⟩
    obtain ⟨lb, lcc, rfl⟩ := hrow.shape
    by_cases hlt' : k < L.length
    · obtain ⟨b1, o1, ha1, hc1⟩ := HL.out k L[k] (by simp)
      have hc1' := hfr.cell hc1 (fun q => q)
      have ix1 := ixInts la L.length lc k b1 o1 hlt' ha1
      unfold encN at hc1'
      have hnext := withoutL_take L P k hlt'
      have hlen := withoutL_len (L.take k) P
      rw [List.length_take, Nat.min_eq_left hk] at hlen
      obtain ⟨y, hy⟩ : ∃ y, L[k] = y := ⟨_, rfl⟩
      rw [hy] at hnext hc1'
      obtain ⟨pa, pc, rfl, _, _, hcc⟩ := id (hq.fr0 hfr)
      have HQ := Lib.hid hq; have HRow := Lib.hid hrow; have HFr := Lib.hid hfr; have HLen := Lib.hid hlen
      clear hc1 ha1 hfr hlen hrow hq
      have keep : k ∉ Q → k ∉ P := fun h hp => h ((hqm k).2 ⟨hp, Nat.le_refl _⟩)
      have hmem2 : k ∉ Q → ∀ x, x ∈ Q ↔ x ∈ P ∧ k + 1 ≤ x := fun h x => by
        rw [hqm x]
        constructor
        · rintro ⟨h1, h2⟩
          refine ⟨h1, ?_⟩
          by_cases e : x = k
          · subst e; exact absurd ((hqm x).2 ⟨h1, h2⟩) h
          · omega
        · rintro ⟨h1, h2⟩; exact ⟨h1, by omega⟩
      cases Q with
      | nil =>
        have hmk := hmem2 (by simp)
        rw [if_neg (keep (by simp))] at hnext
        have HN := Lib.hid hnext; have HMk := Lib.hid hmk
        clear hnext hcc keep hmem2 hqm hqu hmk
        go_wp2_with (at_builtin; refine wpList_appF (enc := encN) w (HFr.out.alloc _) rfl _ _ 50 rfl 3 (.int .i64 0) 8 Tryz.underlying50 infoInt rfl _ (withoutL (L.take k) P).length _ rfl (HRow.out.own.alloc _) _ rfl [y] (SliceOf.one encN w7 y 3) (fun _ => rfl) ?c1 (by decide) ?_)
        case c1 => have := HLen.out; have := Hl.out; simp at *; omega
        intro v' w' h1 h2
        have H1 := Lib.hid h1; have H2 := Lib.hid h2; clear h1 h2
        go_wp2_with fail
        go_roundw
        case rel => exact ⟨k + 1, [], by omega, by go_num, by rw [HN.out]; exact NRow.snoc H1.out, HQ.out, List.Pairwise.nil, HMk.out, H2.out⟩
        case measure => simp [intOf]; omega
      | cons q Q' =>
        obtain ⟨b2, o2, ha2, hc2⟩ := hcc 0 q rfl
        have ix2 := ixInts pa (Q'.length + 1) pc 0 b2 o2 (Nat.succ_pos _) ha2
        have hs2 := nats_tail HQ.out
        unfold encN at hc2
        rw [Nat.add_zero] at ix2 hc2
        rw [show ((0 : Nat) : Int) = 0 from rfl] at ix2
        simp only [List.length_cons] at HQ ⊢
        by_cases hqk : q = k
        · subst hqk
          rw [if_pos ((hqm q).1 (by simp)).1] at hnext
          have hu2 := (List.pairwise_cons.1 hqu).2
          have hm2 : ∀ x, x ∈ Q' ↔ x ∈ P ∧ q + 1 ≤ x := fun x => by
            have h0 := (List.pairwise_cons.1 hqu).1
            constructor
            · intro h
              exact ⟨((hqm x).1 (List.mem_cons_of_mem _ h)).1, h0 x h⟩
            · rintro ⟨h1, h2⟩
              rcases List.mem_cons.1 ((hqm x).2 ⟨h1, by omega⟩) with e | h
              · omega
              · exact h
          have hb : ((q : Int) == (q : Int)) = true := beq_self_eq_true _
          have HN := Lib.hid hnext; have HU2 := Lib.hid hu2; have HM2 := Lib.hid hm2; have HS2 := Lib.hid hs2
          clear hnext hcc keep hmem2 hqm hqu ha2 hu2 hm2 hs2
          go_wp2_with fail
          go_roundw
          case rel => exact ⟨q + 1, Q', by omega, by go_num, by rw [HN.out]; exact HRow.out, HS2.out, HU2.out, HM2.out, HFr.out⟩
          case measure => simp [intOf]; omega
        · have hn0 : k ∉ q :: Q' := fun h => by
            rcases List.mem_cons.1 h with e | h
            · exact hqk e.symm
            · have := (List.pairwise_cons.1 hqu).1 k h
              have := ((hqm q).1 (by simp)).2
              omega
          have hmk := hmem2 hn0
          rw [if_neg (keep hn0)] at hnext
          have hb : ((q : Int) == (k : Int)) = false := by rw [beq_eq_false_iff_ne]; omega
          have HN := Lib.hid hnext; have HMk := Lib.hid hmk; have HQu := Lib.hid hqu
          clear hnext hcc keep hmem2 hqm hqu hmk ha2 hs2 hn0
          go_wp2_with (at_builtin; refine wpList_appF (enc := encN) w (HFr.out.alloc _) rfl _ _ 50 rfl 3 (.int .i64 0) 8 Tryz.underlying50 infoInt rfl _ (withoutL (L.take k) P).length _ rfl (HRow.out.own.alloc _) _ rfl [y] (SliceOf.one encN w7 y 3) (fun _ => rfl) ?c1 (by decide) ?_)
          case c1 => have := HLen.out; have := Hl.out; simp at *; omega
          intro v' w' h1 h2
          have H1 := Lib.hid h1; have H2 := Lib.hid h2; clear h1 h2
          go_wp2_with fail
          go_roundw
          case rel => exact ⟨k + 1, q :: Q', by omega, by go_num, by rw [HN.out]; exact NRow.snoc H1.out, HQ.out, HQu.out, HMk.out, H2.out⟩
          case measure => simp [intOf]; omega
    · have hk' : k = L.length := by omega
      subst hk'
      rw [List.take_length] at hrow ⊢
      have HO := Lib.hid hrow; have HFr := Lib.hid hfr
      clear hrow hfr hq hqm hqu
      go_wp2_with fail
      go_ret
      exact ⟨_, rfl, HO.out, HFr.out⟩

/-- What dominated has found of the first places. -/
def domI (g : Nat → Nat → Bool) (L : List Nat) (i : Nat) : List Nat := (List.range i).filter fun m => (List.range L.length).any (domP g L m)

theorem domI_all (g : Nat → Nat → Bool) (L : List Nat) : domI g L L.length = domB g L := rfl

theorem domI_yes {g : Nat → Nat → Bool} {L : List Nat} {i k : Nat} (hk : k < L.length) (h : domP g L i k = true) : domI g L (i + 1) = domI g L i ++ [i] := by
  have : (List.range L.length).any (domP g L i) = true := List.any_eq_true.2 ⟨k, List.mem_range.2 hk, h⟩
  unfold domI
  rw [List.range_succ, List.filter_append]
  simp [this]

theorem domI_no {g : Nat → Nat → Bool} {L : List Nat} {i : Nat} (h : (List.range L.length).any (domP g L i) = false) : domI g L (i + 1) = domI g L i := by
  unfold domI
  rw [List.range_succ, List.filter_append]
  simp [h]

theorem domI_len (g : Nat → Nat → Bool) (L : List Nat) (i : Nat) : (domI g L i).length ≤ i := by
  have := List.length_filter_le (fun m => (List.range L.length).any (domP g L m)) (List.range i)
  rw [List.length_range] at this
  exact this

set_option maxRecDepth 4000 in
set_option maxHeartbeats 8000000 in
theorem dominated_any {M I : Nat → Prop} {C : List Nat} {V : List PL} {BV : List Nat} (B : BookC V C) (pb ob : Nat) (mc ms mn : Value) (hMo : ¬ M ob) (hIo : ¬ I ob) (lf : Bool) (g : Nat → Nat → Bool) (hg : g = if lf = true then gL C else gR C) (lv : Value) (L : List Nat) (f : Nat × Nat → Option Bool) (w : World)
    (hP : PoolS M I w pb V BV (.map (some ob)) mc ms mn) (hf : MapF encP encB w ob f) (ho : OrdF C f) (hL : Nats w lv L) (hLb : L ≠ [] → ∀ q, lv.ownBlock = some q → q ≠ ob) (hLt : ∀ x ∈ L, x < V.length) (hl : L.length < 1000000) :
    Calls Tryz.prog 111 #[.pointer (some ⟨pb, 0, none⟩), lv, .bool lf] w fun e w' => ∃ v', e = .returned v' ∧ NRow w.heap.size w' v' (domB g L) ∧ ∃ f', MapF encP encB w' ob f' ∧ OrdF C f' ∧ Fr (fun q => q = ob) w w' := by
  have hob : ob < w.heap.size := hf.lt
  have HL := Lib.hid (fun (W : World) (f : Fr (fun q => q = ob) w W) => show Nats W lv L from hL.fr f hLb)
  have HP := Lib.hid (fun (W : World) (f : Fr (fun q => q = ob) w W) => hP.fr f (fun q hq e => hMo (e ▸ hq)) (fun q hq e => hIo (e ▸ hq)))
  have HGe := Lib.hid (fun x y (hx : x < V.length) (hy : y < V.length) => (ge_all B pb ob mc ms mn hMo hIo (x + y + 1) x y (Nat.lt_succ_self _) hx hy : GeIs M I C V BV pb ob mc ms mn x y))
  obtain ⟨la, lc, rfl, hlc, hlcm, z⟩ := hL
  have HLt := Lib.hid hLt; have HF := Lib.hid hf; have HO := Lib.hid ho; have Hg := Lib.hid hg; have Hl := Lib.hid hl; have HOb := Lib.hid hob
  clear hP hf ho hLt z hLb hMo hIo hg hl hob
  go_enter Tryz.func111, Tryz.ntmps111
  go_wp2_with fail
  go_loopw [7, 17] (fun o t W => ∃ (i : Nat) (f1 : Nat × Nat → Option Bool), t = .int .i64 i ∧ i ≤ L.length ∧ NRow w.heap.size W o (domI g L i) ∧ MapF encP encB W ob f1 ∧ OrdF C f1 ∧ Fr (fun q => q = ob) w W) (fun _ t _ => L.length - (intOf t).toNat)
  case atStart => exact ⟨0, f, rfl, Nat.zero_le _, NRow.made w, HF.out.fr ((Fr.refl NoM w).alloc _) (fun q => q), HO.out, (Fr.refl _ w).alloc _⟩
  case round =>
    obtain ⟨i, f1, rfl, hi, hrow, hf1, ho1, hfr⟩ := hrel
    obtain ⟨w6, rfl⟩ : ∃ w6, w6 = wr := ⟨_, rfl⟩
    obtain ⟨lb, lcc, rfl⟩ := hrow.shape
    have HRow := Lib.hid hrow; have HF1 := Lib.hid hf1; have HO1 := Lib.hid ho1; have HFr := Lib.hid hfr
    have HLi := Lib.hid (domI_len g L i)
    clear hrow hf1 ho1 hfr
    by_cases hil : i < L.length
    · obtain ⟨x, hx⟩ : ∃ x, L[i]? = some x := ⟨_, List.getElem?_eq_getElem hil⟩
      have hxl := HLt.out x (List.mem_of_getElem? hx)
      obtain ⟨_, _, ee, _, _, hcc⟩ := HL.out w6 HFr.out
      cases ee
      obtain ⟨b1, o1, ha1, d1⟩ := hcc i x hx
      have ix1 := ixInts la L.length lc i b1 o1 hil ha1
      unfold encN at d1
      go_wp2_with fail
      clear d1 ix1 hcc
      go_loopw [7, 24] (fun o t W => ∃ (k : Nat) (f2 : Nat × Nat → Option Bool), o = .slice (some ⟨lb, 0, none⟩) (domI g L i).length lcc ∧ t = .int .i64 k ∧ k ≤ L.length ∧ (List.range k).any (domP g L i) = false ∧ MapF encP encB W ob f2 ∧ OrdF C f2 ∧ Fr (fun q => q = ob) w6 W) (fun _ t _ => L.length - (intOf t).toNat)
      case atStart => exact ⟨0, f1, rfl, rfl, Nat.zero_le _, rfl, HF1.out, HO1.out, Fr.refl _ _⟩
      case round =>
        obtain ⟨k, f2, rfl, rfl, hk, hany, hf2, ho2, hfr2⟩ := hrel
        obtain ⟨w7, rfl⟩ : ∃ w7, w7 = wr := ⟨_, rfl⟩
        have HF2 := Lib.hid hf2; have HO2 := Lib.hid ho2; have HFr2 := Lib.hid hfr2; have HAny := Lib.hid hany
        have HRow7 := Lib.hid (HRow.out.fr hfr2 (fun q hq e => by have := (HRow.out.own.lt q hq).1; have := HOb.out; omega))
        clear hf2 ho2 hfr2 hany
        by_cases hkl : k < L.length
        · obtain ⟨y, hy⟩ : ∃ y, L[k]? = some y := ⟨_, List.getElem?_eq_getElem hkl⟩
          have hyl := HLt.out y (List.mem_of_getElem? hy)
          obtain ⟨_, _, ee, _, _, hcc⟩ := HL.out w7 (HFr.out.trans HFr2.out (fun _ _ q => q))
          cases ee
          obtain ⟨b2, o2, ha2, d2⟩ := hcc k y hy
          have ix2 := ixInts la L.length lc k b2 o2 hkl ha2
          unfold encN at d2
          have hnext : (List.range (k + 1)).any (domP g L i) = domP g L i k := by
            rw [List.range_succ, List.any_append, HAny.out]; simp
          by_cases hki : k = i
          · subst hki
            have hnn : (List.range (k + 1)).any (domP g L k) = false := by rw [hnext]; simp [domP]
            have hb : ((k : Int) == (k : Int)) = true := beq_self_eq_true _
            have HN := Lib.hid hnn
            clear hcc hnext hnn hx hy ha1 ha2
            go_wp2_with fail
            go_roundw
            case rel => exact ⟨k + 1, f2, rfl, by go_num, by omega, HN.out, HF2.out, HO2.out, HFr2.out⟩
            case measure => simp [intOf]; omega
          · have hb : ((k : Int) == (i : Int)) = false := by rw [beq_eq_false_iff_ne]; omega
            obtain ⟨da, hda⟩ : ∃ da, da = geV C y x := ⟨_, rfl⟩
            obtain ⟨db, hdb⟩ : ∃ db, db = geV C x y := ⟨_, rfl⟩
            obtain ⟨dm, hdm⟩ : ∃ dm, dm = domP g L i k := ⟨_, rfl⟩
            have hdom : dm = if lf = true then (da && (!db || decide (k < i))) else (db && (!da || decide (k < i))) := by
              rw [hdm, Hg.out, hda, hdb]
              unfold domP
              rw [List.getD_eq_getElem?_getD, List.getD_eq_getElem?_getD, hx, hy, decide_eq_true hki]
              cases lf <;> rfl
            have h1 := HGe.out y x hyl hxl
            have h2 := HGe.out x y hxl hyl
            unfold GeIs at h1 h2
            rw [← hda] at h1
            rw [← hdb] at h2
            rw [← hdm] at hnext
            have H1 := Lib.hid h1; have H2 := Lib.hid h2; have HDom := Lib.hid hdom; have HN := Lib.hid hnext; have HDm := Lib.hid hdm
            clear hcc hnext hx hy ha1 ha2 h1 h2 hdom hda hdb hdm
            go_wp2_with fail
            refine (H1.out f2 w7 (HP.out w7 (HFr.out.trans HFr2.out (fun _ _ q => q))) HF2.out HO2.out).mono ?_
            rintro e w8 ⟨rfl, f3, hf3, ho3, hfr3⟩
            have HF3 := Lib.hid hf3; have HO3 := Lib.hid ho3; have HFr3 := Lib.hid (HFr2.out.trans hfr3 (fun _ _ q => q))
            have HRow8 := Lib.hid (HRow7.out.fr hfr3 (fun q hq e => by have := (HRow7.out.own.lt q hq).1; have := HOb.out; omega))
            clear hf3 ho3 hfr3 HF2 HO2 HFr2 HRow7 d2 ix2
            go_wp2_with fail
            refine (H2.out f3 w8 (HP.out w8 (HFr.out.trans HFr3.out (fun _ _ q => q))) HF3.out HO3.out).mono ?_
            rintro e w9 ⟨rfl, f4, hf4, ho4, hfr4⟩
            have HF4 := Lib.hid hf4; have HO4 := Lib.hid ho4; have HFr4 := Lib.hid (HFr3.out.trans hfr4 (fun _ _ q => q))
            have HRow9 := Lib.hid (HRow8.out.fr hfr4 (fun q hq e => by have := (HRow8.out.own.lt q hq).1; have := HOb.out; omega))
            clear hf4 ho4 hfr4 HF3 HO3 HFr3 HRow8 hb
            obtain ⟨p, hp⟩ : ∃ p, p = if lf = true then da else db := ⟨_, rfl⟩
            obtain ⟨q, hq⟩ : ∃ q, q = if lf = true then db else da := ⟨_, rfl⟩
            have hpq : dm = (p && (!q || decide (k < i))) := by
              rw [HDom.out, hp, hq]
              cases lf <;> rfl
            have HPq := Lib.hid hpq; have HPp := Lib.hid hp; have HQq := Lib.hid hq
            clear hpq hp hq HDom
            go_upto_if 41 with fail
            go_cut [12, 13] from 25 to 58 (fun a b W => a = .bool p ∧ b = .bool q ∧ W = w9)
            case first =>
              cases lf <;>
                (go_wp2_with fail
                 go_meet
                 case rel => exact ⟨by rw [HPp.out] <;> rfl, by rw [HQq.out] <;> rfl, rfl⟩)
            case rest =>
            obtain ⟨rfl, rfl, rfl⟩ := hcut
            clear HPp HQq
            go_upto_region 12 with fail
            go_cut [53] from 25 to 58 (fun c W => c = .bool dm ∧ W = wc)
            case first =>
              by_cases hlt : k < i
              · have hd : dm = p := by rw [HPq.out, decide_eq_true hlt]; simp
                have HD := Lib.hid hd
                clear hd
                cases p <;> cases q <;>
                  (go_wp2_with fail
                   go_meet
                   case rel => exact ⟨by rw [HD.out] <;> rfl, rfl⟩)
              · have hd : dm = (p && !q) := by rw [HPq.out, decide_eq_false hlt]; simp
                have HD := Lib.hid hd
                clear hd
                cases p <;> cases q <;>
                  (go_wp2_with fail
                   go_meet
                   case rel => exact ⟨by rw [HD.out] <;> rfl, rfl⟩)
            case rest =>
              obtain ⟨rfl, rfl⟩ := hcut
              cases dm with
              | true =>
                have HY := Lib.hid (domI_yes hkl HDm.out.symm)
                have HFx := Lib.hid (HFr.out.trans HFr4.out (fun _ _ q => q))
                go_wp2_with (at_builtin; refine wpList_appS (enc := encN) _ rfl _ _ 50 rfl w.heap.size 3 (.int .i64 0) 8 Tryz.underlying50 infoInt rfl _ (domI g L i).length _ rfl (HRow9.out.own.alloc _) _ rfl [i] (SliceOf.one encN wc i 3) (fun _ => rfl) ?c1 (by decide) ?c2 ?_)
                case c1 => have := HLi.out; have := Hl.out; simp at *; omega
                case c2 => have := HFx.out.size; simp at *; omega
                intro v' w' h1 h2 h3
                have hrw : NRow w.heap.size w' v' (domI g L (i + 1)) := by rw [HY.out]; exact NRow.snoc h1
                have hno : ∀ q, q < w.heap.size → Own1 (.slice (some ⟨lb, 0, none⟩) (domI g L i).length lcc) q → False := fun q hq ho => by have := (HRow9.out.own.lt q ho).1; omega
                have HRw := Lib.hid hrw
                have HMf := Lib.hid ((HF4.out.fr ((Fr.refl NoM _).alloc (.cells #[.int .i64 (i : Int)] 3)) (fun q => q)).fr h2 (hno _ HOb.out))
                have HFz := Lib.hid ((HFx.out.alloc (.cells #[.int .i64 (i : Int)] 3)).trans h2 (fun q hq h => (hno q hq h).elim))
                clear h1 h2 h3 hrw hno
                go_wp2_with fail
                go_roundw
                case rel => exact ⟨i + 1, f4, by go_num, by omega, HRw.out, HMf.out, HO4.out, HFz.out⟩
                case measure => simp [intOf]; omega
              | false =>
                go_wp2_with fail
                go_roundw
                case rel => exact ⟨k + 1, f4, rfl, by go_num, by omega, HN.out, HF4.out, HO4.out, HFr4.out⟩
                case measure => simp [intOf]; omega
        · have hk' : k = L.length := by omega
          subst hk'
          have HN := Lib.hid (domI_no HAny.out)
          have HFx := Lib.hid (HFr.out.trans HFr2.out (fun _ _ q => q))
          go_wp2_with fail
          go_roundw
          case rel => exact ⟨i + 1, f2, by go_num, by omega, by rw [HN.out]; exact HRow7.out, HF2.out, HO2.out, HFx.out⟩
          case measure => simp [intOf]; omega
    · have hi' : i = L.length := by omega
      subst hi'
      have hrow := HRow.out
      rw [domI_all] at hrow
      rw [domI_all] at *
      have HO := Lib.hid hrow
      clear hrow HRow
      go_wp2_with fail
      go_ret
      exact ⟨_, rfl, HO.out, f1, HF1.out, HO1.out, HFr.out⟩

end Go.Proofs.YtioiljboihehcaaGreatDoor
