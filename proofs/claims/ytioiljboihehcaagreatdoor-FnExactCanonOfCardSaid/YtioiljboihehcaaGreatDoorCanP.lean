/- The walk of the program's canon: the place of a game's canonical form. -/
import Derived.Test.YtioiljboihehcaaGreatDoorRedP
namespace Go.Proofs.YtioiljboihehcaaGreatDoor
set_option linter.unusedVariables false
set_option linter.unusedSimpArgs false
open Go.RowKit

theorem rowC_all {V : List PL} {L : List Nat} (h : ∀ l ∈ L, l < V.length) : RowC V L (atAll (codesOf V) L) := ⟨h, rfl⟩
set_option maxRecDepth 8000 in
set_option maxHeartbeats 16000000 in
theorem can_step {U : List Nat} (hUl : U.length < 20000) (pb ob sb : Nat) (ms mn : Value) (x : Nat) (ih : ∀ y, y < x → CanIs U pb ob sb ms mn y) : CanIs U pb ob sb ms mn x := by
  intro V BV M I fo fc w1 hst hx hU
  have HRL := Lib.hid (red_left hUl pb ob sb ms mn x ih)
  have HRR := Lib.hid (red_right hUl pb ob sb ms mn x ih)
  have HSt := Lib.hid hst
  obtain ⟨cx, hcx⟩ : ∃ cx, cx = (codesOf V).getD x 0 := ⟨_, rfl⟩
  have HU := Lib.hid hU
  have hin : canC cx ∈ U := by rw [hcx]; exact hU _ .root
  rw [← hcx]
  have HX := Lib.hid hx; have HCx := Lib.hid hcx; have HUl := Lib.hid hUl; have HIn := Lib.hid hin
  clear hst hU hx hcx hUl ih hin
  have hlook : (Instr.lookup 121 (.map (some sb)) (.int .i64 (x : Int)) true).run Tryz.prog w1 = .ok (.tuple #[((fc x).map encN).getD (.int .i64 0), .bool (fc x).isSome]) w1 :=
    MapF.look (w := w1) HSt.out.can (KeyAt.nat Tryz.underlying3) Tryz.underlying121 (Tryz.zeroValue3 _) x true
  obtain ⟨_, _, _, _, _, _, _, p5, _, _, _⟩ := HSt.out.pool.rd
  cases hfx : fc x with
  | some a =>
    rw [hfx] at hlook
    have hlook : (Instr.lookup 121 (.map (some sb)) (.int .i64 (x : Int)) true).run Tryz.prog w1 = .ok (.tuple #[.int .i64 (a : Int), .bool true]) w1 := hlook
    have ha := HSt.out.canOK _ _ hfx
    have HA := Lib.hid ha
    clear hfx ha
    go_enter Tryz.func80, Tryz.ntmps80
    go_wp2_with fail
    go_ret
    exact ⟨a, V, BV, M, I, fo, fc, rfl, HSt.out, CNx.refl _ _ _ _ _ _, HA.out.2.1, by rw [HCx.out]; exact HA.out.2.2⟩
  | none =>
    rw [hfx] at hlook
    have hlook : (Instr.lookup 121 (.map (some sb)) (.int .i64 (x : Int)) true).run Tryz.prog w1 = .ok (.tuple #[.int .i64 0, .bool false]) w1 := hlook
    clear hfx
    have hred := HRL.out V BV M I fo fc w1 HSt.out HX.out HU.out
    rw [← HCx.out] at hred
    have HRed := Lib.hid hred
    clear hred
    go_enter Tryz.func80, Tryz.ntmps80
    go_wp2_with fail
    (with_reducible refine HRed.out.mono ?_)
    rintro e w2 ⟨v2, L2, V2, B2, M2, I2, fo2, fc2, rfl, st2, nx2, row2, sep2, len2, lt2, red2⟩
    have hx2 : x < V2.length := by have := nx2.pre.length_le; have := HX.out; omega
    have hcx2 : (codesOf V2).getD x 0 = cx := by rw [code_mono nx2.pre HX.out, HCx.out]
    have hred := HRR.out V2 B2 M2 I2 fo2 fc2 w2 st2 hx2 (by rw [hcx2, HCx.out]; exact HU.out)
    rw [hcx2] at hred
    have HRed2 := Lib.hid hred; have HN2 := Lib.hid nx2; have HR2 := Lib.hid row2; have HS2 := Lib.hid sep2; have HL2 := Lib.hid len2; have HT2 := Lib.hid lt2; have HD2 := Lib.hid red2
    clear hred hcx2 hx2 st2 nx2 row2 sep2 len2 lt2 red2 HRed hlook p5
    go_wp2_with fail
    (with_reducible refine HRed2.out.mono ?_)
    rintro e w3 ⟨v3, L3, V3, B3, M3, I3, fo3, fc3, rfl, st3, nx3, row3, sep3, len3, lt3, red3⟩
    have row2 : NRow w1.heap.size w3 v2 L2 := HR2.out.fr nx3.fr (fun q hq e => by
      obtain ⟨a, b, c⟩ := HS2.out q hq
      rcases e with e | e | e
      · exact a e
      · exact b e
      · exact c e)
    have hp3 := nx3.pre
    have hl3 := hp3.length_le
    have hlt : ∀ l ∈ L2, l < V3.length := fun l hl => by have := HT2.out l hl; omega
    have hcode : atAll (codesOf V3) L2 = atAll (codesOf V2) L2 := ((rowC_all HT2.out).mono hp3).2
    have hredl : RedL cx (atAll (codesOf V3) L2) := by rw [hcode]; exact HD2.out
    have hcan := red_is hredl red3
    have hV3 : V3.length < 20000 := by have := st3.len; have := HUl.out; omega
    have hll := HL2.out
    obtain ⟨b2, c2, hv2⟩ := row2.shape
    obtain ⟨b3, c3, hv3⟩ := row3.shape
    subst hv2
    subst hv3
    have hnd := node_any pb V3 B3 L2 L3 (.map (some ob)) (.map (some sb)) ms mn b2 0 c2 b3 0 c3 w3 st3.pool row2.nats row3.nats hlt lt3 (by omega) (by omega) (by omega) (fun q hq => by have := (bookOK_of st3.ok).lt V3.length (Nat.le_refl _) q hq; omega)
    have hin3 : mkC (atAll (codesOf V3) L2) (atAll (codesOf V3) L3) ∈ U := by rw [hcan.eq]; exact HIn.out
    have HND := Lib.hid hnd; have HCan := Lib.hid hcan; have HIn3 := Lib.hid hin3; have HLt := Lib.hid hlt; have HLt3 := Lib.hid lt3; have HSt3 := Lib.hid st3; have HN3 := Lib.hid (HN2.out.trans nx3)
    clear hnd hcan hin3 hlt lt3 st3 nx3 row2 row3 sep3 len3 red3 hp3 hl3 hcode hredl hV3 hll HRed2
    go_wp2_with fail
    (with_reducible refine HND.out.mono ?_)
    rintro e w5 ⟨rfl, M5, I5, p5, hM5, hI5, f5⟩
    obtain ⟨st5, nx5, hr5, hc5⟩ := HSt3.out.node (rowC_all HLt.out) (rowC_all HLt3.out) HIn3.out p5 hM5 hI5 f5
    have nx15 := HN3.out.trans nx5
    obtain ⟨V5, hV5⟩ : ∃ V5, V5 = (poolPut V3 B3 L2 L3).1 := ⟨_, rfl⟩
    obtain ⟨B5, hB5⟩ : ∃ B5, B5 = (poolPut V3 B3 L2 L3).2.1 := ⟨_, rfl⟩
    obtain ⟨r5, hr5e⟩ : ∃ r5, r5 = (poolPut V3 B3 L2 L3).2.2 := ⟨_, rfl⟩
    rw [← hV5, ← hB5] at st5
    rw [← hV5] at nx15 hr5 hc5
    rw [← hr5e] at hr5 hc5 ⊢
    have hcan : IsCan ((codesOf V5).getD r5 0) cx := by rw [hc5]; exact HCan.out
    have hx5 : x < V5.length := by have := nx15.pre.length_le; have := HX.out; omega
    have hcx5 : (codesOf V5).getD x 0 = cx := by rw [code_mono nx15.pre HX.out, HCx.out]
    obtain ⟨w9, hrun, hm9, hf9⟩ := MapF.store (P := Tryz.prog) (w := w5) st5.can (KeyAt.nat Tryz.underlying3) Tryz.underlying121 x r5
    have hrun : (Instr.mapUpdate 121 (.map (some sb)) (.int .i64 (x : Int)) (.int .i64 (r5 : Int))).run Tryz.prog w5 = .ok () w9 := hrun
    obtain ⟨st9, nx9⟩ := st5.store hf9 hm9 (st5.canOK.upd hx5 hr5 (by rw [hcx5]; exact hcan))
    obtain ⟨w10, hrun2, hm10, hf10⟩ := MapF.store (P := Tryz.prog) (w := w9) st9.can (KeyAt.nat Tryz.underlying3) Tryz.underlying121 r5 r5
    have hrun2 : (Instr.mapUpdate 121 (.map (some sb)) (.int .i64 (r5 : Int)) (.int .i64 (r5 : Int))).run Tryz.prog w9 = .ok () w10 := hrun2
    obtain ⟨st10, nx10⟩ := st9.store hf10 hm10 (st9.canOK.upd hr5 hr5 hcan.self)
    obtain ⟨_, _, _, _, _, _, _, k5, _, _, _⟩ := st5.pool.rd
    obtain ⟨_, _, _, _, _, _, _, k9, _, _, _⟩ := st9.pool.rd
    have HEnd := Lib.hid (And.intro st10 (And.intro (nx15.trans (nx9.trans nx10)) (And.intro hr5 hcan)))
    clear st9 nx9 hr5 hc5 hm9 hf9 st10 nx10 hm10 hf10 hcx5 hx5 hcan nx15 st5 nx5 p5 hM5 hI5 f5 hV5 hB5 hr5e HND HCan
    go_wp2_with fail
    go_ret
    exact ⟨r5, V5, B5, _, _, _, _, rfl, HEnd.out.1, HEnd.out.2.1, HEnd.out.2.2.1, HEnd.out.2.2.2⟩
theorem can_all {U : List Nat} (hUl : U.length < 20000) (pb ob sb : Nat) (ms mn : Value) : ∀ x, CanIs U pb ob sb ms mn x := by
  intro x
  induction x using Nat.strongRecOn with
  | _ x ih => exact can_step hUl pb ob sb ms mn x ih
end Go.Proofs.YtioiljboihehcaaGreatDoor
