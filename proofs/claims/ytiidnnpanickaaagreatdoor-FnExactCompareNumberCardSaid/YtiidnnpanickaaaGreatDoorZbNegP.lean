import Derived.Test.YtiidnnpanickaaaGreatDoorZbPoolLoad
import Derived.Test.YtiidnnpanickaaaGreatDoorZbPoolGe
import Derived.Test.YtiidnnpanickaaaGreatDoorZbSumLaw
/- What the claim of FnExactCompareNumberCard needs of: SumKit NegP. -/
namespace Go.Proofs.YtiidnnpanickaaaGreatDoor
set_option linter.unusedVariables false
set_option linter.unusedSimpArgs false
open Go.RowKit
structure PSt {κ : Type} (ek : κ → Value) (MO : List PL → (κ → Option Nat) → Prop) (U : List Nat) (pb sb : Nat) (mo mc ms mn : Value) (W : World) (V : List PL) (BV : List Nat) (M I : Nat → Prop) (f : κ → Option Nat) : Prop where
  pool : PoolS M I W pb V BV mo mc ms mn
  ok : PoolOK V BV
  inU : ∀ x, x < V.length → (codesOf V).getD x 0 ∈ U
  map : MapF ek encN W sb f
  memo : MO V f
  mlt : ∀ q, M q → q < W.heap.size ∧ q ≠ sb
  ilt : ∀ q, I q → q < W.heap.size ∧ q ≠ sb
structure PNx (sb : Nat) (W : World) (V : List PL) (M I : Nat → Prop) (W' : World) (V' : List PL) (M' I' : Nat → Prop) : Prop where
  pre : V <+: V'
  mM : ∀ q, M' q → M q ∨ W.heap.size ≤ q
  mI : ∀ q, I' q → I q ∨ W.heap.size ≤ q
  fr : Fr (fun q => M q ∨ q = sb) W W'
section
variable {κ : Type} {ek : κ → Value} {MO : List PL → (κ → Option Nat) → Prop} {U : List Nat} {pb sb : Nat} {mo mc ms mn : Value} {W W' W1 W2 : World} {V V' V1 V2 : List PL} {BV BV' : List Nat} {M I M' I' M1 I1 M2 I2 X : Nat → Prop} {f f' : κ → Option Nat}
theorem PSt.fr (h : PSt ek MO U pb sb mo mc ms mn W V BV M I f) (hf : Fr X W W') (hx : ∀ q, X q → ¬ M q ∧ ¬ I q ∧ q ≠ sb) : PSt ek MO U pb sb mo mc ms mn W' V BV M I f :=
  ⟨h.pool.fr hf (fun q hq hX => (hx q hX).1 hq) (fun q hq hX => (hx q hX).2.1 hq), h.ok, h.inU, h.map.fr hf (fun hX => (hx sb hX).2.2 rfl), h.memo, fun q hq => ⟨Nat.lt_of_lt_of_le (h.mlt q hq).1 hf.size, (h.mlt q hq).2⟩, fun q hq => ⟨Nat.lt_of_lt_of_le (h.ilt q hq).1 hf.size, (h.ilt q hq).2⟩⟩
theorem PSt.fr0 (h : PSt ek MO U pb sb mo mc ms mn W V BV M I f) (hf : Fr NoM W W') : PSt ek MO U pb sb mo mc ms mn W' V BV M I f := h.fr hf (fun _ q => q.elim)
theorem PSt.len (h : PSt ek MO U pb sb mo mc ms mn W V BV M I f) : V.length ≤ U.length := pool_size h.ok h.inU
theorem PNx.of0 (hf : Fr NoM W W') : PNx sb W V M I W' V M I := ⟨List.prefix_refl _, fun _ h => .inl h, fun _ h => .inl h, hf.any⟩
theorem PNx.trans (h : PNx sb W V M I W1 V1 M1 I1) (h' : PNx sb W1 V1 M1 I1 W2 V2 M2 I2) : PNx sb W V M I W2 V2 M2 I2 :=
  ⟨h.pre.trans h'.pre, fun q hq => (h'.mM q hq).elim (h.mM q) (fun z => .inr (Nat.le_trans h.fr.size z)), fun q hq => (h'.mI q hq).elim (h.mI q) (fun z => .inr (Nat.le_trans h.fr.size z)),
    h.fr.trans h'.fr (fun k hk q => q.elim (fun q => (h.mM k q).elim .inl (fun z => by omega)) .inr)⟩
theorem PSt.node {L R cs ds : List Nat} (hMO : ∀ {V V' f}, MO V f → V <+: V' → MO V' f) (h : PSt ek MO U pb sb mo mc ms mn W V BV M I f) (hL : RowC V L cs) (hR : RowC V R ds) (hc : mkC cs ds ∈ U)
    (p : PoolS M' I' W' pb (poolPut V BV L R).1 (poolPut V BV L R).2.1 mo mc ms mn) (hM : ∀ q, M' q → M q ∨ W.heap.size ≤ q) (hI : ∀ q, I' q → I q ∨ W.heap.size ≤ q) (hf : Fr M W W') :
    PSt ek MO U pb sb mo mc ms mn W' (poolPut V BV L R).1 (poolPut V BV L R).2.1 (fun q => M' q ∧ q < W'.heap.size) (fun q => I' q ∧ q < W'.heap.size) f ∧
      PNx sb W V M I W' (poolPut V BV L R).1 (fun q => M' q ∧ q < W'.heap.size) (fun q => I' q ∧ q < W'.heap.size) ∧ (poolPut V BV L R).2.2 < (poolPut V BV L R).1.length ∧ (codesOf (poolPut V BV L R).1).getD (poolPut V BV L R).2.2 0 = mkC cs ds := by
  obtain ⟨q1, q2, q3, q4⟩ := put_row h.ok hL hR
  have hsb := h.map.lt
  exact ⟨⟨p.low, q1, poolPut_in h.inU (by rw [q4]; exact hc), h.map.fr hf (fun e => (h.mlt sb e).2 rfl), hMO h.memo q2, fun q hq => ⟨hq.2, fun e => by
      rcases hM q hq.1 with h1 | h1
      · exact (h.mlt q h1).2 e
      · omega⟩, fun q hq => ⟨hq.2, fun e => by
      rcases hI q hq.1 with h1 | h1
      · exact (h.ilt q h1).2 e
      · omega⟩⟩, ⟨q2, fun q hq => hM q hq.1, fun q hq => hI q hq.1, hf.mono (fun _ _ q => .inl q)⟩, q3, q4⟩
end
section
variable {κ : Type} {ek : κ → Value} {MO : List PL → (κ → Option Nat) → Prop} {U : List Nat} {pb sb : Nat} {mo mc ms mn : Value} {w0 W W' Wa : World} {V0 V V' : List PL} {BV BV' TL TR la L R : List Nat} {M0 I0 M I M' I' : Nat → Prop} {f f' : κ → Option Nat} {lv rv va v' : Value} {i j x c : Nat}
end
def NegMO (V : List PL) (f : Nat → Option Nat) : Prop := ∀ k i, f k = some i → k < V.length ∧ i < V.length ∧ (codesOf V).getD i 0 = negC ((codesOf V).getD k 0)
theorem NegMO.mono {V V' : List PL} {f : Nat → Option Nat} (h : NegMO V f) (hp : V <+: V') : NegMO V' f := fun k i e => by
  obtain ⟨a, b, c⟩ := h k i e
  have := hp.length_le
  exact ⟨by omega, by omega, by rw [code_mono hp b, code_mono hp a]; exact c⟩
theorem NegMO.none (V : List PL) : NegMO V (fun _ => none) := fun _ _ h => by cases h
def NegPost (U : List Nat) (pb sb : Nat) (mo mc ms : Value) (w : World) (V : List PL) (M I : Nat → Prop) (c : Nat) (e : Ending) (w' : World) : Prop :=
  ∃ (i : Nat) (V' : List PL) (BV' : List Nat) (M' I' : Nat → Prop) (f' : Nat → Option Nat), e = .returned (.int .i64 (i : Int)) ∧
      PSt encN NegMO U pb sb mo mc ms (.map (some sb)) w' V' BV' M' I' f' ∧ PNx sb w V M I w' V' M' I' ∧ i < V'.length ∧ (codesOf V').getD i 0 = c
end Go.Proofs.YtiidnnpanickaaaGreatDoor
