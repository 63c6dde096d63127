import Derived.Test.YtioiljboihehcaaGreatDoorZaCanKit
import Derived.Test.YtioiljboihehcaaGreatDoorZaWithoutP
import Derived.Test.YtioiljboihehcaaGreatDoorZaThroughP
/- What the claim of FnOneFormCard needs of: RedKit. -/
namespace Go.Proofs.YtioiljboihehcaaGreatDoor

set_option linter.unusedVariables false

set_option linter.unusedSimpArgs false

open Go.RowKit

def CanPost (U : List Nat) (pb ob sb : Nat) (ms mn : Value) (w : World) (V : List PL) (M I : Nat → Prop) (c : Nat) (e : Ending) (w' : World) : Prop :=
  ∃ (i : Nat) (V' : List PL) (BV' : List Nat) (M' I' : Nat → Prop) (fo' : Nat × Nat → Option Bool) (fc' : Nat → Option Nat), e = .returned (.int .i64 (i : Int)) ∧
    CSt U pb ob sb ms mn w' V' BV' M' I' fo' fc' ∧ CNx ob sb w V M I w' V' M' I' ∧ i < V'.length ∧ IsCan ((codesOf V').getD i 0) c

def CanIs (U : List Nat) (pb ob sb : Nat) (ms mn : Value) (x : Nat) : Prop := ∀ (V : List PL) (BV : List Nat) (M I : Nat → Prop) (fo : Nat × Nat → Option Bool) (fc : Nat → Option Nat) (w : World), CSt U pb ob sb ms mn w V BV M I fo fc → x < V.length →
  (∀ a, SubC ((codesOf V).getD x 0) a → canC a ∈ U) → Calls Tryz.prog 80 #[.pointer (some ⟨pb, 0, none⟩), .int .i64 (x : Int)] w fun e w' => CanPost U pb ob sb ms mn w V M I ((codesOf V).getD x 0) e w'

def RedB : Bool → Nat → List Nat → Prop
  | true => RedL
  | false => RedR

def RedPost (lf : Bool) (U : List Nat) (pb ob sb : Nat) (ms mn : Value) (w : World) (V : List PL) (M I : Nat → Prop) (c : Nat) (e : Ending) (w' : World) : Prop :=
  ∃ (v : Value) (L : List Nat) (V' : List PL) (BV' : List Nat) (M' I' : Nat → Prop) (fo' : Nat × Nat → Option Bool) (fc' : Nat → Option Nat), e = .returned v ∧
    CSt U pb ob sb ms mn w' V' BV' M' I' fo' fc' ∧ CNx ob sb w V M I w' V' M' I' ∧ NRow w.heap.size w' v L ∧ (∀ q, v.ownBlock = some q → ¬ M' q ∧ q ≠ ob ∧ q ≠ sb) ∧ L.length ≤ V'.length ∧ (∀ l ∈ L, l < V'.length) ∧ RedB lf c (atAll (codesOf V') L)

def RedIs (lf : Bool) (U : List Nat) (pb ob sb : Nat) (ms mn : Value) (x : Nat) : Prop := ∀ (V : List PL) (BV : List Nat) (M I : Nat → Prop) (fo : Nat × Nat → Option Bool) (fc : Nat → Option Nat) (w : World), CSt U pb ob sb ms mn w V BV M I fo fc → x < V.length →
  (∀ a, SubC ((codesOf V).getD x 0) a → canC a ∈ U) → Calls Tryz.prog 155 #[.pointer (some ⟨pb, 0, none⟩), .int .i64 (x : Int), .bool lf] w fun e w' => RedPost lf U pb ob sb ms mn w V M I ((codesOf V).getD x 0) e w'

theorem RSt.start {U : List Nat} {pb ob sb mb g1 g2 : Nat} {ms mn va : Value} {w0 W : World} {V0 : List PL} {BV la : List Nat} {M0 I0 : Nat → Prop} {fo : Nat × Nat → Option Bool} {fc : Nat → Option Nat}
    (h : CSt U pb ob sb ms mn w0 V0 BV M0 I0 fo fc) (hf : Fr NoM w0 W) (r1 : NRow w0.heap.size W (.slice (some ⟨g1, 0, none⟩) 0 0) []) (r2 : NRow w0.heap.size W (.slice (some ⟨g2, 0, none⟩) 0 0) []) (hm : MapF encN encB W mb (fun _ => none))
    (h1 : w0.heap.size ≤ g1) (h2 : w0.heap.size ≤ g2) (h3 : w0.heap.size ≤ mb) (h12 : g1 ≠ g2) (h13 : g1 ≠ mb) (h23 : g2 ≠ mb) (hn : Nats W va la) (hI : la ≠ [] → ∀ q, va.ownBlock = some q → I0 q) :
    RSt U pb ob sb mb ms mn w0 V0 M0 I0 W (.slice (some ⟨g1, 0, none⟩) 0 0) (.slice (some ⟨g2, 0, none⟩) 0 0) va [] [] la (fun _ => none) V0 BV M0 I0 fo fc := by
  have ho := h.ord.lt
  have hs := h.can.lt
  have old : ∀ g, w0.heap.size ≤ g → ¬ M0 g ∧ ¬ I0 g ∧ g ≠ ob ∧ g ≠ sb := fun g hg => by
    refine ⟨fun z => ?_, fun z => ?_, by omega, by omega⟩
    · have := (h.mlt _ z).1; omega
    · have := (h.ilt _ z).1; omega
  have base : RSt U pb ob sb mb ms mn w0 V0 M0 I0 W (.slice (some ⟨g1, 0, none⟩) 0 0) (.slice (some ⟨g2, 0, none⟩) 0 0) (.slice none 0 0) [] [] [] (fun _ => none) V0 BV M0 I0 fo fc := by
    refine ⟨h.fr0 hf, CNx.of0 hf, r1.own, r2.own, fun q hq => ?_, fun q hq => ?_, hm, ?_, SliceOf.nil _ _, fun hne => absurd rfl hne⟩
    · have e : g1 = q := Option.some.inj hq
      subst e
      obtain ⟨a, b, c, d⟩ := old g1 h1
      exact ⟨a, b, c, d, h13, fun z => h12 (Option.some.inj z).symm⟩
    · have e : g2 = q := Option.some.inj hq
      subst e
      obtain ⟨a, b, c, d⟩ := old g2 h2
      exact ⟨a, b, c, d, h23⟩
    · obtain ⟨a, b, c, d⟩ := old mb h3
      exact ⟨a, b, fun e => c e, fun e => d e, h3⟩
  exact base.look hn hI

/-- What the first loop has put into the queue. -/
def CanRow (V1 : List PL) (C Q la : List Nat) : Prop := (∀ i ∈ Q, i < V1.length ∧ ∃ l ∈ la, IsCan ((codesOf V1).getD i 0) (C.getD l 0)) ∧ (∀ l ∈ la, ∃ i ∈ Q, IsCan ((codesOf V1).getD i 0) (C.getD l 0)) ∧ Q.length = la.length

theorem CanRow.nil (V : List PL) (C : List Nat) : CanRow V C [] [] := ⟨by simp, by simp, rfl⟩

theorem CanRow.mono {V1 V2 : List PL} {C Q la : List Nat} (h : CanRow V1 C Q la) (hp : V1 <+: V2) : CanRow V2 C Q la := by
  have hl := hp.length_le
  refine ⟨fun i hi => ?_, fun l hl => ?_, h.2.2⟩
  · obtain ⟨a, b⟩ := h.1 i hi
    rw [code_mono hp a]
    exact ⟨by omega, b⟩
  · obtain ⟨i, hi, e⟩ := h.2.1 l hl
    refine ⟨i, hi, ?_⟩
    rw [code_mono hp (h.1 i hi).1]
    exact e

theorem CanRow.push {V1 : List PL} {C Q la : List Nat} {i l : Nat} (h : CanRow V1 C Q la) (hi : i < V1.length) (hc : IsCan ((codesOf V1).getD i 0) (C.getD l 0)) : CanRow V1 C (Q ++ [i]) (la ++ [l]) := by
  refine ⟨fun j hj => ?_, fun m hm => ?_, by simp [h.2.2]⟩
  · rcases List.mem_append.1 hj with hj | hj
    · obtain ⟨a, m, hm, e⟩ := h.1 j hj
      exact ⟨a, m, List.mem_append_left _ hm, e⟩
    · rw [List.mem_singleton.1 hj]
      exact ⟨hi, l, by simp, hc⟩
  · rcases List.mem_append.1 hm with hm | hm
    · obtain ⟨j, hj, e⟩ := h.2.1 m hm
      exact ⟨j, List.mem_append_left _ hj, e⟩
    · rw [List.mem_singleton.1 hm]
      exact ⟨i, by simp, hc⟩

theorem take_at {L : List Nat} {k l : Nat} (h : L[k]? = some l) : L.take (k + 1) = L.take k ++ [l] := by
  obtain ⟨hi, e⟩ := List.getElem?_eq_some_iff.1 h
  rw [List.take_succ_eq_append_getElem hi, e]

theorem QL.init {V : List PL} {C Q la : List Nat} {cf : Nat} (h : CanRow V C Q la) (hla : ∀ l, hasL cf l ↔ ∃ x ∈ la, C.getD x 0 = l) : QL V (codesOf V) cf (fun _ => false) Q [] := by
  refine ⟨fun i hi => ?_, by simp, fun i hi => (Bool.noConfusion hi), fun l hl => ?_, by simp⟩
  · have hi := hi.resolve_left (by simp)
    obtain ⟨a, l, hl, e⟩ := h.1 i hi
    exact ⟨a, e.1, not_ge_of_le e.2.2 (opt_left ((hla _).2 ⟨l, hl, rfl⟩))⟩
  · obtain ⟨x, hx, e⟩ := (hla l).1 hl
    obtain ⟨i, hi, z⟩ := h.2.1 x hx
    exact ⟨i, .inr hi, by rw [← e]; exact z.2.1⟩

theorem QR.init {V : List PL} {C Q la : List Nat} {cf : Nat} (h : CanRow V C Q la) (hla : ∀ l, hasR cf l ↔ ∃ x ∈ la, C.getD x 0 = l) : QR V (codesOf V) cf (fun _ => false) Q [] := by
  refine ⟨fun i hi => ?_, by simp, fun i hi => (Bool.noConfusion hi), fun l hl => ?_, by simp⟩
  · have hi := hi.resolve_left (by simp)
    obtain ⟨a, l, hl, e⟩ := h.1 i hi
    exact ⟨a, e.1, not_ge_of_ge e.2.1 (opt_right ((hla _).2 ⟨l, hl, rfl⟩))⟩
  · obtain ⟨x, hx, e⟩ := (hla l).1 hl
    obtain ⟨i, hi, z⟩ := h.2.1 x hx
    exact ⟨i, .inr hi, by rw [← e]; exact z.2.2⟩

/-- The map of what has been seen. -/
def sawF (S : Nat → Bool) : Nat → Option Bool := fun i => if S i = true then some true else none

theorem sawF_none : sawF (fun _ => false) = fun _ => none := by
  funext i
  simp [sawF]

theorem sawF_upd (S : Nat → Bool) (i : Nat) : upd (sawF S) i true = sawF (addS S i) := by
  funext k
  unfold Go.Proofs.YtioiljboihehcaaGreatDoor.upd sawF addS
  by_cases e : k = i
  · simp [e]
  · simp [e]

theorem sawF_get (S : Nat → Bool) (i : Nat) : ((sawF S i).map encB).getD (.bool false) = .bool (S i) := by
  unfold sawF
  cases S i <;> rfl

theorem sawF_some (S : Nat → Bool) (i : Nat) : (sawF S i).isSome = S i := by
  unfold sawF
  cases S i <;> rfl

def cntS (S : Nat → Bool) (N : Nat) : Nat := ((List.range N).filter S).length

theorem cnt_le (S : Nat → Bool) (N : Nat) : cntS S N ≤ N := by
  have := List.length_filter_le S (List.range N)
  rw [List.length_range] at this
  exact this

theorem cnt_add (S : Nat → Bool) (i : Nat) (hi : ¬ S i = true) : ∀ N, cntS (addS S i) N = cntS S N + if i < N then 1 else 0
  | 0 => by simp [cntS]
  | N + 1 => by
    have ih := cnt_add S i hi N
    unfold cntS at ih ⊢
    rw [List.range_succ, List.filter_append, List.filter_append, List.length_append, List.length_append, ih]
    have hi : S i = false := by simpa using hi
    by_cases e : N = i
    · subst e
      simp [addS, hi]
    · have h1 : addS S i N = S N := by simp [addS, e]
      have h2 : (if i < N + 1 then 1 else 0 : Nat) = if i < N then 1 else 0 := by
        by_cases h : i < N
        · rw [if_pos h, if_pos (by omega)]
        · rw [if_neg h, if_neg (by omega)]
      rw [h2]
      simp only [List.filter_cons, List.filter_nil, h1]
      omega

theorem MapF.uniq {κ α : Type} {ek : κ → Value} {ev : α → Value} {w : World} {b : Nat} {f g : κ → Option α} (hk : ∀ {a b : κ}, ek a = ek b → a = b) (hv : ∀ {a b : α}, ev a = ev b → a = b) (hf : MapF ek ev w b f) (hg : MapF ek ev w b g) : f = g := by
  obtain ⟨es, cl, h0, _, h2, h3⟩ := hf
  obtain ⟨es', cl', g0, _, g2, g3⟩ := hg
  rw [h0] at g0
  cases g0
  funext k
  cases e : f k with
  | none =>
    cases e' : g k with
    | none => rfl
    | some a =>
      obtain ⟨x, hx, ex⟩ := g3 k a e'
      obtain ⟨k', a', e1, _, e3⟩ := h2 x hx
      have := hk (e1.symm.trans ex)
      subst this
      rw [e] at e3; cases e3
  | some a =>
    obtain ⟨x, hx, ex⟩ := h3 k a e
    obtain ⟨k1, a1, e1, e2, e3⟩ := h2 x hx
    obtain ⟨k2, a2, d1, d2, d3⟩ := g2 x hx
    have q1 := hk (e1.symm.trans ex)
    have q2 := hk (d1.symm.trans ex)
    subst q1; subst q2
    rw [d3, hv (d2.symm.trans e2), ← e3, e]

open Classical in
noncomputable def seenN (W : World) (mb N : Nat) : Nat := if h : ∃ S, MapF encN encB W mb (sawF S) then cntS (fun i => (sawF (Classical.choose h) i).isSome) N else 0

theorem seenN_eq {W : World} {mb N : Nat} {S : Nat → Bool} (h : MapF encN encB W mb (sawF S)) : seenN W mb N = cntS S N := by
  have he : ∃ S, MapF encN encB W mb (sawF S) := ⟨S, h⟩
  unfold seenN
  rw [dif_pos he, MapF.uniq encN_inj (fun {a b} e => by unfold encB at e; simpa using e) (Classical.choose_spec he) h]
  congr 1
  funext i
  exact sawF_some S i

def lenOf : Value → Nat
  | .slice _ n _ => n
  | _ => 0

theorem meas_push {N c q m : Nat} (hc : c < N) (hm : m ≤ N) : (N - (c + 1)) * (N + 1) + (q + m) < (N - c) * (N + 1) + (q + 1) := by
  obtain ⟨d, rfl⟩ : ∃ d, N = c + 1 + d := ⟨N - (c + 1), by omega⟩
  have e1 : c + 1 + d - (c + 1) = d := by omega
  have e2 : c + 1 + d - c = d + 1 := by omega
  rw [e1, e2, Nat.succ_mul]
  omega

theorem qcap {c N q : Nat} (hc : c ≤ N) (hN : N < 20000) (h : q ≤ (c + 1) * N) : q ≤ 400020000 := by
  have h1 : (c + 1) * N ≤ 20001 * 20000 := Nat.mul_le_mul (by omega) (by omega)
  omega

theorem cnt_lt {S : Nat → Bool} {i N : Nat} (hi : ¬ S i = true) (hl : i < N) : cntS S N < N := by
  have h1 := cnt_add S i hi N
  rw [if_pos hl] at h1
  have h2 := cnt_le (addS S i) N
  omega

theorem nodup_below {L : List Nat} {N : Nat} (h : L.Nodup) (hl : ∀ x ∈ L, x < N) : L.length ≤ N := by
  have := h.length_le_of_subset (fun x hx => List.mem_range.2 (hl x hx))
  rwa [List.length_range] at this

section

variable {U : List Nat} {pb ob sb mb : Nat} {ms mn : Value} {w0 W : World} {V0 V : List PL} {BV Q Kp la : List Nat} {M0 I0 M I : Nat → Prop} {fo : Nat × Nat → Option Bool} {fc : Nat → Option Nat} {fs : Nat → Option Bool} {qv kv va : Value}

theorem RSt.qshape {i : Nat} (h : RSt U pb ob sb mb ms mn w0 V0 M0 I0 W qv kv va (Q ++ [i]) Kp la fs V BV M I fo fc) : ∃ g c, qv = .slice (some ⟨g, 0, none⟩) (Q.length + 1) c ∧ W.cell? ⟨g, Q.length, none⟩ = some (.int .i64 (i : Int)) ∧ Q.length + 1 ≤ c := by
  obtain ⟨g, c, e, _⟩ := owns_pos h.rq (by simp)
  subst e
  obtain ⟨a, c', e, hle, _, hc⟩ := SliceOf.of_owns h.rq rfl
  rw [List.length_append, List.length_singleton] at e ⊢
  rw [List.length_append, List.length_singleton] at hle
  cases e
  obtain ⟨b, off, e1, e2⟩ := hc Q.length i (by simp)
  cases e1
  refine ⟨g, c, rfl, ?_, hle⟩
  rw [Nat.zero_add] at e2
  exact e2

theorem RSt.qempty (h : RSt U pb ob sb mb ms mn w0 V0 M0 I0 W qv kv va [] Kp la fs V BV M I fo fc) : ∃ a c, qv = .slice a 0 c := by
  rcases h.rq.2 with ⟨e, h0⟩ | ⟨g, cap, cur, e, _⟩
  · exact ⟨_, _, e⟩
  · exact ⟨_, _, e⟩

theorem RSt.qlen (h : RSt U pb ob sb mb ms mn w0 V0 M0 I0 W qv kv va Q Kp la fs V BV M I fo fc) : lenOf qv = Q.length := by
  rcases h.rq.2 with ⟨e, h0⟩ | ⟨g, cap, cur, e, _⟩
  · rw [e, h0]; rfl
  · rw [e]; rfl

end

end Go.Proofs.YtioiljboihehcaaGreatDoor
