/- A pool with a map of results beside it, and two rows that a call makes while the pool grows. -/
import Derived.Test.YtioiljboihehcaaGreatDoorPoolLoad
import Derived.Test.YtioiljboihehcaaGreatDoorPoolGe
import Derived.Test.YtioiljboihehcaaGreatDoorSumLaw
namespace Go.Proofs.YtioiljboihehcaaGreatDoor
set_option linter.unusedVariables false
set_option linter.unusedSimpArgs false
open Go.RowKit

structure PSt {κ : Type} (ek : κ → Value) (MO : List PL → (κ → Option Nat) → Prop) (U : List Nat) (pb sb : Nat) (mo mc ms mn : Value) (W : World) (V : List PL) (BV : List Nat) (M I : Nat → Prop) (f : κ → Option Nat) : Prop where
  pool : PoolS M I W pb V BV mo mc ms mn
  ok : PoolOK V BV
  inU : ∀ x, x < V.length → (codesOf V).getD x 0 ∈ U
  map : MapF ek encN W sb f
  memo : MO V f
  mlt : ∀ q, M q → q < W.heap.size ∧ q ≠ sb
  ilt : ∀ q, I q → q < W.heap.size ∧ q ≠ sb
/-- How a pool may have changed. -/
structure PNx (sb : Nat) (W : World) (V : List PL) (M I : Nat → Prop) (W' : World) (V' : List PL) (M' I' : Nat → Prop) : Prop where
  pre : V <+: V'
  mM : ∀ q, M' q → M q ∨ W.heap.size ≤ q
  mI : ∀ q, I' q → I q ∨ W.heap.size ≤ q
  fr : Fr (fun q => M q ∨ q = sb) W W'
section
variable {κ : Type} {ek : κ → Value} {MO : List PL → (κ → Option Nat) → Prop} {U : List Nat} {pb sb : Nat} {mo mc ms mn : Value} {W W' W1 W2 : World} {V V' V1 V2 : List PL} {BV BV' : List Nat} {M I M' I' M1 I1 M2 I2 X : Nat → Prop} {f f' : κ → Option Nat}
theorem PoolS.sep (h : PoolS M I W pb V BV mo mc ms mn) : ∀ q, M q → ¬ I q := by
  obtain ⟨lv, rv, bv, fb, LS, RS, _, _, _, _, _, _, _, _, m, _⟩ := h
  exact m
theorem PoolS.pbM (h : PoolS M I W pb V BV mo mc ms mn) : M pb := by
  obtain ⟨lv, rv, bv, fb, LS, RS, _, _, _, m, _⟩ := h
  exact m
theorem PSt.fr (h : PSt ek MO U pb sb mo mc ms mn W V BV M I f) (hf : Fr X W W') (hx : ∀ q, X q → ¬ M q ∧ ¬ I q ∧ q ≠ sb) : PSt ek MO U pb sb mo mc ms mn W' V BV M I f :=
  ⟨h.pool.fr hf (fun q hq hX => (hx q hX).1 hq) (fun q hq hX => (hx q hX).2.1 hq), h.ok, h.inU, h.map.fr hf (fun hX => (hx sb hX).2.2 rfl), h.memo, fun q hq => ⟨Nat.lt_of_lt_of_le (h.mlt q hq).1 hf.size, (h.mlt q hq).2⟩, fun q hq => ⟨Nat.lt_of_lt_of_le (h.ilt q hq).1 hf.size, (h.ilt q hq).2⟩⟩
theorem PSt.fr0 (h : PSt ek MO U pb sb mo mc ms mn W V BV M I f) (hf : Fr NoM W W') : PSt ek MO U pb sb mo mc ms mn W' V BV M I f := h.fr hf (fun _ q => q.elim)
theorem PSt.len (h : PSt ek MO U pb sb mo mc ms mn W V BV M I f) : V.length ≤ U.length := pool_size h.ok h.inU
theorem PNx.refl (sb : Nat) (W : World) (V : List PL) (M I : Nat → Prop) : PNx sb W V M I W V M I := ⟨List.prefix_refl _, fun _ h => .inl h, fun _ h => .inl h, Fr.refl _ _⟩
theorem PNx.of0 (hf : Fr NoM W W') : PNx sb W V M I W' V M I := ⟨List.prefix_refl _, fun _ h => .inl h, fun _ h => .inl h, hf.any⟩
theorem PNx.trans (h : PNx sb W V M I W1 V1 M1 I1) (h' : PNx sb W1 V1 M1 I1 W2 V2 M2 I2) : PNx sb W V M I W2 V2 M2 I2 :=
  ⟨h.pre.trans h'.pre, fun q hq => (h'.mM q hq).elim (h.mM q) (fun z => .inr (Nat.le_trans h.fr.size z)), fun q hq => (h'.mI q hq).elim (h.mI q) (fun z => .inr (Nat.le_trans h.fr.size z)),
    h.fr.trans h'.fr (fun k hk q => q.elim (fun q => (h.mM k q).elim .inl (fun z => by omega)) .inr)⟩
theorem PNx.own {v : Value} (h : PNx sb W V M I W1 V1 M1 I1) (hf : Fr (Own1 v) W1 W2) (hv : ∀ q, v.ownBlock = some q → W.heap.size ≤ q) : PNx sb W V M I W2 V1 M1 I1 :=
  ⟨h.pre, h.mM, h.mI, h.fr.trans hf (fun k hk q => by have := hv k q; omega)⟩
/-- The pool behind a call of node. -/
theorem PSt.node {L R cs ds : List Nat} (hMO : ∀ {V V' f}, MO V f → V <+: V' → MO V' f) (h : PSt ek MO U pb sb mo mc ms mn W V BV M I f) (hL : RowC V L cs) (hR : RowC V R ds) (hc : mkC cs ds ∈ U)
    (p : PoolS M' I' W' pb (poolPut V BV L R).1 (poolPut V BV L R).2.1 mo mc ms mn) (hM : ∀ q, M' q → M q ∨ W.heap.size ≤ q) (hI : ∀ q, I' q → I q ∨ W.heap.size ≤ q) (hf : Fr M W W') :
    PSt ek MO U pb sb mo mc ms mn W' (poolPut V BV L R).1 (poolPut V BV L R).2.1 (fun q => M' q ∧ q < W'.heap.size) (fun q => I' q ∧ q < W'.heap.size) f ∧
      PNx sb W V M I W' (poolPut V BV L R).1 (fun q => M' q ∧ q < W'.heap.size) (fun q => I' q ∧ q < W'.heap.size) ∧ (poolPut V BV L R).2.2 < (poolPut V BV L R).1.length ∧ (codesOf (poolPut V BV L R).1).getD (poolPut V BV L R).2.2 0 = mkC cs ds := by
  obtain ⟨q1, q2, q3, q4⟩ := put_row h.ok hL hR
  have hsb := h.map.lt
  exact ⟨⟨p.low, q1, poolPut_in h.inU (by rw [q4]; exact hc), h.map.fr hf (fun e => (h.mlt sb e).2 rfl), hMO h.memo q2, fun q hq => ⟨hq.2, fun e => by
      rcases hM q hq.1 with h1 | h1
      · exact (h.mlt q h1).2 e
      · omega⟩, fun q hq => ⟨hq.2, fun e => by
      rcases hI q hq.1 with h1 | h1
      · exact (h.ilt q h1).2 e
      · omega⟩⟩, ⟨q2, fun q hq => hM q hq.1, fun q hq => hI q hq.1, hf.mono (fun _ _ q => .inl q)⟩, q3, q4⟩
/-- The pool behind a store into its map. -/
theorem PSt.store (h : PSt ek MO U pb sb mo mc ms mn W V BV M I f) (hf : Fr (fun q => q = sb) W W') (hm : MapF ek encN W' sb f') (ho : MO V f') : PSt ek MO U pb sb mo mc ms mn W' V BV M I f' ∧ PNx sb W V M I W' V M I :=
  ⟨⟨h.pool.fr hf (fun q hq e => (h.mlt q hq).2 e) (fun q hq e => (h.ilt q hq).2 e), h.ok, h.inU, hm, ho, fun q hq => ⟨Nat.lt_of_lt_of_le (h.mlt q hq).1 hf.size, (h.mlt q hq).2⟩, fun q hq => ⟨Nat.lt_of_lt_of_le (h.ilt q hq).1 hf.size, (h.ilt q hq).2⟩⟩,
    ⟨List.prefix_refl _, fun _ h => .inl h, fun _ h => .inl h, hf.mono (fun _ _ q => .inr q)⟩⟩
end

/-- What a call holds while it makes the two rows of a game's options. -/
structure SumSt {κ : Type} (ek : κ → Value) (MO : List PL → (κ → Option Nat) → Prop) (U : List Nat) (pb sb : Nat) (mo mc ms mn : Value) (w0 : World) (V0 : List PL) (M0 I0 : Nat → Prop) (TL TR : List Nat)
    (W : World) (lv rv va : Value) (i j : Nat) (la : List Nat) (V : List PL) (BV : List Nat) (M I : Nat → Prop) (f : κ → Option Nat) (L R : List Nat) : Prop where
  st : PSt ek MO U pb sb mo mc ms mn W V BV M I f
  nx : PNx sb w0 V0 M0 I0 W V M I
  rl : NRow w0.heap.size W lv L
  rr : NRow w0.heap.size W rv R
  cl : RowC V L (TL.take i)
  cr : RowC V R (TR.take j)
  sl : ∀ q, lv.ownBlock = some q → ¬ M q ∧ ¬ I q ∧ q ≠ sb ∧ rv.ownBlock ≠ some q
  sr : ∀ q, rv.ownBlock = some q → ¬ M q ∧ ¬ I q ∧ q ≠ sb
  src : Nats W va la
  ss : la ≠ [] → ∀ q, va.ownBlock = some q → ¬ M q ∧ q ≠ sb ∧ lv.ownBlock ≠ some q ∧ rv.ownBlock ≠ some q
section
variable {κ : Type} {ek : κ → Value} {MO : List PL → (κ → Option Nat) → Prop} {U : List Nat} {pb sb : Nat} {mo mc ms mn : Value} {w0 W W' Wa : World} {V0 V V' : List PL} {BV BV' TL TR la L R : List Nat} {M0 I0 M I M' I' : Nat → Prop} {f f' : κ → Option Nat} {lv rv va v' : Value} {i j x c : Nat}
theorem SumSt.call (h : SumSt ek MO U pb sb mo mc ms mn w0 V0 M0 I0 TL TR W lv rv va i j la V BV M I f L R) (st : PSt ek MO U pb sb mo mc ms mn W' V' BV' M' I' f') (nx : PNx sb W V M I W' V' M' I') :
    SumSt ek MO U pb sb mo mc ms mn w0 V0 M0 I0 TL TR W' lv rv va i j la V' BV' M' I' f' L R := by
  have kM : ∀ q, q < W.heap.size → ¬ M q → ¬ M' q := fun q hq hm e => (nx.mM q e).elim hm (fun z => by omega)
  have kI : ∀ q, q < W.heap.size → ¬ I q → ¬ I' q := fun q hq hm e => (nx.mI q e).elim hm (fun z => by omega)
  refine ⟨st, h.nx.trans nx, h.rl.fr nx.fr (fun q hq e => e.elim (h.sl q hq).1 (h.sl q hq).2.2.1), h.rr.fr nx.fr (fun q hq e => e.elim (h.sr q hq).1 (h.sr q hq).2.2), h.cl.mono nx.pre, h.cr.mono nx.pre, fun q hq => ?_, fun q hq => ?_, h.src.fr nx.fr (fun hne q hq e => e.elim (h.ss hne q hq).1 (h.ss hne q hq).2.1), fun hne q hq => ?_⟩
  · have hl := (h.rl.own.lt q hq).2
    obtain ⟨a, b, c, d⟩ := h.sl q hq
    exact ⟨kM q hl a, kI q hl b, c, d⟩
  · have hl := (h.rr.own.lt q hq).2
    obtain ⟨a, b, c⟩ := h.sr q hq
    exact ⟨kM q hl a, kI q hl b, c⟩
  · obtain ⟨b, hb, hl⟩ := h.src.block hne
    rw [hq] at hb; cases hb
    obtain ⟨a, b, c, d⟩ := h.ss hne q hq
    exact ⟨kM q hl a, b, c, d⟩
theorem SumSt.fr0 (h : SumSt ek MO U pb sb mo mc ms mn w0 V0 M0 I0 TL TR W lv rv va i j la V BV M I f L R) (hf : Fr NoM W W') : SumSt ek MO U pb sb mo mc ms mn w0 V0 M0 I0 TL TR W' lv rv va i j la V BV M I f L R :=
  h.call (h.st.fr0 hf) (PNx.of0 hf)
theorem SumSt.pushL (h : SumSt ek MO U pb sb mo mc ms mn w0 V0 M0 I0 TL TR W lv rv va i j la V BV M I f L R) (ha : Fr NoM W Wa) (ho : W'.ownsRow w0.heap.size 3 1 v' (L.length + 1) (L.map encN ++ [encN x])) (hf : Fr (Own1 lv) Wa W')
    (hq : v'.ownBlock = lv.ownBlock ∨ ∃ b, v'.ownBlock = some b ∧ Wa.heap.size ≤ b) (hi : TL[i]? = some c) (hx : x < V.length) (hc : (codesOf V).getD x 0 = c) :
    SumSt ek MO U pb sb mo mc ms mn w0 V0 M0 I0 TL TR W' v' rv va (i + 1) j la V BV M I f (L ++ [x]) R := by
  have h := h.fr0 ha
  have nw : ∀ q, v'.ownBlock = some q → lv.ownBlock = some q ∨ Wa.heap.size ≤ q := fun q e => by
    rcases hq with h1 | ⟨b, h1, h2⟩
    · exact .inl (h1 ▸ e)
    · rw [h1] at e; cases e; exact .inr h2
  refine ⟨h.st.fr hf (fun q hq' => ⟨(h.sl q hq').1, (h.sl q hq').2.1, (h.sl q hq').2.2.1⟩), h.nx.own hf (fun q hq' => (h.rl.own.lt q hq').1), NRow.snoc ho, h.rr.fr hf (fun q hq' e => (h.sl q e).2.2.2 hq'), h.cl.next hi hx hc, h.cr, fun q e => ?_, h.sr, h.src.fr hf (fun hne q hq' e => (h.ss hne q hq').2.2.1 e), fun hne q hq' => ?_⟩
  · rcases nw q e with e' | e'
    · exact h.sl q e'
    · refine ⟨fun z => ?_, fun z => ?_, fun z => ?_, fun z => ?_⟩
      · have := (h.st.mlt q z).1; omega
      · have := (h.st.ilt q z).1; omega
      · have := h.st.map.lt; omega
      · have := (h.rr.own.lt q z).2; omega
  · obtain ⟨a, b, c, d⟩ := h.ss hne q hq'
    refine ⟨a, b, fun e => ?_, d⟩
    rcases nw q e with e' | e'
    · exact c e'
    · obtain ⟨b', hb, hl⟩ := h.src.block hne
      rw [hq'] at hb; cases hb; omega
theorem SumSt.pushR (h : SumSt ek MO U pb sb mo mc ms mn w0 V0 M0 I0 TL TR W lv rv va i j la V BV M I f L R) (ha : Fr NoM W Wa) (ho : W'.ownsRow w0.heap.size 3 1 v' (R.length + 1) (R.map encN ++ [encN x])) (hf : Fr (Own1 rv) Wa W')
    (hq : v'.ownBlock = rv.ownBlock ∨ ∃ b, v'.ownBlock = some b ∧ Wa.heap.size ≤ b) (hi : TR[j]? = some c) (hx : x < V.length) (hc : (codesOf V).getD x 0 = c) :
    SumSt ek MO U pb sb mo mc ms mn w0 V0 M0 I0 TL TR W' lv v' va i (j + 1) la V BV M I f L (R ++ [x]) := by
  have h := h.fr0 ha
  have nw : ∀ q, v'.ownBlock = some q → rv.ownBlock = some q ∨ Wa.heap.size ≤ q := fun q e => by
    rcases hq with h1 | ⟨b, h1, h2⟩
    · exact .inl (h1 ▸ e)
    · rw [h1] at e; cases e; exact .inr h2
  refine ⟨h.st.fr hf (fun q hq' => ⟨(h.sr q hq').1, (h.sr q hq').2.1, (h.sr q hq').2.2⟩), h.nx.own hf (fun q hq' => (h.rr.own.lt q hq').1), h.rl.fr hf (fun q hq' e => (h.sl q hq').2.2.2 e), NRow.snoc ho, h.cl, h.cr.next hi hx hc, fun q e => ?_, fun q e => ?_, h.src.fr hf (fun hne q hq' e => (h.ss hne q hq').2.2.2 e), fun hne q hq' => ?_⟩
  · obtain ⟨a, b, c, d⟩ := h.sl q e
    refine ⟨a, b, c, fun z => ?_⟩
    rcases nw q z with z | z
    · exact d z
    · have := (h.rl.own.lt q e).2; omega
  · rcases nw q e with e' | e'
    · exact h.sr q e'
    · refine ⟨fun z => ?_, fun z => ?_, fun z => ?_⟩
      · have := (h.st.mlt q z).1; omega
      · have := (h.st.ilt q z).1; omega
      · have := h.st.map.lt; omega
  · obtain ⟨a, b, c, d⟩ := h.ss hne q hq'
    refine ⟨a, b, c, fun e => ?_⟩
    rcases nw q e with e' | e'
    · exact d e'
    · obtain ⟨b', hb, hl⟩ := h.src.block hne
      rw [hq'] at hb; cases hb; omega
/-- The options that are gone through next. -/
theorem SumSt.look {va' : Value} {la' : List Nat} (h : SumSt ek MO U pb sb mo mc ms mn w0 V0 M0 I0 TL TR W lv rv va i j la V BV M I f L R) (hn : Nats W va' la') (hI : la' ≠ [] → ∀ q, va'.ownBlock = some q → I q) :
    SumSt ek MO U pb sb mo mc ms mn w0 V0 M0 I0 TL TR W lv rv va' i j la' V BV M I f L R :=
  ⟨h.st, h.nx, h.rl, h.rr, h.cl, h.cr, h.sl, h.sr, hn, fun hne q hq => ⟨fun e => h.st.pool.sep q e (hI hne q hq), (h.st.ilt q (hI hne q hq)).2, fun e => (h.sl q e).2.1 (hI hne q hq), fun e => (h.sr q e).2.1 (hI hne q hq)⟩⟩
theorem SumSt.start {g1 g2 : Nat} (h : PSt ek MO U pb sb mo mc ms mn w0 V0 BV M0 I0 f) (hf : Fr NoM w0 W) (r1 : NRow w0.heap.size W (.slice (some ⟨g1, 0, none⟩) 0 0) []) (r2 : NRow w0.heap.size W (.slice (some ⟨g2, 0, none⟩) 0 0) []) (h1 : w0.heap.size ≤ g1) (h2 : w0.heap.size ≤ g2) (h12 : g1 ≠ g2) (va : Value) (la : List Nat)
    (hn : Nats W va la) (hI : la ≠ [] → ∀ q, va.ownBlock = some q → I0 q) :
    SumSt ek MO U pb sb mo mc ms mn w0 V0 M0 I0 TL TR W (.slice (some ⟨g1, 0, none⟩) 0 0) (.slice (some ⟨g2, 0, none⟩) 0 0) va 0 0 la V0 BV M0 I0 f [] [] := by
  have hs := h.map.lt
  have base : SumSt ek MO U pb sb mo mc ms mn w0 V0 M0 I0 TL TR W (.slice (some ⟨g1, 0, none⟩) 0 0) (.slice (some ⟨g2, 0, none⟩) 0 0) (.slice none 0 0) 0 0 [] V0 BV M0 I0 f [] [] := by
    refine ⟨h.fr0 hf, PNx.of0 hf, r1, r2, RowC.nil _, RowC.nil _, fun q hq => ?_, fun q hq => ?_, SliceOf.nil _ _, fun hne => absurd rfl hne⟩
    · have e : g1 = q := Option.some.inj hq
      subst e
      refine ⟨fun z => ?_, fun z => ?_, fun z => ?_, fun z => h12 (Option.some.inj z).symm⟩
      · have := (h.mlt _ z).1; omega
      · have := (h.ilt _ z).1; omega
      · omega
    · have e : g2 = q := Option.some.inj hq
      subst e
      refine ⟨fun z => ?_, fun z => ?_, fun z => ?_⟩
      · have := (h.mlt _ z).1; omega
      · have := (h.ilt _ z).1; omega
      · omega
  exact base.look hn hI
end
end Go.Proofs.YtioiljboihehcaaGreatDoor
