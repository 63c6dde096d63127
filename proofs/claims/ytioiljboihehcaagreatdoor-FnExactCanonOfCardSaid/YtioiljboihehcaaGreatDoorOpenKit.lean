/- The reference's l6Open: its line of options, and what it holds in memory. -/
import Derived.Test.YtioiljboihehcaaGreatDoorCanQ
import Derived.Test.YtioiljboihehcaaGreatDoorRefThrough
import Derived.Test.YtioiljboihehcaaGreatDoorBookRoot
namespace Go.Proofs.YtioiljboihehcaaGreatDoor
set_option linter.unusedVariables false
set_option linter.unusedSimpArgs false
open Go.RowKit

theorem mem_take_drop {L : List Nat} (i x : Nat) : (x ∈ L.take i ∨ x ∈ L.drop i) ↔ x ∈ L := by
  rw [← List.mem_append, List.take_append_drop]
theorem up_nodup {L : List Nat} (h : L.Pairwise (· < ·)) : L.Nodup := h.imp (fun h => Nat.ne_of_lt h)
def takeS (Ln : List Nat) (i : Nat) : Nat → Bool := fun x => decide (x ∈ Ln.take i)
theorem takeS_iff {Ln : List Nat} {i x : Nat} : takeS Ln i x = true ↔ x ∈ Ln.take i := by
  unfold takeS; rw [decide_eq_true_eq]
theorem line_at {Ln : List Nat} {i x : Nat} (h : Ln[i]? = some x) : Ln.take (i + 1) = Ln.take i ++ [x] ∧ Ln.drop i = x :: Ln.drop (i + 1) := by
  obtain ⟨hi, e⟩ := List.getElem?_eq_some_iff.1 h
  exact ⟨by rw [List.take_succ_eq_append_getElem hi, e], by rw [List.drop_eq_getElem_cons hi, e]⟩
theorem line_new {Ln : List Nat} {i x : Nat} (h : Ln[i]? = some x) (hn : Ln.Nodup) : x ∉ Ln.take i := by
  obtain ⟨e1, e2⟩ := line_at h
  intro hx
  rw [← List.take_append_drop i Ln, e2, List.nodup_append] at hn
  exact hn.2.2 x hx x (by simp) rfl
section
variable {V V' : List PL} {C : List Nat} {cf : Nat} {S S' : Nat → Bool} {Q Q' Kp Kp' : List Nat} {i k x : Nat} {Ln Ln' : List Nat}
theorem QL.same (h : QL V C cf S Q Kp) (hS : ∀ x, S' x = true ↔ S x = true) (hq : ∀ x, (S' x = true ∨ x ∈ Q') ↔ (S x = true ∨ x ∈ Q)) (hk : ∀ x, x ∈ Kp' ↔ x ∈ Kp) (hn : Kp'.Nodup) : QL V C cf S' Q' Kp' :=
  ⟨fun i hi => h.snd i ((hq i).1 hi), fun i hi => ⟨(hS i).2 (h.kp i ((hk i).1 hi)).1, (h.kp i ((hk i).1 hi)).2⟩, fun i hi => (h.seen i ((hS i).1 hi)).imp (hk i).2 (fun ⟨k, a, b, c⟩ => ⟨k, a, b, fun l hl => (hq l).2 (c l hl)⟩), fun l hl => by
    obtain ⟨i, hi, e⟩ := h.opt l hl
    exact ⟨i, (hq i).2 hi, e⟩, hn⟩
theorem QL.mono (B : BookC V (codesOf V)) (h : QL V (codesOf V) cf S Q Kp) (hp : V <+: V') : QL V' (codesOf V') cf S Q Kp := by
  have hl := hp.length_le
  have hs : ∀ i, S i = true → i < V.length := fun i hi => (h.snd i (.inl hi)).1
  refine ⟨fun i hi => ?_, fun i hi => ?_, fun i hi => ?_, fun l hl => ?_, h.nodup⟩
  · obtain ⟨a, b⟩ := h.snd i hi
    rw [code_mono hp a]
    exact ⟨by omega, b⟩
  · obtain ⟨a, b⟩ := h.kp i hi
    have hil := hs i a
    rw [node_mono hp hil]
    refine ⟨a, fun r hr => ?_⟩
    rw [code_mono hp (by have := (B.opts i _ (node_at hil)).2 r hr; omega)]
    exact b r hr
  · have hil := hs i hi
    refine (h.seen i hi).imp_right ?_
    rintro ⟨k, a, b, c⟩
    have hk : k < V.length := by have := (B.opts i _ (node_at hil)).2 k a; omega
    refine ⟨k, by rw [node_mono hp hil]; exact a, by rw [code_mono hp hk]; exact b, ?_⟩
    rw [node_mono hp hk]
    exact c
  · obtain ⟨i, hi, e⟩ := h.opt l hl
    exact ⟨i, hi, by rw [code_mono hp (h.snd i hi).1]; exact e⟩
structure LQL (V : List PL) (C : List Nat) (cf : Nat) (Ln : List Nat) (i : Nat) (Kp : List Nat) : Prop where
  q : QL V C cf (takeS Ln i) (Ln.drop i) Kp
  nd : Ln.Nodup
  up : Kp.Pairwise (· < ·)
theorem LQL.start (h : QL V C cf (fun _ => false) Ln []) (hn : Ln.Nodup) : LQL V C cf Ln 0 [] :=
  ⟨h.same (fun x => by rw [takeS_iff]; simp) (fun x => by rw [takeS_iff]; simp) (fun _ => Iff.rfl) (by simp), hn, List.Pairwise.nil⟩
theorem LQL.lt (h : LQL V C cf Ln i Kp) : (∀ x ∈ Ln, x < V.length) ∧ ∀ x ∈ Kp, x < V.length :=
  ⟨fun x hx => (h.q.snd x (by rw [takeS_iff, mem_take_drop]; exact hx)).1, fun x hx => (h.q.snd x (.inl (h.q.kp x hx).1)).1⟩
theorem LQL.keep (h : LQL V C cf Ln i Kp) (hx : Ln[i]? = some x) (hr : ∀ r ∈ (nodeV V x).2, geC cf (C.getD r 0) = false) : LQL V C cf Ln (i + 1) (putN Kp x) := by
  obtain ⟨e1, e2⟩ := line_at hx
  have h1 : QL V C cf (takeS Ln i) (Ln.drop (i + 1) ++ [x]) Kp := h.q.same (fun _ => Iff.rfl) (fun y => by rw [e2]; simp only [List.mem_append, List.mem_cons, List.not_mem_nil, or_false]; exact or_congr_right or_comm) (fun _ => Iff.rfl) h.q.nodup
  have h2 := h1.keep (fun e => line_new hx h.nd (takeS_iff.1 e)) hr
  refine ⟨h2.same (fun y => ?_) (fun y => ?_) (fun y => ?_) (up_nodup (putN_up x h.up)), h.nd, putN_up x h.up⟩
  · rw [addS_iff, takeS_iff, takeS_iff, e1]; simp
  · rw [addS_iff, takeS_iff, takeS_iff, e1]; simp
  · rw [putN_mem]; simp
theorem LQL.push (B : BookC V C) (h : LQL V C cf Ln i Kp) (hx : Ln[i]? = some x) (hk : k ∈ (nodeV V x).2) (hg : geC cf (C.getD k 0) = true) (hp : Ln <+: Ln') (hn : Ln'.Nodup) (hm : ∀ y, y ∈ Ln' ↔ y ∈ Ln ∨ y ∈ (nodeV V k).1) : LQL V C cf Ln' (i + 1) Kp := by
  obtain ⟨e1, e2⟩ := line_at hx
  have h1 : QL V C cf (takeS Ln i) (Ln.drop (i + 1) ++ [x]) Kp := h.q.same (fun _ => Iff.rfl) (fun y => by rw [e2]; simp only [List.mem_append, List.mem_cons, List.not_mem_nil, or_false]; exact or_congr_right or_comm) (fun _ => Iff.rfl) h.q.nodup
  have h2 := h1.push B hk hg
  have hil := (List.getElem?_eq_some_iff.1 hx).1
  have et : Ln'.take (i + 1) = Ln.take (i + 1) := by
    obtain ⟨t, rfl⟩ := hp
    exact List.take_append_of_le_length (by omega)
  have key : ∀ y, addS (takeS Ln i) x y = true ↔ y ∈ Ln.take (i + 1) := fun y => by
    rw [addS_iff, takeS_iff, e1]; simp
  refine ⟨h2.same (fun y => ?_) (fun y => ?_) (fun _ => Iff.rfl) h.q.nodup, hn, h.up⟩
  · rw [key, takeS_iff, et]
  · rw [takeS_iff, mem_take_drop, hm, key, List.mem_append, ← or_assoc, mem_take_drop]
theorem LQL.fin (h : LQL V C cf Ln Ln.length Kp) : ∃ S, QL V C cf S [] Kp := ⟨takeS Ln Ln.length, by
  have h1 := h.q
  rw [List.drop_length] at h1
  exact h1⟩
/-- The options of a node of canonical forms. -/
theorem QL.node {BV : List Nat} (h : PoolOK V BV) (hx : x < V.length) (hc : ∀ l ∈ (nodeV V x).1, CanC ((codesOf V).getD l 0)) : QL V (codesOf V) ((codesOf V).getD x 0) (fun _ => false) (nodeV V x).1 [] := by
  have ho := (opts_code h.book hx).1
  refine ⟨fun i hi => ?_, by simp, fun i hi => Bool.noConfusion hi, fun l hl => ?_, by simp⟩
  · have hi := hi.resolve_left (by simp)
    exact ⟨by have := (h.opts x _ (node_at hx)).1 i hi; omega, hc i hi, opt_left ((ho _).2 ⟨i, hi, rfl⟩)⟩
  · obtain ⟨y, hy, e⟩ := (ho l).1 hl
    exact ⟨y, .inr hy, by rw [e]; exact ge_refl _⟩
theorem QR.same (h : QR V C cf S Q Kp) (hS : ∀ x, S' x = true ↔ S x = true) (hq : ∀ x, (S' x = true ∨ x ∈ Q') ↔ (S x = true ∨ x ∈ Q)) (hk : ∀ x, x ∈ Kp' ↔ x ∈ Kp) (hn : Kp'.Nodup) : QR V C cf S' Q' Kp' :=
  ⟨fun i hi => h.snd i ((hq i).1 hi), fun i hi => ⟨(hS i).2 (h.kp i ((hk i).1 hi)).1, (h.kp i ((hk i).1 hi)).2⟩, fun i hi => (h.seen i ((hS i).1 hi)).imp (hk i).2 (fun ⟨k, a, b, c⟩ => ⟨k, a, b, fun l hl => (hq l).2 (c l hl)⟩), fun l hl => by
    obtain ⟨i, hi, e⟩ := h.opt l hl
    exact ⟨i, (hq i).2 hi, e⟩, hn⟩
theorem QR.mono (B : BookC V (codesOf V)) (h : QR V (codesOf V) cf S Q Kp) (hp : V <+: V') : QR V' (codesOf V') cf S Q Kp := by
  have hl := hp.length_le
  have hs : ∀ i, S i = true → i < V.length := fun i hi => (h.snd i (.inl hi)).1
  refine ⟨fun i hi => ?_, fun i hi => ?_, fun i hi => ?_, fun l hl => ?_, h.nodup⟩
  · obtain ⟨a, b⟩ := h.snd i hi
    rw [code_mono hp a]
    exact ⟨by omega, b⟩
  · obtain ⟨a, b⟩ := h.kp i hi
    have hil := hs i a
    rw [node_mono hp hil]
    refine ⟨a, fun r hr => ?_⟩
    rw [code_mono hp (by have := (B.opts i _ (node_at hil)).1 r hr; omega)]
    exact b r hr
  · have hil := hs i hi
    refine (h.seen i hi).imp_right ?_
    rintro ⟨k, a, b, c⟩
    have hk : k < V.length := by have := (B.opts i _ (node_at hil)).1 k a; omega
    refine ⟨k, by rw [node_mono hp hil]; exact a, by rw [code_mono hp hk]; exact b, ?_⟩
    rw [node_mono hp hk]
    exact c
  · obtain ⟨i, hi, e⟩ := h.opt l hl
    exact ⟨i, hi, by rw [code_mono hp (h.snd i hi).1]; exact e⟩
structure LQR (V : List PL) (C : List Nat) (cf : Nat) (Ln : List Nat) (i : Nat) (Kp : List Nat) : Prop where
  q : QR V C cf (takeS Ln i) (Ln.drop i) Kp
  nd : Ln.Nodup
  up : Kp.Pairwise (· < ·)
theorem LQR.start (h : QR V C cf (fun _ => false) Ln []) (hn : Ln.Nodup) : LQR V C cf Ln 0 [] :=
  ⟨h.same (fun x => by rw [takeS_iff]; simp) (fun x => by rw [takeS_iff]; simp) (fun _ => Iff.rfl) (by simp), hn, List.Pairwise.nil⟩
theorem LQR.lt (h : LQR V C cf Ln i Kp) : (∀ x ∈ Ln, x < V.length) ∧ ∀ x ∈ Kp, x < V.length :=
  ⟨fun x hx => (h.q.snd x (by rw [takeS_iff, mem_take_drop]; exact hx)).1, fun x hx => (h.q.snd x (.inl (h.q.kp x hx).1)).1⟩
theorem LQR.keep (h : LQR V C cf Ln i Kp) (hx : Ln[i]? = some x) (hr : ∀ r ∈ (nodeV V x).1, geC (C.getD r 0) cf = false) : LQR V C cf Ln (i + 1) (putN Kp x) := by
  obtain ⟨e1, e2⟩ := line_at hx
  have h1 : QR V C cf (takeS Ln i) (Ln.drop (i + 1) ++ [x]) Kp := h.q.same (fun _ => Iff.rfl) (fun y => by rw [e2]; simp only [List.mem_append, List.mem_cons, List.not_mem_nil, or_false]; exact or_congr_right or_comm) (fun _ => Iff.rfl) h.q.nodup
  have h2 := h1.keep (fun e => line_new hx h.nd (takeS_iff.1 e)) hr
  refine ⟨h2.same (fun y => ?_) (fun y => ?_) (fun y => ?_) (up_nodup (putN_up x h.up)), h.nd, putN_up x h.up⟩
  · rw [addS_iff, takeS_iff, takeS_iff, e1]; simp
  · rw [addS_iff, takeS_iff, takeS_iff, e1]; simp
  · rw [putN_mem]; simp
theorem LQR.push (B : BookC V C) (h : LQR V C cf Ln i Kp) (hx : Ln[i]? = some x) (hk : k ∈ (nodeV V x).1) (hg : geC (C.getD k 0) cf = true) (hp : Ln <+: Ln') (hn : Ln'.Nodup) (hm : ∀ y, y ∈ Ln' ↔ y ∈ Ln ∨ y ∈ (nodeV V k).2) : LQR V C cf Ln' (i + 1) Kp := by
  obtain ⟨e1, e2⟩ := line_at hx
  have h1 : QR V C cf (takeS Ln i) (Ln.drop (i + 1) ++ [x]) Kp := h.q.same (fun _ => Iff.rfl) (fun y => by rw [e2]; simp only [List.mem_append, List.mem_cons, List.not_mem_nil, or_false]; exact or_congr_right or_comm) (fun _ => Iff.rfl) h.q.nodup
  have h2 := h1.push B hk hg
  have hil := (List.getElem?_eq_some_iff.1 hx).1
  have et : Ln'.take (i + 1) = Ln.take (i + 1) := by
    obtain ⟨t, rfl⟩ := hp
    exact List.take_append_of_le_length (by omega)
  have key : ∀ y, addS (takeS Ln i) x y = true ↔ y ∈ Ln.take (i + 1) := fun y => by
    rw [addS_iff, takeS_iff, e1]; simp
  refine ⟨h2.same (fun y => ?_) (fun y => ?_) (fun _ => Iff.rfl) h.q.nodup, hn, h.up⟩
  · rw [key, takeS_iff, et]
  · rw [takeS_iff, mem_take_drop, hm, key, List.mem_append, ← or_assoc, mem_take_drop]
theorem LQR.fin (h : LQR V C cf Ln Ln.length Kp) : ∃ S, QR V C cf S [] Kp := ⟨takeS Ln Ln.length, by
  have h1 := h.q
  rw [List.drop_length] at h1
  exact h1⟩
/-- The options of a node of canonical forms. -/
theorem QR.node {BV : List Nat} (h : PoolOK V BV) (hx : x < V.length) (hc : ∀ l ∈ (nodeV V x).2, CanC ((codesOf V).getD l 0)) : QR V (codesOf V) ((codesOf V).getD x 0) (fun _ => false) (nodeV V x).2 [] := by
  have ho := (opts_code h.book hx).2
  refine ⟨fun i hi => ?_, by simp, fun i hi => Bool.noConfusion hi, fun l hl => ?_, by simp⟩
  · have hi := hi.resolve_left (by simp)
    exact ⟨by have := (h.opts x _ (node_at hx)).2 i hi; omega, hc i hi, opt_right ((ho _).2 ⟨i, hi, rfl⟩)⟩
  · obtain ⟨y, hy, e⟩ := (ho l).1 hl
    exact ⟨y, .inr hy, by rw [e]; exact ge_refl _⟩
end
/-- A game whose options have been put in canonical form is equal to what it was. -/
theorem can_opts {L R : List Nat} (cs ds : List Nat) (h1 : cs.length = L.length) (h2 : ds.length = R.length) (hL : ∀ (j c l : Nat), cs[j]? = some c → L[j]? = some l → IsCan c l) (hR : ∀ (j c l : Nat), ds[j]? = some c → R[j]? = some l → IsCan c l) :
    geC (mkC cs ds) (mkC L R) = true ∧ geC (mkC L R) (mkC cs ds) = true := by
  have fL : ∀ c ∈ cs, ∃ l ∈ L, IsCan c l := fun c hc => by
    obtain ⟨j, hj, e⟩ := List.getElem_of_mem hc
    have hj' : j < L.length := by omega
    exact ⟨L[j], List.getElem_mem hj', hL j c _ (by rw [List.getElem?_eq_getElem hj, e]) (List.getElem?_eq_getElem hj')⟩
  have fR : ∀ c ∈ ds, ∃ l ∈ R, IsCan c l := fun c hc => by
    obtain ⟨j, hj, e⟩ := List.getElem_of_mem hc
    have hj' : j < R.length := by omega
    exact ⟨R[j], List.getElem_mem hj', hR j c _ (by rw [List.getElem?_eq_getElem hj, e]) (List.getElem?_eq_getElem hj')⟩
  have gL : ∀ l ∈ L, ∃ c ∈ cs, IsCan c l := fun l hl => by
    obtain ⟨j, hj, e⟩ := List.getElem_of_mem hl
    have hj' : j < cs.length := by omega
    exact ⟨cs[j], List.getElem_mem hj', hL j _ l (List.getElem?_eq_getElem hj') (by rw [List.getElem?_eq_getElem hj, e])⟩
  have gR : ∀ l ∈ R, ∃ c ∈ ds, IsCan c l := fun l hl => by
    obtain ⟨j, hj, e⟩ := List.getElem_of_mem hl
    have hj' : j < ds.length := by omega
    exact ⟨ds[j], List.getElem_mem hj', hR j _ l (List.getElem?_eq_getElem hj') (by rw [List.getElem?_eq_getElem hj, e])⟩
  refine reduce_eq (SL := cs) (SR := ds) (fun c hc => ?_) (fun c hc => ?_) (fun c hc => .inl ⟨c, hc, ge_refl c⟩) (fun c hc => .inl ⟨c, hc, ge_refl c⟩) (fun l hl => ?_) (fun l hl => ?_)
  · obtain ⟨l, hl, e⟩ := fL c hc
    exact not_ge_of_le e.2.2 (opt_left ((hasL_mk _ _ _).2 hl))
  · obtain ⟨l, hl, e⟩ := fR c hc
    exact not_ge_of_ge e.2.1 (opt_right ((hasR_mk _ _ _).2 hl))
  · obtain ⟨c, hc, e⟩ := gL l ((hasL_mk _ _ _).1 hl)
    exact ⟨c, hc, e.2.1⟩
  · obtain ⟨c, hc, e⟩ := gR l ((hasR_mk _ _ _).1 hl)
    exact ⟨c, hc, e.2.2⟩

/-- What l6Open holds: the order of the book's nodes, its line, what it gives. -/
structure OpSt (C : List Nat) (NL : List PL) (ob bb kb : Nat) (w W : World) (lv ov : Value) (Ln Kp K : List Nat) : Prop where
  base : ∃ K0, OrdR w ob bb kb NL K0
  ord : OrdR W ob bb kb NL K
  ok : KOK C NL.length (2 * NL.length) K
  fr : Fr (fun q => q = kb) w W
  rl : W.ownsRow w.heap.size 3 1 lv Ln.length (Ln.map encN)
  ro : Nats W ov Kp
  so : ∀ q, ov.ownBlock = some q → lv.ownBlock ≠ some q ∧ w.heap.size ≤ q ∧ q < W.heap.size
section
variable {C : List Nat} {NL : List PL} {ob bb kb x : Nat} {w W W' Wa : World} {lv ov v' : Value} {Ln Kp K K' : List Nat}
theorem OpSt.kbl (h : OpSt C NL ob bb kb w W lv ov Ln Kp K) : kb < w.heap.size := by
  obtain ⟨K0, h0⟩ := h.base
  exact (Array.getElem?_eq_some_iff.1 h0.row).1
theorem OpSt.call (h : OpSt C NL ob bb kb w W lv ov Ln Kp K) (ho : OrdR W' ob bb kb NL K') (hk : KOK C NL.length (2 * NL.length) K') (hf : Fr (fun q => q = kb) W W') : OpSt C NL ob bb kb w W' lv ov Ln Kp K' := by
  have hkb := h.kbl
  exact ⟨h.base, ho, hk, h.fr.trans hf (fun _ _ q => q), owns_fr h.rl hf (fun q hq e => by have := (h.rl.lt q hq).1; omega), h.ro.fr hf (fun _ q hq e => by have := (h.so q hq).2.1; omega), fun q hq => ⟨(h.so q hq).1, (h.so q hq).2.1, Nat.lt_of_lt_of_le (h.so q hq).2.2 hf.size⟩⟩
theorem OpSt.fr0 (h : OpSt C NL ob bb kb w W lv ov Ln Kp K) (hf : Fr NoM W W') : OpSt C NL ob bb kb w W' lv ov Ln Kp K := h.call (h.ord.fr0 hf) h.ok hf.any
theorem OpSt.put (h : OpSt C NL ob bb kb w W lv ov Ln Kp K) (hf : Fr NoM W W') (hn : Nats W' v' (putN Kp x)) (hb : ∀ b, v'.ownBlock = some b → ov.ownBlock = some b ∨ W.heap.size ≤ b) : OpSt C NL ob bb kb w W' lv v' Ln (putN Kp x) K := by
  have h' := h.fr0 hf
  refine ⟨h'.base, h'.ord, h'.ok, h'.fr, h'.rl, hn, fun q hq => ?_⟩
  rcases hb q hq with e | e
  · exact h'.so q e
  · have hne : putN Kp x ≠ [] := fun z => by
      have := (putN_mem Kp x x).2 (.inr rfl)
      rw [z] at this; cases this
    obtain ⟨b, e1, e2⟩ := hn.block hne
    rw [hq] at e1; cases e1
    exact ⟨fun z => by have := (h.rl.lt q z).2; omega, by have := h.fr.size; omega, e2⟩
theorem OpSt.app (h : OpSt C NL ob bb kb w W lv ov Ln Kp K) (ha : Fr NoM W Wa) (ho : W'.ownsRow w.heap.size 3 1 v' (Ln.length + 1) (Ln.map encN ++ [x].map encN)) (hf : Fr (Own1 lv) Wa W') (hq : v'.ownBlock = lv.ownBlock ∨ ∃ b, v'.ownBlock = some b ∧ Wa.heap.size ≤ b) :
    OpSt C NL ob bb kb w W' v' ov (Ln ++ [x]) Kp K := by
  have h := h.fr0 ha
  have hkb := h.kbl
  obtain ⟨K0, h0⟩ := h.base
  have hfr : Fr (fun q => q = kb) w W' := h.fr.trans hf (fun q hq e => by have := (h.rl.lt q e).1; omega)
  refine ⟨h.base, h0.fr hfr (h.ord.row.fr hf (fun e => by have := (h.rl.lt kb e).1; omega)) h.ord.len, h.ok, hfr, by rw [List.length_append, List.map_append]; exact ho, h.ro.fr hf (fun _ q hq e => (h.so q hq).1 e), fun q e => ?_⟩
  obtain ⟨a, b, c⟩ := h.so q e
  refine ⟨fun z => ?_, b, Nat.lt_of_lt_of_le c hf.size⟩
  rcases hq with h1 | ⟨b', h1, h2⟩
  · rw [h1] at z; exact a z
  · rw [h1] at z; cases z; omega
end
end Go.Proofs.YtioiljboihehcaaGreatDoor
