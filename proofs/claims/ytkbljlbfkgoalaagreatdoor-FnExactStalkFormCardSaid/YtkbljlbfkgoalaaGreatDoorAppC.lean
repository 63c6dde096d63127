/- An append of one struct to a row that a call owns. -/
import Derived.Test.YtkbljlbfkgoalaaGreatDoorRows2
namespace Go.Proofs.YtkbljlbfkgoalaaGreatDoor
set_option linter.unusedVariables false
set_option linter.unusedSimpArgs false
open Go.RowKit

/-- 'append(s, x)', x a struct in a new block, in a region that draws its order. -/
theorem step_appC {P : Program} {w : World} {ops : Array Oper} {o : Oper} {a : Act} {K : Act → World → Prop} {Q : Exit → Act → World → Prop} {E : Prop} (hg : o.guard = none) (s x : Operand) (t : TypeId)
    (hop : o.op = Op.call { callee := Callee.builtin Builtin.append, args := #[s, x], argTypes := #[t, t] }) (base : Nat) (e : TypeId) (z : Value) (size bytes : Nat) (ht : P.underlying t = some (.slice e))
    (hi : (P.info? e).map (fun i => (i.zero, i.size, i.bytes)) = some (some z, size, bytes)) (hz : z.cells.size = size) (hs0 : 0 < size) (v : Value) (n : Nat) (xs : List Value) (hs : a.eval s = v) (hown : w.ownsRow base e size v n xs)
    (b : Nat) (hx : a.eval x = .slice (some ⟨b, 0, none⟩) 1 1) (news : List Value) (e' : TypeId) (hb' : w.heap[b]? = some (.cells news.toArray e' (0, 0))) (hl : news.length = size) (h1 : ∀ u ∈ news, u.oneCell' = true) (hn : (n + 1) * bytes ≤ 140737488355328) (hb1 : 0 < bytes) (hb : base ≤ w.heap.size)
    (hK : ∀ (v' : Value) (w' : World), w'.ownsRow base e size v' (n + 1) (xs ++ news) → Fr (Own1 v) w w' → (v'.ownBlock = v.ownBlock ∨ ∃ b, v'.ownBlock = some b ∧ w.heap.size ≤ b) → K (a.put o.dst v') w') :
    if Region.wanted o (yielded ops a.tmps) = true then Oper.wp P o a w K Q else E := by
  have hw : Region.wanted o (yielded ops a.tmps) = true := by simp [Region.wanted, hg]
  rw [if_pos hw]
  obtain ⟨i0, hi, hz0, hz1, hz2⟩ := info_parts hi
  have hnn : n + 1 ≤ 140737488355328 := Nat.le_trans (by have := Nat.mul_le_mul_left (n + 1) hb1; omega) hn
  have hnews : ∀ (j : Nat) (u : Value), news[j]? = some u → w.cell? ((⟨b, 0, none⟩ : Addr).add j) = some u := by
    intro j u hj
    have hadd : (⟨b, 0, none⟩ : Addr).add j = ⟨b, 0 + j, none⟩ := by unfold Addr.add; split <;> simp_all
    rw [hadd, Nat.zero_add, cell_of_row w b j _ _ _ hb']
    simpa using hj
  obtain ⟨v', w', hr, h2, h3, _, h5⟩ := run_append_own_at (P := P) w base t o.type e i0 z size bytes ht hi hz0 hz1 hz2 hz hs0 v n xs hown ⟨b, 0, none⟩ 1 1 news (by omega) hnews h1 (by unfold maxLen; omega) hn hb
  unfold Oper.wp execOp
  simp only [hop, resolve, invoke, builtin, Sem.run_bind, Sem.run_pure, Result.andThen_ok, List.map_toArray, List.map_cons, List.map_nil, hs, hx, hr]
  refine hK v' w' h2 ((Fr.refl (Own1 v) w).grown h3 (fun k hk _ => hk)) ?_
  rcases h5 with h5 | h5
  · exact .inl h5
  · exact .inr ⟨_, h5, Nat.le_refl _⟩
/-- The same in a plain sequence. -/
theorem wpList_appC {P : Program} {w : World} {ops : Array Oper} {rest : List Oper} {o : Oper} {a : Act} {Q : Exit → Act → World → Prop} (hg : o.guard = none) (s x : Operand) (t : TypeId)
    (hop : o.op = Op.call { callee := Callee.builtin Builtin.append, args := #[s, x], argTypes := #[t, t] }) (base : Nat) (e : TypeId) (z : Value) (size bytes : Nat) (ht : P.underlying t = some (.slice e))
    (hi : (P.info? e).map (fun i => (i.zero, i.size, i.bytes)) = some (some z, size, bytes)) (hz : z.cells.size = size) (hs0 : 0 < size) (v : Value) (n : Nat) (xs : List Value) (hs : a.eval s = v) (hown : w.ownsRow base e size v n xs)
    (b : Nat) (hx : a.eval x = .slice (some ⟨b, 0, none⟩) 1 1) (news : List Value) (e' : TypeId) (hb' : w.heap[b]? = some (.cells news.toArray e' (0, 0))) (hl : news.length = size) (h1 : ∀ u ∈ news, u.oneCell' = true) (hn : (n + 1) * bytes ≤ 140737488355328) (hb1 : 0 < bytes) (hb : base ≤ w.heap.size)
    (hK : ∀ (v' : Value) (w' : World), w'.ownsRow base e size v' (n + 1) (xs ++ news) → Fr (Own1 v) w w' → (v'.ownBlock = v.ownBlock ∨ ∃ b, v'.ownBlock = some b ∧ w.heap.size ≤ b) → wpList P ops Q rest (a.put o.dst v') w') :
    wpList P ops Q (o :: rest) a w := by
  refine wpList_plain hg fun K' hK' => ?_
  obtain ⟨i0, hi, hz0, hz1, hz2⟩ := info_parts hi
  have hnn : n + 1 ≤ 140737488355328 := Nat.le_trans (by have := Nat.mul_le_mul_left (n + 1) hb1; omega) hn
  have hnews : ∀ (j : Nat) (u : Value), news[j]? = some u → w.cell? ((⟨b, 0, none⟩ : Addr).add j) = some u := by
    intro j u hj
    have hadd : (⟨b, 0, none⟩ : Addr).add j = ⟨b, 0 + j, none⟩ := by unfold Addr.add; split <;> simp_all
    rw [hadd, Nat.zero_add, cell_of_row w b j _ _ _ hb']
    simpa using hj
  obtain ⟨v', w', hr, h2, h3, _, h5⟩ := run_append_own_at (P := P) w base t o.type e i0 z size bytes ht hi hz0 hz1 hz2 hz hs0 v n xs hown ⟨b, 0, none⟩ 1 1 news (by omega) hnews h1 (by unfold maxLen; omega) hn hb
  unfold Oper.wp execOp
  simp only [hop, resolve, invoke, builtin, Sem.run_bind, Sem.run_pure, Result.andThen_ok, List.map_toArray, List.map_cons, List.map_nil, hs, hx, hr]
  refine hK' _ _ (hK v' w' h2 ((Fr.refl (Own1 v) w).grown h3 (fun k hk _ => hk)) ?_)
  rcases h5 with h5 | h5
  · exact .inl h5
  · exact .inr ⟨_, h5, Nat.le_refl _⟩

end Go.Proofs.YtkbljlbfkgoalaaGreatDoor
