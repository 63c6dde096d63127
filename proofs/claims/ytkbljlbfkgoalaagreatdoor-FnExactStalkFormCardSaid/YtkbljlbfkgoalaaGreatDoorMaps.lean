/- Maps in memory that hold what a function says: their look-ups and stores. No condition of its own. -/
import Derived.Test.YtkbljlbfkgoalaaGreatDoorRows2
import Derived.Maps.Keyed
import Derived.Carry
namespace Go.Proofs.YtkbljlbfkgoalaaGreatDoor
set_option linter.unusedVariables false
set_option linter.unusedSimpArgs false
open Go.RowKit

/-- What the laws on maps need of a key's type and of the values that stand for keys. -/
structure KeyAt {κ : Type} (P : Program) (kt : TypeId) (ek : κ → Value) : Prop where
  inj : ∀ {a b : κ}, ek a = ek b → a = b
  check : ∀ (w : World) (em : Bool) (k : κ), (Instr.checkKey em 10000 kt (ek k)).run P w = .ok () w
  find : ∀ (w : World) (k : κ) (es : List MapEntry), (∀ e ∈ es, ∃ k', e.key = ek k') →
    ((Instr.findKey kt (ek k) es).run P w = .ok none w ∧ ∀ e ∈ es, e.key ≠ ek k) ∨ ∃ j e, (Instr.findKey kt (ek k) es).run P w = .ok (some (j, e.val)) w ∧ es[j]? = some e ∧ e.key = ek k
  stays : ∀ (w : World) (k : κ), (Instr.keyThatStays (ek k) (ek k)).run P w = .ok (ek k) w

theorem KeyAt.plain {κ : Type} {P : Program} {kt : TypeId} {d : TypeDesc} {ek : κ → Value} (hd : P.underlying kt = some d) (hk : ∀ k, MapKept.IsKey d (ek k)) (hi : ∀ {a b : κ}, ek a = ek b → a = b) : KeyAt P kt ek where
  inj := hi
  check w em k := MapKept.run_checkKey hd (hk k) em 9999
  find w k es he := by
    rcases MapKept.findNow_spec (hk k) es 0 (fun x hx => by obtain ⟨k', e⟩ := he x hx; rw [e]; exact hk k') with ⟨h1, h2⟩ | ⟨j, e, h1, h2, h3⟩
    · exact .inl ⟨MapKept.run_findKey hd h1, h2⟩
    · exact .inr ⟨j, e, by rw [Nat.zero_add] at h1; exact MapKept.run_findKey hd h1, h2, h3⟩
  stays w k := MapKept.run_keyThatStays (hk k)
theorem encN_inj {a b : Nat} (h : encN a = encN b) : a = b := by
  unfold encN at h
  simp only [Value.int.injEq, true_and] at h
  omega
theorem KeyAt.nat {P : Program} {kt : TypeId} (hd : P.underlying kt = some (.int .i64)) : KeyAt P kt encN := .plain hd (fun _ => by simp [encN, MapKept.IsKey]) encN_inj
theorem KeyAt.str {P : Program} {kt : TypeId} (hd : P.underlying kt = some .string) : KeyAt P kt Value.string := .plain hd (fun _ => by simp [MapKept.IsKey]) (fun h => by simpa using h)

/-- Block b is a map in which each key has what f says. -/
def MapF {κ α : Type} (ek : κ → Value) (ev : α → Value) (w : World) (b : Nat) (f : κ → Option α) : Prop :=
  ∃ es clock, w.heap[b]? = some (.map es clock) ∧ (es.toList.map (·.key)).Nodup ∧ (∀ e ∈ es.toList, ∃ k a, e.key = ek k ∧ e.val = ev a ∧ f k = some a) ∧ ∀ k a, f k = some a → ∃ e ∈ es.toList, e.key = ek k
def upd {κ α : Type} [DecidableEq κ] (f : κ → Option α) (k : κ) (a : α) : κ → Option α := fun x => if x = k then some a else f x

section
variable {κ α : Type} {ek : κ → Value} {ev : α → Value} {w w' : World} {b : Nat} {f : κ → Option α}
theorem MapF.fr {M : Nat → Prop} (h : MapF ek ev w b f) (hf : Fr M w w') (hb : ¬ M b) : MapF ek ev w' b f := by
  obtain ⟨es, clock, h0, h1⟩ := h
  exact ⟨es, clock, hf.heap h0 hb, h1⟩
theorem MapF.lt (h : MapF ek ev w b f) : b < w.heap.size := by
  obtain ⟨es, clock, h0, _⟩ := h
  exact (Array.getElem?_eq_some_iff.1 h0).1
theorem MapF.made (ek : κ → Value) (ev : α → Value) (w : World) : MapF ek ev (w.alloc (.map #[] 0)) w.heap.size (fun _ => none) :=
  ⟨#[], 0, heap_alloc_new w _, by simp, by simp, by simp⟩

theorem MapF.look {P : Program} {kt et t : TypeId} {z : Value} (h : MapF ek ev w b f) (K : KeyAt P kt ek) (ht : P.underlying t = some (.map kt et)) (hz : (zeroValue et).run P w = .ok z w) (k : κ) (c : Bool) :
    (Instr.lookup t (.map (some b)) (ek k) c).run P w = .ok (if c then .tuple #[((f k).map ev).getD z, .bool (f k).isSome] else ((f k).map ev).getD z) w := by
  obtain ⟨es, clock, hb, hn, h1, h2⟩ := h
  rcases K.find w k es.toList (fun e he => by obtain ⟨k', _, e1, _⟩ := h1 e he; exact ⟨k', e1⟩) with ⟨r, h3⟩ | ⟨j, e, r, h3, h4⟩
  · have hf : f k = none := by
      cases hfk : f k with
      | none => rfl
      | some a => obtain ⟨e, he, e1⟩ := h2 k a hfk; exact absurd e1 (h3 e he)
    simp [Instr.lookup, run_underlying ht, MapKept.run_getObj_map hb, K.check w _ k, r, hz, Result.andThen, hf]
  · obtain ⟨k', a, e1, e2, e3⟩ := h1 e (List.mem_of_getElem? h3)
    have : k' = k := K.inj (e1.symm.trans h4)
    subst this
    simp [Instr.lookup, run_underlying ht, MapKept.run_getObj_map hb, K.check w _ k', r, Result.andThen, e2, e3]

theorem fr_setMap {r : Nat} {es : Array MapEntry} {clock : Nat} (o : Obj) (w : World) : Fr (fun k => k = r) w { w with heap := w.heap.setIfInBounds r o } :=
  ⟨rfl, rfl, rfl, by simp, fun k _ hk => by simp [Array.getElem?_setIfInBounds, Ne.symm hk]⟩

theorem MapF.store [DecidableEq κ] {P : Program} {kt et t : TypeId} (h : MapF ek ev w b f) (K : KeyAt P kt ek) (ht : P.underlying t = some (.map kt et)) (k : κ) (a : α) :
    ∃ w', (Instr.mapUpdate t (.map (some b)) (ek k) (ev a)).run P w = .ok () w' ∧ MapF ek ev w' b (upd f k a) ∧ Fr (fun q => q = b) w w' := by
  obtain ⟨es, clock, hb, hn, h1, h2⟩ := h
  have hlt : b < w.heap.size := (Array.getElem?_eq_some_iff.1 hb).1
  have hupd : ∀ (e : MapEntry), e ∈ es.toList → e.key ≠ ek k → ∃ k' a', e.key = ek k' ∧ e.val = ev a' ∧ upd f k a k' = some a' := by
    intro e he hne
    obtain ⟨k', a', e1, e2, e3⟩ := h1 e he
    refine ⟨k', a', e1, e2, ?_⟩
    unfold upd
    rw [if_neg (fun q => hne (by rw [e1, q])), e3]
  rcases K.find w k es.toList (fun e he => by obtain ⟨k', _, e1, _⟩ := h1 e he; exact ⟨k', e1⟩) with ⟨r, h3⟩ | ⟨j, e, r, h3, h4⟩
  · refine ⟨_, by simp [Instr.mapUpdate, run_underlying ht, MapKept.run_getObj_map hb, K.check w _ k, r, MapKept.run_setObj_map _ hb, Result.andThen]; rfl, ⟨_, _, (MapKept.heap_set hb).1, ?_, ?_, ?_⟩, fr_setMap (es := es) (clock := clock) _ w⟩
    · rw [Array.toList_push, List.map_append, List.map_singleton, List.nodup_append]
      refine ⟨hn, by simp, fun x hx y hy => ?_⟩
      obtain ⟨e, he, rfl⟩ := List.mem_map.1 hx
      simp at hy
      rw [hy]; exact h3 e he
    · intro e he
      rw [Array.toList_push, List.mem_append, List.mem_singleton] at he
      rcases he with he | rfl
      · exact hupd e he (h3 e he)
      · exact ⟨k, a, rfl, rfl, by simp [upd]⟩
    · intro k' a' hk'
      rw [Array.toList_push]
      unfold upd at hk'
      split at hk'
      · subst_vars; exact ⟨_, List.mem_append_right _ (List.mem_singleton.2 rfl), rfl⟩
      · obtain ⟨e, he, e1⟩ := h2 k' a' hk'
        exact ⟨e, List.mem_append_left _ he, e1⟩
  · obtain ⟨k', a', e1, e2, e3⟩ := h1 e (List.mem_of_getElem? h3)
    have h3' : es[j]? = some e := by simpa using h3
    have hj : j < es.size := (Array.getElem?_eq_some_iff.1 h3').1
    have hkey : ((es[j]?).map (·.key)).getD (ek k) = ek k := by rw [h3']; exact h4
    refine ⟨_, by simp [Instr.mapUpdate, run_underlying ht, MapKept.run_getObj_map hb, K.check w _ k, r, hkey, K.stays w k, MapKept.run_setObj_map _ hb, Result.andThen]; rfl, ⟨_, _, (MapKept.heap_set hb).1, ?_, ?_, ?_⟩, fr_setMap (es := es) (clock := clock) _ w⟩
    · rw [MapKept.modify_keys j _ (fun e' he' => by rw [h3'] at he'; cases he'; exact h4.symm)]
      exact hn
    · intro x hx
      obtain ⟨i, hi, rfl⟩ := List.getElem_of_mem hx
      simp only [Array.length_toList, Array.size_modify] at hi
      simp only [Array.getElem_toList, Array.getElem_modify]
      split
      · exact ⟨k, a, rfl, rfl, by simp [upd]⟩
      · rename_i hij
        refine hupd _ (by simp) (fun hk => hij ?_)
        have hjl : j < (es.toList.map (·.key)).length := by simpa using hj
        have hil : i < (es.toList.map (·.key)).length := by simpa using hi
        refine (List.getElem_inj (h₀ := hjl) (h₁ := hil) hn).1 ?_
        simp only [List.getElem_map, Array.getElem_toList]
        rw [hk, ← h4]
        rw [Array.getElem?_eq_getElem hj] at h3'
        cases h3'; rfl
    · intro k2 a2 hk2
      have hkeys := MapKept.modify_keys (es := es) j (fun e => { e with key := ek k, val := ev a }) (fun e' he' => by rw [h3'] at he'; cases he'; exact h4.symm)
      unfold upd at hk2
      have : ∃ e ∈ es.toList, e.key = ek k2 := by
        split at hk2
        · subst_vars; exact ⟨e, List.mem_of_getElem? h3, h4⟩
        · exact h2 k2 a2 hk2
      obtain ⟨e', he', e1'⟩ := this
      have hm : ek k2 ∈ (es.modify j fun e => { e with key := ek k, val := ev a }).toList.map (·.key) := by rw [hkeys]; exact List.mem_map.2 ⟨e', he', e1'⟩
      obtain ⟨x, hx, hx'⟩ := List.mem_map.1 hm
      exact ⟨x, hx, hx'⟩
end
end Go.Proofs.YtkbljlbfkgoalaaGreatDoor
