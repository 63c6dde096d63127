/- The program's pool of games in memory, and what its method node leaves. -/
import Derived.Test.YtkbljlbfkgoalaaGreatDoorSortKit
import Derived.Test.YtkbljlbfkgoalaaGreatDoorMaps
import Derived.Test.YtkbljlbfkgoalaaGreatDoorDigits
import Derived.Test.YtkbljlbfkgoalaaGreatDoorOrderRun
namespace Go.Proofs.YtkbljlbfkgoalaaGreatDoor
set_option linter.unusedVariables false
set_option linter.unusedSimpArgs false
open Go.RowKit

/-- How a list of bytes stands as a string. -/
def encS (l : List UInt8) : Value := .string ⟨l.toArray⟩
theorem encS_inj {a b : List UInt8} (h : encS a = encS b) : a = b := by
  unfold encS at h
  simpa using h
theorem keyStr {P : Program} {kt : TypeId} (hd : P.underlying kt = some .string) : KeyAt P kt encS := .plain hd (fun _ => by simp [encS, MapKept.IsKey]) encS_inj

/-- Where the pool's map finds a node. -/
def findV (V : List PL) (k : List UInt8) : Option Nat := V.findIdx? fun x => decide (keyS x = k)
theorem findV_key (V : List PL) (x : PL) : findV V (keyS x) = if x ∈ V then some (V.idxOf x) else none := by
  unfold findV
  induction V with
  | nil => rfl
  | cons y l ih =>
    rw [List.findIdx?_cons, ih]
    by_cases e : y = x
    · subst e; simp
    · have hk : ¬ keyS y = keyS x := fun h => e (keyS_inj _ _ h)
      have e' : ¬ x = y := fun h => e h.symm
      rw [decide_eq_false hk]
      simp only [Bool.false_eq_true, if_false, List.mem_cons, e', false_or]
      split
      · rw [List.idxOf_cons, show (y == x) = false from by simpa using e]; rfl
      · rfl
theorem findV_snoc (V : List PL) (x : PL) (h : x ∉ V) : findV (V ++ [x]) = upd (findV V) (keyS x) V.length := by
  funext k
  unfold upd
  by_cases e : k = keyS x
  · subst e
    rw [if_pos rfl, findV_key, if_pos (by simp), List.idxOf_append, if_neg h]; simp
  · rw [if_neg e]
    unfold findV
    rw [List.findIdx?_append]
    have : List.findIdx? (fun x => decide (keyS x = k)) [x] = none := by
      rw [List.findIdx?_cons, decide_eq_false (fun h => e h.symm)]; rfl
    rw [this]; simp

structure PoolAt (w : World) (pb : Nat) (V : List PL) (BV : List Nat) (lv rv bv : Value) (fb : Nat) (mo mc ms mn : Value) (LS RS : List Value) : Prop where
  blk : w.heap[pb]? = some (.cells #[lv, rv, bv, .map (some fb), mo, mc, ms, mn] 114 (0, 0))
  left : w.ownsRow 0 75 1 lv LS.length LS
  right : w.ownsRow 0 75 1 rv RS.length RS
  born : w.ownsRow 0 3 1 bv BV.length (BV.map encN)
  lenL : LS.length = V.length
  lenR : RS.length = V.length
  lenB : BV.length = V.length
  find : MapF encS encN w fb (findV V)
/-- A pool at pb: M are the blocks that node writes, I those of the nodes' own lists. -/
def PoolS (M I : Nat → Prop) (w : World) (pb : Nat) (V : List PL) (BV : List Nat) (mo mc ms mn : Value) : Prop :=
  ∃ lv rv bv fb LS RS, PoolAt w pb V BV lv rv bv fb mo mc ms mn LS RS ∧
    (∀ (j : Nat) (v : Value) (y : PL), LS[j]? = some v → V[j]? = some y → Nats w v y.1 ∧ (y.1 ≠ [] → ∀ q, v.ownBlock = some q → I q)) ∧
    (∀ (j : Nat) (v : Value) (y : PL), RS[j]? = some v → V[j]? = some y → Nats w v y.2 ∧ (y.2 ≠ [] → ∀ q, v.ownBlock = some q → I q)) ∧
    M pb ∧ M fb ∧ (∀ q, lv.ownBlock = some q → M q) ∧ (∀ q, rv.ownBlock = some q → M q) ∧ (∀ q, bv.ownBlock = some q → M q) ∧ (∀ q, M q → ¬ I q) ∧
    pb ≠ fb ∧ (∀ q, lv.ownBlock = some q → q ≠ pb ∧ q ≠ fb) ∧ (∀ q, rv.ownBlock = some q → q ≠ pb ∧ q ≠ fb) ∧ (∀ q, bv.ownBlock = some q → q ≠ pb ∧ q ≠ fb) ∧
    (∀ q, lv.ownBlock = some q → rv.ownBlock = some q → False) ∧ (∀ q, lv.ownBlock = some q → bv.ownBlock = some q → False) ∧ (∀ q, rv.ownBlock = some q → bv.ownBlock = some q → False)

section
variable {M I X : Nat → Prop} {w w' : World} {pb : Nat} {V : List PL} {BV : List Nat} {mo mc ms mn : Value}
theorem PoolS.fr (h : PoolS M I w pb V BV mo mc ms mn) (hf : Fr X w w') (hM : ∀ q, M q → ¬ X q) (hI : ∀ q, I q → ¬ X q) : PoolS M I w' pb V BV mo mc ms mn := by
  obtain ⟨lv, rv, bv, fb, LS, RS, hp, h1, h2, m1, m2, m3, m4, m5, hr⟩ := h
  refine ⟨lv, rv, bv, fb, LS, RS, ⟨hf.heap hp.blk (hM _ m1), owns_fr hp.left hf (fun q hq => hM q (m3 q hq)), owns_fr hp.right hf (fun q hq => hM q (m4 q hq)), owns_fr hp.born hf (fun q hq => hM q (m5 q hq)), hp.lenL, hp.lenR, hp.lenB, hp.find.fr hf (hM _ m2)⟩, ?_, ?_, m1, m2, m3, m4, m5, hr⟩
  · intro j v y hv hy
    obtain ⟨s1, s2⟩ := h1 j v y hv hy
    exact ⟨s1.fr hf (fun hne q hq => hI q (s2 hne q hq)), s2⟩
  · intro j v y hv hy
    obtain ⟨s1, s2⟩ := h2 j v y hv hy
    exact ⟨s1.fr hf (fun hne q hq => hI q (s2 hne q hq)), s2⟩
theorem PoolS.fr0 (h : PoolS M I w pb V BV mo mc ms mn) (hf : Fr NoM w w') : PoolS M I w' pb V BV mo mc ms mn := h.fr hf (fun _ _ q => q) (fun _ _ q => q)
end
set_option maxHeartbeats 4000000 in
theorem newPool_any (w : World) : Calls Tryz.prog 58 #[] w fun e w' => e = .returned (.pointer (some ⟨w.heap.size + 5, 0, none⟩)) ∧
    PoolS (fun q => q = w.heap.size ∨ q = w.heap.size + 5) NoM w' (w.heap.size + 5) [] [] (.map (some (w.heap.size + 1))) (.map (some (w.heap.size + 2))) (.map (some (w.heap.size + 3))) (.map (some (w.heap.size + 4))) ∧
    (∀ i, i < 5 → w'.heap[w.heap.size + i]? = some (.map #[] 0)) ∧ Fr NoM w w' := by
  have hmm : ∀ (t : TypeId) (w : World), (Instr.makeMap t none).run Tryz.prog w = .ok (.map (some w.heap.size)) (w.alloc (.map #[] 0)) := fun t w => run_makeMap t w
  go_enter Tryz.func58, Tryz.ntmps58
  go_wp2
  go_ret
  obtain ⟨w5, hw5⟩ : ∃ w5, w5 = ((((w.alloc (.map #[] 0)).alloc (.map #[] 0)).alloc (.map #[] 0)).alloc (.map #[] 0)).alloc (.map #[] 0) := ⟨_, rfl⟩
  have hs : w5.heap.size = w.heap.size + 5 := by rw [hw5]; simp
  have hmaps : ∀ i, i < 5 → w5.heap[w.heap.size + i]? = some (.map #[] 0) := by
    intro i hi
    rw [hw5]
    have k0 := heap_alloc_new w (.map #[] 0)
    have k1 := heap_alloc_new (w.alloc (.map #[] 0)) (.map #[] 0)
    have k2 := heap_alloc_new ((w.alloc (.map #[] 0)).alloc (.map #[] 0)) (.map #[] 0)
    have k3 := heap_alloc_new (((w.alloc (.map #[] 0)).alloc (.map #[] 0)).alloc (.map #[] 0)) (.map #[] 0)
    have k4 := heap_alloc_new ((((w.alloc (.map #[] 0)).alloc (.map #[] 0)).alloc (.map #[] 0)).alloc (.map #[] 0)) (.map #[] 0)
    simp only [World.size_alloc, Nat.add_assoc] at k0 k1 k2 k3 k4
    match i, hi with
    | 0, _ => exact ((((Fr.refl NoM _).alloc _).alloc _).alloc _ |>.alloc _).heap k0 (fun q => q)
    | 1, _ => exact (((Fr.refl NoM _).alloc _).alloc _ |>.alloc _).heap k1 (fun q => q)
    | 2, _ => exact (((Fr.refl NoM _).alloc _).alloc _).heap k2 (fun q => q)
    | 3, _ => exact ((Fr.refl NoM _).alloc _).heap k3 (fun q => q)
    | 4, _ => exact k4
    | n + 5, h => omega
  have hF5 : Fr NoM w w5 := by rw [hw5]; exact (((((Fr.refl NoM w).alloc _).alloc _).alloc _).alloc _).alloc _
  rw [← hw5]
  have hb := heap_alloc_new w5 (.cells #[.slice none 0 0, .slice none 0 0, .slice none 0 0, .map (some w.heap.size), .map (some (w.heap.size + 1)), .map (some (w.heap.size + 2)), .map (some (w.heap.size + 3)), .map (some (w.heap.size + 4))] 114)
  rw [hs] at hb
  have hm0 := (Fr.alloc (Fr.refl NoM w5) (.cells #[.slice none 0 0, .slice none 0 0, .slice none 0 0, .map (some w.heap.size), .map (some (w.heap.size + 1)), .map (some (w.heap.size + 2)), .map (some (w.heap.size + 3)), .map (some (w.heap.size + 4))] 114)).heap (hmaps 0 (by decide)) (fun q => q)
  refine ⟨rfl, ⟨.slice none 0 0, .slice none 0 0, .slice none 0 0, w.heap.size, [], [], ⟨hb, World.ownsRow_nil _ _ _ _, World.ownsRow_nil _ _ _ _, World.ownsRow_nil _ _ _ _, rfl, rfl, rfl, ?_⟩, by simp, by simp, .inr rfl, .inl rfl, by simp [Value.ownBlock], by simp [Value.ownBlock], by simp [Value.ownBlock], fun _ _ q => q, by omega, by simp [Value.ownBlock], by simp [Value.ownBlock], by simp [Value.ownBlock], by simp [Value.ownBlock], by simp [Value.ownBlock], by simp [Value.ownBlock]⟩, fun i hi => (Fr.alloc (Fr.refl NoM w5) _).heap (hmaps i hi) (fun q => q), hF5.alloc _⟩
  exact ⟨#[], 0, hm0, by simp, by simp, fun k a h => by simp [findV] at h⟩
end Go.Proofs.YtkbljlbfkgoalaaGreatDoor
