/- What the reference's functions on lists give at the forms of stalks. -/
import Derived.Test.YtkbljlbfkgoalaaGreatDoorFormDefs
namespace Go.Proofs.YtkbljlbfkgoalaaGreatDoor
set_option linter.unusedVariables false
set_option linter.unusedSimpArgs false
open Go.RowKit

/-- The node of a stalk's first k bits (true: Left's), and the first n nodes. -/
def stN (s : List Bool) (k : Nat) : PL := ((List.range k).filter fun i => s.getD i false, (List.range k).filter fun i => !s.getD i false)
def stF (s : List Bool) (n : Nat) : List PL := (List.range n).map (stN s)

theorem posN_end (L : List Nat) (n : Nat) (h : ∀ x ∈ L, x < n) : posN L n = L.length :=
  posN_eq L n L.length (Nat.le_refl _) (fun j x _ hx => h x (List.mem_of_getElem? hx)) (fun x hx => by simp at hx)
theorem putN_end (L : List Nat) (n : Nat) (h : ∀ x ∈ L, x < n) : putN L n = L ++ [n] := by
  unfold putN
  rw [posN_end L n h, if_neg (by simp)]
  simp
theorem sortN_id (L : List Nat) (h : L.Pairwise (· < ·)) : sortN L = L := by
  suffices hs : ∀ (L A : List Nat), (A ++ L).Pairwise (· < ·) → L.foldl putN A = A ++ L by simpa [sortN] using hs L [] (by simpa using h)
  intro L
  induction L with
  | nil => intro A _; simp
  | cons x l ih =>
    intro A h
    have hx : ∀ y ∈ A, y < x := fun y hy => (List.pairwise_append.1 h).2.2 y hy x List.mem_cons_self
    rw [List.foldl_cons, putN_end A x hx, ih _ (by simpa using h)]
    simp
theorem atAll_id (A L : List Nat) (h : ∀ x ∈ L, A.getD x 0 = x) : atAll A L = L := by
  unfold atAll
  exact (List.map_congr_left h).trans (List.map_id' L)
theorem rget (n k : Nat) : (List.range n)[k]? = if k < n then some k else none := by
  split
  · exact List.getElem?_range (by assumption)
  · exact List.getElem?_eq_none (by simp; omega)
theorem range_getD (n k d : Nat) : (List.range n).getD k d = if k < n then k else d := by
  rw [List.getD_eq_getElem?_getD, rget]
  split <;> rfl
theorem stF_getD (s : List Bool) (n k : Nat) (h : k < n) : (stF s n).getD k ([], []) = stN s k := by
  rw [List.getD_eq_getElem?_getD, stF, List.getElem?_map, rget, if_pos h]; rfl
theorem stF_length (s : List Bool) (n : Nat) : (stF s n).length = n := by simp [stF]
theorem stF_succ (s : List Bool) (n : Nat) : stF s (n + 1) = stF s n ++ [stN s n] := by simp [stF, List.range_succ]
theorem stF_get (s : List Bool) (n k : Nat) (y : PL) (h : (stF s n)[k]? = some y) : k < n ∧ y = stN s k := by
  rw [stF, List.getElem?_map, rget] at h
  split at h
  · cases h; exact ⟨by assumption, rfl⟩
  · cases h
theorem stN_lt (s : List Bool) (k : Nat) : (∀ x ∈ (stN s k).1, x < k) ∧ ∀ x ∈ (stN s k).2, x < k := by
  constructor <;> intro x hx <;> exact List.mem_range.1 (List.mem_filter.1 hx).1
theorem stN_up (s : List Bool) (k : Nat) : (stN s k).1.Pairwise (· < ·) ∧ (stN s k).2.Pairwise (· < ·) :=
  ⟨List.pairwise_lt_range.filter _, List.pairwise_lt_range.filter _⟩
theorem stN_cov (s : List Bool) (k i : Nat) (h : i < k) : i ∈ (stN s k).1 ∨ i ∈ (stN s k).2 := by
  cases hb : s.getD i false with
  | true => exact .inl (List.mem_filter.2 ⟨List.mem_range.2 h, hb⟩)
  | false => exact .inr (List.mem_filter.2 ⟨List.mem_range.2 h, by rw [hb]; rfl⟩)

theorem bornL_ge (BL : List Nat) (m : Nat) (L : List Nat) : m ≤ bornL BL m L ∧ ∀ x ∈ L, BL.getD x 0 + 1 ≤ bornL BL m L := by
  unfold bornL
  induction L generalizing m with
  | nil => exact ⟨Nat.le_refl _, by simp⟩
  | cons y l ih =>
    rw [List.foldl_cons]
    obtain ⟨h1, h2⟩ := ih (max m (BL.getD y 0 + 1))
    refine ⟨by omega, fun x hx => ?_⟩
    rcases List.mem_cons.1 hx with rfl | hx
    · omega
    · exact h2 x hx
theorem bornL_up (BL : List Nat) (m : Nat) (L : List Nat) (N : Nat) (hm : m ≤ N) (h : ∀ x ∈ L, BL.getD x 0 + 1 ≤ N) : bornL BL m L ≤ N := by
  unfold bornL
  induction L generalizing m with
  | nil => exact hm
  | cons y l ih =>
    rw [List.foldl_cons]
    exact ih _ (by have := h y List.mem_cons_self; omega) (fun x hx => h x (List.mem_cons_of_mem _ hx))

theorem putKey_st (s : List Bool) (m k : Nat) (h : k ≤ m) : putKey (List.range m) (stN s k).1 (stN s k).2 = (k, stN s k) := by
  unfold putKey
  obtain ⟨u1, u2⟩ := stN_up s k
  obtain ⟨l1, l2⟩ := stN_lt s k
  rw [sortN_id _ u1, sortN_id _ u2]
  have e : bornL (List.range m) (bornL (List.range m) 0 (stN s k).1) (stN s k).2 = k := by
    refine Nat.le_antisymm (bornL_up _ _ _ _ (bornL_up _ _ _ _ (Nat.zero_le _) fun x hx => ?_) fun x hx => ?_) ?_
    · have := l1 x hx; rw [range_getD, if_pos (by omega)]; omega
    · have := l2 x hx; rw [range_getD, if_pos (by omega)]; omega
    · obtain ⟨a1, a2⟩ := bornL_ge (List.range m) 0 (stN s k).1
      obtain ⟨b1, b2⟩ := bornL_ge (List.range m) (bornL (List.range m) 0 (stN s k).1) (stN s k).2
      cases k with
      | zero => omega
      | succ k =>
        rcases stN_cov s (k + 1) k (by omega) with hk | hk
        · have := a2 k hk; rw [range_getD, if_pos (by omega)] at this; omega
        · have := b2 k hk; rw [range_getD, if_pos (by omega)] at this; omega
  rw [e]

theorem putB_st (s : List Bool) (m k : Nat) (h : k ≤ m) : putB (stF s m) (List.range m) (stN s k).1 (stN s k).2 = (stF s (max m (k + 1)), List.range (max m (k + 1)), k) := by
  unfold putB
  simp only [putKey_st s m k h]
  have hl : (List.range m).length = (stF s m).length := by simp [stF]
  by_cases hk : k < m
  · have e := putAt_eq (stF s m) (List.range m) k (stN s k) k (by rw [stF_length]; exact hk) hl (fun j x y hj _ hy => by
      rw [rget] at hy
      split at hy
      · cases hy; rintro ⟨e, _⟩; omega
      · cases hy) (by rw [rget, if_pos hk]) (by rw [stF, List.getElem?_map, rget, if_pos hk]; rfl)
    rw [e, stF_length, if_pos hk, Nat.max_eq_left (by omega)]
  · have hkm : k = m := by omega
    subst hkm
    rw [if_neg (putAt_none (stF s k) (List.range k) k (stN s k) hl (fun j x y hj _ hy => by
      rw [rget] at hy
      split at hy
      · cases hy; rintro ⟨e, _⟩; omega
      · cases hy))]
    rw [Nat.max_eq_right (by omega), stF_succ, List.range_succ, stF_length]

theorem addB_st (s : List Bool) (m k : Nat) : addB (stF s m) (List.range m) (stF s k) = (stF s (max m k), List.range (max m k), List.range k) := by
  induction k with
  | zero => simp [stF, addB]
  | succ k ih =>
    rw [stF_succ, addB_snoc, ih]
    unfold addStep
    obtain ⟨l1, l2⟩ := stN_lt s k
    simp only
    rw [atAll_id _ _ (fun x hx => by have := l1 x hx; rw [range_getD, if_pos (by omega)]), atAll_id _ _ (fun x hx => by have := l2 x hx; rw [range_getD, if_pos (by omega)]),
      putB_st s (max m k) k (by omega)]
    rw [show max (max m k) (k + 1) = max m (k + 1) from by omega, List.range_succ]
theorem rootB_st (s : List Bool) (m k : Nat) : rootB (stF s m) (List.range m) (stF s (k + 1)) = k := by
  unfold rootB
  rw [addB_st, stF_length, range_getD, if_pos (by omega)]; rfl

theorem markL_get (m : List Bool) (L : List Nat) (j : Nat) (hj : j < m.length) : (markL m L).getD j false = (m.getD j false || decide (j ∈ L)) := by
  unfold markL
  induction L generalizing m with
  | nil => simp
  | cons x l ih =>
    rw [List.foldl_cons, ih (m.set x true) (by simpa using hj)]
    simp only [List.getD_eq_getElem?_getD, List.getElem?_set, List.mem_cons]
    by_cases e : x = j
    · subst e; simp [hj]
    · have e' : ¬ j = x := fun h => e h.symm
      simp [e, e']
theorem markL_full (n : Nat) (L : List Nat) : markL (List.replicate n true) L = List.replicate n true := by
  unfold markL
  induction L with
  | nil => rfl
  | cons x l ih => rw [List.foldl_cons, List.set_replicate_self, ih]
theorem reachFrom_full (NL : List PL) (k n : Nat) : reachFrom NL k (List.replicate n true) = List.replicate n true := by
  induction k with
  | zero => rfl
  | succ k ih =>
    unfold reachFrom reachStep
    rw [markL_full, markL_full, ite_self, ih]
theorem reachB_st (s : List Bool) (n : Nat) : reachB (stF s (n + 1)) n = List.replicate (n + 1) true := by
  unfold reachB reachFrom
  have e : reachStep (stF s (n + 1)) ((List.replicate (n + 1) false).set n true) n = List.replicate (n + 1) true := by
    unfold reachStep
    rw [if_pos (by simp [List.getD_eq_getElem?_getD]), stF_getD s (n + 1) n (by omega)]
    apply List.ext_getElem
    · simp [markL_length]
    · intro j h1 h2
      have hj : j < n + 1 := by simpa using h2
      have g := markL_get (markL ((List.replicate (n + 1) false).set n true) (stN s n).1) (stN s n).2 j (by simpa [markL_length] using hj)
      rw [markL_get ((List.replicate (n + 1) false).set n true) _ j (by simpa using hj), List.getD_eq_getElem?_getD, List.getElem?_eq_getElem h1, Option.getD_some] at g
      rw [g, List.getElem_replicate]
      by_cases e : j = n
      · subst e; simp [List.getD_eq_getElem?_getD]
      · rcases stN_cov s n j (by omega) with hk | hk <;> simp [hk]
  rw [e, reachFrom_full]

/-- The places told behind b rounds. -/
def stA (n b : Nat) : List Nat := (List.range (n + 1)).map fun i => if i < b then i else 0
theorem stA_getD (n b k : Nat) (h : k < b) (hb : b ≤ n + 1) : (stA n b).getD k 0 = k := by
  unfold stA
  rw [List.getD_eq_getElem?_getD, List.getElem?_map, rget, if_pos (by omega)]
  simp [h]
theorem stA_succ (n b : Nat) (h : b ≤ n) : (stA n b).set b b = stA n (b + 1) := by
  unfold stA
  apply List.ext_getElem
  · simp
  · intro j h1 h2
    rw [List.getElem_set]
    simp only [List.getElem_map, List.getElem_range]
    split
    · subst_vars; simp
    · rename_i hne
      by_cases hj : j < b
      · rw [if_pos hj, if_pos (by omega)]
      · rw [if_neg hj, if_neg (by omega)]
theorem keyF_st (s : List Bool) (n b : Nat) (hb : b ≤ n + 1) : keyF (stA n b) (stN s b) = stN s b := by
  unfold keyF
  obtain ⟨l1, l2⟩ := stN_lt s b
  obtain ⟨u1, u2⟩ := stN_up s b
  rw [atAll_id _ _ (fun x hx => stA_getD n b x (l1 x hx) hb), atAll_id _ _ (fun x hx => stA_getD n b x (l2 x hx) hb), sortN_id _ u1, sortN_id _ u2]
theorem pickB_st (s : List Bool) (n b j : Nat) (hb : b ≤ n) (hj : j ≤ n + 1) :
    pickB (stF s (n + 1)) (List.range (n + 1)) (List.replicate (n + 1) true) (stA n b) b j = if b < j then ([stN s b], [b]) else ([], []) := by
  induction j with
  | zero => simp [pickB]
  | succ j ih =>
    rw [pickB_succ, ih (by omega)]
    unfold pickStep
    have h1 : (List.replicate (n + 1) true).getD j false = true := by rw [List.getD_eq_getElem?_getD, List.getElem?_replicate, if_pos (by omega)]; rfl
    rw [h1, range_getD, if_pos (show j < n + 1 by omega), stF_getD s (n + 1) j (by omega)]
    by_cases e : j = b
    · subst e
      rw [if_pos ⟨rfl, rfl⟩, if_neg (Nat.lt_irrefl _), if_pos (Nat.lt_succ_self _), keyF_st s n j (by omega)]
      rfl
    · rw [if_neg (fun h => e h.2)]
      by_cases hlt : b < j
      · rw [if_pos hlt, if_pos (by omega)]
      · rw [if_neg hlt, if_neg (by omega)]
theorem formUp_st (s : List Bool) (n b : Nat) (hb : b ≤ n + 1) : formUp (stF s (n + 1)) (List.range (n + 1)) (List.replicate (n + 1) true) n b = (stA n b, stF s b) := by
  induction b with
  | zero =>
    have : stA n 0 = List.replicate (n + 1) 0 := by
      unfold stA
      apply List.ext_getElem
      · simp
      · intro j h1 h2; simp
    rw [this]; rfl
  | succ b ih =>
    rw [formUp_succ, ih (by omega)]
    unfold bornF
    rw [pickB_st s n b (n + 1) (by omega) (by omega), if_pos (by omega)]
    simp only [List.zip_cons_cons, List.zip_nil_right, List.foldl_cons, List.foldl_nil, layF]
    rw [stF_length, stA_succ n b (by omega), stF_succ s b]
theorem formB_st (s : List Bool) (n : Nat) : formB (stF s (n + 1)) (List.range (n + 1)) n = stF s (n + 1) := by
  unfold formB
  rw [reachB_st, range_getD, if_pos (by omega), formUp_st s n (n + 1) (by omega)]

/-- The places of many forms in a book, one after another. -/
def rootsStep (s : List PL × List Nat × List Nat) (f : List PL) : List PL × List Nat × List Nat := ((addB s.1 s.2.1 f).1, (addB s.1 s.2.1 f).2.1, s.2.2 ++ [rootB s.1 s.2.1 f])
def rootsB (NL : List PL) (BL : List Nat) (FL : List (List PL)) : List PL × List Nat × List Nat := FL.foldl rootsStep (NL, BL, [])
theorem rootsB_snoc (NL : List PL) (BL : List Nat) (FL : List (List PL)) (f : List PL) : rootsB NL BL (FL ++ [f]) = rootsStep (rootsB NL BL FL) f := by simp [rootsB]
/-- What l3Make makes. -/
def makeB (FL FR : List (List PL)) : List PL :=
  let l := rootsB [] [] FL
  let r := rootsB l.1 l.2.1 FR
  let p := putB r.1 r.2.1 l.2.2 r.2.2
  formB p.1 p.2.1 p.2.2
theorem roots_st (s : List Bool) (L : List Nat) : ∀ (A : List Nat) (m : Nat), ∃ M, (L.map fun i => stF s (i + 1)).foldl rootsStep (stF s m, List.range m, A) = (stF s M, List.range M, A ++ L) ∧ m ≤ M ∧ (∀ x ∈ L, x < M) ∧ ∀ N, m ≤ N → (∀ x ∈ L, x < N) → M ≤ N := by
  induction L with
  | nil => intro A m; exact ⟨m, by simp, Nat.le_refl _, by simp, fun N h _ => h⟩
  | cons x l ih =>
    intro A m
    obtain ⟨M, e, h1, h2, h3⟩ := ih (A ++ [x]) (max m (x + 1))
    refine ⟨M, ?_, by omega, fun y hy => ?_, fun N hN hl => h3 N (by have := hl x List.mem_cons_self; omega) fun y hy => hl y (List.mem_cons_of_mem _ hy)⟩
    · rw [List.map_cons, List.foldl_cons]
      have : rootsStep (stF s m, List.range m, A) (stF s (x + 1)) = (stF s (max m (x + 1)), List.range (max m (x + 1)), A ++ [x]) := by
        unfold rootsStep
        simp only [addB_st, rootB_st]
      rw [this, e]; simp
    · rcases List.mem_cons.1 hy with rfl | hy
      · omega
      · exact h2 y hy
theorem makeB_st (s : List Bool) (n : Nat) : makeB ((stN s n).1.map fun i => stF s (i + 1)) ((stN s n).2.map fun i => stF s (i + 1)) = stF s (n + 1) := by
  obtain ⟨M, e, h1, h2, h3⟩ := roots_st s (stN s n).1 [] 0
  obtain ⟨M', e', h1', h2', h3'⟩ := roots_st s (stN s n).2 [] M
  obtain ⟨l1, l2⟩ := stN_lt s n
  have e : rootsB [] [] ((stN s n).1.map fun i => stF s (i + 1)) = (stF s M, List.range M, (stN s n).1) := by
    have := e; simp only [List.nil_append] at this; exact this
  have e' : rootsB (stF s M) (List.range M) ((stN s n).2.map fun i => stF s (i + 1)) = (stF s M', List.range M', (stN s n).2) := by
    have := e'; simp only [List.nil_append] at this; exact this
  have hM : M' = n := by
    refine Nat.le_antisymm (h3' n (h3 n (Nat.zero_le _) l1) l2) ?_
    cases n with
    | zero => exact Nat.zero_le _
    | succ n =>
      rcases stN_cov s (n + 1) n (by omega) with h | h
      · have := h2 n h; omega
      · have := h2' n h; omega
  unfold makeB
  simp only [e, e', hM]
  rw [putB_st s n n (Nat.le_refl _)]
  simp only [Nat.max_eq_right (Nat.le_succ n)]
  exact formB_st s n
/-- What l3Good says. -/
def goodB (F : List PL) : Bool := fitsB F && F.zipIdx.all (fun y => risFrom 0 ((y.2 : Int) - 1) none (ints y.1.1) && risFrom 0 ((y.2 : Int) - 1) none (ints y.1.2)) && decide (formB (addB [] [] F).1 (addB [] [] F).2.1 (rootB [] [] F) = F)
end Go.Proofs.YtkbljlbfkgoalaaGreatDoor
