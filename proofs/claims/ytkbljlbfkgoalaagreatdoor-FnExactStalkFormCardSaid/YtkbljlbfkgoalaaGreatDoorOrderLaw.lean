/- What the program's order of games gives: the one form of a game. -/
import Derived.Test.YtkbljlbfkgoalaaGreatDoorCodes
namespace Go.Proofs.YtkbljlbfkgoalaaGreatDoor
set_option linter.unusedVariables false
set_option linter.unusedSimpArgs false
open Go.RowKit

theorem putN_cons (y : Nat) (l : List Nat) (n : Nat) : putN (y :: l) n = if y < n then y :: putN l n else if y = n then y :: l else n :: y :: l := by
  unfold putN posN
  by_cases h : y < n
  · simp only [List.takeWhile_cons, h, decide_true, if_true, List.length_cons, List.getElem?_cons_succ, List.take_succ_cons, List.drop_succ_cons, List.cons_append]
    split <;> rfl
  · simp only [List.takeWhile_cons, h, decide_false, Bool.false_eq_true, if_false, List.length_nil, List.getElem?_cons_zero, List.take_zero, List.drop_zero, List.nil_append, Option.some.injEq]
theorem putN_up {L : List Nat} (n : Nat) (h : L.Pairwise (· < ·)) : (putN L n).Pairwise (· < ·) := by
  induction L with
  | nil => simp [putN, posN]
  | cons y l ih =>
    rw [List.pairwise_cons] at h
    rw [putN_cons]
    split
    · refine List.pairwise_cons.2 ⟨fun z hz => ?_, ih h.2⟩
      rcases (putN_mem l n z).1 hz with hz | rfl
      · exact h.1 z hz
      · assumption
    · split
      · exact List.pairwise_cons.2 h
      · refine List.pairwise_cons.2 ⟨fun z hz => ?_, List.pairwise_cons.2 h⟩
        rcases List.mem_cons.1 hz with rfl | hz
        · omega
        · have := h.1 z hz; omega
theorem sortN_up (L : List Nat) : (sortN L).Pairwise (· < ·) := by
  suffices h : ∀ (L A : List Nat), A.Pairwise (· < ·) → (L.foldl putN A).Pairwise (· < ·) by simpa [sortN] using h L [] (by simp)
  intro L
  induction L with
  | nil => intro A h; exact h
  | cons y l ih => intro A h; rw [List.foldl_cons]; exact ih _ (putN_up y h)

/-- The places that are reached from some. -/
inductive ReachV (V : List PL) (R : List Nat) : Nat → Prop
  | root {x : Nat} : x ∈ R → ReachV V R x
  | left {x y : Nat} : ReachV V R x → y ∈ (V.getD x ([], [])).1 → ReachV V R y
  | right {x y : Nat} : ReachV V R x → y ∈ (V.getD x ([], [])).2 → ReachV V R y
def rankL (Q : List Nat) (L : List Nat) : List Nat := sortN (L.map fun x => Q.idxOf x)
def rankP (Q : List Nat) (x : PL) : PL := (rankL Q x.1, rankL Q x.2)
/-- Q lists what is reached from R in the order of games, FN are its nodes. -/
structure OrderIs (V : List PL) (BV : List Nat) (R : List Nat) (Q : List Nat) (FN : List PL) : Prop where
  nodup : Q.Nodup
  mem : ∀ x, x ∈ Q ↔ ReachV V R x
  nodes : FN = Q.map fun x => rankP Q (V.getD x ([], []))
  up : ∀ (i j : Nat) (x y : PL), i < j → FN[i]? = some x → FN[j]? = some y → klt (BV.getD (Q.getD i 0) 0) x (BV.getD (Q.getD j 0) 0) y

section
variable {V : List PL} {C : List Nat}
theorem BookC.getD (B : BookC V C) {j : Nat} (hj : j < V.length) : V[j]? = some (V.getD j ([], [])) := by
  rw [List.getD_eq_getElem?_getD, List.getElem?_eq_getElem hj]; rfl
theorem BookC.left (B : BookC V C) {x y : Nat} (hx : x < V.length) (hy : y ∈ (V.getD x ([], [])).1) : y < x ∧ hasL (C.getD x 0) (C.getD y 0) :=
  ⟨(B.opts x _ (B.getD hx)).1 y hy, by rw [B.code x _ (B.getD hx), hasL_mk]; exact mem_atAll.2 ⟨y, hy, rfl⟩⟩
theorem BookC.right (B : BookC V C) {x y : Nat} (hx : x < V.length) (hy : y ∈ (V.getD x ([], [])).2) : y < x ∧ hasR (C.getD x 0) (C.getD y 0) :=
  ⟨(B.opts x _ (B.getD hx)).2 y hy, by rw [B.code x _ (B.getD hx), hasR_mk]; exact mem_atAll.2 ⟨y, hy, rfl⟩⟩
theorem reach_lt (B : BookC V C) {R : List Nat} (hR : ∀ r ∈ R, r < V.length) {x : Nat} (h : ReachV V R x) : x < V.length := by
  induction h with
  | root h => exact hR _ h
  | left _ hy ih => have := (B.left ih hy).1; omega
  | right _ hy ih => have := (B.right ih hy).1; omega
theorem idx_getD {Q : List Nat} {y : Nat} (h : y ∈ Q) : Q.idxOf y < Q.length ∧ Q.getD (Q.idxOf y) 0 = y := by
  have hl := List.idxOf_lt_length_of_mem h
  refine ⟨hl, ?_⟩
  rw [List.getD_eq_getElem?_getD, List.getElem?_eq_getElem hl]
  exact List.getElem_idxOf hl
theorem mem_rankL {Q L : List Nat} {i : Nat} : i ∈ rankL Q L ↔ ∃ y ∈ L, Q.idxOf y = i := by
  unfold rankL
  rw [sortN_mem, List.mem_map]

theorem order_form (B : BookC V C) {BV : List Nat} (hb : ∀ j, j < V.length → BV.getD j 0 = bornC (C.getD j 0)) {r : Nat} (hr : r < V.length) {Q : List Nat} {FN : List PL} (O : OrderIs V BV [r] Q FN) : FormAt (C.getD r 0) FN (Q.map fun x => C.getD x 0) := by
  have hlt : ∀ x ∈ Q, x < V.length := fun x hx => reach_lt B (by simpa using hr) ((O.mem x).1 hx)
  have hF : ∀ (j : Nat) (x : PL), FN[j]? = some x → ∃ y, Q[j]? = some y ∧ y ∈ Q ∧ x = rankP Q (V.getD y ([], [])) := by
    intro j x hx
    rw [O.nodes, List.getElem?_map] at hx
    cases hq : Q[j]? with
    | none => rw [hq] at hx; cases hx
    | some y => rw [hq] at hx; exact ⟨y, rfl, List.mem_of_getElem? hq, (Option.some.inj hx).symm⟩
  have hP : ∀ y ∈ Q, (Q.map fun x => C.getD x 0).getD (Q.idxOf y) 0 = C.getD y 0 := by
    intro y hy
    obtain ⟨h1, h2⟩ := idx_getD hy
    rw [List.getD_eq_getElem?_getD, List.getElem?_map, List.getElem?_eq_getElem h1]
    rw [List.getD_eq_getElem?_getD, List.getElem?_eq_getElem h1] at h2
    simp only [Option.getD_some] at h2
    simp only [Option.map_some, Option.getD_some, h2]
  have hPj : ∀ (j y : Nat), Q[j]? = some y → (Q.map fun x => C.getD x 0).getD j 0 = C.getD y 0 := by
    intro j y h
    rw [List.getD_eq_getElem?_getD, List.getElem?_map, h]; rfl
  have hQj : ∀ (j y : Nat), Q[j]? = some y → Q.getD j 0 = y := by
    intro j y h
    rw [List.getD_eq_getElem?_getD, h]; rfl
  have hin1 : ∀ y ∈ Q, ∀ z ∈ (V.getD y ([], [])).1, z ∈ Q := fun y hy z hz => (O.mem z).2 (.left ((O.mem y).1 hy) hz)
  have hin2 : ∀ y ∈ Q, ∀ z ∈ (V.getD y ([], [])).2, z ∈ Q := fun y hy z hz => (O.mem z).2 (.right ((O.mem y).1 hy) hz)
  have hlow : ∀ (j y z : Nat), Q[j]? = some y → z ∈ Q → bornC (C.getD z 0) < bornC (C.getD y 0) → Q.idxOf z < j := by
    intro j y z hy hz hbo
    have hyQ := List.mem_of_getElem? hy
    have hj := (List.getElem?_eq_some_iff.1 hy).1
    obtain ⟨h1, h2⟩ := idx_getD hz
    rcases Nat.lt_trichotomy (Q.idxOf z) j with h | h | h
    · exact h
    · rw [h, hQj j y hy] at h2; subst h2; omega
    · have hl : FN.length = Q.length := by rw [O.nodes]; simp
      have := O.up j (Q.idxOf z) _ _ h (List.getElem?_eq_getElem (l := FN) (by omega)) (List.getElem?_eq_getElem (l := FN) (by omega))
      rw [hQj j y hy, h2, hb y (hlt y hyQ), hb z (hlt z hz)] at this
      rcases this with h | ⟨h, _⟩ <;> omega
  have hside : ∀ (y : Nat) (l : List Nat), (∀ z ∈ l, z ∈ Q) → ∀ i, i ∈ atAll (Q.map fun x => C.getD x 0) (rankL Q l) ↔ i ∈ atAll C l := by
    intro y l hl i
    rw [mem_atAll, mem_atAll]
    constructor
    · rintro ⟨k, hk, e⟩
      obtain ⟨z, hz, rfl⟩ := mem_rankL.1 hk
      rw [hP z (hl z hz)] at e
      exact ⟨z, hz, e⟩
    · rintro ⟨z, hz, e⟩
      exact ⟨Q.idxOf z, mem_rankL.2 ⟨z, hz, rfl⟩, by rw [hP z (hl z hz)]; exact e⟩
  refine ⟨⟨by rw [O.nodes]; simp, fun j x hx => ?_, fun j x hx => ?_, fun j x hx => ?_, ?_⟩, fun x => ⟨fun hx => ?_, fun hx => ?_⟩, fun i j x y hij hx hy => ?_⟩
  · obtain ⟨y, hy, hyQ, rfl⟩ := hF j x hx
    constructor
    · intro i hi
      obtain ⟨z, hz, rfl⟩ := mem_rankL.1 hi
      exact hlow j y z hy (hin1 y hyQ z hz) (bornC_lt (.inl (B.left (hlt y hyQ) hz).2))
    · intro i hi
      obtain ⟨z, hz, rfl⟩ := mem_rankL.1 hi
      exact hlow j y z hy (hin2 y hyQ z hz) (bornC_lt (.inr (B.right (hlt y hyQ) hz).2))
  · obtain ⟨y, hy, hyQ, rfl⟩ := hF j x hx
    exact ⟨sortN_up _, sortN_up _⟩
  · obtain ⟨y, hy, hyQ, rfl⟩ := hF j x hx
    rw [hPj j y hy, B.code y _ (B.getD (hlt y hyQ))]
    exact mkC_ext (fun i => (hside y _ (hin1 y hyQ) i).symm) (fun i => (hside y _ (hin2 y hyQ) i).symm)
  · refine List.nodup_iff_pairwise_ne.2 (List.pairwise_map.2 ((List.nodup_iff_pairwise_ne.1 O.nodup).imp_of_mem fun {a b} ha hb' hne e => hne ?_))
    have hl := B.len
    exact nodup_getD B.nodup (by have := hlt a ha; omega) (by have := hlt b hb'; omega) e
  · obtain ⟨y, hy, rfl⟩ := List.mem_map.1 hx
    have hr' := (O.mem y).1 hy
    clear hx hy
    induction hr' with
    | root h => simp at h; subst h; exact .root
    | left h hz ih => exact .step ih (.inl (B.left (reach_lt B (by simpa using hr) h) hz).2)
    | right h hz ih => exact .step ih (.inr (B.right (reach_lt B (by simpa using hr) h) hz).2)
  · induction hx with
    | root => exact List.mem_map.2 ⟨r, (O.mem r).2 (.root (by simp)), rfl⟩
    | step _ ho ih =>
      obtain ⟨y, hy, rfl⟩ := List.mem_map.1 ih
      rw [B.code y _ (B.getD (hlt y hy))] at ho
      rcases ho with ho | ho
      · rw [hasL_mk] at ho
        obtain ⟨z, hz, rfl⟩ := mem_atAll.1 ho
        exact List.mem_map.2 ⟨z, hin1 y hy z hz, rfl⟩
      · rw [hasR_mk] at ho
        obtain ⟨z, hz, rfl⟩ := mem_atAll.1 ho
        exact List.mem_map.2 ⟨z, hin2 y hy z hz, rfl⟩
  · obtain ⟨a, ha, haQ, rfl⟩ := hF i x hx
    obtain ⟨b, hb', hbQ, rfl⟩ := hF j y hy
    have := O.up i j _ _ hij hx hy
    rw [hQj i a ha, hQj j b hb', hb a (hlt a haQ), hb b (hlt b hbQ)] at this
    rw [hPj i a ha, hPj j b hb']
    exact this
end
end Go.Proofs.YtkbljlbfkgoalaaGreatDoor
