/- The walks of the reference's (*l3Book).add and root: they return what their texts say, for every book and every form whose places lie ahead. -/
import Derived.Test.YtkbljlbfkgoalaaGreatDoorBookPut
import Derived.Deep.RegionHeld3
namespace Go.Proofs.YtkbljlbfkgoalaaGreatDoor
set_option linter.unusedVariables false
set_option linter.unusedSimpArgs false
open Go.RowKit

/-- What holds of every book that put makes. -/
structure BookOK (NL : List (List Nat × List Nat)) (BL : List Nat) : Prop where
  lens : BL.length = NL.length
  opts : ∀ (j : Nat) (y : List Nat × List Nat), NL[j]? = some y → (∀ x ∈ y.1, x < j) ∧ ∀ x ∈ y.2, x < j
  born : ∀ (j x : Nat), BL[j]? = some x → x ≤ j

theorem putN_mem (L : List Nat) (n x : Nat) : x ∈ putN L n ↔ x ∈ L ∨ x = n := by
  unfold putN
  split
  · rename_i h
    have hm : n ∈ L := List.mem_of_getElem? h
    constructor
    · exact .inl
    · rintro (h | rfl)
      · exact h
      · exact hm
  · rw [List.mem_append, List.mem_cons]
    constructor
    · rintro (h | h | h)
      · exact .inl (List.mem_of_mem_take h)
      · exact .inr h
      · exact .inl (List.mem_of_mem_drop h)
    · rintro (h | h)
      · rw [← List.take_append_drop (posN L n) L, List.mem_append] at h
        rcases h with h | h
        · exact .inl h
        · exact .inr (.inr h)
      · exact .inr (.inl h)
theorem sortN_mem (L : List Nat) (x : Nat) : x ∈ sortN L ↔ x ∈ L := by
  suffices h : ∀ (L A : List Nat), x ∈ L.foldl putN A ↔ x ∈ A ∨ x ∈ L by have := h L []; simpa [sortN] using this
  intro L
  induction L with
  | nil => intro A; simp
  | cons y l ih => intro A; rw [List.foldl_cons, ih, putN_mem, List.mem_cons, or_assoc]
theorem bornL_le (BL : List Nat) (hb : ∀ (j x : Nat), BL[j]? = some x → x ≤ j) (N : Nat) (L : List Nat) (m : Nat) (hm : m ≤ N) (hL : ∀ x ∈ L, x < N) : bornL BL m L ≤ N := by
  unfold bornL
  induction L generalizing m with
  | nil => exact hm
  | cons y l ih =>
    rw [List.foldl_cons]
    refine ih _ ?_ (fun x hx => hL x (List.mem_cons_of_mem _ hx))
    have hy := hL y List.mem_cons_self
    rw [List.getD_eq_getElem?_getD]
    cases h : BL[y]? with
    | none => simp only [Option.getD_none]; omega
    | some z => simp only [Option.getD_some]; have := hb y z h; omega

theorem putB_ok {NL : List (List Nat × List Nat)} {BL : List Nat} (h : BookOK NL BL) (L R : List Nat) (hL : ∀ x ∈ L, x < NL.length) (hR : ∀ x ∈ R, x < NL.length) :
    BookOK (putB NL BL L R).1 (putB NL BL L R).2.1 ∧ (putB NL BL L R).2.2 < (putB NL BL L R).1.length ∧ (putB NL BL L R).1.length ≤ NL.length + 1 ∧ NL <+: (putB NL BL L R).1 ∧ BL <+: (putB NL BL L R).2.1 := by
  unfold putB
  simp only
  split
  · rename_i hlt
    exact ⟨h, hlt, Nat.le_succ _, List.prefix_refl _, List.prefix_refl _⟩
  · refine ⟨⟨by simp [h.lens], fun j y hy => ?_, fun j x hx => ?_⟩, by simp, by simp, List.prefix_append _ _, List.prefix_append _ _⟩
    · by_cases hj : j < NL.length
      · rw [List.getElem?_append_left hj] at hy; exact h.opts j y hy
      · rw [List.getElem?_append_right (by omega)] at hy
        cases hd : j - NL.length with
        | zero =>
          rw [hd] at hy; simp at hy; subst hy
          simp only [putKey]
          exact ⟨fun x hx => by have := hL x ((sortN_mem L x).1 hx); omega, fun x hx => by have := hR x ((sortN_mem R x).1 hx); omega⟩
        | succ d => rw [hd] at hy; simp at hy
    · by_cases hj : j < BL.length
      · rw [List.getElem?_append_left hj] at hx; exact h.born j x hx
      · rw [List.getElem?_append_right (by omega)] at hx
        cases hd : j - BL.length with
        | zero =>
          rw [hd] at hx; simp at hx; subst hx
          have hl := h.lens
          have := bornL_le BL h.born NL.length R (bornL BL 0 L) (bornL_le BL h.born NL.length L 0 (Nat.zero_le _) hL) hR
          simp only [putKey]; omega
        | succ d => rw [hd] at hx; simp at hx
theorem BookOK.lt {NL : List (List Nat × List Nat)} {BL : List Nat} (h : BookOK NL BL) (N : Nat) (hN : NL.length ≤ N) : ∀ x ∈ BL, x < N + 1 := by
  intro x hx
  obtain ⟨j, hj, rfl⟩ := List.getElem_of_mem hx
  have := h.born j _ (List.getElem?_eq_getElem hj)
  have := h.lens
  omega

def addStep (s : List (List Nat × List Nat) × List Nat × List Nat) (x : List Nat × List Nat) : List (List Nat × List Nat) × List Nat × List Nat :=
  let p := putB s.1 s.2.1 (atAll s.2.2 x.1) (atAll s.2.2 x.2)
  (p.1, p.2.1, s.2.2 ++ [p.2.2])
def addB (NL : List (List Nat × List Nat)) (BL : List Nat) (FL : List (List Nat × List Nat)) : List (List Nat × List Nat) × List Nat × List Nat := FL.foldl addStep (NL, BL, [])
theorem addB_snoc (NL : List (List Nat × List Nat)) (BL : List Nat) (FL : List (List Nat × List Nat)) (x : List Nat × List Nat) : addB NL BL (FL ++ [x]) = addStep (addB NL BL FL) x := by simp [addB]

theorem atAll_lt {A L : List Nat} {N : Nat} (hA : ∀ x ∈ A, x < N) (hL : ∀ x ∈ L, x < A.length) : ∀ x ∈ atAll A L, x < N := by
  intro x hx
  obtain ⟨i, hi, rfl⟩ := List.mem_map.1 hx
  rw [List.getD_eq_getElem?_getD, List.getElem?_eq_getElem (hL i hi)]
  exact hA _ (List.getElem_mem _)

/-- What holds of the book and the places after some of a form's nodes. -/
theorem addB_ok {NL : List (List Nat × List Nat)} {BL : List Nat} (h : BookOK NL BL) (FL : List (List Nat × List Nat)) (hF : ∀ (j : Nat) (y : List Nat × List Nat), FL[j]? = some y → (∀ x ∈ y.1, x < j) ∧ ∀ x ∈ y.2, x < j) :
    BookOK (addB NL BL FL).1 (addB NL BL FL).2.1 ∧ (addB NL BL FL).2.2.length = FL.length ∧ (∀ x ∈ (addB NL BL FL).2.2, x < (addB NL BL FL).1.length) ∧ (addB NL BL FL).1.length ≤ NL.length + FL.length ∧ NL <+: (addB NL BL FL).1 := by
  suffices hs : ∀ n, n ≤ FL.length → BookOK (addB NL BL (FL.take n)).1 (addB NL BL (FL.take n)).2.1 ∧ (addB NL BL (FL.take n)).2.2.length = n ∧ (∀ x ∈ (addB NL BL (FL.take n)).2.2, x < (addB NL BL (FL.take n)).1.length) ∧ (addB NL BL (FL.take n)).1.length ≤ NL.length + n ∧ NL <+: (addB NL BL (FL.take n)).1 by
    have := hs FL.length (Nat.le_refl _)
    rw [List.take_length] at this
    exact this
  intro n
  induction n with
  | zero => intro _; exact ⟨h, rfl, by simp [addB], by simp [addB], by simp [addB]⟩
  | succ n ih =>
    intro hn
    obtain ⟨i1, i2, i3, i4, i5⟩ := ih (by omega)
    rw [List.take_succ_eq_append_getElem (by omega), addB_snoc]
    obtain ⟨f1, f2⟩ := hF n FL[n] (List.getElem?_eq_getElem _)
    have a1 := atAll_lt i3 (fun x hx => by rw [i2]; exact f1 x hx)
    have a2 := atAll_lt i3 (fun x hx => by rw [i2]; exact f2 x hx)
    obtain ⟨p1, p2, p3, p4, _⟩ := putB_ok i1 _ _ a1 a2
    refine ⟨p1, by simp [addStep, i2], ?_, by simp only [addStep]; omega, i5.trans p4⟩
    intro x hx
    simp only [addStep, List.mem_append, List.mem_singleton] at hx ⊢
    rcases hx with hx | rfl
    · exact Nat.lt_of_lt_of_le (i3 x hx) p4.length_le
    · exact p2

theorem Fr.any {M : Nat → Prop} {a b : World} (h : Fr NoM a b) : Fr M a b := h.mono fun _ _ q => False.elim q
theorem nats_atAll {w : World} {base : Nat} {v : Value} {A L : List Nat} (h : w.ownsRow base 3 1 v L.length ((atAll A L).map encN)) : Nats w v (atAll A L) :=
  SliceOf.of_owns (n := (atAll A L).length) (by rw [show (atAll A L).length = L.length from by simp [atAll]]; exact h) rfl

/-- The book behind a put, in a world where the book's blocks below are S1's. -/
theorem put_after {S1 : Nat → Prop} {wr W w3 : World} {bb : Nat} {NL NL' : List (List Nat × List Nat)} {BL BL' : List Nat} (p1 : BookS (fun k => S1 k ∨ W.heap.size ≤ k) w3 bb NL' BL') (p2 : Fr (BookM W bb) W w3) (hb : BookS S1 W bb NL BL) (f : Fr NoM wr W) :
    ∃ S2, BookS S2 w3 bb NL' BL' ∧ (∀ q, S2 q → (S1 q ∨ wr.heap.size ≤ q) ∧ q < w3.heap.size) ∧ Fr S1 wr w3 :=
  ⟨_, p1.cut, fun _ h => ⟨h.1.imp_right (Nat.le_trans f.size), h.2⟩, (f.mono fun _ _ q => q.elim).trans p2 fun k _ h => hb.m k h⟩

set_option maxRecDepth 4000 in
set_option maxHeartbeats 4000000 in
theorem add_any {R S : Nat → Prop} (bb : Nat) (nv : Value) (NL FL : List (List Nat × List Nat)) (BL : List Nat) (w : World) (hB : BookS S w bb NL BL) (hOK : BookOK NL BL) (hF : NodeL R encN w nv FL) (hR : ∀ k, R k → ¬ S k)
    (hopt : ∀ (j : Nat) (y : List Nat × List Nat), FL[j]? = some y → (∀ x ∈ y.1, x < j) ∧ ∀ x ∈ y.2, x < j) (hn : NL.length + FL.length < 100000000) (hlen : ∀ y ∈ FL, y.1.length < 100000000 ∧ y.2.length < 100000000) :
    Calls Tryz.prog 157 #[.pointer (some ⟨bb, 0, none⟩), .agg #[nv]] w fun e w' => ∃ v' S', e = .returned v' ∧ w'.ownsRow w.heap.size 3 1 v' FL.length ((addB NL BL FL).2.2.map encN) ∧ (∀ b, v'.ownBlock = some b → ¬ S' b) ∧
      BookS S' w' bb (addB NL BL FL).1 (addB NL BL FL).2.1 ∧ (∀ k, S' k → S k ∨ w.heap.size ≤ k) ∧ Fr S w w' := by
  have hFk := hF
  obtain ⟨na, nc, rfl, hnc, hncm, hnn⟩ := hF
  have HNn := Lib.hid hnn; have HB := Lib.hid hB; have HOK := Lib.hid hOK; have HR := Lib.hid hR; have Hopt := Lib.hid hopt; have Hn := Lib.hid hn; have HLen := Lib.hid hlen
  clear hnn hB hOK hFk hR hopt hn hlen
  go_enter Tryz.func157, Tryz.ntmps157
  go_wp2
  obtain ⟨w0, hw0⟩ : ∃ w0 : World, w0 = (w.alloc (.cells #[.slice na FL.length nc] 24)).alloc (.cells #[] 3) := ⟨_, rfl⟩
  have F0 : Fr NoM w w0 := by rw [hw0]; exact ((Fr.refl NoM w).alloc _).alloc _
  have k0 : w0.heap[w.heap.size]? = some (.cells #[.slice na FL.length nc] 24 (0, 0)) := by
    rw [hw0, Below.heap_alloc _ _ _ (by simp)]; exact heap_alloc_new w _
  have o0 : w0.ownsRow w.heap.size 3 1 (.slice (some ⟨w.heap.size + 1, 0, none⟩) 0 0) 0 [] := by
    have h := World.ownsRow_made (base := w.heap.size) (e := 3) (size := 1) (w.alloc (.cells #[.slice na FL.length nc] 24)) #[] 0 (by simp) (by decide) (by simp)
    simp only [World.size_alloc] at h
    rw [hw0]; exact h
  rw [← hw0]
  have HF0 := Lib.hid F0; have HK0 := Lib.hid k0; have HO0 := Lib.hid o0
  clear F0 k0 o0 hw0
  go_loopw [5, 6] (fun v0 i wr => ∃ (k : Nat) (S1 : Nat → Prop) (v : Value), v = v0 ∧ k ≤ FL.length ∧ i = .int .i64 k ∧ wr.ownsRow w.heap.size 3 1 v k ((addB NL BL (FL.take k)).2.2.map encN) ∧ BookS S1 wr bb (addB NL BL (FL.take k)).1 (addB NL BL (FL.take k)).2.1 ∧
      (∀ q, S1 q → S q ∨ w.heap.size ≤ q) ∧ ¬ S1 w.heap.size ∧ (∀ b, v.ownBlock = some b → ¬ S1 b ∧ b ≠ w.heap.size) ∧ wr.heap[w.heap.size]? = some (.cells #[.slice na FL.length nc] 24 (0, 0)) ∧ Fr S w wr) (fun _ i _ => FL.length - (intOf i).toNat)
  case atStart =>
    exact ⟨0, fun k => S k ∧ k < w.heap.size, _, rfl, by omega, rfl, HO0.out, HB.out.cut.fr0 HF0.out, fun q h => .inl h.1, fun h => by have := h.2; omega, fun b hb => by
      simp [Value.ownBlock] at hb; subst hb; exact ⟨fun h => by have := h.2; omega, by omega⟩, HK0.out, HF0.out.mono (fun _ _ q => q.elim)⟩
  case round =>
    obtain ⟨k, S1, v, rfl, hk, rfl, hown, hbs, hsub, hbx, hv, hbox, hfr⟩ := hrel
    have hpre : ∀ (j : Nat) (y : List Nat × List Nat), (FL.take k)[j]? = some y → (∀ x ∈ y.1, x < j) ∧ ∀ x ∈ y.2, x < j := fun j y hy => Hopt.out j y (by
      rw [List.getElem?_take] at hy
      split at hy
      · exact hy
      · cases hy)
    obtain ⟨ok1, ok2, ok3, ok4, ok5⟩ := addB_ok HOK.out (FL.take k) hpre
    rw [List.length_take, Nat.min_eq_left hk] at ok2 ok4
    obtain ⟨⟨NLk, BLk, A⟩, hA⟩ : ∃ s, addB NL BL (FL.take k) = s := ⟨_, rfl⟩
    rw [hA] at hown hbs ok1 ok2 ok3 ok4 ok5
    dsimp only at hown hbs ok1 ok2 ok3 ok4 ok5
    by_cases hlt : k < FL.length
    · obtain ⟨b1, o1, lv, rv, ha1, hR1, d1, d2, n1, n2, m1, m2⟩ := HNn.out k FL[k] (List.getElem?_eq_getElem _)
      obtain ⟨x1, x2⟩ := Hopt.out k FL[k] (List.getElem?_eq_getElem _)
      obtain ⟨y1, y2⟩ := HLen.out FL[k] (List.getElem_mem _)
      have hnn := Hn.out
      have ix := ixNode na FL.length nc k b1 o1 hlt ha1
      have hnext : addB NL BL (FL.take (k + 1)) = ((putB NLk BLk (atAll A FL[k].1) (atAll A FL[k].2)).1, (putB NLk BLk (atAll A FL[k].1) (atAll A FL[k].2)).2.1, A ++ [(putB NLk BLk (atAll A FL[k].1) (atAll A FL[k].2)).2.2]) := by
        rw [List.take_succ_eq_append_getElem hlt, addB_snoc, hA]; rfl
      have hvb : ∀ b, v.ownBlock = some b → w.heap.size ≤ b ∧ b < wr.heap.size := fun b hb => hown.lt b hb
      have hlow : ∀ q, q < w.heap.size → R q → ¬ (S1 q ∨ Own1 v q) := by
        rintro q hq hR (h | h)
        · rcases hsub q h with h | h
          · exact HR.out q hR h
          · omega
        · have := hvb q h; omega
      have hsz : w.heap.size < wr.heap.size := (Array.getElem?_eq_some_iff.1 hbox).1
      have HV := Lib.hid (fun (W : World) (f : Fr NoM wr W) => (SliceOf.of_owns (L := A) (ok2 ▸ hown) rfl : Nats wr v A).fr0 f)
      have hA1 : A.length = k := ok2
      have HN1 := Lib.hid (fun (W : World) (f : Fr NoM wr W) => (n1.fr hfr (fun hne b hb => fun h => HR.out b (m1 hne b hb) h)).fr0 f)
      have HN2 := Lib.hid (fun (W : World) (f : Fr NoM wr W) => (n2.fr hfr (fun hne b hb => fun h => HR.out b (m2 hne b hb) h)).fr0 f)
      have HBk := Lib.hid (fun (W : World) (f : Fr NoM wr W) => hbs.fr0 f)
      have e1 := hfr.cell d1 (HR.out b1 hR1)
      have e2 := hfr.cell d2 (HR.out b1 hR1)
      have hb1 : b1 < w.heap.size := World.block_lt_of_cell? w _ d1
      have e0 : wr.cell? ⟨w.heap.size, 0, none⟩ = some (.slice na FL.length nc) := by rw [cell_of_row wr _ 0 _ _ _ hbox]; rfl
      have HC := Lib.hid (fun (W : World) (f : Fr (fun q => S1 q ∨ Own1 v q) wr W) => (⟨f.cell e0 (fun h => h.elim hbx (fun h => (hv _ h).2 rfl)), f.cell e1 (hlow _ hb1 hR1), f.cell e2 (hlow _ hb1 hR1)⟩ : W.cell? ⟨w.heap.size, 0, none⟩ = some (.slice na FL.length nc) ∧ W.cell? ⟨b1, o1 + k * 2, none⟩ = some lv ∧ W.cell? ⟨b1, o1 + k * 2 + 1, none⟩ = some rv))
      have HX1 := Lib.hid (show ∀ (j x : Nat), FL[k].1[j]? = some x → x < A.length from fun j x hx => hA1 ▸ x1 x (List.mem_of_getElem? hx))
      have HX2 := Lib.hid (show ∀ (j x : Nat), FL[k].2[j]? = some x → x < A.length from fun j x hx => hA1 ▸ x2 x (List.mem_of_getElem? hx))
      have HY1 := Lib.hid (show FL[k].1.length < 1000000000000 by omega)
      have HY2 := Lib.hid (show FL[k].2.length < 1000000000000 by omega)
      have hz1 := atAll_lt (L := FL[k].1) ok3 (fun x hx => hA1 ▸ x1 x hx)
      have hz2 := atAll_lt (L := FL[k].2) ok3 (fun x hx => hA1 ▸ x2 x hx)
      have HP1 := Lib.hid (show ∀ (j x : Nat), (atAll A FL[k].1)[j]? = some x → x < NLk.length from fun j x hx => hz1 x (List.mem_of_getElem? hx))
      have HP2 := Lib.hid (show ∀ (j x : Nat), (atAll A FL[k].2)[j]? = some x → x < NLk.length from fun j x hx => hz2 x (List.mem_of_getElem? hx))
      have HP3 := Lib.hid (show (atAll A FL[k].1).length < 1000000000 by simp [atAll]; omega)
      have HP4 := Lib.hid (show (atAll A FL[k].2).length < 1000000000 by simp [atAll]; omega)
      have HP5 := Lib.hid (show NLk.length < 1000000000 by omega)
      have HP6 := Lib.hid (show ∀ x ∈ BLk, x < 1000000000 from fun x hx => by have := ok1.lt NLk.length (Nat.le_refl _) x hx; omega)
      have F0 : Fr NoM wr wr.drew := (Fr.refl NoM wr).drew
      have G0 : Fr (fun q => S1 q ∨ Own1 v q) wr wr.drew := (Fr.refl _ wr).drew
      have HO := Lib.hid hown; have HNx := Lib.hid hnext; have HVb := Lib.hid hvb; have HFr := Lib.hid hfr; have HSub := Lib.hid hsub; have HVs := Lib.hid hv; have HBox := Lib.hid hbox; have HBx := Lib.hid hbx; have HSz := Lib.hid hsz
      clear hown hnext hvb hfr hsub hv hbox hbx hsz d1 d2 n1 n2 m1 m2 x1 x2 y1 y2 hz1 hz2 ok1 ok2 ok3 ok4 ok5 hbs hA hpre e0 e1 e2 hb1 hlow hR1 ha1 hA1
      have hc := HC.out wr (Fr.refl _ wr)
      go_wp2
      go_region_held3 (fun (W : World) => W.cell? ⟨w.heap.size, 0, none⟩ = some (.slice na FL.length nc) ∧ W.cell? ⟨b1, o1 + k * 2, none⟩ = some lv ∧ W.cell? ⟨b1, o1 + k * 2 + 1, none⟩ = some rv)
        (first | exact HC.out _ (by assumption) | exact HC.out _ (Fr.alloc (by assumption) _))
        (first
          | (go_at_call 123; with_reducible refine (l3At_any _ lv A FL[k].1 _ (HV.out _ (by assumption)) (HN1.out _ (by assumption)) HX1.out HY1.out).mono ?_; rintro e w1 ⟨v1, rfl, t1, f1⟩; have z1 : Nats w1 v1 (atAll A FL[k].1) := nats_atAll t1; clear t1; have g1 : Fr NoM wr w1 := Fr.trans (by assumption) f1 (fun _ _ q => q); have k1 : Fr (fun q => S1 q ∨ Own1 v q) wr w1 := g1.any; try (have z2 := SliceOf.fr0 (L := atAll A FL[k].2) (by assumption) f1))
          | (go_at_call 123; with_reducible refine (l3At_any _ rv A FL[k].2 _ (HV.out _ (by assumption)) (HN2.out _ (by assumption)) HX2.out HY2.out).mono ?_; rintro e w2 ⟨v2, rfl, t2, f2⟩; have z2 : Nats w2 v2 (atAll A FL[k].2) := nats_atAll t2; clear t2; have g2 : Fr NoM wr w2 := Fr.trans (by assumption) f2 (fun _ _ q => q); have k2 : Fr (fun q => S1 q ∨ Own1 v q) wr w2 := g2.any; try (have z1 := SliceOf.fr0 (L := atAll A FL[k].1) (by assumption) f2))
          | (go_at_call 80; with_reducible refine (put_any bb _ _ NLk BLk (atAll A FL[k].1) (atAll A FL[k].2) _ (HBk.out _ (by assumption)) (by assumption) (by assumption) HP1.out HP2.out HP3.out HP4.out HP5.out HP6.out).mono ?_; rintro e w3 ⟨rfl, p1, p2⟩; obtain ⟨S2, h3, s3, f3⟩ := put_after (wr := wr) p1 p2 (HBk.out _ (by assumption)) (by assumption); clear p1 p2; have HS3 := Lib.hid s3; clear s3; have k3 : Fr (fun q => S1 q ∨ Own1 v q) wr w3 := f3.mono (fun _ _ q => .inl q))
          | (refine step_appS (enc := encN) rfl (.tmp 15) (.tmp 34) 75 rfl w.heap.size 3 (.int .i64 0) 8 Tryz.underlying75 infoInt rfl v k (A.map encN) rfl (owns_fr HO.out (f3.alloc _) (fun b hb => (HVs.out b hb).1)) (.slice (some ⟨w3.heap.size, 0, none⟩) 1 1) rfl [(putB NLk BLk (atAll A FL[k].1) (atAll A FL[k].2)).2.2] (SliceOf.one encN w3 _ 3) (fun _ => rfl) (by simp; omega) (by decide) (by have := f3.size; have := HSz.out; rw [World.size_alloc]; omega) ?_; intro v4 w4 h4 f4 q4; have k4 : Fr (fun q => S1 q ∨ Own1 v q) wr w4 := (k3.alloc _).trans f4 (fun _ _ q => .inr q))
          | fail)
      all_goals
        go_wp2
        go_roundw
        case rel =>
          have hd : ∀ q, S2 q → ¬ Own1 v q := fun q hq ho => by
            rcases (HS3.out q hq).1 with h | h
            · exact (HVs.out q ho).1 h
            · have := (HVb.out q ho).2; omega
          have hz := HSz.out
          refine ⟨k + 1, S2, _, rfl, by omega, by go_num, ?_, ?_, ?_, ?_, ?_, ?_, ?_⟩
          · rw [HNx.out, List.map_append]; exact h4
          · rw [HNx.out]; exact (h3.fr0 ((Fr.refl NoM w3).alloc _)).fr f4 hd
          · intro q hq
            rcases (HS3.out q hq).1 with h | h
            · exact HSub.out q h
            · exact .inr (by omega)
          · intro hq
            rcases (HS3.out _ hq).1 with h | h
            · exact HBx.out h
            · omega
          · intro b hb
            rcases q4 with h | ⟨b', h, hle⟩
            · rw [h] at hb
              exact ⟨fun hq => hd b hq hb, (HVs.out b hb).2⟩
            · rw [h] at hb; cases hb
              simp only [World.size_alloc] at hle
              have := f3.size
              exact ⟨fun hq => by have := (HS3.out _ hq).2; omega, by omega⟩
          · exact k4.heap HBox.out (fun h => h.elim HBx.out (fun h => (HVs.out _ h).2 rfl))
          · refine HFr.out.trans k4 (fun q hq h => ?_)
            rcases h with h | h
            · rcases HSub.out q h with h | h
              · exact h
              · omega
            · have := (HVb.out q h).1; omega
        case measure => simp [intOf]; omega
    · have hk' : k = FL.length := by omega
      subst hk'
      rw [List.take_length] at hA
      have HO := Lib.hid hown; have HFr := Lib.hid hfr; have HSub := Lib.hid hsub; have HVs := Lib.hid hv; have HBk := Lib.hid hbs; have HA := Lib.hid hA
      have e0 : wr.cell? ⟨w.heap.size, 0, none⟩ = some (.slice na FL.length nc) := by rw [cell_of_row wr _ 0 _ _ _ hbox]; rfl
      clear hown hfr hsub hv hbs hA hbox hbx hpre ok1 ok2 ok3 ok4 ok5
      go_wp2
      go_ret
      refine ⟨_, S1, rfl, ?_, fun b hb => (HVs.out b hb).1, ?_, HSub.out, HFr.out⟩
      · rw [HA.out]; exact HO.out
      · rw [HA.out]; exact HBk.out
end Go.Proofs.YtkbljlbfkgoalaaGreatDoor
