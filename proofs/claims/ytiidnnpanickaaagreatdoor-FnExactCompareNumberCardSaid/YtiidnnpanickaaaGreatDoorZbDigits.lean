import Derived.Test.YtiidnnpanickaaaGreatDoorZbMaps
/- What the claim of FnExactCompareNumberCard needs of: FormDefs Digits. -/
namespace Go.Proofs.YtiidnnpanickaaaGreatDoor
set_option linter.unusedVariables false
set_option linter.unusedSimpArgs false
open Go.RowKit
abbrev PL := List Nat × List Nat
def posA (LL : List PL) (x : PL) : Nat := (LL.takeWhile fun y => aheadB y x).length
def keyF (A : List Nat) (y : PL) : PL := (sortN (atAll A y.1), sortN (atAll A y.2))
def insF (s : List PL × List Nat) (x : PL) (k : Nat) : List PL × List Nat :=
  (s.1.take (posA s.1 x) ++ x :: s.1.drop (posA s.1 x), s.2.take (posA s.1 x) ++ k :: s.2.drop (posA s.1 x))
def pickStep (NL : List PL) (BL : List Nat) (need : List Bool) (A : List Nat) (born : Nat) (s : List PL × List Nat) (k : Nat) : List PL × List Nat :=
  if need.getD k false = true ∧ BL.getD k 0 = born then insF s (keyF A (NL.getD k ([], []))) k else s
def pickB (NL : List PL) (BL : List Nat) (need : List Bool) (A : List Nat) (born n : Nat) : List PL × List Nat := (List.range n).foldl (pickStep NL BL need A born) ([], [])
def layF (s : List Nat × List PL) (p : PL × Nat) : List Nat × List PL := (s.1.set p.2 s.2.length, s.2 ++ [p.1])
def bornF (NL : List PL) (BL : List Nat) (need : List Bool) (root : Nat) (s : List Nat × List PL) (born : Nat) : List Nat × List PL :=
  (List.zip (pickB NL BL need s.1 born (root + 1)).1 (pickB NL BL need s.1 born (root + 1)).2).foldl layF s
def formUp (NL : List PL) (BL : List Nat) (need : List Bool) (root n : Nat) : List Nat × List PL := (List.range n).foldl (bornF NL BL need root) (List.replicate (root + 1) 0, [])
def formB (NL : List PL) (BL : List Nat) (root : Nat) : List PL := (formUp NL BL (reachB NL root) root (BL.getD root 0 + 1)).2
theorem pickB_succ (NL : List PL) (BL : List Nat) (need : List Bool) (A : List Nat) (born n : Nat) : pickB NL BL need A born (n + 1) = pickStep NL BL need A born (pickB NL BL need A born n) n := by simp [pickB, List.range_succ]
theorem formUp_succ (NL : List PL) (BL : List Nat) (need : List Bool) (root n : Nat) : formUp NL BL need root (n + 1) = bornF NL BL need root (formUp NL BL need root n) n := by simp [formUp, List.range_succ]
theorem reachStep_length (NL : List PL) (m : List Bool) (k : Nat) : (reachStep NL m k).length = m.length := by
  unfold reachStep
  split
  · rw [markL_length, markL_length]
  · rfl
theorem reachFrom_length (NL : List PL) (n : Nat) (m : List Bool) : (reachFrom NL n m).length = m.length := by
  induction n generalizing m with
  | zero => rfl
  | succ n ih => unfold reachFrom; rw [ih, reachStep_length]
theorem reachB_length (NL : List PL) (root : Nat) : (reachB NL root).length = root + 1 := by unfold reachB; rw [reachFrom_length]; simp
theorem posA_le (LL : List PL) (x : PL) : posA LL x ≤ LL.length := (List.takeWhile_sublist _).length_le
theorem posA_at (LL : List PL) (x : PL) (k : Nat) (hk : k ≤ LL.length) (hb : ∀ j y, j < k → LL[j]? = some y → aheadB y x = true) (he : ∀ y, LL[k]? = some y → aheadB y x = false) : posA LL x = k := by
  induction LL generalizing k with
  | nil => simp at hk; subst hk; rfl
  | cons a l ih =>
    cases k with
    | zero => have := he a rfl; simp [posA, List.takeWhile_cons, this]
    | succ k =>
      have h0 := hb 0 a (by omega) rfl
      have := ih k (by simpa using hk) (fun j y hj hy => hb (j + 1) y (by omega) (by simpa using hy)) (fun y hy => he y (by simpa using hy))
      simp only [posA, List.takeWhile_cons, h0, if_true, List.length_cons] at this ⊢
      omega
theorem insF_length (s : List PL × List Nat) (x : PL) (k : Nat) (h : s.1.length = s.2.length) : (insF s x k).1.length = s.1.length + 1 ∧ (insF s x k).2.length = s.2.length + 1 := by
  have := posA_le s.1 x
  simp only [insF, List.length_append, List.length_take, List.length_cons, List.length_drop]
  omega
theorem pickB_length (NL : List PL) (BL : List Nat) (need : List Bool) (A : List Nat) (born n : Nat) : (pickB NL BL need A born n).1.length = (pickB NL BL need A born n).2.length ∧ (pickB NL BL need A born n).1.length ≤ n := by
  induction n with
  | zero => simp [pickB]
  | succ n ih =>
    rw [pickB_succ]
    unfold pickStep
    split
    · have := insF_length _ (keyF A (NL.getD n ([], []))) n ih.1
      omega
    · omega
theorem insF_mem (s : List PL × List Nat) (x : PL) (k y : Nat) : y ∈ (insF s x k).2 ↔ y ∈ s.2 ∨ y = k := by
  simp only [insF, List.mem_append, List.mem_cons]
  constructor
  · rintro (h | h | h)
    · exact .inl (List.mem_of_mem_take h)
    · exact .inr h
    · exact .inl (List.mem_of_mem_drop h)
  · rintro (h | h)
    · rw [← List.take_append_drop (posA s.1 x) s.2, List.mem_append] at h
      rcases h with h | h
      · exact .inl h
      · exact .inr (.inr h)
    · exact .inr (.inl h)
theorem pickB_lt (NL : List PL) (BL : List Nat) (need : List Bool) (A : List Nat) (born n : Nat) : ∀ y ∈ (pickB NL BL need A born n).2, y < n := by
  induction n with
  | zero => simp [pickB]
  | succ n ih =>
    rw [pickB_succ]
    unfold pickStep
    intro y hy
    split at hy
    · rcases (insF_mem _ _ _ _).1 hy with h | h
      · have := ih y h; omega
      · omega
    · have := ih y hy; omega
theorem layF_foldl_length (l : List (PL × Nat)) (s : List Nat × List PL) : (l.foldl layF s).1.length = s.1.length ∧ (l.foldl layF s).2.length = s.2.length + l.length := by
  induction l generalizing s with
  | nil => simp
  | cons x l ih =>
    rw [List.foldl_cons]
    have := ih (layF s x)
    simp only [layF, List.length_set, List.length_append, List.length_cons, List.length_nil] at this ⊢
    omega
theorem formUp_length (NL : List PL) (BL : List Nat) (need : List Bool) (root n : Nat) : (formUp NL BL need root n).1.length = root + 1 ∧ (formUp NL BL need root n).2.length ≤ n * (root + 1) := by
  induction n with
  | zero => simp [formUp]
  | succ n ih =>
    rw [formUp_succ]
    unfold bornF
    have h := layF_foldl_length (List.zip (pickB NL BL need (formUp NL BL need root n).1 n (root + 1)).1 (pickB NL BL need (formUp NL BL need root n).1 n (root + 1)).2) (formUp NL BL need root n)
    have h2 := pickB_length NL BL need (formUp NL BL need root n).1 n (root + 1)
    rw [List.length_zip] at h
    rw [Nat.succ_mul]
    omega
def NodeRow (T : Nat → Prop) (base : Nat) (w : World) (v : Value) (LL : List PL) : Prop :=
  ∃ NV : List (Value × Value), w.ownsRow base 82 2 v NV.length (flat2 NV) ∧ NV.length = LL.length ∧
    ∀ (j : Nat) (x : Value × Value) (y : PL), NV[j]? = some x → LL[j]? = some y → Nats w x.1 y.1 ∧ Nats w x.2 y.2 ∧ (y.1 ≠ [] → ∀ q, x.1.ownBlock = some q → T q) ∧ (y.2 ≠ [] → ∀ q, x.2.ownBlock = some q → T q)
section
variable {T : Nat → Prop} {base : Nat} {w w' : World} {v : Value} {LL : List PL}
theorem NodeRow.fr {M : Nat → Prop} (h : NodeRow T base w v LL) (hf : Fr M w w') (hv : ∀ b, v.ownBlock = some b → ¬ M b) (hT : ∀ b, T b → ¬ M b) : NodeRow T base w' v LL := by
  obtain ⟨NV, h1, h2, h3⟩ := h
  refine ⟨NV, owns_fr h1 hf hv, h2, fun j x y hx hy => ?_⟩
  obtain ⟨s1, s2, t1, t2⟩ := h3 j x y hx hy
  exact ⟨s1.fr hf (fun hne q hq => hT q (t1 hne q hq)), s2.fr hf (fun hne q hq => hT q (t2 hne q hq)), t1, t2⟩
theorem NodeRow.fr0 (h : NodeRow T base w v LL) (hf : Fr NoM w w') : NodeRow T base w' v LL := h.fr hf (fun _ _ q => q) (fun _ _ q => q)
theorem NodeRow.mono {T' : Nat → Prop} (h : NodeRow T base w v LL) (ht : ∀ b, T b → b < w.heap.size → T' b) : NodeRow T' base w v LL := by
  obtain ⟨NV, h1, h2, h3⟩ := h
  refine ⟨NV, h1, h2, fun j x y hx hy => ?_⟩
  obtain ⟨s1, s2, t1, t2⟩ := h3 j x y hx hy
  refine ⟨s1, s2, fun hne q hq => ht q (t1 hne q hq) ?_, fun hne q hq => ht q (t2 hne q hq) ?_⟩
  · obtain ⟨b, hb, hl⟩ := s1.block hne; rw [hq] at hb; cases hb; exact hl
  · obtain ⟨b, hb, hl⟩ := s2.block hne; rw [hq] at hb; cases hb; exact hl
theorem NodeRow.nodeL {R : Nat → Prop} (h : NodeRow T base w v LL) (hR : ∀ b, base ≤ b → R b) (hT : ∀ b, T b → R b) : NodeL R encN w v LL := by
  obtain ⟨NV, h1, h2, h3⟩ := h
  have hb := fun b hb => (h1.lt b hb).1
  obtain ⟨a, c, rfl, h4, h5, h6⟩ := Pairs.of_owns h1
  rw [h2] at h4 hb ⊢
  refine ⟨a, c, rfl, h4, h5, fun j y hy => ?_⟩
  have hj := (List.getElem?_eq_some_iff.1 hy).1
  obtain ⟨x, hx⟩ : ∃ x, NV[j]? = some x := ⟨NV[j]'(by rw [h2]; exact hj), List.getElem?_eq_getElem _⟩
  obtain ⟨b, off, rfl, c1, c2⟩ := h6 j x hx
  obtain ⟨s1, s2, t1, t2⟩ := h3 j x y hx hy
  exact ⟨b, off, x.1, x.2, rfl, hR b (hb b rfl), c1, c2, s1, s2, fun hne q hq => hT q (t1 hne q hq), fun hne q hq => hT q (t2 hne q hq)⟩
def NodeOwn (D : Nat) (w : World) (v : Value) (LL : List PL) : Prop := ∃ (T : Nat → Prop) (base : Nat), NodeRow T base w v LL ∧ D ≤ base ∧ (∀ q, T q → D ≤ q) ∧ ∀ q, v.ownBlock = some q → ¬ T q
theorem NodeOwn.nodeL {D : Nat} (h : NodeOwn D w v LL) : NodeL (fun b => D ≤ b) encN w v LL := by
  obtain ⟨T, base, h1, h2, h3, _⟩ := h
  exact h1.nodeL (fun b hb => Nat.le_trans h2 hb) h3
end
theorem step_app2S {P : Program} {w : World} {ops : Array Oper} {o : Oper} {a : Act} {K : Act → World → Prop} {Q : Exit → Act → World → Prop} {E : Prop} (base : Nat) (hb : base ≤ w.heap.size) (hg : o.guard = none) (s x : Operand) (t : TypeId)
    (hop : o.op = Op.call { callee := Callee.builtin Builtin.append, args := #[s, x], argTypes := #[t, t] }) (e : TypeId) (z : Value) (bytes : Nat) (ht : P.underlying t = some (.slice e))
    (hi : (P.info? e).map (fun i => (i.zero, i.size, i.bytes)) = some (some z, 2, bytes)) (hz : z.cells.size = 2) (v : Value) (XV : List (Value × Value)) (hs : a.eval s = v) (hown : w.ownsRow base e 2 v XV.length (flat2 XV))
    (xv : Value) (hx : a.eval x = xv) (NV : List (Value × Value)) (hsrc : Pairs w xv NV) (h1 : ∀ x ∈ NV, x.1.oneCell' = true ∧ x.2.oneCell' = true) (hn : (XV.length + NV.length) * bytes ≤ 140737488355328) (hb1 : 0 < bytes)
    (hK : ∀ (v' : Value) (w' : World), w'.ownsRow base e 2 v' (XV ++ NV).length (flat2 (XV ++ NV)) → Fr (Own1 v) w w' → (v'.ownBlock = v.ownBlock ∨ ∃ b, v'.ownBlock = some b ∧ w.heap.size ≤ b) → K (a.put o.dst v') w') :
    if Region.wanted o (yielded ops a.tmps) = true then Oper.wp P o a w K Q else E := by
  have hw : Region.wanted o (yielded ops a.tmps) = true := by simp [Region.wanted, hg]
  rw [if_pos hw]
  obtain ⟨v', w', hr, h2, h3, h4⟩ := run_append_src2 (P := P) w t o.type base e z bytes ht hi hz v XV hown xv NV hsrc h1 hn hb1 hb
  unfold Oper.wp execOp
  simp only [hop, resolve, invoke, builtin, Sem.run_bind, Sem.run_pure, Result.andThen_ok, List.map_toArray, List.map_cons, List.map_nil, hs, hx, hr]
  exact hK v' w' h2 h3 h4
theorem ins_get {α : Type} (l : List α) (a : α) (j i : Nat) (hj : j ≤ l.length) : (l.take j ++ a :: l.drop j)[i]? = if i < j then l[i]? else if i = j then some a else l[i - 1]? := by
  have ht : (l.take j).length = j := by simp; omega
  by_cases h1 : i < j
  · rw [if_pos h1, List.getElem?_append_left (by omega), List.getElem?_take, if_pos h1]
  · rw [if_neg h1, List.getElem?_append_right (by omega), ht]
    by_cases h2 : i = j
    · subst h2; simp
    · rw [if_neg h2, show i - j = (i - j - 1) + 1 from by omega, List.getElem?_cons_succ, List.getElem?_drop]
      congr 1; omega
theorem nodeRow_ins {T : Nat → Prop} {base : Nat} {w : World} {v : Value} {LL : List PL} {NV : List (Value × Value)} {x : PL} {xv : Value × Value} {j : Nat} (h : w.ownsRow base 82 2 v (NV.take j ++ xv :: NV.drop j).length (flat2 (NV.take j ++ xv :: NV.drop j)))
    (hl : NV.length = LL.length) (hj : j ≤ LL.length)
    (hV : ∀ (i : Nat) (x : Value × Value) (y : PL), NV[i]? = some x → LL[i]? = some y → Nats w x.1 y.1 ∧ Nats w x.2 y.2 ∧ (y.1 ≠ [] → ∀ q, x.1.ownBlock = some q → T q) ∧ (y.2 ≠ [] → ∀ q, x.2.ownBlock = some q → T q))
    (hx : Nats w xv.1 x.1 ∧ Nats w xv.2 x.2 ∧ (x.1 ≠ [] → ∀ q, xv.1.ownBlock = some q → T q) ∧ (x.2 ≠ [] → ∀ q, xv.2.ownBlock = some q → T q)) : NodeRow T base w v (LL.take j ++ x :: LL.drop j) := by
  refine ⟨_, h, by simp; omega, fun i a b ha hb => ?_⟩
  rw [ins_get NV xv j i (by omega)] at ha
  rw [ins_get LL x j i hj] at hb
  by_cases h1 : i < j
  · rw [if_pos h1] at ha hb; exact hV i a b ha hb
  · rw [if_neg h1] at ha hb
    by_cases h2 : i = j
    · rw [if_pos h2] at ha hb; cases ha; cases hb; exact hx
    · rw [if_neg h2] at ha hb; exact hV _ a b ha hb
theorem nodeRow_snoc {T : Nat → Prop} {base : Nat} {w : World} {v : Value} {LL : List PL} {NV : List (Value × Value)} {x : PL} {xv : Value × Value} (h : w.ownsRow base 82 2 v (NV ++ [xv]).length (flat2 (NV ++ [xv])))
    (hl : NV.length = LL.length)
    (hV : ∀ (i : Nat) (x : Value × Value) (y : PL), NV[i]? = some x → LL[i]? = some y → Nats w x.1 y.1 ∧ Nats w x.2 y.2 ∧ (y.1 ≠ [] → ∀ q, x.1.ownBlock = some q → T q) ∧ (y.2 ≠ [] → ∀ q, x.2.ownBlock = some q → T q))
    (hx : Nats w xv.1 x.1 ∧ Nats w xv.2 x.2 ∧ (x.1 ≠ [] → ∀ q, xv.1.ownBlock = some q → T q) ∧ (x.2 ≠ [] → ∀ q, xv.2.ownBlock = some q → T q)) : NodeRow T base w v (LL ++ [x]) := by
  have := nodeRow_ins (NV := NV) (LL := LL) (x := x) (xv := xv) (j := LL.length) (v := v) (by rw [← hl, List.take_length, List.drop_length]; exact h) hl (Nat.le_refl _) hV hx
  rw [List.take_length, List.drop_length] at this
  exact this
theorem nats_one {w : World} {v : Value} {L : List Nat} (h : Nats w v L) : v.oneCell' = true := by
  obtain ⟨a, c, rfl, _⟩ := h; rfl
theorem blk_ready {w : World} {b : Nat} {v1 v2 : Value} {e : TypeId} (h : w.heap[b]? = some (.cells #[v1, v2] e (0, 0))) : w.cell? ⟨b, 0, none⟩ = some v1 ∧ w.cell? ⟨b, 1, none⟩ = some v2 ∧ w.frozen? ⟨b, 0, none⟩ = false ∧ w.frozen? ⟨b, 1, none⟩ = false :=
  ⟨by rw [cell_of_row w b 0 _ _ _ h]; rfl, by rw [cell_of_row w b 1 _ _ _ h]; rfl, by simp [World.frozen?, h], by simp [World.frozen?, h]⟩
theorem put2 {w : World} {b : Nat} {v1 v2 u1 u2 : Value} {e : TypeId} (h : w.heap[b]? = some (.cells #[v1, v2] e (0, 0))) : ((w.setCell ⟨b, 0, none⟩ u1).setCell ⟨b, 1, none⟩ u2).heap[b]? = some (.cells #[u1, u2] e (0, 0)) ∧ Fr (fun q => q = b) w ((w.setCell ⟨b, 0, none⟩ u1).setCell ⟨b, 1, none⟩ u2) := by
  constructor
  · have h1 : (w.setCell ⟨b, 0, none⟩ u1).heap[b]? = some (.cells #[u1, v2] e (0, 0)) := by rw [heap_set h]; rfl
    rw [heap_set h1]; rfl
  · exact Fr.setCell (Fr.setCell (Fr.refl (fun q => q = b) w) ⟨b, 0, none⟩ u1 (fun _ => rfl)) ⟨b, 1, none⟩ u2 (fun _ => rfl)
theorem form_lay {a wos : Nat} {wl wr w21 w4 : World} {M T' : Nat → Prop} {nv : Value} {oa a4 : Option Addr} {oc c4 : Nat} {NV' : List (Value × Value)} {SL : List PL} {lv rv : Value} {y : PL} {sA : List Nat} {o : Obj}
    (hF4 : Fr (fun q => q = a) wr w21) (hFl : Fr M wl w21) (f4 : Fr (Own1 (.slice oa NV'.length oc)) w21 w4) (hat : RowIs 3 encN w21 a sA)
    (hbox : w21.heap[a + 2]? = some (.cells #[.slice oa NV'.length oc] 31 (0, 0))) (hnv : ∀ q, (Value.slice oa NV'.length oc).ownBlock = some q → nv.ownBlock = some q ∨ wl.heap.size ≤ q)
    (hnb : ∀ q, (Value.slice oa NV'.length oc).ownBlock = some q → a + 1 ≤ q ∧ q < wr.heap.size ∧ q ≠ a + 2 ∧ ¬ T' q) (hT2 : ∀ q, T' q → a + 2 < q ∧ q < wl.heap.size)
    (hM : M = fun q => q = a ∨ q = a + 2 ∨ nv.ownBlock = some q) (hMlow : ∀ q, wos ≤ q → ¬ M q) (hmem : ∀ q, wos ≤ q → q < wl.heap.size → T' q) (hsz : a + 2 < wos) (hwl : wos ≤ wl.heap.size) (hlen : NV'.length = SL.length)
    (hms : ∀ (i : Nat) (x : Value × Value) (y : PL), NV'[i]? = some x → SL[i]? = some y → Nats wr x.1 y.1 ∧ Nats wr x.2 y.2 ∧ (y.1 ≠ [] → ∀ q, x.1.ownBlock = some q → T' q) ∧ (y.2 ≠ [] → ∀ q, x.2.ownBlock = some q → T' q))
    (e1 : Nats wl lv y.1) (e2 : Nats wl rv y.2) (e3 : y.1 ≠ [] → ∀ q, lv.ownBlock = some q → wos ≤ q) (e4 : y.2 ≠ [] → ∀ q, rv.ownBlock = some q → wos ≤ q)
    (h4 : w4.ownsRow (a + 1) 82 2 (.slice a4 (NV' ++ [(lv, rv)]).length c4) (NV' ++ [(lv, rv)]).length (flat2 (NV' ++ [(lv, rv)])))
    (q4 : (Value.slice a4 (NV' ++ [(lv, rv)]).length c4).ownBlock = (Value.slice oa NV'.length oc).ownBlock ∨ ∃ b, (Value.slice a4 (NV' ++ [(lv, rv)]).length c4).ownBlock = some b ∧ (w21.alloc o).drew.heap.size ≤ b) :
    RowIs 3 encN (w4.setCell ⟨a + 2, 0, none⟩ (.slice a4 (NV'.length + 1) c4)) a sA ∧ (w4.setCell ⟨a + 2, 0, none⟩ (.slice a4 (NV'.length + 1) c4)).heap[a + 2]? = some (.cells #[.slice a4 (NV'.length + 1) c4] 31 (0, 0)) ∧
      NodeRow T' (a + 1) (w4.setCell ⟨a + 2, 0, none⟩ (.slice a4 (NV'.length + 1) c4)) (.slice a4 (NV'.length + 1) c4) (SL ++ [y]) ∧ (∀ q, (Value.slice a4 (NV'.length + 1) c4).ownBlock = some q → nv.ownBlock = some q ∨ wl.heap.size ≤ q) ∧ Fr M wl (w4.setCell ⟨a + 2, 0, none⟩ (.slice a4 (NV'.length + 1) c4)) := by
  have fX : Fr (fun q => q = a + 2) w4 (w4.setCell ⟨a + 2, 0, none⟩ (.slice a4 (NV'.length + 1) c4)) := Fr.setCell (Fr.refl (fun q => q = a + 2) w4) _ _ (fun _ => rfl)
  have hb4 := f4.heap hbox (fun e => (hnb _ e).2.2.1 rfl)
  have hs21 := hFl.size
  have hs4 : (w21.alloc o).drew.heap.size = w21.heap.size + 1 := by simp
  rw [hs4] at q4
  have hX : NodeRow T' (a + 1) w4 (.slice a4 (NV' ++ [(lv, rv)]).length c4) (SL ++ [y]) := by
    have hE : ∀ (v : Value) (L : List Nat), Nats wl v L → (L ≠ [] → ∀ q, v.ownBlock = some q → wos ≤ q) → Nats w4 v L ∧ (L ≠ [] → ∀ q, v.ownBlock = some q → T' q) := fun v L h1 h2 => by
      have hq : L ≠ [] → ∀ q, v.ownBlock = some q → T' q := fun hne q hq => by
        obtain ⟨b, hb, hl⟩ := h1.block hne
        rw [hq] at hb; cases hb
        exact hmem q (h2 hne q hq) hl
      exact ⟨(h1.fr hFl (fun hne q hq => hMlow q (h2 hne q hq))).fr f4 (fun hne b hb e => (hnb b e).2.2.2 (hq hne b hb)), hq⟩
    obtain ⟨g1, g2⟩ := hE _ _ e1 e3
    obtain ⟨g3, g4⟩ := hE _ _ e2 e4
    refine nodeRow_snoc h4 hlen (fun i a' b ha hb => ?_) ⟨g1, g3, g2, g4⟩
    obtain ⟨s1, s2, s3, s4⟩ := hms i a' b ha hb
    exact ⟨(s1.fr hF4 (fun hne q hq e => by have := (hT2 q (s3 hne q hq)).1; omega)).fr f4 (fun hne q hq e => (hnb q e).2.2.2 (s3 hne q hq)),
      (s2.fr hF4 (fun hne q hq e => by have := (hT2 q (s4 hne q hq)).1; omega)).fr f4 (fun hne q hq e => (hnb q e).2.2.2 (s4 hne q hq)), s3, s4⟩
  have hown : ∀ q, (Value.slice a4 (NV' ++ [(lv, rv)]).length c4).ownBlock = some q → (Value.slice oa NV'.length oc).ownBlock = some q ∨ w21.heap.size ≤ q := fun q hq => by
    rcases q4 with h | ⟨b, h, hle⟩
    · rw [h] at hq; exact .inl hq
    · rw [h] at hq; cases hq; exact .inr (by omega)
  rw [show (NV' ++ [(lv, rv)]).length = NV'.length + 1 from by simp] at hX hown
  refine ⟨(hat.fr f4 (fun e => by have := (hnb _ e).1; omega)).fr fX (by omega), by rw [heap_set hb4]; rfl, ?_, ?_, ?_⟩
  · refine hX.fr fX (fun q hq e => ?_) (fun q hq e => by have := (hT2 q hq).1; omega)
    rcases hown q hq with h | h
    · exact (hnb q h).2.2.1 e
    · omega
  · intro q hq
    rcases hown q hq with h | h
    · exact hnv q h
    · exact .inr (by omega)
  · refine (hFl.trans f4 (fun q hq e => ?_)).trans fX (fun q _ e => by rw [hM]; exact .inr (.inl e))
    rcases hnv q e with h | h
    · rw [hM]; exact .inr (.inr h)
    · omega
def dg (d : Nat) : UInt8 := UInt8.ofNat (if d < 10 then 48 + d else 87 + d)
def undg (b : UInt8) : Nat := if b.toNat < 58 then b.toNat - 48 else b.toNat - 87
def d36 (n : Nat) : List UInt8 := if n < 36 then [dg n] else d36 (n / 36) ++ [dg (n % 36)]
  termination_by n
  decreasing_by omega
theorem dg_toNat (d : Nat) (h : d < 36) : (dg d).toNat = if d < 10 then 48 + d else 87 + d := by
  unfold dg
  rw [UInt8.toNat_ofNat']
  split <;> omega
theorem undg_dg (d : Nat) (h : d < 36) : undg (dg d) = d := by
  unfold undg
  rw [dg_toNat d h]
  by_cases h1 : d < 10
  · rw [if_pos h1, if_pos (by omega)]; omega
  · rw [if_neg h1, if_neg (by omega)]; omega
theorem d36_lt (n : Nat) : ∀ b ∈ d36 n, 48 ≤ b.toNat ∧ b.toNat < 123 ∧ b.toNat ≠ 44 ∧ b.toNat ≠ 124 := by
  have key : ∀ d, d < 36 → 48 ≤ (dg d).toNat ∧ (dg d).toNat < 123 ∧ (dg d).toNat ≠ 44 ∧ (dg d).toNat ≠ 124 := by
    intro d h
    rw [dg_toNat d h]
    split <;> omega
  induction n using Nat.strongRecOn with
  | _ n ih =>
    intro b hb
    unfold d36 at hb
    split at hb
    · simp at hb; subst hb; exact key _ (by assumption)
    · rw [List.mem_append, List.mem_singleton] at hb
      rcases hb with hb | rfl
      · exact ih (n / 36) (by omega) b hb
      · exact key _ (Nat.mod_lt _ (by decide))
theorem d36_ne (n : Nat) : d36 n ≠ [] := by
  unfold d36
  split <;> simp
def val36 (l : List UInt8) : Nat := l.foldl (fun v b => v * 36 + undg b) 0
theorem val36_d36 (n : Nat) : val36 (d36 n) = n := by
  induction n using Nat.strongRecOn with
  | _ n ih =>
    unfold d36
    split
    · rename_i h; simp [val36, undg_dg n h]
    · have := ih (n / 36) (by omega)
      unfold val36 at this ⊢
      rw [List.foldl_append, this]
      simp only [List.foldl_cons, List.foldl_nil]
      rw [undg_dg _ (Nat.mod_lt _ (by decide))]
      omega
theorem d36_inj {a b : Nat} (h : d36 a = d36 b) : a = b := by rw [← val36_d36 a, h, val36_d36]
def keyL (l : List Nat) : List UInt8 := l.flatMap fun i => d36 i ++ [44]
def keyS (x : PL) : List UInt8 := keyL x.1 ++ 124 :: keyL x.2
theorem keyL_snoc (l : List Nat) (i : Nat) : keyL (l ++ [i]) = keyL l ++ d36 i ++ [44] := by simp [keyL]
theorem split_at {α : Type} (c : α) : ∀ (a b x y : List α), c ∉ a → c ∉ b → a ++ c :: x = b ++ c :: y → a = b ∧ x = y
  | [], [], x, y, _, _, h => by simp at h; exact ⟨rfl, h⟩
  | [], q :: b, x, y, _, hb, h => by simp at h; exact absurd (by rw [h.1]; exact List.mem_cons_self) hb
  | p :: a, [], x, y, ha, _, h => by simp at h; exact absurd (by rw [← h.1]; exact List.mem_cons_self) ha
  | p :: a, q :: b, x, y, ha, hb, h => by
    simp only [List.cons_append, List.cons.injEq] at h
    obtain ⟨h1, h2⟩ := split_at c a b x y (fun q => ha (List.mem_cons_of_mem _ q)) (fun q => hb (List.mem_cons_of_mem _ q)) h.2
    exact ⟨by rw [h.1, h1], h2⟩
theorem d36_no (n : Nat) (c : UInt8) (h : c.toNat = 44 ∨ c.toNat = 124) : c ∉ d36 n := fun hc => by
  have := d36_lt n c hc
  omega
theorem keyL_nil {l : List Nat} (h : keyL l = []) : l = [] := by
  cases l with
  | nil => rfl
  | cons i t => simp [keyL] at h
theorem keyL_inj : ∀ (l m : List Nat), keyL l = keyL m → l = m
  | [], m, h => (keyL_nil (by rw [← h]; rfl)).symm
  | i :: t, [], h => by simp [keyL] at h
  | i :: t, j :: u, h => by
    have h' : d36 i ++ 44 :: keyL t = d36 j ++ 44 :: keyL u := by simpa [keyL] using h
    obtain ⟨h1, h2⟩ := split_at 44 _ _ _ _ (d36_no i 44 (.inl rfl)) (d36_no j 44 (.inl rfl)) h'
    rw [d36_inj h1, keyL_inj t u h2]
theorem keyS_inj : ∀ (x y : PL), keyS x = keyS y → x = y := by
  intro ⟨l, r⟩ ⟨l', r'⟩ h
  have no : ∀ m : List Nat, (124 : UInt8) ∉ keyL m := by
    intro m hm
    obtain ⟨i, _, hi⟩ := List.mem_flatMap.1 hm
    rw [List.mem_append, List.mem_singleton] at hi
    rcases hi with hi | hi
    · exact d36_no i 124 (.inr rfl) hi
    · cases hi
  obtain ⟨h1, h2⟩ := split_at 124 _ _ _ _ (no l) (no l') h
  rw [keyL_inj l l' h1, keyL_inj r r' h2]
def enc3 (lv rv : Nat → Value) (i : Nat) : List Value := [encN i, lv i, rv i]
def flat3 (lv rv : Nat → Value) (G : List Nat) : List Value := G.flatMap (enc3 lv rv)
theorem flat3_length (lv rv : Nat → Value) (G : List Nat) : (flat3 lv rv G).length = G.length * 3 := by
  induction G with
  | nil => rfl
  | cons y l ih => simp only [flat3, List.flatMap_cons, List.length_append, enc3, List.length_cons, List.length_nil] at ih ⊢; omega
theorem flat3_get (lv rv : Nat → Value) (G : List Nat) (j x : Nat) (h : G[j]? = some x) : (flat3 lv rv G)[j * 3]? = some (encN x) ∧ (flat3 lv rv G)[j * 3 + 1]? = some (lv x) ∧ (flat3 lv rv G)[j * 3 + 2]? = some (rv x) := by
  induction G generalizing j with
  | nil => cases h
  | cons y l ih =>
    cases j with
    | zero => simp at h; subst h; exact ⟨rfl, rfl, rfl⟩
    | succ j =>
      have := ih j (by simpa using h)
      simp only [flat3, List.flatMap_cons] at this ⊢
      rw [show (j + 1) * 3 = j * 3 + 1 + 1 + 1 from by omega]
      exact this
def encU (b : UInt8) : Value := .int .u8 (b.toNat : Int)
theorem infoU8 : (Tryz.prog.info? 5).map (fun i => (i.zero, i.size, i.bytes)) = some (some (.int .u8 0), 1, 1) := by kernel_rfl
def digs : ByteArray := ⟨#[48, 49, 50, 51, 52, 53, 54, 55, 56, 57, 97, 98, 99, 100, 101, 102, 103, 104, 105, 106, 107, 108, 109, 110, 111, 112, 113, 114, 115, 116, 117, 118, 119, 120, 121, 122]⟩
theorem digs_at : ∀ k : Fin 36, digs[k.1]? = some (dg k.1) := by decide
theorem run_digs (k : Nat) (hk : k < 36) (ik : IntKind) (W : World) : (Instr.index 9 (.string digs) (.int ik (k : Int))).run Tryz.prog W = .ok (encU (dg k)) W := by
  have h := digs_at ⟨k, hk⟩
  simp only at h
  simp [Instr.index, asIntOf, run_underlying Tryz.underlying9, h, encU]
theorem run_sliceArr (g j : Nat) (hj : j < 65) (W : World) : (Instr.sliceAt 246 (.pointer (some ⟨g, 0, none⟩)) (some (.int .i64 (j : Int))) none none).run Tryz.prog W = .ok (.slice (some ⟨g, j, none⟩) (65 - j) (65 - j)) W := by
  have h1 : ¬ 65 = j := by omega
  have h2 : j ≤ 65 := by omega
  simp [Instr.sliceAt, run_underlying Tryz.underlying246, Instr.sliceBounds, Instr.sliceBound, asIntOf, Instr.sureAddr, Tryz.sizeOf5, h1, h2, Addr.add]
  omega
theorem RowIs.sliceFrom {α : Type} {e : TypeId} {enc : α → Value} {w : World} {g : Nat} {L : List α} (h : RowIs e enc w g L) (k n : Nat) (hn : L.length = n) (hl : n ≤ 9223372036854775807) : SliceOf enc w (.slice (some ⟨g, k, none⟩) (n - k) (n - k)) (L.drop k) :=
  ⟨_, _, by rw [List.length_drop, hn], by rw [List.length_drop]; omega, by omega, fun j x hx => ⟨g, k, rfl, by
    rw [List.getElem?_drop] at hx
    have hj := (List.getElem?_eq_some_iff.1 hx).1
    rw [h.cell (k + j) hj]
    rw [List.getElem?_eq_getElem hj] at hx; cases hx; rfl⟩⟩
theorem d36_len (k n : Nat) (hk : 0 < k) (h : n < 36 ^ k) : (d36 n).length ≤ k := by
  induction k generalizing n with
  | zero => omega
  | succ k ih =>
    unfold d36
    split
    · simp
    · rename_i h36
      have hk0 : 0 < k := by
        rcases Nat.eq_zero_or_pos k with e | e
        · subst e; simp at h; omega
        · exact e
      have := ih (n / 36) hk0 (by rw [Nat.div_lt_iff_lt_mul (by decide)]; rw [Nat.pow_succ] at h; exact h)
      simp; omega
set_option maxRecDepth 4000 in
set_option maxHeartbeats 4000000 in
theorem formatBits_any {base : Nat} (v : Value) (xs : List UInt8) (n : Nat) (w : World) (hown : w.ownsRow base 5 1 v xs.length (xs.map encU)) (hn : n < 1000000000000) (hb : base ≤ w.heap.size) (hx : xs.length ≤ 1000000000000) :
    Calls Tryz.prog 238 #[v, .int .u64 (n : Int), .int .i64 36, .bool false, .bool true] w fun e w' => ∃ v' s, e = .returned (.tuple #[v', .string s]) ∧ w'.ownsRow base 5 1 v' (xs ++ d36 n).length ((xs ++ d36 n).map encU) ∧ Fr (Own1 v) w w' := by
  have HO := Lib.hid hown; have Hn := Lib.hid hn; have Hb := Lib.hid hb; have Hx := Lib.hid hx
  have hbt : bits BinOp.and IntKind.i64 36 35 = 32 := by rfl
  clear hown hb hx
  go_enter Tryz.func238, Tryz.ntmps238
  go_wp2
  generalize hw1 : w.alloc _ = w1
  have F1 : Fr NoM w w1 := by rw [← hw1]; exact (Fr.refl NoM w).alloc _
  have hr1 : RowIs 246 encU w1 w.heap.size (List.replicate 65 0) := by
    rw [← hw1]
    exact (heap_alloc_new w _).trans (congrArg (fun c => some (Obj.cells c 246 (0, 0))) (by kernel_rfl))
  have HF1 := Lib.hid F1; have HR1 := Lib.hid hr1; have HW1 := Lib.hid hw1
  clear F1 hr1 hw1
  have hd12 := d36_len 12 n (by decide) (by omega)
  have Hd := Lib.hid hd12; clear hd12
  go_loopw [1, 13] (fun u i W => ∃ (m j : Nat) (D : List UInt8), u = .int .u64 m ∧ i = .int .i64 j ∧ m ≤ n ∧ j ≤ 65 ∧ D.length = 65 ∧ d36 n = d36 m ++ D.drop j ∧ RowIs 246 encU W w.heap.size D ∧ Fr NoM w W) (fun u _ _ => (intOf u).toNat)
  case atStart => exact ⟨n, 65, _, rfl, rfl, Nat.le_refl _, Nat.le_refl _, by simp, by simp, HR1.out, HF1.out⟩
  case round =>
    obtain ⟨m, j, D, rfl, rfl, hm, hj, hD, hd, hrow, hfr⟩ := hrel
    have hlen := Hd.out
    have hne : (d36 m).length ≠ 0 := by have := d36_ne m; cases h : d36 m with | nil => exact absurd h this | cons _ _ => simp
    have hjl : 65 - j < 12 := by rw [hd] at hlen; simp [hD] at hlen; omega
    have HD := Lib.hid hD; have Hdd := Lib.hid hd; have HRow := Lib.hid hrow; have HFr := Lib.hid hfr
    clear hlen hne hD hd hrow hfr
    by_cases h36 : 36 ≤ m
    · have hmod : m % 36 < 36 := Nat.mod_lt _ (by decide)
      have hdg := run_digs (m % 36) hmod .u64
      unfold digs at hdg
      rw [show ((m % 36 : Nat) : Int) = (m : Int) - (m : Int) / 36 * 36 from by omega] at hdg
      have cj := HRow.out.cell (j - 1) (by rw [HD.out]; omega)
      have zj := HRow.out.frozen (j - 1)
      unfold encU at hdg cj
      have hset := HRow.out.set (j - 1) (dg (m % 36))
      unfold encU at hset
      have hf := Fr.setCell HFr.out ⟨w.heap.size, j - 1, none⟩ (.int .u8 ((dg (m % 36)).toNat : Int)) (fun h => absurd h (Nat.lt_irrefl _))
      have HSet := Lib.hid hset; have HF := Lib.hid hf
      clear hset hf
      go_wp2
      go_roundw
      case rel =>
        refine ⟨m / 36, j - 1, D.set (j - 1) (dg (m % 36)), by go_num, by go_num, by omega, by omega, by simp [HD.out], ?_, HSet.out, HF.out⟩
        have h1 : d36 m = d36 (m / 36) ++ [dg (m % 36)] := by rw [d36, if_neg (by omega)]
        have h2 : (D.set (j - 1) (dg (m % 36))).drop (j - 1) = dg (m % 36) :: D.drop j := by
          rw [List.drop_eq_getElem_cons (by simp [HD.out]; omega), List.getElem_set_self, List.drop_set_of_lt (by omega), show j - 1 + 1 = j from by omega]
        rw [Hdd.out, h1, h2]; simp
      case measure => simp [intOf]; omega
    · have hmod : m < 36 := by omega
      have hdg := run_digs m hmod .u64
      unfold digs at hdg
      have cj := HRow.out.cell (j - 1) (by rw [HD.out]; omega)
      have zj := HRow.out.frozen (j - 1)
      unfold encU at hdg cj
      have hset := HRow.out.set (j - 1) (dg m)
      unfold encU at hset
      have hf := Fr.setCell HFr.out ⟨w.heap.size, j - 1, none⟩ (.int .u8 ((dg m).toNat : Int)) (fun h => absurd h (Nat.lt_irrefl _))
      have HSet := Lib.hid hset; have HF := Lib.hid hf
      clear hset hf
      have hsl := run_sliceArr w.heap.size (j - 1) (by omega)
      rw [show ((j - 1 : Nat) : Int) = (j : Int) - 1 from by omega] at hsl
      have hD2 : d36 n = (D.set (j - 1) (dg m)).drop (j - 1) := by
        have h1 : d36 m = [dg m] := by rw [d36, if_pos hmod]
        rw [Hdd.out, h1, List.drop_eq_getElem_cons (l := D.set (j - 1) (dg m)) (by simp [HD.out]; omega), List.getElem_set_self, List.drop_set_of_lt (by omega), show j - 1 + 1 = j from by omega]; rfl
      have hsrc := RowIs.sliceFrom (show RowIs 246 encU (wr.setCell ⟨w.heap.size, j - 1, none⟩ (.int .u8 ((dg m).toNat : Int))) w.heap.size (D.set (j - 1) (dg m)) from HSet.out) (j - 1) 65 (by simp [HD.out]) (by decide)
      rw [← hD2] at hsrc
      have HSrc := Lib.hid hsrc; have HD2 := Lib.hid hD2
      clear hsrc hD2
      go_wp2_with (at_builtin; refine wpList_appS (enc := encU) _ rfl _ _ 41 rfl base 5 (.int .u8 0) 1 Tryz.underlying41 infoU8 rfl v xs.length (xs.map encU) rfl (owns_fr HO.out HF.out (fun _ _ q => q)) _ rfl (d36 n) HSrc.out (fun _ => rfl) ?c1 (by decide) ?c2 ?_)
      case c1 => have := Hd.out; have := Hx.out; omega
      case c2 => exact Nat.le_trans Hb.out HFr.out.size
      intro v' w' h1 h2 _
      have H1 := Lib.hid h1; have H2 := Lib.hid h2; clear h1 h2
      go_wp2
      go_ret2
      refine ⟨v', _, rfl, ?_, (HF.out.mono (fun _ _ q => q.elim)).trans H2.out (fun _ _ q => q)⟩
      rw [List.length_append, List.map_append]; exact H1.out
set_option maxRecDepth 4000 in
set_option maxHeartbeats 4000000 in
theorem appendInt_any {base : Nat} (v : Value) (xs : List UInt8) (n : Nat) (w : World) (hown : w.ownsRow base 5 1 v xs.length (xs.map encU)) (hn : n < 1000000000000) (hb : base ≤ w.heap.size) (hx : xs.length ≤ 1000000000000) :
    Calls Tryz.prog 135 #[v, .int .i64 (n : Int), .int .i64 36] w fun e w' => ∃ v', e = .returned v' ∧ w'.ownsRow base 5 1 v' (xs ++ d36 n).length ((xs ++ d36 n).map encU) ∧ Fr (Own1 v) w w' := by
  have HC := Lib.hid (formatBits_any v xs n w hown hn hb hx)
  clear hown hb hx
  go_enter Tryz.func135, Tryz.ntmps135
  go_wp2_with (first | (go_at_call 238; refine HC.out.mono ?_; rintro e w' ⟨v', s, rfl, h1, h2⟩; have H1 := Lib.hid h1; have H2 := Lib.hid h2; clear h1 h2) | go_in)
  go_ret
  exact ⟨v', rfl, H1.out, H2.out⟩
end Go.Proofs.YtiidnnpanickaaaGreatDoor
