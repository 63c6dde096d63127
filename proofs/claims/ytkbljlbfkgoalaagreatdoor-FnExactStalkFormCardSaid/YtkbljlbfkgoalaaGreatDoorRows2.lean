/- Slices of structs of two cells: parts of them, and appends of one to another. -/
import Derived.Test.YtkbljlbfkgoalaaGreatDoorBookRoot
namespace Go.Proofs.YtkbljlbfkgoalaaGreatDoor
set_option linter.unusedVariables false
set_option linter.unusedSimpArgs false
open Go.RowKit

/-- A slice value that reads as a list of pairs of values, two cells an element. -/
def Pairs (w : World) (v : Value) (NV : List (Value × Value)) : Prop :=
  ∃ a c, v = .slice a NV.length c ∧ NV.length ≤ c ∧ c ≤ 9223372036854775807 ∧
    ∀ (j : Nat) (x : Value × Value), NV[j]? = some x → ∃ b off, a = some ⟨b, off, none⟩ ∧ w.cell? ⟨b, off + j * 2, none⟩ = some x.1 ∧ w.cell? ⟨b, off + j * 2 + 1, none⟩ = some x.2
section
variable {w w' : World} {v : Value} {NV : List (Value × Value)}
theorem Pairs.fr {M : Nat → Prop} (h : Pairs w v NV) (hf : Fr M w w') (hm : ∀ b, v.ownBlock = some b → ¬ M b) : Pairs w' v NV := by
  obtain ⟨a, c, rfl, h1, h2, h3⟩ := h
  refine ⟨a, c, rfl, h1, h2, fun j x hx => ?_⟩
  obtain ⟨b, off, rfl, c1, c2⟩ := h3 j x hx
  exact ⟨b, off, rfl, hf.cell c1 (hm b rfl), hf.cell c2 (hm b rfl)⟩
theorem Pairs.fr0 (h : Pairs w v NV) (hf : Fr NoM w w') : Pairs w' v NV := h.fr hf fun _ _ q => q
theorem Pairs.of_owns {base : Nat} {e : TypeId} {n : Nat} (h : w.ownsRow base e 2 v n (flat2 NV)) : Pairs w v NV := by
  have hn : n = NV.length := by have := h.1; rw [flat2_length] at this; omega
  subst hn
  rcases h.2 with ⟨rfl, h0⟩ | ⟨g, cap, cur, rfl, hb, hg, hnc, hcm, hs, ht⟩
  · have : NV = [] := List.eq_nil_of_length_eq_zero h0
    subst this; exact ⟨none, 0, rfl, Nat.le_refl _, by decide, by simp⟩
  · refine ⟨_, cap, rfl, hnc, by simpa [maxLen] using hcm, fun j x hx => ⟨g, 0, rfl, ?_⟩⟩
    have hj : j < NV.length := (List.getElem?_eq_some_iff.1 hx).1
    obtain ⟨f1, f2⟩ := flat2_get NV j x hx
    have key : ∀ i u, i < NV.length * 2 → (flat2 NV)[i]? = some u → w.cell? ⟨g, 0 + i, none⟩ = some u := fun i u hi hu => by
      rw [Nat.zero_add, cell_of_row w g i cur _ _ hg]
      rw [← ht, List.getElem?_take, if_pos hi] at hu
      simpa using hu
    exact ⟨key _ _ (by omega) f1, by rw [Nat.add_assoc]; exact key _ _ (by omega) f2⟩

theorem pairTo {P : Program} (h : Pairs w v NV) (t : TypeId) (e : TypeId) (z : Value) (bytes : Nat) (ht : P.underlying t = some (.slice e))
    (hi : (P.info? e).map (fun i => (i.zero, i.size, i.bytes)) = some (some z, 2, bytes)) (k : Nat) (hk : k ≤ NV.length) :
    ∃ v', (∀ W, (Instr.slice t v none (some (.int .i64 (k : Int))) none).run P W = .ok v' W) ∧ Pairs w v' (NV.take k) ∧ v'.ownBlock = v.ownBlock := by
  obtain ⟨i0, hi, hz0, hz1, hz2⟩ := info_parts hi
  obtain ⟨a, c, rfl, hac, hcm, hcell⟩ := h
  have hlen : (NV.take k).length = k := by simp; omega
  refine ⟨.slice a k c, fun W => ?_, ⟨a, c, by rw [hlen], by omega, hcm, fun j x hx => ?_⟩, ?_⟩
  · have hkc : k ≤ c := by omega
    cases a with
    | none => simp [Instr.slice, run_underlying ht, Instr.sliceBounds, Instr.sliceBound, asIntOf, sizeOf, typeInfo, hi, hkc]
    | some ad => simp [Instr.slice, run_underlying ht, Instr.sliceBounds, Instr.sliceBound, asIntOf, sizeOf, typeInfo, hi, hkc, Addr.add]
  · rw [List.getElem?_take] at hx
    split at hx
    · exact hcell j x hx
    · cases hx
  · cases a <;> rfl

theorem pairFrom {P : Program} (h : Pairs w v NV) (t : TypeId) (e : TypeId) (z : Value) (bytes : Nat) (ht : P.underlying t = some (.slice e))
    (hi : (P.info? e).map (fun i => (i.zero, i.size, i.bytes)) = some (some z, 2, bytes)) (k : Nat) (hk : k ≤ NV.length) :
    ∃ v', (∀ W, (Instr.slice t v (some (.int .i64 (k : Int))) none none).run P W = .ok v' W) ∧ Pairs w v' (NV.drop k) ∧ v'.ownBlock = v.ownBlock := by
  obtain ⟨i0, hi, hz0, hz1, hz2⟩ := info_parts hi
  obtain ⟨a, c, rfl, hac, hcm, hcell⟩ := h
  have hlen : (NV.drop k).length = NV.length - k := by simp
  refine ⟨.slice (if c = k then a else a.map (·.add (k * 2))) (NV.length - k) (c - k), fun W => ?_, ⟨_, c - k, by rw [hlen], by omega, by omega, fun j x hx => ?_⟩, ?_⟩
  · have hkl : k ≤ NV.length := hk
    simp [Instr.slice, run_underlying ht, Instr.sliceBounds, Instr.sliceBound, asIntOf, sizeOf, typeInfo, hi, hz1, hkl]
  · rw [List.getElem?_drop] at hx
    obtain ⟨b, off, rfl, c1, c2⟩ := hcell (k + j) x hx
    have hlt := (List.getElem?_eq_some_iff.1 hx).1
    rw [if_neg (by omega)]
    refine ⟨b, off + k * 2, ?_, by rw [show off + k * 2 + j * 2 = off + (k + j) * 2 from by omega]; exact c1, by rw [show off + k * 2 + j * 2 + 1 = off + (k + j) * 2 + 1 from by omega]; exact c2⟩
    by_cases hk0 : k = 0
    · subst hk0; simp [Addr.add]
    · simp [Addr.add, hk0]; omega
  · split
    · cases a <;> rfl
    · cases a with
      | none => rfl
      | some ad => simp [Value.ownBlock, Addr.add]; split <;> rfl
end

theorem flat2_at (NV : List (Value × Value)) (j : Nat) (u : Value) (h : (flat2 NV)[j]? = some u) : ∃ x, NV[j / 2]? = some x ∧ ((j % 2 = 0 ∧ u = x.1) ∨ (j % 2 = 1 ∧ u = x.2)) := by
  have hj : j < NV.length * 2 := by have := (List.getElem?_eq_some_iff.1 h).1; rwa [flat2_length] at this
  have hx := List.getElem?_eq_getElem (l := NV) (i := j / 2) (by omega)
  obtain ⟨f1, f2⟩ := flat2_get NV (j / 2) _ hx
  refine ⟨_, hx, ?_⟩
  rcases Nat.mod_two_eq_zero_or_one j with h0 | h0
  · rw [show j / 2 * 2 = j from by omega, h] at f1; cases f1; exact .inl ⟨h0, rfl⟩
  · rw [show j / 2 * 2 + 1 = j from by omega, h] at f2; cases f2; exact .inr ⟨h0, rfl⟩

theorem run_append_src2 {P : Program} (w : World) (t ty : TypeId) (base : Nat) (e : TypeId) (z : Value) (bytes : Nat) (ht : P.underlying t = some (.slice e))
    (hi : (P.info? e).map (fun i => (i.zero, i.size, i.bytes)) = some (some z, 2, bytes)) (hz : z.cells.size = 2) (v : Value) (XV : List (Value × Value)) (hown : w.ownsRow base e 2 v XV.length (flat2 XV))
    (xv : Value) (NV : List (Value × Value)) (hsrc : Pairs w xv NV) (h1 : ∀ x ∈ NV, x.1.oneCell' = true ∧ x.2.oneCell' = true) (hn : (XV.length + NV.length) * bytes ≤ 140737488355328) (hb1 : 0 < bytes) (hb : base ≤ w.heap.size) :
    ∃ v' w', (Builtin.append_ #[t, t] ty #[v, xv]).run P w = .ok v' w' ∧ w'.ownsRow base e 2 v' (XV ++ NV).length (flat2 (XV ++ NV)) ∧ Fr (Own1 v) w w' ∧
      (v'.ownBlock = v.ownBlock ∨ ∃ b, v'.ownBlock = some b ∧ w.heap.size ≤ b) := by
  obtain ⟨i0, hi, hz0, hz1, hz2⟩ := info_parts hi
  obtain ⟨a, c, rfl, hac, hcm, hcell⟩ := hsrc
  have hnn : XV.length + NV.length ≤ 140737488355328 := Nat.le_trans (by have := Nat.mul_le_mul_left (XV.length + NV.length) hb1; omega) hn
  have hfl : flat2 (XV ++ NV) = flat2 XV ++ flat2 NV := by simp [flat2]
  rw [hfl, List.length_append]
  by_cases hL : NV = []
  · subst hL
    refine ⟨v, w, ?_, by simpa [flat2] using hown, Fr.refl _ _, .inl rfl⟩
    rcases hown.2 with ⟨rfl, h0⟩ | ⟨g, cap, cur, rfl, hbg, hg, hnc, hcm', hcs, htake⟩
    · have : XV = [] := List.eq_nil_of_length_eq_zero h0
      subst this
      cases a with
      | none => simp [Builtin.append_, run_underlying ht, sizeOf, typeInfo, hi, Builtin.lenOf, Builtin.firstCells]
      | some a => simp [Builtin.append_, run_underlying ht, sizeOf, typeInfo, hi, Builtin.lenOf, Builtin.firstCells, loadCells, loadCellsFrom]
    · cases a with
      | none => simp [Builtin.append_, run_underlying ht, sizeOf, typeInfo, hi, Builtin.lenOf, Builtin.firstCells, hnc, storeCells]
      | some a => simp [Builtin.append_, run_underlying ht, sizeOf, typeInfo, hi, Builtin.lenOf, Builtin.firstCells, loadCells, loadCellsFrom, hnc, storeCells]
  · obtain ⟨x, hx⟩ : ∃ x, NV[0]? = some x := by cases NV with | nil => exact absurd rfl hL | cons x l => exact ⟨x, rfl⟩
    obtain ⟨b, off, rfl, _⟩ := hcell 0 x hx
    have hnews : ∀ (j : Nat) (u : Value), (flat2 NV)[j]? = some u → w.cell? ((⟨b, off, none⟩ : Addr).add j) = some u := by
      intro j u hj
      have hadd : (⟨b, off, none⟩ : Addr).add j = ⟨b, off + j, none⟩ := by unfold Addr.add; split <;> simp_all
      rw [hadd]
      obtain ⟨y, hy, hd⟩ := flat2_at NV j u hj
      obtain ⟨b', off', he, c1, c2⟩ := hcell _ y hy
      cases he
      rcases hd with ⟨h0, rfl⟩ | ⟨h0, rfl⟩
      · rw [show off + j / 2 * 2 = off + j from by omega] at c1; exact c1
      · rw [show off + j / 2 * 2 + 1 = off + j from by omega] at c2; exact c2
    have hone : ∀ u ∈ flat2 NV, u.oneCell' = true := by
      intro u hu
      obtain ⟨y, hy, hu⟩ := List.mem_flatMap.1 hu
      obtain ⟨p, q⟩ := h1 y hy
      simp at hu
      rcases hu with rfl | rfl
      · exact p
      · exact q
    obtain ⟨v', w', hr, h2, h3, h4, h5⟩ := run_append_own_at (P := P) w base t ty e i0 z 2 bytes ht hi hz0 hz1 hz2 hz (by decide) v XV.length (flat2 XV) hown ⟨b, off, none⟩ NV.length c (flat2 NV) (flat2_length NV) hnews hone (by unfold maxLen; omega) hn hb
    refine ⟨v', w', hr, h2, (Fr.refl (Own1 v) w).grown h3 (fun k hk _ => hk), ?_⟩
    rcases h5 with h5 | h5
    · exact .inl h5
    · exact .inr ⟨_, h5, Nat.le_refl _⟩

/-- The same in a region that draws its order; s made since the world w0, below which nothing has turned. -/
theorem step_app2F {P : Program} {w : World} {ops : Array Oper} {o : Oper} {a : Act} {K : Act → World → Prop} {Q : Exit → Act → World → Prop} {E : Prop} (w0 : World) (F : Fr NoM w0 w) (hg : o.guard = none) (s x : Operand) (t : TypeId)
    (hop : o.op = Op.call { callee := Callee.builtin Builtin.append, args := #[s, x], argTypes := #[t, t] }) (e : TypeId) (z : Value) (bytes : Nat) (ht : P.underlying t = some (.slice e))
    (hi : (P.info? e).map (fun i => (i.zero, i.size, i.bytes)) = some (some z, 2, bytes)) (hz : z.cells.size = 2) (v : Value) (XV : List (Value × Value)) (hs : a.eval s = v) (hown : w.ownsRow w0.heap.size e 2 v XV.length (flat2 XV))
    (xv : Value) (hx : a.eval x = xv) (NV : List (Value × Value)) (hsrc : Pairs w xv NV) (h1 : ∀ x ∈ NV, x.1.oneCell' = true ∧ x.2.oneCell' = true) (hn : (XV.length + NV.length) * bytes ≤ 140737488355328) (hb1 : 0 < bytes)
    (hK : ∀ (v' : Value) (w' : World), w'.ownsRow w0.heap.size e 2 v' (XV ++ NV).length (flat2 (XV ++ NV)) → Fr NoM w0 w' → K (a.put o.dst v') w') :
    if Region.wanted o (yielded ops a.tmps) = true then Oper.wp P o a w K Q else E := by
  have hw : Region.wanted o (yielded ops a.tmps) = true := by simp [Region.wanted, hg]
  rw [if_pos hw]
  obtain ⟨v', w', hr, h2, h3, h4⟩ := run_append_src2 (P := P) w t o.type w0.heap.size e z bytes ht hi hz v XV hown xv NV hsrc h1 hn hb1 F.size
  unfold Oper.wp execOp
  simp only [hop, resolve, invoke, builtin, Sem.run_bind, Sem.run_pure, Result.andThen_ok, List.map_toArray, List.map_cons, List.map_nil, hs, hx, hr]
  exact hK v' w' h2 (F.own hown h3)

/-- A new block of one struct reads as a list of one pair. -/
theorem Pairs.one (w : World) (x : Value × Value) (e : TypeId) : Pairs (w.alloc (.cells #[x.1, x.2] e)) (.slice (some ⟨w.heap.size, 0, none⟩) 1 1) [x] :=
  ⟨_, 1, rfl, by simp, by decide, fun j y hy => ⟨w.heap.size, 0, rfl, by
    rcases j with _ | j
    · simp at hy; subst hy
      exact ⟨by rw [World.cell?_alloc_at _ _ _ _ rfl]; rfl, by rw [World.cell?_alloc_at _ _ _ _ rfl]; rfl⟩
    · simp at hy⟩⟩
end Go.Proofs.YtkbljlbfkgoalaaGreatDoor
