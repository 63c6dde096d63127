/- What the walk of the reference's (*l3Book).form needs: appends of nodes, a node put into a list, a node laid behind others. -/
import Derived.Test.YtkbljlbfkgoalaaGreatDoorFormDefs
namespace Go.Proofs.YtkbljlbfkgoalaaGreatDoor
set_option linter.unusedVariables false
set_option linter.unusedSimpArgs false
open Go.RowKit

theorem step_app2S {P : Program} {w : World} {ops : Array Oper} {o : Oper} {a : Act} {K : Act → World → Prop} {Q : Exit → Act → World → Prop} {E : Prop} (base : Nat) (hb : base ≤ w.heap.size) (hg : o.guard = none) (s x : Operand) (t : TypeId)
    (hop : o.op = Op.call { callee := Callee.builtin Builtin.append, args := #[s, x], argTypes := #[t, t] }) (e : TypeId) (z : Value) (bytes : Nat) (ht : P.underlying t = some (.slice e))
    (hi : (P.info? e).map (fun i => (i.zero, i.size, i.bytes)) = some (some z, 2, bytes)) (hz : z.cells.size = 2) (v : Value) (XV : List (Value × Value)) (hs : a.eval s = v) (hown : w.ownsRow base e 2 v XV.length (flat2 XV))
    (xv : Value) (hx : a.eval x = xv) (NV : List (Value × Value)) (hsrc : Pairs w xv NV) (h1 : ∀ x ∈ NV, x.1.oneCell' = true ∧ x.2.oneCell' = true) (hn : (XV.length + NV.length) * bytes ≤ 140737488355328) (hb1 : 0 < bytes)
    (hK : ∀ (v' : Value) (w' : World), w'.ownsRow base e 2 v' (XV ++ NV).length (flat2 (XV ++ NV)) → Fr (Own1 v) w w' → (v'.ownBlock = v.ownBlock ∨ ∃ b, v'.ownBlock = some b ∧ w.heap.size ≤ b) → K (a.put o.dst v') w') :
    if Region.wanted o (yielded ops a.tmps) = true then Oper.wp P o a w K Q else E := by
  have hw : Region.wanted o (yielded ops a.tmps) = true := by simp [Region.wanted, hg]
  rw [if_pos hw]
  obtain ⟨v', w', hr, h2, h3, h4⟩ := run_append_src2 (P := P) w t o.type base e z bytes ht hi hz v XV hown xv NV hsrc h1 hn hb1 hb
  unfold Oper.wp execOp
  simp only [hop, resolve, invoke, builtin, Sem.run_bind, Sem.run_pure, Result.andThen_ok, List.map_toArray, List.map_cons, List.map_nil, hs, hx, hr]
  exact hK v' w' h2 h3 h4
theorem ins_get {α : Type} (l : List α) (a : α) (j i : Nat) (hj : j ≤ l.length) : (l.take j ++ a :: l.drop j)[i]? = if i < j then l[i]? else if i = j then some a else l[i - 1]? := by
  have ht : (l.take j).length = j := by simp; omega
  by_cases h1 : i < j
  · rw [if_pos h1, List.getElem?_append_left (by omega), List.getElem?_take, if_pos h1]
  · rw [if_neg h1, List.getElem?_append_right (by omega), ht]
    by_cases h2 : i = j
    · subst h2; simp
    · rw [if_neg h2, show i - j = (i - j - 1) + 1 from by omega, List.getElem?_cons_succ, List.getElem?_drop]
      congr 1; omega
theorem nodeRow_ins {T : Nat → Prop} {base : Nat} {w : World} {v : Value} {LL : List PL} {NV : List (Value × Value)} {x : PL} {xv : Value × Value} {j : Nat} (h : w.ownsRow base 91 2 v (NV.take j ++ xv :: NV.drop j).length (flat2 (NV.take j ++ xv :: NV.drop j)))
    (hl : NV.length = LL.length) (hj : j ≤ LL.length)
    (hV : ∀ (i : Nat) (x : Value × Value) (y : PL), NV[i]? = some x → LL[i]? = some y → Nats w x.1 y.1 ∧ Nats w x.2 y.2 ∧ (y.1 ≠ [] → ∀ q, x.1.ownBlock = some q → T q) ∧ (y.2 ≠ [] → ∀ q, x.2.ownBlock = some q → T q))
    (hx : Nats w xv.1 x.1 ∧ Nats w xv.2 x.2 ∧ (x.1 ≠ [] → ∀ q, xv.1.ownBlock = some q → T q) ∧ (x.2 ≠ [] → ∀ q, xv.2.ownBlock = some q → T q)) : NodeRow T base w v (LL.take j ++ x :: LL.drop j) := by
  refine ⟨_, h, by simp; omega, fun i a b ha hb => ?_⟩
  rw [ins_get NV xv j i (by omega)] at ha
  rw [ins_get LL x j i hj] at hb
  by_cases h1 : i < j
  · rw [if_pos h1] at ha hb; exact hV i a b ha hb
  · rw [if_neg h1] at ha hb
    by_cases h2 : i = j
    · rw [if_pos h2] at ha hb; cases ha; cases hb; exact hx
    · rw [if_neg h2] at ha hb; exact hV _ a b ha hb
theorem nodeRow_snoc {T : Nat → Prop} {base : Nat} {w : World} {v : Value} {LL : List PL} {NV : List (Value × Value)} {x : PL} {xv : Value × Value} (h : w.ownsRow base 91 2 v (NV ++ [xv]).length (flat2 (NV ++ [xv])))
    (hl : NV.length = LL.length)
    (hV : ∀ (i : Nat) (x : Value × Value) (y : PL), NV[i]? = some x → LL[i]? = some y → Nats w x.1 y.1 ∧ Nats w x.2 y.2 ∧ (y.1 ≠ [] → ∀ q, x.1.ownBlock = some q → T q) ∧ (y.2 ≠ [] → ∀ q, x.2.ownBlock = some q → T q))
    (hx : Nats w xv.1 x.1 ∧ Nats w xv.2 x.2 ∧ (x.1 ≠ [] → ∀ q, xv.1.ownBlock = some q → T q) ∧ (x.2 ≠ [] → ∀ q, xv.2.ownBlock = some q → T q)) : NodeRow T base w v (LL ++ [x]) := by
  have := nodeRow_ins (NV := NV) (LL := LL) (x := x) (xv := xv) (j := LL.length) (v := v) (by rw [← hl, List.take_length, List.drop_length]; exact h) hl (Nat.le_refl _) hV hx
  rw [List.take_length, List.drop_length] at this
  exact this
theorem nats_one {w : World} {v : Value} {L : List Nat} (h : Nats w v L) : v.oneCell' = true := by
  obtain ⟨a, c, rfl, _⟩ := h; rfl
theorem blk_ready {w : World} {b : Nat} {v1 v2 : Value} {e : TypeId} (h : w.heap[b]? = some (.cells #[v1, v2] e (0, 0))) : w.cell? ⟨b, 0, none⟩ = some v1 ∧ w.cell? ⟨b, 1, none⟩ = some v2 ∧ w.frozen? ⟨b, 0, none⟩ = false ∧ w.frozen? ⟨b, 1, none⟩ = false :=
  ⟨by rw [cell_of_row w b 0 _ _ _ h]; rfl, by rw [cell_of_row w b 1 _ _ _ h]; rfl, by simp [World.frozen?, h], by simp [World.frozen?, h]⟩

theorem put2 {w : World} {b : Nat} {v1 v2 u1 u2 : Value} {e : TypeId} (h : w.heap[b]? = some (.cells #[v1, v2] e (0, 0))) : ((w.setCell ⟨b, 0, none⟩ u1).setCell ⟨b, 1, none⟩ u2).heap[b]? = some (.cells #[u1, u2] e (0, 0)) ∧ Fr (fun q => q = b) w ((w.setCell ⟨b, 0, none⟩ u1).setCell ⟨b, 1, none⟩ u2) := by
  constructor
  · have h1 : (w.setCell ⟨b, 0, none⟩ u1).heap[b]? = some (.cells #[u1, v2] e (0, 0)) := by rw [heap_set h]; rfl
    rw [heap_set h1]; rfl
  · exact Fr.setCell (Fr.setCell (Fr.refl (fun q => q = b) w) ⟨b, 0, none⟩ u1 (fun _ => rfl)) ⟨b, 1, none⟩ u2 (fun _ => rfl)

theorem form_lay {a wos : Nat} {wl wr w21 w4 : World} {M T' : Nat → Prop} {nv : Value} {oa a4 : Option Addr} {oc c4 : Nat} {NV' : List (Value × Value)} {SL : List PL} {lv rv : Value} {y : PL} {sA : List Nat} {o : Obj}
    (hF4 : Fr (fun q => q = a) wr w21) (hFl : Fr M wl w21) (f4 : Fr (Own1 (.slice oa NV'.length oc)) w21 w4) (hat : RowIs 3 encN w21 a sA)
    (hbox : w21.heap[a + 2]? = some (.cells #[.slice oa NV'.length oc] 24 (0, 0))) (hnv : ∀ q, (Value.slice oa NV'.length oc).ownBlock = some q → nv.ownBlock = some q ∨ wl.heap.size ≤ q)
    (hnb : ∀ q, (Value.slice oa NV'.length oc).ownBlock = some q → a + 1 ≤ q ∧ q < wr.heap.size ∧ q ≠ a + 2 ∧ ¬ T' q) (hT2 : ∀ q, T' q → a + 2 < q ∧ q < wl.heap.size)
    (hM : M = fun q => q = a ∨ q = a + 2 ∨ nv.ownBlock = some q) (hMlow : ∀ q, wos ≤ q → ¬ M q) (hmem : ∀ q, wos ≤ q → q < wl.heap.size → T' q) (hsz : a + 2 < wos) (hwl : wos ≤ wl.heap.size) (hlen : NV'.length = SL.length)
    (hms : ∀ (i : Nat) (x : Value × Value) (y : PL), NV'[i]? = some x → SL[i]? = some y → Nats wr x.1 y.1 ∧ Nats wr x.2 y.2 ∧ (y.1 ≠ [] → ∀ q, x.1.ownBlock = some q → T' q) ∧ (y.2 ≠ [] → ∀ q, x.2.ownBlock = some q → T' q))
    (e1 : Nats wl lv y.1) (e2 : Nats wl rv y.2) (e3 : y.1 ≠ [] → ∀ q, lv.ownBlock = some q → wos ≤ q) (e4 : y.2 ≠ [] → ∀ q, rv.ownBlock = some q → wos ≤ q)
    (h4 : w4.ownsRow (a + 1) 91 2 (.slice a4 (NV' ++ [(lv, rv)]).length c4) (NV' ++ [(lv, rv)]).length (flat2 (NV' ++ [(lv, rv)])))
    (q4 : (Value.slice a4 (NV' ++ [(lv, rv)]).length c4).ownBlock = (Value.slice oa NV'.length oc).ownBlock ∨ ∃ b, (Value.slice a4 (NV' ++ [(lv, rv)]).length c4).ownBlock = some b ∧ (w21.alloc o).drew.heap.size ≤ b) :
    RowIs 3 encN (w4.setCell ⟨a + 2, 0, none⟩ (.slice a4 (NV'.length + 1) c4)) a sA ∧ (w4.setCell ⟨a + 2, 0, none⟩ (.slice a4 (NV'.length + 1) c4)).heap[a + 2]? = some (.cells #[.slice a4 (NV'.length + 1) c4] 24 (0, 0)) ∧
      NodeRow T' (a + 1) (w4.setCell ⟨a + 2, 0, none⟩ (.slice a4 (NV'.length + 1) c4)) (.slice a4 (NV'.length + 1) c4) (SL ++ [y]) ∧ (∀ q, (Value.slice a4 (NV'.length + 1) c4).ownBlock = some q → nv.ownBlock = some q ∨ wl.heap.size ≤ q) ∧ Fr M wl (w4.setCell ⟨a + 2, 0, none⟩ (.slice a4 (NV'.length + 1) c4)) := by
  have fX : Fr (fun q => q = a + 2) w4 (w4.setCell ⟨a + 2, 0, none⟩ (.slice a4 (NV'.length + 1) c4)) := Fr.setCell (Fr.refl (fun q => q = a + 2) w4) _ _ (fun _ => rfl)
  have hb4 := f4.heap hbox (fun e => (hnb _ e).2.2.1 rfl)
  have hs21 := hFl.size
  have hs4 : (w21.alloc o).drew.heap.size = w21.heap.size + 1 := by simp
  rw [hs4] at q4
  have hX : NodeRow T' (a + 1) w4 (.slice a4 (NV' ++ [(lv, rv)]).length c4) (SL ++ [y]) := by
    have hE : ∀ (v : Value) (L : List Nat), Nats wl v L → (L ≠ [] → ∀ q, v.ownBlock = some q → wos ≤ q) → Nats w4 v L ∧ (L ≠ [] → ∀ q, v.ownBlock = some q → T' q) := fun v L h1 h2 => by
      have hq : L ≠ [] → ∀ q, v.ownBlock = some q → T' q := fun hne q hq => by
        obtain ⟨b, hb, hl⟩ := h1.block hne
        rw [hq] at hb; cases hb
        exact hmem q (h2 hne q hq) hl
      exact ⟨(h1.fr hFl (fun hne q hq => hMlow q (h2 hne q hq))).fr f4 (fun hne b hb e => (hnb b e).2.2.2 (hq hne b hb)), hq⟩
    obtain ⟨g1, g2⟩ := hE _ _ e1 e3
    obtain ⟨g3, g4⟩ := hE _ _ e2 e4
    refine nodeRow_snoc h4 hlen (fun i a' b ha hb => ?_) ⟨g1, g3, g2, g4⟩
    obtain ⟨s1, s2, s3, s4⟩ := hms i a' b ha hb
    exact ⟨(s1.fr hF4 (fun hne q hq e => by have := (hT2 q (s3 hne q hq)).1; omega)).fr f4 (fun hne q hq e => (hnb q e).2.2.2 (s3 hne q hq)),
      (s2.fr hF4 (fun hne q hq e => by have := (hT2 q (s4 hne q hq)).1; omega)).fr f4 (fun hne q hq e => (hnb q e).2.2.2 (s4 hne q hq)), s3, s4⟩
  have hown : ∀ q, (Value.slice a4 (NV' ++ [(lv, rv)]).length c4).ownBlock = some q → (Value.slice oa NV'.length oc).ownBlock = some q ∨ w21.heap.size ≤ q := fun q hq => by
    rcases q4 with h | ⟨b, h, hle⟩
    · rw [h] at hq; exact .inl hq
    · rw [h] at hq; cases hq; exact .inr (by omega)
  rw [show (NV' ++ [(lv, rv)]).length = NV'.length + 1 from by simp] at hX hown
  refine ⟨(hat.fr f4 (fun e => by have := (hnb _ e).1; omega)).fr fX (by omega), by rw [heap_set hb4]; rfl, ?_, ?_, ?_⟩
  · refine hX.fr fX (fun q hq e => ?_) (fun q hq e => by have := (hT2 q hq).1; omega)
    rcases hown q hq with h | h
    · exact (hnb q h).2.2.1 e
    · omega
  · intro q hq
    rcases hown q hq with h | h
    · exact hnv q h
    · exact .inr (by omega)
  · refine (hFl.trans f4 (fun q hq e => ?_)).trans fX (fun q _ e => by rw [hM]; exact .inr (.inl e))
    rcases hnv q e with h | h
    · rw [hM]; exact .inr (.inr h)
    · omega
end Go.Proofs.YtkbljlbfkgoalaaGreatDoor
