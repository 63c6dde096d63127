/- The walk of the reference's (*l3Book).put: it returns what its text says, for every book and every two lists of its places. -/
import Derived.Test.YtkbljlbfkgoalaaGreatDoorBook
namespace Go.Proofs.YtkbljlbfkgoalaaGreatDoor
set_option linter.unusedVariables false
set_option linter.unusedSimpArgs false
open Go.RowKit

def bornL (BL : List Nat) (m : Nat) (L : List Nat) : Nat := L.foldl (fun m i => max m (BL.getD i 0 + 1)) m
theorem bornL_snoc (BL : List Nat) (m : Nat) (L : List Nat) (x : Nat) : bornL BL m (L ++ [x]) = max (bornL BL m L) (BL.getD x 0 + 1) := by simp [bornL]
theorem bornL_step (BL : List Nat) (m0 : Nat) (L : List Nat) (k : Nat) (hk : k < L.length) (hx : L[k] < BL.length) : max (bornL BL m0 (L.take k) : Int) ((BL[L[k]] : Int) + 1) = ((bornL BL m0 (L.take (k + 1)) : Nat) : Int) := by
  rw [List.take_succ_eq_append_getElem hk, bornL_snoc, List.getD_eq_getElem?_getD, List.getElem?_eq_getElem hx]
  simp only [Option.getD_some]
  omega
def putAt (NL : List (List Nat × List Nat)) (BL : List Nat) (bn : Nat) (lr : List Nat × List Nat) : Nat := (NL.zip BL).findIdx fun x => decide (x.2 = bn ∧ x.1 = lr)
def putKey (BL : List Nat) (L R : List Nat) : Nat × (List Nat × List Nat) := (bornL BL (bornL BL 0 L) R, (sortN L, sortN R))
/-- What put leaves: the book's nodes, births, and the place. -/
def putB (NL : List (List Nat × List Nat)) (BL : List Nat) (L R : List Nat) : List (List Nat × List Nat) × List Nat × Nat :=
  let q := putKey BL L R
  if putAt NL BL q.1 q.2 < NL.length then (NL, BL, putAt NL BL q.1 q.2) else (NL ++ [q.2], BL ++ [q.1], NL.length)

theorem cellNats {w : World} {v : Value} {L : List Nat} (h : Nats w v L) : ∃ a c, v = .slice a L.length c ∧ ∀ (j : Nat) (x : Nat), L[j]? = some x → ∃ b off, a = some ⟨b, off, none⟩ ∧ w.cell? ⟨b, off + j, none⟩ = some (.int .i64 (x : Int)) := by
  obtain ⟨a, c, rfl, _, _, h⟩ := h
  exact ⟨a, c, rfl, h⟩

theorem ints_inj {A B : List Nat} (h : ints A = ints B) : A = B := by
  unfold ints at h
  exact List.map_inj_right (fun a b e => Int.ofNat.inj e) |>.1 h
theorem l1SameN_any (av bv : Value) (A B : List Nat) (w : World) (hA : Nats w av A) (hB : Nats w bv B) :
    Calls Tryz.prog 141 #[av, bv] w fun e w' => e = .returned (.bool (decide (A = B))) ∧ ∃ q, w' = w.drewN q :=
  (l1Same_any av bv (ints A) (ints B) w hA.ints hB.ints).mono fun _ _ h => ⟨by rw [h.1]; congr 2; rw [decide_eq_decide]; exact ⟨ints_inj, fun e => by rw [e]⟩, h.2⟩
theorem putAt_eq (NL : List (List Nat × List Nat)) (BL : List Nat) (bn : Nat) (lr : List Nat × List Nat) (k : Nat) (hk : k < NL.length) (hB : BL.length = NL.length) (h0 : ∀ j x y, j < k → NL[j]? = some x → BL[j]? = some y → ¬ (y = bn ∧ x = lr))
    (h1 : BL[k]? = some bn) (h2 : NL[k]? = some lr) : putAt NL BL bn lr = k := by
  unfold putAt
  rw [List.findIdx_eq (by simp; omega)]
  constructor
  · have e1 : BL[k]'(by omega) = bn := by rw [List.getElem?_eq_getElem (by omega)] at h1; exact Option.some.inj h1
    have e2 : NL[k] = lr := by rw [List.getElem?_eq_getElem hk] at h2; exact Option.some.inj h2
    simp [e1, e2]
  · intro j hj
    have := h0 j (NL[j]'(by omega)) (BL[j]'(by omega)) hj (List.getElem?_eq_getElem _) (List.getElem?_eq_getElem _)
    simpa using this
theorem putAt_none (NL : List (List Nat × List Nat)) (BL : List Nat) (bn : Nat) (lr : List Nat × List Nat) (hB : BL.length = NL.length) (h0 : ∀ j x y, j < NL.length → NL[j]? = some x → BL[j]? = some y → ¬ (y = bn ∧ x = lr)) : ¬ putAt NL BL bn lr < NL.length := by
  intro h
  unfold putAt at h
  have hlen : (NL.zip BL).length = NL.length := by simp; omega
  have := List.findIdx_getElem (xs := NL.zip BL) (p := fun x => decide (x.2 = bn ∧ x.1 = lr)) (w := by rw [hlen]; exact h)
  simp only [List.getElem_zip, decide_eq_true_eq] at this
  exact h0 _ _ _ h (List.getElem?_eq_getElem _) (List.getElem?_eq_getElem _) this

theorem owns_pos {w : World} {base : Nat} {e : TypeId} {size : Nat} {v : Value} {n : Nat} {xs : List Value} (h : w.ownsRow base e size v n xs) (hn : 0 < n) : ∃ g cap, v = .slice (some ⟨g, 0, none⟩) n cap ∧ base ≤ g ∧ g < w.heap.size := by
  rcases h.2 with ⟨_, h0⟩ | ⟨g, cap, cur, rfl, hb, hg, _⟩
  · omega
  · exact ⟨g, cap, rfl, hb, (Array.getElem?_eq_some_iff.1 hg).1⟩

/-- 'append(s, x)', x of two cells: the new element was laid into a block of its own. -/
theorem wpList_app2 {P : Program} (w : World) {ops : Array Oper} {rest : List Oper} {o : Oper} {a : Act} {Q : Exit → Act → World → Prop} (hg : o.guard = none) (s x : Operand) (t : TypeId)
    (hop : o.op = Op.call { callee := Callee.builtin Builtin.append, args := #[s, x], argTypes := #[t, t] }) (base : Nat) (e : TypeId) (z : Value) (bytes : Nat) (ht : P.underlying t = some (.slice e))
    (hi : (P.info? e).map (fun i => (i.zero, i.size, i.bytes)) = some (some z, 2, bytes)) (hz : z.cells.size = 2) (v : Value) (n : Nat) (xs : List Value) (hs : a.eval s = v) (hown : w.ownsRow base e 2 v n xs)
    (x1 x2 : Value) (hx : a.eval x = .slice (some ⟨w.heap.size, 0, none⟩) 1 1) (h1 : x1.oneCell' = true) (h2 : x2.oneCell' = true) (hn : (n + 1) * bytes ≤ 140737488355328) (hb1 : 0 < bytes) (hb : base ≤ w.heap.size)
    (K : ∀ (v' : Value) (w' : World), w'.ownsRow base e 2 v' (n + 1) (xs ++ [x1, x2]) → Fr (Own1 v) w w' → (v'.ownBlock = v.ownBlock ∨ ∃ b, v'.ownBlock = some b ∧ w.heap.size ≤ b) → wpList P ops Q rest (a.put o.dst v') w') :
    wpList P ops Q (o :: rest) a (w.alloc (.cells #[x1, x2] e)) := by
  obtain ⟨i0, hi, hz0, hz1, hz2⟩ := info_parts hi
  have hnn : n + 1 ≤ 140737488355328 := Nat.le_trans (by have := Nat.mul_le_mul_left (n + 1) hb1; omega) hn
  refine wpList_append_own_at _ hg s x t hop base e i0 z 2 bytes ht hi hz0 hz1 hz2 hz (by decide) v n xs hs (hown.alloc _) ⟨w.heap.size, 0, none⟩ 1 1 [x1, x2] hx rfl ?_ ?_ (by unfold maxLen; omega) hn (by simp; omega) ?_
  · intro j u hj
    match j, hj with
    | 0, hj => simp at hj; subst hj; show (w.alloc _).cell? ⟨w.heap.size, 0, none⟩ = _; rw [World.cell?_alloc_at _ _ _ _ rfl]; rfl
    | 1, hj => simp at hj; subst hj; show (w.alloc _).cell? ⟨w.heap.size, 0 + 1, none⟩ = _; rw [World.cell?_alloc_at _ _ _ _ rfl]; rfl
  · intro q hq
    simp at hq
    rcases hq with rfl | rfl
    · exact h1
    · exact h2
  · intro v' w' h1 h2 _ h3
    refine K v' w' h1 (((Fr.refl (Own1 v) w).alloc _).grown h2 (fun k hk _ => hk)) ?_
    rcases h3 with h3 | h3
    · exact .inl h3
    · exact .inr ⟨_, h3, by simp⟩

theorem wpList_app1m {P : Program} (w : World) {ops : Array Oper} {rest : List Oper} {o : Oper} {a : Act} {Q : Exit → Act → World → Prop} (hg : o.guard = none) (s x : Operand) (t : TypeId)
    (hop : o.op = Op.call { callee := Callee.builtin Builtin.append, args := #[s, x], argTypes := #[t, t] }) (base : Nat) (e : TypeId) (z : Value) (bytes : Nat) (ht : P.underlying t = some (.slice e))
    (hi : (P.info? e).map (fun i => (i.zero, i.size, i.bytes)) = some (some z, 1, bytes)) (hz : z.cells.size = 1) (v : Value) (n : Nat) (xs : List Value) (hs : a.eval s = v) (hown : w.ownsRow base e 1 v n xs)
    (u : Value) (m : Nat) (hm : m = w.heap.size) (hx : a.eval x = .slice (some ⟨m, 0, none⟩) 1 1) (hu : u.oneCell' = true) (hn : (n + 1) * bytes ≤ 140737488355328) (hb1 : 0 < bytes) (hb : base ≤ w.heap.size)
    (K : ∀ (v' : Value) (w' : World), w'.ownsRow base e 1 v' (n + 1) (xs ++ [u]) → Fr (Own1 v) w w' → (v'.ownBlock = v.ownBlock ∨ ∃ b, v'.ownBlock = some b ∧ w.heap.size ≤ b) → wpList P ops Q rest (a.put o.dst v') w') :
    wpList P ops Q (o :: rest) a (w.alloc (.cells #[u] e)) := by
  subst hm
  exact wpList_app1 w hg s x t hop base e z bytes ht hi hz v n xs hs hown u hx hu hn hb1 hb K

set_option maxHeartbeats 4000000 in
theorem put_any {S : Nat → Prop} (bb : Nat) (lv rv : Value) (NL : List (List Nat × List Nat)) (BL L R : List Nat) (w : World) (hB : BookS S w bb NL BL) (hL : Nats w lv L) (hR : Nats w rv R)
    (hLt : ∀ (j x : Nat), L[j]? = some x → x < NL.length) (hRt : ∀ (j x : Nat), R[j]? = some x → x < NL.length) (hl : L.length < 1000000000) (hr : R.length < 1000000000) (hn : NL.length < 1000000000) (hb : ∀ x ∈ BL, x < 1000000000) :
    Calls Tryz.prog 80 #[.pointer (some ⟨bb, 0, none⟩), lv, rv] w fun e w' => e = .returned (.int .i64 ((putB NL BL L R).2.2 : Nat)) ∧ BookS (fun k => S k ∨ w.heap.size ≤ k) w' bb (putB NL BL L R).1 (putB NL BL L R).2.1 ∧ Fr (BookM w bb) w w' := by
  have HBS := Lib.hid hB
  obtain ⟨nv, bv, NV, hB, hs1, hs2⟩ := hB
  have HS1S := Lib.hid hs1; have HS2S := Lib.hid hs2; clear hs1 hs2
  have hbl := hB.blk
  have hbn := hB.born
  have hlen := hB.lens
  obtain ⟨ba, bc, rfl, _, _, hbc⟩ := SliceOf.of_owns (L := BL) hbn rfl
  have c0 : w.cell? ⟨bb, 0, none⟩ = some nv := by rw [cell_of_row w bb 0 _ _ _ hbl]; rfl
  have c1 : w.cell? ⟨bb, 1, none⟩ = some (.slice ba BL.length bc) := by rw [cell_of_row w bb 1 _ _ _ hbl]; rfl
  obtain ⟨na, nc, rfl, hnc, hncm, hnn⟩ := hB.nodeL
  obtain ⟨la, lc, rfl, hlc⟩ := cellNats hL
  obtain ⟨ra, rc, rfl, hrc⟩ := cellNats hR
  have HB := Lib.hid hB; have HBc := Lib.hid hbc; have HNn := Lib.hid hnn; have HLc := Lib.hid hlc; have HRc := Lib.hid hrc
  have HLt := Lib.hid hLt; have HRt := Lib.hid hRt; have Hl := Lib.hid hl; have Hr := Lib.hid hr; have Hn := Lib.hid hn; have Hb := Lib.hid hb; have HLen := Lib.hid hlen
  have C0 := Lib.hid c0; have C1 := Lib.hid c1
  clear hB hbc hnn hlc hrc hLt hRt hl hr hn hb hlen hbl hbn hL hR c0 c1
  have hl9 : L.length ≤ 9223372036854775807 := by have := Hl.out; omega
  have hr9 : R.length ≤ 9223372036854775807 := by have := Hr.out; omega
  go_enter Tryz.func80, Tryz.ntmps80
  go_wp2
  go_loopw [7, 9, 10] (fun v m i wr => ∃ k : Nat, k ≤ L.length ∧ i = .int .i64 k ∧ Nats wr v (sortN (L.take k)) ∧ m = .int .i64 (bornL BL 0 (L.take k) : Nat) ∧ Fr NoM w wr ∧ ∀ b, v.ownBlock = some b → w.heap.size ≤ b) (fun _ _ i _ => L.length - (intOf i).toNat)
  case atStart => exact ⟨0, by omega, rfl, SliceOf.of_owns (L := []) ((World.ownsRow_made (base := 0) (e := 3) (size := 1) w #[] 0 (by omega) (by decide) (by simp)).alloc _) rfl, rfl, ((Fr.refl _ _).alloc _).alloc _, by simp [Value.ownBlock]⟩
  case round =>
    obtain ⟨k, hk, rfl, hs, rfl, hfr, hnb⟩ := hrel
    have HS := Lib.hid hs; have HFr := Lib.hid hfr; have HNb := Lib.hid hnb
    clear hs hfr hnb
    by_cases hlt : k < L.length
    · obtain ⟨b1, o1, ha1, d1⟩ := HLc.out k L[k] (by simp)
      have hx := HLt.out k L[k] (by simp)
      have hxB : L[k] < BL.length := by rw [HLen.out]; exact hx
      obtain ⟨b2, o2, ha2, d2⟩ := HBc.out L[k] BL[L[k]] (by simp)
      have ix1 := ixInts la L.length lc k b1 o1 hlt ha1
      have ix2 := ixInts ba BL.length bc L[k] b2 o2 hxB ha2
      have d1' := HFr.out.cell d1 (fun q => q)
      have hnext : putN (sortN (L.take k)) L[k] = sortN (L.take (k + 1)) := by rw [List.take_succ_eq_append_getElem hlt, sortN_snoc]
      have hbor := bornL_step BL 0 L k hlt hxB
      have hlen : (sortN (L.take k)).length < 1000000000000 := by have h1 := sortN_length (L.take k); have := Hl.out; have h3 := List.length_take_le k L; omega
      have HN1 := Lib.hid hnext; have HB1 := Lib.hid hbor; have HLe := Lib.hid hlen; have D2 := Lib.hid d2
      clear hnext hbor hlen d1 d2 ha1 ha2
      unfold encN at d1'
      have B1 : BL[L[k]] < 1000000000 := Hb.out _ (List.getElem_mem _)
      have HBd := Lib.hid B1; clear B1
      go_wp2_with fail
      refine (l1Put_any _ (sortN (L.take k)) L[k] wr HS.out HLe.out).mono ?_
      rintro e w1 ⟨v1, rfl, h1, h2, h3⟩
      rw [HN1.out] at h1
      have HFr1 := Lib.hid (HFr.out.trans h2 (fun _ _ q => q))
      have H1 := Lib.hid h1; have H3 := Lib.hid h3
      have e0 := HFr1.out.cell C1.out (fun q => q)
      have e1 := HFr1.out.cell D2.out (fun q => q)
      have e2 := h2.cell d1' (fun q => q)
      unfold encN at e1
      have hbd : (BL[L[k]] : Int) < 1000000000 := by have := HBd.out; omega
      clear h1 h2 h3 d1'
      go_wp2
      go_quiet ((go_at_call 140; with_reducible exact Calls.quiet_of_same (l1Most_q _ _ _)))
      go_wp2
      go_roundw
      case rel => exact ⟨k + 1, by omega, by go_num, H1.out, by rw [HB1.out], HFr1.out.trans (M' := NoM) ⟨rfl, rfl, rfl, Nat.le_refl _, fun _ _ _ => rfl⟩ (fun _ _ q => q), fun b hb => by
          rcases H3.out b hb with h | h
          · exact HNb.out b h
          · exact Nat.le_trans HFr.out.size h⟩
      case measure => simp [intOf]; omega
    · have hk' : k = L.length := by omega
      have hs1 := HS.out
      rw [hk', List.take_length] at hs1
      have hm1 : bornL BL 0 (L.take k) = bornL BL 0 L := by rw [hk', List.take_length]
      have HS1 := Lib.hid hs1
      have HK := Lib.hid hk'
      rw [hm1]
      clear hs1 hk' HS hm1
      have HNb1 := HNb; have HFr0 := HFr
      clear HNb HFr
      go_wp2
      go_loopw [8, 9, 11] (fun v m i wq => ∃ k : Nat, k ≤ R.length ∧ i = .int .i64 k ∧ Nats wq v (sortN (R.take k)) ∧ m = .int .i64 (bornL BL (bornL BL 0 L) (R.take k) : Nat) ∧ Fr NoM wr wq ∧ ∀ b, v.ownBlock = some b → w.heap.size ≤ b) (fun _ _ i _ => R.length - (intOf i).toNat)
      case atStart => exact ⟨0, by omega, rfl, ⟨_, 0, rfl, by simp [sortN], by decide, by simp [sortN]⟩, rfl, Fr.refl _ _, by simp [Value.ownBlock]⟩
      case round =>
        obtain ⟨k2, hk2, rfl, hs2, rfl, hfr2, hnb2⟩ := hrel
        have HS := Lib.hid hs2; have HFr := Lib.hid (HFr0.out.trans hfr2 (fun _ _ q => q)); have HNb := Lib.hid hnb2; have HFrq := Lib.hid hfr2
        clear hs2 hfr2 hnb2
        by_cases hlt : k2 < R.length
        · obtain ⟨b1, o1, ha1, d1⟩ := HRc.out k2 R[k2] (by simp)
          have hx := HRt.out k2 R[k2] (by simp)
          have hxB : R[k2] < BL.length := by rw [HLen.out]; exact hx
          obtain ⟨b2, o2, ha2, d2⟩ := HBc.out R[k2] BL[R[k2]] (by simp)
          have ix1 := ixInts ra R.length rc k2 b1 o1 hlt ha1
          have ix2 := ixInts ba BL.length bc R[k2] b2 o2 hxB ha2
          have d1' := HFr.out.cell d1 (fun q => q)
          have hnext : putN (sortN (R.take k2)) R[k2] = sortN (R.take (k2 + 1)) := by rw [List.take_succ_eq_append_getElem hlt, sortN_snoc]
          have hbor := bornL_step BL (bornL BL 0 L) R k2 hlt hxB
          have hlen : (sortN (R.take k2)).length < 1000000000000 := by have h1 := sortN_length (R.take k2); have := Hr.out; have h3 := List.length_take_le k2 R; omega
          have HN1 := Lib.hid hnext; have HB1 := Lib.hid hbor; have HLe := Lib.hid hlen; have D2 := Lib.hid d2
          clear hnext hbor hlen d1 d2 ha1 ha2
          have B1 : BL[R[k2]] < 1000000000 := Hb.out _ (List.getElem_mem _)
          have HBd := Lib.hid B1; clear B1
          go_wp2_with fail
          refine (l1Put_any _ (sortN (R.take k2)) R[k2] wr HS.out HLe.out).mono ?_
          rintro e w1 ⟨v1, rfl, h1, h2, h3⟩
          rw [HN1.out] at h1
          have HFr1 := Lib.hid (HFr.out.trans h2 (fun _ _ q => q)); have HFrq1 := Lib.hid (HFrq.out.trans h2 (fun _ _ q => q))
          have H1 := Lib.hid h1; have H3 := Lib.hid h3
          have e0 := HFr1.out.cell C1.out (fun q => q)
          have e1 := HFr1.out.cell D2.out (fun q => q)
          have e2 := h2.cell d1' (fun q => q)
          unfold encN at e1
          have hbd : (BL[R[k2]] : Int) < 1000000000 := by have := HBd.out; omega
          clear h1 h2 h3 d1'
          go_wp2
          go_quiet ((go_at_call 140; with_reducible exact Calls.quiet_of_same (l1Most_q _ _ _)))
          go_wp2
          go_roundw
          case rel => exact ⟨k2 + 1, by omega, by go_num, H1.out, by rw [HB1.out], HFrq1.out.trans (M' := NoM) ⟨rfl, rfl, rfl, Nat.le_refl _, fun _ _ _ => rfl⟩ (fun _ _ q => q), fun b hb => by
              rcases H3.out b hb with h | h
              · exact HNb.out b h
              · exact Nat.le_trans HFr.out.size h⟩
          case measure => simp [intOf]; omega
        · have hk' : k2 = R.length := by omega
          have hs1 := HS.out
          rw [hk', List.take_length] at hs1
          have hm1 : bornL BL (bornL BL 0 L) (R.take k2) = bornL BL (bornL BL 0 L) R := by rw [hk', List.take_length]
          have HS2 := Lib.hid hs1
          have HK2 := Lib.hid hk'
          rw [hm1]
          clear hs1 hk' HS hm1
          have HFr1 := HFr; have HNb2 := HNb
          have hs1' := HS1.out.fr0 HFrq.out
          have HS1' := Lib.hid hs1'
          clear HFr HNb hs1' HS1 HFrq
          obtain ⟨a7, c7, e7, _, _, _⟩ := id HS1'.out
          obtain ⟨a8, c8, e8, _, _, _⟩ := id HS2.out
          subst e7 e8
          go_wp2
          go_loopw [12] (fun i wq => ∃ k q : Nat, k ≤ NL.length ∧ i = .int .i64 k ∧ (∀ j x y, j < k → NL[j]? = some x → BL[j]? = some y → ¬ (y = bornL BL (bornL BL 0 L) R ∧ x = (sortN L, sortN R))) ∧ wq = wr.drewN q) (fun i _ => NL.length - (intOf i).toNat)
          case atStart => exact ⟨0, 0, by omega, rfl, by intros; omega, rfl⟩
          case round =>
            obtain ⟨k3, q, hk3, rfl, hno, rfl⟩ := hrel
            have HNo := Lib.hid hno; clear hno
            have c0 := HFr1.out.cell C0.out (fun q => q)
            have c1 := HFr1.out.cell C1.out (fun q => q)
            by_cases hlt : k3 < NL.length
            · have hltB : k3 < BL.length := by rw [HLen.out]; exact hlt
              obtain ⟨b1, o1, ha1, d1⟩ := HBc.out k3 BL[k3] (by simp)
              obtain ⟨b2, o2, lv2, rv2, ha2, _, d2, d3, s1, s2, _, _⟩ := HNn.out k3 NL[k3] (by simp)
              have ix1 := ixInts ba BL.length bc k3 b1 o1 hltB ha1
              have ix2 := ixNode na NL.length nc k3 b2 o2 hlt ha2
              have d1' := HFr1.out.cell d1 (fun q => q)
              have d2' := HFr1.out.cell d2 (fun q => q)
              have d3' := HFr1.out.cell d3 (fun q => q)
              have T1 := Lib.hid (s1.fr0 HFr1.out); have T2 := Lib.hid (s2.fr0 HFr1.out)
              unfold encN at d1'
              clear d1 d2 d3 ha1 ha2 s1 s2
              by_cases hbk : BL[k3] = bornL BL (bornL BL 0 L) R
              · have hbk' : ((BL[k3] : Int) == ((bornL BL (bornL BL 0 L) R : Nat) : Int)) = true := by simp [hbk]
                have HBk := Lib.hid hbk; clear hbk
                by_cases h1 : NL[k3].1 = sortN L
                · have h1' : decide (NL[k3].1 = sortN L) = true := decide_eq_true h1
                  have H1 := Lib.hid h1; clear h1
                  by_cases h2 : NL[k3].2 = sortN R
                  · have h2' : decide (NL[k3].2 = sortN R) = true := decide_eq_true h2
                    have hfin : putB NL BL L R = (NL, BL, k3) := by
                      have hp := putAt_eq NL BL (putKey BL L R).1 (putKey BL L R).2 k3 hlt HLen.out HNo.out (by rw [List.getElem?_eq_getElem hltB]; exact congrArg some HBk.out) (by rw [List.getElem?_eq_getElem hlt]; exact congrArg some (Prod.ext H1.out h2))
                      simp only [putB, hp, hlt, if_true]
                    have HFin := Lib.hid hfin; clear h2 hfin
                    go_wp2_with fail
                    refine (l1SameN_any _ _ NL[k3].1 (sortN L) (wr.drewN q) T1.out HS1'.out).mono ?_
                    rintro e w1 ⟨rfl, q1, rfl⟩
                    go_wp2_with fail
                    refine (l1SameN_any _ _ NL[k3].2 (sortN R) (wr.drewN (q + q1)) T2.out HS2.out).mono ?_
                    rintro e w1 ⟨rfl, q2, rfl⟩
                    go_wp2
                    go_ret
                    have hfz : Fr NoM w (wr.drewN (q + q1 + q2)) := HFr1.out.trans (M' := NoM) ⟨rfl, rfl, rfl, Nat.le_refl _, fun _ _ _ => rfl⟩ (fun _ _ q => q)
                    refine ⟨by rw [HFin.out]; rfl, ?_, hfz.mono (fun _ _ q => q.elim)⟩
                    rw [HFin.out]
                    exact (HBS.out.fr0 hfz).mono (fun _ h => .inl h)
                  · have h2' : decide (NL[k3].2 = sortN R) = false := decide_eq_false h2
                    have H2 := Lib.hid h2; clear h2
                    go_wp2_with fail
                    refine (l1SameN_any _ _ NL[k3].1 (sortN L) (wr.drewN q) T1.out HS1'.out).mono ?_
                    rintro e w1 ⟨rfl, q1, rfl⟩
                    go_wp2_with fail
                    refine (l1SameN_any _ _ NL[k3].2 (sortN R) (wr.drewN (q + q1)) T2.out HS2.out).mono ?_
                    rintro e w1 ⟨rfl, q2, rfl⟩
                    go_wp2
                    go_roundw
                    case rel =>
                      refine ⟨k3 + 1, q + q1 + q2, by omega, by go_num, fun j x y hj hx hy => ?_, rfl⟩
                      by_cases e : j = k3
                      · subst e; rw [List.getElem?_eq_getElem hlt] at hx; cases hx; exact fun c => H2.out (by rw [c.2])
                      · exact HNo.out j x y (by omega) hx hy
                    case measure => simp [intOf]; omega
                · have h1' : decide (NL[k3].1 = sortN L) = false := decide_eq_false h1
                  have H1 := Lib.hid h1; clear h1
                  go_wp2_with fail
                  refine (l1SameN_any _ _ NL[k3].1 (sortN L) (wr.drewN q) T1.out HS1'.out).mono ?_
                  rintro e w1 ⟨rfl, q1, rfl⟩
                  go_wp2
                  go_roundw
                  case rel =>
                    refine ⟨k3 + 1, q + q1, by omega, by go_num, fun j x y hj hx hy => ?_, rfl⟩
                    by_cases e : j = k3
                    · subst e; rw [List.getElem?_eq_getElem hlt] at hx; cases hx; exact fun c => H1.out (by rw [c.2])
                    · exact HNo.out j x y (by omega) hx hy
                  case measure => simp [intOf]; omega
              · have hbk' : ((BL[k3] : Int) == ((bornL BL (bornL BL 0 L) R : Nat) : Int)) = false := by rw [beq_eq_false_iff_ne]; omega
                have HBk := Lib.hid hbk; clear hbk
                go_wp2
                go_roundw
                case rel =>
                  refine ⟨k3 + 1, q, by omega, by go_num, fun j x y hj hx hy => ?_, rfl⟩
                  by_cases e : j = k3
                  · subst e; rw [List.getElem?_eq_getElem hltB] at hy; cases hy; exact fun c => HBk.out c.1
                  · exact HNo.out j x y (by omega) hx hy
                case measure => simp [intOf]; omega
            · have hk' : k3 = NL.length := by omega
              have hfin : putB NL BL L R = (NL ++ [(sortN L, sortN R)], BL ++ [bornL BL (bornL BL 0 L) R], NL.length) := by
                have hp := putAt_none NL BL (putKey BL L R).1 (putKey BL L R).2 HLen.out (fun j x y hj => HNo.out j x y (by omega))
                simp only [putB, hp, if_false]; rfl
              have HFin := Lib.hid hfin; have HK3 := Lib.hid hk'; clear hfin hk'
              have hfq : Fr NoM w (wr.drewN q) := HFr1.out.trans (M' := NoM) ⟨rfl, rfl, rfl, Nat.le_refl _, fun _ _ _ => rfl⟩ (fun _ _ q => q)
              have hB2 := HB.out.fr0 hfq
              have HFq := Lib.hid hfq; have HB2 := Lib.hid hB2; clear hfq hB2
              go_wp2_with (at_builtin; go_loud (refine wpList_app2 (wr.drewN q) rfl _ _ 22 rfl 0 91 _ 48 Tryz.underlying22 infoNode rfl (.slice na NL.length nc) NL.length (flat2 NV) rfl HB2.out.nodes (.slice a7 (sortN L).length c7) (.slice a8 (sortN R).length c8) rfl rfl rfl ?c1 (by decide) (Nat.zero_le _) ?_))
              case c1 => have := Hn.out; omega
              intro v1 w1 h1 f1 q1
              obtain ⟨g1, cap1, rfl, _, hg1⟩ := owns_pos h1 (by omega)
              have hb1 := f1.heap HB2.out.blk (fun h => HB2.out.d1 bb h rfl)
              have k0 : w1.cell? ⟨bb, 0, none⟩ = some (.slice na NL.length nc) := by rw [cell_of_row w1 bb 0 _ _ _ hb1]; rfl
              have k1 : w1.cell? ⟨bb, 1, none⟩ = some (.slice ba BL.length bc) := by rw [cell_of_row w1 bb 1 _ _ _ hb1]; rfl
              have z0 : w1.frozen? ⟨bb, 0, none⟩ = false := by simp [World.frozen?, hb1]
              have hsz : bb < w1.heap.size := (Array.getElem?_eq_some_iff.1 hb1).1
              have hbn : ((w1.setCell ⟨bb, 0, none⟩ (.slice (some ⟨g1, 0, none⟩) (NL.length + 1) cap1))).ownsRow 0 3 1 (.slice ba BL.length bc) BL.length (BL.map encN) :=
                owns_fr (owns_fr HB2.out.born f1 (fun b hb h => HB2.out.d3 b h hb)) (Fr.set w1 ⟨bb, 0, none⟩ _) (fun b hb => HB2.out.d2 b hb)
              have HBb := Lib.hid hb1; have HH1 := Lib.hid h1; have HF1 := Lib.hid f1; have HQ1 := Lib.hid q1; have HBn := Lib.hid hbn
              clear hb1 h1 f1 q1 hbn
              go_wp2_with (at_builtin; refine wpList_app1m (w1.setCell ⟨bb, 0, none⟩ (.slice (some ⟨g1, 0, none⟩) (NL.length + 1) cap1)) rfl _ _ 75 rfl 0 3 (.int .i64 0) 8 Tryz.underlying75 infoInt rfl (.slice ba BL.length bc) BL.length (BL.map encN) rfl HBn.out (encN (bornL BL (bornL BL 0 L) R)) w1.heap.size (by simp [World.setCell]) rfl rfl ?c2 (by decide) (Nat.zero_le _) ?_)
              case c2 => have := Hn.out; rw [HLen.out]; omega
              intro v2 w2 h2 f2 q2
              obtain ⟨g2, cap2, rfl, _, hg2⟩ := owns_pos h2 (by omega)
              have hb2 := f2.heap (heap_set HBb.out _) (fun h => HB2.out.d2 bb h rfl)
              have k0' : w2.cell? ⟨bb, 0, none⟩ = some (.slice (some ⟨g1, 0, none⟩) (NL.length + 1) cap1) := by rw [cell_of_row w2 bb 0 _ _ _ hb2]; rfl
              have k1' : w2.cell? ⟨bb, 1, none⟩ = some (.slice ba BL.length bc) := by rw [cell_of_row w2 bb 1 _ _ _ hb2]; rfl
              have z1 : w2.frozen? ⟨bb, 1, none⟩ = false := by simp [World.frozen?, hb2]
              have HH2 := Lib.hid h2; have HF2 := Lib.hid f2; have HQ2 := Lib.hid q2
              have hn9 : NL.length ≤ 9223372036854775 := by have := Hn.out; omega
              clear hb2 h2 f2 q2 k0 k1 z0 hsz
              go_wp2
              go_ret
              have hw : ∀ {k}, w.heap.size ≤ k → ¬ BookM (wr.drewN q) bb k := fun hle hk => by
                rcases (BookM_iff HB2.out.blk).1 hk with h | h | h
                · have := (Array.getElem?_eq_some_iff.1 HB.out.blk).1; omega
                · have := owns_lt HB.out.nodes h; omega
                · have := owns_lt HB.out.born h; omega
              obtain ⟨p1, p2, p3⟩ := book_push HB2.out HH1.out HF1.out HQ1.out HH2.out HF2.out (by simpa [World.setCell] using HQ2.out) (SliceOf.fr0 HS1'.out ⟨rfl, rfl, rfl, Nat.le_refl _, fun _ _ _ => rfl⟩) (SliceOf.fr0 HS2.out ⟨rfl, rfl, rfl, Nat.le_refl _, fun _ _ _ => rfl⟩)
                (fun _ b hb => hw (HNb1.out b hb)) (fun _ b hb => hw (HNb2.out b hb))
              refine ⟨?_, ?_, (HFq.out.mono (M' := BookM w bb) (fun _ _ q => q.elim)).trans p2 (fun k _ h => (BookM_fr0 ⟨_, _, _, HB.out⟩ HFq.out).1 h)⟩
              · rw [HFin.out]; simp
              · rw [HFin.out]
                refine ⟨_, _, _, p1, fun k hk => ?_, InS.push (fun j x y hx hy => ⟨fun hne q hq => .inl ((HS2S.out j x y hx hy).1 hne q hq), fun hne q hq => .inl ((HS2S.out j x y hx hy).2 hne q hq)⟩) HB.out.lenV _ _ (fun _ b hb => .inr (HNb1.out b hb)) (fun _ b hb => .inr (HNb2.out b hb))⟩
                rcases p3 k hk with h | h
                · exact .inl (HS1S.out k ((BookM_fr0 ⟨_, _, _, HB.out⟩ HFq.out).1 h))
                · exact .inr (Nat.le_trans HFq.out.size h)
end Go.Proofs.YtkbljlbfkgoalaaGreatDoor
