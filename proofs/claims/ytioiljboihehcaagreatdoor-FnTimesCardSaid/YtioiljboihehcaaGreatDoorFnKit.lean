/- What the laws over drawn codes share: the code, the cursor, boxes that hold forms. -/
import Derived.Test.YtioiljboihehcaaGreatDoorDraws
import Derived.Test.YtioiljboihehcaaGreatDoorOrderKit
import Derived.Test.YtioiljboihehcaaGreatDoorVSame
namespace Go.Proofs.YtioiljboihehcaaGreatDoor
set_option linter.unusedVariables false
set_option linter.unusedSimpArgs false
open Go.RowKit

/-- A code: bytes that came in. -/
def CodeOK (w : World) (cv : Value) (L : List Int) : Prop := SliceOf encC w cv L ∧ ∀ x ∈ L, 0 ≤ x ∧ x ≤ 255
theorem CodeOK.fr0 {w w' : World} {cv : Value} {L : List Int} (h : CodeOK w cv L) (hf : Fr NoM w w') : CodeOK w' cv L := ⟨h.1.fr0 hf, h.2⟩
theorem vBig_any (cv : Value) (L : List Int) (w : World) (h : CodeOK w cv L) : Calls Tryz.prog 22 #[cv] w fun e w' => e = .returned (.bool (decide (65536 < L.length))) ∧ w' = w := by
  obtain ⟨a, c, rfl, h1, h2, _⟩ := h.1
  have hl : L.length ≤ 9223372036854775807 := by omega
  clear h h1 h2
  go_enter Tryz.func22, Tryz.ntmps22
  go_wp2
  go_ret
  by_cases hb : 65536 < L.length
  · have hc : (65536 : Int) < (L.length : Int) := by omega
    simp [hb, hc]
  · have hc : ¬ (65536 : Int) < (L.length : Int) := by omega
    simp [hb, hc]
/-- A cursor at the head of a code. -/
theorem CurS.start {w : World} {cv : Value} {L : List Int} (h : CodeOK w cv L) : CurS (w.alloc (.cells #[cv, .int .i64 0, .int .u64 0] 91)) w.heap.size 0 := by
  refine ⟨cv, L, 0, 0, heap_alloc_new w _, h.1.fr0 ((Fr.refl NoM w).alloc _), h.2, Nat.le_refl _, fun hne q hq => ?_⟩
  obtain ⟨b, e, hb⟩ := h.1.block hne
  rw [hq] at e; cases e
  exact hb
theorem ints4g {n : Nat} (W : World) (a b c d : Int) (ha : n = W.heap.size) : Ints (W.alloc (.cells #[.int .i64 a, .int .i64 b, .int .i64 c, .int .i64 d] 3)) (.slice (some ⟨n, 0, none⟩) 4 4) [a, b, c, d] := by
  subst ha
  have hb := heap_alloc_new W (.cells #[.int .i64 a, .int .i64 b, .int .i64 c, .int .i64 d] 3)
  refine ⟨_, 4, rfl, by simp, by decide, fun j u hu => ⟨W.heap.size, 0, rfl, ?_⟩⟩
  rw [Nat.zero_add, cell_of_row _ _ _ _ _ _ hb]
  match j, hu with
  | 0, hu => cases hu; rfl
  | 1, hu => cases hu; rfl
  | 2, hu => cases hu; rfl
  | 3, hu => cases hu; rfl
  | j + 4, hu => simp at hu
/-- One of a row of forms, behind what the cursor writes. -/
theorem GRow.pick {D cb x : Nat} {W W' : World} {v : Value} {VS : List Value} {FSs : List (List PL)} {T : Nat → Prop} (g : GRow D W v VS FSs T) (f : Fr (fun q => q = cb) W W') (hcb : cb < D) (hx : x < VS.length) :
    ∃ (a : Option Addr) (c : Nat) (na : Option Addr) (nc : Nat) (Fm : List PL) (b off : Nat), v = .slice a VS.length c ∧ a = some ⟨b, off, none⟩ ∧ W'.cell? ⟨b, off + x, none⟩ = some (.slice na Fm.length nc) ∧ NodeT D T W' (.slice na Fm.length nc) Fm ∧ Fm ∈ FSs := by
  have g2 := g.frD f (fun q hq e => by have e : q = cb := e; omega)
  obtain ⟨a, c, e, hc⟩ := g2.cell
  obtain ⟨nv, hnv⟩ : ∃ nv, VS[x]? = some nv := ⟨_, List.getElem?_eq_getElem hx⟩
  obtain ⟨Fm, hFm⟩ : ∃ Fm, FSs[x]? = some Fm := ⟨_, List.getElem?_eq_getElem (by have := g.len; omega)⟩
  obtain ⟨b, off, ha, hcc⟩ := hc x nv hnv
  have hn := g2.nodes x nv Fm hnv hFm
  obtain ⟨na, nc, rfl⟩ := hn.val
  exact ⟨a, c, na, nc, Fm, b, off, e, ha, hcc, hn, List.mem_of_getElem? hFm⟩
/-- A box that holds a form. -/
structure BoxI (W : World) (b : Nat) (R : Nat → Prop) (v : Value) (Fi : List (List Int × List Int)) : Prop where
  cell : W.cell? ⟨b, 0, none⟩ = some v
  node : NodeL R encI W v Fi
section
variable {W W' : World} {b : Nat} {R : Nat → Prop} {v : Value} {Fi : List (List Int × List Int)}
theorem BoxI.fr0 (h : BoxI W b R v Fi) (hf : Fr NoM W W') : BoxI W' b R v Fi := ⟨hf.cell h.cell (fun q => q), h.node.fr0 hf⟩
theorem BoxI.made (h : NodeL R encI W v Fi) (hW : W' = W.alloc (.cells #[v] 28)) : BoxI W' W.heap.size R v Fi := by
  subst hW
  exact ⟨by rw [cell_of_row _ _ 0 _ _ _ (heap_alloc_new W _)]; rfl, h.fr0 ((Fr.refl NoM W).alloc _)⟩
end
/-- What a function hands back that tells a form and whether it is told. -/
def FormPost (ok : Bool) (F : List (List Int × List Int)) (w : World) (e : Ending) (w' : World) : Prop := ∃ v', e = .returned (.tuple #[.agg #[v'], .bool ok]) ∧ NodeL (fun b => w.heap.size ≤ b) encI w' v' F ∧ Fr NoM w w'
theorem FormPost.ofP {ok : Bool} {FN : List PL} {F : List (List Int × List Int)} {w w' : World} {e : Ending} (hF : F = i2 FN) (h : ∃ v', e = .returned (.tuple #[.agg #[v'], .bool ok]) ∧ NodesS w.heap.size w' v' FN ∧ Fr NoM w w') : FormPost ok F w e w' := by
  obtain ⟨v', e1, h1, f1⟩ := h
  exact ⟨v', e1, by rw [hF]; exact h1.nodeL.toI, f1⟩
theorem FormPost.ofR {ok : Bool} {FN : List PL} {F : List (List Int × List Int)} {w w' : World} {e : Ending} (hF : F = i2 FN) (h : ∃ v', e = .returned (.tuple #[.agg #[v'], .bool ok]) ∧ NodeL (fun b => w.heap.size ≤ b) encN w' v' FN ∧ Fr NoM w w') : FormPost ok F w e w' := by
  obtain ⟨v', e1, h1, f1⟩ := h
  exact ⟨v', e1, by rw [hF]; exact h1.toI, f1⟩
theorem vSame_true {R S : Nat → Prop} (av bv : Value) (A B : List (List Int × List Int)) (w : World) (hA : NodeL R encI w av A) (hB : NodeL S encI w bv B) (he : A = B) :
    Calls Tryz.prog 26 #[.agg #[av], .agg #[bv]] w fun e w' => e = .returned (.bool true) ∧ Fr NoM w w' := by
  have h := vSame_any av bv A B w hA hB
  rw [decide_eq_true he] at h
  exact h
end Go.Proofs.YtioiljboihehcaaGreatDoor
