import Derived.Test.YtiidnnpanickaaaGreatDoorZbNodesP
/- What the claim of FnExactCompareNumberCard needs of: RefDrop. -/
namespace Go.Proofs.YtiidnnpanickaaaGreatDoor
set_option linter.unusedVariables false
set_option linter.unusedSimpArgs false
open Go.RowKit
structure OrdR (w : World) (ob bb kb : Nat) (NL : List PL) (K : List Nat) : Prop where
  o0 : w.cell? ⟨ob, 0, none⟩ = some (.pointer (some ⟨bb, 0, none⟩))
  o1 : w.cell? ⟨ob, 1, none⟩ = some (.slice (some ⟨kb, 0, none⟩) (NL.length * NL.length) (NL.length * NL.length))
  nv : ∃ v, w.cell? ⟨bb, 0, none⟩ = some v ∧ NodeL (· ≠ kb) encN w v NL
  n1 : ob ≠ kb
  n2 : bb ≠ kb
  row : RowIs 3 encN w kb K
  len : K.length = NL.length * NL.length
theorem OrdR.fr {w w' : World} {ob bb kb : Nat} {NL : List PL} {K K' : List Nat} (h : OrdR w ob bb kb NL K) (hf : Fr (fun q => q = kb) w w') (hr : RowIs 3 encN w' kb K') (hl : K'.length = NL.length * NL.length) : OrdR w' ob bb kb NL K' := by
  obtain ⟨v, hv, hn⟩ := h.nv
  exact ⟨hf.cell h.o0 h.n1, hf.cell h.o1 h.n1, ⟨v, hf.cell hv h.n2, hn.fr hf (fun k hk => hk)⟩, h.n1, h.n2, hr, hl⟩
def KOK (C : List Nat) (N n : Nat) (K : List Nat) : Prop :=
  ∀ i j, i < N → j < N → i + j < n → K.getD (i * N + j) 0 = 0 ∨ (K.getD (i * N + j) 0 = 1 ∧ geV C i j = true) ∨ (K.getD (i * N + j) 0 = 2 ∧ geV C i j = false)
def KSame (N n : Nat) (K K' : List Nat) : Prop := ∀ i j, i < N → j < N → n ≤ i + j → K'.getD (i * N + j) 0 = K.getD (i * N + j) 0
theorem pair_at {N i j x y : Nat} (hj : j < N) (hy : y < N) (h : i * N + j = x * N + y) : i = x ∧ j = y := by
  have h1 : (i * N + j) % N = j := by rw [Nat.mul_comm, Nat.mul_add_mod, Nat.mod_eq_of_lt hj]
  have h2 : (x * N + y) % N = y := by rw [Nat.mul_comm, Nat.mul_add_mod, Nat.mod_eq_of_lt hy]
  have hjy : j = y := by rw [← h1, ← h2, h]
  subst hjy
  have h3 : i * N = x * N := by omega
  exact ⟨Nat.eq_of_mul_eq_mul_right (by omega) h3, rfl⟩
theorem pair_lt {N x y : Nat} (hx : x < N) (hy : y < N) : x * N + y < N * N := by
  have : x * N + N ≤ N * N := by
    have := Nat.mul_le_mul_right N (show x + 1 ≤ N from hx)
    rwa [Nat.succ_mul] at this
  omega
theorem KOK.mono {C K : List Nat} {N n m : Nat} (h : KOK C N n K) (hm : m ≤ n) : KOK C N m K := fun i j hi hj hl => h i j hi hj (by omega)
theorem KOK.step {C K K' : List Nat} {N n m : Nat} (h : KOK C N n K) (h' : KOK C N m K') (hs : KSame N m K K') : KOK C N n K' := fun i j hi hj hl => by
  by_cases hm : i + j < m
  · exact h' i j hi hj hm
  · rw [hs i j hi hj (by omega)]; exact h i j hi hj hl
theorem KSame.trans {N n m : Nat} {K K' K'' : List Nat} (h : KSame N n K K') (h' : KSame N m K' K'') (hm : m ≤ n) : KSame N n K K'' := fun i j hi hj hl => (h' i j hi hj (by omega)).trans (h i j hi hj hl)
theorem getD_set (K : List Nat) (a b v : Nat) : (K.set a v).getD b 0 = if a = b ∧ a < K.length then v else K.getD b 0 := by
  rw [List.getD_eq_getElem?_getD, List.getD_eq_getElem?_getD, List.getElem?_set]
  by_cases e : a = b
  · subst e
    by_cases h : a < K.length
    · simp [h]
    · simp [h]
  · simp [e]
def GeqIs (C : List Nat) (NL : List PL) (ob bb kb x y : Nat) : Prop := ∀ (K : List Nat) (w : World), OrdR w ob bb kb NL K → KOK C NL.length (x + y + 1) K →
    Calls Tryz.prog 162 #[.pointer (some ⟨ob, 0, none⟩), .int .i64 (x : Int), .int .i64 (y : Int)] w fun e w' => e = .returned (.bool (geV C x y)) ∧ ∃ K', OrdR w' ob bb kb NL K' ∧ KOK C NL.length (x + y + 1) K' ∧ KSame NL.length (x + y + 1) K K' ∧ Fr (fun q => q = kb) w w'
set_option maxHeartbeats 4000000 in
theorem look_any {C : List Nat} {NL : List PL} (B : BookC NL C) (ob bb kb x y : Nat) (hx : x < NL.length) (hy : y < NL.length) (hN : NL.length < 1000)
    (ih : ∀ a b, a + b < x + y → a < NL.length → b < NL.length → GeqIs C NL ob bb kb a b) (K : List Nat) (w : World) (hO : OrdR w ob bb kb NL K) (hK : KOK C NL.length (x + y) K) :
    Calls Tryz.prog 198 #[.pointer (some ⟨ob, 0, none⟩), .int .i64 (x : Int), .int .i64 (y : Int)] w fun e w' => e = .returned (.bool (geV C x y)) ∧ ∃ K', OrdR w' ob bb kb NL K' ∧ KOK C NL.length (x + y) K' ∧ KSame NL.length (x + y) K K' ∧ Fr (fun q => q = kb) w w' := by
  obtain ⟨res, hres⟩ : ∃ res, res = geV C x y := ⟨_, rfl⟩
  rw [← hres]
  have hge := geV_iff B hx hy
  rw [← hres] at hge
  obtain ⟨v, hv, hn⟩ := hO.nv
  obtain ⟨na, nc, rfl, hnc, hncm, hn⟩ := hn
  obtain ⟨b1, o1, l1, r1, hna, hb1, c1, c2, s1, s2, q1, q2⟩ := hn x _ (node_at hx)
  obtain ⟨b2, o2, l2, r2, hnb, hb2, d1, d2, t1, t2, p1, p2⟩ := hn y _ (node_at hy)
  obtain ⟨u1, u2⟩ := B.opts x _ (node_at hx)
  obtain ⟨v1, v2⟩ := B.opts y _ (node_at hy)
  have ixx := ixNode na NL.length nc x b1 o1 hx hna
  have ixy := ixNode na NL.length nc y b2 o2 hy hnb
  obtain ⟨R, hR⟩ : ∃ R, R = (nodeV NL x).2 := ⟨_, rfl⟩
  obtain ⟨L, hL⟩ : ∃ L, L = (nodeV NL y).1 := ⟨_, rfl⟩
  rw [← hR] at s2 q2 u2 hge
  rw [← hL] at t1 p1 v1 hge
  have o0 := hO.o0; have ob1 := hO.n1; have bb1 := hO.n2
  have HRd := Lib.hid (fun (W : World) (f : Fr (fun q => q = kb) w W) => show W.cell? ⟨ob, 0, none⟩ = some (.pointer (some ⟨bb, 0, none⟩)) ∧ W.cell? ⟨bb, 0, none⟩ = some (.slice na NL.length nc) ∧ W.cell? ⟨b1, o1 + x * 2 + 1, none⟩ = some r1 ∧ W.cell? ⟨b2, o2 + y * 2, none⟩ = some l2 ∧ Nats W r1 R ∧ Nats W l2 L from
    ⟨f.cell o0 ob1, f.cell hv bb1, f.cell c2 hb1, f.cell d1 hb2, s2.fr f q2, t1.fr f p1⟩)
  obtain ⟨ra, rc, rfl, z⟩ := id s2
  clear z
  obtain ⟨la, lc, rfl, z⟩ := id t1
  clear z
  have HGe := Lib.hid hge; have HO := Lib.hid hO; have HK := Lib.hid hK; have HIh := Lib.hid ih; have HU := Lib.hid u2; have HV := Lib.hid v1
  have hR9 : R.length ≤ 9223372036854775807 := by obtain ⟨a, c, _, h1, h2, _⟩ := s2; omega
  have hL9 : L.length ≤ 9223372036854775807 := by obtain ⟨a, c, _, h1, h2, _⟩ := t1; omega
  clear hge hO hK ih u1 u2 v1 v2 hres hv hn hna hnb hb1 hb2 c1 c2 d1 d2 s1 s2 t1 t2 q1 q2 p1 p2 hR hL o0
  go_enter Tryz.func198, Tryz.ntmps198
  go_wp2_with fail
  go_loopw [7] (fun t W => ∃ (k : Nat) (K' : List Nat), t = .int .i64 k ∧ k ≤ R.length ∧ (∀ r ∈ R.take k, geV C y r = false) ∧ OrdR W ob bb kb NL K' ∧ KOK C NL.length (x + y) K' ∧ KSame NL.length (x + y) K K' ∧ Fr (fun q => q = kb) w W) (fun t _ => R.length - (intOf t).toNat)
  case atStart => exact ⟨0, K, rfl, Nat.zero_le _, by simp, HO.out, HK.out, fun _ _ _ _ _ => rfl, Fr.refl _ _⟩
  case round =>
    obtain ⟨k, K1, rfl, hk, hall, hO1, hK1, hS1, hf1⟩ := hrel
    obtain ⟨w7, rfl⟩ : ∃ w7, w7 = wr := ⟨_, rfl⟩
    obtain ⟨e0, e1, e2, e3, e4, e5⟩ := HRd.out w7 hf1
    have HAll := Lib.hid hall; have HO1 := Lib.hid hO1; have HK1 := Lib.hid hK1; have HS1 := Lib.hid hS1; have HF1 := Lib.hid hf1
    clear hall hO1 hK1 hS1 hf1
    by_cases hkl : k < R.length
    · obtain ⟨r, hr⟩ : ∃ r, R[k]? = some r := ⟨_, List.getElem?_eq_getElem hkl⟩
      have hrx := HU.out r (List.mem_of_getElem? hr)
      obtain ⟨a', c', ee, _, _, hcc⟩ := e4
      cases ee
      obtain ⟨b3, o3, ha3, c3⟩ := hcc k r hr
      have c3' : w7.cell? ⟨b3, o3 + k, none⟩ = some (.int .i64 (r : Int)) := c3
      have ix3 := ixInts ra R.length rc k b3 o3 hkl ha3
      have hgq := HIh.out y r (by omega) hy (by omega) K1 w7 HO1.out (HK1.out.mono (by omega))
      have HGq := Lib.hid hgq; have HR' := Lib.hid hr
      clear hgq hr hcc ha3 c3 e5 e3
      go_wp2_with fail
      refine HGq.out.mono ?_
      rintro e w8 ⟨rfl, K2, hO2, hK2, hS2, hf2⟩
      have HO2 := Lib.hid hO2; have HK2 := Lib.hid (HK1.out.step hK2 hS2); have HS2 := Lib.hid (HS1.out.trans hS2 (by omega)); have HF2 := Lib.hid (HF1.out.trans hf2 (fun _ _ q => q))
      clear hO2 hK2 hS2 hf2
      obtain ⟨gb, hgb⟩ : ∃ gb, gb = geV C y r := ⟨_, rfl⟩
      rw [← hgb]
      have HGb := Lib.hid hgb
      clear hgb
      cases gb with
      | true =>
        have hn : res = false := by
          cases hc : res with
          | false => rfl
          | true => have := (HGe.out.1 hc).1 r (List.mem_of_getElem? HR'.out); rw [← HGb.out] at this; cases this
        have HN := Lib.hid hn; clear hn
        go_wp2_with fail
        go_ret
        exact ⟨by rw [HN.out]; rfl, K2, HO2.out, HK2.out, HS2.out, HF2.out⟩
      | false =>
        go_wp2_with fail
        go_roundw
        case rel => exact ⟨k + 1, K2, by go_num, by omega, fun r' hr' => by
          obtain ⟨hkl', ee⟩ := List.getElem?_eq_some_iff.1 HR'.out
          rw [List.take_succ_eq_append_getElem hkl', List.mem_append, List.mem_singleton] at hr'
          rcases hr' with hr' | hr'
          · exact HAll.out r' hr'
          · rw [hr', ee]; exact HGb.out.symm, HO2.out, HK2.out, HS2.out, HF2.out⟩
        case measure => simp [intOf]; omega
    · have hk' : k = R.length := by omega
      subst hk'
      have hallR : ∀ r ∈ R, geV C y r = false := by have := HAll.out; rwa [List.take_length] at this
      have HAllR := Lib.hid hallR
      clear hallR HAll e3 e4 e5
      go_wp2_with fail
      clear e0 e1 e2
      go_loopw [8] (fun t W => ∃ (k : Nat) (K' : List Nat), t = .int .i64 k ∧ k ≤ L.length ∧ (∀ l ∈ L.take k, geV C l x = false) ∧ OrdR W ob bb kb NL K' ∧ KOK C NL.length (x + y) K' ∧ KSame NL.length (x + y) K K' ∧ Fr (fun q => q = kb) w W) (fun t _ => L.length - (intOf t).toNat)
      case atStart => exact ⟨0, K1, rfl, Nat.zero_le _, by simp, HO1.out, HK1.out, HS1.out, HF1.out⟩
      case round =>
        clear HO1 HK1 HS1 HF1
        obtain ⟨k, K1, rfl, hk, hall, hO1, hK1, hS1, hf1⟩ := hrel
        obtain ⟨w7, rfl⟩ : ∃ w7, w7 = wr := ⟨_, rfl⟩
        obtain ⟨e0, e1, e2, e3, e4, e5⟩ := HRd.out w7 hf1
        have HAll := Lib.hid hall; have HO1 := Lib.hid hO1; have HK1 := Lib.hid hK1; have HS1 := Lib.hid hS1; have HF1 := Lib.hid hf1
        clear hall hO1 hK1 hS1 hf1
        by_cases hkl : k < L.length
        · obtain ⟨r, hr⟩ : ∃ r, L[k]? = some r := ⟨_, List.getElem?_eq_getElem hkl⟩
          have hrx := HV.out r (List.mem_of_getElem? hr)
          obtain ⟨a', c', ee, _, _, hcc⟩ := e5
          cases ee
          obtain ⟨b3, o3, ha3, c3⟩ := hcc k r hr
          have c3' : w7.cell? ⟨b3, o3 + k, none⟩ = some (.int .i64 (r : Int)) := c3
          have ix3 := ixInts la L.length lc k b3 o3 hkl ha3
          have hgq := HIh.out r x (by omega) (by omega) hx K1 w7 HO1.out (HK1.out.mono (by omega))
          have HGq := Lib.hid hgq; have HR' := Lib.hid hr
          clear hgq hr hcc ha3 c3 e4 e2
          go_wp2_with fail
          refine HGq.out.mono ?_
          rintro e w8 ⟨rfl, K2, hO2, hK2, hS2, hf2⟩
          have HO2 := Lib.hid hO2; have HK2 := Lib.hid (HK1.out.step hK2 hS2); have HS2 := Lib.hid (HS1.out.trans hS2 (by omega)); have HF2 := Lib.hid (HF1.out.trans hf2 (fun _ _ q => q))
          clear hO2 hK2 hS2 hf2
          obtain ⟨gb, hgb⟩ : ∃ gb, gb = geV C r x := ⟨_, rfl⟩
          rw [← hgb]
          have HGb := Lib.hid hgb
          clear hgb
          cases gb with
          | true =>
            have hn : res = false := by
              cases hc : res with
              | false => rfl
              | true => have := (HGe.out.1 hc).2 r (List.mem_of_getElem? HR'.out); rw [← HGb.out] at this; cases this
            have HN := Lib.hid hn; clear hn
            go_wp2_with fail
            go_ret
            exact ⟨by rw [HN.out]; rfl, K2, HO2.out, HK2.out, HS2.out, HF2.out⟩
          | false =>
            go_wp2_with fail
            go_roundw
            case rel => exact ⟨k + 1, K2, by go_num, by omega, fun r' hr' => by
              obtain ⟨hkl', ee⟩ := List.getElem?_eq_some_iff.1 HR'.out
              rw [List.take_succ_eq_append_getElem hkl', List.mem_append, List.mem_singleton] at hr'
              rcases hr' with hr' | hr'
              · exact HAll.out r' hr'
              · rw [hr', ee]; exact HGb.out.symm, HO2.out, HK2.out, HS2.out, HF2.out⟩
            case measure => simp [intOf]; omega
        · have hk' : k = L.length := by omega
          subst hk'
          have hn : res = true := HGe.out.2 ⟨HAllR.out, by have := HAll.out; rwa [List.take_length] at this⟩
          have HN := Lib.hid hn
          clear hn e4
          go_wp2_with fail
          go_ret
          exact ⟨by rw [HN.out]; rfl, K1, HO1.out, HK1.out, HS1.out, HF1.out⟩
theorem row_get {w : World} {g N : Nat} {K : List Nat} (h : RowIs 3 encN w g K) {p : Nat} (hp : p < K.length) : w.cell? ⟨g, p, none⟩ = some (.int .i64 ((K.getD p 0 : Nat) : Int)) ∧ w.frozen? ⟨g, p, none⟩ = false := by
  refine ⟨?_, h.frozen p⟩
  rw [h.cell p hp, List.getD_eq_getElem?_getD, List.getElem?_eq_getElem hp]; rfl
theorem KOK.put {C K : List Nat} {N x y n v : Nat} (hy : y < N) (h : KOK C N n K) (hv : n ≤ x + y ∨ (v = 1 ∧ geV C x y = true) ∨ (v = 2 ∧ geV C x y = false)) : KOK C N n (K.set (x * N + y) v) := fun i j hi hj hl => by
  rw [getD_set]
  split
  · rename_i e
    obtain ⟨rfl, rfl⟩ := pair_at hy hj e.1
    rcases hv with hv | hv | hv
    · omega
    · exact .inr (.inl hv)
    · exact .inr (.inr hv)
  · exact h i j hi hj hl
theorem KSame.put {K : List Nat} {N x y n v : Nat} (hy : y < N) (hv : x + y < n) : KSame N n K (K.set (x * N + y) v) := fun i j hi hj hl => by
  rw [getD_set, if_neg]
  rintro ⟨e, _⟩
  obtain ⟨rfl, rfl⟩ := pair_at hy hj e
  omega
set_option maxHeartbeats 4000000 in
theorem geq_all {C : List Nat} {NL : List PL} (B : BookC NL C) (ob bb kb : Nat) (hN : NL.length < 1000) : ∀ n x y, x + y < n → x < NL.length → y < NL.length → GeqIs C NL ob bb kb x y := by
  intro n
  induction n with
  | zero => intro x y h; omega
  | succ n ih =>
    intro x y hn hx hy K w hO hK
    have HLook := Lib.hid (fun K w h1 h2 => look_any B ob bb kb x y hx hy hN (fun a b hab ha hb => ih a b (by omega) ha hb) K w h1 h2)
    have hlt := pair_lt hx hy
    have hNN : NL.length * NL.length < 1000000 := by
      have h1 := Nat.mul_le_mul (show NL.length ≤ 999 by omega) (show NL.length ≤ 999 by omega)
      omega
    obtain ⟨v, hv, hnn⟩ := hO.nv
    obtain ⟨na, nc, rfl, hnc, hncm, z⟩ := id hnn
    clear z hnn
    obtain ⟨q, hq⟩ : ∃ q, q = x * NL.length := ⟨_, rfl⟩
    obtain ⟨N2, hN2⟩ : ∃ N2, N2 = NL.length * NL.length := ⟨_, rfl⟩
    obtain ⟨p, hp⟩ : ∃ p, p = q + y := ⟨_, rfl⟩
    have hpe : x * NL.length + y = p := by rw [hp, hq]
    have hm : (x : Int) * (NL.length : Int) = (q : Int) := by rw [hq]; exact (Int.natCast_mul _ _).symm
    have hpl : p < N2 := by omega
    have hqb : q < 1000000 := by omega
    have hO1 := hO.o1
    rw [← hN2] at hO1
    have hkl := hO.len
    rw [← hN2] at hkl
    have ix : ∀ W : World, (Instr.indexAt 26 (.slice (some ⟨kb, 0, none⟩) N2 N2) (.int .i64 ((q : Int) + (y : Int)))).run Tryz.prog W = .ok (.pointer (some ⟨kb, p, none⟩)) W := by
      intro W
      have h := ixInt0 kb N2 N2 p hpl W
      rw [show ((p : Nat) : Int) = (q : Int) + (y : Int) from by omega] at h
      exact h
    have hob := hO.n1; have hbb := hO.n2; have ho0 := hO.o0
    have HRd := Lib.hid (fun (W : World) (f : Fr (fun q => q = kb) w W) => show W.cell? ⟨ob, 0, none⟩ = some (.pointer (some ⟨bb, 0, none⟩)) ∧ W.cell? ⟨ob, 1, none⟩ = some (.slice (some ⟨kb, 0, none⟩) N2 N2) ∧ W.cell? ⟨bb, 0, none⟩ = some (.slice na NL.length nc) from
      ⟨f.cell ho0 hob, f.cell hO1 hob, f.cell hv hbb⟩)
    obtain ⟨res, hres⟩ : ∃ res, res = geV C x y := ⟨_, rfl⟩
    rw [← hres]
    obtain ⟨c0, z0⟩ := row_get (N := N2) hO.row (p := p) (by omega)
    obtain ⟨e0, e1, e2⟩ := HRd.out w (Fr.refl _ _)
    obtain ⟨c, hc⟩ : ∃ c, c = K.getD p 0 := ⟨_, rfl⟩
    rw [← hc] at c0
    have hkp := hK x y hx hy (by omega)
    rw [hpe, ← hc, ← hres] at hkp
    have HO := Lib.hid hO; have HK := Lib.hid hK; have HP := Lib.hid hpe; have HKl := Lib.hid hkl; have HRes := Lib.hid hres; have HC := Lib.hid hc; have HN2 := Lib.hid hN2; have HPl := Lib.hid hpl
    have hdr := Fr.setCell (Fr.refl (fun q => q = kb) w) ⟨kb, p, none⟩ (encN 2) (fun _ => rfl)
    have hro := hO.row.set p 2
    have HDr := Lib.hid hdr; have HRo := Lib.hid hro
    clear hO hK hpe hkl hres hc hN2 hpl hv hO1 ho0 hq hp hdr hro ih
    by_cases hc0 : c = 0
    · have hcb : ((c : Int) == 0) = true := by rw [hc0]; rfl
      have HC0 := Lib.hid hc0
      clear hkp hc0
      go_enter Tryz.func162, Tryz.ntmps162
      go_wp2_with fail
      have hO1 : OrdR (w.setCell ⟨kb, p, none⟩ (encN 2)) ob bb kb NL (K.set p 2) := HO.out.fr HDr.out HRo.out (by rw [List.length_set]; exact HO.out.len)
      have hK1 : KOK C NL.length (x + y) (K.set p 2) := by rw [← HP.out]; exact (HK.out.mono (by omega)).put hy (.inl (Nat.le_refl _))
      refine (HLook.out (K.set p 2) _ hO1 hK1).mono ?_
      rintro e w2 ⟨rfl, K2, hO2, hK2, hS2, hf2⟩
      rw [← HRes.out]
      have hf02 : Fr (fun q => q = kb) w w2 := HDr.out.trans hf2 (fun _ _ q => q)
      obtain ⟨d0, d1, d2⟩ := HRd.out w2 hf02
      have hl2 : K2.length = N2 := by rw [hO2.len, HN2.out]
      obtain ⟨c2, z2⟩ := row_get (N := N2) hO2.row (p := p) (by have := HPl.out; omega)
      have hk2 : K2.getD p 0 = 2 := by
        have h := hS2 x y hx hy (Nat.le_refl _)
        rw [HP.out, getD_set, if_pos ⟨rfl, by have := HPl.out; have := HKl.out; omega⟩] at h
        exact h
      rw [hk2] at c2
      have hS02 : KSame NL.length (x + y + 1) K K2 := by
        have h := KSame.put (K := K) (x := x) (n := x + y + 1) (v := 2) hy (Nat.lt_succ_self _)
        rw [HP.out] at h
        exact h.trans hS2 (by omega)
      have hK02 : KOK C NL.length (x + y) K2 := hK2
      have hKs : ∀ i j, i < NL.length → j < NL.length → i + j = x + y → ¬ (i = x ∧ j = y) → K2.getD (i * NL.length + j) 0 = 0 ∨ (K2.getD (i * NL.length + j) 0 = 1 ∧ geV C i j = true) ∨ (K2.getD (i * NL.length + j) 0 = 2 ∧ geV C i j = false) := fun i j hi hj he hne => by
        rw [hS2 i j hi hj (by omega), getD_set, if_neg (fun q => hne (pair_at hj hy (by rw [HP.out]; exact q.1.symm)))]
        exact HK.out i j hi hj (by omega)
      have hdr := Fr.setCell (Fr.refl (fun q => q = kb) w2) ⟨kb, p, none⟩ (encN 1) (fun _ => rfl)
      have hro := hO2.row.set p 1
      have HDr2 := Lib.hid hdr; have HRo2 := Lib.hid hro; have HO2 := Lib.hid hO2; have HK2 := Lib.hid hK02; have HS02 := Lib.hid hS02; have HKs := Lib.hid hKs; have HF02 := Lib.hid hf02; have HKv := Lib.hid hk2; have HL2 := Lib.hid hl2
      clear hO1 hK1 hdr hro hO2 hK02 hK2 hS02 hS2 hKs hf02 hf2 hk2 hl2 e0 e1 e2 c0 z0
      cases hrc : res with
      | true =>
        have HT := Lib.hid (show geV C x y = true from by rw [← HRes.out, hrc])
        have HRc := Lib.hid hrc
        clear hrc
        have k3 : (w2.setCell ⟨kb, p, none⟩ (.int .i64 1)).cell? ⟨kb, p, none⟩ = some (.int .i64 1) := by
          have h := (HRo2.out.at (i := p) (x := 1) (by rw [List.getElem?_set]; simp; have := HPl.out; have := HL2.out; omega))
          exact h
        go_wp2_with fail
        go_ret
        refine ⟨by rw [HRc.out]; rfl, K2.set p 1, HO2.out.fr HDr2.out HRo2.out (by rw [List.length_set]; exact HO2.out.len), fun i j hi hj hl => ?_, fun i j hi hj hl => ?_, HF02.out.trans HDr2.out (fun _ _ q => q)⟩
        · rw [getD_set]
          split
          · rename_i e
            obtain ⟨rfl, rfl⟩ := pair_at hy hj (by rw [HP.out]; exact e.1)
            exact .inr (.inl ⟨rfl, HT.out⟩)
          · rename_i e
            by_cases he : i + j < x + y
            · exact HK2.out i j hi hj he
            · refine HKs.out i j hi hj (by omega) (fun q => e ?_)
              rw [q.1, q.2, HP.out]
              exact ⟨rfl, by have := HPl.out; have := HL2.out; omega⟩
        · rw [getD_set, if_neg, HS02.out i j hi hj hl]
          rintro ⟨e, _⟩
          obtain ⟨rfl, rfl⟩ := pair_at hy hj (by rw [HP.out]; exact e)
          omega
      | false =>
        have HT := Lib.hid (show geV C x y = false from by rw [← HRes.out, hrc])
        have HRc := Lib.hid hrc
        clear hrc
        go_wp2_with fail
        go_ret
        refine ⟨by rw [HRc.out]; rfl, K2, HO2.out, fun i j hi hj hl => ?_, HS02.out, HF02.out⟩
        by_cases he : i + j < x + y
        · exact HK2.out i j hi hj he
        · by_cases hxy : i = x ∧ j = y
          · obtain ⟨rfl, rfl⟩ := hxy
            rw [HP.out, HKv.out]
            exact .inr (.inr ⟨rfl, HT.out⟩)
          · exact HKs.out i j hi hj (by omega) hxy
    · have hcb : ((c : Int) == 0) = false := by rw [beq_eq_false_iff_ne]; omega
      have hc1 : ((c : Int) == 1) = res := by
        rcases hkp with h | ⟨h1, h2⟩ | ⟨h1, h2⟩
        · omega
        · rw [h1, h2]; rfl
        · rw [h1, h2]; rfl
      clear hkp hc0
      go_enter Tryz.func162, Tryz.ntmps162
      go_wp2_with fail
      go_ret
      exact ⟨rfl, K, HO.out, HK.out, fun _ _ _ _ _ => rfl, Fr.refl _ _⟩
theorem geq_full {C : List Nat} {NL : List PL} (B : BookC NL C) (ob bb kb x y : Nat) (hN : NL.length < 1000) (hx : x < NL.length) (hy : y < NL.length) (K : List Nat) (w : World) (hO : OrdR w ob bb kb NL K) (hK : KOK C NL.length (2 * NL.length) K) :
    Calls Tryz.prog 162 #[.pointer (some ⟨ob, 0, none⟩), .int .i64 (x : Int), .int .i64 (y : Int)] w fun e w' => e = .returned (.bool (geV C x y)) ∧ ∃ K', OrdR w' ob bb kb NL K' ∧ KOK C NL.length (2 * NL.length) K' ∧ Fr (fun q => q = kb) w w' := by
  refine (geq_all B ob bb kb hN _ x y (Nat.lt_succ_self _) hx hy K w hO (hK.mono (by omega))).mono ?_
  rintro e w' ⟨rfl, K', h1, h2, h3, h4⟩
  exact ⟨rfl, K', h1, hK.step h2 h3, h4⟩
end Go.Proofs.YtiidnnpanickaaaGreatDoor
